/- Blocks in plain words: how one is sealed, which octets are one, as the program and the document tell it. -/
import Derived.Test.YtpdglhpohkkeiaaPOctet
import Derived.Test.YtpdglhpohkkeiaaFblockSeal
import Derived.Test.YtpdglhpohkkeiaaFblockOpen
import Derived.Test.YtpdglhpohkkeiaaFblockKind
import Derived.Test.YtpdglhpohkkeiaaFrickyardref07Open
set_option linter.unusedVariables false
set_option linter.unusedSimpArgs false
namespace Go.Proofs.Ytpdglhpohkkeiaa.Pure
open Go Go.Xw
theorem toB_inj {a b : Int} (ha : 0 ≤ a ∧ a ≤ 255) (hb : 0 ≤ b ∧ b ≤ 255) (h : toB a = toB b) : a = b := by
  unfold toB at h
  have := congrArg UInt8.toNat h
  simp only [UInt8.toNat_ofNat'] at this
  omega
theorem map_toB_inj : ∀ {a b : List Int}, Bytes a → Bytes b → a.map toB = b.map toB → a = b
  | [], [], _, _, _ => rfl
  | [], _ :: _, _, _, h => by simp at h
  | _ :: _, [], _, _, h => by simp at h
  | x :: a, y :: b, ha, hb, h => by
    simp only [List.map_cons, List.cons.injEq] at h
    rw [toB_inj (ha x (by simp)) (hb y (by simp)) h.1, map_toB_inj (fun z hz => ha z (by simp [hz])) (fun z hz => hb z (by simp [hz])) h.2]
theorem map_toB_iff {a b : List Int} (ha : Bytes a) (hb : Bytes b) : (a.map toB = b.map toB) ↔ a = b := ⟨map_toB_inj ha hb, fun h => by rw [h]⟩
theorem of_toB {l : List Int} (h : Bytes l) : (l.map toB).map ofB = l := by
  rw [List.map_map]
  conv => rhs; rw [← List.map_id l]
  apply List.map_congr_left
  intro x hx
  have := h x hx
  simp only [Function.comp, ofB, toB, UInt8.toNat_ofNat', id]
  omega
theorem Bytes.app {a b : List Int} (ha : Bytes a) (hb : Bytes b) : Bytes (a ++ b) := by
  intro x hx
  rcases List.mem_append.1 hx with h | h
  · exact ha x h
  · exact hb x h
theorem Bytes.rep (n : Nat) : Bytes (List.replicate n (0 : Int)) := by
  intro x hx
  obtain rfl := List.eq_of_mem_replicate hx
  omega
theorem Bytes.drop {l : List Int} (h : Bytes l) (n : Nat) : Bytes (l.drop n) := fun x hx => h x (List.mem_of_mem_drop hx)
theorem Bytes.take {l : List Int} (h : Bytes l) (n : Nat) : Bytes (l.take n) := fun x hx => h x (List.mem_of_mem_take hx)
/-- What is summed: kind, tag, a gap, the body with noughts behind it. -/
def summed (k t : Int) (body : List Int) : List Int := [k, t, 0, 0] ++ (body ++ List.replicate (56 - body.length) 0)
def sealed (s : List Int) : List Int := lay (crc s).toNat 4 ++ s
theorem summed_len {k t : Int} {body : List Int} (h : body.length ≤ 56) : (summed k t body).length = 60 := by
  simp [summed]
  omega
theorem summed_bytes {k t : Int} {body : List Int} (hk : 0 ≤ k ∧ k ≤ 255) (ht : 0 ≤ t ∧ t ≤ 255) (hb : Bytes body) : Bytes (summed k t body) := by
  refine Bytes.app ?_ (Bytes.app hb (Bytes.rep _))
  intro x hx
  simp only [List.mem_cons, List.not_mem_nil, or_false] at hx
  rcases hx with rfl | rfl | rfl | rfl <;> omega
theorem sealed_len {s : List Int} (h : s.length = 60) : (sealed s).length = 64 := by
  simp [sealed, lay_len, h]
theorem sealed_bytes {s : List Int} (h : Bytes s) : Bytes (sealed s) := Bytes.app (lay_bytes _ _) h
theorem x2_eq (k t : Int) : List.set (List.set (List.replicate (Int.toNat 64) (0 : Int)) (Int.toNat 4) k) (Int.toNat 5) t = [0, 0, 0, 0, k, t, 0, 0] ++ List.replicate 56 (0 : Int) := rfl
theorem x3_eq {k t : Int} {body : List Int} (h : body.length ≤ 56) : splL ([0, 0, 0, 0, k, t, 0, 0] ++ List.replicate 56 (0 : Int)) (Int.toNat 8) (List.take (List.length ([0, 0, 0, 0, k, t, 0, 0] ++ List.replicate 56 (0 : Int)) - Int.toNat 8) body) = [0, 0, 0, 0] ++ summed k t body := by
  have e : List.take (List.length ([0, 0, 0, 0, k, t, 0, 0] ++ List.replicate 56 (0 : Int)) - Int.toNat 8) body = body := List.take_of_length_le (by simpa using h)
  rw [e]
  have e2 : List.drop (8 + body.length) ([0, 0, 0, 0, k, t, 0, 0] ++ List.replicate 56 (0 : Int)) = List.replicate (56 - body.length) 0 := by
    have h8 : ([0, 0, 0, 0, k, t, 0, 0] : List Int).length = 8 := rfl
    rw [List.drop_append, List.drop_eq_nil_of_le (by rw [h8]; omega), List.nil_append, h8, List.drop_replicate]
    congr 1
    omega
  unfold splL summed
  rw [show (Int.toNat 8) = 8 from rfl, e2]
  simp
theorem lay4_eq {fu : Nat} (x : BitVec 32) (hf : 8 < fu) : octet_Lay.f fu (IntKind.u64.wrap (I32 x)) 4 = some (lay x.toNat 4) := by
  have hb := I32_lt x
  rw [wu64 hb.1 (by omega)]
  exact olay_eq (n := 4) (by decide) (by omega)
theorem rlay4_eq {fu : Nat} (x : BitVec 32) (hf : 8 < fu) : rickyardref01_Lay.f fu (IntKind.u64.wrap (I32 x)) 4 = some ((lay x.toNat 4).map toB) := by
  have hb := I32_lt x
  rw [wu64 hb.1 (by omega)]
  exact rlay_eq (n := 4) (by have := x.isLt; omega) (by decide) (by omega)
theorem seal_eq {fu : Nat} {k t : Int} {body : List Int} (hb : Bytes body) (hk : 1 ≤ k ∧ k ≤ 255) (ht : 0 ≤ t ∧ t ≤ 255) (hl : body.length ≤ 56) (hf : 100 < fu) : block_Seal.f fu k t body = some (sealed (summed k t body), true) := by
  have hs := summed_len (k := k) (t := t) hl
  have hsb := summed_bytes ⟨by omega, hk.2⟩ ht hb
  unfold block_Seal.f
  rw [wu8 (by omega : 0 ≤ k) hk.2, wu8 ht.1 ht.2]
  have c0 : (if (decide (k < 1)) = true then true else (if (decide (k ≥ 256)) = true then true else (if (decide (t < 0)) = true then true else (if (decide (t ≥ 256)) = true then true else (decide ((List.length body : Int) > 56)))))) = false := by
    have h1 : ¬ k < 1 := by omega
    have h2 : ¬ k ≥ 256 := by omega
    have h3 : ¬ t < 0 := by omega
    have h4 : ¬ t ≥ 256 := by omega
    have h5 : ¬ (List.length body : Int) > 56 := by omega
    simp [h1, h2, h3, h4, h5]
  rw [c0]
  simp only [x2_eq, x3_eq hl]
  have e1 : cut ([0, 0, 0, 0] ++ summed k t body) 4 (List.length ([0, 0, 0, 0] ++ summed k t body) : Int) = summed k t body := by
    unfold cut
    rw [Int.toNat_natCast, List.take_length]
    rfl
  have e2 : ∀ v, splL ([0, 0, 0, 0] ++ summed k t body) 0 (List.take (List.length ([0, 0, 0, 0] ++ summed k t body)) (lay v 4)) = lay v 4 ++ summed k t body := by
    intro v
    rw [List.take_of_length_le (by simp [lay_len])]
    unfold splL
    simp [lay_len]
  simp only [e1, e2, sum_eq (fu := fu) hsb (by omega) (by omega), Option.bind_some, lay4_eq (fu := fu) _ (by omega)]
  simp [hs, sealed]
theorem seal_no {fu : Nat} {k t : Int} {body : List Int} (h : k < 1 ∨ k > 255 ∨ t < 0 ∨ t > 255 ∨ body.length > 56) : block_Seal.f fu k t body = some ([], false) := by
  unfold block_Seal.f
  have c0 : (if (decide (k < 1)) = true then true else (if (decide (k ≥ 256)) = true then true else (if (decide (t < 0)) = true then true else (if (decide (t ≥ 256)) = true then true else (decide ((List.length body : Int) > 56)))))) = true := by
    by_cases h1 : k < 1
    · simp [h1]
    · by_cases h2 : k ≥ 256
      · simp [h2]
      · by_cases h3 : t < 0
        · simp [h3]
        · by_cases h4 : t ≥ 256
          · simp [h4]
          · have h5 : (List.length body : Int) > 56 := by omega
            simp [h5]
  rw [c0]
  rfl
theorem fill_eq {fu : Nat} {body : List Int} (hl : body.length ≤ 56) : rickyardref07_Fill.f fu (body.map toB) 56 = some ((body ++ List.replicate (56 - body.length) 0).map toB) := by
  unfold rickyardref07_Fill.f
  have e1 : mxI (IntKind.i64.wrap (56 - (List.length (body.map toB) : Int))) 0 = ((56 - body.length : Nat) : Int) := by
    rw [List.length_map, w64 (by omega) (by omega)]
    unfold mxI
    split <;> omega
  have hL : (100 : Nat) ≤ LIM := by decide
  rw [e1, Int.toNat_natCast, if_pos ⟨by omega, by omega⟩, if_pos (by simp only [List.length_map, List.length_replicate]; omega), List.map_append]
theorem rseal_eq {fu : Nat} {k t : Int} {body : List Int} (hb : Bytes body) (hk : 0 ≤ k ∧ k ≤ 255) (ht : 0 ≤ t ∧ t ≤ 255) (hl : body.length ≤ 56) (hf : 100 < fu) : rickyardref07_Seal.f fu k t (body.map toB) = some ((sealed (summed k t body)).map toB) := by
  have hs := summed_len (k := k) (t := t) hl
  have hsb := summed_bytes hk ht hb
  unfold rickyardref07_Seal.f
  rw [wu8 hk.1 hk.2, wu8 ht.1 ht.2]
  have e1 : List.map toB [k, t, 0, 0] ++ List.map toB (body ++ List.replicate (56 - body.length) 0) = (summed k t body).map toB := by
    rw [← List.map_append]
    rfl
  have hL : (100 : Nat) ≤ LIM := by decide
  have e2 : List.length (List.map toB [k, t, 0, 0]) + List.length (List.map toB (body ++ List.replicate (56 - body.length) 0)) ≤ LIM := by
    simp
    omega
  simp only [fill_eq (fu := fu) hl, Option.bind_some, e1, of_toB hsb, rsum_eq (fu := fu) hsb (by omega) (by omega), rlay4_eq (fu := fu) _ (by omega : 8 < fu)]
  rw [if_pos e2, if_pos (by simp [lay_len, hs]; omega)]
  simp [sealed]
theorem there_eq {fu : Nat} {b : List Int} {i n : Nat} (hl : b.length ≤ 9000000000000000000) (h : i + n ≤ b.length) : octet_there.f fu b (i : Int) (n : Int) = some true := by
  unfold octet_there.f
  have h1 : (i : Int) ≥ 0 := by omega
  have h2 : (n : Int) ≥ 0 := by omega
  have h3 : (n : Int) ≤ (b.length : Int) := by omega
  have h4 : IntKind.i64.wrap ((b.length : Int) - (n : Int)) = (b.length : Int) - (n : Int) := w64 (by omega) (by omega)
  have h5 : (i : Int) ≤ (b.length : Int) - (n : Int) := by omega
  simp [h1, h2, h3, h4, h5]
theorem noughts_from {fu : Nat} (b : List Int) (x n : Int) {C : List Int} (hC : cut b x (IntKind.i64.wrap (x + n)) = C) (hl : C.length ≤ 9000000000000000000) : ∀ k m, m ≤ C.length → C.length - m < k → loopM (octet_Noughts.s0 fu b x n) k (m : Int) = some (if ∀ y ∈ C.drop m, y = 0 then .inr () else .inl false)
  | 0, m, _, hk => by omega
  | k + 1, m, hm, hk => by
    unfold loopM
    by_cases e : m = C.length
    · subst e
      have : octet_Noughts.s0 fu b x n (C.length : Int) = some (.inl (.inr ())) := by
        unfold octet_Noughts.s0
        rw [hC]
        simp
      rw [this]
      simp
    · have hlt : m < C.length := by omega
      have hx : ix C (m : Int) = C[m] := ix_nat hlt
      rw [List.drop_eq_getElem_cons hlt]
      have h1 : (m : Int) < (C.length : Int) := by omega
      by_cases hn : C[m] = 0
      · have w3 : IntKind.i64.wrap ((m : Int) + 1) = ((m + 1 : Nat) : Int) := by rw [w64 (by omega) (by omega)]; omega
        have : octet_Noughts.s0 fu b x n (m : Int) = some (.inr ((m + 1 : Nat) : Int)) := by
          unfold octet_Noughts.s0
          rw [hC]
          simp [h1, hx, hn, w3, hlt]
        rw [this]
        simp only
        rw [noughts_from b x n hC hl k (m + 1) (by omega) (by omega)]
        have e3 : (∀ y ∈ C[m] :: C.drop (m + 1), y = 0) ↔ ∀ y ∈ C.drop (m + 1), y = 0 := by
          constructor
          · intro h y hy
            exact h y (List.mem_cons_of_mem _ hy)
          · intro h y hy
            rcases List.mem_cons.1 hy with rfl | hy
            · exact hn
            · exact h y hy
        simp only [e3]
      · have : octet_Noughts.s0 fu b x n (m : Int) = some (.inl (.inl false)) := by
          unfold octet_Noughts.s0
          rw [hC]
          simp [h1, hx, hn, hlt]
        rw [this]
        have e3 : ¬ (∀ y ∈ C[m] :: C.drop (m + 1), y = 0) := fun h => hn (h _ (List.mem_cons_self ..))
        simp only [e3, if_false]
theorem noughts_eq {fu : Nat} {b : List Int} {i n : Nat} (hl : b.length ≤ 9000000000000000000) (h : i + n ≤ b.length) (hf : n < fu) : octet_Noughts.f fu b (i : Int) (n : Int) = some (decide (∀ y ∈ (b.drop i).take n, y = 0)) := by
  unfold octet_Noughts.f
  rw [there_eq hl h]
  have w1 : IntKind.i64.wrap ((i : Int) + (n : Int)) = ((i + n : Nat) : Int) := by rw [w64 (by omega) (by omega)]; omega
  have hC : cut b (i : Int) (IntKind.i64.wrap ((i : Int) + (n : Int))) = (b.drop i).take n := by
    rw [w1]
    unfold cut
    rw [Int.toNat_natCast, Int.toNat_natCast, List.drop_take]
    congr 1
    omega
  have hlen : ((b.drop i).take n).length = n := by
    rw [List.length_take, List.length_drop]
    omega
  have := noughts_from (fu := fu) b (i : Int) (n : Int) hC (by omega) fu 0 (by omega) (by omega)
  rw [Int.natCast_zero, List.drop_zero] at this
  have c1 : 0 ≤ (i : Int) ∧ (i : Int) ≤ IntKind.i64.wrap ((i : Int) + (n : Int)) ∧ IntKind.i64.wrap ((i : Int) + (n : Int)) ≤ (b.length : Int) := by
    rw [w1]
    omega
  simp only [Option.bind_some, Bool.not_true, Bool.false_eq_true, if_false]
  rw [if_pos c1, this]
  by_cases hz : ∀ y ∈ (b.drop i).take n, y = 0
  · rw [if_pos hz]
    simp only [Option.bind_some, decide_eq_true hz]
  · rw [if_neg hz]
    simp only [Option.bind_some, decide_eq_false hz]
/-- Octets that are a block. -/
def Is (b : List Int) : Prop := b.length = 64 ∧ ix b 4 ≠ 0 ∧ b = sealed (summed (ix b 4) (ix b 5) (b.drop 8))
instance (b : List Int) : Decidable (Is b) := inferInstanceAs (Decidable (_ ∧ _))
theorem parts {b : List Int} (h : b.length = 64) : b = b.take 4 ++ ([ix b 4, ix b 5, ix b 6, ix b 7] ++ b.drop 8) := by
  have e : b.drop 4 = [ix b 4, ix b 5, ix b 6, ix b 7] ++ b.drop 8 := by
    have g : ∀ j : Nat, j < 64 → b.drop j = ix b (j : Int) :: b.drop (j + 1) := by
      intro j hj
      rw [List.drop_eq_getElem_cons (by omega), ix_nat (by omega)]
    rw [g 4 (by omega), g 5 (by omega), g 6 (by omega), g 7 (by omega)]
    rfl
  rw [← e, List.take_append_drop]
theorem gap_eq {b : List Int} (h : b.length = 64) : (b.drop 6).take 2 = [ix b 6, ix b 7] := by
  have g : ∀ j : Nat, j < 64 → b.drop j = ix b (j : Int) :: b.drop (j + 1) := by
    intro j hj
    rw [List.drop_eq_getElem_cons (by omega), ix_nat (by omega)]
  rw [g 6 (by omega), g 7 (by omega)]
  rfl
theorem drop4 {b : List Int} (h : b.length = 64) : b.drop 4 = [ix b 4, ix b 5, ix b 6, ix b 7] ++ b.drop 8 := by
  have g : ∀ j : Nat, j < 64 → b.drop j = ix b (j : Int) :: b.drop (j + 1) := by
    intro j hj
    rw [List.drop_eq_getElem_cons (by omega), ix_nat (by omega)]
  rw [g 4 (by omega), g 5 (by omega), g 6 (by omega), g 7 (by omega)]
  rfl
theorem summed_full (k t : Int) {body : List Int} (h : body.length = 56) : summed k t body = [k, t, 0, 0] ++ body := by
  unfold summed
  rw [h]
  simp
theorem is_iff {b : List Int} (hb : Bytes b) (h : b.length = 64) : b = sealed (summed (ix b 4) (ix b 5) (b.drop 8)) ↔ (ix b 6 = 0 ∧ ix b 7 = 0) ∧ num (b.take 4) = (crc (b.drop 4)).toNat := by
  have h8 : (b.drop 8).length = 56 := by rw [List.length_drop, h]
  have h4 : (b.take 4).length = 4 := by rw [List.length_take, h]; rfl
  rw [summed_full _ _ h8]
  constructor
  · intro e
    have e2 : b.take 4 ++ b.drop 4 = lay (crc ([ix b 4, ix b 5, 0, 0] ++ b.drop 8)).toNat 4 ++ ([ix b 4, ix b 5, 0, 0] ++ b.drop 8) := by
      rw [List.take_append_drop]
      exact e
    obtain ⟨e3, e4⟩ := List.append_inj e2 (by rw [h4, lay_len])
    have e5 := e4
    rw [drop4 h] at e5
    have e6 := List.append_inj_left e5 rfl
    simp only [List.cons.injEq, and_true, true_and] at e6
    refine ⟨e6, ?_⟩
    rw [e3, e4, num_lay]
    exact Nat.mod_eq_of_lt (crc _).isLt
  · rintro ⟨⟨h6, h7⟩, hn⟩
    have e4 : b.drop 4 = [ix b 4, ix b 5, 0, 0] ++ b.drop 8 := by
      have := drop4 h
      rw [h6, h7] at this
      exact this
    unfold sealed
    rw [← e4, ← hn]
    have := lay_num (hb.take 4)
    rw [h4] at this
    rw [this, List.take_append_drop]
theorem right_is {fu : Nat} {b : List Int} (hb : Bytes b) (hl : b.length ≤ 9000000000000000000) (hf : 100 < fu) : block_right.f fu b = some (decide (Is b)) := by
  unfold block_right.f
  by_cases h : b.length = 64
  · have hL : (b.length : Int) = 64 := by omega
    by_cases h4 : ix b 4 = 0
    · simp [hL, h4, Is]
    · have hn : octet_Noughts.f fu b 6 2 = some (decide (∀ y ∈ (b.drop 6).take 2, y = 0)) := noughts_eq (i := 6) (n := 2) hl (by omega) (by omega)
      have hg : (∀ y ∈ (b.drop 6).take 2, y = 0) ↔ ix b 6 = 0 ∧ ix b 7 = 0 := by
        rw [gap_eq h]
        simp
      by_cases hz : ix b 6 = 0 ∧ ix b 7 = 0
      · have c1 : cut b 0 4 = b.take 4 := by
          unfold cut
          rfl
        have c2 : cut b 4 (b.length : Int) = b.drop 4 := by
          unfold cut
          rw [Int.toNat_natCast, List.take_length]
          rfl
        have h4' : (b.take 4).length = 4 := by rw [List.length_take, h]; rfl
        have hr : octet_Read.f fu (b.take 4) = some ((num (b.take 4) : Nat) : Int) := read_eq (hb.take 4) (by omega) (by omega)
        have hlt : num (b.take 4) < 4294967296 := by
          have := num_lt (hb.take 4)
          rwa [h4'] at this
        have hd : (b.drop 4).length = 60 := by rw [List.length_drop, h]
        have hs : crc_Sum.f fu [b.drop 4] = some (I32 (crc (b.drop 4))) := sum_eq (hb.drop 4) (by omega) (by omega)
        have hw : IntKind.u32.wrap ((num (b.take 4) : Nat) : Int) = ((num (b.take 4) : Nat) : Int) := wu32 (by omega) (by omega)
        have hi : Is b ↔ num (b.take 4) = (crc (b.drop 4)).toNat := by
          unfold Is
          rw [is_iff hb h]
          exact ⟨fun x => x.2.2.2, fun x => ⟨h, h4, hz, x⟩⟩
        have hq : (I32 (crc (b.drop 4)) = ((num (b.take 4) : Nat) : Int)) ↔ Is b := by
          rw [hi]
          unfold I32
          omega
        unfold crc_Fits.f
        rw [hn, decide_eq_true (hg.2 hz), c1, c2, hr]
        simp only [Option.bind_some, hw, hs, hq]
        have hL5 : (4 : Int) < (b.length : Int) := by omega
        have hL6 : (4 : Int) ≤ (b.length : Int) := by omega
        simp [hL, h4]
      · have hi : ¬ Is b := by
          intro x
          unfold Is at x
          rw [is_iff hb h] at x
          exact hz x.2.2.1
        rw [hn, decide_eq_false (fun x => hz (hg.1 x))]
        simp [hL, h4, hi]
  · have hi : ¬ Is b := fun x => h x.1
    have hL : ¬ (b.length : Int) = 64 := by omega
    simp [hL, hi]
theorem open_eq {fu : Nat} {b : List Int} (hb : Bytes b) (hl : b.length ≤ 9000000000000000000) (hf : 100 < fu) : block_Open.f fu b = some (if Is b then (ix b 4, ix b 5, b.drop 8, true) else (0, 0, [], false)) := by
  unfold block_Open.f
  rw [right_is hb hl hf]
  by_cases h : Is b
  · have h0 := h.1
    have c2 : cut b 8 (b.length : Int) = b.drop 8 := by
      unfold cut
      rw [Int.toNat_natCast, List.take_length]
      rfl
    have hc : bytes_Clone.f fu (b.drop 8) = some (b.drop 8) := by
      unfold bytes_Clone.f
      rw [if_pos]
      rw [List.length_drop, h0]
      decide
    have h4 : 0 ≤ ix b 4 ∧ ix b 4 ≤ 255 := by
      have := ix_nat (l := b) (j := 4) (by omega)
      rw [show ((4 : Nat) : Int) = 4 from rfl] at this
      rw [this]
      exact hb _ (List.getElem_mem _)
    have h5 : 0 ≤ ix b 5 ∧ ix b 5 ≤ 255 := by
      have := ix_nat (l := b) (j := 5) (by omega)
      rw [show ((5 : Nat) : Int) = 5 from rfl] at this
      rw [this]
      exact hb _ (List.getElem_mem _)
    have w4 : IntKind.i64.wrap (ix b 4) = ix b 4 := w64 (by omega) (by omega)
    have w5 : IntKind.i64.wrap (ix b 5) = ix b 5 := w64 (by omega) (by omega)
    simp only [c2, hc, w4, w5]
    simp [h, h0]
  · simp [h]
theorem kind_eq {fu : Nat} {b : List Int} (hb : Bytes b) (hl : b.length ≤ 9000000000000000000) (hf : 100 < fu) : block_Kind.f fu b = some (if Is b then ix b 4 else 0) := by
  unfold block_Kind.f
  rw [right_is hb hl hf]
  by_cases h : Is b
  · have h0 := h.1
    have h4 : 0 ≤ ix b 4 ∧ ix b 4 ≤ 255 := by
      have := ix_nat (l := b) (j := 4) (by omega)
      rw [show ((4 : Nat) : Int) = 4 from rfl] at this
      rw [this]
      exact hb _ (List.getElem_mem _)
    have w4 : IntKind.i64.wrap (ix b 4) = ix b 4 := w64 (by omega) (by omega)
    simp [h, h0, w4]
  · simp [h]
theorem sealed_parts (k t : Int) (body : List Int) : ix (sealed (summed k t body)) 4 = k ∧ ix (sealed (summed k t body)) 5 = t ∧ (sealed (summed k t body)).drop 8 = body ++ List.replicate (56 - body.length) 0 := by
  unfold sealed
  obtain ⟨a, b, c, d, e⟩ : ∃ a b c d, lay (crc (summed k t body)).toNat 4 = [a, b, c, d] := ⟨_, _, _, _, rfl⟩
  rw [e]
  exact ⟨rfl, rfl, rfl⟩
theorem fulled (body : List Int) (h : body.length ≤ 56) : (body ++ List.replicate (56 - body.length) (0 : Int)).length = 56 := by
  simp
  omega
theorem is_sealed {k t : Int} {body : List Int} (hk : k ≠ 0) (hl : body.length ≤ 56) : Is (sealed (summed k t body)) := by
  obtain ⟨h4, h5, h8⟩ := sealed_parts k t body
  refine ⟨sealed_len (summed_len hl), by rw [h4]; exact hk, ?_⟩
  rw [h4, h5, h8, summed_full k t (fulled body hl)]
  rfl
theorem ix_byte {b : List Int} (hb : Bytes b) (j : Nat) (h : j < b.length) : 0 ≤ ix b (j : Int) ∧ ix b (j : Int) ≤ 255 := by
  rw [ix_nat h]
  exact hb _ (List.getElem_mem _)
theorem ropen_eq {fu : Nat} {b : List Int} (hb : Bytes b) (hf : 100 < fu) : rickyardref07_Open.f fu b = some (if Is b then (ix b 4, ix b 5, (b.drop 8).map toB, true) else (0, 0, [], false)) := by
  unfold rickyardref07_Open.f
  by_cases h : b.length = 64
  · have hL : (b.length : Int) = 64 := by omega
    have b4 := ix_byte hb 4 (by omega)
    have b5 := ix_byte hb 5 (by omega)
    rw [show ((4 : Nat) : Int) = 4 from rfl] at b4
    rw [show ((5 : Nat) : Int) = 5 from rfl] at b5
    have w4 : IntKind.i64.wrap (ix b 4) = ix b 4 := w64 (by omega) (by omega)
    have w5 : IntKind.i64.wrap (ix b 5) = ix b 5 := w64 (by omega) (by omega)
    have c2 : cut b 8 (b.length : Int) = b.drop 8 := by
      unfold cut
      rw [Int.toNat_natCast, List.take_length]
      rfl
    have h8 : (b.drop 8).length = 56 := by rw [List.length_drop, h]
    have hs : rickyardref07_Seal.f fu (ix b 4) (ix b 5) ((b.drop 8).map toB) = some ((sealed (summed (ix b 4) (ix b 5) (b.drop 8))).map toB) := rseal_eq (hb.drop 8) b4 b5 (by omega) hf
    have hq : (sealed (summed (ix b 4) (ix b 5) (b.drop 8))).map toB = b.map toB ↔ b = sealed (summed (ix b 4) (ix b 5) (b.drop 8)) :=
      (map_toB_iff (sealed_bytes (summed_bytes b4 b5 (hb.drop 8))) hb).trans ⟨Eq.symm, Eq.symm⟩
    rw [c2, w4, w5]
    by_cases h4 : ix b 4 = 0
    · have hi : ¬ Is b := fun x => x.2.1 h4
      simp [hL, h4, hi]
    · by_cases he : b = sealed (summed (ix b 4) (ix b 5) (b.drop 8))
      · have hi : Is b := ⟨h, h4, he⟩
        simp only [hs, hq.2 he]
        simp [hL, h4, hi]
      · have hi : ¬ Is b := fun x => he x.2.2
        have hne : ¬ (sealed (summed (ix b 4) (ix b 5) (b.drop 8))).map toB = b.map toB := fun x => he (hq.1 x)
        simp only [hs, hne]
        simp [hL, h4, hi]
        exact hne
  · have hi : ¬ Is b := fun x => h x.1
    have hL : ¬ (b.length : Int) = 64 := by omega
    simp [hL, hi]
theorem bytes_of {l : List Int} (h : ∀ x ∈ l, (Lit.int .u8 x).wf = true) : Bytes l := fun x hx => wf8.1 (h x hx)
end Go.Proofs.Ytpdglhpohkkeiaa.Pure
