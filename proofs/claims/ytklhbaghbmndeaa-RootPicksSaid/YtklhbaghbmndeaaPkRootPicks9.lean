/- RootPicks: texts merged, part 9 of 9. The last part proves that the law RootPicks holds for every input. -/
import Derived.Test.YtklhbaghbmndeaaPkRootPicks8
set_option linter.unusedVariables false
set_option linter.unusedSimpArgs false
namespace Go.Proofs.Ytklhbaghbmndeaa.Pure
open Go Go.Xw
theorem toB_inj {a b : Int} (ha : 0 ≤ a ∧ a ≤ 255) (hb : 0 ≤ b ∧ b ≤ 255) (h : toB a = toB b) : a = b := by
  unfold toB at h
  have := congrArg UInt8.toNat h
  simp only [UInt8.toNat_ofNat'] at this
  omega
theorem map_toB_inj : ∀ {a b : List Int}, Bytes a → Bytes b → a.map toB = b.map toB → a = b
  | [], [], _, _, _ => rfl
  | [], _ :: _, _, _, h => by simp at h
  | _ :: _, [], _, _, h => by simp at h
  | x :: a, y :: b, ha, hb, h => by
    simp only [List.map_cons, List.cons.injEq] at h
    rw [toB_inj (ha x (by simp)) (hb y (by simp)) h.1, map_toB_inj (fun z hz => ha z (by simp [hz])) (fun z hz => hb z (by simp [hz])) h.2]
theorem map_toB_iff {a b : List Int} (ha : Bytes a) (hb : Bytes b) : (a.map toB = b.map toB) ↔ a = b := ⟨map_toB_inj ha hb, fun h => by rw [h]⟩
theorem Bytes.app {a b : List Int} (ha : Bytes a) (hb : Bytes b) : Bytes (a ++ b) := by
  intro x hx
  rcases List.mem_append.1 hx with h | h
  · exact ha x h
  · exact hb x h
theorem Bytes.rep (n : Nat) : Bytes (List.replicate n (0 : Int)) := by
  intro x hx
  obtain rfl := List.eq_of_mem_replicate hx
  omega
/-- What is summed: kind, tag, a gap, the body with noughts behind it. -/
def summed (k t : Int) (body : List Int) : List Int := [k, t, 0, 0] ++ (body ++ List.replicate (56 - body.length) 0)
def sealed (s : List Int) : List Int := lay (crc s).toNat 4 ++ s
theorem summed_len {k t : Int} {body : List Int} (h : body.length ≤ 56) : (summed k t body).length = 60 := by
  simp [summed]
  omega
theorem summed_bytes {k t : Int} {body : List Int} (hk : 0 ≤ k ∧ k ≤ 255) (ht : 0 ≤ t ∧ t ≤ 255) (hb : Bytes body) : Bytes (summed k t body) := by
  refine Bytes.app ?_ (Bytes.app hb (Bytes.rep _))
  intro x hx
  simp only [List.mem_cons, List.not_mem_nil, or_false] at hx
  rcases hx with rfl | rfl | rfl | rfl <;> omega
theorem sealed_bytes {s : List Int} (h : Bytes s) : Bytes (sealed s) := Bytes.app (lay_bytes _ _) h
theorem rlay4_eq {fu : Nat} (x : BitVec 32) (hf : 8 < fu) : rickyardref01_Lay.f fu (IntKind.u64.wrap (I32 x)) 4 = some ((lay x.toNat 4).map toB) := by
  have hb := I32_lt x
  rw [wu64 hb.1 (by omega)]
  exact rlay_eq (n := 4) (by have := x.isLt; omega) (by decide) (by omega)
theorem fill_eq {fu : Nat} {body : List Int} (hl : body.length ≤ 56) : rickyardref07_Fill.f fu (body.map toB) 56 = some ((body ++ List.replicate (56 - body.length) 0).map toB) := by
  unfold rickyardref07_Fill.f
  have e1 : mxI (IntKind.i64.wrap (56 - (List.length (body.map toB) : Int))) 0 = ((56 - body.length : Nat) : Int) := by
    rw [List.length_map, w64 (by omega) (by omega)]
    unfold mxI
    split <;> omega
  have hL : (100 : Nat) ≤ LIM := by decide
  rw [e1, Int.toNat_natCast, if_pos ⟨by omega, by omega⟩, if_pos (by simp only [List.length_map, List.length_replicate]; omega), List.map_append]
theorem rseal_eq {fu : Nat} {k t : Int} {body : List Int} (hb : Bytes body) (hk : 0 ≤ k ∧ k ≤ 255) (ht : 0 ≤ t ∧ t ≤ 255) (hl : body.length ≤ 56) (hf : 100 < fu) : rickyardref07_Seal.f fu k t (body.map toB) = some ((sealed (summed k t body)).map toB) := by
  have hs := summed_len (k := k) (t := t) hl
  have hsb := summed_bytes hk ht hb
  unfold rickyardref07_Seal.f
  rw [wu8 hk.1 hk.2, wu8 ht.1 ht.2]
  have e1 : List.map toB [k, t, 0, 0] ++ List.map toB (body ++ List.replicate (56 - body.length) 0) = (summed k t body).map toB := by
    rw [← List.map_append]
    rfl
  have hL : (100 : Nat) ≤ LIM := by decide
  have e2 : List.length (List.map toB [k, t, 0, 0]) + List.length (List.map toB (body ++ List.replicate (56 - body.length) 0)) ≤ LIM := by
    simp
    omega
  simp only [fill_eq (fu := fu) hl, Option.bind_some, e1, of_toB hsb, rsum_eq (fu := fu) hsb (by omega) (by omega), rlay4_eq (fu := fu) _ (by omega : 8 < fu)]
  rw [if_pos e2, if_pos (by simp [lay_len, hs]; omega)]
  simp [sealed]
theorem there_eq {fu : Nat} {b : List Int} {i n : Nat} (hl : b.length ≤ 9000000000000000000) (h : i + n ≤ b.length) : octet_there.f fu b (i : Int) (n : Int) = some true := by
  unfold octet_there.f
  have h1 : (i : Int) ≥ 0 := by omega
  have h2 : (n : Int) ≥ 0 := by omega
  have h3 : (n : Int) ≤ (b.length : Int) := by omega
  have h4 : IntKind.i64.wrap ((b.length : Int) - (n : Int)) = (b.length : Int) - (n : Int) := w64 (by omega) (by omega)
  have h5 : (i : Int) ≤ (b.length : Int) - (n : Int) := by omega
  simp [h1, h2, h3, h4, h5]
theorem noughts_from {fu : Nat} (b : List Int) (x n : Int) {C : List Int} (hC : cut b x (IntKind.i64.wrap (x + n)) = C) (hl : C.length ≤ 9000000000000000000) : ∀ k m, m ≤ C.length → C.length - m < k → loopM (octet_Noughts.s0 fu b x n) k (m : Int) = some (if ∀ y ∈ C.drop m, y = 0 then .inr () else .inl false)
  | 0, m, _, hk => by omega
  | k + 1, m, hm, hk => by
    unfold loopM
    by_cases e : m = C.length
    · subst e
      have : octet_Noughts.s0 fu b x n (C.length : Int) = some (.inl (.inr ())) := by
        unfold octet_Noughts.s0
        rw [hC]
        simp
      rw [this]
      simp
    · have hlt : m < C.length := by omega
      have hx : ix C (m : Int) = C[m] := ix_nat hlt
      rw [List.drop_eq_getElem_cons hlt]
      have h1 : (m : Int) < (C.length : Int) := by omega
      by_cases hn : C[m] = 0
      · have w3 : IntKind.i64.wrap ((m : Int) + 1) = ((m + 1 : Nat) : Int) := by rw [w64 (by omega) (by omega)]; omega
        have : octet_Noughts.s0 fu b x n (m : Int) = some (.inr ((m + 1 : Nat) : Int)) := by
          unfold octet_Noughts.s0
          rw [hC]
          simp [h1, hx, hn, w3, hlt]
        rw [this]
        simp only
        rw [noughts_from b x n hC hl k (m + 1) (by omega) (by omega)]
        have e3 : (∀ y ∈ C[m] :: C.drop (m + 1), y = 0) ↔ ∀ y ∈ C.drop (m + 1), y = 0 := by
          constructor
          · intro h y hy
            exact h y (List.mem_cons_of_mem _ hy)
          · intro h y hy
            rcases List.mem_cons.1 hy with rfl | hy
            · exact hn
            · exact h y hy
        simp only [e3]
      · have : octet_Noughts.s0 fu b x n (m : Int) = some (.inl (.inl false)) := by
          unfold octet_Noughts.s0
          rw [hC]
          simp [h1, hx, hn, hlt]
        rw [this]
        have e3 : ¬ (∀ y ∈ C[m] :: C.drop (m + 1), y = 0) := fun h => hn (h _ (List.mem_cons_self ..))
        simp only [e3, if_false]
theorem noughts_eq {fu : Nat} {b : List Int} {i n : Nat} (hl : b.length ≤ 9000000000000000000) (h : i + n ≤ b.length) (hf : n < fu) : octet_Noughts.f fu b (i : Int) (n : Int) = some (decide (∀ y ∈ (b.drop i).take n, y = 0)) := by
  unfold octet_Noughts.f
  rw [there_eq hl h]
  have w1 : IntKind.i64.wrap ((i : Int) + (n : Int)) = ((i + n : Nat) : Int) := by rw [w64 (by omega) (by omega)]; omega
  have hC : cut b (i : Int) (IntKind.i64.wrap ((i : Int) + (n : Int))) = (b.drop i).take n := by
    rw [w1]
    unfold cut
    rw [Int.toNat_natCast, Int.toNat_natCast, List.drop_take]
    congr 1
    omega
  have hlen : ((b.drop i).take n).length = n := by
    rw [List.length_take, List.length_drop]
    omega
  have := noughts_from (fu := fu) b (i : Int) (n : Int) hC (by omega) fu 0 (by omega) (by omega)
  rw [Int.natCast_zero, List.drop_zero] at this
  have c1 : 0 ≤ (i : Int) ∧ (i : Int) ≤ IntKind.i64.wrap ((i : Int) + (n : Int)) ∧ IntKind.i64.wrap ((i : Int) + (n : Int)) ≤ (b.length : Int) := by
    rw [w1]
    omega
  simp only [Option.bind_some, Bool.not_true, Bool.false_eq_true, if_false]
  rw [if_pos c1, this]
  by_cases hz : ∀ y ∈ (b.drop i).take n, y = 0
  · rw [if_pos hz]
    simp only [Option.bind_some, decide_eq_true hz]
  · rw [if_neg hz]
    simp only [Option.bind_some, decide_eq_false hz]
/-- Octets that are a block. -/
def Is (b : List Int) : Prop := b.length = 64 ∧ ix b 4 ≠ 0 ∧ b = sealed (summed (ix b 4) (ix b 5) (b.drop 8))
instance (b : List Int) : Decidable (Is b) := inferInstanceAs (Decidable (_ ∧ _))
theorem parts {b : List Int} (h : b.length = 64) : b = b.take 4 ++ ([ix b 4, ix b 5, ix b 6, ix b 7] ++ b.drop 8) := by
  have e : b.drop 4 = [ix b 4, ix b 5, ix b 6, ix b 7] ++ b.drop 8 := by
    have g : ∀ j : Nat, j < 64 → b.drop j = ix b (j : Int) :: b.drop (j + 1) := by
      intro j hj
      rw [List.drop_eq_getElem_cons (by omega), ix_nat (by omega)]
    rw [g 4 (by omega), g 5 (by omega), g 6 (by omega), g 7 (by omega)]
    rfl
  rw [← e, List.take_append_drop]
theorem gap_eq {b : List Int} (h : b.length = 64) : (b.drop 6).take 2 = [ix b 6, ix b 7] := by
  have g : ∀ j : Nat, j < 64 → b.drop j = ix b (j : Int) :: b.drop (j + 1) := by
    intro j hj
    rw [List.drop_eq_getElem_cons (by omega), ix_nat (by omega)]
  rw [g 6 (by omega), g 7 (by omega)]
  rfl
theorem drop4 {b : List Int} (h : b.length = 64) : b.drop 4 = [ix b 4, ix b 5, ix b 6, ix b 7] ++ b.drop 8 := by
  have g : ∀ j : Nat, j < 64 → b.drop j = ix b (j : Int) :: b.drop (j + 1) := by
    intro j hj
    rw [List.drop_eq_getElem_cons (by omega), ix_nat (by omega)]
  rw [g 4 (by omega), g 5 (by omega), g 6 (by omega), g 7 (by omega)]
  rfl
theorem summed_full (k t : Int) {body : List Int} (h : body.length = 56) : summed k t body = [k, t, 0, 0] ++ body := by
  unfold summed
  rw [h]
  simp
theorem is_iff {b : List Int} (hb : Bytes b) (h : b.length = 64) : b = sealed (summed (ix b 4) (ix b 5) (b.drop 8)) ↔ (ix b 6 = 0 ∧ ix b 7 = 0) ∧ num (b.take 4) = (crc (b.drop 4)).toNat := by
  have h8 : (b.drop 8).length = 56 := by rw [List.length_drop, h]
  have h4 : (b.take 4).length = 4 := by rw [List.length_take, h]; rfl
  rw [summed_full _ _ h8]
  constructor
  · intro e
    have e2 : b.take 4 ++ b.drop 4 = lay (crc ([ix b 4, ix b 5, 0, 0] ++ b.drop 8)).toNat 4 ++ ([ix b 4, ix b 5, 0, 0] ++ b.drop 8) := by
      rw [List.take_append_drop]
      exact e
    obtain ⟨e3, e4⟩ := List.append_inj e2 (by rw [h4, lay_len])
    have e5 := e4
    rw [drop4 h] at e5
    have e6 := List.append_inj_left e5 rfl
    simp only [List.cons.injEq, and_true, true_and] at e6
    refine ⟨e6, ?_⟩
    rw [e3, e4, num_lay]
    exact Nat.mod_eq_of_lt (crc _).isLt
  · rintro ⟨⟨h6, h7⟩, hn⟩
    have e4 : b.drop 4 = [ix b 4, ix b 5, 0, 0] ++ b.drop 8 := by
      have := drop4 h
      rw [h6, h7] at this
      exact this
    unfold sealed
    rw [← e4, ← hn]
    have := lay_num (hb.take 4)
    rw [h4] at this
    rw [this, List.take_append_drop]
theorem right_is {fu : Nat} {b : List Int} (hb : Bytes b) (hl : b.length ≤ 9000000000000000000) (hf : 100 < fu) : block_right.f fu b = some (decide (Is b)) := by
  unfold block_right.f
  by_cases h : b.length = 64
  · have hL : (b.length : Int) = 64 := by omega
    by_cases h4 : ix b 4 = 0
    · simp [hL, h4, Is]
    · have hn : octet_Noughts.f fu b 6 2 = some (decide (∀ y ∈ (b.drop 6).take 2, y = 0)) := noughts_eq (i := 6) (n := 2) hl (by omega) (by omega)
      have hg : (∀ y ∈ (b.drop 6).take 2, y = 0) ↔ ix b 6 = 0 ∧ ix b 7 = 0 := by
        rw [gap_eq h]
        simp
      by_cases hz : ix b 6 = 0 ∧ ix b 7 = 0
      · have c1 : cut b 0 4 = b.take 4 := by
          unfold cut
          rfl
        have c2 : cut b 4 (b.length : Int) = b.drop 4 := by
          unfold cut
          rw [Int.toNat_natCast, List.take_length]
          rfl
        have h4' : (b.take 4).length = 4 := by rw [List.length_take, h]; rfl
        have hr : octet_Read.f fu (b.take 4) = some ((num (b.take 4) : Nat) : Int) := read_eq (hb.take 4) (by omega) (by omega)
        have hlt : num (b.take 4) < 4294967296 := by
          have := num_lt (hb.take 4)
          rwa [h4'] at this
        have hd : (b.drop 4).length = 60 := by rw [List.length_drop, h]
        have hs : crc_Sum.f fu [b.drop 4] = some (I32 (crc (b.drop 4))) := sum_eq (hb.drop 4) (by omega) (by omega)
        have hw : IntKind.u32.wrap ((num (b.take 4) : Nat) : Int) = ((num (b.take 4) : Nat) : Int) := wu32 (by omega) (by omega)
        have hi : Is b ↔ num (b.take 4) = (crc (b.drop 4)).toNat := by
          unfold Is
          rw [is_iff hb h]
          exact ⟨fun x => x.2.2.2, fun x => ⟨h, h4, hz, x⟩⟩
        have hq : (I32 (crc (b.drop 4)) = ((num (b.take 4) : Nat) : Int)) ↔ Is b := by
          rw [hi]
          unfold I32
          omega
        unfold crc_Fits.f
        rw [hn, decide_eq_true (hg.2 hz), c1, c2, hr]
        simp only [Option.bind_some, hw, hs, hq]
        have hL5 : (4 : Int) < (b.length : Int) := by omega
        have hL6 : (4 : Int) ≤ (b.length : Int) := by omega
        simp [hL, h4]
      · have hi : ¬ Is b := by
          intro x
          unfold Is at x
          rw [is_iff hb h] at x
          exact hz x.2.2.1
        rw [hn, decide_eq_false (fun x => hz (hg.1 x))]
        simp [hL, h4, hi]
  · have hi : ¬ Is b := fun x => h x.1
    have hL : ¬ (b.length : Int) = 64 := by omega
    simp [hL, hi]
theorem open_eq {fu : Nat} {b : List Int} (hb : Bytes b) (hl : b.length ≤ 9000000000000000000) (hf : 100 < fu) : block_Open.f fu b = some (if Is b then (ix b 4, ix b 5, b.drop 8, true) else (0, 0, [], false)) := by
  unfold block_Open.f
  rw [right_is hb hl hf]
  by_cases h : Is b
  · have h0 := h.1
    have c2 : cut b 8 (b.length : Int) = b.drop 8 := by
      unfold cut
      rw [Int.toNat_natCast, List.take_length]
      rfl
    have hc : bytes_Clone.f fu (b.drop 8) = some (b.drop 8) := by
      unfold bytes_Clone.f
      rw [if_pos]
      rw [List.length_drop, h0]
      decide
    have h4 : 0 ≤ ix b 4 ∧ ix b 4 ≤ 255 := by
      have := ix_nat (l := b) (j := 4) (by omega)
      rw [show ((4 : Nat) : Int) = 4 from rfl] at this
      rw [this]
      exact hb _ (List.getElem_mem _)
    have h5 : 0 ≤ ix b 5 ∧ ix b 5 ≤ 255 := by
      have := ix_nat (l := b) (j := 5) (by omega)
      rw [show ((5 : Nat) : Int) = 5 from rfl] at this
      rw [this]
      exact hb _ (List.getElem_mem _)
    have w4 : IntKind.i64.wrap (ix b 4) = ix b 4 := w64 (by omega) (by omega)
    have w5 : IntKind.i64.wrap (ix b 5) = ix b 5 := w64 (by omega) (by omega)
    simp only [c2, hc, w4, w5]
    simp [h, h0]
  · simp [h]
theorem sealed_parts (k t : Int) (body : List Int) : ix (sealed (summed k t body)) 4 = k ∧ ix (sealed (summed k t body)) 5 = t ∧ (sealed (summed k t body)).drop 8 = body ++ List.replicate (56 - body.length) 0 := by
  unfold sealed
  obtain ⟨a, b, c, d, e⟩ : ∃ a b c d, lay (crc (summed k t body)).toNat 4 = [a, b, c, d] := ⟨_, _, _, _, rfl⟩
  rw [e]
  exact ⟨rfl, rfl, rfl⟩
theorem fulled (body : List Int) (h : body.length ≤ 56) : (body ++ List.replicate (56 - body.length) (0 : Int)).length = 56 := by
  simp
  omega
theorem ix_byte {b : List Int} (hb : Bytes b) (j : Nat) (h : j < b.length) : 0 ≤ ix b (j : Int) ∧ ix b (j : Int) ≤ 255 := by
  rw [ix_nat h]
  exact hb _ (List.getElem_mem _)
theorem ropen_eq {fu : Nat} {b : List Int} (hb : Bytes b) (hf : 100 < fu) : rickyardref07_Open.f fu b = some (if Is b then (ix b 4, ix b 5, (b.drop 8).map toB, true) else (0, 0, [], false)) := by
  unfold rickyardref07_Open.f
  by_cases h : b.length = 64
  · have hL : (b.length : Int) = 64 := by omega
    have b4 := ix_byte hb 4 (by omega)
    have b5 := ix_byte hb 5 (by omega)
    rw [show ((4 : Nat) : Int) = 4 from rfl] at b4
    rw [show ((5 : Nat) : Int) = 5 from rfl] at b5
    have w4 : IntKind.i64.wrap (ix b 4) = ix b 4 := w64 (by omega) (by omega)
    have w5 : IntKind.i64.wrap (ix b 5) = ix b 5 := w64 (by omega) (by omega)
    have c2 : cut b 8 (b.length : Int) = b.drop 8 := by
      unfold cut
      rw [Int.toNat_natCast, List.take_length]
      rfl
    have h8 : (b.drop 8).length = 56 := by rw [List.length_drop, h]
    have hs : rickyardref07_Seal.f fu (ix b 4) (ix b 5) ((b.drop 8).map toB) = some ((sealed (summed (ix b 4) (ix b 5) (b.drop 8))).map toB) := rseal_eq (hb.drop 8) b4 b5 (by omega) hf
    have hq : (sealed (summed (ix b 4) (ix b 5) (b.drop 8))).map toB = b.map toB ↔ b = sealed (summed (ix b 4) (ix b 5) (b.drop 8)) :=
      (map_toB_iff (sealed_bytes (summed_bytes b4 b5 (hb.drop 8))) hb).trans ⟨Eq.symm, Eq.symm⟩
    rw [c2, w4, w5]
    by_cases h4 : ix b 4 = 0
    · have hi : ¬ Is b := fun x => x.2.1 h4
      simp [hL, h4, hi]
    · by_cases he : b = sealed (summed (ix b 4) (ix b 5) (b.drop 8))
      · have hi : Is b := ⟨h, h4, he⟩
        simp only [hs, hq.2 he]
        simp [hL, h4, hi]
      · have hi : ¬ Is b := fun x => he x.2.2
        have hne : ¬ (sealed (summed (ix b 4) (ix b 5) (b.drop 8))).map toB = b.map toB := fun x => he (hq.1 x)
        simp only [hs, hne]
        simp [hL, h4, hi]
        exact hne
  · have hi : ¬ Is b := fun x => h x.1
    have hL : ¬ (b.length : Int) = 64 := by omega
    simp [hL, hi]
theorem summed_fulled (k t : Int) (body : List Int) (h : body.length ≤ 56) : summed k t body = summed k t (body ++ List.replicate (56 - body.length) 0) := by
  rw [summed_full k t (fulled body h)]
  rfl
theorem sealed_iff {b : List Int} (hi : Is b) {k t : Int} {body : List Int} (hl : body.length ≤ 56) : sealed (summed k t body) = b ↔ k = ix b 4 ∧ t = ix b 5 ∧ body ++ List.replicate (56 - body.length) 0 = b.drop 8 := by
  obtain ⟨p4, p5, p8⟩ := sealed_parts k t body
  constructor
  · intro e
    rw [← e]
    exact ⟨p4.symm, p5.symm, p8.symm⟩
  · rintro ⟨h1, h2, h3⟩
    rw [summed_fulled k t body hl, h1, h2, h3]
    exact hi.2.2.symm
theorem sealed_map_iff {b : List Int} (hb : Bytes b) (hi : Is b) {k t : Int} {body : List Int} (hk : 0 ≤ k ∧ k ≤ 255) (ht : 0 ≤ t ∧ t ≤ 255) (hbb : Bytes body) (hl : body.length ≤ 56) :
    (sealed (summed k t body)).map toB = b.map toB ↔ k = ix b 4 ∧ t = ix b 5 ∧ body ++ List.replicate (56 - body.length) 0 = b.drop 8 :=
  (map_toB_iff (sealed_bytes (summed_bytes hk ht hbb)) hb).trans (sealed_iff hi hl)
theorem is_tag {b : List Int} (hb : Bytes b) (hi : Is b) : (0 ≤ ix b 4 ∧ ix b 4 ≤ 255) ∧ (0 ≤ ix b 5 ∧ ix b 5 ≤ 255) := by
  have h0 := hi.1
  exact ⟨ix_byte hb 4 (by omega), ix_byte hb 5 (by omega)⟩
theorem is_body {b : List Int} (hi : Is b) : (b.drop 8).length = 56 := by rw [List.length_drop, hi.1]
theorem full_iff {body full : List Int} (hl : body.length ≤ 56) (hf : full.length = 56) : body ++ List.replicate (56 - body.length) 0 = full ↔ body = full.take body.length ∧ ∀ y ∈ full.drop body.length, y = 0 := by
  constructor
  · intro e
    subst e
    refine ⟨by simp, fun y hy => ?_⟩
    rw [List.drop_left' rfl] at hy
    exact List.eq_of_mem_replicate hy
  · rintro ⟨h1, h2⟩
    have h3 : full.drop body.length = List.replicate (56 - body.length) 0 := by
      apply List.eq_replicate_iff.2
      exact ⟨by rw [List.length_drop, hf], h2⟩
    rw [← h3]
    conv => lhs; lhs; rw [h1]
    exact List.take_append_drop _ _
def u64n (x : Int) : Nat := (x % 18446744073709551616).toNat
theorem u64_wrap (x : Int) : IntKind.u64.wrap x = (u64n x : Int) := by
  unfold u64n IntKind.wrap
  simp only [IntKind.signed, IntKind.bits]
  simp
  omega
theorem u64n_lt (x : Int) : u64n x < 18446744073709551616 := by
  unfold u64n
  omega
theorem rlay64 {fu n : Nat} {x : Int} (hn : n ≤ 8) (hf : n < fu) : rickyardref01_Lay.f fu (IntKind.u64.wrap x) (n : Int) = some ((lay (u64n x) n).map toB) := by
  rw [u64_wrap]
  exact rlay_eq (u64n_lt x) hn hf
theorem rint_eq {fu : Nat} {l : List Int} (hb : Bytes l) (hl : l.length ≤ 8) (hf : l.length < fu) : rickyardref01_Int.f fu (l.map toB) = some (IntKind.i64.wrap ((num l : Nat) : Int)) := by
  unfold rickyardref01_Int.f
  rw [rnumber_eq hb hl hf]
  rfl
/-- The i-th field of w octets. -/
def fieldAt (l : List Int) (w i : Nat) : List Int := (l.drop (w * i)).take w
theorem flat_len {α : Type} {g : Nat → List α} {w : Nat} (hg : ∀ i, (g i).length = w) : ∀ n, ((List.range n).flatMap g).length = w * n
  | 0 => by simp
  | n + 1 => by
    rw [List.range_succ, List.flatMap_append, List.length_append, flat_len hg n]
    simp [hg, Nat.mul_succ]
theorem flat_succ {α : Type} (g : Nat → List α) (n : Nat) : (List.range (n + 1)).flatMap g = (List.range n).flatMap g ++ g n := by
  rw [List.range_succ, List.flatMap_append]
  simp
theorem field_flat {l : List Int} {w : Nat} : ∀ n, w * n ≤ l.length → (List.range n).flatMap (fieldAt l w) = l.take (w * n)
  | 0, _ => by simp
  | n + 1, h => by
    rw [Nat.mul_succ] at h
    rw [flat_succ, field_flat n (by omega), Nat.mul_succ, List.take_add]
    rfl
theorem flat_congr {α : Type} {g k : Nat → List α} {n : Nat} (h : ∀ i, i < n → g i = k i) : (List.range n).flatMap g = (List.range n).flatMap k := by
  induction n with
  | zero => rfl
  | succ n ih => rw [flat_succ, flat_succ, ih fun i hi => h i (by omega), h n (by omega)]
theorem flat_bytes {g : Nat → List Int} (hg : ∀ i, Bytes (g i)) (n : Nat) : Bytes ((List.range n).flatMap g) := by
  intro x hx
  obtain ⟨i, _, h⟩ := List.mem_flatMap.1 hx
  exact hg i x h
end Go.Proofs.Ytklhbaghbmndeaa.Pure
namespace Go.Proofs.Ytklhbaghbmndeaa
open Go Go.Xw
end Go.Proofs.Ytklhbaghbmndeaa
namespace Go.Proofs.Ytklhbaghbmndeaa.Pure
open Go Go.Xw
theorem ix_ext {a b : List Int} (hl : a.length = b.length) (h : ∀ j, j < a.length → ix a (j : Int) = ix b (j : Int)) : a = b := by
  apply List.ext_getElem hl
  intro i h1 h2
  rw [← ix_nat h1, ← ix_nat h2]
  exact h i h1
theorem ints2_eq {fu : Nat} {a b : List Int} (ha : a.length ≤ 9000000000000000000) (hf : a.length < fu) : rickyardref01_Ints.f fu a b = some (decide (a = b)) := by
  unfold rickyardref01_Ints.f
  by_cases hl : a.length = b.length
  · have hL : (a.length : Int) = (b.length : Int) := by omega
    rw [decide_eq_true hL]
    simp only [Bool.not_true, Bool.false_eq_true, if_false]
    have hs : ∀ j : Nat, j < a.length → rickyardref01_Ints.s0 fu a b (j : Int) = some (if ix a (j : Int) = ix b (j : Int) then .inr ((j + 1 : Nat) : Int) else .inl (.inl false)) := by
      intro j hj
      unfold rickyardref01_Ints.s0
      have h1 : (j : Int) < (a.length : Int) := by omega
      have h2 : (j : Int) < (b.length : Int) := by omega
      have c0 : 0 ≤ (j : Int) := by omega
      have w3 : IntKind.i64.wrap ((j : Int) + 1) = ((j + 1 : Nat) : Int) := by rw [w64 (by omega) (by omega)]; omega
      simp only [h1, h2, c0, and_self, decide_true, if_true, w3]
      by_cases e : ix a (j : Int) = ix b (j : Int) <;> simp [e]
    by_cases h : a = b
    · have : loopM (rickyardref01_Ints.s0 fu a b) fu 0 = some (.inr ()) := by
        refine loopM_run (S := fun j => (j : Int)) a.length rfl (fun j hj => by rw [hs j hj, if_pos (by rw [h])]) ?_ hf
        unfold rickyardref01_Ints.s0
        simp
      rw [this]
      simp [h]
    · have : loopM (rickyardref01_Ints.s0 fu a b) fu 0 = some (.inl false) := by
        refine loopM_bad (S := fun j => (j : Int)) a.length (fun j => ix a (j : Int) = ix b (j : Int)) rfl ?_ (fun j hj _ hg => by rw [hs j hj, if_pos hg]) (fun j hj _ hg => by rw [hs j hj, if_neg hg]) hf
        apply Classical.byContradiction
        intro hx
        exact h (ix_ext hl fun i hi => Classical.byContradiction fun hg => hx ⟨i, hi, hg⟩)
      rw [this]
      simp [h]
  · have hL : ¬ (a.length : Int) = (b.length : Int) := by omega
    have h : ¬ a = b := fun e => hl (by rw [e])
    rw [decide_eq_false hL, decide_eq_false h]
    rfl
def rowE (l : List Int) (n : Nat) : List Int := (List.range n).flatMap fun (i : Nat) => lay (u64n (ix l (i : Int))) 2
theorem rowE_len (l : List Int) (n : Nat) : (rowE l n).length = 2 * n := flat_len (fun i => lay_len _ _) n
theorem rowE_bytes (l : List Int) (n : Nat) : Bytes (rowE l n) := flat_bytes (fun i => lay_bytes _ _) n
theorem lim_of' {a b : Nat} (h : a + b ≤ 1000) : a + b ≤ LIM := by
  have : (1000 : Nat) ≤ LIM := by decide
  omega
def part (l : List Int) (i n : Nat) : List Int := (l.drop i).take n
theorem part_len {l : List Int} {i n : Nat} (h : i + n ≤ l.length) : (part l i n).length = n := by
  unfold part
  rw [List.length_take, List.length_drop]
  omega
theorem part_bytes {l : List Int} (hb : Bytes l) (i n : Nat) : Bytes (part l i n) := (hb.drop i).take n
def intAt (l : List Int) (i n : Nat) : Int := IntKind.i64.wrap ((num (part l i n) : Nat) : Int)
theorem rintAt_eq {fu : Nat} {b : List Int} {i n : Nat} (hb : Bytes b) (h : i + n ≤ b.length) (hn : n ≤ 8) (hf : 100 < fu) : rickyardref01_Int.f fu (cut (b.map toB) (i : Int) ((i + n : Nat) : Int)) = some (intAt b i n) := by
  have e : cut (b.map toB) (i : Int) ((i + n : Nat) : Int) = (part b i n).map toB := by
    unfold cut part
    rw [Int.toNat_natCast, Int.toNat_natCast, List.drop_take, ← List.map_drop, ← List.map_take]
    congr 2
    omega
  rw [e, rint_eq (part_bytes hb i n) (by rw [part_len h]; exact hn) (by rw [part_len h]; omega)]
  rfl
theorem u64n_i64 {n : Nat} (h : n < 18446744073709551616) : u64n (IntKind.i64.wrap (n : Int)) = n := by
  unfold u64n IntKind.wrap
  simp only [IntKind.signed, IntKind.bits]
  simp
  split <;> omega
theorem lay_part {l : List Int} {i n : Nat} (hb : Bytes l) (h : i + n ≤ l.length) (hn : n ≤ 8) : lay (u64n (intAt l i n)) n = part l i n := by
  have hpl := part_len h
  have hpb := part_bytes hb i n
  unfold intAt
  rw [u64n_i64 (num_lt8 hpb (by omega))]
  have := lay_num hpb
  rwa [hpl] at this
theorem ix_map {f : Nat → Int} {t i : Nat} (h : i < t) : ix ((List.range t).map f) (i : Int) = f i := by
  rw [ix_nat (by simpa using h)]
  simp
theorem contains_eq {fu : Nat} {l : List Int} {x : Int} (hl : l.length ≤ 9000000000000000000) (hf : l.length < fu) : slices_Contains_2.f fu l x = some (decide (x ∈ l)) := by
  unfold slices_Contains_2.f
  have hs : ∀ j : Nat, j < l.length → slices_Index_2.s0 fu l x (j : Int) = some (if x ≠ ix l (j : Int) then .inr ((j + 1 : Nat) : Int) else .inl (.inl (j : Int))) := by
    intro j hj
    unfold slices_Index_2.s0
    have h1 : (j : Int) < (l.length : Int) := by omega
    have c0 : 0 ≤ (j : Int) := by omega
    have w3 : IntKind.i64.wrap ((j : Int) + 1) = ((j + 1 : Nat) : Int) := by rw [w64 (by omega) (by omega)]; omega
    simp only [h1, c0, and_self, decide_true, if_true, w3]
    by_cases e : x = ix l (j : Int) <;> simp [e]
  have hi : ∃ r : Int, slices_Index_2.f fu l x = some r ∧ (r ≥ 0 ↔ x ∈ l) := by
    unfold slices_Index_2.f
    by_cases hk : x ∈ l
    · have hmin : ∀ m j, j ≤ m → (j < l.length ∧ x = ix l (j : Int)) → ∃ q, (q < l.length ∧ x = ix l (q : Int)) ∧ ∀ i, i < q → x ≠ ix l (i : Int) := by
        intro m
        induction m with
        | zero =>
          intro j hj hjj
          exact ⟨j, hjj, fun i hi => by omega⟩
        | succ m ih =>
          intro j hj hjj
          by_cases hx : ∃ i, i < j ∧ x = ix l (i : Int)
          · obtain ⟨i, hi, hgi⟩ := hx
            exact ih i (by omega) ⟨by omega, hgi⟩
          · exact ⟨j, hjj, fun i hi hg => hx ⟨i, hi, hg⟩⟩
      obtain ⟨j, hj, hjx⟩ := List.getElem_of_mem hk
      obtain ⟨q, ⟨hq, hg⟩, hall⟩ := hmin j j (Nat.le_refl _) ⟨hj, by rw [ix_nat hj, hjx]⟩
      have : loopM (slices_Index_2.s0 fu l x) fu 0 = some (.inl (q : Int)) :=
        loopM_run (S := fun j => (j : Int)) q rfl (fun i hi => by rw [hs i (by omega), if_pos (hall i hi)]) (by rw [hs q hq, if_neg (fun h => h hg)]) (by omega)
      rw [this]
      refine ⟨(q : Int), rfl, ?_⟩
      simp only [hk, iff_true]
      omega
    · have : loopM (slices_Index_2.s0 fu l x) fu 0 = some (.inr ()) := by
        refine loopM_run (S := fun j => (j : Int)) l.length rfl (fun j hj => ?_) ?_ hf
        · rw [hs j hj, if_pos]
          intro e
          rw [ix_nat hj] at e
          exact hk (by rw [e]; exact List.getElem_mem hj)
        · unfold slices_Index_2.s0
          simp
      rw [this]
      exact ⟨-1, rfl, by simp [hk]⟩
  obtain ⟨r, hr, hrk⟩ := hi
  rw [hr]
  exact congrArg some (decide_eq_decide.2 hrk)
def geoOk (g : S_api_Geometry) : Prop := (16 ≤ g.Blocks ∧ g.Blocks ≤ 3072) ∧ (1 ≤ g.Slots ∧ g.Slots ≤ 1792) ∧ (1 ≤ g.Gens ∧ g.Gens ≤ 4294967295)
instance (g : S_api_Geometry) : Decidable (geoOk g) := inferInstanceAs (Decidable (_ ∧ _))
theorem geo_form (g : S_api_Geometry) : (if (decide (g.Blocks ≥ 16)) = true then (if (decide (g.Blocks ≤ 3072)) = true then (if (decide (g.Slots ≥ 1)) = true then (if (decide (g.Slots ≤ 1792)) = true then (if (decide (g.Gens ≥ 1)) = true then (decide (g.Gens ≤ 4294967295)) else false) else false) else false) else false) else false) = decide (geoOk g) := by
  rw [Bool.eq_iff_iff]
  unfold geoOk
  simp only [decide_eq_true_eq, ge_iff_le]
  by_cases c1 : 16 ≤ g.Blocks
  · by_cases c2 : g.Blocks ≤ 3072
    · by_cases c3 : 1 ≤ g.Slots
      · by_cases c4 : g.Slots ≤ 1792
        · by_cases c5 : 1 ≤ g.Gens <;> simp [c1, c2, c3, c4, c5]
        · simp [c1, c2, c3, c4]
      · simp [c1, c2, c3]
    · simp [c1, c2]
  · simp [c1]
theorem geom_eq (fu : Nat) (g : S_api_Geometry) : geom_Right.f fu g = some (decide (geoOk g)) := congrArg some (geo_form g)
theorem rgeom_eq (fu : Nat) (g : S_api_Geometry) : rickyardref12_Right.f fu g = some (decide (geoOk g)) := congrArg some (geo_form g)
def chartsN (g : S_api_Geometry) : Int := (g.Blocks + 383) / 384
theorem charts_eq {fu : Nat} {g : S_api_Geometry} (h : geoOk g) : geom_Charts.f fu g = some (chartsN g) := by
  unfold geom_Charts.f geom_up.f
  rw [geom_eq, decide_eq_true h]
  unfold geoOk at h
  have w1 : IntKind.i64.wrap (g.Blocks + 384) = g.Blocks + 384 := w64 (by omega) (by omega)
  have w2 : IntKind.i64.wrap (g.Blocks + 384 - 1) = g.Blocks + 383 := by rw [w64 (by omega) (by omega)]; omega
  have e1 : Int.tdiv (g.Blocks + 383) 384 = (g.Blocks + 383) / 384 := Int.tdiv_eq_ediv_of_nonneg (by omega)
  have w3 : IntKind.i64.wrap ((g.Blocks + 383) / 384) = (g.Blocks + 383) / 384 := w64 (by omega) (by omega)
  simp [w1, w2, e1, w3, chartsN]
theorem rcharts_eq {fu : Nat} {g : S_api_Geometry} (h : geoOk g) (hf : 100 < fu) : rickyardref12_Charts.f fu g = some (chartsN g) := by
  unfold rickyardref12_Charts.f rickyardref12_Need.f
  unfold geoOk at h
  obtain ⟨n, hn⟩ : ∃ n : Nat, chartsN g = (n : Int) := ⟨(chartsN g).toNat, by unfold chartsN; omega⟩
  have hn' := hn
  unfold chartsN at hn'
  have : loopM (rickyardref12_Need.s0 fu g.Blocks 384) fu 0 = some (n : Int) := by
    refine loopM_run (S := fun j => (j : Int)) n rfl (fun j hj => ?_) ?_ (by omega)
    · unfold rickyardref12_Need.s0
      have w1 : IntKind.i64.wrap ((j : Int) * 384) = (j : Int) * 384 := w64 (by omega) (by omega)
      have w3 : IntKind.i64.wrap ((j : Int) + 1) = ((j + 1 : Nat) : Int) := by rw [w64 (by omega) (by omega)]; omega
      have h1 : (j : Int) * 384 < g.Blocks := by omega
      simp only [w1, w3, h1, decide_true, if_true]
    · unfold rickyardref12_Need.s0
      have w1 : IntKind.i64.wrap ((n : Int) * 384) = (n : Int) * 384 := w64 (by omega) (by omega)
      have h1 : ¬ (n : Int) * 384 < g.Blocks := by omega
      simp only [w1, h1, decide_false, Bool.false_eq_true, if_false]
  rw [this, hn]
  rfl
def inB (s : S_api_Super) (x : Int) : Prop := 2 ≤ x ∧ x < s.Tickets.Geometry.Blocks
instance (s : S_api_Super) (x : Int) : Decidable (inB s x) := inferInstanceAs (Decidable (_ ∧ _))
def supA (s : S_api_Super) : Prop := (1 ≤ s.Epoch ∧ s.Epoch ≤ 4611686018427387904) ∧ geoOk s.Tickets.Geometry
instance (s : S_api_Super) : Decidable (supA s) := inferInstanceAs (Decidable (_ ∧ _))
def supB (s : S_api_Super) : Prop := (0 ≤ s.Tickets.High ∧ s.Tickets.High ≤ s.Tickets.Geometry.Slots) ∧ (0 ≤ s.Tickets.Free ∧ s.Tickets.Free ≤ s.Tickets.High)
instance (s : S_api_Super) : Decidable (supB s) := inferInstanceAs (Decidable (_ ∧ _))
def topOk (s : S_api_Super) : Prop := (s.Tickets.High = 0 → s.Tickets.Top = 0) ∧ (s.Tickets.High ≠ 0 → inB s s.Tickets.Top)
instance (s : S_api_Super) : Decidable (topOk s) := inferInstanceAs (Decidable (_ ∧ _))
def dirOk (s : S_api_Super) : Prop := s.Dir ≠ 0 → inB s s.Dir
instance (s : S_api_Super) : Decidable (dirOk s) := inferInstanceAs (Decidable (_ → _))
def apartC (l : List Int) : Prop := ∀ j, j < l.length → ix l (j : Int) ∉ l.take j
instance (l : List Int) : Decidable (apartC l) := inferInstanceAs (Decidable (∀ j, j < l.length → _))
def insC (s : S_api_Super) : Prop := ∀ j, j < s.Charts.length → inB s (ix s.Charts (j : Int))
instance (s : S_api_Super) : Decidable (insC s) := inferInstanceAs (Decidable (∀ j, j < s.Charts.length → _))
def SupOk (s : S_api_Super) : Prop := supA s ∧ supB s ∧ topOk s ∧ dirOk s ∧ (s.Charts.length : Int) = chartsN s.Tickets.Geometry ∧ insC s ∧ apartC s.Charts
instance (s : S_api_Super) : Decidable (SupOk s) := inferInstanceAs (Decidable (_ ∧ _))
theorem SupOk.len {s : S_api_Super} (h : SupOk s) : s.Charts.length ≤ 8 ∧ 1 ≤ s.Charts.length := by
  have h1 := h.1.2
  have h2 := h.2.2.2.2.1
  unfold geoOk at h1
  unfold chartsN at h2
  omega
theorem in_eq (fu : Nat) (x : Int) (s : S_api_Super) : super_Right_1__c.f fu x s = some (decide (inB s x)) := by
  unfold super_Right_1__c.f inB
  by_cases h : 2 ≤ x <;> simp [h]
theorem sup_g1 (fu : Nat) (s : S_api_Super) : (if (decide (s.Epoch < 1)) = true then some (true) else (if (decide (s.Epoch > 4611686018427387904)) = true then some (true) else ((geom_Right.f fu s.Tickets.Geometry : Option Bool).bind fun t11 => (if (!t11) = true then some (true) else (if (decide (s.Tickets.High < 0)) = true then some (true) else (if (decide (s.Tickets.High > s.Tickets.Geometry.Slots)) = true then some (true) else (if (decide (s.Tickets.Free < 0)) = true then some (true) else some ((decide (s.Tickets.Free > s.Tickets.High)))))))))) = some (!decide (supA s ∧ supB s)) := by
  rw [geom_eq, Option.bind_some]
  by_cases hA : supA s
  · have hA' := hA
    unfold supA at hA'
    have c1 : ¬ s.Epoch < 1 := by omega
    have c2 : ¬ s.Epoch > 4611686018427387904 := by omega
    rw [decide_eq_false c1, decide_eq_false c2, decide_eq_true hA'.2]
    by_cases hB : supB s
    · have hB' := hB
      unfold supB at hB'
      have c3 : ¬ s.Tickets.High < 0 := by omega
      have c4 : ¬ s.Tickets.High > s.Tickets.Geometry.Slots := by omega
      have c5 : ¬ s.Tickets.Free < 0 := by omega
      have c6 : ¬ s.Tickets.Free > s.Tickets.High := by omega
      rw [decide_eq_false c3, decide_eq_false c4, decide_eq_false c5, decide_eq_false c6, decide_eq_true (⟨hA, hB⟩ : supA s ∧ supB s)]
      rfl
    · rw [decide_eq_false (fun x : supA s ∧ supB s => hB x.2)]
      unfold supB at hB
      by_cases c3 : s.Tickets.High < 0
      · rw [decide_eq_true c3]
        rfl
      · by_cases c4 : s.Tickets.High > s.Tickets.Geometry.Slots
        · rw [decide_eq_false c3, decide_eq_true c4]
          rfl
        · by_cases c5 : s.Tickets.Free < 0
          · rw [decide_eq_false c3, decide_eq_false c4, decide_eq_true c5]
            rfl
          · have c6 : s.Tickets.Free > s.Tickets.High := by omega
            rw [decide_eq_false c3, decide_eq_false c4, decide_eq_false c5, decide_eq_true c6]
            rfl
  · rw [decide_eq_false (fun x : supA s ∧ supB s => hA x.1)]
    unfold supA at hA
    by_cases c1 : s.Epoch < 1
    · rw [decide_eq_true c1]
      rfl
    · by_cases c2 : s.Epoch > 4611686018427387904
      · rw [decide_eq_false c1, decide_eq_true c2]
        rfl
      · have c3 : ¬ geoOk s.Tickets.Geometry := fun x => hA ⟨by omega, x⟩
        rw [decide_eq_false c1, decide_eq_false c2, decide_eq_false c3]
        rfl
def lenOk (s : S_api_Super) : Prop := (s.Charts.length : Int) = chartsN s.Tickets.Geometry
instance (s : S_api_Super) : Decidable (lenOk s) := inferInstanceAs (Decidable (_ = _))
theorem sup_loop {fu : Nat} {s : S_api_Super} (hl : s.Charts.length ≤ 50) (hf : 100 < fu) : loopM (super_Right.s0 fu s) fu 0 = some (if insC s ∧ apartC s.Charts then .inr () else .inl false) := by
  have hs : ∀ j : Nat, j < s.Charts.length → super_Right.s0 fu s (j : Int) = some (if inB s (ix s.Charts (j : Int)) ∧ ix s.Charts (j : Int) ∉ s.Charts.take j then .inr ((j + 1 : Nat) : Int) else .inl (.inl false)) := by
    intro j hj
    unfold super_Right.s0
    have h1 : (j : Int) < (s.Charts.length : Int) := by omega
    have h2 : (j : Int) ≤ (s.Charts.length : Int) := by omega
    have c0 : 0 ≤ (j : Int) := by omega
    have w3 : IntKind.i64.wrap ((j : Int) + 1) = ((j + 1 : Nat) : Int) := by rw [w64 (by omega) (by omega)]; omega
    have ec : cut s.Charts 0 (j : Int) = s.Charts.take j := by unfold cut; simp
    have hc : slices_Contains_2.f fu (s.Charts.take j) (ix s.Charts (j : Int)) = some (decide (ix s.Charts (j : Int) ∈ s.Charts.take j)) := contains_eq (by rw [List.length_take]; omega) (by rw [List.length_take]; omega)
    simp only [h1, h2, c0, and_self, decide_true, if_true, w3, in_eq, Option.bind_some, ec, hc]
    by_cases g1 : inB s (ix s.Charts (j : Int))
    · by_cases g2 : ix s.Charts (j : Int) ∈ s.Charts.take j <;> simp [g1, g2]
    · simp [g1]
  by_cases h : insC s ∧ apartC s.Charts
  · rw [if_pos h]
    refine loopM_run (S := fun j => (j : Int)) s.Charts.length rfl (fun j hj => by rw [hs j hj, if_pos ⟨h.1 j hj, h.2 j hj⟩]) ?_ (by omega)
    unfold super_Right.s0
    simp
  · rw [if_neg h]
    refine loopM_bad (S := fun j => (j : Int)) s.Charts.length (fun j => inB s (ix s.Charts (j : Int)) ∧ ix s.Charts (j : Int) ∉ s.Charts.take j) rfl ?_ (fun j hj _ hg => by rw [hs j hj, if_pos hg]) (fun j hj _ hg => by rw [hs j hj, if_neg hg]) (by omega)
    apply Classical.byContradiction
    intro hx
    exact h ⟨fun i hi => Classical.byContradiction fun hg => hx ⟨i, hi, fun q => hg q.1⟩, fun i hi => Classical.byContradiction fun hg => hx ⟨i, hi, fun q => hg q.2⟩⟩
theorem superRight_eq {fu : Nat} {s : S_api_Super} (hf : 100 < fu) : super_Right.f fu s = some (decide (SupOk s)) := by
  unfold super_Right.f
  rw [sup_g1, Option.bind_some]
  by_cases hAB : supA s ∧ supB s
  · obtain ⟨hA, hB⟩ := hAB
    have hg := hA.2
    have hB' := hB
    unfold supB at hB'
    rw [decide_eq_true (⟨hA, hB⟩ : supA s ∧ supB s), charts_eq hg]
    simp only [Bool.not_true, Bool.false_eq_true, if_false, in_eq, Option.bind_some]
    have key : ∀ (b : Bool), b = decide (topOk s ∧ dirOk s ∧ lenOk s) → (if (!b) = true then some false else ((loopM (super_Right.s0 fu s) fu (0)).bind fun e131 => match e131 with | Sum.inl p => some p | Sum.inr x134 => some (true))) = some (decide (SupOk s)) := by
      intro b hb
      by_cases hT : topOk s ∧ dirOk s ∧ lenOk s
      · rw [hb, decide_eq_true hT]
        have hlen : s.Charts.length ≤ 50 := by
          have h1 := hT.2.2
          unfold lenOk chartsN at h1
          unfold geoOk at hg
          omega
        rw [sup_loop hlen hf]
        by_cases hq : insC s ∧ apartC s.Charts
        · have hS : SupOk s := ⟨hA, hB, hT.1, hT.2.1, hT.2.2, hq.1, hq.2⟩
          rw [if_pos hq, decide_eq_true hS]
          rfl
        · rw [if_neg hq, decide_eq_false (fun x : SupOk s => hq ⟨x.2.2.2.2.2.1, x.2.2.2.2.2.2⟩)]
          rfl
      · rw [hb, decide_eq_false hT, decide_eq_false (fun x : SupOk s => hT ⟨x.2.2.1, x.2.2.2.1, x.2.2.2.2.1⟩)]
        rfl
    by_cases h0 : s.Tickets.High = 0
    · have h1 : ¬ s.Tickets.High > 0 := by omega
      rw [decide_eq_true h0, decide_eq_false h1]
      by_cases ht : s.Tickets.Top = 0
      · rw [decide_eq_true ht]
        have hT : topOk s := ⟨fun _ => ht, fun x => absurd h0 x⟩
        by_cases hd : s.Dir = 0
        · rw [decide_eq_true hd]
          have hD : dirOk s := fun x => absurd hd x
          exact key (decide (lenOk s)) (decide_eq_decide.2 ⟨fun x => ⟨hT, hD, x⟩, fun x => x.2.2⟩)
        · rw [decide_eq_false hd]
          by_cases hi : inB s s.Dir
          · rw [decide_eq_true hi]
            exact key (decide (lenOk s)) (decide_eq_decide.2 ⟨fun x => ⟨hT, fun _ => hi, x⟩, fun x => x.2.2⟩)
          · rw [decide_eq_false hi]
            exact key false (decide_eq_false (fun x => hi (x.2.1 hd))).symm
      · rw [decide_eq_false ht]
        exact key false (decide_eq_false (fun x => ht (x.1.1 h0))).symm
    · have h1 : s.Tickets.High > 0 := by omega
      rw [decide_eq_false h0, decide_eq_true h1]
      by_cases ht : inB s s.Tickets.Top
      · rw [decide_eq_true ht]
        have hT : topOk s := ⟨fun x => absurd x h0, fun _ => ht⟩
        by_cases hd : s.Dir = 0
        · rw [decide_eq_true hd]
          have hD : dirOk s := fun x => absurd hd x
          exact key (decide (lenOk s)) (decide_eq_decide.2 ⟨fun x => ⟨hT, hD, x⟩, fun x => x.2.2⟩)
        · rw [decide_eq_false hd]
          by_cases hi : inB s s.Dir
          · rw [decide_eq_true hi]
            exact key (decide (lenOk s)) (decide_eq_decide.2 ⟨fun x => ⟨hT, fun _ => hi, x⟩, fun x => x.2.2⟩)
          · rw [decide_eq_false hi]
            exact key false (decide_eq_false (fun x => hi (x.2.1 hd))).symm
      · rw [decide_eq_false ht]
        exact key false (decide_eq_false (fun x => ht (x.1.2 h0))).symm
  · rw [decide_eq_false hAB, decide_eq_false (fun x : SupOk s => hAB ⟨x.1, x.2.1⟩)]
    rfl
def needL (s : S_api_Super) : List Int := (if s.Tickets.High = 0 then [] else [s.Tickets.Top]) ++ (if s.Dir = 0 then [] else [s.Dir])
theorem needL_len (s : S_api_Super) : (needL s).length ≤ 2 := by
  unfold needL
  split <;> split <;> simp
theorem mem_ix {l : List Int} {p : Int → Prop} : (∀ x ∈ l, p x) ↔ ∀ j, j < l.length → p (ix l (j : Int)) := by
  constructor
  · intro h j hj
    rw [ix_nat hj]
    exact h _ (List.getElem_mem hj)
  · intro h x hx
    obtain ⟨j, hj, rfl⟩ := List.getElem_of_mem hx
    have := h j hj
    rwa [ix_nat hj] at this
theorem rs2_eq {fu : Nat} {s : S_api_Super} {nd : List Int} {j : Nat} (hj : j < s.Charts.length) (hl : s.Charts.length ≤ 50) (hf : 100 < fu) : loopM (rickyardref13_Right.s2 fu s (nd, (j : Int))) fu 0 = some (if ix s.Charts (j : Int) ∉ s.Charts.take j then .inr () else .inl (.inl (.inl false))) := by
  have hs : ∀ i : Nat, i < j → rickyardref13_Right.s2 fu s (nd, (j : Int)) (i : Int) = some (if ix s.Charts (i : Int) ≠ ix s.Charts (j : Int) then .inr ((i + 1 : Nat) : Int) else .inl (.inl (.inl (.inl false)))) := by
    intro i hi
    unfold rickyardref13_Right.s2
    have h1 : (i : Int) < (j : Int) := by omega
    have h2 : (i : Int) < (s.Charts.length : Int) := by omega
    have h3 : (j : Int) < (s.Charts.length : Int) := by omega
    have c0 : 0 ≤ (i : Int) := by omega
    have c1 : 0 ≤ (j : Int) := by omega
    have w3 : IntKind.i64.wrap ((i : Int) + 1) = ((i + 1 : Nat) : Int) := by rw [w64 (by omega) (by omega)]; omega
    simp only [h1, h2, h3, c0, c1, and_self, decide_true, if_true, w3]
    by_cases e : ix s.Charts (i : Int) = ix s.Charts (j : Int) <;> simp [e]
  have hmem : ix s.Charts (j : Int) ∉ s.Charts.take j ↔ ∀ i, i < j → ix s.Charts (i : Int) ≠ ix s.Charts (j : Int) := by
    constructor
    · intro h i hi e
      apply h
      rw [← e, ix_nat (show i < s.Charts.length by omega)]
      exact List.mem_take_iff_getElem.2 ⟨i, by omega, rfl⟩
    · intro h hm
      obtain ⟨i, hi, he⟩ := List.mem_take_iff_getElem.1 hm
      exact h i (by omega) (by rw [ix_nat (show i < s.Charts.length by omega)]; exact he)
  by_cases h : ix s.Charts (j : Int) ∉ s.Charts.take j
  · rw [if_pos h]
    refine loopM_run (S := fun i => (i : Int)) j rfl (fun i hi => by rw [hs i hi, if_pos (hmem.1 h i hi)]) ?_ (by omega)
    unfold rickyardref13_Right.s2
    simp
  · rw [if_neg h]
    refine loopM_bad (S := fun i => (i : Int)) j (fun i => ix s.Charts (i : Int) ≠ ix s.Charts (j : Int)) rfl ?_ (fun i hi _ hg => by rw [hs i hi, if_pos hg]) (fun i hi _ hg => by rw [hs i hi, if_neg hg]) (by omega)
    apply Classical.byContradiction
    intro hx
    exact h (hmem.2 fun i hi => Classical.byContradiction fun hg => hx ⟨i, hi, hg⟩)
theorem rs1_eq {fu : Nat} {s : S_api_Super} (hl : s.Charts.length ≤ 50) (hf : 100 < fu) : loopM (rickyardref13_Right.s1 fu s) fu (needL s, 0) = some (if apartC s.Charts then .inr (needL s ++ s.Charts) else .inl false) := by
  have hn := needL_len s
  have hs : ∀ j : Nat, j < s.Charts.length → rickyardref13_Right.s1 fu s (needL s ++ s.Charts.take j, (j : Int)) = some (if ix s.Charts (j : Int) ∉ s.Charts.take j then .inr (needL s ++ s.Charts.take (j + 1), ((j + 1 : Nat) : Int)) else .inl (.inl false)) := by
    intro j hj
    unfold rickyardref13_Right.s1
    have h2 : (j : Int) < (s.Charts.length : Int) := by omega
    have c0 : 0 ≤ (j : Int) := by omega
    have w3 : IntKind.i64.wrap ((j : Int) + 1) = ((j + 1 : Nat) : Int) := by rw [w64 (by omega) (by omega)]; omega
    have hlim : (needL s ++ s.Charts.take j).length + ([ix s.Charts (j : Int)] : List Int).length ≤ LIM := lim_of' (by rw [List.length_append, List.length_take]; simp; omega)
    have e : needL s ++ s.Charts.take (j + 1) = needL s ++ s.Charts.take j ++ [ix s.Charts (j : Int)] := by
      rw [List.take_add_one, List.getElem?_eq_getElem hj, ix_nat hj, List.append_assoc]
      rfl
    simp only [h2, c0, and_self, decide_true, if_true, w3, hlim, rs2_eq hj hl hf, e]
    by_cases g : ix s.Charts (j : Int) ∉ s.Charts.take j
    · rw [if_pos g, if_pos g]
      rfl
    · rw [if_neg g, if_neg g]
      rfl
  by_cases h : apartC s.Charts
  · rw [if_pos h]
    refine loopM_run (S := fun j => (needL s ++ s.Charts.take j, (j : Int))) s.Charts.length (by simp) (fun j hj => by rw [hs j hj, if_pos (h j hj)]) ?_ (by omega)
    unfold rickyardref13_Right.s1
    simp
  · rw [if_neg h]
    refine loopM_bad (S := fun j => (needL s ++ s.Charts.take j, (j : Int))) s.Charts.length (fun j => ix s.Charts (j : Int) ∉ s.Charts.take j) (by simp) ?_ (fun j hj _ hg => by rw [hs j hj, if_pos hg]) (fun j hj _ hg => by rw [hs j hj, if_neg hg]) (by omega)
    apply Classical.byContradiction
    intro hx
    exact h fun i hi => Classical.byContradiction fun hg => hx ⟨i, hi, hg⟩
theorem rs3_eq {fu : Nat} {s : S_api_Super} {l : List Int} (hl : l.length ≤ 60) (hf : 100 < fu) : loopM (rickyardref13_Right.s3 fu s l) fu 0 = some (if ∀ j, j < l.length → inB s (ix l (j : Int)) then .inr () else .inl false) := by
  have hs : ∀ j : Nat, j < l.length → rickyardref13_Right.s3 fu s l (j : Int) = some (if inB s (ix l (j : Int)) then .inr ((j + 1 : Nat) : Int) else .inl (.inl false)) := by
    intro j hj
    unfold rickyardref13_Right.s3
    have h2 : (j : Int) < (l.length : Int) := by omega
    have c0 : 0 ≤ (j : Int) := by omega
    have w3 : IntKind.i64.wrap ((j : Int) + 1) = ((j + 1 : Nat) : Int) := by rw [w64 (by omega) (by omega)]; omega
    simp only [h2, c0, and_self, decide_true, if_true, w3]
    by_cases g1 : ix l (j : Int) < 2
    · have g : ¬ inB s (ix l (j : Int)) := fun x => by unfold inB at x; omega
      rw [decide_eq_true g1, if_neg g]
      rfl
    · by_cases g2 : ix l (j : Int) ≥ s.Tickets.Geometry.Blocks
      · have g : ¬ inB s (ix l (j : Int)) := fun x => by unfold inB at x; omega
        rw [decide_eq_false g1, decide_eq_true g2, if_neg g]
        rfl
      · have g : inB s (ix l (j : Int)) := ⟨by omega, by omega⟩
        rw [decide_eq_false g1, decide_eq_false g2, if_pos g]
        rfl
  by_cases h : ∀ j, j < l.length → inB s (ix l (j : Int))
  · rw [if_pos h]
    refine loopM_run (S := fun j => (j : Int)) l.length rfl (fun j hj => by rw [hs j hj, if_pos (h j hj)]) ?_ (by omega)
    unfold rickyardref13_Right.s3
    simp
  · rw [if_neg h]
    refine loopM_bad (S := fun j => (j : Int)) l.length (fun j => inB s (ix l (j : Int))) rfl ?_ (fun j hj _ hg => by rw [hs j hj, if_pos hg]) (fun j hj _ hg => by rw [hs j hj, if_neg hg]) (by omega)
    apply Classical.byContradiction
    intro hx
    exact h fun i hi => Classical.byContradiction fun hg => hx ⟨i, hi, hg⟩
theorem rsuperRight_eq {fu : Nat} {s : S_api_Super} (hf : 100 < fu) : rickyardref13_Right.f fu s = some (decide (SupOk s)) := by
  unfold rickyardref13_Right.f
  rw [rgeom_eq]
  by_cases hA : supA s
  · have hA' := hA
    unfold supA at hA'
    have hg := hA.2
    have hg' := hg
    unfold geoOk at hg'
    have c1 : ¬ s.Epoch < 1 := by omega
    have c2 : ¬ s.Epoch > 4611686018427387904 := by omega
    rw [decide_eq_false c1, decide_eq_false c2, decide_eq_true hg, rcharts_eq hg hf]
    simp only [Bool.false_eq_true, if_false, Option.bind_some, Bool.not_true]
    by_cases hB : supB s
    · have hB' := hB
      unfold supB at hB'
      have c3 : ¬ s.Tickets.High < 0 := by omega
      have c4 : ¬ s.Tickets.High > s.Tickets.Geometry.Slots := by omega
      have c5 : ¬ s.Tickets.Free < 0 := by omega
      have c6 : ¬ s.Tickets.Free > s.Tickets.High := by omega
      rw [decide_eq_false c3, decide_eq_false c4, decide_eq_false c5, decide_eq_false c6]
      simp only [Bool.false_eq_true, if_false, Option.bind_some]
      by_cases hL : (s.Charts.length : Int) = chartsN s.Tickets.Geometry
      · rw [decide_eq_true hL]
        simp only [Bool.not_true, Bool.false_eq_true, if_false]
        have hlen : s.Charts.length ≤ 50 := by unfold chartsN at hL; omega
        have hn := needL_len s
        have fin : (((loopM (rickyardref13_Right.s1 fu s) fu (needL s, 0)).bind fun e99 => match e99 with | Sum.inl p => some p | Sum.inr x102 => ((loopM (rickyardref13_Right.s3 fu s x102) fu (0)).bind fun e150 => match e150 with | Sum.inl p => some p | Sum.inr x153 => some (true)))) = some (decide (apartC s.Charts ∧ ∀ x ∈ needL s ++ s.Charts, inB s x)) := by
          rw [rs1_eq hlen hf]
          by_cases ha : apartC s.Charts
          · rw [if_pos ha]
            simp only [Option.bind_some]
            rw [rs3_eq (by rw [List.length_append]; omega) hf]
            by_cases hi : ∀ j, j < (needL s ++ s.Charts).length → inB s (ix (needL s ++ s.Charts) (j : Int))
            · rw [if_pos hi, decide_eq_true (⟨ha, mem_ix.2 hi⟩ : apartC s.Charts ∧ ∀ x ∈ needL s ++ s.Charts, inB s x)]
              rfl
            · rw [if_neg hi, decide_eq_false (fun x : apartC s.Charts ∧ ∀ x ∈ needL s ++ s.Charts, inB s x => hi (mem_ix.1 x.2))]
              rfl
          · rw [if_neg ha, decide_eq_false (fun x : apartC s.Charts ∧ ∀ x ∈ needL s ++ s.Charts, inB s x => ha x.1)]
            rfl
        have same : (s.Tickets.High = 0 → s.Tickets.Top = 0) → (decide (apartC s.Charts ∧ ∀ x ∈ needL s ++ s.Charts, inB s x)) = decide (SupOk s) := by
          intro ht
          apply decide_eq_decide.2
          constructor
          · rintro ⟨ha, hi⟩
            refine ⟨hA, hB, ⟨ht, fun hh => hi _ ?_⟩, fun hd => hi _ ?_, hL, mem_ix.1 fun x hx => hi x (List.mem_append_right _ hx), ha⟩
            · apply List.mem_append_left
              unfold needL
              rw [if_neg hh]
              simp
            · apply List.mem_append_left
              unfold needL
              rw [if_neg hd]
              simp
          · intro h
            refine ⟨h.2.2.2.2.2.2, fun x hx => ?_⟩
            rcases List.mem_append.1 hx with hx | hx
            · unfold needL at hx
              rcases List.mem_append.1 hx with hx | hx
              · by_cases h0 : s.Tickets.High = 0
                · rw [if_pos h0] at hx
                  simp at hx
                · rw [if_neg h0] at hx
                  rw [List.mem_singleton.1 hx]
                  exact h.2.2.1.2 h0
              · by_cases h0 : s.Dir = 0
                · rw [if_pos h0] at hx
                  simp at hx
                · rw [if_neg h0] at hx
                  rw [List.mem_singleton.1 hx]
                  exact h.2.2.2.1 h0
            · exact mem_ix.2 h.2.2.2.2.2.1 x hx
        have l1 : ([] : List Int).length + ([s.Tickets.Top] : List Int).length ≤ LIM := lim_of' (by simp)
        by_cases h0 : s.Tickets.High = 0
        · rw [decide_eq_true h0]
          simp only [if_true]
          by_cases ht : s.Tickets.Top = 0
          · rw [decide_eq_true ht]
            simp only [Bool.not_true, Bool.false_eq_true, if_false, Option.bind_some]
            have hsame := same (fun _ => ht)
            by_cases hd : s.Dir = 0
            · rw [decide_eq_true hd]
              have hneed : needL s = [] := by unfold needL; rw [if_pos h0, if_pos hd]; rfl
              rw [← hsame, ← fin, hneed]
              rfl
            · rw [decide_eq_false hd]
              have hneed : needL s = [] ++ [s.Dir] := by unfold needL; rw [if_pos h0, if_neg hd]
              have l2 : ([] : List Int).length + ([s.Dir] : List Int).length ≤ LIM := lim_of' (by simp)
              rw [← hsame, ← fin, hneed]
              simp only [Bool.not_false, if_true, if_pos l2, Option.bind_some]
              rfl
          · rw [decide_eq_false ht]
            have : ¬ SupOk s := fun x => ht (x.2.2.1.1 h0)
            rw [decide_eq_false this]
            rfl
        · rw [decide_eq_false h0]
          simp only [Bool.false_eq_true, if_false, if_pos l1, Option.bind_some]
          have hsame := same (fun x => absurd x h0)
          by_cases hd : s.Dir = 0
          · rw [decide_eq_true hd]
            have hneed : needL s = [] ++ [s.Tickets.Top] := by unfold needL; rw [if_neg h0, if_pos hd]; rfl
            rw [← hsame, ← fin, hneed]
            rfl
          · rw [decide_eq_false hd]
            have hneed : needL s = [] ++ [s.Tickets.Top] ++ [s.Dir] := by unfold needL; rw [if_neg h0, if_neg hd]; rfl
            have l2 : ([] ++ [s.Tickets.Top] : List Int).length + ([s.Dir] : List Int).length ≤ LIM := lim_of' (by simp)
            rw [← hsame, ← fin, hneed]
            simp only [Bool.not_false, if_true, if_pos l2, Option.bind_some]
            rfl
      · rw [decide_eq_false hL, decide_eq_false (fun x : SupOk s => hL x.2.2.2.2.1)]
        rfl
    · rw [decide_eq_false (fun x : SupOk s => hB x.2.1)]
      unfold supB at hB
      by_cases c3 : s.Tickets.High < 0
      · rw [decide_eq_true c3]
        rfl
      · by_cases c4 : s.Tickets.High > s.Tickets.Geometry.Slots
        · rw [decide_eq_false c3, decide_eq_true c4]
          rfl
        · by_cases c5 : s.Tickets.Free < 0
          · rw [decide_eq_false c3, decide_eq_false c4, decide_eq_true c5]
            rfl
          · have c6 : s.Tickets.Free > s.Tickets.High := by omega
            rw [decide_eq_false c3, decide_eq_false c4, decide_eq_false c5, decide_eq_true c6]
            rfl
  · rw [decide_eq_false (fun x : SupOk s => hA x.1)]
    unfold supA at hA
    by_cases c1 : s.Epoch < 1
    · rw [decide_eq_true c1]
      rfl
    · by_cases c2 : s.Epoch > 4611686018427387904
      · rw [decide_eq_false c1, decide_eq_true c2]
        rfl
      · have c3 : ¬ geoOk s.Tickets.Geometry := fun x => hA ⟨by omega, x⟩
        rw [decide_eq_false c1, decide_eq_false c2, decide_eq_false c3]
        rfl
def supH (s : S_api_Super) : List Int := lay (u64n s.Epoch) 8 ++ (lay (u64n s.Tickets.Geometry.Blocks) 4 ++ (lay (u64n s.Tickets.Geometry.Slots) 4 ++ (lay (u64n s.Tickets.Geometry.Gens) 4 ++ (lay (u64n s.Tickets.High) 4 ++ (lay (u64n s.Tickets.Free) 4 ++ (lay (u64n s.Tickets.Top) 2 ++ lay (u64n s.Dir) 2))))))
theorem supH_len (s : S_api_Super) : (supH s).length = 32 := by simp [supH, lay_len]
theorem supH_bytes (s : S_api_Super) : Bytes (supH s) := (lay_bytes _ _).app ((lay_bytes _ _).app ((lay_bytes _ _).app ((lay_bytes _ _).app ((lay_bytes _ _).app ((lay_bytes _ _).app ((lay_bytes _ _).app (lay_bytes _ _)))))))
def supE (s : S_api_Super) : List Int := supH s ++ rowE s.Charts s.Charts.length
theorem supE_len (s : S_api_Super) : (supE s).length = 32 + 2 * s.Charts.length := by simp [supE, supH_len, rowE_len]
theorem supE_bytes (s : S_api_Super) : Bytes (supE s) := (supH_bytes _).app (rowE_bytes _ _)
theorem rsuperPut_eq {fu : Nat} {s : S_api_Super} (hk : s.Charts.length ≤ 8) (hf : 100 < fu) : rickyardref13_Put.f fu s = some ((sealed (summed 7 (s.Charts.length : Int) (supE s))).map toB) := by
  unfold rickyardref13_Put.f
  have hl8 : ∀ z : Int, rickyardref01_Lay.f fu (IntKind.u64.wrap z) 8 = some ((lay (u64n z) 8).map toB) := fun z => rlay64 (n := 8) (by decide) (by omega)
  have hl4 : ∀ z : Int, rickyardref01_Lay.f fu (IntKind.u64.wrap z) 4 = some ((lay (u64n z) 4).map toB) := fun z => rlay64 (n := 4) (by decide) (by omega)
  have hl2 : ∀ z : Int, rickyardref01_Lay.f fu (IntKind.u64.wrap z) 2 = some ((lay (u64n z) 2).map toB) := fun z => rlay64 (n := 2) (by decide) (by omega)
  have e0 : (lay (u64n s.Epoch) 8).map toB ++ (lay (u64n s.Tickets.Geometry.Blocks) 4).map toB ++ (lay (u64n s.Tickets.Geometry.Slots) 4).map toB ++ (lay (u64n s.Tickets.Geometry.Gens) 4).map toB ++ (lay (u64n s.Tickets.High) 4).map toB ++ (lay (u64n s.Tickets.Free) 4).map toB ++ (lay (u64n s.Tickets.Top) 2).map toB ++ (lay (u64n s.Dir) 2).map toB = (supH s).map toB := by simp [supH]
  have lm : ∀ v n, ((lay v n).map toB).length = n := fun v n => by rw [List.length_map, lay_len]
  have lim : ∀ {a : List UInt8} {b : List UInt8}, a.length + b.length ≤ 1000 → a.length + b.length ≤ LIM := fun h => lim_of' h
  have hloop : loopM (rickyardref13_Put.s0 fu s) fu ((supH s).map toB, 0) = some ((supE s).map toB) := by
    refine loopM_run (S := fun j => ((supH s ++ rowE s.Charts j).map toB, (j : Int))) s.Charts.length (by simp [rowE]) ?_ ?_ (by omega)
    · intro j hj
      unfold rickyardref13_Put.s0
      have h1 : (j : Int) < (s.Charts.length : Int) := by omega
      have c0 : 0 ≤ (j : Int) := by omega
      have w3 : IntKind.i64.wrap ((j : Int) + 1) = ((j + 1 : Nat) : Int) := by rw [w64 (by omega) (by omega)]; omega
      have hlim : ((supH s ++ rowE s.Charts j).map toB).length + ((lay (u64n (ix s.Charts (j : Int))) 2).map toB).length ≤ LIM := lim_of' (by rw [List.length_map, List.length_map, List.length_append, supH_len, rowE_len, lay_len]; omega)
      simp only [h1, c0, and_self, decide_true, if_true, w3, hl2, Option.bind_some, hlim]
      rw [← List.map_append, List.append_assoc]
      congr 5
      rw [rowE, rowE, flat_succ]
    · unfold rickyardref13_Put.s0
      simp [supE]
  have hs := rseal_eq (fu := fu) (k := 7) (t := (s.Charts.length : Int)) (supE_bytes s) (by omega) (by omega) (by rw [supE_len]; omega) hf
  simp only [hl8, hl4, hl2, Option.bind_some]
  rw [if_pos (lim (by simp only [List.length_append, lm]; decide)), if_pos (lim (by simp only [List.length_append, lm]; decide)), if_pos (lim (by simp only [List.length_append, lm]; decide)), if_pos (lim (by simp only [List.length_append, lm]; decide)), if_pos (lim (by simp only [List.length_append, lm]; decide)), if_pos (lim (by simp only [List.length_append, lm]; decide)), if_pos (lim (by simp only [List.length_append, lm]; decide)), e0, hloop, Option.bind_some, hs]
  rfl
theorem next_eq {fu : Nat} {b : List Int} {i n : Nat} (hb : Bytes b) (h : i + n ≤ b.length) (hn : n ≤ 8) (hf : 100 < fu) : super_reader_next.f fu ⟨b.drop i⟩ (n : Int) = some (intAt b i n, ⟨b.drop (i + n)⟩) := by
  unfold super_reader_next.f
  have hl : (b.drop i).length = b.length - i := List.length_drop
  have c1 : 0 ≤ (n : Int) ∧ (n : Int) ≤ ((b.drop i).length : Int) := by omega
  have e0 : cut (b.drop i) 0 (n : Int) = part b i n := by unfold cut part; simp
  have e1 : cut (b.drop i) (n : Int) ((b.drop i).length : Int) = b.drop (i + n) := by
    unfold cut
    rw [Int.toNat_natCast, Int.toNat_natCast, List.take_length, List.drop_drop]
  have hr : octet_Read.f fu (part b i n) = some ((num (part b i n) : Nat) : Int) := read_eq (part_bytes hb i n) (by rw [part_len h]; exact hn) (by rw [part_len h]; omega)
  simp only [if_pos c1, e0, e1, hr, Option.bind_some]
  rfl
def chartsOf (body : List Int) (t : Nat) : List Int := (List.range t).map fun i => intAt body (32 + 2 * i) 2
def supOf (body : List Int) (t : Nat) : S_api_Super := ⟨intAt body 0 8, ⟨⟨intAt body 8 4, intAt body 12 4, intAt body 16 4⟩, intAt body 28 2, intAt body 20 4, intAt body 24 4⟩, intAt body 30 2, chartsOf body t⟩
theorem supE_of {body : List Int} (hb : Bytes body) {t : Nat} (h : 32 + 2 * t ≤ body.length) : supE (supOf body t) = body.take (32 + 2 * t) := by
  have e1 : rowE (chartsOf body t) t = (body.drop 32).take (2 * t) := by
    rw [← field_flat (w := 2) t (by rw [List.length_drop]; omega)]
    apply flat_congr
    intro i hi
    unfold chartsOf
    rw [ix_map hi, lay_part hb (by omega) (by decide)]
    unfold part fieldAt
    rw [List.drop_drop]
  have hk : (chartsOf body t).length = t := by simp [chartsOf]
  have e2 : supH (supOf body t) = body.take 32 := by
    unfold supH supOf
    simp only
    rw [lay_part hb (by omega) (by decide), lay_part hb (by omega) (by decide), lay_part hb (by omega) (by decide), lay_part hb (by omega) (by decide), lay_part hb (by omega) (by decide), lay_part hb (by omega) (by decide), lay_part hb (by omega) (by decide), lay_part hb (by omega) (by decide)]
    unfold part
    rw [show (32 : Nat) = 0 + 8 + 4 + 4 + 4 + 4 + 4 + 2 + 2 from rfl, List.take_add, List.take_add, List.take_add, List.take_add, List.take_add, List.take_add, List.take_add, List.take_add]
    simp
  unfold supE
  have hk2 : (supOf body t).Charts = chartsOf body t := rfl
  rw [hk2, hk, e1, e2, List.take_add]
def noU : S_api_Super := ⟨0, ⟨⟨0, 0, 0⟩, 0, 0, 0⟩, 0, []⟩
def GetU (b : List Int) : Prop := Is b ∧ ix b 4 = 7 ∧ ix b 5 ≤ 8 ∧ SupOk (supOf (b.drop 8) (ix b 5).toNat) ∧ ∀ y ∈ (b.drop 8).drop (32 + 2 * (ix b 5).toNat), y = 0
instance (b : List Int) : Decidable (GetU b) := inferInstanceAs (Decidable (_ ∧ _))
theorem superGet_eq {fu : Nat} {b : List Int} (hb : Bytes b) (hl : b.length ≤ 9000000000000000000) (hf : 100 < fu) : super_Get.f fu b = some (if GetU b then (supOf (b.drop 8) (ix b 5).toNat, true) else (noU, false)) := by
  unfold super_Get.f
  rw [open_eq hb hl hf]
  by_cases hi : Is b
  · have h8 := is_body hi
    obtain ⟨b4, b5⟩ := is_tag hb hi
    rw [if_pos hi]
    simp only [Option.bind_some, Bool.not_true, Bool.false_eq_true, if_false]
    by_cases h4 : ix b 4 = 7
    · by_cases h5 : ix b 5 ≤ 8
      · have h5' : ¬ ix b 5 > 8 := by omega
        obtain ⟨t, ht⟩ : ∃ t : Nat, ix b 5 = (t : Int) := ⟨(ix b 5).toNat, by omega⟩
        have hbd := hb.drop 8
        obtain ⟨body, hbody⟩ : ∃ body, body = b.drop 8 := ⟨_, rfl⟩
        rw [← hbody] at h8 hbd
        have n0 : super_reader_next.f fu ⟨body⟩ 8 = some (intAt body 0 8, ⟨body.drop 8⟩) := next_eq (i := 0) (n := 8) hbd (by omega) (by decide) hf
        have n8 : super_reader_next.f fu ⟨body.drop 8⟩ 4 = some (intAt body 8 4, ⟨body.drop 12⟩) := next_eq (i := 8) (n := 4) hbd (by omega) (by decide) hf
        have n12 : super_reader_next.f fu ⟨body.drop 12⟩ 4 = some (intAt body 12 4, ⟨body.drop 16⟩) := next_eq (i := 12) (n := 4) hbd (by omega) (by decide) hf
        have n16 : super_reader_next.f fu ⟨body.drop 16⟩ 4 = some (intAt body 16 4, ⟨body.drop 20⟩) := next_eq (i := 16) (n := 4) hbd (by omega) (by decide) hf
        have n20 : super_reader_next.f fu ⟨body.drop 20⟩ 4 = some (intAt body 20 4, ⟨body.drop 24⟩) := next_eq (i := 20) (n := 4) hbd (by omega) (by decide) hf
        have n24 : super_reader_next.f fu ⟨body.drop 24⟩ 4 = some (intAt body 24 4, ⟨body.drop 28⟩) := next_eq (i := 24) (n := 4) hbd (by omega) (by decide) hf
        have n28 : super_reader_next.f fu ⟨body.drop 28⟩ 2 = some (intAt body 28 2, ⟨body.drop 30⟩) := next_eq (i := 28) (n := 2) hbd (by omega) (by decide) hf
        have n30 : super_reader_next.f fu ⟨body.drop 30⟩ 2 = some (intAt body 30 2, ⟨body.drop 32⟩) := next_eq (i := 30) (n := 2) hbd (by omega) (by decide) hf
        have hloop : loopM (super_Get.s0 fu (ix b 4, ix b 5, body, true)) fu (0, [], body.drop 32) = some (chartsOf body t, body.drop (32 + 2 * t)) := by
          refine loopM_run (S := fun j => ((j : Int), chartsOf body j, body.drop (32 + 2 * j))) t (by simp [chartsOf]) ?_ ?_ (by omega)
          · intro j hj
            unfold super_Get.s0
            have h1 : (j : Int) < ix b 5 := by omega
            have w3 : IntKind.i64.wrap ((j : Int) + 1) = ((j + 1 : Nat) : Int) := by rw [w64 (by omega) (by omega)]; omega
            have hn : super_reader_next.f fu ⟨body.drop (32 + 2 * j)⟩ 2 = some (intAt body (32 + 2 * j) 2, ⟨body.drop (32 + 2 * j + 2)⟩) := next_eq (n := 2) hbd (by omega) (by decide) hf
            have hlim : (chartsOf body j).length + ([intAt body (32 + 2 * j) 2] : List Int).length ≤ LIM := lim_of' (by simp [chartsOf]; omega)
            simp only [h1, decide_true, if_true, w3, hn, Option.bind_some, hlim]
            simp [chartsOf, List.range_succ, Nat.mul_add, Nat.add_assoc]
          · unfold super_Get.s0
            simp [ht]
        have hrl : (body.drop (32 + 2 * t)).length = 56 - (32 + 2 * t) := by rw [List.length_drop, h8]
        have hn := noughts_eq (fu := fu) (b := body.drop (32 + 2 * t)) (i := 0) (n := 56 - (32 + 2 * t)) (by omega) (by omega) (by omega)
        have e8 : ((body.drop (32 + 2 * t)).drop 0).take (56 - (32 + 2 * t)) = body.drop (32 + 2 * t) := by rw [List.drop_zero]; exact List.take_of_length_le (by omega)
        rw [e8, ← hrl] at hn
        have hn' := hn
        rw [show ((0 : Nat) : Int) = 0 from rfl] at hn'
        have hN : (⟨intAt body 0 8, ⟨⟨intAt body 8 4, intAt body 12 4, intAt body 16 4⟩, intAt body 28 2, intAt body 20 4, intAt body 24 4⟩, intAt body 30 2, chartsOf body t⟩ : S_api_Super) = supOf body t := rfl
        rw [← hbody]
        simp only [h4, h5', decide_true, decide_false, Bool.not_true, Bool.false_eq_true, if_false] at hloop ⊢
        simp only [n0, n8, n12, n16, n20, n24, n28, n30, Option.bind_some, hloop]
        simp only [hn', hN, superRight_eq hf, Option.bind_some]
        have hgi : GetU b ↔ (SupOk (supOf body t) ∧ ∀ y ∈ body.drop (32 + 2 * t), y = 0) := by
          unfold GetU
          rw [ht, ← hbody, Int.toNat_natCast]
          exact ⟨fun x => x.2.2.2, fun x => ⟨hi, h4, by omega, x⟩⟩
        rw [ht, Int.toNat_natCast]
        by_cases hr : SupOk (supOf body t)
        · by_cases hz : ∀ y ∈ body.drop (32 + 2 * t), y = 0
          · rw [if_pos (hgi.2 ⟨hr, hz⟩), decide_eq_true hr, decide_eq_true hz]
            rfl
          · rw [if_neg (fun x => hz (hgi.1 x).2), decide_eq_true hr, decide_eq_false hz]
            rfl
        · rw [if_neg (fun x => hr (hgi.1 x).1), decide_eq_false hr]
          rfl
      · have h5' : ix b 5 > 8 := by omega
        have hg : ¬ GetU b := fun x => h5 x.2.2.1
        rw [if_neg hg, decide_eq_true h4, decide_eq_true h5']
        rfl
    · have hg : ¬ GetU b := fun x => h4 x.2.1
      rw [if_neg hg, decide_eq_false h4]
      rfl
  · have hg : ¬ GetU b := fun x => hi x.1
    rw [if_neg hi, if_neg hg]
    rfl
theorem rsuperGet_eq {fu : Nat} {b : List Int} (hb : Bytes b) (hf : 100 < fu) : rickyardref13_Get.f fu b = some (if GetU b then (supOf (b.drop 8) (ix b 5).toNat, true) else (noU, false)) := by
  unfold rickyardref13_Get.f
  rw [ropen_eq hb hf]
  by_cases hi : Is b
  · have h8 := is_body hi
    obtain ⟨b4, b5⟩ := is_tag hb hi
    rw [if_pos hi]
    simp only [Option.bind_some, Bool.not_true, Bool.false_eq_true, if_false]
    by_cases h4 : ix b 4 = 7
    · by_cases h5 : ix b 5 ≤ 8
      · have h5' : ¬ ix b 5 > 8 := by omega
        obtain ⟨t, ht⟩ : ∃ t : Nat, ix b 5 = (t : Int) := ⟨(ix b 5).toNat, by omega⟩
        have hbd := hb.drop 8
        obtain ⟨body, hbody⟩ : ∃ body, body = b.drop 8 := ⟨_, rfl⟩
        have hq0 : ∀ {k tg : Int} {bd : List Int}, (0 ≤ k ∧ k ≤ 255) → (0 ≤ tg ∧ tg ≤ 255) → Bytes bd → bd.length ≤ 56 → ((sealed (summed k tg bd)).map toB = b.map toB ↔ k = ix b 4 ∧ tg = ix b 5 ∧ bd ++ List.replicate (56 - bd.length) 0 = b.drop 8) := fun h1 h2 h3 h4 => sealed_map_iff hb hi h1 h2 h3 h4
        rw [← hbody] at h8 hbd
        have n0 : rickyardref01_Int.f fu (cut (body.map toB) 0 8) = some (intAt body 0 8) := rintAt_eq (i := 0) (n := 8) hbd (by omega) (by decide) hf
        have n8 : rickyardref01_Int.f fu (cut (body.map toB) 8 12) = some (intAt body 8 4) := rintAt_eq (i := 8) (n := 4) hbd (by omega) (by decide) hf
        have n12 : rickyardref01_Int.f fu (cut (body.map toB) 12 16) = some (intAt body 12 4) := rintAt_eq (i := 12) (n := 4) hbd (by omega) (by decide) hf
        have n16 : rickyardref01_Int.f fu (cut (body.map toB) 16 20) = some (intAt body 16 4) := rintAt_eq (i := 16) (n := 4) hbd (by omega) (by decide) hf
        have n20 : rickyardref01_Int.f fu (cut (body.map toB) 20 24) = some (intAt body 20 4) := rintAt_eq (i := 20) (n := 4) hbd (by omega) (by decide) hf
        have n24 : rickyardref01_Int.f fu (cut (body.map toB) 24 28) = some (intAt body 24 4) := rintAt_eq (i := 24) (n := 4) hbd (by omega) (by decide) hf
        have n28 : rickyardref01_Int.f fu (cut (body.map toB) 28 30) = some (intAt body 28 2) := rintAt_eq (i := 28) (n := 2) hbd (by omega) (by decide) hf
        have n30 : rickyardref01_Int.f fu (cut (body.map toB) 30 32) = some (intAt body 30 2) := rintAt_eq (i := 30) (n := 2) hbd (by omega) (by decide) hf
        have hloop : loopM (rickyardref13_Get.s0 fu (ix b 4, ix b 5, body.map toB, true)) fu (0, []) = some (chartsOf body t) := by
          refine loopM_run (S := fun j => ((j : Int), chartsOf body j)) t (by simp [chartsOf]) ?_ ?_ (by omega)
          · intro j hj
            unfold rickyardref13_Get.s0
            have h1 : (j : Int) < ix b 5 := by omega
            have w3 : IntKind.i64.wrap ((j : Int) + 1) = ((j + 1 : Nat) : Int) := by rw [w64 (by omega) (by omega)]; omega
            have w4 : IntKind.i64.wrap (2 * (j : Int)) = ((2 * j : Nat) : Int) := by rw [w64 (by omega) (by omega)]; omega
            have w5 : IntKind.i64.wrap (32 + ((2 * j : Nat) : Int)) = ((32 + 2 * j : Nat) : Int) := by rw [w64 (by omega) (by omega)]; omega
            have w6 : IntKind.i64.wrap (34 + ((2 * j : Nat) : Int)) = ((32 + 2 * j + 2 : Nat) : Int) := by rw [w64 (by omega) (by omega)]; omega
            have hn : rickyardref01_Int.f fu (cut (body.map toB) ((32 + 2 * j : Nat) : Int) ((32 + 2 * j + 2 : Nat) : Int)) = some (intAt body (32 + 2 * j) 2) := rintAt_eq (n := 2) hbd (by omega) (by decide) hf
            have hlim : (chartsOf body j).length + ([intAt body (32 + 2 * j) 2] : List Int).length ≤ LIM := lim_of' (by simp [chartsOf]; omega)
            have c1 : (0 : Int) ≤ ((32 + 2 * j : Nat) : Int) ∧ ((32 + 2 * j : Nat) : Int) ≤ ((32 + 2 * j + 2 : Nat) : Int) ∧ ((32 + 2 * j + 2 : Nat) : Int) ≤ ((body.map toB).length : Int) := by rw [List.length_map]; omega
            simp only [h1, decide_true, if_true, w3, w4, w5, w6, hn, Option.bind_some, hlim, if_pos c1]
            simp [chartsOf, List.range_succ]
          · unfold rickyardref13_Get.s0
            simp [ht]
        have hN : (⟨intAt body 0 8, ⟨⟨intAt body 8 4, intAt body 12 4, intAt body 16 4⟩, intAt body 28 2, intAt body 20 4, intAt body 24 4⟩, intAt body 30 2, chartsOf body t⟩ : S_api_Super) = supOf body t := rfl
        have hkl : (supOf body t).Charts.length = t := by simp [supOf, chartsOf]
        have hgi : GetU b ↔ (SupOk (supOf body t) ∧ ∀ y ∈ body.drop (32 + 2 * t), y = 0) := by
          unfold GetU
          rw [ht, ← hbody, Int.toNat_natCast]
          exact ⟨fun x => x.2.2.2, fun x => ⟨hi, h4, by omega, x⟩⟩
        have cl : ((body.map toB).length : Int) = 56 := by rw [List.length_map]; omega
        rw [← hbody]
        simp only [h4, h5', decide_true, decide_false, Bool.not_true, Bool.false_eq_true, if_false] at hloop ⊢
        have k8 : (8 : Int) ≤ ((body.map toB).length : Int) := by omega
        have k12 : (12 : Int) ≤ ((body.map toB).length : Int) := by omega
        have k16 : (16 : Int) ≤ ((body.map toB).length : Int) := by omega
        have k20 : (20 : Int) ≤ ((body.map toB).length : Int) := by omega
        have k24 : (24 : Int) ≤ ((body.map toB).length : Int) := by omega
        have k28 : (28 : Int) ≤ ((body.map toB).length : Int) := by omega
        have k30 : (30 : Int) ≤ ((body.map toB).length : Int) := by omega
        have k32 : (32 : Int) ≤ ((body.map toB).length : Int) := by omega
        simp only [n0, n8, n12, n16, n20, n24, n28, n30, Option.bind_some, hloop, if_pos k8, if_pos k12, if_pos k16, if_pos k20, if_pos k24, if_pos k28, if_pos k30, if_pos k32]
        have hput := rsuperPut_eq (fu := fu) (s := supOf body t) (by rw [hkl]; omega) hf
        simp only [hN, rsuperRight_eq hf, hput, Option.bind_some]
        have hel := supE_len (supOf body t)
        rw [hkl] at hel
        have hq := hq0 (k := 7) (tg := (t : Int)) (bd := supE (supOf body t)) (by omega) (by omega) (supE_bytes _) (by omega)
        have hfl := full_iff (body := supE (supOf body t)) (full := body) (by omega) h8
        rw [← hbody] at hq
        rw [hel, supE_of hbd (show 32 + 2 * t ≤ body.length by omega)] at hfl
        rw [hel, supE_of hbd (show 32 + 2 * t ≤ body.length by omega)] at hq
        rw [hkl, supE_of hbd (show 32 + 2 * t ≤ body.length by omega), ht, Int.toNat_natCast]
        by_cases hr : SupOk (supOf body t)
        · by_cases hz : ∀ y ∈ body.drop (32 + 2 * t), y = 0
          · rw [if_pos (hgi.2 ⟨hr, hz⟩), decide_eq_true hr, decide_eq_true (hq.2 ⟨h4.symm, ht.symm, hfl.2 ⟨rfl, hz⟩⟩)]
            rfl
          · rw [if_neg (fun x => hz (hgi.1 x).2), decide_eq_true hr, decide_eq_false (fun x => hz (hfl.1 (hq.1 x).2.2).2)]
            rfl
        · rw [if_neg (fun x => hr (hgi.1 x).1), decide_eq_false hr]
          rfl
      · have h5' : ix b 5 > 8 := by omega
        have hg : ¬ GetU b := fun x => h5 x.2.2.1
        rw [if_neg hg, decide_eq_true h4, decide_eq_true h5']
        rfl
    · have hg : ¬ GetU b := fun x => h4 x.2.1
      rw [if_neg hg, decide_eq_false h4]
      rfl
  · have hg : ¬ GetU b := fun x => hi x.1
    rw [if_neg hi, if_neg hg]
    rfl
theorem same_sup {a b : S_api_Super} : (a = b) ↔ a.Epoch = b.Epoch ∧ a.Tickets = b.Tickets ∧ a.Dir = b.Dir ∧ a.Charts = b.Charts := by
  cases a
  cases b
  simp
theorem same_tick {a b : S_api_Tickets} : (a = b) ↔ a.Geometry = b.Geometry ∧ a.Top = b.Top ∧ a.High = b.High ∧ a.Free = b.Free := by
  cases a
  cases b
  simp
theorem rsuperSame_eq {fu : Nat} {a b : S_api_Super} (hl : a.Charts.length ≤ 9000000000000000000) (hf : a.Charts.length < fu) : rickyardref13_Same.f fu a b = some (decide (a = b)) := by
  unfold rickyardref13_Same.f
  rw [ints2_eq hl hf]
  have hab : a = b ↔ a.Epoch = b.Epoch ∧ (a.Tickets.Geometry = b.Tickets.Geometry ∧ a.Tickets.Top = b.Tickets.Top ∧ a.Tickets.High = b.Tickets.High ∧ a.Tickets.Free = b.Tickets.Free) ∧ a.Dir = b.Dir ∧ a.Charts = b.Charts := by
    rw [same_sup, same_tick]
  by_cases h1 : a.Epoch = b.Epoch
  · by_cases h2 : a.Tickets.Geometry = b.Tickets.Geometry
    · by_cases h3 : a.Tickets.High = b.Tickets.High
      · by_cases h4 : a.Tickets.Free = b.Tickets.Free
        · by_cases h5 : a.Tickets.Top = b.Tickets.Top
          · by_cases h6 : a.Dir = b.Dir
            · by_cases h7 : a.Charts = b.Charts
              · rw [decide_eq_true h1, decide_eq_true h2, decide_eq_true h3, decide_eq_true h4, decide_eq_true h5, decide_eq_true h6, decide_eq_true h7, decide_eq_true (hab.2 ⟨h1, ⟨h2, h5, h3, h4⟩, h6, h7⟩)]
                rfl
              · rw [decide_eq_true h1, decide_eq_true h2, decide_eq_true h3, decide_eq_true h4, decide_eq_true h5, decide_eq_true h6, decide_eq_false h7, decide_eq_false (fun x => h7 (hab.1 x).2.2.2)]
                rfl
            · rw [decide_eq_true h1, decide_eq_true h2, decide_eq_true h3, decide_eq_true h4, decide_eq_true h5, decide_eq_false h6, decide_eq_false (fun x => h6 (hab.1 x).2.2.1)]
              rfl
          · rw [decide_eq_true h1, decide_eq_true h2, decide_eq_true h3, decide_eq_true h4, decide_eq_false h5, decide_eq_false (fun x => h5 (hab.1 x).2.1.2.1)]
            rfl
        · rw [decide_eq_true h1, decide_eq_true h2, decide_eq_true h3, decide_eq_false h4, decide_eq_false (fun x => h4 (hab.1 x).2.1.2.2.2)]
          rfl
      · rw [decide_eq_true h1, decide_eq_true h2, decide_eq_false h3, decide_eq_false (fun x => h3 (hab.1 x).2.1.2.2.1)]
        rfl
    · rw [decide_eq_true h1, decide_eq_false h2, decide_eq_false (fun x => h2 (hab.1 x).2.1.1)]
      rfl
  · rw [decide_eq_false h1, decide_eq_false (fun x => h1 (hab.1 x).1)]
    rfl
def getS (b : List Int) : S_api_Super × Bool := if GetU b then (supOf (b.drop 8) (ix b 5).toNat, true) else (noU, false)
def readS (d : Dev) (k : Int) : S_api_Super × Bool := if (0 ≤ k ∧ k < 2) ∧ inL d k ∧ d.off = false then getS (octs (lineC d k)) else (noU, false)
def pick2 (a b : S_api_Super × Bool) : S_api_Super × Int × Bool := if b.2 = true ∧ (a.2 = false ∨ b.1.Epoch > a.1.Epoch) then (b.1, 1, true) else (a.1, 0, a.2)
theorem pick2_f {a b : S_api_Super × Bool} (h : b.2 = false) : pick2 a b = (a.1, 0, a.2) := if_neg (fun q => by rw [h] at q; cases q.1)
theorem pick2_t {a b : S_api_Super × Bool} (h : b.2 = true) (h2 : a.2 = false ∨ b.1.Epoch > a.1.Epoch) : pick2 a b = (b.1, 1, true) := if_pos ⟨h, h2⟩
theorem pick2_n {a b : S_api_Super × Bool} (h1 : a.2 = true) (h2 : ¬ b.1.Epoch > a.1.Epoch) : pick2 a b = (a.1, 0, a.2) := if_neg (fun q => by
  rcases q.2 with q | q
  · rw [h1] at q
    cases q
  · exact h2 q)
theorem getS_no {b : List Int} (h : (getS b).2 = false) : (getS b).1 = noU := by
  unfold getS at h ⊢
  split
  · rename_i q
    rw [if_pos q] at h
    cases h
  · rfl
theorem readS_no {d : Dev} {k : Int} (h : (readS d k).2 = false) : (readS d k).1 = noU := by
  unfold readS at h ⊢
  split
  · rename_i q
    rw [if_pos q] at h
    exact getS_no h
  · rfl
theorem root_read_eq {fu n : Nat} {B k : Int} {d : Dev} (h : DevOk n B d) (hn : n ≤ 100000) (hf : 2000 < fu) : root_Read.f fu d k = some (readS d k) := by
  unfold root_Read.f
  by_cases hk : 0 ≤ k ∧ k < 2
  · rw [decide_eq_false (show ¬ k < 0 by omega), decide_eq_false (show ¬ k ≥ 2 by omega), if_neg (by decide), read_dev h hn hf]
    simp only [Option.bind_some]
    unfold readD
    by_cases hi : inL d k
    · cases ho : d.off
      · have e1 : readS d k = getS (octs (lineC d k)) := if_pos ⟨hk, hi, ho⟩
        rw [if_pos hi, e1]
        simp only [Bool.false_eq_true, if_false, decide_true, Bool.not_true]
        rw [superGet_eq (octsB _) (by rw [octs_len]; simp [lineC]) (by omega)]
        rfl
      · have e1 : readS d k = (noU, false) := if_neg (fun q => by have := q.2.2; rw [ho] at this; cases this)
        rw [if_pos hi, e1]
        rfl
    · have e1 : readS d k = (noU, false) := if_neg (fun q => hi q.2.1)
      rw [if_neg hi, e1]
      rfl
  · have e1 : readS d k = (noU, false) := if_neg (fun q => hk q.1)
    have : (if (decide (k < 0)) = true then true else (decide (k ≥ 2))) = true := by
      by_cases h1 : k < 0
      · rw [decide_eq_true h1, if_pos rfl]
      · rw [decide_eq_false h1, if_neg (by decide), decide_eq_true (by omega)]
    rw [if_pos this, e1]
    rfl
theorem root_pick_eq {fu n : Nat} {B : Int} {d : Dev} (h : DevOk n B d) (hn : n ≤ 100000) (hf : 2000 < fu) : root_Pick.f fu d = some (pick2 (readS d 0) (readS d 1)) := by
  have h0 := readS_no (d := d) (k := 0)
  have h1 := readS_no (d := d) (k := 1)
  have r0 := root_read_eq (fu := fu) (k := 0) h hn hf
  have r1 := root_read_eq (fu := fu) (k := 1) h hn hf
  generalize ha : readS d 0 = a at *
  generalize hb : readS d 1 = b at *
  unfold root_Pick.f
  have st : ∀ (e : Int × Bool × S_api_Super), loopM (root_Pick.s0 fu d) fu (0, false, 0, (0 : Int), (⟨(⟨(0 : Int), (0 : Int), (0 : Int)⟩ : S_api_Geometry), (0 : Int), (0 : Int), (0 : Int)⟩ : S_api_Tickets), (0 : Int), []) = some (e.1, e.2.1, e.2.2.Epoch, e.2.2.Tickets, e.2.2.Dir, e.2.2.Charts) → ((loopM (root_Pick.s0 fu d) fu (0, false, 0, (0 : Int), (⟨(⟨(0 : Int), (0 : Int), (0 : Int)⟩ : S_api_Geometry), (0 : Int), (0 : Int), (0 : Int)⟩ : S_api_Tickets), (0 : Int), [])).bind fun e12 => some ((⟨e12.2.2.1, e12.2.2.2.1, e12.2.2.2.2.1, e12.2.2.2.2.2⟩ : S_api_Super), e12.1, e12.2.1)) = some (e.2.2, e.1, e.2.1) := by
    intro e he
    rw [he]
    rfl
  have key : ∃ e : Int × Bool × S_api_Super, loopM (root_Pick.s0 fu d) fu (0, false, 0, (0 : Int), (⟨(⟨(0 : Int), (0 : Int), (0 : Int)⟩ : S_api_Geometry), (0 : Int), (0 : Int), (0 : Int)⟩ : S_api_Tickets), (0 : Int), []) = some (e.1, e.2.1, e.2.2.Epoch, e.2.2.Tickets, e.2.2.Dir, e.2.2.Charts) ∧ (e.2.2, e.1, e.2.1) = pick2 a b := by
    obtain ⟨k, rfl⟩ : ∃ k, fu = k + 1 + 1 + 1 := ⟨fu - 3, by omega⟩
    have hs0 : root_Pick.s0 (k + 1 + 1 + 1) d (0, false, 0, (0 : Int), (⟨(⟨(0 : Int), (0 : Int), (0 : Int)⟩ : S_api_Geometry), (0 : Int), (0 : Int), (0 : Int)⟩ : S_api_Tickets), (0 : Int), []) = some (.inr (0, a.2, 1, a.1.Epoch, a.1.Tickets, a.1.Dir, a.1.Charts)) := by
      unfold root_Pick.s0
      simp only [r0, Option.bind_some]
      cases h2 : a.2
      · rw [h0 h2]
        rfl
      · rfl
    have hs1 : root_Pick.s0 (k + 1 + 1 + 1) d (0, a.2, 1, a.1.Epoch, a.1.Tickets, a.1.Dir, a.1.Charts) = some (.inr ((pick2 a b).2.1, (pick2 a b).2.2, 2, (pick2 a b).1.Epoch, (pick2 a b).1.Tickets, (pick2 a b).1.Dir, (pick2 a b).1.Charts)) := by
      cases hb2 : b.2
      · rw [pick2_f hb2]
        unfold root_Pick.s0
        simp only [r1, Option.bind_some, hb2]
        rfl
      · cases ha2 : a.2
        · rw [pick2_t hb2 (.inl ha2)]
          unfold root_Pick.s0
          simp only [r1, Option.bind_some, hb2]
          rfl
        · by_cases hE : b.1.Epoch > a.1.Epoch
          · rw [pick2_t hb2 (.inr hE)]
            unfold root_Pick.s0
            simp only [r1, Option.bind_some, hb2, decide_eq_true hE]
            rfl
          · rw [pick2_n ha2 hE]
            unfold root_Pick.s0
            simp only [r1, Option.bind_some, hb2, decide_eq_false hE, ha2]
            rfl
    have hs2 : ∀ z, root_Pick.s0 (k + 1 + 1 + 1) d ((pick2 a b).2.1, (pick2 a b).2.2, 2, z) = some (.inl ((pick2 a b).2.1, (pick2 a b).2.2, z)) := by
      intro z
      unfold root_Pick.s0
      rfl
    refine ⟨((pick2 a b).2.1, (pick2 a b).2.2, (pick2 a b).1), ?_, rfl⟩
    unfold loopM
    rw [hs0]
    simp only []
    unfold loopM
    rw [hs1]
    simp only []
    unfold loopM
    rw [hs2]
  obtain ⟨e, he, hp⟩ := key
  rw [st e he, hp]
/-- What the document reads of octets. -/
def atS (l : List Int) (k : Int) : S_api_Super × Bool := if (0 ≤ k ∧ k < 2) ∧ 64 * k + 64 ≤ (l.length : Int) then getS (cut l (64 * k) (64 * k + 64)) else (noU, false)
theorem rat_eq {fu : Nat} {l : List Int} {k : Int} (hb : Bytes l) (hl : l.length ≤ 100000) (hk : I64 k) (hf : 2000 < fu) : rickyardref16_At.f fu (l.map toB) k = some (atS l k) := by
  unfold rickyardref16_At.f
  by_cases h0 : 0 ≤ k ∧ k < 2
  · have w1 : IntKind.i64.wrap (64 * k) = 64 * k := w64 (by omega) (by omega)
    have w2 : IntKind.i64.wrap (64 * k + 64) = 64 * k + 64 := w64 (by omega) (by omega)
    rw [w1, w2, List.length_map, decide_eq_false (show ¬ k < 0 by omega), decide_eq_false (show ¬ k > 1 by omega)]
    by_cases hL : 64 * k + 64 ≤ (l.length : Int)
    · have e1 : atS l k = getS (cut l (64 * k) (64 * k + 64)) := if_pos ⟨h0, hL⟩
      rw [decide_eq_false (show ¬ (l.length : Int) < 64 * k + 64 by omega), if_neg (by decide), if_pos (by omega), cut_map, List.map_map, e1]
      have hcb : Bytes (cut l (64 * k) (64 * k + 64)) := fun x hx => hb x (List.mem_of_mem_take (List.mem_of_mem_drop hx))
      have : List.map (ofB ∘ toB) (cut l (64 * k) (64 * k + 64)) = cut l (64 * k) (64 * k + 64) := by
        rw [← List.map_map]
        exact of_toB hcb
      rw [this, rsuperGet_eq hcb (by omega)]
      rfl
    · have e1 : atS l k = (noU, false) := if_neg (fun q => hL q.2)
      rw [decide_eq_true (show (l.length : Int) < 64 * k + 64 by omega), if_pos (by decide), e1]
      rfl
  · have e1 : atS l k = (noU, false) := if_neg (fun q => h0 q.1)
    have : ∀ x : Bool, (if (decide (k < 0)) = true then true else (if (decide (k > 1)) = true then true else x)) = true := by
      intro x
      by_cases h1 : k < 0
      · rw [decide_eq_true h1, if_pos rfl]
      · rw [decide_eq_false h1, if_neg (by decide), decide_eq_true (show k > 1 by omega), if_pos rfl]
    rw [if_pos (this _), e1]
    rfl
theorem rpick_eq {fu : Nat} {l : List Int} (hb : Bytes l) (hl : l.length ≤ 100000) (hf : 2000 < fu) : rickyardref16_Pick.f fu (l.map toB) = some (pick2 (atS l 0) (atS l 1)) := by
  unfold rickyardref16_Pick.f
  rw [rat_eq hb hl (by unfold I64; decide) hf, rat_eq hb hl (by unfold I64; decide) hf]
  simp only [Option.bind_some]
  generalize atS l 0 = a
  generalize atS l 1 = b
  cases hb2 : b.2
  · rw [pick2_f hb2]
    rfl
  · cases ha2 : a.2
    · rw [pick2_t hb2 (.inl ha2)]
      rfl
    · by_cases hE : b.1.Epoch > a.1.Epoch
      · rw [pick2_t hb2 (.inr hE), decide_eq_true hE]
        rfl
      · rw [pick2_n ha2 hE, decide_eq_false hE, ha2]
        rfl
theorem getS_len (b : List Int) : (getS b).1.Charts.length ≤ 8 := by
  unfold getS
  split
  · rename_i h
    exact (h.2.2.2.1).len.1
  · exact Nat.zero_le _
theorem atS_len (l : List Int) (k : Int) : (atS l k).1.Charts.length ≤ 8 := by
  unfold atS
  split
  · exact getS_len _
  · exact Nat.zero_le _
theorem pick2_len {a b : S_api_Super × Bool} (ha : a.1.Charts.length ≤ 8) (hb : b.1.Charts.length ≤ 8) : (pick2 a b).1.Charts.length ≤ 8 := by
  unfold pick2
  split
  · exact hb
  · exact ha
/-- The words of a device are octets of its line. -/
theorem lineC_stored {d : Dev} {k : Nat} (h : 8 * k + 8 ≤ d.cells.length) : cut (storedD d) ((8 * k : Nat) : Int) ((8 * k + 8 : Nat) : Int) = lineC d (k : Int) := by
  have hl : (storedD d).length = d.cells.length := by simp [storedD]
  apply List.ext_getElem
  · rw [cut_len' (by omega)]
    simp [lineC]
  · intro i h1 h2
    have hi : i < 8 := by simpa [lineC] using h2
    rw [cut_get h1 (by omega)]
    simp only [storedD, lineC, List.getElem_map, List.getElem_range]
    rw [show 8 * (k : Int) + (i : Int) = ((8 * k + i : Nat) : Int) from by omega, ix_nat (by omega)]
/-- A device that holds octets reads as these. -/
theorem readS_of {d : Dev} {l : List Int} {k : Int} (ho : d.off = false) (hl : l.length = 8 * d.cells.length) (hd : d.cells.length % 8 = 0) (hs : octs (storedD d) = l) : readS d k = atS l k := by
  unfold readS atS
  by_cases h0 : 0 ≤ k ∧ k < 2
  · by_cases hi : inL d k
    · have hin := hi
      unfold inL at hin
      rw [if_pos ⟨h0, hi, ho⟩, if_pos ⟨h0, by omega⟩]
      obtain ⟨q, rfl⟩ : ∃ q : Nat, k = (q : Int) := ⟨k.toNat, by omega⟩
      have := octs_cut (storedD d) (8 * q) (8 * q + 8)
      rw [lineC_stored (by omega), hs] at this
      rw [← this]
      congr 2 <;> omega
    · rw [if_neg (fun q => hi q.2.1), if_neg (fun q => hi ⟨h0.1, by omega⟩)]
  · rw [if_neg (fun q => h0 q.1), if_neg (fun q => h0 q.1)]
theorem awake16 : rickyardlaw16_awake.f FU = some true := by decide +kernel
theorem RootPicks : ∀ (a0 : List Int) (a1 : Int), ((∀ x ∈ a0, (Lit.int .u8 x).wf = true) ∧ List.length a0 ≤ maxLen) → (Lit.int .i64 a1).wf = true → ∃ fu, rickyardlaw16_RootPicks.f fu a0 a1 = some true := by
  intro l k hl hk
  refine ⟨FU, ?_⟩
  unfold rickyardlaw16_RootPicks.f
  rw [awake16]
  simp only [Option.bind_some, Bool.not_true, Bool.false_eq_true, if_false]
  by_cases hL : (l.length : Int) > 500
  · rw [decide_eq_true hL]
    rfl
  rw [decide_eq_false hL, if_neg (by decide)]
  have hb : Bytes l := fun x hx => wf8.1 (hl.1 x hx)
  have hI : I64 k := wf64.1 hk
  have hf : pmem_From.f FU l = some (fromD l) := from_eq hb (by omega) (by show _ < 200000; omega)
  have hd := from_ok hb
  have e0 : Int.tdiv (l.length : Int) 64 = ((l.length / 64 : Nat) : Int) := by
    rw [Int.tdiv_eq_ediv_of_nonneg (by omega)]
    omega
  have e1 : IntKind.i64.wrap ((l.length / 64 : Nat) : Int) = ((l.length / 64 : Nat) : Int) := w64 (by omega) (by omega)
  have e2 : IntKind.i64.wrap (64 * ((l.length / 64 : Nat) : Int)) = ((64 * (l.length / 64) : Nat) : Int) := by rw [w64 (by omega) (by omega)]; omega
  have e4 : cut l 0 ((64 * (l.length / 64) : Nat) : Int) = l.take (64 * (l.length / 64)) := by
    unfold cut
    rw [Int.toNat_natCast]
    rfl
  rw [hf]
  simp only [Option.bind_some, e0, e1, e2, e4]
  rw [if_pos (by omega)]
  have hwb : Bytes (l.take (64 * (l.length / 64))) := hb.take _
  have hwl : (l.take (64 * (l.length / 64))).length = 64 * (l.length / 64) := by rw [List.length_take]; omega
  have hcl := hd.len
  have hst : octs (storedD (fromD l)) = l.take (64 * (l.length / 64)) := by
    rw [from_stored, octs_words hb _ (by omega)]
    congr 1
    omega
  have hro : ∀ p, readS (fromD l) p = atS (l.take (64 * (l.length / 64))) p := fun p => readS_of rfl (by rw [hwl, hcl]; omega) (by rw [hcl]; omega) hst
  rw [root_read_eq hd (by omega) (by decide), root_pick_eq hd (by omega) (by decide), rat_eq hwb (by omega) hI (by decide), rpick_eq hwb (by omega) (by decide), hro, hro, hro]
  have h1 := atS_len (l.take (64 * (l.length / 64))) k
  have h2 := pick2_len (atS_len (l.take (64 * (l.length / 64))) 0) (atS_len (l.take (64 * (l.length / 64))) 1)
  generalize atS (l.take (64 * (l.length / 64))) k = a at *
  generalize pick2 (atS (l.take (64 * (l.length / 64))) 0) (atS (l.take (64 * (l.length / 64))) 1) = b at *
  simp only [Option.bind_some, decide_true, if_true]
  rw [rsuperSame_eq (by omega) (by show _ < 200000; omega), rsuperSame_eq (by omega) (by show _ < 200000; omega)]
  simp
end Go.Proofs.Ytklhbaghbmndeaa.Pure
namespace Go.Proofs.Ytklhbaghbmndeaa.rootPicks
open Go.ChangeShapes Go.WideShapes Go.ChangeAt Go.RowKit
open Go.ChangeMaps (open_string shut_string)
open Go Go.Xw
theorem own : ownKnob Try.prog.godebug = none := Facts.own
theorem laidOut : laidOutB Try.prog = true := Facts.laid
theorem closed : joinedFacts Try.pinned.checked.prog 18 Try.f18 Rows.rootPicksSpec Rows.rootPicksRow = true := by
  unfold joinedFacts
  rw [Facts.enter, Facts.lifts, Facts.make, Facts.laid, Facts.rowed, Facts.plain, Facts.heard]
  kernel_rfl
theorem enc_seg {α : Type} (K : Kd α) (a : α) : K.enc a = cellsOf [Kd.seg K a] := by simp [cellsOf, Kd.seg]
def start : Input := ⟨#[], #[.slice none 0 0, .int .i64 0], []⟩
set_option maxRecDepth 100000 in
set_option maxHeartbeats 1000000 in
theorem lifted (os : Os) (started : os.Started) (H : Type) (enc : TypeId × Value → H) :
    ReturnsInHanded {} Try.checked os 18 .any (Rows.rootPicksSpec.pre6 enc Try.prog Try.f18 Rows.rootPicksRow.domain false) (Rows.rootPicksSpec.post enc Try.prog Try.f18 false true false false) := by
  refine returnsInHanded_of_change_sized (C := Try.checked) own started (by kernel_rfl) Try.func18
    (ChangeSpec.witness6 (enc := enc) (C := Try.checked) false start 8 (by kernel_rfl) (by kernel_rfl) (by kernel_rfl) (by kernel_rfl)) ?_
  intro W base args ds gs before hval0 hW hcnd hsz0 _
  have hval : ∀ (j : Nat) t v, Try.f18.params[j]? = some t → args[j]? = some v → Value.okWide Try.prog W .any base t v := hval0
  have hW' := hW
  obtain ⟨p, q, hA0, hV, rfl, hfz, hnd⟩ := hW
  have hA : DataW.TrodAll enc Try.prog W 0 (fun _ => true) true Try.f18.params.toList args.toList ds p := hA0
  rw [Try.params18] at hA hval
  obtain ⟨v0, vs0, d0, ds0, p0, q0, hargs, rfl, rfl, h0, r0⟩ := trodAll_cons hA
  obtain ⟨v1, vs1, d1, ds1, p1, q1, rfl, rfl, rfl, h1, r1⟩ := trodAll_cons r0
  obtain ⟨rfl, rfl, rfl⟩ := trodAll_nil r1
  obtain rfl : args = #[v0, v1] := by cases args; simp_all
  obtain ⟨rfl, rfl⟩ := trodVars_none hV
  have k0 := h0
  have lt0 : ∀ x ∈ p0, x.block < W.heap.size := by obtain ⟨m, hm⟩ := k0; exact DataW.trod_lt m _ _ _ hm
  obtain ⟨fu0, hf0⟩ := h0
  obtain ⟨aa0, len0, cap0, rfl⟩ := okWide_slice Try.underlying43 (hval 0 43 v0 rfl rfl)
  obtain ⟨a0, V0_0, e0, R0_0, o0, l0, _⟩ := (opn_slice (K := (kI .u8)) Try.underlying43 (by kernel_rfl) (by decide) (opn_int Try.underlying5)) enc _ _ _ _ _ _ hf0
  obtain rfl : Value.slice aa0 len0 cap0 = V0_0 := by simpa [Value.cells] using e0
  obtain ⟨a1, rfl, rfl, rfl, w1⟩ := open_int Try.underlying3 (hval 1 3 v1 rfl rfl) h1
  obtain ⟨fu, hfu⟩ := Pure.RootPicks a0 a1 ⟨o0, l0⟩ w1
  refine Calls.mono (rickyardlaw16_RootPicks.ok fu W a0 _ R0_0 a1 true hfu) fun e W' hr => ?_
  obtain ⟨v, rfl, rfl, gr⟩ := hr
  have bel := Fr.below gr
  exact ⟨_, rfl, _, _, _, [], _, [], hW', trodAll_mk1 (shut_bool Try.underlying4 _), (trodAll_cons_mk (Below.trod laidOut (by kernel_rfl) (of_decide_eq_true (by kernel_rfl)) k0 bel lt0) (trodAll_cons_mk (shut_int Try.underlying3 w1) trodAll_mk0)), rfl, bel.frame _, fun h => by cases h⟩
theorem over : Rows.rootPicksRow.holds Try.pinned (OpenSpec.ofChange Rows.rootPicksSpec) :=
  OpenClaim.holds_of_wide 18 Try.f18 rfl rfl rfl rfl rfl rfl rfl ⟨rfl, rfl, rfl, rfl, rfl⟩ rfl rfl rfl rfl rfl (by kernel_rfl) Try.func18 closed
    (of_decide_eq_true (by kernel_rfl)) (by unfold Func.isWrapper; first | (rw [if_pos (by decide +kernel)]; kernel_rfl) | (rw [if_neg (by decide +kernel)]; exact ⟨rfl, rfl⟩))
    (fun os started H enc _ => lifted os started H enc)
theorem proved : Rows.RootPicksSaid := over
end Go.Proofs.Ytklhbaghbmndeaa.rootPicks
namespace Go.Proofs.Ytklhbaghbmndeaa
/-- The law holds. -/
theorem rootPicks_holds : Rows.RootPicksSaid := rootPicks.proved
#print axioms rootPicks_holds
end Go.Proofs.Ytklhbaghbmndeaa
