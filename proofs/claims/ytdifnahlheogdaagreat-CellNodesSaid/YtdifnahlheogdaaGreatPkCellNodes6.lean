/- CellNodes: texts merged, part 6 of 6. The last part proves that the law CellNodes holds for every input. -/
import Derived.Test.YtdifnahlheogdaaGreatPkCellNodes5
import Derived.OpenShut
import Derived.ProofKit
import Derived.ChangeOld
import Derived.Below
import Derived.SizedLaws
set_option maxRecDepth 100000
set_option maxHeartbeats 4000000
set_option linter.unusedVariables false
set_option linter.unusedSimpArgs false
namespace Go.Proofs.YtdifnahlheogdaaGreat.Pure
open Go Go.Xw Go.Yw
theorem Bytes.app {a b : List Int} (ha : Bytes a) (hb : Bytes b) : Bytes (a ++ b) := by
  intro x hx
  rcases List.mem_append.1 hx with h | h
  · exact ha x h
  · exact hb x h
theorem Bytes.rep (n : Nat) : Bytes (List.replicate n (0 : Int)) := by
  intro x hx
  obtain rfl := List.eq_of_mem_replicate hx
  omega
def summed (k t : Int) (body : List Int) : List Int := [k, t, 0, 0] ++ (body ++ List.replicate (56 - body.length) 0)
def sealed (s : List Int) : List Int := lay (crc s).toNat 4 ++ s
theorem summed_len {k t : Int} {body : List Int} (h : body.length ≤ 56) : (summed k t body).length = 60 := by
  simp [summed]
  omega
theorem summed_bytes {k t : Int} {body : List Int} (hk : 0 ≤ k ∧ k ≤ 255) (ht : 0 ≤ t ∧ t ≤ 255) (hb : Bytes body) : Bytes (summed k t body) := by
  refine Bytes.app ?_ (Bytes.app hb (Bytes.rep _))
  intro x hx
  simp only [List.mem_cons, List.not_mem_nil, or_false] at hx
  rcases hx with rfl | rfl | rfl | rfl <;> omega
theorem sealed_len {s : List Int} (h : s.length = 60) : (sealed s).length = 64 := by
  simp [sealed, lay_len, h]
theorem sealed_bytes {s : List Int} (h : Bytes s) : Bytes (sealed s) := Bytes.app (lay_bytes _ _) h
theorem rlay4_eq {fu : Nat} (x : BitVec 32) (hf : 8 < fu) : rickyardref01_Lay.f fu (IntKind.u64.wrap (I32 x)) 4 = some ((lay x.toNat 4).map toB) := by
  have hb := I32_lt x
  rw [wu64 hb.1 (by omega)]
  exact rlay_eq (n := 4) (by have := x.isLt; omega) (by decide) (by omega)
theorem fill_eq {fu : Nat} {body : List Int} (hl : body.length ≤ 56) : rickyardref07_Fill.f fu (body.map toB) 56 = some ((body ++ List.replicate (56 - body.length) 0).map toB) := by
  unfold rickyardref07_Fill.f
  have e1 : mxI (IntKind.i64.wrap (56 - (List.length (body.map toB) : Int))) 0 = ((56 - body.length : Nat) : Int) := by
    rw [List.length_map, w64 (by omega) (by omega)]
    unfold mxI
    split <;> omega
  have hL : (100 : Nat) ≤ LIM := by decide
  rw [e1, Int.toNat_natCast, if_pos ⟨by omega, by omega⟩, if_pos (by simp only [List.length_map, List.length_replicate]; omega), List.map_append]
theorem rseal_eq {fu : Nat} {k t : Int} {body : List Int} (hb : Bytes body) (hk : 0 ≤ k ∧ k ≤ 255) (ht : 0 ≤ t ∧ t ≤ 255) (hl : body.length ≤ 56) (hf : 100 < fu) : rickyardref07_Seal.f fu k t (body.map toB) = some ((sealed (summed k t body)).map toB) := by
  have hs := summed_len (k := k) (t := t) hl
  have hsb := summed_bytes hk ht hb
  unfold rickyardref07_Seal.f
  rw [wu8 hk.1 hk.2, wu8 ht.1 ht.2]
  have e1 : List.map toB [k, t, 0, 0] ++ List.map toB (body ++ List.replicate (56 - body.length) 0) = (summed k t body).map toB := by
    rw [← List.map_append]
    rfl
  have hL : (100 : Nat) ≤ LIM := by decide
  have e2 : List.length (List.map toB [k, t, 0, 0]) + List.length (List.map toB (body ++ List.replicate (56 - body.length) 0)) ≤ LIM := by
    simp
    omega
  simp only [fill_eq (fu := fu) hl, Option.bind_some, e1, of_toB hsb, rsum_eq (fu := fu) hsb (by omega) (by omega), rlay4_eq (fu := fu) _ (by omega : 8 < fu)]
  rw [if_pos e2, if_pos (by simp [lay_len, hs]; omega)]
  simp [sealed]
theorem there_eq {fu : Nat} {b : List Int} {i n : Nat} (hl : b.length ≤ 9000000000000000000) (h : i + n ≤ b.length) : octet_there.f fu b (i : Int) (n : Int) = some true := by
  unfold octet_there.f
  have h1 : (i : Int) ≥ 0 := by omega
  have h2 : (n : Int) ≥ 0 := by omega
  have h3 : (n : Int) ≤ (b.length : Int) := by omega
  have h4 : IntKind.i64.wrap ((b.length : Int) - (n : Int)) = (b.length : Int) - (n : Int) := w64 (by omega) (by omega)
  have h5 : (i : Int) ≤ (b.length : Int) - (n : Int) := by omega
  simp [h1, h2, h3, h4, h5]
theorem noughts_from {fu : Nat} (b : List Int) (x n : Int) {C : List Int} (hC : cut b x (IntKind.i64.wrap (x + n)) = C) (hl : C.length ≤ 9000000000000000000) : ∀ k m, m ≤ C.length → C.length - m < k → loopM (octet_Noughts.s0 fu b x n) k (m : Int) = some (if ∀ y ∈ C.drop m, y = 0 then .inr () else .inl false)
  | 0, m, _, hk => by omega
  | k + 1, m, hm, hk => by
    unfold loopM
    by_cases e : m = C.length
    · subst e
      have : octet_Noughts.s0 fu b x n (C.length : Int) = some (.inl (.inr ())) := by
        unfold octet_Noughts.s0
        rw [hC]
        simp
      rw [this]
      simp
    · have hlt : m < C.length := by omega
      have hx : ix C (m : Int) = C[m] := ix_nat hlt
      rw [List.drop_eq_getElem_cons hlt]
      have h1 : (m : Int) < (C.length : Int) := by omega
      by_cases hn : C[m] = 0
      · have w3 : IntKind.i64.wrap ((m : Int) + 1) = ((m + 1 : Nat) : Int) := by rw [w64 (by omega) (by omega)]; omega
        have : octet_Noughts.s0 fu b x n (m : Int) = some (.inr ((m + 1 : Nat) : Int)) := by
          unfold octet_Noughts.s0
          rw [hC]
          simp [h1, hx, hn, w3, hlt]
        rw [this]
        simp only
        rw [noughts_from b x n hC hl k (m + 1) (by omega) (by omega)]
        have e3 : (∀ y ∈ C[m] :: C.drop (m + 1), y = 0) ↔ ∀ y ∈ C.drop (m + 1), y = 0 := by
          constructor
          · intro h y hy
            exact h y (List.mem_cons_of_mem _ hy)
          · intro h y hy
            rcases List.mem_cons.1 hy with rfl | hy
            · exact hn
            · exact h y hy
        simp only [e3]
      · have : octet_Noughts.s0 fu b x n (m : Int) = some (.inl (.inl false)) := by
          unfold octet_Noughts.s0
          rw [hC]
          simp [h1, hx, hn, hlt]
        rw [this]
        have e3 : ¬ (∀ y ∈ C[m] :: C.drop (m + 1), y = 0) := fun h => hn (h _ (List.mem_cons_self ..))
        simp only [e3, if_false]
theorem noughts_eq {fu : Nat} {b : List Int} {i n : Nat} (hl : b.length ≤ 9000000000000000000) (h : i + n ≤ b.length) (hf : n < fu) : octet_Noughts.f fu b (i : Int) (n : Int) = some (decide (∀ y ∈ (b.drop i).take n, y = 0)) := by
  unfold octet_Noughts.f
  rw [there_eq hl h]
  have w1 : IntKind.i64.wrap ((i : Int) + (n : Int)) = ((i + n : Nat) : Int) := by rw [w64 (by omega) (by omega)]; omega
  have hC : cut b (i : Int) (IntKind.i64.wrap ((i : Int) + (n : Int))) = (b.drop i).take n := by
    rw [w1]
    unfold cut
    rw [Int.toNat_natCast, Int.toNat_natCast, List.drop_take]
    congr 1
    omega
  have hlen : ((b.drop i).take n).length = n := by
    rw [List.length_take, List.length_drop]
    omega
  have := noughts_from (fu := fu) b (i : Int) (n : Int) hC (by omega) fu 0 (by omega) (by omega)
  rw [Int.natCast_zero, List.drop_zero] at this
  have c1 : 0 ≤ (i : Int) ∧ (i : Int) ≤ IntKind.i64.wrap ((i : Int) + (n : Int)) ∧ IntKind.i64.wrap ((i : Int) + (n : Int)) ≤ (b.length : Int) := by
    rw [w1]
    omega
  simp only [Option.bind_some, Bool.not_true, Bool.false_eq_true, if_false]
  rw [if_pos c1, this]
  by_cases hz : ∀ y ∈ (b.drop i).take n, y = 0
  · rw [if_pos hz]
    simp only [Option.bind_some, decide_eq_true hz]
  · rw [if_neg hz]
    simp only [Option.bind_some, decide_eq_false hz]
def Is (b : List Int) : Prop := b.length = 64 ∧ ix b 4 ≠ 0 ∧ b = sealed (summed (ix b 4) (ix b 5) (b.drop 8))
instance (b : List Int) : Decidable (Is b) := inferInstanceAs (Decidable (_ ∧ _))
theorem parts {b : List Int} (h : b.length = 64) : b = b.take 4 ++ ([ix b 4, ix b 5, ix b 6, ix b 7] ++ b.drop 8) := by
  have e : b.drop 4 = [ix b 4, ix b 5, ix b 6, ix b 7] ++ b.drop 8 := by
    have g : ∀ j : Nat, j < 64 → b.drop j = ix b (j : Int) :: b.drop (j + 1) := by
      intro j hj
      rw [List.drop_eq_getElem_cons (by omega), ix_nat (by omega)]
    rw [g 4 (by omega), g 5 (by omega), g 6 (by omega), g 7 (by omega)]
    rfl
  rw [← e, List.take_append_drop]
theorem gap_eq {b : List Int} (h : b.length = 64) : (b.drop 6).take 2 = [ix b 6, ix b 7] := by
  have g : ∀ j : Nat, j < 64 → b.drop j = ix b (j : Int) :: b.drop (j + 1) := by
    intro j hj
    rw [List.drop_eq_getElem_cons (by omega), ix_nat (by omega)]
  rw [g 6 (by omega), g 7 (by omega)]
  rfl
theorem drop4 {b : List Int} (h : b.length = 64) : b.drop 4 = [ix b 4, ix b 5, ix b 6, ix b 7] ++ b.drop 8 := by
  have g : ∀ j : Nat, j < 64 → b.drop j = ix b (j : Int) :: b.drop (j + 1) := by
    intro j hj
    rw [List.drop_eq_getElem_cons (by omega), ix_nat (by omega)]
  rw [g 4 (by omega), g 5 (by omega), g 6 (by omega), g 7 (by omega)]
  rfl
theorem summed_full (k t : Int) {body : List Int} (h : body.length = 56) : summed k t body = [k, t, 0, 0] ++ body := by
  unfold summed
  rw [h]
  simp
theorem is_iff {b : List Int} (hb : Bytes b) (h : b.length = 64) : b = sealed (summed (ix b 4) (ix b 5) (b.drop 8)) ↔ (ix b 6 = 0 ∧ ix b 7 = 0) ∧ num (b.take 4) = (crc (b.drop 4)).toNat := by
  have h8 : (b.drop 8).length = 56 := by rw [List.length_drop, h]
  have h4 : (b.take 4).length = 4 := by rw [List.length_take, h]; rfl
  rw [summed_full _ _ h8]
  constructor
  · intro e
    have e2 : b.take 4 ++ b.drop 4 = lay (crc ([ix b 4, ix b 5, 0, 0] ++ b.drop 8)).toNat 4 ++ ([ix b 4, ix b 5, 0, 0] ++ b.drop 8) := by
      rw [List.take_append_drop]
      exact e
    obtain ⟨e3, e4⟩ := List.append_inj e2 (by rw [h4, lay_len])
    have e5 := e4
    rw [drop4 h] at e5
    have e6 := List.append_inj_left e5 rfl
    simp only [List.cons.injEq, and_true, true_and] at e6
    refine ⟨e6, ?_⟩
    rw [e3, e4, num_lay]
    exact Nat.mod_eq_of_lt (crc _).isLt
  · rintro ⟨⟨h6, h7⟩, hn⟩
    have e4 : b.drop 4 = [ix b 4, ix b 5, 0, 0] ++ b.drop 8 := by
      have := drop4 h
      rw [h6, h7] at this
      exact this
    unfold sealed
    rw [← e4, ← hn]
    have := lay_num (hb.take 4)
    rw [h4] at this
    rw [this, List.take_append_drop]
theorem right_is {fu : Nat} {b : List Int} (hb : Bytes b) (hl : b.length ≤ 9000000000000000000) (hf : 100 < fu) : block_right.f fu b = some (decide (Is b)) := by
  unfold block_right.f
  by_cases h : b.length = 64
  · have hL : (b.length : Int) = 64 := by omega
    by_cases h4 : ix b 4 = 0
    · simp [hL, h4, Is]
    · have hn : octet_Noughts.f fu b 6 2 = some (decide (∀ y ∈ (b.drop 6).take 2, y = 0)) := noughts_eq (i := 6) (n := 2) hl (by omega) (by omega)
      have hg : (∀ y ∈ (b.drop 6).take 2, y = 0) ↔ ix b 6 = 0 ∧ ix b 7 = 0 := by
        rw [gap_eq h]
        simp
      by_cases hz : ix b 6 = 0 ∧ ix b 7 = 0
      · have c1 : cut b 0 4 = b.take 4 := by
          unfold cut
          rfl
        have c2 : cut b 4 (b.length : Int) = b.drop 4 := by
          unfold cut
          rw [Int.toNat_natCast, List.take_length]
          rfl
        have h4' : (b.take 4).length = 4 := by rw [List.length_take, h]; rfl
        have hr : octet_Read.f fu (b.take 4) = some ((num (b.take 4) : Nat) : Int) := read_eq (hb.take 4) (by omega) (by omega)
        have hlt : num (b.take 4) < 4294967296 := by
          have := num_lt (hb.take 4)
          rwa [h4'] at this
        have hd : (b.drop 4).length = 60 := by rw [List.length_drop, h]
        have hs : crc_Sum.f fu [b.drop 4] = some (I32 (crc (b.drop 4))) := sum_eq (hb.drop 4) (by omega) (by omega)
        have hw : IntKind.u32.wrap ((num (b.take 4) : Nat) : Int) = ((num (b.take 4) : Nat) : Int) := wu32 (by omega) (by omega)
        have hi : Is b ↔ num (b.take 4) = (crc (b.drop 4)).toNat := by
          unfold Is
          rw [is_iff hb h]
          exact ⟨fun x => x.2.2.2, fun x => ⟨h, h4, hz, x⟩⟩
        have hq : (I32 (crc (b.drop 4)) = ((num (b.take 4) : Nat) : Int)) ↔ Is b := by
          rw [hi]
          unfold I32
          omega
        unfold crc_Fits.f
        rw [hn, decide_eq_true (hg.2 hz), c1, c2, hr]
        simp only [Option.bind_some, hw, hs, hq]
        have hL5 : (4 : Int) < (b.length : Int) := by omega
        have hL6 : (4 : Int) ≤ (b.length : Int) := by omega
        simp [hL, h4]
      · have hi : ¬ Is b := by
          intro x
          unfold Is at x
          rw [is_iff hb h] at x
          exact hz x.2.2.1
        rw [hn, decide_eq_false (fun x => hz (hg.1 x))]
        simp [hL, h4, hi]
  · have hi : ¬ Is b := fun x => h x.1
    have hL : ¬ (b.length : Int) = 64 := by omega
    simp [hL, hi]
theorem open_eq {fu : Nat} {b : List Int} (hb : Bytes b) (hl : b.length ≤ 9000000000000000000) (hf : 100 < fu) : block_Open.f fu b = some (if Is b then (ix b 4, ix b 5, b.drop 8, true) else (0, 0, [], false)) := by
  unfold block_Open.f
  rw [right_is hb hl hf]
  by_cases h : Is b
  · have h0 := h.1
    have c2 : cut b 8 (b.length : Int) = b.drop 8 := by
      unfold cut
      rw [Int.toNat_natCast, List.take_length]
      rfl
    have hc : bytes_Clone.f fu (b.drop 8) = some (b.drop 8) := by
      unfold bytes_Clone.f
      rw [if_pos]
      rw [List.length_drop, h0]
      decide
    have h4 : 0 ≤ ix b 4 ∧ ix b 4 ≤ 255 := by
      have := ix_nat (l := b) (j := 4) (by omega)
      rw [show ((4 : Nat) : Int) = 4 from rfl] at this
      rw [this]
      exact hb _ (List.getElem_mem _)
    have h5 : 0 ≤ ix b 5 ∧ ix b 5 ≤ 255 := by
      have := ix_nat (l := b) (j := 5) (by omega)
      rw [show ((5 : Nat) : Int) = 5 from rfl] at this
      rw [this]
      exact hb _ (List.getElem_mem _)
    have w4 : IntKind.i64.wrap (ix b 4) = ix b 4 := w64 (by omega) (by omega)
    have w5 : IntKind.i64.wrap (ix b 5) = ix b 5 := w64 (by omega) (by omega)
    simp only [c2, hc, w4, w5]
    simp [h, h0]
  · simp [h]
theorem sealed_parts (k t : Int) (body : List Int) : ix (sealed (summed k t body)) 4 = k ∧ ix (sealed (summed k t body)) 5 = t ∧ (sealed (summed k t body)).drop 8 = body ++ List.replicate (56 - body.length) 0 := by
  unfold sealed
  obtain ⟨a, b, c, d, e⟩ : ∃ a b c d, lay (crc (summed k t body)).toNat 4 = [a, b, c, d] := ⟨_, _, _, _, rfl⟩
  rw [e]
  exact ⟨rfl, rfl, rfl⟩
theorem fulled (body : List Int) (h : body.length ≤ 56) : (body ++ List.replicate (56 - body.length) (0 : Int)).length = 56 := by
  simp
  omega
theorem is_sealed {k t : Int} {body : List Int} (hk : k ≠ 0) (hl : body.length ≤ 56) : Is (sealed (summed k t body)) := by
  obtain ⟨h4, h5, h8⟩ := sealed_parts k t body
  refine ⟨sealed_len (summed_len hl), by rw [h4]; exact hk, ?_⟩
  rw [h4, h5, h8, summed_full k t (fulled body hl)]
  rfl
theorem ix_byte {b : List Int} (hb : Bytes b) (j : Nat) (h : j < b.length) : 0 ≤ ix b (j : Int) ∧ ix b (j : Int) ≤ 255 := by
  rw [ix_nat h]
  exact hb _ (List.getElem_mem _)
theorem is_tag {b : List Int} (hb : Bytes b) (hi : Is b) : (0 ≤ ix b 4 ∧ ix b 4 ≤ 255) ∧ (0 ≤ ix b 5 ∧ ix b 5 ≤ 255) := by
  have h0 := hi.1
  exact ⟨ix_byte hb 4 (by omega), ix_byte hb 5 (by omega)⟩
theorem is_body {b : List Int} (hi : Is b) : (b.drop 8).length = 56 := by rw [List.length_drop, hi.1]
def fillA {n : Nat} {α : Type} (f : Nat → α) (a : Arr n α) : Nat → Arr n α
  | 0 => a
  | j + 1 => Arr.set (fillA f a j) (j : Int) (f j)
end Go.Proofs.YtdifnahlheogdaaGreat.Pure
namespace Go.Proofs.YtdifnahlheogdaaGreat
open Go Go.Xw Go.Yw
end Go.Proofs.YtdifnahlheogdaaGreat
namespace Go.Proofs.YtdifnahlheogdaaGreat.Pure
open Go Go.Xw Go.Yw
def u64n (x : Int) : Nat := (x % 18446744073709551616).toNat
theorem u64_wrap (x : Int) : IntKind.u64.wrap x = (u64n x : Int) := by
  unfold u64n IntKind.wrap
  simp only [IntKind.signed, IntKind.bits]
  simp
  omega
theorem u64n_lt (x : Int) : u64n x < 18446744073709551616 := by
  unfold u64n
  omega
theorem u64n_of {x : Int} (h0 : 0 ≤ x) (h1 : x ≤ 18446744073709551615) : u64n x = x.toNat := by
  unfold u64n
  rw [Int.emod_eq_of_lt h0 (by omega)]
theorem i64_u64 {x : Int} (h0 : -9223372036854775808 ≤ x) (h1 : x ≤ 9223372036854775807) : IntKind.i64.wrap (u64n x : Int) = x := by
  unfold u64n IntKind.wrap
  simp only [IntKind.signed, IntKind.bits]
  simp
  split <;> omega
theorem rlay64 {fu n : Nat} {x : Int} (hn : n ≤ 8) (hf : n < fu) : rickyardref01_Lay.f fu (IntKind.u64.wrap x) (n : Int) = some ((lay (u64n x) n).map toB) := by
  rw [u64_wrap]
  exact rlay_eq (u64n_lt x) hn hf
def fieldAt (l : List Int) (w i : Nat) : List Int := (l.drop (w * i)).take w
theorem cut_eq (l : List Int) (i n : Nat) : cut l (i : Int) ((i + n : Nat) : Int) = (l.drop i).take n := by
  unfold cut
  rw [Int.toNat_natCast, Int.toNat_natCast, List.drop_take]
  congr 1
  omega
theorem flat_len {α : Type} {g : Nat → List α} {w : Nat} (hg : ∀ i, (g i).length = w) : ∀ n, ((List.range n).flatMap g).length = w * n
  | 0 => by simp
  | n + 1 => by
    rw [List.range_succ, List.flatMap_append, List.length_append, flat_len hg n]
    simp [hg, Nat.mul_succ]
theorem flat_succ {α : Type} (g : Nat → List α) (n : Nat) : (List.range (n + 1)).flatMap g = (List.range n).flatMap g ++ g n := by
  rw [List.range_succ, List.flatMap_append]
  simp
theorem flat_field {g : Nat → List Int} {w : Nat} (hg : ∀ i, (g i).length = w) {n i : Nat} (hi : i < n) (t : List Int) : fieldAt ((List.range n).flatMap g ++ t) w i = g i := by
  have e : (List.range n).flatMap g = (List.range i).flatMap g ++ (g i ++ ((List.range (n - i - 1)).map (i + 1 + ·)).flatMap g) := by
    have h1 : n = i + (1 + (n - i - 1)) := by omega
    conv => lhs; rw [h1]
    rw [List.range_add, List.flatMap_append, List.range_add, List.map_append, List.flatMap_append]
    congr 1
    simp [List.map_map, Function.comp_def, Nat.add_assoc]
  unfold fieldAt
  rw [e, List.append_assoc, List.drop_left' (flat_len hg i), List.append_assoc, List.take_left' (hg i)]
theorem flat_bytes {g : Nat → List Int} (hg : ∀ i, Bytes (g i)) (n : Nat) : Bytes ((List.range n).flatMap g) := by
  intro x hx
  obtain ⟨i, _, h⟩ := List.mem_flatMap.1 hx
  exact hg i x h
theorem ix_ext {a b : List Int} (hl : a.length = b.length) (h : ∀ j, j < a.length → ix a (j : Int) = ix b (j : Int)) : a = b := by
  apply List.ext_getElem hl
  intro i h1 h2
  rw [← ix_nat h1, ← ix_nat h2]
  exact h i h1
theorem ints2_eq {fu : Nat} {a b : List Int} (ha : a.length ≤ 9000000000000000000) (hf : a.length < fu) : rickyardref01_Ints.f fu a b = some (decide (a = b)) := by
  unfold rickyardref01_Ints.f
  by_cases hl : a.length = b.length
  · have hL : (a.length : Int) = (b.length : Int) := by omega
    rw [decide_eq_true hL]
    simp only [Bool.not_true, Bool.false_eq_true, if_false]
    have hs : ∀ j : Nat, j < a.length → rickyardref01_Ints.s0 fu a b (j : Int) = some (if ix a (j : Int) = ix b (j : Int) then .inr ((j + 1 : Nat) : Int) else .inl (.inl false)) := by
      intro j hj
      unfold rickyardref01_Ints.s0
      have h1 : (j : Int) < (a.length : Int) := by omega
      have h2 : (j : Int) < (b.length : Int) := by omega
      have c0 : 0 ≤ (j : Int) := by omega
      have w3 : IntKind.i64.wrap ((j : Int) + 1) = ((j + 1 : Nat) : Int) := by rw [w64 (by omega) (by omega)]; omega
      simp only [h1, h2, c0, and_self, decide_true, if_true, w3]
      by_cases e : ix a (j : Int) = ix b (j : Int) <;> simp [e]
    by_cases h : a = b
    · have : loopM (rickyardref01_Ints.s0 fu a b) fu 0 = some (.inr ()) := by
        refine loopM_run (S := fun j => (j : Int)) a.length rfl (fun j hj => by rw [hs j hj, if_pos (by rw [h])]) ?_ hf
        unfold rickyardref01_Ints.s0
        simp
      rw [this]
      simp [h]
    · have : loopM (rickyardref01_Ints.s0 fu a b) fu 0 = some (.inl false) := by
        refine loopM_bad (S := fun j => (j : Int)) a.length (fun j => ix a (j : Int) = ix b (j : Int)) rfl ?_ (fun j hj _ hg => by rw [hs j hj, if_pos hg]) (fun j hj _ hg => by rw [hs j hj, if_neg hg]) hf
        apply Classical.byContradiction
        intro hx
        exact h (ix_ext hl fun i hi => Classical.byContradiction fun hg => hx ⟨i, hi, hg⟩)
      rw [this]
      simp [h]
  · have hL : ¬ (a.length : Int) = (b.length : Int) := by omega
    have h : ¬ a = b := fun e => hl (by rw [e])
    rw [decide_eq_false hL, decide_eq_false h]
    rfl
def rowE (l : List Int) (n : Nat) : List Int := (List.range n).flatMap fun (i : Nat) => lay (u64n (ix l (i : Int))) 2
theorem rowE_len (l : List Int) (n : Nat) : (rowE l n).length = 2 * n := flat_len (fun i => lay_len _ _) n
theorem rowE_bytes (l : List Int) (n : Nat) : Bytes (rowE l n) := flat_bytes (fun i => lay_bytes _ _) n
theorem lim_of' {a b : Nat} (h : a + b ≤ 1000) : a + b ≤ LIM := by
  have : (1000 : Nat) ≤ LIM := by decide
  omega
def part (l : List Int) (i n : Nat) : List Int := (l.drop i).take n
theorem part_len {l : List Int} {i n : Nat} (h : i + n ≤ l.length) : (part l i n).length = n := by
  unfold part
  rw [List.length_take, List.length_drop]
  omega
theorem part_bytes {l : List Int} (hb : Bytes l) (i n : Nat) : Bytes (part l i n) := (hb.drop i).take n
def intAt (l : List Int) (i n : Nat) : Int := IntKind.i64.wrap ((num (part l i n) : Nat) : Int)
theorem ix_map {f : Nat → Int} {t i : Nat} (h : i < t) : ix ((List.range t).map f) (i : Int) = f i := by
  rw [ix_nat (by simpa using h)]
  simp
end Go.Proofs.YtdifnahlheogdaaGreat.Pure
namespace Go.Proofs.YtdifnahlheogdaaGreat
open Go Go.Xw Go.Yw
end Go.Proofs.YtdifnahlheogdaaGreat
namespace Go.Proofs.YtdifnahlheogdaaGreat.Pure
open Go Go.Xw Go.Yw
def blockOk (x : Int) : Prop := 2 ≤ x ∧ x ≤ 3071
instance (x : Int) : Decidable (blockOk x) := inferInstanceAs (Decidable (_ ∧ _))
def kidsOk (l : List Int) : Prop := ∀ j, j < l.length → blockOk (ix l (j : Int))
instance (l : List Int) : Decidable (kidsOk l) := inferInstanceAs (Decidable (∀ j, j < l.length → _))
def headOk (n : S_api_Node) : Prop := (0 ≤ n.Entry.Handle.Slot ∧ n.Entry.Handle.Slot ≤ 1791) ∧ (1 ≤ n.Entry.Handle.Gen ∧ n.Entry.Handle.Gen ≤ 4294967295) ∧ n.Kids.length ≤ 12
instance (n : S_api_Node) : Decidable (headOk n) := inferInstanceAs (Decidable (_ ∧ _))
def NodeR (n : S_api_Node) : Prop := headOk n ∧ kidsOk n.Kids
instance (n : S_api_Node) : Decidable (NodeR n) := inferInstanceAs (Decidable (_ ∧ _))
theorem rblock8_eq (fu : Nat) (a : Int) : rickyardref08_Block.f fu a = some (decide (blockOk a)) := by
  unfold rickyardref08_Block.f blockOk
  by_cases h : 2 ≤ a <;> simp [h]
theorem nodeRight_eq {fu : Nat} {n : S_api_Node} (hf : 100 < fu) : node_Right.f fu n = some (decide (NodeR n)) := by
  unfold node_Right.f
  by_cases hh : headOk n
  · have hh' := hh
    unfold headOk at hh'
    obtain ⟨⟨s0, s1⟩, ⟨g0, g1⟩, k1⟩ := hh'
    have c1 : ¬ n.Entry.Handle.Slot < 0 := by omega
    have c2 : ¬ n.Entry.Handle.Slot ≥ 1792 := by omega
    have c3 : ¬ n.Entry.Handle.Gen < 1 := by omega
    have c4 : ¬ n.Entry.Handle.Gen > 4294967295 := by omega
    have c5 : ¬ (n.Kids.length : Int) > 12 := by omega
    have hs : ∀ j : Nat, j < n.Kids.length → slices_IndexFunc_node_Right_1.s0 fu n.Kids (j : Int) = some (if blockOk (ix n.Kids (j : Int)) then .inr ((j + 1 : Nat) : Int) else .inl (.inl (j : Int))) := by
      intro j hj
      unfold slices_IndexFunc_node_Right_1.s0 node_Right_1.f
      have h1 : (j : Int) < (n.Kids.length : Int) := by omega
      have c0 : 0 ≤ (j : Int) := by omega
      have w3 : IntKind.i64.wrap ((j : Int) + 1) = ((j + 1 : Nat) : Int) := by rw [w64 (by omega) (by omega)]; omega
      simp only [h1, c0, and_self, decide_true, if_true, w3, Option.bind_some]
      unfold blockOk
      by_cases h2 : ix n.Kids (j : Int) < 2
      · have h3 : ¬ (2 ≤ ix n.Kids (j : Int) ∧ ix n.Kids (j : Int) ≤ 3071) := by omega
        simp [h2, h3]
      · by_cases h4 : ix n.Kids (j : Int) ≥ 3072
        · have h3 : ¬ (2 ≤ ix n.Kids (j : Int) ∧ ix n.Kids (j : Int) ≤ 3071) := by omega
          simp only [h2, h4, h3, decide_true, decide_false, if_true, if_false, Bool.false_eq_true, Option.bind_some]
        · have h3 : 2 ≤ ix n.Kids (j : Int) ∧ ix n.Kids (j : Int) ≤ 3071 := by omega
          simp only [h2, h4, h3, decide_true, decide_false, if_true, if_false, Bool.false_eq_true, and_self, Option.bind_some]
    have hi : ∃ r : Int, slices_IndexFunc_node_Right_1.f fu n.Kids = some r ∧ (r ≥ 0 ↔ ¬ kidsOk n.Kids) := by
      unfold slices_IndexFunc_node_Right_1.f
      by_cases hk : kidsOk n.Kids
      · have : loopM (slices_IndexFunc_node_Right_1.s0 fu n.Kids) fu 0 = some (.inr ()) := by
          refine loopM_run (S := fun j => (j : Int)) n.Kids.length rfl (fun j hj => by rw [hs j hj, if_pos (hk j hj)]) ?_ (by omega)
          unfold slices_IndexFunc_node_Right_1.s0
          simp
        rw [this]
        exact ⟨-1, rfl, by simp [hk]⟩
      · have hmin : ∀ m j, j ≤ m → (j < n.Kids.length ∧ ¬ blockOk (ix n.Kids (j : Int))) → ∃ q, (q < n.Kids.length ∧ ¬ blockOk (ix n.Kids (q : Int))) ∧ ∀ i, i < q → blockOk (ix n.Kids (i : Int)) := by
          intro m
          induction m with
          | zero =>
            intro j hj hjj
            exact ⟨j, hjj, fun i hi => by omega⟩
          | succ m ih =>
            intro j hj hjj
            by_cases hx : ∃ i, i < j ∧ ¬ blockOk (ix n.Kids (i : Int))
            · obtain ⟨i, hi, hgi⟩ := hx
              exact ih i (by omega) ⟨by omega, hgi⟩
            · exact ⟨j, hjj, fun i hi => Classical.byContradiction fun hg => hx ⟨i, hi, hg⟩⟩
        have hex : ∃ j, j < n.Kids.length ∧ ¬ blockOk (ix n.Kids (j : Int)) := by
          apply Classical.byContradiction
          intro hx
          exact hk fun i hi => Classical.byContradiction fun hg => hx ⟨i, hi, hg⟩
        obtain ⟨j, hj⟩ := hex
        obtain ⟨q, ⟨hq, hg⟩, hall⟩ := hmin j j (Nat.le_refl _) hj
        have : loopM (slices_IndexFunc_node_Right_1.s0 fu n.Kids) fu 0 = some (.inl (q : Int)) :=
          loopM_run (S := fun j => (j : Int)) q rfl (fun i hi => by rw [hs i (by omega), if_pos (hall i hi)]) (by rw [hs q hq, if_neg hg]) (by omega)
        rw [this]
        refine ⟨(q : Int), rfl, ?_⟩
        simp only [hk, not_false_eq_true, iff_true]
        omega
    obtain ⟨r, hr, hrk⟩ := hi
    unfold slices_ContainsFunc_node_Right_1.f
    rw [hr]
    simp only [c1, c2, c3, c4, c5, decide_false, Bool.false_eq_true, if_false, Option.bind_some]
    by_cases hk : kidsOk n.Kids
    · have h1 : ¬ r ≥ 0 := fun x => (hrk.1 x) hk
      have hn : NodeR n := ⟨hh, hk⟩
      rw [decide_eq_false h1, decide_eq_true hn]
      rfl
    · have h1 : r ≥ 0 := hrk.2 hk
      have hn : ¬ NodeR n := fun x => hk x.2
      rw [decide_eq_true h1, decide_eq_false hn]
      rfl
  · have hn : ¬ NodeR n := fun x => hh x.1
    rw [decide_eq_false hn]
    unfold headOk at hh
    by_cases c1 : n.Entry.Handle.Slot < 0
    · rw [decide_eq_true c1, if_pos rfl]
    · rw [decide_eq_false c1, if_neg (by decide)]
      by_cases c2 : n.Entry.Handle.Slot ≥ 1792
      · rw [decide_eq_true c2, if_pos rfl]
      · rw [decide_eq_false c2, if_neg (by decide)]
        by_cases c3 : n.Entry.Handle.Gen < 1
        · rw [decide_eq_true c3, if_pos rfl]
        · rw [decide_eq_false c3, if_neg (by decide)]
          by_cases c4 : n.Entry.Handle.Gen > 4294967295
          · rw [decide_eq_true c4, if_pos rfl]
          · have c5 : (n.Kids.length : Int) > 12 := by omega
            rw [decide_eq_false c4, if_neg (by decide), decide_eq_true c5, if_pos rfl]
theorem rnodeRight_eq {fu : Nat} {n : S_api_Node} (hl : n.Kids.length ≤ 9000000000000000000) (hf : 100 < fu) : rickyardref08_Right.f fu n = some (decide (NodeR n)) := by
  have cut0 : rickyardref08_Right.f fu n = (loopM (rickyardref08_Right.s0 fu n) fu ((if (decide (n.Entry.Handle.Slot ≥ 0)) = true then (if (decide (n.Entry.Handle.Slot ≤ 1791)) = true then (if (decide (n.Entry.Handle.Gen ≥ 1)) = true then (if (decide (n.Entry.Handle.Gen ≤ 4294967295)) = true then (decide ((List.length n.Kids : Int) ≤ 12)) else false) else false) else false) else false), 0)).bind fun e => some e := by
    unfold rickyardref08_Right.f
    generalize decide (n.Entry.Handle.Slot ≥ 0) = b1
    generalize decide (n.Entry.Handle.Slot ≤ 1791) = b2
    generalize decide (n.Entry.Handle.Gen ≥ 1) = b3
    generalize decide (n.Entry.Handle.Gen ≤ 4294967295) = b4
    cases b1 <;> cases b2 <;> cases b3 <;> cases b4 <;> rfl
  rw [cut0]
  have c0 : (if (decide (n.Entry.Handle.Slot ≥ 0)) = true then (if (decide (n.Entry.Handle.Slot ≤ 1791)) = true then (if (decide (n.Entry.Handle.Gen ≥ 1)) = true then (if (decide (n.Entry.Handle.Gen ≤ 4294967295)) = true then (decide ((List.length n.Kids : Int) ≤ 12)) else false) else false) else false) else false) = decide (headOk n) := by
    by_cases hh : headOk n
    · have hh' := hh
      unfold headOk at hh'
      have c1 : n.Entry.Handle.Slot ≥ 0 := by omega
      have c2 : n.Entry.Handle.Slot ≤ 1791 := by omega
      have c3 : n.Entry.Handle.Gen ≥ 1 := by omega
      have c4 : n.Entry.Handle.Gen ≤ 4294967295 := by omega
      have c5 : (n.Kids.length : Int) ≤ 12 := by omega
      rw [decide_eq_true hh, decide_eq_true c1, decide_eq_true c2, decide_eq_true c3, decide_eq_true c4, decide_eq_true c5]
      rfl
    · rw [decide_eq_false hh]
      unfold headOk at hh
      by_cases c1 : n.Entry.Handle.Slot ≥ 0
      · by_cases c2 : n.Entry.Handle.Slot ≤ 1791
        · by_cases c3 : n.Entry.Handle.Gen ≥ 1
          · by_cases c4 : n.Entry.Handle.Gen ≤ 4294967295
            · have c5 : ¬ (n.Kids.length : Int) ≤ 12 := by omega
              rw [decide_eq_true c1, decide_eq_true c2, decide_eq_true c3, decide_eq_true c4, decide_eq_false c5]
              rfl
            · rw [decide_eq_true c1, decide_eq_true c2, decide_eq_true c3, decide_eq_false c4]
              rfl
          · rw [decide_eq_true c1, decide_eq_true c2, decide_eq_false c3]
            rfl
        · rw [decide_eq_true c1, decide_eq_false c2]
          rfl
      · rw [decide_eq_false c1]
        rfl
  rw [c0]
  by_cases hh : headOk n
  · have k1 := hh.2.2
    rw [decide_eq_true hh]
    have hs : ∀ j : Nat, j < n.Kids.length → rickyardref08_Right.s0 fu n (true, (j : Int)) = some (.inr (decide (blockOk (ix n.Kids (j : Int))), ((j + 1 : Nat) : Int))) := by
      intro j hj
      unfold rickyardref08_Right.s0
      have h1 : (j : Int) < (n.Kids.length : Int) := by omega
      have c0 : 0 ≤ (j : Int) := by omega
      have w3 : IntKind.i64.wrap ((j : Int) + 1) = ((j + 1 : Nat) : Int) := by rw [w64 (by omega) (by omega)]; omega
      simp only [h1, c0, and_self, decide_true, if_true, w3, Option.bind_some, rblock8_eq]
    by_cases hk : kidsOk n.Kids
    · have : loopM (rickyardref08_Right.s0 fu n) fu (true, 0) = some true := by
        refine loopM_run (S := fun j => (true, (j : Int))) n.Kids.length rfl (fun j hj => by rw [hs j hj, decide_eq_true (hk j hj)]) ?_ (by omega)
        unfold rickyardref08_Right.s0
        simp
      have hn : NodeR n := ⟨hh, hk⟩
      rw [this, decide_eq_true hn]
      rfl
    · have hmin : ∀ m j, j ≤ m → (j < n.Kids.length ∧ ¬ blockOk (ix n.Kids (j : Int))) → ∃ q, (q < n.Kids.length ∧ ¬ blockOk (ix n.Kids (q : Int))) ∧ ∀ i, i < q → blockOk (ix n.Kids (i : Int)) := by
        intro m
        induction m with
        | zero =>
          intro j hj hjj
          exact ⟨j, hjj, fun i hi => by omega⟩
        | succ m ih =>
          intro j hj hjj
          by_cases hx : ∃ i, i < j ∧ ¬ blockOk (ix n.Kids (i : Int))
          · obtain ⟨i, hi, hgi⟩ := hx
            exact ih i (by omega) ⟨by omega, hgi⟩
          · exact ⟨j, hjj, fun i hi => Classical.byContradiction fun hg => hx ⟨i, hi, hg⟩⟩
      have hex : ∃ j, j < n.Kids.length ∧ ¬ blockOk (ix n.Kids (j : Int)) := by
        apply Classical.byContradiction
        intro hx
        exact hk fun i hi => Classical.byContradiction fun hg => hx ⟨i, hi, hg⟩
      obtain ⟨j, hj⟩ := hex
      obtain ⟨q, ⟨hq, hg⟩, hall⟩ := hmin j j (Nat.le_refl _) hj
      have : loopM (rickyardref08_Right.s0 fu n) fu (true, 0) = some false := by
        refine loopM_run (S := fun j => (decide (j ≤ q), (j : Int))) (q + 1) (by simp) (fun j hj => ?_) ?_ (by omega)
        · rw [decide_eq_true (show j ≤ q by omega), hs j (by omega)]
          congr 3
          by_cases e : j = q
          · subst e
            rw [decide_eq_false hg, decide_eq_false (by omega)]
          · rw [decide_eq_true (hall j (by omega)), decide_eq_true (by omega)]
        · rw [decide_eq_false (by omega)]
          unfold rickyardref08_Right.s0
          by_cases e : ((q + 1 : Nat) : Int) < (n.Kids.length : Int)
          · rw [decide_eq_true e]
            rfl
          · rw [decide_eq_false e]
            rfl
      have hn : ¬ NodeR n := fun x => hk x.2
      rw [this, decide_eq_false hn]
      rfl
  · have hn : ¬ NodeR n := fun x => hh x.1
    rw [decide_eq_false hh, decide_eq_false hn]
    have : loopM (rickyardref08_Right.s0 fu n) fu (false, 0) = some false := by
      refine loopM_run (S := fun j => (false, (j : Int))) 0 rfl (fun j hj => by omega) ?_ (by omega)
      unfold rickyardref08_Right.s0
      by_cases e : ((0 : Nat) : Int) < (n.Kids.length : Int)
      · rw [decide_eq_true e]
        rfl
      · rw [decide_eq_false e]
        rfl
    rw [this]
    rfl
def entryE (e : S_api_Entry) : List Int := lay (u64n e.Key) 8 ++ (lay (u64n e.Value) 8 ++ (lay (u64n e.Handle.Slot) 4 ++ lay (u64n e.Handle.Gen) 4))
theorem entryE_len (e : S_api_Entry) : (entryE e).length = 24 := by simp [entryE, lay_len]
theorem entryE_bytes (e : S_api_Entry) : Bytes (entryE e) := (lay_bytes _ _).app ((lay_bytes _ _).app ((lay_bytes _ _).app (lay_bytes _ _)))
def nodeE (n : S_api_Node) : List Int := entryE n.Entry ++ rowE n.Kids n.Kids.length
theorem nodeE_len (n : S_api_Node) : (nodeE n).length = 24 + 2 * n.Kids.length := by simp [nodeE, entryE_len, rowE_len]
theorem nodeE_bytes (n : S_api_Node) : Bytes (nodeE n) := (entryE_bytes _).app (rowE_bytes _ _)
theorem rnodePut_eq {fu : Nat} {n : S_api_Node} (hk : n.Kids.length ≤ 12) (hf : 100 < fu) : rickyardref08_Put.f fu n = some ((sealed (summed 1 (n.Kids.length : Int) (nodeE n))).map toB) := by
  unfold rickyardref08_Put.f
  have hl0 : rickyardref01_Lay.f fu (IntKind.u64.wrap n.Entry.Key) 8 = some ((lay (u64n n.Entry.Key) 8).map toB) := rlay64 (n := 8) (by decide) (by omega)
  have hl9 : rickyardref01_Lay.f fu (IntKind.u64.wrap n.Entry.Value) 8 = some ((lay (u64n n.Entry.Value) 8).map toB) := rlay64 (n := 8) (by decide) (by omega)
  have hl1 : rickyardref01_Lay.f fu (IntKind.u64.wrap n.Entry.Handle.Slot) 4 = some ((lay (u64n n.Entry.Handle.Slot) 4).map toB) := rlay64 (n := 4) (by decide) (by omega)
  have hl2 : rickyardref01_Lay.f fu (IntKind.u64.wrap n.Entry.Handle.Gen) 4 = some ((lay (u64n n.Entry.Handle.Gen) 4).map toB) := rlay64 (n := 4) (by decide) (by omega)
  have e0 : (lay (u64n n.Entry.Key) 8).map toB ++ (lay (u64n n.Entry.Value) 8).map toB ++ (lay (u64n n.Entry.Handle.Slot) 4).map toB ++ (lay (u64n n.Entry.Handle.Gen) 4).map toB = (entryE n.Entry).map toB := by simp [entryE]
  have hlim0 : ((lay (u64n n.Entry.Key) 8).map toB).length + ((lay (u64n n.Entry.Value) 8).map toB).length ≤ LIM := lim_of' (by simp [lay_len])
  have hlim1 : ((lay (u64n n.Entry.Key) 8).map toB ++ (lay (u64n n.Entry.Value) 8).map toB).length + ((lay (u64n n.Entry.Handle.Slot) 4).map toB).length ≤ LIM := lim_of' (by simp [lay_len])
  have hlim2 : ((lay (u64n n.Entry.Key) 8).map toB ++ (lay (u64n n.Entry.Value) 8).map toB ++ (lay (u64n n.Entry.Handle.Slot) 4).map toB).length + ((lay (u64n n.Entry.Handle.Gen) 4).map toB).length ≤ LIM := lim_of' (by simp [lay_len])
  have hloop : loopM (rickyardref08_Put.s0 fu n) fu ((entryE n.Entry).map toB, 0) = some ((nodeE n).map toB) := by
    refine loopM_run (S := fun j => ((entryE n.Entry ++ rowE n.Kids j).map toB, (j : Int))) n.Kids.length (by simp [rowE]) ?_ ?_ (by omega)
    · intro j hj
      unfold rickyardref08_Put.s0
      have h1 : (j : Int) < (n.Kids.length : Int) := by omega
      have c0 : 0 ≤ (j : Int) := by omega
      have w3 : IntKind.i64.wrap ((j : Int) + 1) = ((j + 1 : Nat) : Int) := by rw [w64 (by omega) (by omega)]; omega
      have hl : rickyardref01_Lay.f fu (IntKind.u64.wrap (ix n.Kids (j : Int))) 2 = some ((lay (u64n (ix n.Kids (j : Int))) 2).map toB) := rlay64 (n := 2) (by decide) (by omega)
      have hlim : ((entryE n.Entry ++ rowE n.Kids j).map toB).length + ((lay (u64n (ix n.Kids (j : Int))) 2).map toB).length ≤ LIM := lim_of' (by rw [List.length_map, List.length_map, List.length_append, entryE_len, rowE_len, lay_len]; omega)
      simp only [h1, c0, and_self, decide_true, if_true, w3, hl, Option.bind_some, hlim]
      rw [← List.map_append, List.append_assoc]
      congr 5
      rw [rowE, rowE, flat_succ]
    · unfold rickyardref08_Put.s0
      simp [nodeE]
  have hs := rseal_eq (fu := fu) (k := 1) (t := (n.Kids.length : Int)) (nodeE_bytes n) (by omega) (by omega) (by rw [nodeE_len]; omega) hf
  simp only [hl0, hl9, hl1, hl2, Option.bind_some, hlim0, hlim1, hlim2, if_true, e0, hloop, hs]
theorem number_eq {fu : Nat} {b : List Int} {i n : Nat} (hb : Bytes b) (hl : b.length ≤ 9000000000000000000) (h : i + n ≤ b.length) (hn : 1 ≤ n ∧ n ≤ 8) (hf : 100 < fu) : node_number.f fu b (i : Int) (n : Int) = some (intAt b i n) := by
  unfold node_number.f octet_Get.f
  have h1 : ¬ (n : Int) < 1 := by omega
  have h2 : ¬ (n : Int) > 8 := by omega
  have w1 : IntKind.i64.wrap ((i : Int) + (n : Int)) = ((i + n : Nat) : Int) := by rw [w64 (by omega) (by omega)]; omega
  have hr : octet_Read.f fu (cut b (i : Int) ((i + n : Nat) : Int)) = some ((num (part b i n) : Nat) : Int) := by
    rw [cut_eq]
    have := read_eq (fu := fu) (part_bytes hb i n) (by rw [part_len h]; omega) (by rw [part_len h]; omega)
    exact this
  have c1 : (0 : Int) ≤ (i : Int) ∧ (i : Int) ≤ ((i + n : Nat) : Int) ∧ ((i + n : Nat) : Int) ≤ (b.length : Int) := by omega
  simp only [h1, h2, decide_false, Bool.false_eq_true, if_false, there_eq hl h, Option.bind_some, Bool.not_true, w1, hr, if_pos c1]
  rfl
def kidsOf (body : List Int) (t : Nat) : List Int := (List.range t).map fun i => intAt body (24 + 2 * i) 2
def nodeOf (body : List Int) (t : Nat) : S_api_Node := ⟨⟨⟨intAt body 16 4, intAt body 20 4⟩, intAt body 0 8, intAt body 8 8⟩, kidsOf body t⟩
def ok_api_Node (n : S_api_Node) : Prop := (-9223372036854775808 ≤ n.Entry.Key ∧ n.Entry.Key ≤ 9223372036854775807) ∧ (-9223372036854775808 ≤ n.Entry.Value ∧ n.Entry.Value ≤ 9223372036854775807)
theorem nodeOf_E {n : S_api_Node} (hn : ok_api_Node n) (h : NodeR n) (t : List Int) : nodeOf (nodeE n ++ t) n.Kids.length = n := by
  obtain ⟨⟨⟨s0, s1⟩, ⟨g0, g1⟩, k1⟩, hk⟩ := h
  have hK := hn.1
  have hV := hn.2
  obtain ⟨R, hR⟩ : ∃ R, R = rowE n.Kids n.Kids.length ++ t := ⟨_, rfl⟩
  have e : nodeE n ++ t = lay (u64n n.Entry.Key) 8 ++ (lay (u64n n.Entry.Value) 8 ++ (lay (u64n n.Entry.Handle.Slot) 4 ++ (lay (u64n n.Entry.Handle.Gen) 4 ++ R))) := by
    rw [hR]
    simp [nodeE, entryE]
  have l8 : ∀ v, (lay v 8).length = 8 := fun v => lay_len v 8
  have l4 : ∀ v, (lay v 4).length = 4 := fun v => lay_len v 4
  have d8 : (nodeE n ++ t).drop 8 = lay (u64n n.Entry.Value) 8 ++ (lay (u64n n.Entry.Handle.Slot) 4 ++ (lay (u64n n.Entry.Handle.Gen) 4 ++ R)) := by rw [e, List.drop_left' (l8 _)]
  have d16 : (nodeE n ++ t).drop 16 = lay (u64n n.Entry.Handle.Slot) 4 ++ (lay (u64n n.Entry.Handle.Gen) 4 ++ R) := by rw [show (16 : Nat) = 8 + 8 from rfl, ← List.drop_drop, d8, List.drop_left' (l8 _)]
  have d20 : (nodeE n ++ t).drop 20 = lay (u64n n.Entry.Handle.Gen) 4 ++ R := by rw [show (20 : Nat) = 16 + 4 from rfl, ← List.drop_drop, d16, List.drop_left' (l4 _)]
  have d24 : (nodeE n ++ t).drop 24 = R := by rw [show (24 : Nat) = 20 + 4 from rfl, ← List.drop_drop, d20, List.drop_left' (l4 _)]
  have p0 : part (nodeE n ++ t) 0 8 = lay (u64n n.Entry.Key) 8 := by unfold part; rw [List.drop_zero, e, List.take_left' (l8 _)]
  have p8 : part (nodeE n ++ t) 8 8 = lay (u64n n.Entry.Value) 8 := by unfold part; rw [d8, List.take_left' (l8 _)]
  have p16 : part (nodeE n ++ t) 16 4 = lay (u64n n.Entry.Handle.Slot) 4 := by unfold part; rw [d16, List.take_left' (l4 _)]
  have p20 : part (nodeE n ++ t) 20 4 = lay (u64n n.Entry.Handle.Gen) 4 := by unfold part; rw [d20, List.take_left' (l4 _)]
  have q8 : (256 : Nat) ^ 8 = 18446744073709551616 := by decide
  have q4 : (256 : Nat) ^ 4 = 4294967296 := by decide
  have i0 : intAt (nodeE n ++ t) 0 8 = n.Entry.Key := by
    unfold intAt
    rw [p0, num_lay, q8, Nat.mod_eq_of_lt (u64n_lt _), i64_u64 hK.1 hK.2]
  have i8 : intAt (nodeE n ++ t) 8 8 = n.Entry.Value := by
    unfold intAt
    rw [p8, num_lay, q8, Nat.mod_eq_of_lt (u64n_lt _), i64_u64 hV.1 hV.2]
  have i16 : intAt (nodeE n ++ t) 16 4 = n.Entry.Handle.Slot := by
    unfold intAt
    rw [p16, num_lay, q4, u64n_of (by omega) (by omega), Nat.mod_eq_of_lt (by omega), Int.toNat_of_nonneg s0, w64 (by omega) (by omega)]
  have i20 : intAt (nodeE n ++ t) 20 4 = n.Entry.Handle.Gen := by
    unfold intAt
    rw [p20, num_lay, q4, u64n_of (by omega) (by omega), Nat.mod_eq_of_lt (by omega), Int.toNat_of_nonneg (by omega), w64 (by omega) (by omega)]
  have ik : kidsOf (nodeE n ++ t) n.Kids.length = n.Kids := by
    apply ix_ext (by simp [kidsOf])
    intro i hi
    have hi' : i < n.Kids.length := by simpa [kidsOf] using hi
    unfold kidsOf
    rw [ix_map hi']
    have hp : part (nodeE n ++ t) (24 + 2 * i) 2 = lay (u64n (ix n.Kids (i : Int))) 2 := by
      unfold part
      rw [← List.drop_drop, d24, hR]
      exact flat_field (fun i => lay_len _ _) hi' t
    have := hk i hi'
    unfold blockOk at this
    unfold intAt
    rw [hp, num_lay, u64n_of (by omega) (by omega), show (256 : Nat) ^ 2 = 65536 from rfl, Nat.mod_eq_of_lt (by omega), Int.toNat_of_nonneg (by omega), w64 (by omega) (by omega)]
  unfold nodeOf
  rw [i0, i8, i16, i20, ik]
def noN : S_api_Node := ⟨⟨⟨0, 0⟩, 0, 0⟩, []⟩
def GetN (b : List Int) : Prop := Is b ∧ ix b 4 = 1 ∧ ix b 5 ≤ 12 ∧ NodeR (nodeOf (b.drop 8) (ix b 5).toNat) ∧ ∀ y ∈ (b.drop 8).drop (24 + 2 * (ix b 5).toNat), y = 0
instance (b : List Int) : Decidable (GetN b) := inferInstanceAs (Decidable (_ ∧ _))
theorem nodeGet_eq {fu : Nat} {b : List Int} (hb : Bytes b) (hl : b.length ≤ 9000000000000000000) (hf : 100 < fu) : node_Get.f fu b = some (if GetN b then (nodeOf (b.drop 8) (ix b 5).toNat, true) else (noN, false)) := by
  unfold node_Get.f
  rw [open_eq hb hl hf]
  by_cases hi : Is b
  · have h8 := is_body hi
    obtain ⟨b4, b5⟩ := is_tag hb hi
    rw [if_pos hi]
    simp only [Option.bind_some, Bool.not_true, Bool.false_eq_true, if_false]
    by_cases h4 : ix b 4 = 1
    · by_cases h5 : ix b 5 ≤ 12
      · have h5' : ¬ ix b 5 > 12 := by omega
        obtain ⟨t, ht⟩ : ∃ t : Nat, ix b 5 = (t : Int) := ⟨(ix b 5).toNat, by omega⟩
        have hbd := hb.drop 8
        obtain ⟨body, hbody⟩ : ∃ body, body = b.drop 8 := ⟨_, rfl⟩
        rw [← hbody] at h8 hbd
        have n16 : node_number.f fu body 16 4 = some (intAt body 16 4) := number_eq (i := 16) (n := 4) hbd (by omega) (by omega) (by decide) hf
        have n20 : node_number.f fu body 20 4 = some (intAt body 20 4) := number_eq (i := 20) (n := 4) hbd (by omega) (by omega) (by decide) hf
        have n0 : node_number.f fu body 0 8 = some (intAt body 0 8) := number_eq (i := 0) (n := 8) hbd (by omega) (by omega) (by decide) hf
        have n8 : node_number.f fu body 8 8 = some (intAt body 8 8) := number_eq (i := 8) (n := 8) hbd (by omega) (by omega) (by decide) hf
        have hloop : loopM (node_Get.s0 fu (ix b 4, ix b 5, body, true)) fu (0, []) = some (kidsOf body t) := by
          refine loopM_run (S := fun j => ((j : Int), kidsOf body j)) t (by simp [kidsOf]) ?_ ?_ (by omega)
          · intro j hj
            unfold node_Get.s0
            have h1 : (j : Int) < ix b 5 := by omega
            have w3 : IntKind.i64.wrap ((j : Int) + 1) = ((j + 1 : Nat) : Int) := by rw [w64 (by omega) (by omega)]; omega
            have w4 : IntKind.i64.wrap (2 * (j : Int)) = ((2 * j : Nat) : Int) := by rw [w64 (by omega) (by omega)]; omega
            have w5 : IntKind.i64.wrap (24 + ((2 * j : Nat) : Int)) = ((24 + 2 * j : Nat) : Int) := by rw [w64 (by omega) (by omega)]; omega
            have hn : node_number.f fu body ((24 + 2 * j : Nat) : Int) 2 = some (intAt body (24 + 2 * j) 2) := number_eq (n := 2) hbd (by omega) (by omega) (by decide) hf
            have hlim : (kidsOf body j).length + ([intAt body (24 + 2 * j) 2] : List Int).length ≤ LIM := lim_of' (by simp [kidsOf]; omega)
            simp only [h1, decide_true, if_true, w3, w4, w5, hn, Option.bind_some, hlim]
            simp [kidsOf, List.range_succ]
          · unfold node_Get.s0
            simp [ht]
        have w1 : IntKind.i64.wrap (2 * (t : Int)) = ((2 * t : Nat) : Int) := by rw [w64 (by omega) (by omega)]; omega
        have w2 : IntKind.i64.wrap (24 + ((2 * t : Nat) : Int)) = ((24 + 2 * t : Nat) : Int) := by rw [w64 (by omega) (by omega)]; omega
        have w6 : IntKind.i64.wrap ((body.length : Int) - ((24 + 2 * t : Nat) : Int)) = ((56 - (24 + 2 * t) : Nat) : Int) := by rw [w64 (by omega) (by omega)]; omega
        have hn := noughts_eq (fu := fu) (b := body) (i := 24 + 2 * t) (n := 56 - (24 + 2 * t)) (by omega) (by omega) (by omega)
        have e8 : (body.drop (24 + 2 * t)).take (56 - (24 + 2 * t)) = body.drop (24 + 2 * t) := List.take_of_length_le (by rw [List.length_drop, h8]; omega)
        rw [e8] at hn
        have hN : (⟨⟨⟨intAt body 16 4, intAt body 20 4⟩, intAt body 0 8, intAt body 8 8⟩, kidsOf body t⟩ : S_api_Node) = nodeOf body t := rfl
        rw [← hbody]
        simp only [h4, h5', decide_true, decide_false, Bool.not_true, Bool.false_eq_true, if_false] at hloop ⊢
        simp only [n16, n20, n0, n8, Option.bind_some, hloop]
        simp only [ht, w1, w2, w6, hn, hN, nodeRight_eq hf, Option.bind_some]
        have hgi : GetN b ↔ (NodeR (nodeOf body t) ∧ ∀ y ∈ body.drop (24 + 2 * t), y = 0) := by
          unfold GetN
          rw [ht, ← hbody, Int.toNat_natCast]
          exact ⟨fun x => x.2.2.2, fun x => ⟨hi, h4, by omega, x⟩⟩
        rw [Int.toNat_natCast]
        by_cases hr : NodeR (nodeOf body t)
        · by_cases hz : ∀ y ∈ body.drop (24 + 2 * t), y = 0
          · rw [if_pos (hgi.2 ⟨hr, hz⟩), decide_eq_true hr, decide_eq_true hz]
            rfl
          · rw [if_neg (fun x => hz (hgi.1 x).2), decide_eq_true hr, decide_eq_false hz]
            rfl
        · rw [if_neg (fun x => hr (hgi.1 x).1), decide_eq_false hr]
          rfl
      · have h5' : ix b 5 > 12 := by omega
        have hg : ¬ GetN b := fun x => h5 x.2.2.1
        rw [if_neg hg, decide_eq_true h4, decide_eq_true h5']
        rfl
    · have hg : ¬ GetN b := fun x => h4 x.2.1
      rw [if_neg hg, decide_eq_false h4]
      rfl
  · have hg : ¬ GetN b := fun x => hi x.1
    rw [if_neg hi, if_neg hg]
    rfl
theorem nodeGet_put {fu : Nat} {n : S_api_Node} (hn : ok_api_Node n) (h : NodeR n) (hf : 100 < fu) : node_Get.f fu (sealed (summed 1 (n.Kids.length : Int) (nodeE n))) = some (n, true) := by
  have k1 := h.1.2.2
  have hl := nodeE_len n
  obtain ⟨p4, p5, p8⟩ := sealed_parts 1 (n.Kids.length : Int) (nodeE n)
  have hsl := sealed_len (summed_len (k := 1) (t := (n.Kids.length : Int)) (body := nodeE n) (by omega))
  have hno := nodeOf_E hn h (List.replicate (56 - (nodeE n).length) 0)
  have hg : GetN (sealed (summed 1 (n.Kids.length : Int) (nodeE n))) := by
    refine ⟨is_sealed (by decide) (by omega), p4, by rw [p5]; omega, ?_, ?_⟩
    · rw [p8, p5, Int.toNat_natCast, hno]
      exact h
    · rw [p8, p5, Int.toNat_natCast, ← hl, List.drop_left' rfl]
      intro y hy
      exact List.eq_of_mem_replicate hy
  rw [nodeGet_eq (sealed_bytes (summed_bytes (by omega) (by omega) (nodeE_bytes n))) (by omega) hf, if_pos hg, p8, p5, Int.toNat_natCast, hno]
end Go.Proofs.YtdifnahlheogdaaGreat.Pure
namespace Go.Proofs.YtdifnahlheogdaaGreat
open Go Go.Xw Go.Yw
end Go.Proofs.YtdifnahlheogdaaGreat
namespace Go.Proofs.YtdifnahlheogdaaGreat.Pure
open Go Go.Xw Go.Yw
def kidOk (x : Int) : Prop := x = 0 ∨ 2 ≤ x ∧ x ≤ 3071
instance (x : Int) : Decidable (kidOk x) := inferInstanceAs (Decidable (_ ∨ _))
def kid (f : S_api_Fan) (i : Nat) : Int := Arr.get f.Kids (i : Int)
def fanOk (f : S_api_Fan) : Prop := ∀ i, i < 16 → kidOk (kid f i)
instance (f : S_api_Fan) : Decidable (fanOk f) := inferInstanceAs (Decidable (∀ i, i < 16 → _))
def fanOf (body : List Int) : S_api_Fan := ⟨fillA (fun i => ((num (fieldAt body 2 i) : Nat) : Int)) (Arr.rep 16 0) 16⟩
def GetF (b : List Int) : Prop := Is b ∧ ix b 4 = 3 ∧ ix b 5 = 0 ∧ (∀ y ∈ (b.drop 8).drop 32, y = 0) ∧ fanOk (fanOf (b.drop 8))
instance (b : List Int) : Decidable (GetF b) := inferInstanceAs (Decidable (_ ∧ _))
end Go.Proofs.YtdifnahlheogdaaGreat.Pure
namespace Go.Proofs.YtdifnahlheogdaaGreat
open Go Go.Xw Go.Yw
end Go.Proofs.YtdifnahlheogdaaGreat
namespace Go.Proofs.YtdifnahlheogdaaGreat.Pure
open Go Go.Xw Go.Yw
def seatB (x : S_api_Seat) : Bool := if x.Live = true then decide (1 ≤ x.Gen ∧ x.Gen ≤ 4294967295) && decide (2 ≤ x.Next ∧ x.Next ≤ 3071) else decide (0 ≤ x.Gen ∧ x.Gen ≤ 4294967295) && (decide (0 ≤ x.Next ∧ x.Next ≤ 1792) && (decide (x.Gen > 0) || decide (x.Next = 0)))
def seat (l : S_api_Leaf) (i : Nat) : S_api_Seat := Arr.get l.Seats (i : Int)
def leafOk (l : S_api_Leaf) : Prop := ∀ i, i < 7 → seatB (seat l i) = true
instance (l : S_api_Leaf) : Decidable (leafOk l) := inferInstanceAs (Decidable (∀ i, i < 7 → _))
def noS : S_api_Seat := ⟨false, 0, 0⟩
def seatAt (body : List Int) (t : Int) (i : Nat) : S_api_Seat := ⟨decide (t.toNat / 2 ^ i % 2 = 1), ((num ((fieldAt body 8 i).take 4) : Nat) : Int), ((num ((fieldAt body 8 i).drop 4) : Nat) : Int)⟩
def leafOf (body : List Int) (t : Int) : S_api_Leaf := ⟨fillA (seatAt body t) (Arr.rep 7 noS) 7⟩
def GetL (b : List Int) : Prop := Is b ∧ ix b 4 = 2 ∧ ix b 5 < 128 ∧ leafOk (leafOf (b.drop 8) (ix b 5))
instance (b : List Int) : Decidable (GetL b) := inferInstanceAs (Decidable (_ ∧ _))
end Go.Proofs.YtdifnahlheogdaaGreat.Pure
namespace Go.Proofs.YtdifnahlheogdaaGreat
open Go Go.Xw Go.Yw
end Go.Proofs.YtdifnahlheogdaaGreat
namespace Go.Proofs.YtdifnahlheogdaaGreat.Pure
open Go Go.Xw Go.Yw
def RightC (c : S_api_Chart) : Prop := 0 ≤ c.Place ∧ c.Place < 8
instance (c : S_api_Chart) : Decidable (RightC c) := inferInstanceAs (Decidable (_ ∧ _))
def GetOk (b : List Int) : Prop := Is b ∧ ix b 4 = 4 ∧ ix b 5 < 8 ∧ ∀ y ∈ (b.drop 8).drop 48, y = 0
instance (b : List Int) : Decidable (GetOk b) := inferInstanceAs (Decidable (_ ∧ _))
end Go.Proofs.YtdifnahlheogdaaGreat.Pure
namespace Go.Proofs.YtdifnahlheogdaaGreat
open Go Go.Xw Go.Yw
end Go.Proofs.YtdifnahlheogdaaGreat
namespace Go.Proofs.YtdifnahlheogdaaGreat.Pure
open Go Go.Xw Go.Yw
def oct (m : List UInt8) (k : Nat) : Nat := (m.getD k 0).toNat
def fst4 (c0 c1 c2 c3 n : Nat) : Nat × Nat :=
  if c0 < 128 then (c0, 1)
  else if (194 ≤ c0 ∧ c0 ≤ 223) ∧ (1 < n ∧ 128 ≤ c1 ∧ c1 ≤ 191) then ((c0 - 192) * 64 + (c1 - 128), 2)
  else if (224 ≤ c0 ∧ c0 ≤ 239) ∧ (1 < n ∧ (if c0 = 224 then 160 else 128) ≤ c1 ∧ c1 ≤ (if c0 = 237 then 159 else 191)) ∧ (2 < n ∧ 128 ≤ c2 ∧ c2 ≤ 191) then ((c0 - 224) * 4096 + (c1 - 128) * 64 + (c2 - 128), 3)
  else if (240 ≤ c0 ∧ c0 ≤ 244) ∧ (1 < n ∧ (if c0 = 240 then 144 else 128) ≤ c1 ∧ c1 ≤ (if c0 = 244 then 143 else 191)) ∧ (2 < n ∧ 128 ≤ c2 ∧ c2 ≤ 191) ∧ (3 < n ∧ 128 ≤ c3 ∧ c3 ≤ 191) then ((c0 - 240) * 262144 + (c1 - 128) * 4096 + (c2 - 128) * 64 + (c3 - 128), 4)
  else (65533, 1)
def first (m : List UInt8) : Nat × Nat := fst4 (oct m 0) (oct m 1) (oct m 2) (oct m 3) m.length
theorem first_wide {m : List UInt8} (h : 0 < m.length) : 1 ≤ (first m).2 ∧ (first m).2 ≤ m.length := by
  unfold first
  generalize oct m 0 = c0
  generalize oct m 1 = c1
  generalize oct m 2 = c2
  generalize oct m 3 = c3
  generalize m.length = n at *
  unfold fst4
  by_cases h0 : c0 < 128
  · rw [if_pos h0]
    exact ⟨Nat.le_refl _, h⟩
  · rw [if_neg h0]
    by_cases h2 : (194 ≤ c0 ∧ c0 ≤ 223) ∧ (1 < n ∧ 128 ≤ c1 ∧ c1 ≤ 191)
    · rw [if_pos h2]
      have := h2.2.1
      exact ⟨by simp, by simp only; omega⟩
    · rw [if_neg h2]
      by_cases h3 : (224 ≤ c0 ∧ c0 ≤ 239) ∧ (1 < n ∧ (if c0 = 224 then 160 else 128) ≤ c1 ∧ c1 ≤ (if c0 = 237 then 159 else 191)) ∧ (2 < n ∧ 128 ≤ c2 ∧ c2 ≤ 191)
      · rw [if_pos h3]
        have := h3.2.2.1
        exact ⟨by simp, by simp only; omega⟩
      · rw [if_neg h3]
        by_cases h4 : (240 ≤ c0 ∧ c0 ≤ 244) ∧ (1 < n ∧ (if c0 = 240 then 144 else 128) ≤ c1 ∧ c1 ≤ (if c0 = 244 then 143 else 191)) ∧ (2 < n ∧ 128 ≤ c2 ∧ c2 ≤ 191) ∧ (3 < n ∧ 128 ≤ c3 ∧ c3 ≤ 191)
        · rw [if_pos h4]
          have := h4.2.2.2.1
          exact ⟨by simp, by simp only; omega⟩
        · rw [if_neg h4]
          exact ⟨Nat.le_refl _, h⟩
def rs : Nat → List UInt8 → List Int
  | 0, _ => []
  | k + 1, m => if m = [] then [] else ((first m).1 : Int) :: rs k (m.drop (first m).2)
def runeOk (r : Int) : Prop := (97 ≤ r ∧ r ≤ 122) ∨ (65 ≤ r ∧ r ≤ 90) ∨ (48 ≤ r ∧ r ≤ 57) ∨ r = 45 ∨ r = 95 ∨ (161 ≤ r ∧ r ≤ 65519)
instance (r : Int) : Decidable (runeOk r) := inferInstanceAs (Decidable (_ ∨ _))
def NameOk (s : List UInt8) : Prop := (0 < (rs 399 s).length ∧ (rs 399 s).length ≤ 8) ∧ ∀ r ∈ rs 399 s, runeOk r
instance (s : List UInt8) : Decidable (NameOk s) := inferInstanceAs (Decidable (_ ∧ _))
end Go.Proofs.YtdifnahlheogdaaGreat.Pure
namespace Go.Proofs.YtdifnahlheogdaaGreat
open Go Go.Xw Go.Yw
end Go.Proofs.YtdifnahlheogdaaGreat
namespace Go.Proofs.YtdifnahlheogdaaGreat.Pure
open Go Go.Xw Go.Yw
def numOk (x : Int) : Prop := 2 ≤ x ∧ x ≤ 3071
instance (x : Int) : Decidable (numOk x) := inferInstanceAs (Decidable (_ ∧ _))
def dirAt (l : List Int) (j : Nat) : Prop := numOk (ix l (j : Int)) ∧ ix l (j : Int) ∉ l.take j
instance (l : List Int) (j : Nat) : Decidable (dirAt l j) := inferInstanceAs (Decidable (_ ∧ _))
def DirOk (l : List Int) : Prop := (1 ≤ l.length ∧ l.length ≤ 16) ∧ ∀ j, j < l.length → dirAt l j
instance (l : List Int) : Decidable (DirOk l) := inferInstanceAs (Decidable (_ ∧ _))
def dirOf (body : List Int) (t : Nat) : List Int := (List.range t).map fun i => ((num (fieldAt body 2 i) : Nat) : Int)
def GetD (b : List Int) : Prop := Is b ∧ ix b 4 = 6 ∧ ix b 5 ≤ 16 ∧ DirOk (dirOf (b.drop 8) (ix b 5).toNat) ∧ ∀ y ∈ (b.drop 8).drop (2 * (ix b 5).toNat), y = 0
instance (b : List Int) : Decidable (GetD b) := inferInstanceAs (Decidable (_ ∧ _))
end Go.Proofs.YtdifnahlheogdaaGreat.Pure
namespace Go.Proofs.YtdifnahlheogdaaGreat
open Go Go.Xw Go.Yw
end Go.Proofs.YtdifnahlheogdaaGreat
namespace Go.Proofs.YtdifnahlheogdaaGreat.Pure
open Go Go.Xw Go.Yw
theorem fst4_wide {c0 c1 c2 c3 n : Nat} : (fst4 c0 c1 c2 c3 n).2 ≤ 3 ∨ 65536 ≤ (fst4 c0 c1 c2 c3 n).1 := by
  unfold fst4
  by_cases h0 : c0 < 128
  · rw [if_pos h0]
    exact .inl (by simp)
  · rw [if_neg h0]
    by_cases h2 : (194 ≤ c0 ∧ c0 ≤ 223) ∧ (1 < n ∧ 128 ≤ c1 ∧ c1 ≤ 191)
    · rw [if_pos h2]
      exact .inl (by simp)
    · rw [if_neg h2]
      by_cases h3 : (224 ≤ c0 ∧ c0 ≤ 239) ∧ (1 < n ∧ (if c0 = 224 then 160 else 128) ≤ c1 ∧ c1 ≤ (if c0 = 237 then 159 else 191)) ∧ (2 < n ∧ 128 ≤ c2 ∧ c2 ≤ 191)
      · rw [if_pos h3]
        exact .inl (by simp)
      · rw [if_neg h3]
        by_cases h4 : (240 ≤ c0 ∧ c0 ≤ 244) ∧ (1 < n ∧ (if c0 = 240 then 144 else 128) ≤ c1 ∧ c1 ≤ (if c0 = 244 then 143 else 191)) ∧ (2 < n ∧ 128 ≤ c2 ∧ c2 ≤ 191) ∧ (3 < n ∧ 128 ≤ c3 ∧ c3 ≤ 191)
        · rw [if_pos h4]
          right
          have h5 := h4.1
          have h6 := h4.2.1.2.1
          simp only
          by_cases e : c0 = 240
          · rw [if_pos e] at h6
            omega
          · rw [if_neg e] at h6
            omega
        · rw [if_neg h4]
          exact .inl (by simp)
theorem rs_wide : ∀ (k : Nat) (m : List UInt8), m.length ≤ k → (∀ r ∈ rs k m, runeOk r) → m.length ≤ 3 * (rs k m).length
  | 0, m, hk, _ => by omega
  | k + 1, m, hk, h => by
    unfold rs at h ⊢
    by_cases hm : m = []
    · subst hm
      simp
    · rw [if_neg hm] at h ⊢
      have hp := List.length_pos_iff.2 hm
      obtain ⟨h1, h2⟩ := first_wide hp
      have ih := rs_wide k (m.drop (first m).2) (by rw [List.length_drop]; omega) fun r hr => h r (List.mem_cons_of_mem _ hr)
      have h0 := h _ List.mem_cons_self
      have hw : (first m).2 ≤ 3 := by
        rcases fst4_wide (c0 := oct m 0) (c1 := oct m 1) (c2 := oct m 2) (c3 := oct m 3) (n := m.length) with e | e
        · exact e
        · have e' : 65536 ≤ (first m).1 := e
          unfold runeOk at h0
          omega
      rw [List.length_drop] at ih
      rw [List.length_cons]
      omega
theorem NameOk.len {s : List UInt8} (h : NameOk s) (hs : s.length ≤ 300) : s.length ≤ 24 := by
  have := rs_wide 399 s (by omega) h.2
  have := h.1.2
  omega
def rootOk (c : Nat) (l : List Int) (i : Nat) : Prop := (c / 2 ^ i % 2 = 0 → ix l (i : Int) = 0) ∧ (c / 2 ^ i % 2 = 1 → numOk (ix l (i : Int)))
instance (c : Nat) (l : List Int) (i : Nat) : Decidable (rootOk c l i) := inferInstanceAs (Decidable (_ ∧ _))
def QueueOk (q : S_api_Queue) : Prop := NameOk q.Name ∧ (0 ≤ q.Count ∧ q.Count ≤ 4095) ∧ ∀ i, i < 12 → rootOk q.Count.toNat q.Roots.l i
instance (q : S_api_Queue) : Decidable (QueueOk q) := inferInstanceAs (Decidable (_ ∧ _))
theorem QueueOk.len {q : S_api_Queue} (h : QueueOk q) (hs : q.Name.length ≤ 300) : q.Name.length ≤ 24 := NameOk.len h.1 hs
def rootsOf (body : List Int) : Arr 12 Int := fillA (fun i => intAt body (4 + 2 * i) 2) (Arr.rep 12 (0 : Int)) 12
def queueOf (body : List Int) (t : Nat) : S_api_Queue := ⟨(part body 28 t).map toB, intAt body 0 4, rootsOf body⟩
def GetQ (b : List Int) : Prop := Is b ∧ ix b 4 = 5 ∧ ix b 5 ≤ 24 ∧ QueueOk (queueOf (b.drop 8) (ix b 5).toNat) ∧ ∀ y ∈ (b.drop 8).drop (28 + (ix b 5).toNat), y = 0
instance (b : List Int) : Decidable (GetQ b) := inferInstanceAs (Decidable (_ ∧ _))
end Go.Proofs.YtdifnahlheogdaaGreat.Pure
namespace Go.Proofs.YtdifnahlheogdaaGreat
open Go Go.Xw Go.Yw
end Go.Proofs.YtdifnahlheogdaaGreat
namespace Go.Proofs.YtdifnahlheogdaaGreat.Pure
open Go Go.Xw Go.Yw
def geoOk (g : S_api_Geometry) : Prop := (16 ≤ g.Blocks ∧ g.Blocks ≤ 3072) ∧ (1 ≤ g.Slots ∧ g.Slots ≤ 1792) ∧ (1 ≤ g.Gens ∧ g.Gens ≤ 4294967295)
instance (g : S_api_Geometry) : Decidable (geoOk g) := inferInstanceAs (Decidable (_ ∧ _))
def chartsN (g : S_api_Geometry) : Int := (g.Blocks + 383) / 384
def inB (s : S_api_Super) (x : Int) : Prop := 2 ≤ x ∧ x < s.Tickets.Geometry.Blocks
instance (s : S_api_Super) (x : Int) : Decidable (inB s x) := inferInstanceAs (Decidable (_ ∧ _))
def supA (s : S_api_Super) : Prop := (1 ≤ s.Epoch ∧ s.Epoch ≤ 4611686018427387904) ∧ geoOk s.Tickets.Geometry
instance (s : S_api_Super) : Decidable (supA s) := inferInstanceAs (Decidable (_ ∧ _))
def supB (s : S_api_Super) : Prop := (0 ≤ s.Tickets.High ∧ s.Tickets.High ≤ s.Tickets.Geometry.Slots) ∧ (0 ≤ s.Tickets.Free ∧ s.Tickets.Free ≤ s.Tickets.High)
instance (s : S_api_Super) : Decidable (supB s) := inferInstanceAs (Decidable (_ ∧ _))
def topOk (s : S_api_Super) : Prop := (s.Tickets.High = 0 → s.Tickets.Top = 0) ∧ (s.Tickets.High ≠ 0 → inB s s.Tickets.Top)
instance (s : S_api_Super) : Decidable (topOk s) := inferInstanceAs (Decidable (_ ∧ _))
def dirNOk (s : S_api_Super) : Prop := s.Dir ≠ 0 → inB s s.Dir
instance (s : S_api_Super) : Decidable (dirNOk s) := inferInstanceAs (Decidable (_ → _))
def apartC (l : List Int) : Prop := ∀ j, j < l.length → ix l (j : Int) ∉ l.take j
instance (l : List Int) : Decidable (apartC l) := inferInstanceAs (Decidable (∀ j, j < l.length → _))
def insC (s : S_api_Super) : Prop := ∀ j, j < s.Charts.length → inB s (ix s.Charts (j : Int))
instance (s : S_api_Super) : Decidable (insC s) := inferInstanceAs (Decidable (∀ j, j < s.Charts.length → _))
def SupOk (s : S_api_Super) : Prop := supA s ∧ supB s ∧ topOk s ∧ dirNOk s ∧ (s.Charts.length : Int) = chartsN s.Tickets.Geometry ∧ insC s ∧ apartC s.Charts
instance (s : S_api_Super) : Decidable (SupOk s) := inferInstanceAs (Decidable (_ ∧ _))
theorem SupOk.len {s : S_api_Super} (h : SupOk s) : s.Charts.length ≤ 8 ∧ 1 ≤ s.Charts.length := by
  have h1 := h.1.2
  have h2 := h.2.2.2.2.1
  unfold geoOk at h1
  unfold chartsN at h2
  omega
def lenOk (s : S_api_Super) : Prop := (s.Charts.length : Int) = chartsN s.Tickets.Geometry
instance (s : S_api_Super) : Decidable (lenOk s) := inferInstanceAs (Decidable (_ = _))
def chartsOf (body : List Int) (t : Nat) : List Int := (List.range t).map fun i => intAt body (32 + 2 * i) 2
def supOf (body : List Int) (t : Nat) : S_api_Super := ⟨intAt body 0 8, ⟨⟨intAt body 8 4, intAt body 12 4, intAt body 16 4⟩, intAt body 28 2, intAt body 20 4, intAt body 24 4⟩, intAt body 30 2, chartsOf body t⟩
def GetU (b : List Int) : Prop := Is b ∧ ix b 4 = 7 ∧ ix b 5 ≤ 8 ∧ SupOk (supOf (b.drop 8) (ix b 5).toNat) ∧ ∀ y ∈ (b.drop 8).drop (32 + 2 * (ix b 5).toNat), y = 0
instance (b : List Int) : Decidable (GetU b) := inferInstanceAs (Decidable (_ ∧ _))
theorem kind_eq {b : List Int} (hb : Bytes b) (hl : b.length ≤ 200) : block_Kind.f 400 b = some (if Is b then ix b 4 else 0) := by
  unfold block_Kind.f
  rw [right_is hb (by omega) (by decide)]
  by_cases h : Is b
  · obtain ⟨b4, _⟩ := is_tag hb h
    have h0 := h.1
    rw [decide_eq_true h, if_pos h]
    simp only [Option.bind_some, Bool.not_true, Bool.false_eq_true, if_false]
    rw [if_pos (by omega), w64 (by omega) (by omega)]
  · rw [decide_eq_false h, if_neg h]
    rfl
abbrev Cellm := (Option S_api_Node) × (Option S_api_Queue) × (Option S_api_Leaf) × (Option S_api_Fan) × (Option S_api_Chart) × (Option S_api_Dir) × (Option S_api_Super) × Bool
def pN (n : S_api_Node) (k : Bool) : Cellm := (some n, none, none, none, none, none, none, k)
def p0 : Cellm := (none, none, none, none, none, none, none, false)
def nodeB (b : List Int) : S_api_Node := nodeOf (b.drop 8) (ix b 5).toNat
section
variable {b : List Int} (hb : Bytes b) (hl : b.length ≤ 200)
include hb hl
theorem parse_node (h : Is b) (h4 : ix b 4 = 1) : cell_parse.f 400 b = some (pN (if GetN b then nodeB b else noN) (decide (GetN b))) := by
  unfold cell_parse.f
  rw [kind_eq hb hl, if_pos h, h4, nodeGet_eq hb (by omega) (by decide)]
  by_cases g : GetN b <;> simp [g] <;> rfl
end
theorem clone_eq' {fu : Nat} {l : List Int} (h : l.length ≤ 1000) : slices_Clone.f fu l = some l := by
  unfold slices_Clone.f
  rw [if_pos (Nat.le_trans h (by decide))]
theorem awake14 : rickyardlaw14_awake.f 400 = some true := by decide +kernel
theorem map_of_to {l : List Int} (h : Bytes l) : (l.map toB).map ofB = l := of_toB h
theorem node_get {n : S_api_Node} (hn : ok_api_Node n) (h : NodeR n) : GetN (sealed (summed 1 (n.Kids.length : Int) (nodeE n))) ∧ nodeB (sealed (summed 1 (n.Kids.length : Int) (nodeE n))) = n := by
  have k1 := h.1.2.2
  have hl := nodeE_len n
  have hg := nodeGet_put (fu := 400) hn h (by decide)
  have hbs := sealed_bytes (summed_bytes (k := 1) (t := (n.Kids.length : Int)) (by omega) (by omega) (nodeE_bytes n))
  have hsl := sealed_len (summed_len (k := 1) (t := (n.Kids.length : Int)) (body := nodeE n) (by omega))
  rw [nodeGet_eq hbs (by omega) (by decide)] at hg
  by_cases g : GetN (sealed (summed 1 (n.Kids.length : Int) (nodeE n)))
  · rw [if_pos g] at hg
    have hg := Option.some.inj hg
    exact ⟨g, congrArg Prod.fst hg⟩
  · rw [if_neg g] at hg
    have hg := congrArg Prod.snd (Option.some.inj hg)
    cases hg
theorem CellNodes : ∀ (a0 : S_api_Node), okv 9 (⟨.st .S_api_Node, a0⟩ : PV G.toSg) → ∃ fu, rickyardlaw14_CellNodes.f fu a0 = some true := by
  intro n hok
  refine ⟨400, ?_⟩
  have hok1 : ok_api_Node n := by
    have h1 := hok ⟨.st .S_api_Entry, n.Entry⟩ (List.mem_cons_self ..)
    have h2 := h1 ⟨.int .i64, n.Entry.Key⟩ (List.mem_cons_of_mem _ (List.mem_cons_self ..))
    have h3 := h1 ⟨.int .i64, n.Entry.Value⟩ (List.mem_cons_of_mem _ (List.mem_cons_of_mem _ (List.mem_cons_self ..)))
    exact ⟨wf64.1 h2, wf64.1 h3⟩
  unfold rickyardlaw14_CellNodes.f
  rw [awake14]
  by_cases h2 : (n.Kids.length : Int) > 100
  · simp [h2]
  · have h2' : ¬ 100 < n.Kids.length := by omega
    rw [rnodeRight_eq (by omega) (by decide)]
    by_cases hR : NodeR n
    · obtain ⟨g1, g2⟩ := node_get hok1 hR
      have k1 := hR.1.2.2
      have hl := nodeE_len n
      have hbs := sealed_bytes (summed_bytes (k := 1) (t := (n.Kids.length : Int)) (by omega) (by omega) (nodeE_bytes n))
      have hsl := sealed_len (summed_len (k := 1) (t := (n.Kids.length : Int)) (body := nodeE n) (by omega))
      rw [rnodePut_eq k1 (by decide)]
      simp only [Option.bind_some, map_of_to hbs]
      generalize hc : sealed (summed 1 (n.Kids.length : Int) (nodeE n)) = c at *
      have hp := parse_node hbs (by omega) g1.1 g1.2.1
      rw [if_pos g1, g2, decide_eq_true g1] at hp
      have hE : cell_Entry.f 400 c = some (n.Entry, true) := by
        unfold cell_Entry.f
        rw [hp]
        rfl
      have hN : cell_Name.f 400 c = some ([], false) := by
        unfold cell_Name.f
        rw [hp]
        rfl
      have hK : cell_Kind.f 400 c = some 1 := by
        unfold cell_Kind.f
        rw [hp, kind_eq hbs (by omega), if_pos g1.1, g1.2.1]
        rfl
      have hC : cell_Kids.f 400 c = some n.Kids := by
        unfold cell_Kids.f cell_nodes_kids.f
        rw [hp]
        have hcl := clone_eq' (fu := 400) (l := n.Kids) (by omega)
        show ((slices_Clone.f 400 n.Kids).bind fun t => some t).bind (fun t => some t) = _
        rw [hcl]
        rfl
      rw [hE, hN, hK, hC]
      simp [h2, ints2_eq, hR, show n.Kids.length ≤ 9000000000000000000 by omega, show n.Kids.length < 400 by omega]
    · simp [h2, hR, awake14]
end Go.Proofs.YtdifnahlheogdaaGreat.Pure
namespace Go.Proofs.YtdifnahlheogdaaGreat.cellNodes
open Go.ChangeShapes Go.WideShapes Go.ChangeAt Go.RowKit
open Go.ChangeMaps (open_string shut_string)
open Go Go.Xw Go.Yw
theorem own : ownKnob Tryz.prog.godebug = none := Facts.own
theorem laidOut : laidOutB Tryz.prog = true := Facts.laid
theorem closed : joinedFacts Tryz.pinned.checked.prog 4 Tryz.f4 Rows.cellNodesSpec Rows.cellNodesRow = true := by
  unfold joinedFacts
  rw [Facts.enter, Facts.lifts, Facts.make, Facts.laid, Facts.rowed, Facts.plain, Facts.heard]
  kernel_rfl
def start : Input := ⟨#[], #[.agg #[.int .i64 0, .int .i64 0, .int .i64 0, .int .i64 0, .slice none 0 0]], []⟩
set_option maxRecDepth 100000 in
set_option maxHeartbeats 1000000 in
theorem lifted (os : Os) (started : os.Started) (H : Type) (enc : TypeId × Value → H) :
    ReturnsInHanded {} Tryz.checked os 4 .any (Rows.cellNodesSpec.pre6 enc Tryz.prog Tryz.f4 Rows.cellNodesRow.domain false) (Rows.cellNodesSpec.post enc Tryz.prog Tryz.f4 false true false false) := by
  refine returnsInHanded_of_change_sized (C := Tryz.checked) own started (by kernel_rfl) Tryz.func4
    (ChangeSpec.witness6 (enc := enc) (C := Tryz.checked) false start 8 (by kernel_rfl) (by kernel_rfl) (by kernel_rfl) (by kernel_rfl)) ?_
  intro W base args ds gs before hval0 hW hcnd hsz0 _
  have hval : ∀ (j : Nat) t v, Tryz.f4.params[j]? = some t → args[j]? = some v → Value.okWide Tryz.prog W .any base t v := hval0
  have hW' := hW
  obtain ⟨p, q, hA0, hV, rfl, hfz, hnd⟩ := hW
  have hA : DataW.TrodAll enc Tryz.prog W 0 (fun _ => true) true Tryz.f4.params.toList args.toList ds p := hA0
  rw [Tryz.params4] at hA hval
  obtain ⟨v0, vs0, d0, ds0, p0, q0, hargs, rfl, rfl, h0, r0⟩ := trodAll_cons hA
  obtain ⟨rfl, rfl, rfl⟩ := trodAll_nil r0
  obtain rfl : args = #[v0] := by cases args; simp_all
  obtain ⟨rfl, rfl⟩ := trodVars_none hV
  have k0 := h0
  have lt0 : ∀ x ∈ p0, x.block < W.heap.size := by obtain ⟨m, hm⟩ := k0; exact DataW.trod_lt m _ _ _ hm
  obtain ⟨fu0, hf0⟩ := h0
  obtain ⟨a0, c0, o0⟩ := open_ok (Γ := G) gok full0 9 42 (.st SI.S_api_Node) (by kernel_rfl) enc _ _ _ _ _ _ hf0
  have w0 : VR (Γ := G) (fun _ => none) W (Low W) (.v (.st SI.S_api_Node) a0) v0 := arg_ok (P := Tryz.prog) (base := base) (n := 8) gok c0 (hval 0 42 v0 rfl rfl) (by kernel_rfl)
  obtain ⟨fu, hfu⟩ := Pure.CellNodes a0 o0
  refine Calls.mono (law_ok (rickyardlaw14_CellNodes.sc fu a0 true hfu) (.cons w0 .nil) (by intro g p h; cases h)) fun e W' hr => ?_
  obtain ⟨v, rfl, rfl, gr⟩ := hr
  have bel := Fr.below gr
  exact ⟨_, rfl, _, _, _, [], _, [], hW', trodAll_mk1 (shut_bool Tryz.underlying4 _), (trodAll_cons_mk (Below.trod laidOut (by kernel_rfl) (of_decide_eq_true (by kernel_rfl)) k0 bel lt0) trodAll_mk0), rfl, bel.frame _, fun h => by cases h⟩
theorem over : Rows.cellNodesRow.holds Tryz.pinned (OpenSpec.ofChange Rows.cellNodesSpec) :=
  OpenClaim.holds_of_wide 4 Tryz.f4 rfl rfl rfl rfl rfl rfl rfl ⟨rfl, rfl, rfl, rfl, rfl⟩ rfl rfl rfl rfl rfl (by kernel_rfl) Tryz.func4 closed
    (of_decide_eq_true (by kernel_rfl)) (by unfold Func.isWrapper; first | (rw [if_pos (by decide +kernel)]; kernel_rfl) | (rw [if_neg (by decide +kernel)]; exact ⟨rfl, rfl⟩))
    (fun os started H enc _ => lifted os started H enc)
end Go.Proofs.YtdifnahlheogdaaGreat.cellNodes
namespace Go.Proofs.YtdifnahlheogdaaGreat
theorem cellNodes_holds : Rows.CellNodesSaid := cellNodes.over
#print axioms cellNodes_holds
end Go.Proofs.YtdifnahlheogdaaGreat
