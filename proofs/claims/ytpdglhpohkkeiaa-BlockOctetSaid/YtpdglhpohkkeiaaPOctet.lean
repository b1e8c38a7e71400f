/- Numbers as octets, in plain words. -/
import Derived.Test.YtpdglhpohkkeiaaPCrc
import Derived.Test.YtpdglhpohkkeiaaFoctetLay
import Derived.Test.YtpdglhpohkkeiaaFoctetRead
import Derived.Test.YtpdglhpohkkeiaaFoctetNoughts
import Derived.Test.YtpdglhpohkkeiaaFrickyardref01Lay
set_option linter.unusedVariables false
set_option linter.unusedSimpArgs false
namespace Go.Proofs.Ytpdglhpohkkeiaa.Pure
open Go Go.Xw
def lay (v n : Nat) : List Int := (List.range n).map fun i => ((v / 256 ^ i % 256 : Nat) : Int)
theorem lay_len (v n : Nat) : (lay v n).length = n := by simp [lay]
theorem lay_succ (v n : Nat) : lay v (n + 1) = lay v n ++ [((v / 256 ^ n % 256 : Nat) : Int)] := by
  simp [lay, List.range_succ]
theorem lay_bytes (v n : Nat) : Bytes (lay v n) := by
  intro x hx
  simp only [lay, List.mem_map] at hx
  obtain ⟨i, _, rfl⟩ := hx
  omega
theorem wu8_mod {n : Nat} : IntKind.u8.wrap (n : Int) = ((n % 256 : Nat) : Int) := by
  unfold IntKind.wrap
  simp only [IntKind.signed, IntKind.bits]
  simp
theorem shr64 (n : Nat) : shR .u64 (n : Int) 8 = ((n / 256 : Nat) : Int) := by
  unfold shR
  show Int.fdiv (n : Int) (2 ^ min ((8 : Int).toNat) 64) = _
  rw [show (2 : Int) ^ min ((8 : Int).toNat) 64 = 256 from by decide, Int.fdiv_eq_ediv_of_nonneg _ (by decide)]
  omega
theorem wn64 (q : Nat) (h : q < 18446744073709551616) : IntKind.u64.wrap (q : Int) = (q : Int) := wu64 (by omega) (by omega)
theorem tdn (q : Nat) : Int.tdiv (q : Int) 256 = ((q / 256 : Nat) : Int) := by
  rw [Int.tdiv_eq_ediv_of_nonneg (by omega)]
  omega
theorem tmn (q : Nat) : Int.tmod (q : Int) 256 = ((q % 256 : Nat) : Int) := by
  rw [Int.tmod_eq_emod_of_nonneg (by omega)]
  omega
theorem wn8 (q : Nat) : IntKind.u8.wrap ((q % 256 : Nat) : Int) = ((q % 256 : Nat) : Int) := wu8 (by omega) (by omega)
theorem olay_eq {fu v n : Nat} (hn : n ≤ 8) (hf : n < fu) : octet_Lay.f fu (v : Int) (n : Int) = some (lay v n) := by
  unfold octet_Lay.f
  have h0 : ¬ ((n : Int) < 0) := by omega
  have h8 : ¬ ((n : Int) > 8) := by omega
  have hL : Int.toNat (n : Int) ≤ LIM := by
    have : (8 : Nat) ≤ LIM := by decide
    omega
  simp only [h0, h8, decide_false, Bool.false_eq_true, if_false]
  rw [if_pos ⟨by omega, hL⟩]
  have : loopM (octet_Lay.s0 fu (n : Int)) fu ((v : Int), 0, List.replicate (Int.toNat (n : Int)) (0 : Int)) = some (lay v n) := by
    refine loopM_run (S := fun j => (((v / 256 ^ j : Nat) : Int), (j : Int), lay v j ++ List.replicate (n - j) (0 : Int))) n (by simp [lay]) ?_ ?_ hf
    · intro j hj
      unfold octet_Lay.s0
      have w3 : IntKind.i64.wrap ((j : Int) + 1) = ((j + 1 : Nat) : Int) := by rw [w64 (by omega) (by omega)]; omega
      have e1 : (List.replicate (Int.toNat (n : Int)) (0 : Int)).length = n := by simp
      have e2 : (lay v j ++ List.replicate (n - j) (0 : Int)).length = n := by rw [List.length_append, lay_len, List.length_replicate]; omega
      have e3 : List.set (lay v j ++ List.replicate (n - j) (0 : Int)) (Int.toNat (j : Int)) (IntKind.u8.wrap ((v / 256 ^ j : Nat) : Int)) = lay v (j + 1) ++ List.replicate (n - (j + 1)) (0 : Int) := by
        rw [Int.toNat_natCast, List.set_append, if_neg (by rw [lay_len]; omega), lay_len, Nat.sub_self, wu8_mod, lay_succ, show n - j = n - (j + 1) + 1 from by omega, List.replicate_succ]
        simp
      have e4 : shR .u64 ((v / 256 ^ j : Nat) : Int) 8 = ((v / 256 ^ (j + 1) : Nat) : Int) := by
        rw [shr64, Nat.div_div_eq_div_mul, Nat.pow_succ]
      have h1 : (j : Int) < (n : Int) := by omega
      simp only [e1, e2, e3, e4, w3, h1, decide_true, if_true]
      rw [if_pos ⟨by omega, trivial⟩]
    · unfold octet_Lay.s0
      simp
  rw [this]
  rfl
theorem roctet_eq {fu v i : Nat} (hv : v < 18446744073709551616) (hi : i ≤ 1000) (hf : i < fu) : rickyardref01_Octet.f fu (v : Int) (i : Int) = some ((v / 256 ^ i % 256 : Nat) : Int) := by
  unfold rickyardref01_Octet.f
  have : loopM (rickyardref01_Octet.s0 fu (i : Int)) fu ((v : Int), 0) = some ((v / 256 ^ i : Nat) : Int) := by
    refine loopM_run (S := fun j => (((v / 256 ^ j : Nat) : Int), (j : Int))) i (by simp) ?_ ?_ hf
    · intro j hj
      unfold rickyardref01_Octet.s0
      have w3 : IntKind.i64.wrap ((j : Int) + 1) = ((j + 1 : Nat) : Int) := by rw [w64 (by omega) (by omega)]; omega
      have h1 : (j : Int) < (i : Int) := by omega
      have hle : v / 256 ^ j ≤ v := Nat.div_le_self _ _
      have e1 : Int.tdiv ((v / 256 ^ j : Nat) : Int) 256 = ((v / 256 ^ (j + 1) : Nat) : Int) := by
        rw [tdn, Nat.pow_succ, ← Nat.div_div_eq_div_mul]
      have hle2 : v / 256 ^ (j + 1) ≤ v := Nat.div_le_self _ _
      have e2 : IntKind.u64.wrap ((v / 256 ^ (j + 1) : Nat) : Int) = ((v / 256 ^ (j + 1) : Nat) : Int) := wn64 _ (Nat.lt_of_le_of_lt hle2 hv)
      simp only [h1, decide_true, if_true, e1, e2, w3]
    · unfold rickyardref01_Octet.s0
      simp
  rw [this]
  simp only [Option.bind_some, tmn, wn8]
theorem rlay_eq {fu v n : Nat} (hv : v < 18446744073709551616) (hn : n ≤ 8) (hf : n < fu) : rickyardref01_Lay.f fu (v : Int) (n : Int) = some ((lay v n).map toB) := by
  unfold rickyardref01_Lay.f
  have : loopM (rickyardref01_Lay.s0 fu (v : Int) (n : Int)) fu ([], 0) = some ((lay v n).map toB) := by
    refine loopM_run (S := fun j => ((lay v j).map toB, (j : Int))) n (by simp [lay]) ?_ ?_ hf
    · intro j hj
      unfold rickyardref01_Lay.s0
      have w3 : IntKind.i64.wrap ((j : Int) + 1) = ((j + 1 : Nat) : Int) := by rw [w64 (by omega) (by omega)]; omega
      have h1 : (j : Int) < (n : Int) := by omega
      have hlim : ((lay v j).map toB).length + ([((v / 256 ^ j % 256 : Nat) : Int)].map toB).length ≤ LIM := by
        have : (9 : Nat) ≤ LIM := by decide
        simp only [List.length_map, lay_len, List.length_cons, List.length_nil]
        omega
      simp only [h1, decide_true, if_true, roctet_eq (fu := fu) hv (by omega : j ≤ 1000) (by omega), Option.bind_some, w3]
      rw [if_pos hlim, lay_succ, List.map_append]
    · unfold rickyardref01_Lay.s0
      simp
  rw [this]
  rfl
def num : List Int → Nat
  | [] => 0
  | c :: l => c.toNat + 256 * num l
theorem num_append : ∀ (a b : List Int), num (a ++ b) = num a + 256 ^ a.length * num b
  | [], b => by simp [num]
  | c :: a, b => by
    simp only [List.cons_append, num, num_append a b, List.length_cons, Nat.pow_succ]
    rw [Nat.mul_add, Nat.add_assoc, ← Nat.mul_assoc, Nat.mul_comm 256 (256 ^ a.length)]
theorem num_lt : ∀ {l : List Int}, Bytes l → num l < 256 ^ l.length
  | [], _ => by simp [num]
  | c :: l, h => by
    have h1 := h c (by simp)
    have h2 := num_lt (l := l) fun x hx => h x (by simp [hx])
    simp only [num, List.length_cons, Nat.pow_succ]
    omega
theorem lay_num : ∀ {l : List Int}, Bytes l → lay (num l) l.length = l
  | [], _ => rfl
  | c :: l, h => by
    have h1 := h c (by simp)
    have h2 := lay_num (l := l) fun x hx => h x (by simp [hx])
    have e : lay (num (c :: l)) (l.length + 1) = c :: lay (num l) l.length := by
      unfold lay
      rw [List.range_succ_eq_map, List.map_cons, List.map_map]
      congr 1
      · simp only [num, Nat.pow_zero, Nat.div_one]
        omega
      · apply List.map_congr_left
        intro i hi
        simp only [Function.comp, num, Nat.succ_eq_add_one, Nat.pow_succ]
        rw [Nat.mul_comm (256 ^ i) 256, ← Nat.div_div_eq_div_mul, show (c.toNat + 256 * num l) / 256 = num l from by omega]
    rw [List.length_cons, e, h2]
theorem num_lay (v : Nat) : ∀ n, num (lay v n) = v % 256 ^ n
  | 0 => by simp [lay, num, Nat.mod_one]
  | n + 1 => by
    rw [lay_succ, num_append, num_lay v n, lay_len]
    simp only [num]
    rw [Int.toNat_natCast, Nat.mul_zero, Nat.add_zero, Nat.pow_succ, Nat.mod_mul]
theorem or_add (a c j : Nat) (ha : a < 256 ^ j) : a ||| c * 256 ^ j = a + 256 ^ j * c := by
  have e : 256 ^ j = 2 ^ (8 * j) := by rw [Nat.pow_mul]
  rw [e] at ha ⊢
  rw [Nat.mul_comm c, Nat.or_comm, ← Nat.two_pow_add_eq_or_of_lt ha, Nat.add_comm]
theorem read_eq {fu : Nat} {l : List Int} (hb : Bytes l) (hl : l.length ≤ 8) (hf : l.length < fu) : octet_Read.f fu l = some ((num l : Nat) : Int) := by
  unfold octet_Read.f
  have hm : mnI (l.length : Int) 8 = (l.length : Int) := by
    unfold mnI
    split <;> omega
  have hc : cut l 0 (l.length : Int) = l := by
    unfold cut
    simp
  rw [hm, if_pos ⟨by omega, Int.le_refl _⟩]
  have : loopM (octet_Read.s0 fu l) fu (0, 0) = some ((num l : Nat) : Int) := by
    refine loopM_run (S := fun j => (((num (l.take j) : Nat) : Int), (j : Int))) l.length (by simp [num]) ?_ ?_ hf
    · intro j hj
      unfold octet_Read.s0
      rw [hm, hc]
      have h1 : (j : Int) < (l.length : Int) := by omega
      have w3 : IntKind.i64.wrap ((j : Int) + 1) = ((j + 1 : Nat) : Int) := by rw [w64 (by omega) (by omega)]; omega
      have w4 : IntKind.i64.wrap (8 * (j : Int)) = ((8 * j : Nat) : Int) := by rw [w64 (by omega) (by omega)]; omega
      have hcb := hb _ (List.getElem_mem hj)
      obtain ⟨c, hc'⟩ : ∃ c : Nat, l[j] = (c : Int) := ⟨l[j].toNat, by omega⟩
      have hlt : num (l.take j) < 256 ^ j := by
        have := num_lt (l := l.take j) fun x hx => hb x (List.mem_of_mem_take hx)
        rwa [List.length_take, Nat.min_eq_left (by omega)] at this
      have e256 : (256 : Nat) ^ j * 256 ≤ 256 ^ 8 := by
        rw [← Nat.pow_succ]
        exact Nat.pow_le_pow_right (by decide) (by omega)
      have e8 : (256 : Nat) ^ 8 = 18446744073709551616 := by decide
      have hcj : c * 256 ^ j < 18446744073709551616 := by
        have : c * 256 ^ j ≤ 255 * 256 ^ j := Nat.mul_le_mul_right _ (by omega)
        have : 0 < 256 ^ j := Nat.pow_pos (by decide)
        omega
      have e1 : shL .u64 (IntKind.u64.wrap (ix l (j : Int))) ((8 * j : Nat) : Int) = ((c * 256 ^ j : Nat) : Int) := by
        rw [ix_nat hj, hc', wu64 (by omega) (by omega)]
        unfold shL
        rw [Int.toNat_natCast, Nat.min_eq_left (by show 8 * j ≤ 64; omega)]
        have : (c : Int) * 2 ^ (8 * j) = ((c * 256 ^ j : Nat) : Int) := by
          have h256 : ((256 ^ j : Nat) : Int) = 2 ^ (8 * j) := by
            rw [Int.natCast_pow, Int.pow_mul]
            exact congrArg (fun z : Int => z ^ j) (by decide : ((256 : Nat) : Int) = 2 ^ 8)
          rw [Int.natCast_mul, h256]
        rw [this, wu64 (by omega) (by omega)]
      have e2 : bOr .u64 ((num (l.take j) : Nat) : Int) ((c * 256 ^ j : Nat) : Int) = ((num (l.take (j + 1)) : Nat) : Int) := by
        unfold bOr
        show IntKind.u64.wrap (((BitVec.ofInt 64 ((num (l.take j) : Nat) : Int) ||| BitVec.ofInt 64 ((c * 256 ^ j : Nat) : Int)).toNat : Nat) : Int) = _
        rw [BitVec.ofInt_natCast, BitVec.ofInt_natCast, BitVec.toNat_or, BitVec.toNat_ofNat, BitVec.toNat_ofNat, Nat.mod_eq_of_lt (by omega), Nat.mod_eq_of_lt (by omega), or_add _ _ _ hlt, take_next hj, num_append]
        have hs : num (l.take j) + 256 ^ j * c < 18446744073709551616 := by
          rw [Nat.mul_comm]
          have : c * 256 ^ j ≤ 255 * 256 ^ j := Nat.mul_le_mul_right _ (by omega)
          omega
        rw [wu64 (by omega) (by omega)]
        simp only [num, hc', Int.toNat_natCast, List.length_take, Nat.min_eq_left (by omega : j ≤ l.length), Nat.mul_zero, Nat.add_zero]
      simp only [h1, decide_true, if_true, w4, e1, e2, w3]
      rw [if_pos ⟨by omega, trivial⟩, if_pos (by omega)]
    · unfold octet_Read.s0
      rw [hm, hc]
      simp
  rw [this]
  rfl
end Go.Proofs.Ytpdglhpohkkeiaa.Pure
