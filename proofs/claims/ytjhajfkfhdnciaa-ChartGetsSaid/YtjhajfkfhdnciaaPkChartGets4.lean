/- ChartGets: texts merged, part 4 of 4. The last part proves that the law ChartGets holds for every input. -/
import Derived.Test.YtjhajfkfhdnciaaPkChartGets3
/- Sums in plain words: steps of one bit over words of 32 bits; the program's halves of octets and the document's single steps tell the same. -/
set_option linter.unusedVariables false
set_option linter.unusedSimpArgs false
namespace Go.Proofs.Ytjhajfkfhdnciaa.Pure
open Go Go.Xw
def I32 (x : BitVec 32) : Int := (x.toNat : Int)
theorem I32_lt (x : BitVec 32) : 0 ≤ I32 x ∧ I32 x ≤ 4294967295 := by
  unfold I32
  have := x.isLt
  omega
theorem ofI (x : BitVec 32) : BitVec.ofInt 32 (I32 x) = x := by
  unfold I32
  rw [BitVec.ofInt_natCast, BitVec.ofNat_toNat, BitVec.setWidth_eq]
theorem I32_of {n : Int} (h0 : 0 ≤ n) (h1 : n ≤ 4294967295) : n = I32 (BitVec.ofNat 32 n.toNat) := by
  unfold I32
  rw [BitVec.toNat_ofNat, Nat.mod_eq_of_lt (by omega)]
  omega
theorem wI32 (x : BitVec 32) : IntKind.u32.wrap (I32 x) = I32 x := wu32 (I32_lt x).1 (I32_lt x).2
theorem bx32 (x y : BitVec 32) : bXor .u32 (I32 x) (I32 y) = I32 (x ^^^ y) := by
  unfold bXor
  show IntKind.u32.wrap (((BitVec.ofInt 32 (I32 x) ^^^ BitVec.ofInt 32 (I32 y)).toNat : Nat) : Int) = _
  rw [ofI, ofI]
  exact wI32 _
theorem ba32 (x y : BitVec 32) : bAnd .u32 (I32 x) (I32 y) = I32 (x &&& y) := by
  unfold bAnd
  show IntKind.u32.wrap (((BitVec.ofInt 32 (I32 x) &&& BitVec.ofInt 32 (I32 y)).toNat : Nat) : Int) = _
  rw [ofI, ofI]
  exact wI32 _
theorem sr32 (x : BitVec 32) (n : Nat) (hn : n ≤ 32) : shR .u32 (I32 x) (n : Int) = I32 (x >>> n) := by
  unfold shR I32
  rw [BitVec.toNat_ushiftRight, Nat.shiftRight_eq_div_pow]
  show Int.fdiv (x.toNat : Int) (2 ^ min ((n : Int).toNat) 32) = _
  rw [Int.toNat_natCast, Nat.min_eq_left hn, Int.fdiv_eq_ediv_of_nonneg _ (Int.le_of_lt (Int.pow_pos (by decide)))]
  simp
def poly : BitVec 32 := 2197175160#32
def stp (x : BitVec 32) : BitVec 32 := (x >>> 1) ^^^ (if x.getLsbD 0 then poly else 0#32)
theorem lsb_and (x : BitVec 32) : (I32 (x &&& 1#32) = 1) ↔ x.getLsbD 0 = true := by
  unfold I32
  rw [BitVec.toNat_and]
  show ((x.toNat &&& 1 : Nat) : Int) = 1 ↔ x.toNat.testBit 0 = true
  rw [Nat.and_one_is_mod, Nat.testBit_zero]
  simp
  omega
theorem step_eq (fu : Nat) (x : BitVec 32) : crc_step.f fu (I32 x) = some (I32 (stp x)) := by
  unfold crc_step.f stp
  have e1 : bAnd .u32 (I32 x) 1 = I32 (x &&& 1#32) := ba32 x 1#32
  have e2 : shR .u32 (I32 x) 1 = I32 (x >>> 1) := sr32 x 1 (by decide)
  have e3 : bXor .u32 (I32 (x >>> 1)) 2197175160 = I32 (x >>> 1 ^^^ poly) := bx32 (x >>> 1) poly
  rw [e1, e2, e3]
  by_cases h : x.getLsbD 0 = true
  · rw [if_pos (by simpa using (lsb_and x).2 h), if_pos h]
  · rw [if_neg (by simpa using fun e => h ((lsb_and x).1 e)), if_neg h]
    simp
theorem rstep_eq (fu : Nat) (x : BitVec 32) : rickyardref02_Step.f fu (I32 x) = some (I32 (stp x)) := by
  unfold rickyardref02_Step.f stp
  have hb := I32_lt x
  have e1 : Int.tmod (I32 x) 2 = I32 (x &&& 1#32) := by
    rw [Int.tmod_eq_emod_of_nonneg hb.1]
    unfold I32
    rw [BitVec.toNat_and]
    show ((x.toNat : Int)) % 2 = ((x.toNat &&& 1 : Nat) : Int)
    rw [Nat.and_one_is_mod]
    omega
  have e2 : Int.tdiv (I32 x) 2 = I32 (x >>> 1) := by
    rw [Int.tdiv_eq_ediv_of_nonneg hb.1]
    unfold I32
    rw [BitVec.toNat_ushiftRight, Nat.shiftRight_eq_div_pow]
    omega
  have e3 : bXor .u32 (I32 (x >>> 1)) 2197175160 = I32 (x >>> 1 ^^^ poly) := bx32 (x >>> 1) poly
  rw [e1, e2, wI32, e3]
  by_cases h : x.getLsbD 0 = true
  · rw [if_pos (by simpa using (lsb_and x).2 h), if_pos h]
  · rw [if_neg (by simpa using fun e => h ((lsb_and x).1 e)), if_neg h]
    simp
theorem xor4 (a b p q : BitVec 32) : (a ^^^ b) ^^^ (p ^^^ q) = (a ^^^ p) ^^^ (b ^^^ q) := by
  rw [BitVec.xor_assoc, ← BitVec.xor_assoc b, BitVec.xor_comm b p, BitVec.xor_assoc p, ← BitVec.xor_assoc]
theorem sel_xor (a b : Bool) (p : BitVec 32) : (if (a ^^ b) = true then p else 0#32) = (if a = true then p else 0#32) ^^^ (if b = true then p else 0#32) := by
  cases a <;> cases b <;> simp
theorem stp_xor (x y : BitVec 32) : stp (x ^^^ y) = stp x ^^^ stp y := by
  unfold stp
  rw [BitVec.ushiftRight_xor_distrib, BitVec.getLsbD_xor, sel_xor, xor4]
def stps : Nat → BitVec 32 → BitVec 32
  | 0, x => x
  | n + 1, x => stps n (stp x)
theorem stps_xor : ∀ (n : Nat) (x y : BitVec 32), stps n (x ^^^ y) = stps n x ^^^ stps n y
  | 0, x, y => rfl
  | n + 1, x, y => by
    unfold stps
    rw [stp_xor, stps_xor n]
theorem stps_add (m : Nat) : ∀ (n : Nat) (x : BitVec 32), stps (n + m) x = stps m (stps n x)
  | 0, x => by simp [stps]
  | n + 1, x => by
    rw [Nat.add_right_comm]
    show stps (n + m) (stp x) = stps m (stps n (stp x))
    exact stps_add m n (stp x)
theorem stps_succ (n : Nat) (x : BitVec 32) : stps (n + 1) x = stp (stps n x) := stps_add 1 n x
theorem stp_even {x : BitVec 32} (h : x.getLsbD 0 = false) : stp x = x >>> 1 := by
  unfold stp
  rw [h]
  simp
theorem stps_high (x : BitVec 32) : ∀ n, (∀ j, j < n → x.getLsbD j = false) → stps n x = x >>> n
  | 0, _ => by simp [stps]
  | n + 1, h => by
    rw [stps_succ, stps_high x n fun j hj => h j (by omega)]
    rw [stp_even (by rw [BitVec.getLsbD_ushiftRight]; exact h (n + 0) (by omega)), ← BitVec.shiftRight_add]
theorem low_bit (n j : Nat) (hj : j < n) (hn : n ≤ 32) : (BitVec.ofNat 32 (2 ^ n - 1)).getLsbD j = true := by
  rw [BitVec.getLsbD_ofNat, Nat.testBit_two_pow_sub_one]
  simp
  omega
theorem high_bit (n j : Nat) (hj : n ≤ j) : (BitVec.ofNat 32 (2 ^ n - 1)).getLsbD j = false := by
  rw [BitVec.getLsbD_ofNat, Nat.testBit_two_pow_sub_one]
  simp
  omega
/-- n steps: what is above the lowest n bits moves down, the lowest n bits make the rest. -/
theorem stps_split (n : Nat) (hn : n ≤ 32) (x : BitVec 32) : stps n x = (x >>> n) ^^^ stps n (x &&& BitVec.ofNat 32 (2 ^ n - 1)) := by
  have e : x = (x &&& ~~~ BitVec.ofNat 32 (2 ^ n - 1)) ^^^ (x &&& BitVec.ofNat 32 (2 ^ n - 1)) := by
    apply BitVec.eq_of_getLsbD_eq
    intro i hi
    rw [BitVec.getLsbD_xor, BitVec.getLsbD_and, BitVec.getLsbD_and, BitVec.getLsbD_not]
    cases x.getLsbD i <;> cases (BitVec.ofNat 32 (2 ^ n - 1)).getLsbD i <;> simp [hi]
  conv => lhs; rw [e]
  rw [stps_xor, stps_high]
  · congr 1
    apply BitVec.eq_of_getLsbD_eq
    intro i hi
    rw [BitVec.getLsbD_ushiftRight, BitVec.getLsbD_ushiftRight, BitVec.getLsbD_and, BitVec.getLsbD_not, high_bit n (n + i) (by omega)]
    by_cases h : n + i < 32
    · simp [h]
    · have : x.getLsbD (n + i) = false := BitVec.getLsbD_of_ge _ _ (by omega)
      simp [this]
  · intro j hj
    rw [BitVec.getLsbD_and, BitVec.getLsbD_not, low_bit n j hj hn]
    simp
/-- Steps lose nothing. -/
theorem stp_inj0 {x : BitVec 32} (h : stp x = 0#32) : x = 0#32 := by
  unfold stp at h
  have hp : poly.getLsbD 31 = true := by decide
  have h31 : (stp x).getLsbD 31 = x.getLsbD 0 := by
    unfold stp
    rw [BitVec.getLsbD_xor, BitVec.getLsbD_ushiftRight, BitVec.getLsbD_of_ge x (1 + 31) (by omega)]
    cases x.getLsbD 0 <;> simp [hp]
  have h0 : x.getLsbD 0 = false := by
    rw [← h31]
    unfold stp
    rw [h]
    simp
  simp only [h0] at h
  apply BitVec.eq_of_getLsbD_eq
  intro i hi
  cases i with
  | zero => rw [h0]; simp
  | succ i =>
    have := congrArg (fun z => z.getLsbD i) h
    simp [BitVec.getLsbD_ushiftRight] at this
    rw [Nat.add_comm] at this
    simpa using this
theorem stps_inj0 : ∀ (n : Nat) {x : BitVec 32}, stps n x = 0#32 → x = 0#32
  | 0, x, h => h
  | n + 1, x, h => stp_inj0 (stps_inj0 n h)
def Bytes (l : List Int) : Prop := ∀ x ∈ l, 0 ≤ x ∧ x ≤ 255
def b32 (c : Int) : BitVec 32 := BitVec.ofNat 32 c.toNat
theorem b32_eq {c : Int} (h : 0 ≤ c ∧ c ≤ 255) : IntKind.u32.wrap c = I32 (b32 c) := by
  rw [wu32 h.1 (by omega)]
  exact I32_of h.1 (by omega)
def take8 (x : BitVec 32) (c : Int) : BitVec 32 := stps 8 (x ^^^ b32 c)
def regs (x : BitVec 32) (l : List Int) : BitVec 32 := l.foldl take8 x
def tabL : List Int := (List.range 16).map fun i => I32 (stps 4 (BitVec.ofNat 32 i))
def tabA : Arr 16 Int := ⟨tabL, rfl⟩
theorem table_at (n : Nat) : crc_Table.f (n + 20) = some tabA := by kernel_rfl
theorem table_eq {fu : Nat} (h : 20 ≤ fu) : crc_Table.f fu = some tabA := by
  obtain ⟨n, rfl⟩ : ∃ n, fu = n + 20 := ⟨fu - 20, by omega⟩
  exact table_at n
theorem tab_get : ∀ i : Fin 16, Arr.get tabA ((i : Nat) : Int) = I32 (stps 4 (BitVec.ofNat 32 (i : Nat))) := by decide +kernel
theorem nib (x : BitVec 32) : bXor .u32 (shR .u32 (I32 x) 4) (Arr.get tabA (bAnd .u32 (I32 x) 15)) = I32 (stps 4 x) := by
  have e1 : bAnd .u32 (I32 x) 15 = I32 (x &&& 15#32) := ba32 x 15#32
  have e2 : shR .u32 (I32 x) 4 = I32 (x >>> 4) := sr32 x 4 (by decide)
  have hlt : (x &&& 15#32).toNat < 16 := by
    rw [BitVec.toNat_and]
    exact Nat.lt_of_le_of_lt Nat.and_le_right (by decide)
  have e3 : Arr.get tabA (I32 (x &&& 15#32)) = I32 (stps 4 (x &&& 15#32)) := by
    have := tab_get ⟨(x &&& 15#32).toNat, hlt⟩
    simp only [BitVec.ofNat_toNat, BitVec.setWidth_eq] at this
    exact this
  rw [e1, e2, e3, bx32]
  exact congrArg I32 (stps_split 4 (by decide) x).symm
theorem nib_in (x : BitVec 32) : 0 ≤ bAnd .u32 (I32 x) 15 ∧ bAnd .u32 (I32 x) 15 < 16 := by
  have e1 : bAnd .u32 (I32 x) 15 = I32 (x &&& 15#32) := ba32 x 15#32
  have hlt : (x &&& 15#32).toNat < 16 := by
    rw [BitVec.toNat_and]
    exact Nat.lt_of_le_of_lt Nat.and_le_right (by decide)
  rw [e1]
  unfold I32
  omega
theorem ix_nat {α : Type} [Inhabited α] {l : List α} {j : Nat} (h : j < l.length) : ix l (j : Int) = l[j] := by
  simp [ix, List.getD_eq_getElem?_getD, List.getElem?_eq_getElem h]
theorem take_next {α : Type} {l : List α} {j : Nat} (h : j < l.length) : l.take (j + 1) = l.take j ++ [l[j]] := by
  rw [List.take_add_one, List.getElem?_eq_getElem h]
  rfl
theorem reg_eq {fu : Nat} {x : BitVec 32} {l : List Int} (hb : Bytes l) (hl : l.length ≤ 9000000000000000000) (hf : l.length < fu) : crc_register.f fu tabA (I32 x) l = some (I32 (regs x l)) := by
  unfold crc_register.f
  have : loopM (crc_register.s0 fu tabA l) fu (I32 x, 0) = some (I32 (regs x l)) := by
    refine loopM_run (S := fun j => (I32 (regs x (l.take j)), (j : Int))) l.length (by simp [regs]) ?_ ?_ hf
    · intro j hj
      unfold crc_register.s0
      have h1 : (j : Int) < (l.length : Int) := by omega
      have w3 : IntKind.i64.wrap ((j : Int) + 1) = ((j + 1 : Nat) : Int) := by rw [w64 (by omega) (by omega)]; omega
      have hc := hb _ (List.getElem_mem hj)
      have e1 : bXor .u32 (I32 (regs x (l.take j))) (IntKind.u32.wrap (ix l (j : Int))) = I32 (regs x (l.take j) ^^^ b32 l[j]) := by
        rw [ix_nat hj, b32_eq hc, bx32]
      have e2 : regs x (l.take (j + 1)) = stps 4 (stps 4 (regs x (l.take j) ^^^ b32 l[j])) := by
        rw [take_next hj]
        unfold regs
        rw [List.foldl_append]
        exact stps_add 4 4 _
      simp only [h1, decide_true, if_true, e1, nib, w3, e2]
      rw [if_pos ⟨by omega, trivial⟩, if_pos (nib_in _), if_pos (nib_in _)]
    · unfold crc_register.s0
      simp
  rw [this]
  rfl
def ones : BitVec 32 := 4294967295#32
def crc (l : List Int) : BitVec 32 := regs ones l ^^^ ones
theorem regs_append (x : BitVec 32) (a b : List Int) : regs x (a ++ b) = regs (regs x a) b := by
  unfold regs
  rw [List.foldl_append]
theorem sum_eq {fu : Nat} {l : List Int} (hb : Bytes l) (hl : l.length ≤ 9000000000000000000) (hf : l.length + 20 < fu) : crc_Sum.f fu [l] = some (I32 (crc l)) := by
  unfold crc_Sum.f
  rw [table_eq (by omega)]
  have : loopM (crc_Sum.s0 fu [l] tabA) fu (4294967295, 0) = some (I32 (regs ones l)) := by
    refine loopM_run (S := fun j => (if j = 0 then I32 ones else I32 (regs ones l), (j : Int))) 1 rfl ?_ ?_ (by omega)
    · intro j hj
      obtain rfl : j = 0 := by omega
      unfold crc_Sum.s0
      have e0 : ix [l] ((0 : Nat) : Int) = l := rfl
      have w3 : IntKind.i64.wrap (((0 : Nat) : Int) + 1) = ((0 + 1 : Nat) : Int) := by decide
      simp only [e0, w3, if_true, reg_eq hb hl (by omega : l.length < fu)]
      simp
    · unfold crc_Sum.s0
      simp
  simp only [Option.bind_some]
  rw [this]
  simp only [Option.bind_some]
  exact congrArg some (bx32 _ ones)
theorem rsteps_eq {fu : Nat} {x : BitVec 32} (hf : 8 < fu) : rickyardref02_Steps.f fu (I32 x) 8 = some (I32 (stps 8 x)) := by
  unfold rickyardref02_Steps.f
  have : loopM (rickyardref02_Steps.s0 fu 8) fu (I32 x, 0) = some (I32 (stps 8 x)) := by
    refine loopM_run (S := fun j => (I32 (stps j x), (j : Int))) 8 rfl ?_ ?_ hf
    · intro j hj
      unfold rickyardref02_Steps.s0
      have h1 : (j : Int) < 8 := by omega
      have w3 : IntKind.i64.wrap ((j : Int) + 1) = ((j + 1 : Nat) : Int) := by rw [w64 (by omega) (by omega)]; omega
      simp only [h1, decide_true, if_true, rstep_eq, w3, stps_succ]
      rfl
    · unfold rickyardref02_Steps.s0
      simp
  rw [this]
  rfl
theorem rsum_eq {fu : Nat} {l : List Int} (hb : Bytes l) (hl : l.length ≤ 9000000000000000000) (hf : l.length + 20 < fu) : rickyardref02_Sum.f fu l = some (I32 (crc l)) := by
  unfold rickyardref02_Sum.f
  have : loopM (rickyardref02_Sum.s0 fu l) fu (4294967295, 0) = some (I32 (regs ones l)) := by
    refine loopM_run (S := fun j => (I32 (regs ones (l.take j)), (j : Int))) l.length (by simp [regs]; rfl) ?_ ?_ (by omega)
    · intro j hj
      unfold rickyardref02_Sum.s0
      have h1 : (j : Int) < (l.length : Int) := by omega
      have w3 : IntKind.i64.wrap ((j : Int) + 1) = ((j + 1 : Nat) : Int) := by rw [w64 (by omega) (by omega)]; omega
      have hc := hb _ (List.getElem_mem hj)
      have e1 : bXor .u32 (I32 (regs ones (l.take j))) (IntKind.u32.wrap (ix l (j : Int))) = I32 (regs ones (l.take j) ^^^ b32 l[j]) := by
        rw [ix_nat hj, b32_eq hc, bx32]
      have e2 : regs ones (l.take (j + 1)) = stps 8 (regs ones (l.take j) ^^^ b32 l[j]) := by
        rw [take_next hj]
        unfold regs
        rw [List.foldl_append]
        rfl
      simp only [h1, decide_true, if_true, e1, w3, e2, rsteps_eq (by omega : 8 < fu)]
      rw [if_pos ⟨by omega, trivial⟩]
      rfl
    · unfold rickyardref02_Sum.s0
      simp
  rw [this]
  have e : IntKind.u32.wrap (4294967295 - I32 (regs ones l)) = I32 (crc l) := by
    have hlt := (regs ones l).isLt
    have h2 : (crc l).toNat = 4294967295 - (regs ones l).toNat := by
      unfold crc
      have : regs ones l ^^^ ones = ~~~ (regs ones l) := by
        apply BitVec.eq_of_getLsbD_eq
        intro i hi
        have ho : ones.getLsbD i = true := by
          have := low_bit 32 i hi (by decide)
          exact this
        rw [BitVec.getLsbD_xor, BitVec.getLsbD_not, ho]
        simp [hi]
      rw [this, BitVec.toNat_not]
    unfold I32
    rw [h2, wu32 (by omega) (by omega)]
    omega
  simp only [Option.bind_some, e]
end Go.Proofs.Ytjhajfkfhdnciaa.Pure

/- rickyard/octet.Lay: its model, and that the Go function computes it: written by gen.py. -/
set_option linter.unusedVariables false
namespace Go.Proofs.Ytjhajfkfhdnciaa
open Go Go.Xw
def octet_Lay.s0 (fu : Nat) (a1 : Int) : (Int × Int × (List Int)) → Option (Sum (List Int) (Int × Int × (List Int))) := fun s14 => (if (decide (s14.2.1 < (List.length (List.replicate (Int.toNat a1) (0 : Int)) : Int))) = true then (if 0 ≤ s14.2.1 ∧ s14.2.1 < (List.length s14.2.2 : Int) then some (Sum.inr ((shR .u64 s14.1 8), (IntKind.i64.wrap (s14.2.1 + 1)), (List.set s14.2.2 (Int.toNat s14.2.1) (IntKind.u8.wrap s14.1)))) else none) else some (Sum.inl (s14.2.2)))
def octet_Lay.f (fu : Nat) (a0 : Int) (a1 : Int) : Option (List Int) := (if (if (decide (a1 < 0)) = true then true else (decide (a1 > 8))) = true then some ([]) else (if 0 ≤ a1 ∧ Int.toNat a1 ≤ LIM then ((loopM (octet_Lay.s0 fu a1) fu (a0, 0, (List.replicate (Int.toNat a1) (0 : Int)))).bind fun e15 => some (e15)) else none))
set_option maxRecDepth 100000 in
set_option maxHeartbeats 400000 in
theorem octet_Lay.ok (fu : Nat) (w : World) (a0 : Int) (a1 : Int) (r : (List Int)) (h : octet_Lay.f fu a0 a1 = some r) :
    Calls Try.prog 95 (([.int .u64 a0, .int .i64 a1] : List Value).toArray) w (fun e w' => ∃ v, e = .returned v ∧ ∃ u1 : Value, ∃ o2 : Own (kI .u8) 5 w' w.heap.size u1 r, v = u1 ∧ Gr w w') := by
  unfold octet_Lay.f at h
  have fB : Gr w w := Fr.refl _ _
  refine calls_cw Try.func95 rfl Try.ntmps95 rfl ?_
  refine cw_seq ?_
  refine cw_region ?_
  refine ol_val (v := .slice none 0 0) (by exact xr_assign rfl rfl) rfl rfl rfl ?_
  refine ol_nil ?_
  refine cw_seq ?_
  refine cw_seq ?_
  refine cw_mid (fun ρ' w' => ρ' 0 = .int .u64 a0 ∧ ρ' 1 = .int .i64 a1 ∧ ρ' 12 = .bool (if (decide (a1 < 0)) = true then true else (decide (a1 > 8))) ∧ w = w') ?_ ?_
  · skip
    refine cw_region ?_
    refine ol_val (v := .int .i64 a1) (by exact xr_move rfl rfl) rfl rfl rfl ?_
    refine ol_val (v := .bool (decide (a1 < 0))) (by exact xr_lss rfl rfl rfl) rfl rfl rfl ?_
    refine ol_val (v := .bool (decide (a1 < 0))) (by exact xr_move rfl rfl) rfl rfl rfl ?_
    rcases bt (decide (a1 < 0)) with c4 | c4
    · skip
      refine ol_gskip rfl rfl rfl rfl rfl c4 ?_
      refine ol_gskip rfl rfl rfl rfl rfl c4 ?_
      refine ol_val (v := .bool true) (by exact xr_pickT rfl rfl c4 rfl) rfl rfl rfl ?_
      refine ol_nil ?_
      refine thn_i ?_
      exact ⟨rfl, rfl, (rfl).trans (congrArg (fun z => (.bool z : Value)) (show true = (if (decide (a1 < 0)) = true then true else (decide (a1 > 8))) from by rw [ite_t c4])), rfl⟩
    · skip
      refine ol_gval (v := .int .i64 a1) (by exact xr_move rfl rfl) rfl rfl rfl rfl rfl c4 ?_
      refine ol_gval (v := .bool (decide (a1 > 8))) (by exact xr_gtr rfl rfl rfl) rfl rfl rfl rfl rfl c4 ?_
      refine ol_val (v := .bool (decide (a1 > 8))) (by exact xr_pickF rfl rfl c4 rfl) rfl rfl rfl ?_
      refine ol_nil ?_
      refine thn_i ?_
      exact ⟨rfl, rfl, (rfl).trans (congrArg (fun z => (.bool z : Value)) (show (decide (a1 > 8)) = (if (decide (a1 < 0)) = true then true else (decide (a1 > 8))) from by rw [ite_f c4])), rfl⟩
  · skip
    rintro ρ5 _ ⟨e0, e1, e12, rfl⟩
    rcases is h with ⟨c6, h⟩ | ⟨c6, h⟩
    · refine cw_condT e12 c6 ?_
      refine cw_seq ?_
      refine cw_region ?_
      refine ol_val (v := .slice none 0 0) (by exact xr_assign rfl rfl) rfl rfl rfl ?_
      refine ol_nil ?_
      refine cw_ret ?_
      repeat (first | with_reducible refine thn_r ?_ | with_reducible refine blk_r ?_)
      obtain rfl := Option.some.inj h
      refine fin_ret1 Try.results95 rfl ?_
      exact ⟨_, rfl, (.slice none 0 0), Own.nil _ _ _ _, rfl, fB⟩
    · refine cw_condF e12 c6 ?_
      refine cw_skip ?_
      refine cw_seq ?_
      refine cw_region ?_
      refine ol_val (v := .int .i64 a1) (by exact xr_move rfl e1) rfl rfl rfl ?_
      obtain ⟨g7, h⟩ := gs h
      refine ol_op (by exact opv_make (K := (kI .u8)) (z := (0 : Int)) rfl Try.underlying22 el5 rfl rfl rfl g7.1 g7.2 rfl fB.size) rfl rfl rfl ?_
      rintro v8 w13 ⟨o10, q9, z11⟩
      have fB := fB.gr q9
      refine ol_val (v := v8) (by exact xr_assign rfl rfl) rfl rfl rfl ?_
      refine ol_nil ?_
      refine cw_seq ?_
      refine cw_seq ?_
      refine cw_region ?_
      refine ol_val (v := v8) (by exact xr_move rfl rfl) rfl rfl rfl ?_
      refine ol_val (v := .int .i64 (List.length (List.replicate (Int.toNat a1) (0 : Int)) : Int)) (by exact xr_lenR rfl Try.underlying22 rfl o10.rd) rfl rfl rfl ?_
      refine ol_val (v := .int .i64 0) (by exact xr_move rfl rfl) rfl rfl rfl ?_
      refine ol_nil ?_
      obtain ⟨e15, l16, h17⟩ := bs h
      refine cw_mid (fun ρ' w' => ∃ o10 : Own (kI .u8) 5 w' w.heap.size v8 e15, ρ' 5 = v8 ∧ Gr w w') ?_ ?_
      · refine cw_block ?_
        refine cw_round (fun (s14 : Int × Int × (List Int)) ρ' w' => ∃ o10 : Own (kI .u8) 5 w' w.heap.size v8 s14.2.2, ρ' 0 = .int .u64 s14.1 ∧ ρ' 5 = v8 ∧ ρ' 16 = .int .i64 (List.length (List.replicate (Int.toNat a1) (0 : Int)) : Int) ∧ ρ' 17 = .int .i64 s14.2.1 ∧ Gr w w') l16 ?_ ?_
        · skip
          exact ⟨o10, e0, rfl, rfl, rfl, fB⟩
        · rintro s14 x20 ρ18 w19 ⟨o10, e0, e5, e16, e17, fB⟩ h
          unfold octet_Lay.s0 at h
          refine cw_seq ?_
          refine cw_region ?_
          refine ol_val (v := .bool (decide (s14.2.1 < (List.length (List.replicate (Int.toNat a1) (0 : Int)) : Int)))) (by exact xr_lss rfl e17 e16) rfl rfl rfl ?_
          refine ol_nil ?_
          refine cw_seq ?_
          rcases is h with ⟨c21, h⟩ | ⟨c21, h⟩
          · refine cw_condT rfl c21 ?_
            refine cw_skip ?_
            refine cw_seq ?_
            refine cw_block ?_
            refine cw_seq ?_
            refine cw_region ?_
            refine ol_val (v := .int .i64 s14.2.1) (by exact xr_move rfl e17) rfl rfl rfl ?_
            refine ol_val (v := .int .i64 s14.2.1) (by exact xr_assign rfl rfl) rfl rfl rfl ?_
            refine ol_nil ?_
            refine cw_seq ?_
            refine cw_region ?_
            refine ol_val (v := v8) (by exact xr_move rfl e5) rfl rfl rfl ?_
            refine ol_val (v := .int .i64 s14.2.1) (by exact xr_move rfl rfl) rfl rfl rfl ?_
            refine ol_val (v := .int .u64 s14.1) (by exact xr_move rfl e0) rfl rfl rfl ?_
            refine ol_val (v := .int .u8 (IntKind.u8.wrap s14.1)) (by exact xr_conv rfl Try.underlying129 Try.underlying5 rfl) rfl rfl rfl ?_
            obtain ⟨g22, h⟩ := gs h
            refine ol_val (v := .pointer (some ⟨(sb v8), so v8 + Int.toNat s14.2.1 * 1, none⟩)) (by exact xr_indexR (K := (kI .u8)) (v := v8) rfl Try.underlying22 sz5 rfl o10.rd rfl g22.1 g22.2) rfl rfl rfl ?_
            have f24 := o10.geO
            refine ol_op0 (by exact opv_storeRow (z := (IntKind.u8.wrap s14.1)) (xs := cellsOf [Seg.cell (.int .u8 (IntKind.u8.wrap s14.1))]) rfl sz5 rfl rfl rfl (len_cellsOf _) (one_cellsOf _) o10 g22.1 g22.2 (Spl.whole ((Kd.len _ _).trans (Kd.len _ _).symm)) rfl) rfl rfl ?_
            rintro _ w25 ⟨o10, q23⟩
            have fB := fB.wrO q23 f24
            refine ol_nil ?_
            refine cw_region ?_
            refine ol_val (v := .int .u64 s14.1) (by exact xr_move rfl e0) rfl rfl rfl ?_
            refine ol_val (v := .int .u64 (shR .u64 s14.1 8)) (by exact xr_shr rfl rfl rfl (by decide)) rfl rfl rfl ?_
            refine ol_val (v := .int .u64 (shR .u64 s14.1 8)) (by exact xr_assign rfl rfl) rfl rfl rfl ?_
            refine ol_nil ?_
            refine blk_i ?_
            refine cw_region ?_
            refine ol_val (v := .int .i64 (IntKind.i64.wrap (s14.2.1 + 1))) (by exact xr_add rfl e17 rfl) rfl rfl rfl ?_
            refine ol_val (v := .int .i64 (IntKind.i64.wrap (s14.2.1 + 1))) (by exact xr_move rfl rfl) rfl rfl rfl ?_
            refine ol_nil ?_
            obtain rfl := Option.some.inj h
            refine lp_in ?_
            exact ⟨o10, rfl, e5, e16, rfl, fB⟩
          · refine cw_condF rfl c21 ?_
            refine cw_exit ?_
            repeat (first | with_reducible refine thn_e ?_ | with_reducible refine blk_e rfl ?_)
            obtain rfl := Option.some.inj h
            refine lp_exit ?_
            rintro rfl
            refine thn_x ?_
            exact ⟨o10, e5, fB⟩
      · rintro ρ26 w27 ⟨o10, e5, fB⟩
        have h := h17
        refine cw_seq ?_
        refine cw_region ?_
        refine ol_val (v := v8) (by exact xr_move rfl e5) rfl rfl rfl ?_
        refine ol_val (v := v8) (by exact xr_assign rfl rfl) rfl rfl rfl ?_
        refine ol_nil ?_
        refine cw_ret ?_
        repeat (first | with_reducible refine thn_r ?_ | with_reducible refine blk_r ?_)
        obtain rfl := Option.some.inj h
        refine fin_ret1 Try.results95 rfl ?_
        exact ⟨_, rfl, v8, o10, rfl, fB⟩
end Go.Proofs.Ytjhajfkfhdnciaa

/- Numbers as octets, in plain words. -/
set_option linter.unusedVariables false
set_option linter.unusedSimpArgs false
namespace Go.Proofs.Ytjhajfkfhdnciaa.Pure
open Go Go.Xw
def lay (v n : Nat) : List Int := (List.range n).map fun i => ((v / 256 ^ i % 256 : Nat) : Int)
theorem lay_len (v n : Nat) : (lay v n).length = n := by simp [lay]
theorem lay_succ (v n : Nat) : lay v (n + 1) = lay v n ++ [((v / 256 ^ n % 256 : Nat) : Int)] := by
  simp [lay, List.range_succ]
theorem lay_bytes (v n : Nat) : Bytes (lay v n) := by
  intro x hx
  simp only [lay, List.mem_map] at hx
  obtain ⟨i, _, rfl⟩ := hx
  omega
theorem wu8_mod {n : Nat} : IntKind.u8.wrap (n : Int) = ((n % 256 : Nat) : Int) := by
  unfold IntKind.wrap
  simp only [IntKind.signed, IntKind.bits]
  simp
theorem shr64 (n : Nat) : shR .u64 (n : Int) 8 = ((n / 256 : Nat) : Int) := by
  unfold shR
  show Int.fdiv (n : Int) (2 ^ min ((8 : Int).toNat) 64) = _
  rw [show (2 : Int) ^ min ((8 : Int).toNat) 64 = 256 from by decide, Int.fdiv_eq_ediv_of_nonneg _ (by decide)]
  omega
theorem wn64 (q : Nat) (h : q < 18446744073709551616) : IntKind.u64.wrap (q : Int) = (q : Int) := wu64 (by omega) (by omega)
theorem tdn (q : Nat) : Int.tdiv (q : Int) 256 = ((q / 256 : Nat) : Int) := by
  rw [Int.tdiv_eq_ediv_of_nonneg (by omega)]
  omega
theorem tmn (q : Nat) : Int.tmod (q : Int) 256 = ((q % 256 : Nat) : Int) := by
  rw [Int.tmod_eq_emod_of_nonneg (by omega)]
  omega
theorem wn8 (q : Nat) : IntKind.u8.wrap ((q % 256 : Nat) : Int) = ((q % 256 : Nat) : Int) := wu8 (by omega) (by omega)
theorem olay_eq {fu v n : Nat} (hn : n ≤ 8) (hf : n < fu) : octet_Lay.f fu (v : Int) (n : Int) = some (lay v n) := by
  unfold octet_Lay.f
  have h0 : ¬ ((n : Int) < 0) := by omega
  have h8 : ¬ ((n : Int) > 8) := by omega
  have hL : Int.toNat (n : Int) ≤ LIM := by
    have : (8 : Nat) ≤ LIM := by decide
    omega
  simp only [h0, h8, decide_false, Bool.false_eq_true, if_false]
  rw [if_pos ⟨by omega, hL⟩]
  have : loopM (octet_Lay.s0 fu (n : Int)) fu ((v : Int), 0, List.replicate (Int.toNat (n : Int)) (0 : Int)) = some (lay v n) := by
    refine loopM_run (S := fun j => (((v / 256 ^ j : Nat) : Int), (j : Int), lay v j ++ List.replicate (n - j) (0 : Int))) n (by simp [lay]) ?_ ?_ hf
    · intro j hj
      unfold octet_Lay.s0
      have w3 : IntKind.i64.wrap ((j : Int) + 1) = ((j + 1 : Nat) : Int) := by rw [w64 (by omega) (by omega)]; omega
      have e1 : (List.replicate (Int.toNat (n : Int)) (0 : Int)).length = n := by simp
      have e2 : (lay v j ++ List.replicate (n - j) (0 : Int)).length = n := by rw [List.length_append, lay_len, List.length_replicate]; omega
      have e3 : List.set (lay v j ++ List.replicate (n - j) (0 : Int)) (Int.toNat (j : Int)) (IntKind.u8.wrap ((v / 256 ^ j : Nat) : Int)) = lay v (j + 1) ++ List.replicate (n - (j + 1)) (0 : Int) := by
        rw [Int.toNat_natCast, List.set_append, if_neg (by rw [lay_len]; omega), lay_len, Nat.sub_self, wu8_mod, lay_succ, show n - j = n - (j + 1) + 1 from by omega, List.replicate_succ]
        simp
      have e4 : shR .u64 ((v / 256 ^ j : Nat) : Int) 8 = ((v / 256 ^ (j + 1) : Nat) : Int) := by
        rw [shr64, Nat.div_div_eq_div_mul, Nat.pow_succ]
      have h1 : (j : Int) < (n : Int) := by omega
      simp only [e1, e2, e3, e4, w3, h1, decide_true, if_true]
      rw [if_pos ⟨by omega, trivial⟩]
    · unfold octet_Lay.s0
      simp
  rw [this]
  rfl
theorem roctet_eq {fu v i : Nat} (hv : v < 18446744073709551616) (hi : i ≤ 1000) (hf : i < fu) : rickyardref01_Octet.f fu (v : Int) (i : Int) = some ((v / 256 ^ i % 256 : Nat) : Int) := by
  unfold rickyardref01_Octet.f
  have : loopM (rickyardref01_Octet.s0 fu (i : Int)) fu ((v : Int), 0) = some ((v / 256 ^ i : Nat) : Int) := by
    refine loopM_run (S := fun j => (((v / 256 ^ j : Nat) : Int), (j : Int))) i (by simp) ?_ ?_ hf
    · intro j hj
      unfold rickyardref01_Octet.s0
      have w3 : IntKind.i64.wrap ((j : Int) + 1) = ((j + 1 : Nat) : Int) := by rw [w64 (by omega) (by omega)]; omega
      have h1 : (j : Int) < (i : Int) := by omega
      have hle : v / 256 ^ j ≤ v := Nat.div_le_self _ _
      have e1 : Int.tdiv ((v / 256 ^ j : Nat) : Int) 256 = ((v / 256 ^ (j + 1) : Nat) : Int) := by
        rw [tdn, Nat.pow_succ, ← Nat.div_div_eq_div_mul]
      have hle2 : v / 256 ^ (j + 1) ≤ v := Nat.div_le_self _ _
      have e2 : IntKind.u64.wrap ((v / 256 ^ (j + 1) : Nat) : Int) = ((v / 256 ^ (j + 1) : Nat) : Int) := wn64 _ (Nat.lt_of_le_of_lt hle2 hv)
      simp only [h1, decide_true, if_true, e1, e2, w3]
    · unfold rickyardref01_Octet.s0
      simp
  rw [this]
  simp only [Option.bind_some, tmn, wn8]
theorem rlay_eq {fu v n : Nat} (hv : v < 18446744073709551616) (hn : n ≤ 8) (hf : n < fu) : rickyardref01_Lay.f fu (v : Int) (n : Int) = some ((lay v n).map toB) := by
  unfold rickyardref01_Lay.f
  have : loopM (rickyardref01_Lay.s0 fu (v : Int) (n : Int)) fu ([], 0) = some ((lay v n).map toB) := by
    refine loopM_run (S := fun j => ((lay v j).map toB, (j : Int))) n (by simp [lay]) ?_ ?_ hf
    · intro j hj
      unfold rickyardref01_Lay.s0
      have w3 : IntKind.i64.wrap ((j : Int) + 1) = ((j + 1 : Nat) : Int) := by rw [w64 (by omega) (by omega)]; omega
      have h1 : (j : Int) < (n : Int) := by omega
      have hlim : ((lay v j).map toB).length + ([((v / 256 ^ j % 256 : Nat) : Int)].map toB).length ≤ LIM := by
        have : (9 : Nat) ≤ LIM := by decide
        simp only [List.length_map, lay_len, List.length_cons, List.length_nil]
        omega
      simp only [h1, decide_true, if_true, roctet_eq (fu := fu) hv (by omega : j ≤ 1000) (by omega), Option.bind_some, w3]
      rw [if_pos hlim, lay_succ, List.map_append]
    · unfold rickyardref01_Lay.s0
      simp
  rw [this]
  rfl
def num : List Int → Nat
  | [] => 0
  | c :: l => c.toNat + 256 * num l
theorem num_append : ∀ (a b : List Int), num (a ++ b) = num a + 256 ^ a.length * num b
  | [], b => by simp [num]
  | c :: a, b => by
    simp only [List.cons_append, num, num_append a b, List.length_cons, Nat.pow_succ]
    rw [Nat.mul_add, Nat.add_assoc, ← Nat.mul_assoc, Nat.mul_comm 256 (256 ^ a.length)]
theorem num_lt : ∀ {l : List Int}, Bytes l → num l < 256 ^ l.length
  | [], _ => by simp [num]
  | c :: l, h => by
    have h1 := h c (by simp)
    have h2 := num_lt (l := l) fun x hx => h x (by simp [hx])
    simp only [num, List.length_cons, Nat.pow_succ]
    omega
theorem lay_num : ∀ {l : List Int}, Bytes l → lay (num l) l.length = l
  | [], _ => rfl
  | c :: l, h => by
    have h1 := h c (by simp)
    have h2 := lay_num (l := l) fun x hx => h x (by simp [hx])
    have e : lay (num (c :: l)) (l.length + 1) = c :: lay (num l) l.length := by
      unfold lay
      rw [List.range_succ_eq_map, List.map_cons, List.map_map]
      congr 1
      · simp only [num, Nat.pow_zero, Nat.div_one]
        omega
      · apply List.map_congr_left
        intro i hi
        simp only [Function.comp, num, Nat.succ_eq_add_one, Nat.pow_succ]
        rw [Nat.mul_comm (256 ^ i) 256, ← Nat.div_div_eq_div_mul, show (c.toNat + 256 * num l) / 256 = num l from by omega]
    rw [List.length_cons, e, h2]
theorem num_lay (v : Nat) : ∀ n, num (lay v n) = v % 256 ^ n
  | 0 => by simp [lay, num, Nat.mod_one]
  | n + 1 => by
    rw [lay_succ, num_append, num_lay v n, lay_len]
    simp only [num]
    rw [Int.toNat_natCast, Nat.mul_zero, Nat.add_zero, Nat.pow_succ, Nat.mod_mul]
theorem or_add (a c j : Nat) (ha : a < 256 ^ j) : a ||| c * 256 ^ j = a + 256 ^ j * c := by
  have e : 256 ^ j = 2 ^ (8 * j) := by rw [Nat.pow_mul]
  rw [e] at ha ⊢
  rw [Nat.mul_comm c, Nat.or_comm, ← Nat.two_pow_add_eq_or_of_lt ha, Nat.add_comm]
theorem read_eq {fu : Nat} {l : List Int} (hb : Bytes l) (hl : l.length ≤ 8) (hf : l.length < fu) : octet_Read.f fu l = some ((num l : Nat) : Int) := by
  unfold octet_Read.f
  have hm : mnI (l.length : Int) 8 = (l.length : Int) := by
    unfold mnI
    split <;> omega
  have hc : cut l 0 (l.length : Int) = l := by
    unfold cut
    simp
  rw [hm, if_pos ⟨by omega, Int.le_refl _⟩]
  have : loopM (octet_Read.s0 fu l) fu (0, 0) = some ((num l : Nat) : Int) := by
    refine loopM_run (S := fun j => (((num (l.take j) : Nat) : Int), (j : Int))) l.length (by simp [num]) ?_ ?_ hf
    · intro j hj
      unfold octet_Read.s0
      rw [hm, hc]
      have h1 : (j : Int) < (l.length : Int) := by omega
      have w3 : IntKind.i64.wrap ((j : Int) + 1) = ((j + 1 : Nat) : Int) := by rw [w64 (by omega) (by omega)]; omega
      have w4 : IntKind.i64.wrap (8 * (j : Int)) = ((8 * j : Nat) : Int) := by rw [w64 (by omega) (by omega)]; omega
      have hcb := hb _ (List.getElem_mem hj)
      obtain ⟨c, hc'⟩ : ∃ c : Nat, l[j] = (c : Int) := ⟨l[j].toNat, by omega⟩
      have hlt : num (l.take j) < 256 ^ j := by
        have := num_lt (l := l.take j) fun x hx => hb x (List.mem_of_mem_take hx)
        rwa [List.length_take, Nat.min_eq_left (by omega)] at this
      have e256 : (256 : Nat) ^ j * 256 ≤ 256 ^ 8 := by
        rw [← Nat.pow_succ]
        exact Nat.pow_le_pow_right (by decide) (by omega)
      have e8 : (256 : Nat) ^ 8 = 18446744073709551616 := by decide
      have hcj : c * 256 ^ j < 18446744073709551616 := by
        have : c * 256 ^ j ≤ 255 * 256 ^ j := Nat.mul_le_mul_right _ (by omega)
        have : 0 < 256 ^ j := Nat.pow_pos (by decide)
        omega
      have e1 : shL .u64 (IntKind.u64.wrap (ix l (j : Int))) ((8 * j : Nat) : Int) = ((c * 256 ^ j : Nat) : Int) := by
        rw [ix_nat hj, hc', wu64 (by omega) (by omega)]
        unfold shL
        rw [Int.toNat_natCast, Nat.min_eq_left (by show 8 * j ≤ 64; omega)]
        have : (c : Int) * 2 ^ (8 * j) = ((c * 256 ^ j : Nat) : Int) := by
          have h256 : ((256 ^ j : Nat) : Int) = 2 ^ (8 * j) := by
            rw [Int.natCast_pow, Int.pow_mul]
            exact congrArg (fun z : Int => z ^ j) (by decide : ((256 : Nat) : Int) = 2 ^ 8)
          rw [Int.natCast_mul, h256]
        rw [this, wu64 (by omega) (by omega)]
      have e2 : bOr .u64 ((num (l.take j) : Nat) : Int) ((c * 256 ^ j : Nat) : Int) = ((num (l.take (j + 1)) : Nat) : Int) := by
        unfold bOr
        show IntKind.u64.wrap (((BitVec.ofInt 64 ((num (l.take j) : Nat) : Int) ||| BitVec.ofInt 64 ((c * 256 ^ j : Nat) : Int)).toNat : Nat) : Int) = _
        rw [BitVec.ofInt_natCast, BitVec.ofInt_natCast, BitVec.toNat_or, BitVec.toNat_ofNat, BitVec.toNat_ofNat, Nat.mod_eq_of_lt (by omega), Nat.mod_eq_of_lt (by omega), or_add _ _ _ hlt, take_next hj, num_append]
        have hs : num (l.take j) + 256 ^ j * c < 18446744073709551616 := by
          rw [Nat.mul_comm]
          have : c * 256 ^ j ≤ 255 * 256 ^ j := Nat.mul_le_mul_right _ (by omega)
          omega
        rw [wu64 (by omega) (by omega)]
        simp only [num, hc', Int.toNat_natCast, List.length_take, Nat.min_eq_left (by omega : j ≤ l.length), Nat.mul_zero, Nat.add_zero]
      simp only [h1, decide_true, if_true, w4, e1, e2, w3]
      rw [if_pos ⟨by omega, trivial⟩, if_pos (by omega)]
    · unfold octet_Read.s0
      rw [hm, hc]
      simp
  rw [this]
  rfl
end Go.Proofs.Ytjhajfkfhdnciaa.Pure

/- rickyard/block.Seal: its model, and that the Go function computes it: written by gen.py. -/
set_option linter.unusedVariables false
namespace Go.Proofs.Ytjhajfkfhdnciaa
open Go Go.Xw
def block_Seal.f (fu : Nat) (a0 : Int) (a1 : Int) (a2 : List Int) : Option ((List Int) × Bool) := (if (if (decide (a0 < 1)) = true then true else (if (decide (a0 ≥ 256)) = true then true else (if (decide (a1 < 0)) = true then true else (if (decide (a1 ≥ 256)) = true then true else (decide ((List.length a2 : Int) > 56)))))) = true then some ([], false) else (if (4 : Int) < (List.length (List.replicate (Int.toNat 64) (0 : Int)) : Int) then (if (5 : Int) < (List.length (List.set (List.replicate (Int.toNat 64) (0 : Int)) (Int.toNat 4) (IntKind.u8.wrap a0)) : Int) then (if (8 : Int) ≤ (List.length (List.set (List.set (List.replicate (Int.toNat 64) (0 : Int)) (Int.toNat 4) (IntKind.u8.wrap a0)) (Int.toNat 5) (IntKind.u8.wrap a1)) : Int) then (if Int.toNat 8 ≤ List.length (List.set (List.set (List.replicate (Int.toNat 64) (0 : Int)) (Int.toNat 4) (IntKind.u8.wrap a0)) (Int.toNat 5) (IntKind.u8.wrap a1)) ∧ List.length (List.set (List.set (List.replicate (Int.toNat 64) (0 : Int)) (Int.toNat 4) (IntKind.u8.wrap a0)) (Int.toNat 5) (IntKind.u8.wrap a1)) ≤ List.length (List.set (List.set (List.replicate (Int.toNat 64) (0 : Int)) (Int.toNat 4) (IntKind.u8.wrap a0)) (Int.toNat 5) (IntKind.u8.wrap a1)) then (if (4 : Int) ≤ (List.length (splL (List.set (List.set (List.replicate (Int.toNat 64) (0 : Int)) (Int.toNat 4) (IntKind.u8.wrap a0)) (Int.toNat 5) (IntKind.u8.wrap a1)) (Int.toNat 8) (List.take (List.length (List.set (List.set (List.replicate (Int.toNat 64) (0 : Int)) (Int.toNat 4) (IntKind.u8.wrap a0)) (Int.toNat 5) (IntKind.u8.wrap a1)) - Int.toNat 8) a2)) : Int) then ((crc_Sum.f fu [(cut (splL (List.set (List.set (List.replicate (Int.toNat 64) (0 : Int)) (Int.toNat 4) (IntKind.u8.wrap a0)) (Int.toNat 5) (IntKind.u8.wrap a1)) (Int.toNat 8) (List.take (List.length (List.set (List.set (List.replicate (Int.toNat 64) (0 : Int)) (Int.toNat 4) (IntKind.u8.wrap a0)) (Int.toNat 5) (IntKind.u8.wrap a1)) - Int.toNat 8) a2)) 4 (List.length (splL (List.set (List.set (List.replicate (Int.toNat 64) (0 : Int)) (Int.toNat 4) (IntKind.u8.wrap a0)) (Int.toNat 5) (IntKind.u8.wrap a1)) (Int.toNat 8) (List.take (List.length (List.set (List.set (List.replicate (Int.toNat 64) (0 : Int)) (Int.toNat 4) (IntKind.u8.wrap a0)) (Int.toNat 5) (IntKind.u8.wrap a1)) - Int.toNat 8) a2)) : Int))] : Option Int).bind fun t36 => ((octet_Lay.f fu (IntKind.u64.wrap t36) 4 : Option (List Int)).bind fun t40 => some ((splL (splL (List.set (List.set (List.replicate (Int.toNat 64) (0 : Int)) (Int.toNat 4) (IntKind.u8.wrap a0)) (Int.toNat 5) (IntKind.u8.wrap a1)) (Int.toNat 8) (List.take (List.length (List.set (List.set (List.replicate (Int.toNat 64) (0 : Int)) (Int.toNat 4) (IntKind.u8.wrap a0)) (Int.toNat 5) (IntKind.u8.wrap a1)) - Int.toNat 8) a2)) 0 (List.take (List.length (splL (List.set (List.set (List.replicate (Int.toNat 64) (0 : Int)) (Int.toNat 4) (IntKind.u8.wrap a0)) (Int.toNat 5) (IntKind.u8.wrap a1)) (Int.toNat 8) (List.take (List.length (List.set (List.set (List.replicate (Int.toNat 64) (0 : Int)) (Int.toNat 4) (IntKind.u8.wrap a0)) (Int.toNat 5) (IntKind.u8.wrap a1)) - Int.toNat 8) a2))) t40)), true))) else none) else none) else none) else none) else none))
set_option maxRecDepth 100000 in
set_option maxHeartbeats 400000 in
theorem block_Seal.ok (fu : Nat) (w : World) (a0 : Int) (a1 : Int) (a2 : List Int) (V2_0 : Value) (R2_0 : Rd (kI .u8) w V2_0 a2) (r : (List Int) × Bool) (h : block_Seal.f fu a0 a1 a2 = some r) :
    Calls Try.prog 28 (([.int .i64 a0, .int .i64 a1, V2_0] : List Value).toArray) w (fun e w' => ∃ v, e = .returned v ∧ ∃ u1 : Value, ∃ o2 : Own (kI .u8) 5 w' w.heap.size u1 r.1, v = .tuple #[u1, .bool r.2] ∧ Gr w w') := by
  unfold block_Seal.f at h
  have fB : Gr w w := Fr.refl _ _
  refine calls_cw Try.func28 rfl Try.ntmps28 rfl ?_
  refine cw_seq ?_
  refine cw_region ?_
  refine ol_val (v := .slice none 0 0) (by exact xr_assign rfl rfl) rfl rfl rfl ?_
  refine ol_val (v := .bool false) (by exact xr_assign rfl rfl) rfl rfl rfl ?_
  refine ol_nil ?_
  refine cw_seq ?_
  refine cw_seq ?_
  refine cw_mid (fun ρ' w' => ρ' 0 = .int .i64 a0 ∧ ρ' 1 = .int .i64 a1 ∧ ρ' 2 = V2_0 ∧ ρ' 27 = .bool (if (decide (a0 < 1)) = true then true else (if (decide (a0 ≥ 256)) = true then true else (if (decide (a1 < 0)) = true then true else (if (decide (a1 ≥ 256)) = true then true else (decide ((List.length a2 : Int) > 56)))))) ∧ w = w') ?_ ?_
  · skip
    refine cw_region ?_
    refine ol_val (v := .int .i64 a0) (by exact xr_move rfl rfl) rfl rfl rfl ?_
    refine ol_val (v := .bool (decide (a0 < 1))) (by exact xr_lss rfl rfl rfl) rfl rfl rfl ?_
    refine ol_val (v := .bool (decide (a0 < 1))) (by exact xr_move rfl rfl) rfl rfl rfl ?_
    rcases bt (decide (a0 < 1)) with c4 | c4
    · skip
      refine ol_gskip rfl rfl rfl rfl rfl c4 ?_
      refine ol_gskip rfl rfl rfl rfl rfl c4 ?_
      refine ol_val (v := .bool true) (by exact xr_pickT rfl rfl c4 rfl) rfl rfl rfl ?_
      refine ol_val (v := .bool true) (by exact xr_move rfl rfl) rfl rfl rfl ?_
      refine ol_gskip rfl rfl rfl rfl rfl rfl ?_
      refine ol_gskip rfl rfl rfl rfl rfl rfl ?_
      refine ol_val (v := .bool true) (by exact xr_pickT rfl rfl rfl rfl) rfl rfl rfl ?_
      refine ol_val (v := .bool true) (by exact xr_move rfl rfl) rfl rfl rfl ?_
      refine ol_gskip rfl rfl rfl rfl rfl rfl ?_
      refine ol_gskip rfl rfl rfl rfl rfl rfl ?_
      refine ol_val (v := .bool true) (by exact xr_pickT rfl rfl rfl rfl) rfl rfl rfl ?_
      refine ol_val (v := .bool true) (by exact xr_move rfl rfl) rfl rfl rfl ?_
      refine ol_gskip rfl rfl rfl rfl rfl rfl ?_
      refine ol_gskip rfl rfl rfl rfl rfl rfl ?_
      refine ol_gskip rfl rfl rfl rfl rfl rfl ?_
      refine ol_val (v := .bool true) (by exact xr_pickT rfl rfl rfl rfl) rfl rfl rfl ?_
      refine ol_nil ?_
      refine thn_i ?_
      exact ⟨rfl, rfl, rfl, (rfl).trans (congrArg (fun z => (.bool z : Value)) (show true = (if (decide (a0 < 1)) = true then true else (if (decide (a0 ≥ 256)) = true then true else (if (decide (a1 < 0)) = true then true else (if (decide (a1 ≥ 256)) = true then true else (decide ((List.length a2 : Int) > 56)))))) from by rw [ite_t c4])), rfl⟩
    · skip
      refine ol_gval (v := .int .i64 a0) (by exact xr_move rfl rfl) rfl rfl rfl rfl rfl c4 ?_
      refine ol_gval (v := .bool (decide (a0 ≥ 256))) (by exact xr_geq rfl rfl rfl) rfl rfl rfl rfl rfl c4 ?_
      refine ol_val (v := .bool (decide (a0 ≥ 256))) (by exact xr_pickF rfl rfl c4 rfl) rfl rfl rfl ?_
      refine ol_val (v := .bool (decide (a0 ≥ 256))) (by exact xr_move rfl rfl) rfl rfl rfl ?_
      rcases bt (decide (a0 ≥ 256)) with c5 | c5
      · skip
        refine ol_gskip rfl rfl rfl rfl rfl c5 ?_
        refine ol_gskip rfl rfl rfl rfl rfl c5 ?_
        refine ol_val (v := .bool true) (by exact xr_pickT rfl rfl c5 rfl) rfl rfl rfl ?_
        refine ol_val (v := .bool true) (by exact xr_move rfl rfl) rfl rfl rfl ?_
        refine ol_gskip rfl rfl rfl rfl rfl rfl ?_
        refine ol_gskip rfl rfl rfl rfl rfl rfl ?_
        refine ol_val (v := .bool true) (by exact xr_pickT rfl rfl rfl rfl) rfl rfl rfl ?_
        refine ol_val (v := .bool true) (by exact xr_move rfl rfl) rfl rfl rfl ?_
        refine ol_gskip rfl rfl rfl rfl rfl rfl ?_
        refine ol_gskip rfl rfl rfl rfl rfl rfl ?_
        refine ol_gskip rfl rfl rfl rfl rfl rfl ?_
        refine ol_val (v := .bool true) (by exact xr_pickT rfl rfl rfl rfl) rfl rfl rfl ?_
        refine ol_nil ?_
        refine thn_i ?_
        exact ⟨rfl, rfl, rfl, (rfl).trans (congrArg (fun z => (.bool z : Value)) (show true = (if (decide (a0 < 1)) = true then true else (if (decide (a0 ≥ 256)) = true then true else (if (decide (a1 < 0)) = true then true else (if (decide (a1 ≥ 256)) = true then true else (decide ((List.length a2 : Int) > 56)))))) from by rw [ite_f c4, ite_t c5])), rfl⟩
      · skip
        refine ol_gval (v := .int .i64 a1) (by exact xr_move rfl rfl) rfl rfl rfl rfl rfl c5 ?_
        refine ol_gval (v := .bool (decide (a1 < 0))) (by exact xr_lss rfl rfl rfl) rfl rfl rfl rfl rfl c5 ?_
        refine ol_val (v := .bool (decide (a1 < 0))) (by exact xr_pickF rfl rfl c5 rfl) rfl rfl rfl ?_
        refine ol_val (v := .bool (decide (a1 < 0))) (by exact xr_move rfl rfl) rfl rfl rfl ?_
        rcases bt (decide (a1 < 0)) with c6 | c6
        · skip
          refine ol_gskip rfl rfl rfl rfl rfl c6 ?_
          refine ol_gskip rfl rfl rfl rfl rfl c6 ?_
          refine ol_val (v := .bool true) (by exact xr_pickT rfl rfl c6 rfl) rfl rfl rfl ?_
          refine ol_val (v := .bool true) (by exact xr_move rfl rfl) rfl rfl rfl ?_
          refine ol_gskip rfl rfl rfl rfl rfl rfl ?_
          refine ol_gskip rfl rfl rfl rfl rfl rfl ?_
          refine ol_gskip rfl rfl rfl rfl rfl rfl ?_
          refine ol_val (v := .bool true) (by exact xr_pickT rfl rfl rfl rfl) rfl rfl rfl ?_
          refine ol_nil ?_
          refine thn_i ?_
          exact ⟨rfl, rfl, rfl, (rfl).trans (congrArg (fun z => (.bool z : Value)) (show true = (if (decide (a0 < 1)) = true then true else (if (decide (a0 ≥ 256)) = true then true else (if (decide (a1 < 0)) = true then true else (if (decide (a1 ≥ 256)) = true then true else (decide ((List.length a2 : Int) > 56)))))) from by rw [ite_f c4, ite_f c5, ite_t c6])), rfl⟩
        · skip
          refine ol_gval (v := .int .i64 a1) (by exact xr_move rfl rfl) rfl rfl rfl rfl rfl c6 ?_
          refine ol_gval (v := .bool (decide (a1 ≥ 256))) (by exact xr_geq rfl rfl rfl) rfl rfl rfl rfl rfl c6 ?_
          refine ol_val (v := .bool (decide (a1 ≥ 256))) (by exact xr_pickF rfl rfl c6 rfl) rfl rfl rfl ?_
          refine ol_val (v := .bool (decide (a1 ≥ 256))) (by exact xr_move rfl rfl) rfl rfl rfl ?_
          rcases bt (decide (a1 ≥ 256)) with c7 | c7
          · skip
            refine ol_gskip rfl rfl rfl rfl rfl c7 ?_
            refine ol_gskip rfl rfl rfl rfl rfl c7 ?_
            refine ol_gskip rfl rfl rfl rfl rfl c7 ?_
            refine ol_val (v := .bool true) (by exact xr_pickT rfl rfl c7 rfl) rfl rfl rfl ?_
            refine ol_nil ?_
            refine thn_i ?_
            exact ⟨rfl, rfl, rfl, (rfl).trans (congrArg (fun z => (.bool z : Value)) (show true = (if (decide (a0 < 1)) = true then true else (if (decide (a0 ≥ 256)) = true then true else (if (decide (a1 < 0)) = true then true else (if (decide (a1 ≥ 256)) = true then true else (decide ((List.length a2 : Int) > 56)))))) from by rw [ite_f c4, ite_f c5, ite_f c6, ite_t c7])), rfl⟩
          · skip
            refine ol_gval (v := V2_0) (by exact xr_move rfl rfl) rfl rfl rfl rfl rfl c7 ?_
            refine ol_gval (v := .int .i64 (List.length a2 : Int)) (by exact xr_lenR rfl Try.underlying22 rfl (R2_0.gr fB)) rfl rfl rfl rfl rfl c7 ?_
            refine ol_gval (v := .bool (decide ((List.length a2 : Int) > 56))) (by exact xr_gtr rfl rfl rfl) rfl rfl rfl rfl rfl c7 ?_
            refine ol_val (v := .bool (decide ((List.length a2 : Int) > 56))) (by exact xr_pickF rfl rfl c7 rfl) rfl rfl rfl ?_
            refine ol_nil ?_
            refine thn_i ?_
            exact ⟨rfl, rfl, rfl, (rfl).trans (congrArg (fun z => (.bool z : Value)) (show (decide ((List.length a2 : Int) > 56)) = (if (decide (a0 < 1)) = true then true else (if (decide (a0 ≥ 256)) = true then true else (if (decide (a1 < 0)) = true then true else (if (decide (a1 ≥ 256)) = true then true else (decide ((List.length a2 : Int) > 56)))))) from by rw [ite_f c4, ite_f c5, ite_f c6, ite_f c7])), rfl⟩
  · skip
    rintro ρ8 _ ⟨e0, e1, e2, e27, rfl⟩
    rcases is h with ⟨c9, h⟩ | ⟨c9, h⟩
    · refine cw_condT e27 c9 ?_
      refine cw_seq ?_
      refine cw_region ?_
      refine ol_val (v := .slice none 0 0) (by exact xr_assign rfl rfl) rfl rfl rfl ?_
      refine ol_val (v := .bool false) (by exact xr_assign rfl rfl) rfl rfl rfl ?_
      refine ol_nil ?_
      refine cw_ret ?_
      repeat (first | with_reducible refine thn_r ?_ | with_reducible refine blk_r ?_)
      obtain rfl := Option.some.inj h
      refine fin_ret2 Try.results28 rfl rfl ?_
      exact ⟨_, rfl, (.slice none 0 0), Own.nil _ _ _ _, rfl, fB⟩
    · refine cw_condF e27 c9 ?_
      refine cw_skip ?_
      refine cw_seq ?_
      refine cw_region ?_
      refine ol_op (by exact opv_make (K := (kI .u8)) (z := (0 : Int)) rfl Try.underlying22 el5 rfl rfl rfl (by decide) (by decide) rfl fB.size) rfl rfl rfl ?_
      rintro v10 w15 ⟨o12, q11, z13⟩
      have fB := fB.gr q11
      refine ol_val (v := v10) (by exact xr_assign rfl rfl) rfl rfl rfl ?_
      refine ol_nil ?_
      refine cw_seq ?_
      refine cw_region ?_
      refine ol_val (v := v10) (by exact xr_move rfl rfl) rfl rfl rfl ?_
      refine ol_val (v := v10) (by exact xr_move rfl rfl) rfl rfl rfl ?_
      refine ol_val (v := .int .i64 a0) (by exact xr_move rfl e0) rfl rfl rfl ?_
      refine ol_val (v := .int .u8 (IntKind.u8.wrap a0)) (by exact xr_conv rfl Try.underlying3 Try.underlying5 rfl) rfl rfl rfl ?_
      refine ol_val (v := .int .i64 a1) (by exact xr_move rfl e1) rfl rfl rfl ?_
      refine ol_val (v := .int .u8 (IntKind.u8.wrap a1)) (by exact xr_conv rfl Try.underlying3 Try.underlying5 rfl) rfl rfl rfl ?_
      obtain ⟨g16, h⟩ := gs h
      refine ol_val (v := .pointer (some ⟨(sb v10), so v10 + Int.toNat 4 * 1, none⟩)) (by exact xr_indexR (K := (kI .u8)) (v := v10) rfl Try.underlying22 sz5 rfl o12.rd rfl (by decide) g16) rfl rfl rfl ?_
      have f18 := o12.geO
      refine ol_op0 (by exact opv_storeRow (z := (IntKind.u8.wrap a0)) (xs := cellsOf [Seg.cell (.int .u8 (IntKind.u8.wrap a0))]) rfl sz5 rfl rfl rfl (len_cellsOf _) (one_cellsOf _) o12 (by decide) g16 (Spl.whole ((Kd.len _ _).trans (Kd.len _ _).symm)) rfl) rfl rfl ?_
      rintro _ w19 ⟨o12, q17⟩
      have fB := fB.wrO q17 f18
      obtain ⟨g20, h⟩ := gs h
      refine ol_val (v := .pointer (some ⟨(sb v10), so v10 + Int.toNat 5 * 1, none⟩)) (by exact xr_indexR (K := (kI .u8)) (v := v10) rfl Try.underlying22 sz5 rfl o12.rd rfl (by decide) g20) rfl rfl rfl ?_
      have f22 := o12.geO
      refine ol_op0 (by exact opv_storeRow (z := (IntKind.u8.wrap a1)) (xs := cellsOf [Seg.cell (.int .u8 (IntKind.u8.wrap a1))]) rfl sz5 rfl rfl rfl (len_cellsOf _) (one_cellsOf _) o12 (by decide) g20 (Spl.whole ((Kd.len _ _).trans (Kd.len _ _).symm)) rfl) rfl rfl ?_
      rintro _ w23 ⟨o12, q21⟩
      have fB := fB.wrO q21 f22
      refine ol_nil ?_
      refine cw_seq ?_
      refine cw_region ?_
      refine ol_val (v := v10) (by exact xr_move rfl rfl) rfl rfl rfl ?_
      obtain ⟨g25, h⟩ := gs h
      refine ol_val (v := subv 1 v10 (Int.toNat 8) (List.length (List.set (List.set (List.replicate (Int.toNat 64) (0 : Int)) (Int.toNat 4) (IntKind.u8.wrap a0)) (Int.toNat 5) (IntKind.u8.wrap a1)))) (by exact xr_slice_l (K := (kI .u8)) (v := v10) rfl Try.underlying22 sz5 rfl o12.rd rfl (by decide) g25) rfl rfl rfl ?_
      have r24 : Rd (kI .u8) w23 (subv 1 v10 (Int.toNat 8) (List.length (List.set (List.set (List.replicate (Int.toNat 64) (0 : Int)) (Int.toNat 4) (IntKind.u8.wrap a0)) (Int.toNat 5) (IntKind.u8.wrap a1)))) (cut (List.set (List.set (List.replicate (Int.toNat 64) (0 : Int)) (Int.toNat 4) (IntKind.u8.wrap a0)) (Int.toNat 5) (IntKind.u8.wrap a1)) 8 (List.length (List.set (List.set (List.replicate (Int.toNat 64) (0 : Int)) (Int.toNat 4) (IntKind.u8.wrap a0)) (Int.toNat 5) (IntKind.u8.wrap a1)) : Int)) := o12.rd.cut (lo := 8) (hi := (List.length (List.set (List.set (List.replicate (Int.toNat 64) (0 : Int)) (Int.toNat 4) (IntKind.u8.wrap a0)) (Int.toNat 5) (IntKind.u8.wrap a1)) : Int)) (by decide) g25 (Int.le_refl _)
      refine ol_val (v := V2_0) (by exact xr_move rfl e2) rfl rfl rfl ?_
      obtain ⟨g27, h⟩ := gs h
      have f28 := o12.geO
      refine ol_op (by exact opv_copyCut rfl Try.underlying22 sz5 rfl rfl rfl rfl o12 g27.1 g27.2 (R2_0.gr fB)) rfl rfl rfl ?_
      rintro _ w29 ⟨rfl, o12, q26⟩
      have fB := fB.wrO q26 f28
      refine ol_nil ?_
      refine cw_seq ?_
      refine cw_region ?_
      refine ol_val (v := v10) (by exact xr_move rfl rfl) rfl rfl rfl ?_
      refine ol_val (v := v10) (by exact xr_move rfl rfl) rfl rfl rfl ?_
      obtain ⟨g31, h⟩ := gs h
      refine ol_val (v := subv 1 v10 (Int.toNat 4) (List.length (splL (List.set (List.set (List.replicate (Int.toNat 64) (0 : Int)) (Int.toNat 4) (IntKind.u8.wrap a0)) (Int.toNat 5) (IntKind.u8.wrap a1)) (Int.toNat 8) (List.take (List.length (List.set (List.set (List.replicate (Int.toNat 64) (0 : Int)) (Int.toNat 4) (IntKind.u8.wrap a0)) (Int.toNat 5) (IntKind.u8.wrap a1)) - Int.toNat 8) a2)))) (by exact xr_slice_l (K := (kI .u8)) (v := v10) rfl Try.underlying22 sz5 rfl o12.rd rfl (by decide) g31) rfl rfl rfl ?_
      have r30 : Rd (kI .u8) w29 (subv 1 v10 (Int.toNat 4) (List.length (splL (List.set (List.set (List.replicate (Int.toNat 64) (0 : Int)) (Int.toNat 4) (IntKind.u8.wrap a0)) (Int.toNat 5) (IntKind.u8.wrap a1)) (Int.toNat 8) (List.take (List.length (List.set (List.set (List.replicate (Int.toNat 64) (0 : Int)) (Int.toNat 4) (IntKind.u8.wrap a0)) (Int.toNat 5) (IntKind.u8.wrap a1)) - Int.toNat 8) a2)))) (cut (splL (List.set (List.set (List.replicate (Int.toNat 64) (0 : Int)) (Int.toNat 4) (IntKind.u8.wrap a0)) (Int.toNat 5) (IntKind.u8.wrap a1)) (Int.toNat 8) (List.take (List.length (List.set (List.set (List.replicate (Int.toNat 64) (0 : Int)) (Int.toNat 4) (IntKind.u8.wrap a0)) (Int.toNat 5) (IntKind.u8.wrap a1)) - Int.toNat 8) a2)) 4 (List.length (splL (List.set (List.set (List.replicate (Int.toNat 64) (0 : Int)) (Int.toNat 4) (IntKind.u8.wrap a0)) (Int.toNat 5) (IntKind.u8.wrap a1)) (Int.toNat 8) (List.take (List.length (List.set (List.set (List.replicate (Int.toNat 64) (0 : Int)) (Int.toNat 4) (IntKind.u8.wrap a0)) (Int.toNat 5) (IntKind.u8.wrap a1)) - Int.toNat 8) a2)) : Int)) := o12.rd.cut (lo := 4) (hi := (List.length (splL (List.set (List.set (List.replicate (Int.toNat 64) (0 : Int)) (Int.toNat 4) (IntKind.u8.wrap a0)) (Int.toNat 5) (IntKind.u8.wrap a1)) (Int.toNat 8) (List.take (List.length (List.set (List.set (List.replicate (Int.toNat 64) (0 : Int)) (Int.toNat 4) (IntKind.u8.wrap a0)) (Int.toNat 5) (IntKind.u8.wrap a1)) - Int.toNat 8) a2)) : Int)) (by decide) g31 (Int.le_refl _)
      refine ol_op (by exact opv_build1 rfl Try.underlying157 el22 rfl r30 rfl) rfl rfl rfl ?_
      rintro v32 w35 ⟨r34, q33⟩
      have o12 := o12.gr q33
      have fB := fB.gr q33
      obtain ⟨t36, k37, h⟩ := bs h
      refine ol_op (by exact opv_call rfl cal96 (ac rfl an) (crc_Sum.ok fu _ [(cut (splL (List.set (List.set (List.replicate (Int.toNat 64) (0 : Int)) (Int.toNat 4) (IntKind.u8.wrap a0)) (Int.toNat 5) (IntKind.u8.wrap a1)) (Int.toNat 8) (List.take (List.length (List.set (List.set (List.replicate (Int.toNat 64) (0 : Int)) (Int.toNat 4) (IntKind.u8.wrap a0)) (Int.toNat 5) (IntKind.u8.wrap a1)) - Int.toNat 8) a2)) 4 (List.length (splL (List.set (List.set (List.replicate (Int.toNat 64) (0 : Int)) (Int.toNat 4) (IntKind.u8.wrap a0)) (Int.toNat 5) (IntKind.u8.wrap a1)) (Int.toNat 8) (List.take (List.length (List.set (List.set (List.replicate (Int.toNat 64) (0 : Int)) (Int.toNat 4) (IntKind.u8.wrap a0)) (Int.toNat 5) (IntKind.u8.wrap a1)) - Int.toNat 8) a2)) : Int))] v32 (r34) _ k37)) rfl rfl rfl ?_
      rintro _ w39 ⟨rfl, q38⟩
      have o12 := o12.gr q38
      have fB := fB.gr q38
      refine ol_val (v := .int .u64 (IntKind.u64.wrap t36)) (by exact xr_conv rfl Try.underlying36 Try.underlying129 rfl) rfl rfl rfl ?_
      obtain ⟨t40, k41, h⟩ := bs h
      refine ol_op (by exact opv_call rfl cal95 (ac rfl (ac rfl an)) (octet_Lay.ok fu _ (IntKind.u64.wrap t36) 4 _ k41)) rfl rfl rfl ?_
      rintro u42 w46 ⟨_, o43, rfl, q45⟩
      have a47 := OffV.call o12 o43
      have o43 := Own.base o43 fB.size
      have o12 := o12.gr q45
      have fB := fB.gr q45
      have f49 := o12.geO
      refine ol_op (by exact opv_copyRow rfl Try.underlying22 sz5 rfl rfl rfl o12 o43.rd) rfl rfl rfl ?_
      rintro _ w50 ⟨rfl, o12, q48⟩
      have fB := fB.wrO q48 f49
      refine ol_nil ?_
      refine cw_seq ?_
      refine cw_region ?_
      refine ol_val (v := v10) (by exact xr_move rfl rfl) rfl rfl rfl ?_
      refine ol_val (v := v10) (by exact xr_assign rfl rfl) rfl rfl rfl ?_
      refine ol_val (v := .bool true) (by exact xr_assign rfl rfl) rfl rfl rfl ?_
      refine ol_nil ?_
      refine cw_ret ?_
      repeat (first | with_reducible refine thn_r ?_ | with_reducible refine blk_r ?_)
      obtain rfl := Option.some.inj h
      refine fin_ret2 Try.results28 rfl rfl ?_
      exact ⟨_, rfl, v10, o12, rfl, fB⟩
end Go.Proofs.Ytjhajfkfhdnciaa

/- rickyard/block.Kind: its model, and that the Go function computes it: written by gen.py. -/
set_option linter.unusedVariables false
namespace Go.Proofs.Ytjhajfkfhdnciaa
open Go Go.Xw
def block_Kind.f (fu : Nat) (a0 : List Int) : Option Int := ((block_right.f fu a0 : Option Bool).bind fun t1 => (if (!t1) = true then some (0) else (if (4 : Int) < (List.length a0 : Int) then some ((IntKind.i64.wrap (ix a0 4))) else none)))
set_option maxRecDepth 100000 in
set_option maxHeartbeats 400000 in
theorem block_Kind.ok (fu : Nat) (w : World) (a0 : List Int) (V0_0 : Value) (R0_0 : Rd (kI .u8) w V0_0 a0) (r : Int) (h : block_Kind.f fu a0 = some r) :
    Calls Try.prog 33 (([V0_0] : List Value).toArray) w (fun e w' => ∃ v, e = .returned v ∧ v = .int .i64 r ∧ Gr w w') := by
  unfold block_Kind.f at h
  have fB : Gr w w := Fr.refl _ _
  refine calls_cw Try.func33 rfl Try.ntmps33 rfl ?_
  refine cw_seq ?_
  refine cw_region ?_
  refine ol_val (v := .int .i64 0) (by exact xr_assign rfl rfl) rfl rfl rfl ?_
  refine ol_nil ?_
  refine cw_seq ?_
  refine cw_seq ?_
  refine cw_region ?_
  refine ol_val (v := V0_0) (by exact xr_move rfl rfl) rfl rfl rfl ?_
  obtain ⟨t1, k2, h⟩ := bs h
  refine ol_op (by exact opv_call rfl cal97 (ac rfl an) (block_right.ok fu _ a0 V0_0 (R0_0.gr fB) _ k2)) rfl rfl rfl ?_
  rintro _ w4 ⟨rfl, q3⟩
  have fB := fB.gr q3
  refine ol_val (v := .bool (!t1)) (by exact xr_not rfl rfl) rfl rfl rfl ?_
  refine ol_nil ?_
  rcases is h with ⟨c5, h⟩ | ⟨c5, h⟩
  · refine cw_condT rfl c5 ?_
    refine cw_seq ?_
    refine cw_region ?_
    refine ol_val (v := .int .i64 0) (by exact xr_assign rfl rfl) rfl rfl rfl ?_
    refine ol_nil ?_
    refine cw_ret ?_
    repeat (first | with_reducible refine thn_r ?_ | with_reducible refine blk_r ?_)
    obtain rfl := Option.some.inj h
    refine fin_ret1 Try.results33 rfl ?_
    exact ⟨_, rfl, rfl, fB⟩
  · refine cw_condF rfl c5 ?_
    refine cw_skip ?_
    refine cw_seq ?_
    refine cw_region ?_
    refine ol_val (v := V0_0) (by exact xr_move rfl rfl) rfl rfl rfl ?_
    obtain ⟨g6, h⟩ := gs h
    refine ol_val (v := .pointer (some ⟨(sb V0_0), so V0_0 + Int.toNat 4 * 1, none⟩)) (by exact xr_indexR (K := (kI .u8)) (v := V0_0) rfl Try.underlying22 sz5 rfl (R0_0.gr fB) rfl (by decide) g6) rfl rfl rfl ?_
    refine ol_val (v := .int .u8 (ix a0 4)) (by exact xr_load1 (v := .int .u8 (ix a0 4)) rfl ag5 rfl ((R0_0.gr fB).elem (by decide) g6)) rfl rfl rfl ?_
    refine ol_val (v := .int .i64 (IntKind.i64.wrap (ix a0 4))) (by exact xr_conv rfl Try.underlying5 Try.underlying3 rfl) rfl rfl rfl ?_
    refine ol_val (v := .int .i64 (IntKind.i64.wrap (ix a0 4))) (by exact xr_assign rfl rfl) rfl rfl rfl ?_
    refine ol_nil ?_
    refine cw_ret ?_
    repeat (first | with_reducible refine thn_r ?_ | with_reducible refine blk_r ?_)
    obtain rfl := Option.some.inj h
    refine fin_ret1 Try.results33 rfl ?_
    exact ⟨_, rfl, rfl, fB⟩
end Go.Proofs.Ytjhajfkfhdnciaa

/- Blocks in plain words: how one is sealed, which octets are one, as the program and the document tell it. -/
set_option linter.unusedVariables false
set_option linter.unusedSimpArgs false
namespace Go.Proofs.Ytjhajfkfhdnciaa.Pure
open Go Go.Xw
theorem toB_inj {a b : Int} (ha : 0 ≤ a ∧ a ≤ 255) (hb : 0 ≤ b ∧ b ≤ 255) (h : toB a = toB b) : a = b := by
  unfold toB at h
  have := congrArg UInt8.toNat h
  simp only [UInt8.toNat_ofNat'] at this
  omega
theorem map_toB_inj : ∀ {a b : List Int}, Bytes a → Bytes b → a.map toB = b.map toB → a = b
  | [], [], _, _, _ => rfl
  | [], _ :: _, _, _, h => by simp at h
  | _ :: _, [], _, _, h => by simp at h
  | x :: a, y :: b, ha, hb, h => by
    simp only [List.map_cons, List.cons.injEq] at h
    rw [toB_inj (ha x (by simp)) (hb y (by simp)) h.1, map_toB_inj (fun z hz => ha z (by simp [hz])) (fun z hz => hb z (by simp [hz])) h.2]
theorem map_toB_iff {a b : List Int} (ha : Bytes a) (hb : Bytes b) : (a.map toB = b.map toB) ↔ a = b := ⟨map_toB_inj ha hb, fun h => by rw [h]⟩
theorem of_toB {l : List Int} (h : Bytes l) : (l.map toB).map ofB = l := by
  rw [List.map_map]
  conv => rhs; rw [← List.map_id l]
  apply List.map_congr_left
  intro x hx
  have := h x hx
  simp only [Function.comp, ofB, toB, UInt8.toNat_ofNat', id]
  omega
theorem Bytes.app {a b : List Int} (ha : Bytes a) (hb : Bytes b) : Bytes (a ++ b) := by
  intro x hx
  rcases List.mem_append.1 hx with h | h
  · exact ha x h
  · exact hb x h
theorem Bytes.rep (n : Nat) : Bytes (List.replicate n (0 : Int)) := by
  intro x hx
  obtain rfl := List.eq_of_mem_replicate hx
  omega
theorem Bytes.drop {l : List Int} (h : Bytes l) (n : Nat) : Bytes (l.drop n) := fun x hx => h x (List.mem_of_mem_drop hx)
theorem Bytes.take {l : List Int} (h : Bytes l) (n : Nat) : Bytes (l.take n) := fun x hx => h x (List.mem_of_mem_take hx)
/-- What is summed: kind, tag, a gap, the body with noughts behind it. -/
def summed (k t : Int) (body : List Int) : List Int := [k, t, 0, 0] ++ (body ++ List.replicate (56 - body.length) 0)
def sealed (s : List Int) : List Int := lay (crc s).toNat 4 ++ s
theorem summed_len {k t : Int} {body : List Int} (h : body.length ≤ 56) : (summed k t body).length = 60 := by
  simp [summed]
  omega
theorem summed_bytes {k t : Int} {body : List Int} (hk : 0 ≤ k ∧ k ≤ 255) (ht : 0 ≤ t ∧ t ≤ 255) (hb : Bytes body) : Bytes (summed k t body) := by
  refine Bytes.app ?_ (Bytes.app hb (Bytes.rep _))
  intro x hx
  simp only [List.mem_cons, List.not_mem_nil, or_false] at hx
  rcases hx with rfl | rfl | rfl | rfl <;> omega
theorem sealed_len {s : List Int} (h : s.length = 60) : (sealed s).length = 64 := by
  simp [sealed, lay_len, h]
theorem sealed_bytes {s : List Int} (h : Bytes s) : Bytes (sealed s) := Bytes.app (lay_bytes _ _) h
theorem x2_eq (k t : Int) : List.set (List.set (List.replicate (Int.toNat 64) (0 : Int)) (Int.toNat 4) k) (Int.toNat 5) t = [0, 0, 0, 0, k, t, 0, 0] ++ List.replicate 56 (0 : Int) := rfl
theorem x3_eq {k t : Int} {body : List Int} (h : body.length ≤ 56) : splL ([0, 0, 0, 0, k, t, 0, 0] ++ List.replicate 56 (0 : Int)) (Int.toNat 8) (List.take (List.length ([0, 0, 0, 0, k, t, 0, 0] ++ List.replicate 56 (0 : Int)) - Int.toNat 8) body) = [0, 0, 0, 0] ++ summed k t body := by
  have e : List.take (List.length ([0, 0, 0, 0, k, t, 0, 0] ++ List.replicate 56 (0 : Int)) - Int.toNat 8) body = body := List.take_of_length_le (by simpa using h)
  rw [e]
  have e2 : List.drop (8 + body.length) ([0, 0, 0, 0, k, t, 0, 0] ++ List.replicate 56 (0 : Int)) = List.replicate (56 - body.length) 0 := by
    have h8 : ([0, 0, 0, 0, k, t, 0, 0] : List Int).length = 8 := rfl
    rw [List.drop_append, List.drop_eq_nil_of_le (by rw [h8]; omega), List.nil_append, h8, List.drop_replicate]
    congr 1
    omega
  unfold splL summed
  rw [show (Int.toNat 8) = 8 from rfl, e2]
  simp
theorem lay4_eq {fu : Nat} (x : BitVec 32) (hf : 8 < fu) : octet_Lay.f fu (IntKind.u64.wrap (I32 x)) 4 = some (lay x.toNat 4) := by
  have hb := I32_lt x
  rw [wu64 hb.1 (by omega)]
  exact olay_eq (n := 4) (by decide) (by omega)
theorem rlay4_eq {fu : Nat} (x : BitVec 32) (hf : 8 < fu) : rickyardref01_Lay.f fu (IntKind.u64.wrap (I32 x)) 4 = some ((lay x.toNat 4).map toB) := by
  have hb := I32_lt x
  rw [wu64 hb.1 (by omega)]
  exact rlay_eq (n := 4) (by have := x.isLt; omega) (by decide) (by omega)
theorem seal_eq {fu : Nat} {k t : Int} {body : List Int} (hb : Bytes body) (hk : 1 ≤ k ∧ k ≤ 255) (ht : 0 ≤ t ∧ t ≤ 255) (hl : body.length ≤ 56) (hf : 100 < fu) : block_Seal.f fu k t body = some (sealed (summed k t body), true) := by
  have hs := summed_len (k := k) (t := t) hl
  have hsb := summed_bytes ⟨by omega, hk.2⟩ ht hb
  unfold block_Seal.f
  rw [wu8 (by omega : 0 ≤ k) hk.2, wu8 ht.1 ht.2]
  have c0 : (if (decide (k < 1)) = true then true else (if (decide (k ≥ 256)) = true then true else (if (decide (t < 0)) = true then true else (if (decide (t ≥ 256)) = true then true else (decide ((List.length body : Int) > 56)))))) = false := by
    have h1 : ¬ k < 1 := by omega
    have h2 : ¬ k ≥ 256 := by omega
    have h3 : ¬ t < 0 := by omega
    have h4 : ¬ t ≥ 256 := by omega
    have h5 : ¬ (List.length body : Int) > 56 := by omega
    simp [h1, h2, h3, h4, h5]
  rw [c0]
  simp only [x2_eq, x3_eq hl]
  have e1 : cut ([0, 0, 0, 0] ++ summed k t body) 4 (List.length ([0, 0, 0, 0] ++ summed k t body) : Int) = summed k t body := by
    unfold cut
    rw [Int.toNat_natCast, List.take_length]
    rfl
  have e2 : ∀ v, splL ([0, 0, 0, 0] ++ summed k t body) 0 (List.take (List.length ([0, 0, 0, 0] ++ summed k t body)) (lay v 4)) = lay v 4 ++ summed k t body := by
    intro v
    rw [List.take_of_length_le (by simp [lay_len])]
    unfold splL
    simp [lay_len]
  simp only [e1, e2, sum_eq (fu := fu) hsb (by omega) (by omega), Option.bind_some, lay4_eq (fu := fu) _ (by omega)]
  simp [hs, sealed]
theorem seal_no {fu : Nat} {k t : Int} {body : List Int} (h : k < 1 ∨ k > 255 ∨ t < 0 ∨ t > 255 ∨ body.length > 56) : block_Seal.f fu k t body = some ([], false) := by
  unfold block_Seal.f
  have c0 : (if (decide (k < 1)) = true then true else (if (decide (k ≥ 256)) = true then true else (if (decide (t < 0)) = true then true else (if (decide (t ≥ 256)) = true then true else (decide ((List.length body : Int) > 56)))))) = true := by
    by_cases h1 : k < 1
    · simp [h1]
    · by_cases h2 : k ≥ 256
      · simp [h2]
      · by_cases h3 : t < 0
        · simp [h3]
        · by_cases h4 : t ≥ 256
          · simp [h4]
          · have h5 : (List.length body : Int) > 56 := by omega
            simp [h5]
  rw [c0]
  rfl
theorem fill_eq {fu : Nat} {body : List Int} (hl : body.length ≤ 56) : rickyardref07_Fill.f fu (body.map toB) 56 = some ((body ++ List.replicate (56 - body.length) 0).map toB) := by
  unfold rickyardref07_Fill.f
  have e1 : mxI (IntKind.i64.wrap (56 - (List.length (body.map toB) : Int))) 0 = ((56 - body.length : Nat) : Int) := by
    rw [List.length_map, w64 (by omega) (by omega)]
    unfold mxI
    split <;> omega
  have hL : (100 : Nat) ≤ LIM := by decide
  rw [e1, Int.toNat_natCast, if_pos ⟨by omega, by omega⟩, if_pos (by simp only [List.length_map, List.length_replicate]; omega), List.map_append]
theorem rseal_eq {fu : Nat} {k t : Int} {body : List Int} (hb : Bytes body) (hk : 0 ≤ k ∧ k ≤ 255) (ht : 0 ≤ t ∧ t ≤ 255) (hl : body.length ≤ 56) (hf : 100 < fu) : rickyardref07_Seal.f fu k t (body.map toB) = some ((sealed (summed k t body)).map toB) := by
  have hs := summed_len (k := k) (t := t) hl
  have hsb := summed_bytes hk ht hb
  unfold rickyardref07_Seal.f
  rw [wu8 hk.1 hk.2, wu8 ht.1 ht.2]
  have e1 : List.map toB [k, t, 0, 0] ++ List.map toB (body ++ List.replicate (56 - body.length) 0) = (summed k t body).map toB := by
    rw [← List.map_append]
    rfl
  have hL : (100 : Nat) ≤ LIM := by decide
  have e2 : List.length (List.map toB [k, t, 0, 0]) + List.length (List.map toB (body ++ List.replicate (56 - body.length) 0)) ≤ LIM := by
    simp
    omega
  simp only [fill_eq (fu := fu) hl, Option.bind_some, e1, of_toB hsb, rsum_eq (fu := fu) hsb (by omega) (by omega), rlay4_eq (fu := fu) _ (by omega : 8 < fu)]
  rw [if_pos e2, if_pos (by simp [lay_len, hs]; omega)]
  simp [sealed]
theorem there_eq {fu : Nat} {b : List Int} {i n : Nat} (hl : b.length ≤ 9000000000000000000) (h : i + n ≤ b.length) : octet_there.f fu b (i : Int) (n : Int) = some true := by
  unfold octet_there.f
  have h1 : (i : Int) ≥ 0 := by omega
  have h2 : (n : Int) ≥ 0 := by omega
  have h3 : (n : Int) ≤ (b.length : Int) := by omega
  have h4 : IntKind.i64.wrap ((b.length : Int) - (n : Int)) = (b.length : Int) - (n : Int) := w64 (by omega) (by omega)
  have h5 : (i : Int) ≤ (b.length : Int) - (n : Int) := by omega
  simp [h1, h2, h3, h4, h5]
theorem noughts_from {fu : Nat} (b : List Int) (x n : Int) {C : List Int} (hC : cut b x (IntKind.i64.wrap (x + n)) = C) (hl : C.length ≤ 9000000000000000000) : ∀ k m, m ≤ C.length → C.length - m < k → loopM (octet_Noughts.s0 fu b x n) k (m : Int) = some (if ∀ y ∈ C.drop m, y = 0 then .inr () else .inl false)
  | 0, m, _, hk => by omega
  | k + 1, m, hm, hk => by
    unfold loopM
    by_cases e : m = C.length
    · subst e
      have : octet_Noughts.s0 fu b x n (C.length : Int) = some (.inl (.inr ())) := by
        unfold octet_Noughts.s0
        rw [hC]
        simp
      rw [this]
      simp
    · have hlt : m < C.length := by omega
      have hx : ix C (m : Int) = C[m] := ix_nat hlt
      rw [List.drop_eq_getElem_cons hlt]
      have h1 : (m : Int) < (C.length : Int) := by omega
      by_cases hn : C[m] = 0
      · have w3 : IntKind.i64.wrap ((m : Int) + 1) = ((m + 1 : Nat) : Int) := by rw [w64 (by omega) (by omega)]; omega
        have : octet_Noughts.s0 fu b x n (m : Int) = some (.inr ((m + 1 : Nat) : Int)) := by
          unfold octet_Noughts.s0
          rw [hC]
          simp [h1, hx, hn, w3, hlt]
        rw [this]
        simp only
        rw [noughts_from b x n hC hl k (m + 1) (by omega) (by omega)]
        have e3 : (∀ y ∈ C[m] :: C.drop (m + 1), y = 0) ↔ ∀ y ∈ C.drop (m + 1), y = 0 := by
          constructor
          · intro h y hy
            exact h y (List.mem_cons_of_mem _ hy)
          · intro h y hy
            rcases List.mem_cons.1 hy with rfl | hy
            · exact hn
            · exact h y hy
        simp only [e3]
      · have : octet_Noughts.s0 fu b x n (m : Int) = some (.inl (.inl false)) := by
          unfold octet_Noughts.s0
          rw [hC]
          simp [h1, hx, hn, hlt]
        rw [this]
        have e3 : ¬ (∀ y ∈ C[m] :: C.drop (m + 1), y = 0) := fun h => hn (h _ (List.mem_cons_self ..))
        simp only [e3, if_false]
theorem noughts_eq {fu : Nat} {b : List Int} {i n : Nat} (hl : b.length ≤ 9000000000000000000) (h : i + n ≤ b.length) (hf : n < fu) : octet_Noughts.f fu b (i : Int) (n : Int) = some (decide (∀ y ∈ (b.drop i).take n, y = 0)) := by
  unfold octet_Noughts.f
  rw [there_eq hl h]
  have w1 : IntKind.i64.wrap ((i : Int) + (n : Int)) = ((i + n : Nat) : Int) := by rw [w64 (by omega) (by omega)]; omega
  have hC : cut b (i : Int) (IntKind.i64.wrap ((i : Int) + (n : Int))) = (b.drop i).take n := by
    rw [w1]
    unfold cut
    rw [Int.toNat_natCast, Int.toNat_natCast, List.drop_take]
    congr 1
    omega
  have hlen : ((b.drop i).take n).length = n := by
    rw [List.length_take, List.length_drop]
    omega
  have := noughts_from (fu := fu) b (i : Int) (n : Int) hC (by omega) fu 0 (by omega) (by omega)
  rw [Int.natCast_zero, List.drop_zero] at this
  have c1 : 0 ≤ (i : Int) ∧ (i : Int) ≤ IntKind.i64.wrap ((i : Int) + (n : Int)) ∧ IntKind.i64.wrap ((i : Int) + (n : Int)) ≤ (b.length : Int) := by
    rw [w1]
    omega
  simp only [Option.bind_some, Bool.not_true, Bool.false_eq_true, if_false]
  rw [if_pos c1, this]
  by_cases hz : ∀ y ∈ (b.drop i).take n, y = 0
  · rw [if_pos hz]
    simp only [Option.bind_some, decide_eq_true hz]
  · rw [if_neg hz]
    simp only [Option.bind_some, decide_eq_false hz]
/-- Octets that are a block. -/
def Is (b : List Int) : Prop := b.length = 64 ∧ ix b 4 ≠ 0 ∧ b = sealed (summed (ix b 4) (ix b 5) (b.drop 8))
instance (b : List Int) : Decidable (Is b) := inferInstanceAs (Decidable (_ ∧ _))
theorem parts {b : List Int} (h : b.length = 64) : b = b.take 4 ++ ([ix b 4, ix b 5, ix b 6, ix b 7] ++ b.drop 8) := by
  have e : b.drop 4 = [ix b 4, ix b 5, ix b 6, ix b 7] ++ b.drop 8 := by
    have g : ∀ j : Nat, j < 64 → b.drop j = ix b (j : Int) :: b.drop (j + 1) := by
      intro j hj
      rw [List.drop_eq_getElem_cons (by omega), ix_nat (by omega)]
    rw [g 4 (by omega), g 5 (by omega), g 6 (by omega), g 7 (by omega)]
    rfl
  rw [← e, List.take_append_drop]
theorem gap_eq {b : List Int} (h : b.length = 64) : (b.drop 6).take 2 = [ix b 6, ix b 7] := by
  have g : ∀ j : Nat, j < 64 → b.drop j = ix b (j : Int) :: b.drop (j + 1) := by
    intro j hj
    rw [List.drop_eq_getElem_cons (by omega), ix_nat (by omega)]
  rw [g 6 (by omega), g 7 (by omega)]
  rfl
theorem drop4 {b : List Int} (h : b.length = 64) : b.drop 4 = [ix b 4, ix b 5, ix b 6, ix b 7] ++ b.drop 8 := by
  have g : ∀ j : Nat, j < 64 → b.drop j = ix b (j : Int) :: b.drop (j + 1) := by
    intro j hj
    rw [List.drop_eq_getElem_cons (by omega), ix_nat (by omega)]
  rw [g 4 (by omega), g 5 (by omega), g 6 (by omega), g 7 (by omega)]
  rfl
theorem summed_full (k t : Int) {body : List Int} (h : body.length = 56) : summed k t body = [k, t, 0, 0] ++ body := by
  unfold summed
  rw [h]
  simp
theorem is_iff {b : List Int} (hb : Bytes b) (h : b.length = 64) : b = sealed (summed (ix b 4) (ix b 5) (b.drop 8)) ↔ (ix b 6 = 0 ∧ ix b 7 = 0) ∧ num (b.take 4) = (crc (b.drop 4)).toNat := by
  have h8 : (b.drop 8).length = 56 := by rw [List.length_drop, h]
  have h4 : (b.take 4).length = 4 := by rw [List.length_take, h]; rfl
  rw [summed_full _ _ h8]
  constructor
  · intro e
    have e2 : b.take 4 ++ b.drop 4 = lay (crc ([ix b 4, ix b 5, 0, 0] ++ b.drop 8)).toNat 4 ++ ([ix b 4, ix b 5, 0, 0] ++ b.drop 8) := by
      rw [List.take_append_drop]
      exact e
    obtain ⟨e3, e4⟩ := List.append_inj e2 (by rw [h4, lay_len])
    have e5 := e4
    rw [drop4 h] at e5
    have e6 := List.append_inj_left e5 rfl
    simp only [List.cons.injEq, and_true, true_and] at e6
    refine ⟨e6, ?_⟩
    rw [e3, e4, num_lay]
    exact Nat.mod_eq_of_lt (crc _).isLt
  · rintro ⟨⟨h6, h7⟩, hn⟩
    have e4 : b.drop 4 = [ix b 4, ix b 5, 0, 0] ++ b.drop 8 := by
      have := drop4 h
      rw [h6, h7] at this
      exact this
    unfold sealed
    rw [← e4, ← hn]
    have := lay_num (hb.take 4)
    rw [h4] at this
    rw [this, List.take_append_drop]
theorem right_is {fu : Nat} {b : List Int} (hb : Bytes b) (hl : b.length ≤ 9000000000000000000) (hf : 100 < fu) : block_right.f fu b = some (decide (Is b)) := by
  unfold block_right.f
  by_cases h : b.length = 64
  · have hL : (b.length : Int) = 64 := by omega
    by_cases h4 : ix b 4 = 0
    · simp [hL, h4, Is]
    · have hn : octet_Noughts.f fu b 6 2 = some (decide (∀ y ∈ (b.drop 6).take 2, y = 0)) := noughts_eq (i := 6) (n := 2) hl (by omega) (by omega)
      have hg : (∀ y ∈ (b.drop 6).take 2, y = 0) ↔ ix b 6 = 0 ∧ ix b 7 = 0 := by
        rw [gap_eq h]
        simp
      by_cases hz : ix b 6 = 0 ∧ ix b 7 = 0
      · have c1 : cut b 0 4 = b.take 4 := by
          unfold cut
          rfl
        have c2 : cut b 4 (b.length : Int) = b.drop 4 := by
          unfold cut
          rw [Int.toNat_natCast, List.take_length]
          rfl
        have h4' : (b.take 4).length = 4 := by rw [List.length_take, h]; rfl
        have hr : octet_Read.f fu (b.take 4) = some ((num (b.take 4) : Nat) : Int) := read_eq (hb.take 4) (by omega) (by omega)
        have hlt : num (b.take 4) < 4294967296 := by
          have := num_lt (hb.take 4)
          rwa [h4'] at this
        have hd : (b.drop 4).length = 60 := by rw [List.length_drop, h]
        have hs : crc_Sum.f fu [b.drop 4] = some (I32 (crc (b.drop 4))) := sum_eq (hb.drop 4) (by omega) (by omega)
        have hw : IntKind.u32.wrap ((num (b.take 4) : Nat) : Int) = ((num (b.take 4) : Nat) : Int) := wu32 (by omega) (by omega)
        have hi : Is b ↔ num (b.take 4) = (crc (b.drop 4)).toNat := by
          unfold Is
          rw [is_iff hb h]
          exact ⟨fun x => x.2.2.2, fun x => ⟨h, h4, hz, x⟩⟩
        have hq : (I32 (crc (b.drop 4)) = ((num (b.take 4) : Nat) : Int)) ↔ Is b := by
          rw [hi]
          unfold I32
          omega
        unfold crc_Fits.f
        rw [hn, decide_eq_true (hg.2 hz), c1, c2, hr]
        simp only [Option.bind_some, hw, hs, hq]
        have hL5 : (4 : Int) < (b.length : Int) := by omega
        have hL6 : (4 : Int) ≤ (b.length : Int) := by omega
        simp [hL, h4]
      · have hi : ¬ Is b := by
          intro x
          unfold Is at x
          rw [is_iff hb h] at x
          exact hz x.2.2.1
        rw [hn, decide_eq_false (fun x => hz (hg.1 x))]
        simp [hL, h4, hi]
  · have hi : ¬ Is b := fun x => h x.1
    have hL : ¬ (b.length : Int) = 64 := by omega
    simp [hL, hi]
theorem open_eq {fu : Nat} {b : List Int} (hb : Bytes b) (hl : b.length ≤ 9000000000000000000) (hf : 100 < fu) : block_Open.f fu b = some (if Is b then (ix b 4, ix b 5, b.drop 8, true) else (0, 0, [], false)) := by
  unfold block_Open.f
  rw [right_is hb hl hf]
  by_cases h : Is b
  · have h0 := h.1
    have c2 : cut b 8 (b.length : Int) = b.drop 8 := by
      unfold cut
      rw [Int.toNat_natCast, List.take_length]
      rfl
    have hc : bytes_Clone.f fu (b.drop 8) = some (b.drop 8) := by
      unfold bytes_Clone.f
      rw [if_pos]
      rw [List.length_drop, h0]
      decide
    have h4 : 0 ≤ ix b 4 ∧ ix b 4 ≤ 255 := by
      have := ix_nat (l := b) (j := 4) (by omega)
      rw [show ((4 : Nat) : Int) = 4 from rfl] at this
      rw [this]
      exact hb _ (List.getElem_mem _)
    have h5 : 0 ≤ ix b 5 ∧ ix b 5 ≤ 255 := by
      have := ix_nat (l := b) (j := 5) (by omega)
      rw [show ((5 : Nat) : Int) = 5 from rfl] at this
      rw [this]
      exact hb _ (List.getElem_mem _)
    have w4 : IntKind.i64.wrap (ix b 4) = ix b 4 := w64 (by omega) (by omega)
    have w5 : IntKind.i64.wrap (ix b 5) = ix b 5 := w64 (by omega) (by omega)
    simp only [c2, hc, w4, w5]
    simp [h, h0]
  · simp [h]
theorem kind_eq {fu : Nat} {b : List Int} (hb : Bytes b) (hl : b.length ≤ 9000000000000000000) (hf : 100 < fu) : block_Kind.f fu b = some (if Is b then ix b 4 else 0) := by
  unfold block_Kind.f
  rw [right_is hb hl hf]
  by_cases h : Is b
  · have h0 := h.1
    have h4 : 0 ≤ ix b 4 ∧ ix b 4 ≤ 255 := by
      have := ix_nat (l := b) (j := 4) (by omega)
      rw [show ((4 : Nat) : Int) = 4 from rfl] at this
      rw [this]
      exact hb _ (List.getElem_mem _)
    have w4 : IntKind.i64.wrap (ix b 4) = ix b 4 := w64 (by omega) (by omega)
    simp [h, h0, w4]
  · simp [h]
theorem sealed_parts (k t : Int) (body : List Int) : ix (sealed (summed k t body)) 4 = k ∧ ix (sealed (summed k t body)) 5 = t ∧ (sealed (summed k t body)).drop 8 = body ++ List.replicate (56 - body.length) 0 := by
  unfold sealed
  obtain ⟨a, b, c, d, e⟩ : ∃ a b c d, lay (crc (summed k t body)).toNat 4 = [a, b, c, d] := ⟨_, _, _, _, rfl⟩
  rw [e]
  exact ⟨rfl, rfl, rfl⟩
theorem fulled (body : List Int) (h : body.length ≤ 56) : (body ++ List.replicate (56 - body.length) (0 : Int)).length = 56 := by
  simp
  omega
theorem is_sealed {k t : Int} {body : List Int} (hk : k ≠ 0) (hl : body.length ≤ 56) : Is (sealed (summed k t body)) := by
  obtain ⟨h4, h5, h8⟩ := sealed_parts k t body
  refine ⟨sealed_len (summed_len hl), by rw [h4]; exact hk, ?_⟩
  rw [h4, h5, h8, summed_full k t (fulled body hl)]
  rfl
theorem ix_byte {b : List Int} (hb : Bytes b) (j : Nat) (h : j < b.length) : 0 ≤ ix b (j : Int) ∧ ix b (j : Int) ≤ 255 := by
  rw [ix_nat h]
  exact hb _ (List.getElem_mem _)
theorem ropen_eq {fu : Nat} {b : List Int} (hb : Bytes b) (hf : 100 < fu) : rickyardref07_Open.f fu b = some (if Is b then (ix b 4, ix b 5, (b.drop 8).map toB, true) else (0, 0, [], false)) := by
  unfold rickyardref07_Open.f
  by_cases h : b.length = 64
  · have hL : (b.length : Int) = 64 := by omega
    have b4 := ix_byte hb 4 (by omega)
    have b5 := ix_byte hb 5 (by omega)
    rw [show ((4 : Nat) : Int) = 4 from rfl] at b4
    rw [show ((5 : Nat) : Int) = 5 from rfl] at b5
    have w4 : IntKind.i64.wrap (ix b 4) = ix b 4 := w64 (by omega) (by omega)
    have w5 : IntKind.i64.wrap (ix b 5) = ix b 5 := w64 (by omega) (by omega)
    have c2 : cut b 8 (b.length : Int) = b.drop 8 := by
      unfold cut
      rw [Int.toNat_natCast, List.take_length]
      rfl
    have h8 : (b.drop 8).length = 56 := by rw [List.length_drop, h]
    have hs : rickyardref07_Seal.f fu (ix b 4) (ix b 5) ((b.drop 8).map toB) = some ((sealed (summed (ix b 4) (ix b 5) (b.drop 8))).map toB) := rseal_eq (hb.drop 8) b4 b5 (by omega) hf
    have hq : (sealed (summed (ix b 4) (ix b 5) (b.drop 8))).map toB = b.map toB ↔ b = sealed (summed (ix b 4) (ix b 5) (b.drop 8)) :=
      (map_toB_iff (sealed_bytes (summed_bytes b4 b5 (hb.drop 8))) hb).trans ⟨Eq.symm, Eq.symm⟩
    rw [c2, w4, w5]
    by_cases h4 : ix b 4 = 0
    · have hi : ¬ Is b := fun x => x.2.1 h4
      simp [hL, h4, hi]
    · by_cases he : b = sealed (summed (ix b 4) (ix b 5) (b.drop 8))
      · have hi : Is b := ⟨h, h4, he⟩
        simp only [hs, hq.2 he]
        simp [hL, h4, hi]
      · have hi : ¬ Is b := fun x => he x.2.2
        have hne : ¬ (sealed (summed (ix b 4) (ix b 5) (b.drop 8))).map toB = b.map toB := fun x => he (hq.1 x)
        simp only [hs, hne]
        simp [hL, h4, hi]
        exact hne
  · have hi : ¬ Is b := fun x => h x.1
    have hL : ¬ (b.length : Int) = 64 := by omega
    simp [hL, hi]
theorem bytes_of {l : List Int} (h : ∀ x ∈ l, (Lit.int .u8 x).wf = true) : Bytes l := fun x hx => wf8.1 (h x hx)
end Go.Proofs.Ytjhajfkfhdnciaa.Pure

/- Blocks that are sealed anew; arrays filled place by place. -/
set_option linter.unusedVariables false
set_option linter.unusedSimpArgs false
namespace Go.Proofs.Ytjhajfkfhdnciaa.Pure
open Go Go.Xw
theorem summed_fulled (k t : Int) (body : List Int) (h : body.length ≤ 56) : summed k t body = summed k t (body ++ List.replicate (56 - body.length) 0) := by
  rw [summed_full k t (fulled body h)]
  rfl
theorem sealed_iff {b : List Int} (hi : Is b) {k t : Int} {body : List Int} (hl : body.length ≤ 56) : sealed (summed k t body) = b ↔ k = ix b 4 ∧ t = ix b 5 ∧ body ++ List.replicate (56 - body.length) 0 = b.drop 8 := by
  obtain ⟨p4, p5, p8⟩ := sealed_parts k t body
  constructor
  · intro e
    rw [← e]
    exact ⟨p4.symm, p5.symm, p8.symm⟩
  · rintro ⟨h1, h2, h3⟩
    rw [summed_fulled k t body hl, h1, h2, h3]
    exact hi.2.2.symm
theorem sealed_map_iff {b : List Int} (hb : Bytes b) (hi : Is b) {k t : Int} {body : List Int} (hk : 0 ≤ k ∧ k ≤ 255) (ht : 0 ≤ t ∧ t ≤ 255) (hbb : Bytes body) (hl : body.length ≤ 56) :
    (sealed (summed k t body)).map toB = b.map toB ↔ k = ix b 4 ∧ t = ix b 5 ∧ body ++ List.replicate (56 - body.length) 0 = b.drop 8 :=
  (map_toB_iff (sealed_bytes (summed_bytes hk ht hbb)) hb).trans (sealed_iff hi hl)
theorem is_tag {b : List Int} (hb : Bytes b) (hi : Is b) : (0 ≤ ix b 4 ∧ ix b 4 ≤ 255) ∧ (0 ≤ ix b 5 ∧ ix b 5 ≤ 255) := by
  have h0 := hi.1
  exact ⟨ix_byte hb 4 (by omega), ix_byte hb 5 (by omega)⟩
theorem is_body {b : List Int} (hi : Is b) : (b.drop 8).length = 56 := by rw [List.length_drop, hi.1]
theorem full_iff {body full : List Int} (hl : body.length ≤ 56) (hf : full.length = 56) : body ++ List.replicate (56 - body.length) 0 = full ↔ body = full.take body.length ∧ ∀ y ∈ full.drop body.length, y = 0 := by
  constructor
  · intro e
    subst e
    refine ⟨by simp, fun y hy => ?_⟩
    rw [List.drop_left' rfl] at hy
    exact List.eq_of_mem_replicate hy
  · rintro ⟨h1, h2⟩
    have h3 : full.drop body.length = List.replicate (56 - body.length) 0 := by
      apply List.eq_replicate_iff.2
      exact ⟨by rw [List.length_drop, hf], h2⟩
    rw [← h3]
    conv => lhs; lhs; rw [h1]
    exact List.take_append_drop _ _
/-! ### Arrays filled place by place -/
def fillA {n : Nat} {α : Type} (f : Nat → α) (a : Arr n α) : Nat → Arr n α
  | 0 => a
  | j + 1 => Arr.set (fillA f a j) (j : Int) (f j)
theorem fillA_l {n : Nat} {α : Type} (f : Nat → α) (a : Arr n α) : ∀ j, j ≤ n → (fillA f a j).l = (List.range j).map f ++ a.l.drop j
  | 0, _ => by simp [fillA]
  | j + 1, h => by
    have ih := fillA_l f a j (by omega)
    have ha := a.h
    show List.set (fillA f a j).l (Int.toNat (j : Int)) (f j) = _
    rw [ih, Int.toNat_natCast, List.set_append_right _ _ (by simp), List.length_map, List.length_range, Nat.sub_self, List.range_succ, List.map_append]
    rw [List.drop_eq_getElem_cons (by omega), List.set_cons_zero]
    simp
theorem fillA_all {n : Nat} {α : Type} (f : Nat → α) (a : Arr n α) : (fillA f a n).l = (List.range n).map f := by
  rw [fillA_l f a n (Nat.le_refl _)]
  have := a.h
  simp [← this]
theorem take_range {l : List Int} {n : Nat} (h : n ≤ l.length) : l.take n = (List.range n).map fun (j : Nat) => ix l (j : Int) := by
  apply List.ext_getElem
  · simp [h]
  · intro i h1 h2
    have hi : i < n := by simpa using h2
    simp [ix_nat (show i < l.length by omega)]
theorem getA {n : Nat} {α : Type} [Inhabited α] (a : Arr n α) {i : Nat} (hi : i < n) : Arr.get a (i : Int) = a.l[i]'(by rw [a.h]; exact hi) := by
  have hl : i < a.l.length := by rw [a.h]; exact hi
  simp [Arr.get, ix, List.getD_eq_getElem?_getD, List.getElem?_eq_getElem hl]
theorem lA {n : Nat} {α : Type} [Inhabited α] (a : Arr n α) : a.l = (List.range n).map fun (i : Nat) => Arr.get a (i : Int) := by
  apply List.ext_getElem
  · simp [a.h]
  · intro i h1 h2
    have hi : i < n := by rw [← a.h]; exact h1
    simp [getA a hi]
theorem getD_toB {l : List Int} (hb : Bytes l) {i : Nat} (h : i < l.length) : ofB (List.getD (l.map toB) (Int.toNat (i : Int)) 0) = ix l (i : Int) := by
  rw [Int.toNat_natCast, List.getD_eq_getElem?_getD, List.getElem?_map, List.getElem?_eq_getElem h, ix_nat h]
  have := of_toB (l := [l[i]]) (by intro x hx; obtain rfl := List.mem_singleton.1 hx; exact hb _ (List.getElem_mem h))
  simpa using this
end Go.Proofs.Ytjhajfkfhdnciaa.Pure

/- rickyard/chart.Put: its model, and that the Go function computes it: written by gen.py. -/
set_option linter.unusedVariables false
namespace Go.Proofs.Ytjhajfkfhdnciaa
open Go Go.Xw
def chart_Put.f (fu : Nat) (a0 : S_api_Chart) : Option ((List Int) × Bool) := ((chart_right.f fu a0 : Option Bool).bind fun t10 => (if (!t10) = true then some ([], false) else ((block_Seal.f fu 4 a0.Place (Arr.l a0.Bits) : Option ((List Int) × Bool)).bind fun t17 => some (t17.1, t17.2))))
set_option maxRecDepth 100000 in
set_option maxHeartbeats 400000 in
theorem chart_Put.ok (fu : Nat) (w : World) (a0 : S_api_Chart) (r : (List Int) × Bool) (h : chart_Put.f fu a0 = some r) :
    Calls Try.prog 71 (([aggV [Seg.cell (.int .i64 a0.Place), Kd.seg (kA 48 (kI .u8)) a0.Bits]] : List Value).toArray) w (fun e w' => ∃ v, e = .returned v ∧ ∃ u1 : Value, ∃ o2 : Own (kI .u8) 5 w' w.heap.size u1 r.1, v = .tuple #[u1, .bool r.2] ∧ Gr w w') := by
  unfold chart_Put.f at h
  have fB : Gr w w := Fr.refl _ _
  refine calls_cw Try.func71 rfl Try.ntmps71 rfl ?_
  refine cw_seq ?_
  refine cw_region ?_
  refine ol_op (by exact opv_box (ss := [Seg.cell (.int .i64 a0.Place), Kd.seg (kA 48 (kI .u8)) a0.Bits]) rfl rfl rfl) rfl rfl rfl ?_
  rintro _ w9 ⟨G4, rfl, b5, q6, z7⟩
  have z7 := Nat.le_trans fB.size z7
  have fB := fB.gr q6
  refine ol_val (v := .slice none 0 0) (by exact xr_assign rfl rfl) rfl rfl rfl ?_
  refine ol_val (v := .bool false) (by exact xr_assign rfl rfl) rfl rfl rfl ?_
  refine ol_nil ?_
  refine cw_seq ?_
  refine cw_seq ?_
  refine cw_region ?_
  refine ol_val (v := aggV [Seg.cell (.int .i64 a0.Place), Kd.seg (kA 48 (kI .u8)) a0.Bits]) (by exact xr_loadS (ss := [Seg.cell (.int .i64 a0.Place), Kd.seg (kA 48 (kI .u8)) a0.Bits]) rfl ag81 sz81 rfl rfl (b5.segs 0 2 rfl)) rfl rfl rfl ?_
  obtain ⟨t10, k11, h⟩ := bs h
  refine ol_op (by exact opv_call rfl cal115 (ac rfl an) (chart_right.ok fu _ a0 _ k11)) rfl rfl rfl ?_
  rintro _ w13 ⟨rfl, q12⟩
  have b5 := b5.gr q12
  have fB := fB.gr q12
  refine ol_val (v := .bool (!t10)) (by exact xr_not rfl rfl) rfl rfl rfl ?_
  refine ol_nil ?_
  rcases is h with ⟨c14, h⟩ | ⟨c14, h⟩
  · refine cw_condT rfl c14 ?_
    refine cw_seq ?_
    refine cw_region ?_
    refine ol_val (v := .slice none 0 0) (by exact xr_assign rfl rfl) rfl rfl rfl ?_
    refine ol_val (v := .bool false) (by exact xr_assign rfl rfl) rfl rfl rfl ?_
    refine ol_nil ?_
    refine cw_ret ?_
    repeat (first | with_reducible refine thn_r ?_ | with_reducible refine blk_r ?_)
    obtain rfl := Option.some.inj h
    refine fin_ret2 Try.results71 rfl rfl ?_
    exact ⟨_, rfl, (.slice none 0 0), Own.nil _ _ _ _, rfl, fB⟩
  · refine cw_condF rfl c14 ?_
    refine cw_skip ?_
    refine cw_seq ?_
    obtain ⟨t17, k18, h⟩ := bs h
    refine cw_drawL 7 [fun vz wz => vz = (.pointer (some ⟨G4, 0, none⟩) : Value), fun vz wz => vz = (.int .i64 a0.Place : Value), fun vz wz => vz = (.pointer (some ⟨G4, 1, none⟩) : Value), fun vz wz => ∃ u16 : Value, ∃ r15 : Rd (kI .u8) wz u16 (Arr.l a0.Bits), vz = (u16 : Value), fun vz wz => ∃ u19 : Value, ∃ o20 : Own (kI .u8) 5 wz w.heap.size u19 t17.1, vz = (.tuple #[u19, .bool t17.2] : Value), fun vz wz => ∃ u19 : Value, ∃ o20 : Own (kI .u8) 5 wz w.heap.size u19 t17.1, vz = (u19 : Value), fun vz wz => vz = (.bool t17.2 : Value)] mo rfl ⟨fun _ _ _ h _ => h, fun _ _ _ h _ => h, fun _ _ _ h _ => h, fun _ _ _ ⟨u16, r15, h⟩ q => ⟨u16, r15.gr q, h⟩, fun _ _ _ ⟨u19, o20, h⟩ q => ⟨u19, o20.gr q, h⟩, fun _ _ _ ⟨u19, o20, h⟩ q => ⟨u19, o20.gr q, h⟩, fun _ _ _ h _ => h, trivial⟩ ?_ ?_
    · refine ⟨?_, ?_, ?_, ?_, ?_, ?_, ?_, trivial⟩
      · intro ρz wz hz hk hd
        exact sk_val (v := .pointer (some ⟨G4, 0, none⟩)) (by exact xr_fieldAddr (p := 0) (q := 0) rfl fl81_0 ((hk 1 rfl).trans rfl)) rfl rfl
      · intro ρz wz hz hk hd
        have d7 := hd 0 rfl 7 rfl
        exact sk_val (v := .int .i64 a0.Place) (by exact xr_load1 (v := .int .i64 a0.Place) rfl ag3 d7 ((b5.gr hz).seg 0 rfl rfl)) rfl rfl
      · intro ρz wz hz hk hd
        exact sk_val (v := .pointer (some ⟨G4, 1, none⟩)) (by exact xr_fieldAddr (p := 0) (q := 1) rfl fl81_1 ((hk 1 rfl).trans rfl)) rfl rfl
      · intro ρz wz hz hk hd
        have d9 := hd 2 rfl 9 rfl
        exact sk_val (by exact xr_sliceArr rfl Try.underlying79 sz5 d9) rfl ⟨_, Rd.arr ((b5.gr hz).seg 1 rfl rfl), rfl⟩
      · intro ρz wz hz hk hd
        have d8 := hd 1 rfl 8 rfl
        obtain ⟨u16, r15, d10⟩ := hd 3 rfl 10 rfl
        refine sk_op (by exact opv_call rfl cal28 (ac rfl (ac d8 (ac d10 an))) (block_Seal.ok fu _ 4 a0.Place (Arr.l a0.Bits) u16 (r15) _ k18)) rfl ?_
        rintro _ wy ⟨u19, o20, rfl, q22⟩
        exact ⟨⟨u19, Own.base o20 ((Nat.le_trans fB.size hz.size)), rfl⟩, q22⟩
      · intro ρz wz hz hk hd
        obtain ⟨u19, o20, d11⟩ := hd 4 rfl 11 rfl
        exact sk_val (by exact xr_extract rfl d11 rfl) rfl ⟨u19, o20, rfl⟩
      · intro ρz wz hz hk hd
        obtain ⟨u19, o20, d11⟩ := hd 4 rfl 11 rfl
        exact sk_val (v := .bool t17.2) (by exact xr_extract rfl d11 rfl) rfl rfl
    · intro ρ23 w24 q25 hk hd
      obtain ⟨u26, o27, e12⟩ := hd 5 rfl 12 rfl
      have e13 := hd 6 rfl 13 rfl
      have fB := fB.gr q25
      refine ol_val (v := u26) (by exact xr_assign rfl e12) rfl rfl rfl ?_
      refine ol_val (v := .bool t17.2) (by exact xr_assign rfl e13) rfl rfl rfl ?_
      refine ol_nil ?_
      refine cw_ret ?_
      repeat (first | with_reducible refine thn_r ?_ | with_reducible refine blk_r ?_)
      obtain rfl := Option.some.inj h
      refine fin_ret2 Try.results71 rfl rfl ?_
      exact ⟨_, rfl, u26, o27, rfl, fB⟩
end Go.Proofs.Ytjhajfkfhdnciaa

/- Charts put and got, in plain words. -/
set_option linter.unusedVariables false
set_option linter.unusedSimpArgs false
namespace Go.Proofs.Ytjhajfkfhdnciaa.Pure
open Go Go.Xw
def noC : S_api_Chart := ⟨0, Arr.rep 48 0⟩
def bitsOf (body : List Int) : Arr 48 Int := Arr.copy (Arr.rep 48 0) body
theorem bitsOf_l {body : List Int} (h : 48 ≤ body.length) : (bitsOf body).l = body.take 48 := by
  have e : ((List.replicate 48 (0 : Int)).drop (0 + (body.take 48).length)) = [] := List.drop_eq_nil_of_le (by simp [h])
  show splL (List.replicate 48 (0 : Int)) 0 (body.take 48) = _
  unfold splL
  rw [e]
  simp
theorem bytes_chart {c : S_api_Chart} (h : ok_api_Chart c) : Bytes c.Bits.l := fun x hx => wf8.1 (h.2 x hx)
theorem put_eq {fu : Nat} {c : S_api_Chart} (hc : ok_api_Chart c) (hf : 100 < fu) : chart_Put.f fu c = some (if RightC c then (sealed (summed 4 c.Place c.Bits.l), true) else ([], false)) := by
  unfold chart_Put.f
  rw [right_eq]
  by_cases h : RightC c
  · have h' := h
    unfold RightC at h'
    have hs := seal_eq (fu := fu) (k := 4) (t := c.Place) (bytes_chart hc) (by omega) (by omega) (by rw [c.Bits.h]; decide) hf
    simp [h, hs]
  · simp [h]
theorem rput_eq {fu : Nat} {c : S_api_Chart} (hc : Bytes c.Bits.l) (hr : RightC c) (hf : 100 < fu) : rickyardref10_Put.f fu c = some ((sealed (summed 4 c.Place c.Bits.l)).map toB) := by
  unfold rickyardref10_Put.f
  unfold RightC at hr
  rw [rseal_eq hc (by omega) (by omega) (by rw [c.Bits.h]; decide) hf]
  rfl
def GetOk (b : List Int) : Prop := Is b ∧ ix b 4 = 4 ∧ ix b 5 < 8 ∧ ∀ y ∈ (b.drop 8).drop 48, y = 0
instance (b : List Int) : Decidable (GetOk b) := inferInstanceAs (Decidable (_ ∧ _))
theorem cget_eq {fu : Nat} {b : List Int} (hb : Bytes b) (hl : b.length ≤ 9000000000000000000) (hf : 100 < fu) : chart_Get.f fu b = some (if GetOk b then (⟨ix b 5, bitsOf (b.drop 8)⟩, true) else (noC, false)) := by
  unfold chart_Get.f
  rw [open_eq hb hl hf]
  by_cases hi : Is b
  · have h8 := is_body hi
    have w1 : IntKind.i64.wrap (((b.drop 8).length : Int) - 48) = ((8 : Nat) : Int) := by rw [w64 (by omega) (by omega)]; omega
    have hn : octet_Noughts.f fu (b.drop 8) ((48 : Nat) : Int) ((8 : Nat) : Int) = some (decide (∀ y ∈ ((b.drop 8).drop 48).take 8, y = 0)) := noughts_eq (by omega) (by omega) (by omega)
    have e8 : ((b.drop 8).drop 48).take 8 = (b.drop 8).drop 48 := List.take_of_length_le (by rw [List.length_drop, h8]; decide)
    rw [e8] at hn
    rw [if_pos hi]
    simp only [Option.bind_some, Bool.not_true, Bool.false_eq_true, if_false, w1]
    have hn' : octet_Noughts.f fu (b.drop 8) 48 ((8 : Nat) : Int) = some (decide (∀ y ∈ (b.drop 8).drop 48, y = 0)) := hn
    rw [hn']
    by_cases h4 : ix b 4 = 4
    · by_cases h5 : ix b 5 < 8
      · have h5' : ¬ ix b 5 ≥ 8 := by omega
        by_cases hz : ∀ y ∈ (b.drop 8).drop 48, y = 0
        · have hg : GetOk b := ⟨hi, h4, h5, hz⟩
          rw [if_pos hg, decide_eq_true hz]
          simp [h4, h5', bitsOf]
        · have hg : ¬ GetOk b := fun x => hz x.2.2.2
          rw [if_neg hg, decide_eq_false hz]
          simp [h4, h5', noC]
      · have h5' : ix b 5 ≥ 8 := by omega
        have hg : ¬ GetOk b := fun x => h5 x.2.2.1
        rw [if_neg hg]
        simp [h4, h5', noC]
    · have hg : ¬ GetOk b := fun x => h4 x.2.1
      rw [if_neg hg]
      simp [h4, noC]
  · have hg : ¬ GetOk b := fun x => hi x.1
    rw [if_neg hi, if_neg hg]
    rfl
theorem rget_eq {fu : Nat} {b : List Int} (hb : Bytes b) (hf : 100 < fu) : rickyardref10_Get.f fu b = some (if GetOk b then (⟨ix b 5, bitsOf (b.drop 8)⟩, true) else (noC, false)) := by
  unfold rickyardref10_Get.f
  rw [ropen_eq hb hf]
  by_cases hi : Is b
  · have h8 := is_body hi
    obtain ⟨b4, b5⟩ := is_tag hb hi
    rw [if_pos hi]
    simp only [Option.bind_some, Bool.not_true, Bool.false_eq_true, if_false]
    by_cases h4 : ix b 4 = 4
    · by_cases h5 : ix b 5 < 8
      · have h5' : ¬ ix b 5 > 7 := by omega
        have hloop : loopM (rickyardref10_Get.s0 fu (ix b 4, ix b 5, (b.drop 8).map toB, true)) fu (0, (⟨ix b 5, (Arr.rep 48 (0 : Int))⟩ : S_api_Chart)) = some ⟨ix b 5, bitsOf (b.drop 8)⟩ := by
          have e : bitsOf (b.drop 8) = fillA (fun j => ix (b.drop 8) (j : Int)) (Arr.rep 48 0) 48 := by
            apply Arr.ext
            rw [bitsOf_l (by omega), fillA_all, take_range (by omega)]
          rw [e]
          refine loopM_run (S := fun j => ((j : Int), (⟨ix b 5, fillA (fun j => ix (b.drop 8) (j : Int)) (Arr.rep 48 0) j⟩ : S_api_Chart))) 48 rfl ?_ ?_ (by omega)
          · intro j hj
            unfold rickyardref10_Get.s0
            have w3 : IntKind.i64.wrap ((j : Int) + 1) = ((j + 1 : Nat) : Int) := by rw [w64 (by omega) (by omega)]; omega
            have h1 : (j : Int) < 48 := by omega
            have c1 : 0 ≤ (j : Int) ∧ (j : Int) < (((b.drop 8).map toB).length : Int) := by rw [List.length_map]; omega
            have c2 : 0 ≤ (j : Int) ∧ True := ⟨by omega, trivial⟩
            simp only [w3, h1, decide_true, if_true, getD_toB (hb.drop 8) (show j < (b.drop 8).length by omega)]
            rw [if_pos c1, if_pos c2]
            rfl
          · unfold rickyardref10_Get.s0
            simp
        have hbb : Bytes (bitsOf (b.drop 8)).l := by
          rw [bitsOf_l (by omega)]
          exact (hb.drop 8).take 48
        have hr : RightC ⟨ix b 5, bitsOf (b.drop 8)⟩ := ⟨b5.1, h5⟩
        have hp := rput_eq (fu := fu) (c := ⟨ix b 5, bitsOf (b.drop 8)⟩) hbb hr hf
        have hq := sealed_map_iff hb hi (k := 4) (t := ix b 5) (by omega) b5 hbb (by rw [Arr.h]; decide)
        have hfl : (bitsOf (b.drop 8)).l ++ List.replicate (56 - (bitsOf (b.drop 8)).l.length) 0 = b.drop 8 ↔ ∀ y ∈ (b.drop 8).drop 48, y = 0 := by
          rw [full_iff (by rw [Arr.h]; decide) h8, Arr.h, bitsOf_l (by omega)]
          simp
        simp only [h4, h5', decide_true, Bool.not_true, Bool.false_eq_true, if_false, decide_false] at hloop ⊢
        rw [hloop]
        simp only [Option.bind_some, hp]
        by_cases hz : ∀ y ∈ (b.drop 8).drop 48, y = 0
        · have hg : GetOk b := ⟨hi, h4, h5, hz⟩
          rw [if_pos hg, decide_eq_true (hq.2 ⟨h4.symm, rfl, hfl.2 hz⟩)]
          rfl
        · have hg : ¬ GetOk b := fun x => hz x.2.2.2
          rw [if_neg hg, decide_eq_false (fun x => hz (hfl.1 (hq.1 x).2.2))]
          rfl
      · have h5' : ix b 5 > 7 := by omega
        have hg : ¬ GetOk b := fun x => h5 x.2.2.1
        rw [if_neg hg]
        simp [h4, h5', noC]
    · have hg : ¬ GetOk b := fun x => h4 x.2.1
      rw [if_neg hg]
      simp [h4, noC]
  · have hg : ¬ GetOk b := fun x => hi x.1
    rw [if_neg hi, if_neg hg]
    rfl
end Go.Proofs.Ytjhajfkfhdnciaa.Pure

/- The pure statement of ChartGets. -/
set_option linter.unusedVariables false
namespace Go.Proofs.Ytjhajfkfhdnciaa.Pure
open Go Go.Xw
theorem ChartGets : ∀ (a0 : List Int), ((∀ x ∈ a0, (Lit.int .u8 x).wf = true) ∧ List.length a0 ≤ maxLen) → ∃ fu, rickyardlaw10_ChartGets.f fu a0 = some true := by
  intro b hbody
  refine ⟨400, ?_⟩
  have hb := bytes_of hbody.1
  unfold rickyardlaw10_ChartGets.f
  rw [awake10]
  by_cases h2 : (b.length : Int) > 200
  · simp [h2]
  · have h2' : ¬ 200 < b.length := by omega
    rw [cget_eq hb (by omega) (by decide), rget_eq hb (by decide)]
    simp [h2']
end Go.Proofs.Ytjhajfkfhdnciaa.Pure

/- The law ChartGets holds for every input: the row, out of the walk of the law's function and of its pure statement. Written by rows.py. -/
namespace Go.Proofs.Ytjhajfkfhdnciaa.chartGets
open Go.ChangeShapes Go.WideShapes Go.ChangeAt Go.RowKit
open Go.ChangeMaps (open_string shut_string)
open Go Go.Xw
set_option linter.unusedVariables false
theorem own : ownKnob Try.prog.godebug = none := Facts.own
theorem laidOut : laidOutB Try.prog = true := Facts.laid
theorem closed : joinedFacts Try.pinned.checked.prog 17 Try.f17 Rows.chartGetsSpec Rows.chartGetsRow = true := by
  unfold joinedFacts
  rw [Facts.enter, Facts.lifts, Facts.make, Facts.laid, Facts.rowed, Facts.plain, Facts.heard]
  kernel_rfl
theorem enc_seg {α : Type} (K : Kd α) (a : α) : K.enc a = cellsOf [Kd.seg K a] := by simp [cellsOf, Kd.seg]
def start : Input := ⟨#[], #[.slice none 0 0], []⟩
set_option maxRecDepth 100000 in
set_option maxHeartbeats 1000000 in
theorem lifted (os : Os) (started : os.Started) (H : Type) (enc : TypeId × Value → H) :
    ReturnsInHanded {} Try.checked os 17 .any (Rows.chartGetsSpec.pre6 enc Try.prog Try.f17 Rows.chartGetsRow.domain false) (Rows.chartGetsSpec.post enc Try.prog Try.f17 false true false false) := by
  refine returnsInHanded_of_change_sized (C := Try.checked) own started (by kernel_rfl) Try.func17
    (ChangeSpec.witness6 (enc := enc) (C := Try.checked) false start 8 (by kernel_rfl) (by kernel_rfl) (by kernel_rfl) (by kernel_rfl)) ?_
  intro W base args ds gs before hval0 hW hcnd hsz0 _
  have hval : ∀ (j : Nat) t v, Try.f17.params[j]? = some t → args[j]? = some v → Value.okWide Try.prog W .any base t v := hval0
  have hW' := hW
  obtain ⟨p, q, hA0, hV, rfl, hfz, hnd⟩ := hW
  have hA : DataW.TrodAll enc Try.prog W 0 (fun _ => true) true Try.f17.params.toList args.toList ds p := hA0
  rw [Try.params17] at hA hval
  obtain ⟨v0, vs0, d0, ds0, p0, q0, hargs, rfl, rfl, h0, r0⟩ := trodAll_cons hA
  obtain ⟨rfl, rfl, rfl⟩ := trodAll_nil r0
  obtain rfl : args = #[v0] := by cases args; simp_all
  obtain ⟨rfl, rfl⟩ := trodVars_none hV
  have k0 := h0
  have lt0 : ∀ x ∈ p0, x.block < W.heap.size := by obtain ⟨m, hm⟩ := k0; exact DataW.trod_lt m _ _ _ hm
  obtain ⟨fu0, hf0⟩ := h0
  obtain ⟨aa0, len0, cap0, rfl⟩ := okWide_slice Try.underlying22 (hval 0 22 v0 rfl rfl)
  obtain ⟨a0, V0_0, e0, R0_0, o0, l0, _⟩ := (opn_slice (K := (kI .u8)) Try.underlying22 (by kernel_rfl) (by decide) (opn_int Try.underlying5)) enc _ _ _ _ _ _ hf0
  obtain rfl : Value.slice aa0 len0 cap0 = V0_0 := by simpa [Value.cells] using e0
  obtain ⟨fu, hfu⟩ := Pure.ChartGets a0 ⟨o0, l0⟩
  refine Calls.mono (rickyardlaw10_ChartGets.ok fu W a0 _ R0_0 true hfu) fun e W' hr => ?_
  obtain ⟨v, rfl, rfl, gr⟩ := hr
  have bel := Fr.below gr
  exact ⟨_, rfl, _, _, _, [], _, [], hW', trodAll_mk1 (shut_bool Try.underlying4 _), (trodAll_cons_mk (Below.trod laidOut (by kernel_rfl) (of_decide_eq_true (by kernel_rfl)) k0 bel lt0) trodAll_mk0), rfl, bel.frame _, fun h => by cases h⟩
theorem over : Rows.chartGetsRow.holds Try.pinned (OpenSpec.ofChange Rows.chartGetsSpec) :=
  OpenClaim.holds_of_wide 17 Try.f17 rfl rfl rfl rfl rfl rfl rfl ⟨rfl, rfl, rfl, rfl, rfl⟩ rfl rfl rfl rfl rfl (by kernel_rfl) Try.func17 closed
    (of_decide_eq_true (by kernel_rfl)) (by unfold Func.isWrapper; first | (rw [if_pos (by decide +kernel)]; kernel_rfl) | (rw [if_neg (by decide +kernel)]; exact ⟨rfl, rfl⟩))
    (fun os started H enc _ => lifted os started H enc)
theorem proved : Rows.ChartGetsSaid := over
end Go.Proofs.Ytjhajfkfhdnciaa.chartGets
namespace Go.Proofs.Ytjhajfkfhdnciaa
/-- The law holds. -/
theorem chartGets_holds : Rows.ChartGetsSaid := chartGets.proved
#print axioms chartGets_holds
end Go.Proofs.Ytjhajfkfhdnciaa
