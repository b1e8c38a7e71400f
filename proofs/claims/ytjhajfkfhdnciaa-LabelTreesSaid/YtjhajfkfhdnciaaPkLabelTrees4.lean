/- LabelTrees: texts merged, part 4 of 6. The last part proves that the law LabelTrees holds for every input. -/
import Derived.Test.YtjhajfkfhdnciaaPkLabelTrees3
/- Sums in plain words: steps of one bit over words of 32 bits; the program's halves of octets and the document's single steps tell the same. -/
set_option linter.unusedVariables false
set_option linter.unusedSimpArgs false
namespace Go.Proofs.Ytjhajfkfhdnciaa.Pure
open Go Go.Xw
def I32 (x : BitVec 32) : Int := (x.toNat : Int)
theorem I32_lt (x : BitVec 32) : 0 ≤ I32 x ∧ I32 x ≤ 4294967295 := by
  unfold I32
  have := x.isLt
  omega
theorem ofI (x : BitVec 32) : BitVec.ofInt 32 (I32 x) = x := by
  unfold I32
  rw [BitVec.ofInt_natCast, BitVec.ofNat_toNat, BitVec.setWidth_eq]
theorem I32_of {n : Int} (h0 : 0 ≤ n) (h1 : n ≤ 4294967295) : n = I32 (BitVec.ofNat 32 n.toNat) := by
  unfold I32
  rw [BitVec.toNat_ofNat, Nat.mod_eq_of_lt (by omega)]
  omega
theorem wI32 (x : BitVec 32) : IntKind.u32.wrap (I32 x) = I32 x := wu32 (I32_lt x).1 (I32_lt x).2
theorem bx32 (x y : BitVec 32) : bXor .u32 (I32 x) (I32 y) = I32 (x ^^^ y) := by
  unfold bXor
  show IntKind.u32.wrap (((BitVec.ofInt 32 (I32 x) ^^^ BitVec.ofInt 32 (I32 y)).toNat : Nat) : Int) = _
  rw [ofI, ofI]
  exact wI32 _
theorem ba32 (x y : BitVec 32) : bAnd .u32 (I32 x) (I32 y) = I32 (x &&& y) := by
  unfold bAnd
  show IntKind.u32.wrap (((BitVec.ofInt 32 (I32 x) &&& BitVec.ofInt 32 (I32 y)).toNat : Nat) : Int) = _
  rw [ofI, ofI]
  exact wI32 _
theorem sr32 (x : BitVec 32) (n : Nat) (hn : n ≤ 32) : shR .u32 (I32 x) (n : Int) = I32 (x >>> n) := by
  unfold shR I32
  rw [BitVec.toNat_ushiftRight, Nat.shiftRight_eq_div_pow]
  show Int.fdiv (x.toNat : Int) (2 ^ min ((n : Int).toNat) 32) = _
  rw [Int.toNat_natCast, Nat.min_eq_left hn, Int.fdiv_eq_ediv_of_nonneg _ (Int.le_of_lt (Int.pow_pos (by decide)))]
  simp
def poly : BitVec 32 := 2197175160#32
def stp (x : BitVec 32) : BitVec 32 := (x >>> 1) ^^^ (if x.getLsbD 0 then poly else 0#32)
theorem lsb_and (x : BitVec 32) : (I32 (x &&& 1#32) = 1) ↔ x.getLsbD 0 = true := by
  unfold I32
  rw [BitVec.toNat_and]
  show ((x.toNat &&& 1 : Nat) : Int) = 1 ↔ x.toNat.testBit 0 = true
  rw [Nat.and_one_is_mod, Nat.testBit_zero]
  simp
  omega
theorem step_eq (fu : Nat) (x : BitVec 32) : crc_step.f fu (I32 x) = some (I32 (stp x)) := by
  unfold crc_step.f stp
  have e1 : bAnd .u32 (I32 x) 1 = I32 (x &&& 1#32) := ba32 x 1#32
  have e2 : shR .u32 (I32 x) 1 = I32 (x >>> 1) := sr32 x 1 (by decide)
  have e3 : bXor .u32 (I32 (x >>> 1)) 2197175160 = I32 (x >>> 1 ^^^ poly) := bx32 (x >>> 1) poly
  rw [e1, e2, e3]
  by_cases h : x.getLsbD 0 = true
  · rw [if_pos (by simpa using (lsb_and x).2 h), if_pos h]
  · rw [if_neg (by simpa using fun e => h ((lsb_and x).1 e)), if_neg h]
    simp
theorem rstep_eq (fu : Nat) (x : BitVec 32) : rickyardref02_Step.f fu (I32 x) = some (I32 (stp x)) := by
  unfold rickyardref02_Step.f stp
  have hb := I32_lt x
  have e1 : Int.tmod (I32 x) 2 = I32 (x &&& 1#32) := by
    rw [Int.tmod_eq_emod_of_nonneg hb.1]
    unfold I32
    rw [BitVec.toNat_and]
    show ((x.toNat : Int)) % 2 = ((x.toNat &&& 1 : Nat) : Int)
    rw [Nat.and_one_is_mod]
    omega
  have e2 : Int.tdiv (I32 x) 2 = I32 (x >>> 1) := by
    rw [Int.tdiv_eq_ediv_of_nonneg hb.1]
    unfold I32
    rw [BitVec.toNat_ushiftRight, Nat.shiftRight_eq_div_pow]
    omega
  have e3 : bXor .u32 (I32 (x >>> 1)) 2197175160 = I32 (x >>> 1 ^^^ poly) := bx32 (x >>> 1) poly
  rw [e1, e2, wI32, e3]
  by_cases h : x.getLsbD 0 = true
  · rw [if_pos (by simpa using (lsb_and x).2 h), if_pos h]
  · rw [if_neg (by simpa using fun e => h ((lsb_and x).1 e)), if_neg h]
    simp
theorem xor4 (a b p q : BitVec 32) : (a ^^^ b) ^^^ (p ^^^ q) = (a ^^^ p) ^^^ (b ^^^ q) := by
  rw [BitVec.xor_assoc, ← BitVec.xor_assoc b, BitVec.xor_comm b p, BitVec.xor_assoc p, ← BitVec.xor_assoc]
theorem sel_xor (a b : Bool) (p : BitVec 32) : (if (a ^^ b) = true then p else 0#32) = (if a = true then p else 0#32) ^^^ (if b = true then p else 0#32) := by
  cases a <;> cases b <;> simp
theorem stp_xor (x y : BitVec 32) : stp (x ^^^ y) = stp x ^^^ stp y := by
  unfold stp
  rw [BitVec.ushiftRight_xor_distrib, BitVec.getLsbD_xor, sel_xor, xor4]
def stps : Nat → BitVec 32 → BitVec 32
  | 0, x => x
  | n + 1, x => stps n (stp x)
theorem stps_xor : ∀ (n : Nat) (x y : BitVec 32), stps n (x ^^^ y) = stps n x ^^^ stps n y
  | 0, x, y => rfl
  | n + 1, x, y => by
    unfold stps
    rw [stp_xor, stps_xor n]
theorem stps_add (m : Nat) : ∀ (n : Nat) (x : BitVec 32), stps (n + m) x = stps m (stps n x)
  | 0, x => by simp [stps]
  | n + 1, x => by
    rw [Nat.add_right_comm]
    show stps (n + m) (stp x) = stps m (stps n (stp x))
    exact stps_add m n (stp x)
theorem stps_succ (n : Nat) (x : BitVec 32) : stps (n + 1) x = stp (stps n x) := stps_add 1 n x
theorem stp_even {x : BitVec 32} (h : x.getLsbD 0 = false) : stp x = x >>> 1 := by
  unfold stp
  rw [h]
  simp
theorem stps_high (x : BitVec 32) : ∀ n, (∀ j, j < n → x.getLsbD j = false) → stps n x = x >>> n
  | 0, _ => by simp [stps]
  | n + 1, h => by
    rw [stps_succ, stps_high x n fun j hj => h j (by omega)]
    rw [stp_even (by rw [BitVec.getLsbD_ushiftRight]; exact h (n + 0) (by omega)), ← BitVec.shiftRight_add]
theorem low_bit (n j : Nat) (hj : j < n) (hn : n ≤ 32) : (BitVec.ofNat 32 (2 ^ n - 1)).getLsbD j = true := by
  rw [BitVec.getLsbD_ofNat, Nat.testBit_two_pow_sub_one]
  simp
  omega
theorem high_bit (n j : Nat) (hj : n ≤ j) : (BitVec.ofNat 32 (2 ^ n - 1)).getLsbD j = false := by
  rw [BitVec.getLsbD_ofNat, Nat.testBit_two_pow_sub_one]
  simp
  omega
/-- n steps: what is above the lowest n bits moves down, the lowest n bits make the rest. -/
theorem stps_split (n : Nat) (hn : n ≤ 32) (x : BitVec 32) : stps n x = (x >>> n) ^^^ stps n (x &&& BitVec.ofNat 32 (2 ^ n - 1)) := by
  have e : x = (x &&& ~~~ BitVec.ofNat 32 (2 ^ n - 1)) ^^^ (x &&& BitVec.ofNat 32 (2 ^ n - 1)) := by
    apply BitVec.eq_of_getLsbD_eq
    intro i hi
    rw [BitVec.getLsbD_xor, BitVec.getLsbD_and, BitVec.getLsbD_and, BitVec.getLsbD_not]
    cases x.getLsbD i <;> cases (BitVec.ofNat 32 (2 ^ n - 1)).getLsbD i <;> simp [hi]
  conv => lhs; rw [e]
  rw [stps_xor, stps_high]
  · congr 1
    apply BitVec.eq_of_getLsbD_eq
    intro i hi
    rw [BitVec.getLsbD_ushiftRight, BitVec.getLsbD_ushiftRight, BitVec.getLsbD_and, BitVec.getLsbD_not, high_bit n (n + i) (by omega)]
    by_cases h : n + i < 32
    · simp [h]
    · have : x.getLsbD (n + i) = false := BitVec.getLsbD_of_ge _ _ (by omega)
      simp [this]
  · intro j hj
    rw [BitVec.getLsbD_and, BitVec.getLsbD_not, low_bit n j hj hn]
    simp
/-- Steps lose nothing. -/
theorem stp_inj0 {x : BitVec 32} (h : stp x = 0#32) : x = 0#32 := by
  unfold stp at h
  have hp : poly.getLsbD 31 = true := by decide
  have h31 : (stp x).getLsbD 31 = x.getLsbD 0 := by
    unfold stp
    rw [BitVec.getLsbD_xor, BitVec.getLsbD_ushiftRight, BitVec.getLsbD_of_ge x (1 + 31) (by omega)]
    cases x.getLsbD 0 <;> simp [hp]
  have h0 : x.getLsbD 0 = false := by
    rw [← h31]
    unfold stp
    rw [h]
    simp
  simp only [h0] at h
  apply BitVec.eq_of_getLsbD_eq
  intro i hi
  cases i with
  | zero => rw [h0]; simp
  | succ i =>
    have := congrArg (fun z => z.getLsbD i) h
    simp [BitVec.getLsbD_ushiftRight] at this
    rw [Nat.add_comm] at this
    simpa using this
theorem stps_inj0 : ∀ (n : Nat) {x : BitVec 32}, stps n x = 0#32 → x = 0#32
  | 0, x, h => h
  | n + 1, x, h => stp_inj0 (stps_inj0 n h)
def Bytes (l : List Int) : Prop := ∀ x ∈ l, 0 ≤ x ∧ x ≤ 255
def b32 (c : Int) : BitVec 32 := BitVec.ofNat 32 c.toNat
theorem b32_eq {c : Int} (h : 0 ≤ c ∧ c ≤ 255) : IntKind.u32.wrap c = I32 (b32 c) := by
  rw [wu32 h.1 (by omega)]
  exact I32_of h.1 (by omega)
def take8 (x : BitVec 32) (c : Int) : BitVec 32 := stps 8 (x ^^^ b32 c)
def regs (x : BitVec 32) (l : List Int) : BitVec 32 := l.foldl take8 x
def tabL : List Int := (List.range 16).map fun i => I32 (stps 4 (BitVec.ofNat 32 i))
def tabA : Arr 16 Int := ⟨tabL, rfl⟩
theorem table_at (n : Nat) : crc_Table.f (n + 20) = some tabA := by kernel_rfl
theorem table_eq {fu : Nat} (h : 20 ≤ fu) : crc_Table.f fu = some tabA := by
  obtain ⟨n, rfl⟩ : ∃ n, fu = n + 20 := ⟨fu - 20, by omega⟩
  exact table_at n
theorem tab_get : ∀ i : Fin 16, Arr.get tabA ((i : Nat) : Int) = I32 (stps 4 (BitVec.ofNat 32 (i : Nat))) := by decide +kernel
theorem nib (x : BitVec 32) : bXor .u32 (shR .u32 (I32 x) 4) (Arr.get tabA (bAnd .u32 (I32 x) 15)) = I32 (stps 4 x) := by
  have e1 : bAnd .u32 (I32 x) 15 = I32 (x &&& 15#32) := ba32 x 15#32
  have e2 : shR .u32 (I32 x) 4 = I32 (x >>> 4) := sr32 x 4 (by decide)
  have hlt : (x &&& 15#32).toNat < 16 := by
    rw [BitVec.toNat_and]
    exact Nat.lt_of_le_of_lt Nat.and_le_right (by decide)
  have e3 : Arr.get tabA (I32 (x &&& 15#32)) = I32 (stps 4 (x &&& 15#32)) := by
    have := tab_get ⟨(x &&& 15#32).toNat, hlt⟩
    simp only [BitVec.ofNat_toNat, BitVec.setWidth_eq] at this
    exact this
  rw [e1, e2, e3, bx32]
  exact congrArg I32 (stps_split 4 (by decide) x).symm
theorem nib_in (x : BitVec 32) : 0 ≤ bAnd .u32 (I32 x) 15 ∧ bAnd .u32 (I32 x) 15 < 16 := by
  have e1 : bAnd .u32 (I32 x) 15 = I32 (x &&& 15#32) := ba32 x 15#32
  have hlt : (x &&& 15#32).toNat < 16 := by
    rw [BitVec.toNat_and]
    exact Nat.lt_of_le_of_lt Nat.and_le_right (by decide)
  rw [e1]
  unfold I32
  omega
theorem ix_nat {α : Type} [Inhabited α] {l : List α} {j : Nat} (h : j < l.length) : ix l (j : Int) = l[j] := by
  simp [ix, List.getD_eq_getElem?_getD, List.getElem?_eq_getElem h]
theorem take_next {α : Type} {l : List α} {j : Nat} (h : j < l.length) : l.take (j + 1) = l.take j ++ [l[j]] := by
  rw [List.take_add_one, List.getElem?_eq_getElem h]
  rfl
theorem reg_eq {fu : Nat} {x : BitVec 32} {l : List Int} (hb : Bytes l) (hl : l.length ≤ 9000000000000000000) (hf : l.length < fu) : crc_register.f fu tabA (I32 x) l = some (I32 (regs x l)) := by
  unfold crc_register.f
  have : loopM (crc_register.s0 fu tabA l) fu (I32 x, 0) = some (I32 (regs x l)) := by
    refine loopM_run (S := fun j => (I32 (regs x (l.take j)), (j : Int))) l.length (by simp [regs]) ?_ ?_ hf
    · intro j hj
      unfold crc_register.s0
      have h1 : (j : Int) < (l.length : Int) := by omega
      have w3 : IntKind.i64.wrap ((j : Int) + 1) = ((j + 1 : Nat) : Int) := by rw [w64 (by omega) (by omega)]; omega
      have hc := hb _ (List.getElem_mem hj)
      have e1 : bXor .u32 (I32 (regs x (l.take j))) (IntKind.u32.wrap (ix l (j : Int))) = I32 (regs x (l.take j) ^^^ b32 l[j]) := by
        rw [ix_nat hj, b32_eq hc, bx32]
      have e2 : regs x (l.take (j + 1)) = stps 4 (stps 4 (regs x (l.take j) ^^^ b32 l[j])) := by
        rw [take_next hj]
        unfold regs
        rw [List.foldl_append]
        exact stps_add 4 4 _
      simp only [h1, decide_true, if_true, e1, nib, w3, e2]
      rw [if_pos ⟨by omega, trivial⟩, if_pos (nib_in _), if_pos (nib_in _)]
    · unfold crc_register.s0
      simp
  rw [this]
  rfl
def ones : BitVec 32 := 4294967295#32
def crc (l : List Int) : BitVec 32 := regs ones l ^^^ ones
theorem regs_append (x : BitVec 32) (a b : List Int) : regs x (a ++ b) = regs (regs x a) b := by
  unfold regs
  rw [List.foldl_append]
theorem sum_eq {fu : Nat} {l : List Int} (hb : Bytes l) (hl : l.length ≤ 9000000000000000000) (hf : l.length + 20 < fu) : crc_Sum.f fu [l] = some (I32 (crc l)) := by
  unfold crc_Sum.f
  rw [table_eq (by omega)]
  have : loopM (crc_Sum.s0 fu [l] tabA) fu (4294967295, 0) = some (I32 (regs ones l)) := by
    refine loopM_run (S := fun j => (if j = 0 then I32 ones else I32 (regs ones l), (j : Int))) 1 rfl ?_ ?_ (by omega)
    · intro j hj
      obtain rfl : j = 0 := by omega
      unfold crc_Sum.s0
      have e0 : ix [l] ((0 : Nat) : Int) = l := rfl
      have w3 : IntKind.i64.wrap (((0 : Nat) : Int) + 1) = ((0 + 1 : Nat) : Int) := by decide
      simp only [e0, w3, if_true, reg_eq hb hl (by omega : l.length < fu)]
      simp
    · unfold crc_Sum.s0
      simp
  simp only [Option.bind_some]
  rw [this]
  simp only [Option.bind_some]
  exact congrArg some (bx32 _ ones)
theorem rsteps_eq {fu : Nat} {x : BitVec 32} (hf : 8 < fu) : rickyardref02_Steps.f fu (I32 x) 8 = some (I32 (stps 8 x)) := by
  unfold rickyardref02_Steps.f
  have : loopM (rickyardref02_Steps.s0 fu 8) fu (I32 x, 0) = some (I32 (stps 8 x)) := by
    refine loopM_run (S := fun j => (I32 (stps j x), (j : Int))) 8 rfl ?_ ?_ hf
    · intro j hj
      unfold rickyardref02_Steps.s0
      have h1 : (j : Int) < 8 := by omega
      have w3 : IntKind.i64.wrap ((j : Int) + 1) = ((j + 1 : Nat) : Int) := by rw [w64 (by omega) (by omega)]; omega
      simp only [h1, decide_true, if_true, rstep_eq, w3, stps_succ]
      rfl
    · unfold rickyardref02_Steps.s0
      simp
  rw [this]
  rfl
theorem rsum_eq {fu : Nat} {l : List Int} (hb : Bytes l) (hl : l.length ≤ 9000000000000000000) (hf : l.length + 20 < fu) : rickyardref02_Sum.f fu l = some (I32 (crc l)) := by
  unfold rickyardref02_Sum.f
  have : loopM (rickyardref02_Sum.s0 fu l) fu (4294967295, 0) = some (I32 (regs ones l)) := by
    refine loopM_run (S := fun j => (I32 (regs ones (l.take j)), (j : Int))) l.length (by simp [regs]; rfl) ?_ ?_ (by omega)
    · intro j hj
      unfold rickyardref02_Sum.s0
      have h1 : (j : Int) < (l.length : Int) := by omega
      have w3 : IntKind.i64.wrap ((j : Int) + 1) = ((j + 1 : Nat) : Int) := by rw [w64 (by omega) (by omega)]; omega
      have hc := hb _ (List.getElem_mem hj)
      have e1 : bXor .u32 (I32 (regs ones (l.take j))) (IntKind.u32.wrap (ix l (j : Int))) = I32 (regs ones (l.take j) ^^^ b32 l[j]) := by
        rw [ix_nat hj, b32_eq hc, bx32]
      have e2 : regs ones (l.take (j + 1)) = stps 8 (regs ones (l.take j) ^^^ b32 l[j]) := by
        rw [take_next hj]
        unfold regs
        rw [List.foldl_append]
        rfl
      simp only [h1, decide_true, if_true, e1, w3, e2, rsteps_eq (by omega : 8 < fu)]
      rw [if_pos ⟨by omega, trivial⟩]
      rfl
    · unfold rickyardref02_Sum.s0
      simp
  rw [this]
  have e : IntKind.u32.wrap (4294967295 - I32 (regs ones l)) = I32 (crc l) := by
    have hlt := (regs ones l).isLt
    have h2 : (crc l).toNat = 4294967295 - (regs ones l).toNat := by
      unfold crc
      have : regs ones l ^^^ ones = ~~~ (regs ones l) := by
        apply BitVec.eq_of_getLsbD_eq
        intro i hi
        have ho : ones.getLsbD i = true := by
          have := low_bit 32 i hi (by decide)
          exact this
        rw [BitVec.getLsbD_xor, BitVec.getLsbD_not, ho]
        simp [hi]
      rw [this, BitVec.toNat_not]
    unfold I32
    rw [h2, wu32 (by omega) (by omega)]
    omega
  simp only [Option.bind_some, e]
end Go.Proofs.Ytjhajfkfhdnciaa.Pure

/- rickyard/rickyardref01.Octet: its model, and that the Go function computes it: written by gen.py. -/
set_option linter.unusedVariables false
namespace Go.Proofs.Ytjhajfkfhdnciaa
open Go Go.Xw
def rickyardref01_Octet.s0 (fu : Nat) (a1 : Int) : (Int × Int) → Option (Sum Int (Int × Int)) := fun s1 => (if (decide (s1.2 < a1)) = true then some (Sum.inr ((IntKind.u64.wrap (Int.tdiv s1.1 256)), (IntKind.i64.wrap (s1.2 + 1)))) else some (Sum.inl (s1.1)))
def rickyardref01_Octet.f (fu : Nat) (a0 : Int) (a1 : Int) : Option Int := ((loopM (rickyardref01_Octet.s0 fu a1) fu (a0, 0)).bind fun e2 => some ((IntKind.u8.wrap (Int.tmod e2 256))))
set_option maxRecDepth 100000 in
set_option maxHeartbeats 400000 in
theorem rickyardref01_Octet.ok (fu : Nat) (w : World) (a0 : Int) (a1 : Int) (r : Int) (h : rickyardref01_Octet.f fu a0 a1 = some r) :
    Calls Try.prog 132 (([.int .u64 a0, .int .i64 a1] : List Value).toArray) w (fun e w' => ∃ v, e = .returned v ∧ v = .int .u8 r ∧ Gr w w') := by
  unfold rickyardref01_Octet.f at h
  have fB : Gr w w := Fr.refl _ _
  refine calls_cw Try.func132 rfl Try.ntmps132 rfl ?_
  refine cw_seq ?_
  refine cw_region ?_
  refine ol_val (v := .int .u8 0) (by exact xr_assign rfl rfl) rfl rfl rfl ?_
  refine ol_nil ?_
  refine cw_seq ?_
  refine cw_seq ?_
  refine cw_region ?_
  refine ol_val (v := .int .i64 0) (by exact xr_assign rfl rfl) rfl rfl rfl ?_
  refine ol_nil ?_
  obtain ⟨e2, l3, h4⟩ := bs h
  refine cw_mid (fun ρ' w' => ρ' 0 = .int .u64 e2 ∧ Gr w w') ?_ ?_
  · refine cw_block ?_
    refine cw_round (fun (s1 : Int × Int) ρ' w' => ρ' 0 = .int .u64 s1.1 ∧ ρ' 1 = .int .i64 a1 ∧ ρ' 5 = .int .i64 s1.2 ∧ Gr w w') l3 ?_ ?_
    · skip
      exact ⟨rfl, rfl, rfl, fB⟩
    · rintro s1 x7 ρ5 w6 ⟨e0, e1, e5, fB⟩ h
      unfold rickyardref01_Octet.s0 at h
      refine cw_seq ?_
      refine cw_seq ?_
      refine cw_region ?_
      refine ol_val (v := .int .i64 s1.2) (by exact xr_move rfl e5) rfl rfl rfl ?_
      refine ol_val (v := .int .i64 a1) (by exact xr_move rfl e1) rfl rfl rfl ?_
      refine ol_val (v := .bool (decide (s1.2 < a1))) (by exact xr_lss rfl rfl rfl) rfl rfl rfl ?_
      refine ol_nil ?_
      rcases is h with ⟨c8, h⟩ | ⟨c8, h⟩
      · refine cw_condT rfl c8 ?_
        refine cw_skip ?_
        refine cw_seq ?_
        refine cw_block ?_
        refine cw_region ?_
        refine ol_val (v := .int .u64 s1.1) (by exact xr_move rfl e0) rfl rfl rfl ?_
        refine ol_val (v := .int .u64 (IntKind.u64.wrap (Int.tdiv s1.1 256))) (by exact xr_quo rfl rfl rfl (by decide)) rfl rfl rfl ?_
        refine ol_val (v := .int .u64 (IntKind.u64.wrap (Int.tdiv s1.1 256))) (by exact xr_assign rfl rfl) rfl rfl rfl ?_
        refine ol_nil ?_
        refine blk_i ?_
        refine cw_region ?_
        refine ol_val (v := .int .i64 s1.2) (by exact xr_move rfl e5) rfl rfl rfl ?_
        refine ol_val (v := .int .i64 (IntKind.i64.wrap (s1.2 + 1))) (by exact xr_add rfl rfl rfl) rfl rfl rfl ?_
        refine ol_val (v := .int .i64 (IntKind.i64.wrap (s1.2 + 1))) (by exact xr_assign rfl rfl) rfl rfl rfl ?_
        refine ol_nil ?_
        obtain rfl := Option.some.inj h
        refine lp_in ?_
        exact ⟨rfl, e1, rfl, fB⟩
      · refine cw_condF rfl c8 ?_
        refine cw_exit ?_
        repeat (first | with_reducible refine thn_e ?_ | with_reducible refine blk_e rfl ?_)
        obtain rfl := Option.some.inj h
        refine lp_exit ?_
        rintro rfl
        refine thn_x ?_
        exact ⟨e0, fB⟩
  · rintro ρ9 w10 ⟨e0, fB⟩
    have h := h4
    refine cw_seq ?_
    refine cw_region ?_
    refine ol_val (v := .int .u64 e2) (by exact xr_move rfl e0) rfl rfl rfl ?_
    refine ol_val (v := .int .u64 (Int.tmod e2 256)) (by exact xr_rem rfl rfl rfl (by decide)) rfl rfl rfl ?_
    refine ol_val (v := .int .u8 (IntKind.u8.wrap (Int.tmod e2 256))) (by exact xr_conv rfl Try.underlying129 Try.underlying5 rfl) rfl rfl rfl ?_
    refine ol_val (v := .int .u8 (IntKind.u8.wrap (Int.tmod e2 256))) (by exact xr_assign rfl rfl) rfl rfl rfl ?_
    refine ol_nil ?_
    refine cw_ret ?_
    repeat (first | with_reducible refine thn_r ?_ | with_reducible refine blk_r ?_)
    obtain rfl := Option.some.inj h
    refine fin_ret1 Try.results132 rfl ?_
    exact ⟨_, rfl, rfl, fB⟩
end Go.Proofs.Ytjhajfkfhdnciaa

/- rickyard/rickyardref01.Lay: its model, and that the Go function computes it: written by gen.py. -/
set_option linter.unusedVariables false
namespace Go.Proofs.Ytjhajfkfhdnciaa
open Go Go.Xw
def rickyardref01_Lay.s0 (fu : Nat) (a0 : Int) (a1 : Int) : ((List UInt8) × Int) → Option (Sum (List UInt8) ((List UInt8) × Int)) := fun s1 => (if (decide (s1.2 < a1)) = true then ((rickyardref01_Octet.f fu a0 s1.2 : Option Int).bind fun t9 => (if List.length s1.1 + List.length (List.map toB [t9]) ≤ LIM then some (Sum.inr ((s1.1 ++ (List.map toB [t9])), (IntKind.i64.wrap (s1.2 + 1)))) else none)) else some (Sum.inl (s1.1)))
def rickyardref01_Lay.f (fu : Nat) (a0 : Int) (a1 : Int) : Option (List UInt8) := ((loopM (rickyardref01_Lay.s0 fu a0 a1) fu ([], 0)).bind fun e2 => some (e2))
set_option maxRecDepth 100000 in
set_option maxHeartbeats 400000 in
theorem rickyardref01_Lay.ok (fu : Nat) (w : World) (a0 : Int) (a1 : Int) (r : (List UInt8)) (h : rickyardref01_Lay.f fu a0 a1 = some r) :
    Calls Try.prog 99 (([.int .u64 a0, .int .i64 a1] : List Value).toArray) w (fun e w' => ∃ v, e = .returned v ∧ v = sv r ∧ Gr w w') := by
  unfold rickyardref01_Lay.f at h
  have fB : Gr w w := Fr.refl _ _
  refine calls_cw Try.func99 rfl Try.ntmps99 rfl ?_
  refine cw_seq ?_
  refine cw_region ?_
  refine ol_val (v := sv []) (by exact xr_assign rfl rfl) rfl rfl rfl ?_
  refine ol_nil ?_
  refine cw_seq ?_
  refine cw_region ?_
  refine ol_val (v := sv []) (by exact xr_assign rfl rfl) rfl rfl rfl ?_
  refine ol_nil ?_
  refine cw_seq ?_
  refine cw_seq ?_
  refine cw_region ?_
  refine ol_val (v := .int .i64 0) (by exact xr_assign rfl rfl) rfl rfl rfl ?_
  refine ol_nil ?_
  obtain ⟨e2, l3, h4⟩ := bs h
  refine cw_mid (fun ρ' w' => ρ' 5 = sv e2 ∧ Gr w w') ?_ ?_
  · refine cw_block ?_
    refine cw_round (fun (s1 : (List UInt8) × Int) ρ' w' => ρ' 0 = .int .u64 a0 ∧ ρ' 1 = .int .i64 a1 ∧ ρ' 5 = sv s1.1 ∧ ρ' 6 = .int .i64 s1.2 ∧ Gr w w') l3 ?_ ?_
    · skip
      exact ⟨rfl, rfl, rfl, rfl, fB⟩
    · rintro s1 x7 ρ5 w6 ⟨e0, e1, e5, e6, fB⟩ h
      unfold rickyardref01_Lay.s0 at h
      refine cw_seq ?_
      refine cw_seq ?_
      refine cw_region ?_
      refine ol_val (v := .int .i64 s1.2) (by exact xr_move rfl e6) rfl rfl rfl ?_
      refine ol_val (v := .int .i64 a1) (by exact xr_move rfl e1) rfl rfl rfl ?_
      refine ol_val (v := .bool (decide (s1.2 < a1))) (by exact xr_lss rfl rfl rfl) rfl rfl rfl ?_
      refine ol_nil ?_
      rcases is h with ⟨c8, h⟩ | ⟨c8, h⟩
      · refine cw_condT rfl c8 ?_
        refine cw_skip ?_
        refine cw_seq ?_
        refine cw_block ?_
        refine cw_region ?_
        refine ol_val (v := sv s1.1) (by exact xr_move rfl e5) rfl rfl rfl ?_
        refine ol_val (v := .int .u64 a0) (by exact xr_move rfl e0) rfl rfl rfl ?_
        refine ol_val (v := .int .i64 s1.2) (by exact xr_move rfl e6) rfl rfl rfl ?_
        obtain ⟨t9, k10, h⟩ := bs h
        refine ol_op (by exact opv_call rfl cal132 (ac rfl (ac rfl an)) (rickyardref01_Octet.ok fu _ a0 s1.2 _ k10)) rfl rfl rfl ?_
        rintro _ w12 ⟨rfl, q11⟩
        have fB := fB.gr q11
        refine ol_op (by exact opv_buildSlice (K := (kI .u8)) (xs := [t9]) (vals := [.int .u8 t9]) rfl Try.underlying22 el5 rfl rfl ⟨rfl, rfl, trivial⟩ rfl rfl rfl fB.size) rfl rfl rfl ?_
        rintro v13 w18 ⟨o15, q14, z16⟩
        have fB := fB.gr q14
        refine ol_val (v := sv (List.map toB [t9])) (by exact xr_toStr rfl Try.underlying22 Try.underlying5 Try.underlying9 rfl o15.rd) rfl rfl rfl ?_
        obtain ⟨g19, h⟩ := gs h
        refine ol_val (v := sv (s1.1 ++ (List.map toB [t9]))) (by exact xr_addStr rfl rfl rfl g19) rfl rfl rfl ?_
        refine ol_val (v := sv (s1.1 ++ (List.map toB [t9]))) (by exact xr_assign rfl rfl) rfl rfl rfl ?_
        refine ol_nil ?_
        refine blk_i ?_
        refine cw_region ?_
        refine ol_val (v := .int .i64 s1.2) (by exact xr_move rfl e6) rfl rfl rfl ?_
        refine ol_val (v := .int .i64 (IntKind.i64.wrap (s1.2 + 1))) (by exact xr_add rfl rfl rfl) rfl rfl rfl ?_
        refine ol_val (v := .int .i64 (IntKind.i64.wrap (s1.2 + 1))) (by exact xr_assign rfl rfl) rfl rfl rfl ?_
        refine ol_nil ?_
        obtain rfl := Option.some.inj h
        refine lp_in ?_
        exact ⟨e0, e1, rfl, rfl, fB⟩
      · refine cw_condF rfl c8 ?_
        refine cw_exit ?_
        repeat (first | with_reducible refine thn_e ?_ | with_reducible refine blk_e rfl ?_)
        obtain rfl := Option.some.inj h
        refine lp_exit ?_
        rintro rfl
        refine thn_x ?_
        exact ⟨e5, fB⟩
  · rintro ρ20 w21 ⟨e5, fB⟩
    have h := h4
    refine cw_seq ?_
    refine cw_region ?_
    refine ol_val (v := sv e2) (by exact xr_move rfl e5) rfl rfl rfl ?_
    refine ol_val (v := sv e2) (by exact xr_assign rfl rfl) rfl rfl rfl ?_
    refine ol_nil ?_
    refine cw_ret ?_
    repeat (first | with_reducible refine thn_r ?_ | with_reducible refine blk_r ?_)
    obtain rfl := Option.some.inj h
    refine fin_ret1 Try.results99 rfl ?_
    exact ⟨_, rfl, rfl, fB⟩
end Go.Proofs.Ytjhajfkfhdnciaa

/- Numbers as octets, in plain words. -/
set_option linter.unusedVariables false
set_option linter.unusedSimpArgs false
namespace Go.Proofs.Ytjhajfkfhdnciaa.Pure
open Go Go.Xw
def lay (v n : Nat) : List Int := (List.range n).map fun i => ((v / 256 ^ i % 256 : Nat) : Int)
theorem lay_len (v n : Nat) : (lay v n).length = n := by simp [lay]
theorem lay_succ (v n : Nat) : lay v (n + 1) = lay v n ++ [((v / 256 ^ n % 256 : Nat) : Int)] := by
  simp [lay, List.range_succ]
theorem lay_bytes (v n : Nat) : Bytes (lay v n) := by
  intro x hx
  simp only [lay, List.mem_map] at hx
  obtain ⟨i, _, rfl⟩ := hx
  omega
theorem wu8_mod {n : Nat} : IntKind.u8.wrap (n : Int) = ((n % 256 : Nat) : Int) := by
  unfold IntKind.wrap
  simp only [IntKind.signed, IntKind.bits]
  simp
theorem shr64 (n : Nat) : shR .u64 (n : Int) 8 = ((n / 256 : Nat) : Int) := by
  unfold shR
  show Int.fdiv (n : Int) (2 ^ min ((8 : Int).toNat) 64) = _
  rw [show (2 : Int) ^ min ((8 : Int).toNat) 64 = 256 from by decide, Int.fdiv_eq_ediv_of_nonneg _ (by decide)]
  omega
theorem wn64 (q : Nat) (h : q < 18446744073709551616) : IntKind.u64.wrap (q : Int) = (q : Int) := wu64 (by omega) (by omega)
theorem tdn (q : Nat) : Int.tdiv (q : Int) 256 = ((q / 256 : Nat) : Int) := by
  rw [Int.tdiv_eq_ediv_of_nonneg (by omega)]
  omega
theorem tmn (q : Nat) : Int.tmod (q : Int) 256 = ((q % 256 : Nat) : Int) := by
  rw [Int.tmod_eq_emod_of_nonneg (by omega)]
  omega
theorem wn8 (q : Nat) : IntKind.u8.wrap ((q % 256 : Nat) : Int) = ((q % 256 : Nat) : Int) := wu8 (by omega) (by omega)
theorem olay_eq {fu v n : Nat} (hn : n ≤ 8) (hf : n < fu) : octet_Lay.f fu (v : Int) (n : Int) = some (lay v n) := by
  unfold octet_Lay.f
  have h0 : ¬ ((n : Int) < 0) := by omega
  have h8 : ¬ ((n : Int) > 8) := by omega
  have hL : Int.toNat (n : Int) ≤ LIM := by
    have : (8 : Nat) ≤ LIM := by decide
    omega
  simp only [h0, h8, decide_false, Bool.false_eq_true, if_false]
  rw [if_pos ⟨by omega, hL⟩]
  have : loopM (octet_Lay.s0 fu (n : Int)) fu ((v : Int), 0, List.replicate (Int.toNat (n : Int)) (0 : Int)) = some (lay v n) := by
    refine loopM_run (S := fun j => (((v / 256 ^ j : Nat) : Int), (j : Int), lay v j ++ List.replicate (n - j) (0 : Int))) n (by simp [lay]) ?_ ?_ hf
    · intro j hj
      unfold octet_Lay.s0
      have w3 : IntKind.i64.wrap ((j : Int) + 1) = ((j + 1 : Nat) : Int) := by rw [w64 (by omega) (by omega)]; omega
      have e1 : (List.replicate (Int.toNat (n : Int)) (0 : Int)).length = n := by simp
      have e2 : (lay v j ++ List.replicate (n - j) (0 : Int)).length = n := by rw [List.length_append, lay_len, List.length_replicate]; omega
      have e3 : List.set (lay v j ++ List.replicate (n - j) (0 : Int)) (Int.toNat (j : Int)) (IntKind.u8.wrap ((v / 256 ^ j : Nat) : Int)) = lay v (j + 1) ++ List.replicate (n - (j + 1)) (0 : Int) := by
        rw [Int.toNat_natCast, List.set_append, if_neg (by rw [lay_len]; omega), lay_len, Nat.sub_self, wu8_mod, lay_succ, show n - j = n - (j + 1) + 1 from by omega, List.replicate_succ]
        simp
      have e4 : shR .u64 ((v / 256 ^ j : Nat) : Int) 8 = ((v / 256 ^ (j + 1) : Nat) : Int) := by
        rw [shr64, Nat.div_div_eq_div_mul, Nat.pow_succ]
      have h1 : (j : Int) < (n : Int) := by omega
      simp only [e1, e2, e3, e4, w3, h1, decide_true, if_true]
      rw [if_pos ⟨by omega, trivial⟩]
    · unfold octet_Lay.s0
      simp
  rw [this]
  rfl
theorem roctet_eq {fu v i : Nat} (hv : v < 18446744073709551616) (hi : i ≤ 1000) (hf : i < fu) : rickyardref01_Octet.f fu (v : Int) (i : Int) = some ((v / 256 ^ i % 256 : Nat) : Int) := by
  unfold rickyardref01_Octet.f
  have : loopM (rickyardref01_Octet.s0 fu (i : Int)) fu ((v : Int), 0) = some ((v / 256 ^ i : Nat) : Int) := by
    refine loopM_run (S := fun j => (((v / 256 ^ j : Nat) : Int), (j : Int))) i (by simp) ?_ ?_ hf
    · intro j hj
      unfold rickyardref01_Octet.s0
      have w3 : IntKind.i64.wrap ((j : Int) + 1) = ((j + 1 : Nat) : Int) := by rw [w64 (by omega) (by omega)]; omega
      have h1 : (j : Int) < (i : Int) := by omega
      have hle : v / 256 ^ j ≤ v := Nat.div_le_self _ _
      have e1 : Int.tdiv ((v / 256 ^ j : Nat) : Int) 256 = ((v / 256 ^ (j + 1) : Nat) : Int) := by
        rw [tdn, Nat.pow_succ, ← Nat.div_div_eq_div_mul]
      have hle2 : v / 256 ^ (j + 1) ≤ v := Nat.div_le_self _ _
      have e2 : IntKind.u64.wrap ((v / 256 ^ (j + 1) : Nat) : Int) = ((v / 256 ^ (j + 1) : Nat) : Int) := wn64 _ (Nat.lt_of_le_of_lt hle2 hv)
      simp only [h1, decide_true, if_true, e1, e2, w3]
    · unfold rickyardref01_Octet.s0
      simp
  rw [this]
  simp only [Option.bind_some, tmn, wn8]
theorem rlay_eq {fu v n : Nat} (hv : v < 18446744073709551616) (hn : n ≤ 8) (hf : n < fu) : rickyardref01_Lay.f fu (v : Int) (n : Int) = some ((lay v n).map toB) := by
  unfold rickyardref01_Lay.f
  have : loopM (rickyardref01_Lay.s0 fu (v : Int) (n : Int)) fu ([], 0) = some ((lay v n).map toB) := by
    refine loopM_run (S := fun j => ((lay v j).map toB, (j : Int))) n (by simp [lay]) ?_ ?_ hf
    · intro j hj
      unfold rickyardref01_Lay.s0
      have w3 : IntKind.i64.wrap ((j : Int) + 1) = ((j + 1 : Nat) : Int) := by rw [w64 (by omega) (by omega)]; omega
      have h1 : (j : Int) < (n : Int) := by omega
      have hlim : ((lay v j).map toB).length + ([((v / 256 ^ j % 256 : Nat) : Int)].map toB).length ≤ LIM := by
        have : (9 : Nat) ≤ LIM := by decide
        simp only [List.length_map, lay_len, List.length_cons, List.length_nil]
        omega
      simp only [h1, decide_true, if_true, roctet_eq (fu := fu) hv (by omega : j ≤ 1000) (by omega), Option.bind_some, w3]
      rw [if_pos hlim, lay_succ, List.map_append]
    · unfold rickyardref01_Lay.s0
      simp
  rw [this]
  rfl
def num : List Int → Nat
  | [] => 0
  | c :: l => c.toNat + 256 * num l
theorem num_append : ∀ (a b : List Int), num (a ++ b) = num a + 256 ^ a.length * num b
  | [], b => by simp [num]
  | c :: a, b => by
    simp only [List.cons_append, num, num_append a b, List.length_cons, Nat.pow_succ]
    rw [Nat.mul_add, Nat.add_assoc, ← Nat.mul_assoc, Nat.mul_comm 256 (256 ^ a.length)]
theorem num_lt : ∀ {l : List Int}, Bytes l → num l < 256 ^ l.length
  | [], _ => by simp [num]
  | c :: l, h => by
    have h1 := h c (by simp)
    have h2 := num_lt (l := l) fun x hx => h x (by simp [hx])
    simp only [num, List.length_cons, Nat.pow_succ]
    omega
theorem lay_num : ∀ {l : List Int}, Bytes l → lay (num l) l.length = l
  | [], _ => rfl
  | c :: l, h => by
    have h1 := h c (by simp)
    have h2 := lay_num (l := l) fun x hx => h x (by simp [hx])
    have e : lay (num (c :: l)) (l.length + 1) = c :: lay (num l) l.length := by
      unfold lay
      rw [List.range_succ_eq_map, List.map_cons, List.map_map]
      congr 1
      · simp only [num, Nat.pow_zero, Nat.div_one]
        omega
      · apply List.map_congr_left
        intro i hi
        simp only [Function.comp, num, Nat.succ_eq_add_one, Nat.pow_succ]
        rw [Nat.mul_comm (256 ^ i) 256, ← Nat.div_div_eq_div_mul, show (c.toNat + 256 * num l) / 256 = num l from by omega]
    rw [List.length_cons, e, h2]
theorem num_lay (v : Nat) : ∀ n, num (lay v n) = v % 256 ^ n
  | 0 => by simp [lay, num, Nat.mod_one]
  | n + 1 => by
    rw [lay_succ, num_append, num_lay v n, lay_len]
    simp only [num]
    rw [Int.toNat_natCast, Nat.mul_zero, Nat.add_zero, Nat.pow_succ, Nat.mod_mul]
theorem or_add (a c j : Nat) (ha : a < 256 ^ j) : a ||| c * 256 ^ j = a + 256 ^ j * c := by
  have e : 256 ^ j = 2 ^ (8 * j) := by rw [Nat.pow_mul]
  rw [e] at ha ⊢
  rw [Nat.mul_comm c, Nat.or_comm, ← Nat.two_pow_add_eq_or_of_lt ha, Nat.add_comm]
theorem read_eq {fu : Nat} {l : List Int} (hb : Bytes l) (hl : l.length ≤ 8) (hf : l.length < fu) : octet_Read.f fu l = some ((num l : Nat) : Int) := by
  unfold octet_Read.f
  have hm : mnI (l.length : Int) 8 = (l.length : Int) := by
    unfold mnI
    split <;> omega
  have hc : cut l 0 (l.length : Int) = l := by
    unfold cut
    simp
  rw [hm, if_pos ⟨by omega, Int.le_refl _⟩]
  have : loopM (octet_Read.s0 fu l) fu (0, 0) = some ((num l : Nat) : Int) := by
    refine loopM_run (S := fun j => (((num (l.take j) : Nat) : Int), (j : Int))) l.length (by simp [num]) ?_ ?_ hf
    · intro j hj
      unfold octet_Read.s0
      rw [hm, hc]
      have h1 : (j : Int) < (l.length : Int) := by omega
      have w3 : IntKind.i64.wrap ((j : Int) + 1) = ((j + 1 : Nat) : Int) := by rw [w64 (by omega) (by omega)]; omega
      have w4 : IntKind.i64.wrap (8 * (j : Int)) = ((8 * j : Nat) : Int) := by rw [w64 (by omega) (by omega)]; omega
      have hcb := hb _ (List.getElem_mem hj)
      obtain ⟨c, hc'⟩ : ∃ c : Nat, l[j] = (c : Int) := ⟨l[j].toNat, by omega⟩
      have hlt : num (l.take j) < 256 ^ j := by
        have := num_lt (l := l.take j) fun x hx => hb x (List.mem_of_mem_take hx)
        rwa [List.length_take, Nat.min_eq_left (by omega)] at this
      have e256 : (256 : Nat) ^ j * 256 ≤ 256 ^ 8 := by
        rw [← Nat.pow_succ]
        exact Nat.pow_le_pow_right (by decide) (by omega)
      have e8 : (256 : Nat) ^ 8 = 18446744073709551616 := by decide
      have hcj : c * 256 ^ j < 18446744073709551616 := by
        have : c * 256 ^ j ≤ 255 * 256 ^ j := Nat.mul_le_mul_right _ (by omega)
        have : 0 < 256 ^ j := Nat.pow_pos (by decide)
        omega
      have e1 : shL .u64 (IntKind.u64.wrap (ix l (j : Int))) ((8 * j : Nat) : Int) = ((c * 256 ^ j : Nat) : Int) := by
        rw [ix_nat hj, hc', wu64 (by omega) (by omega)]
        unfold shL
        rw [Int.toNat_natCast, Nat.min_eq_left (by show 8 * j ≤ 64; omega)]
        have : (c : Int) * 2 ^ (8 * j) = ((c * 256 ^ j : Nat) : Int) := by
          have h256 : ((256 ^ j : Nat) : Int) = 2 ^ (8 * j) := by
            rw [Int.natCast_pow, Int.pow_mul]
            exact congrArg (fun z : Int => z ^ j) (by decide : ((256 : Nat) : Int) = 2 ^ 8)
          rw [Int.natCast_mul, h256]
        rw [this, wu64 (by omega) (by omega)]
      have e2 : bOr .u64 ((num (l.take j) : Nat) : Int) ((c * 256 ^ j : Nat) : Int) = ((num (l.take (j + 1)) : Nat) : Int) := by
        unfold bOr
        show IntKind.u64.wrap (((BitVec.ofInt 64 ((num (l.take j) : Nat) : Int) ||| BitVec.ofInt 64 ((c * 256 ^ j : Nat) : Int)).toNat : Nat) : Int) = _
        rw [BitVec.ofInt_natCast, BitVec.ofInt_natCast, BitVec.toNat_or, BitVec.toNat_ofNat, BitVec.toNat_ofNat, Nat.mod_eq_of_lt (by omega), Nat.mod_eq_of_lt (by omega), or_add _ _ _ hlt, take_next hj, num_append]
        have hs : num (l.take j) + 256 ^ j * c < 18446744073709551616 := by
          rw [Nat.mul_comm]
          have : c * 256 ^ j ≤ 255 * 256 ^ j := Nat.mul_le_mul_right _ (by omega)
          omega
        rw [wu64 (by omega) (by omega)]
        simp only [num, hc', Int.toNat_natCast, List.length_take, Nat.min_eq_left (by omega : j ≤ l.length), Nat.mul_zero, Nat.add_zero]
      simp only [h1, decide_true, if_true, w4, e1, e2, w3]
      rw [if_pos ⟨by omega, trivial⟩, if_pos (by omega)]
    · unfold octet_Read.s0
      rw [hm, hc]
      simp
  rw [this]
  rfl
end Go.Proofs.Ytjhajfkfhdnciaa.Pure

/- rickyard/block.Kind: its model, and that the Go function computes it: written by gen.py. -/
set_option linter.unusedVariables false
namespace Go.Proofs.Ytjhajfkfhdnciaa
open Go Go.Xw
def block_Kind.f (fu : Nat) (a0 : List Int) : Option Int := ((block_right.f fu a0 : Option Bool).bind fun t1 => (if (!t1) = true then some (0) else (if (4 : Int) < (List.length a0 : Int) then some ((IntKind.i64.wrap (ix a0 4))) else none)))
set_option maxRecDepth 100000 in
set_option maxHeartbeats 400000 in
theorem block_Kind.ok (fu : Nat) (w : World) (a0 : List Int) (V0_0 : Value) (R0_0 : Rd (kI .u8) w V0_0 a0) (r : Int) (h : block_Kind.f fu a0 = some r) :
    Calls Try.prog 33 (([V0_0] : List Value).toArray) w (fun e w' => ∃ v, e = .returned v ∧ v = .int .i64 r ∧ Gr w w') := by
  unfold block_Kind.f at h
  have fB : Gr w w := Fr.refl _ _
  refine calls_cw Try.func33 rfl Try.ntmps33 rfl ?_
  refine cw_seq ?_
  refine cw_region ?_
  refine ol_val (v := .int .i64 0) (by exact xr_assign rfl rfl) rfl rfl rfl ?_
  refine ol_nil ?_
  refine cw_seq ?_
  refine cw_seq ?_
  refine cw_region ?_
  refine ol_val (v := V0_0) (by exact xr_move rfl rfl) rfl rfl rfl ?_
  obtain ⟨t1, k2, h⟩ := bs h
  refine ol_op (by exact opv_call rfl cal97 (ac rfl an) (block_right.ok fu _ a0 V0_0 (R0_0.gr fB) _ k2)) rfl rfl rfl ?_
  rintro _ w4 ⟨rfl, q3⟩
  have fB := fB.gr q3
  refine ol_val (v := .bool (!t1)) (by exact xr_not rfl rfl) rfl rfl rfl ?_
  refine ol_nil ?_
  rcases is h with ⟨c5, h⟩ | ⟨c5, h⟩
  · refine cw_condT rfl c5 ?_
    refine cw_seq ?_
    refine cw_region ?_
    refine ol_val (v := .int .i64 0) (by exact xr_assign rfl rfl) rfl rfl rfl ?_
    refine ol_nil ?_
    refine cw_ret ?_
    repeat (first | with_reducible refine thn_r ?_ | with_reducible refine blk_r ?_)
    obtain rfl := Option.some.inj h
    refine fin_ret1 Try.results33 rfl ?_
    exact ⟨_, rfl, rfl, fB⟩
  · refine cw_condF rfl c5 ?_
    refine cw_skip ?_
    refine cw_seq ?_
    refine cw_region ?_
    refine ol_val (v := V0_0) (by exact xr_move rfl rfl) rfl rfl rfl ?_
    obtain ⟨g6, h⟩ := gs h
    refine ol_val (v := .pointer (some ⟨(sb V0_0), so V0_0 + Int.toNat 4 * 1, none⟩)) (by exact xr_indexR (K := (kI .u8)) (v := V0_0) rfl Try.underlying22 sz5 rfl (R0_0.gr fB) rfl (by decide) g6) rfl rfl rfl ?_
    refine ol_val (v := .int .u8 (ix a0 4)) (by exact xr_load1 (v := .int .u8 (ix a0 4)) rfl ag5 rfl ((R0_0.gr fB).elem (by decide) g6)) rfl rfl rfl ?_
    refine ol_val (v := .int .i64 (IntKind.i64.wrap (ix a0 4))) (by exact xr_conv rfl Try.underlying5 Try.underlying3 rfl) rfl rfl rfl ?_
    refine ol_val (v := .int .i64 (IntKind.i64.wrap (ix a0 4))) (by exact xr_assign rfl rfl) rfl rfl rfl ?_
    refine ol_nil ?_
    refine cw_ret ?_
    repeat (first | with_reducible refine thn_r ?_ | with_reducible refine blk_r ?_)
    obtain rfl := Option.some.inj h
    refine fin_ret1 Try.results33 rfl ?_
    exact ⟨_, rfl, rfl, fB⟩
end Go.Proofs.Ytjhajfkfhdnciaa

/- rickyard/rickyardref07.Fill: its model, and that the Go function computes it: written by gen.py. -/
set_option linter.unusedVariables false
namespace Go.Proofs.Ytjhajfkfhdnciaa
open Go Go.Xw
def rickyardref07_Fill.f (fu : Nat) (a0 : List UInt8) (a1 : Int) : Option (List UInt8) := (if 0 ≤ (mxI (IntKind.i64.wrap (a1 - (List.length a0 : Int))) 0) ∧ Int.toNat (mxI (IntKind.i64.wrap (a1 - (List.length a0 : Int))) 0) ≤ LIM then (if List.length a0 + List.length (List.map toB (List.replicate (Int.toNat (mxI (IntKind.i64.wrap (a1 - (List.length a0 : Int))) 0)) (0 : Int))) ≤ LIM then some ((a0 ++ (List.map toB (List.replicate (Int.toNat (mxI (IntKind.i64.wrap (a1 - (List.length a0 : Int))) 0)) (0 : Int))))) else none) else none)
set_option maxRecDepth 100000 in
set_option maxHeartbeats 400000 in
theorem rickyardref07_Fill.ok (fu : Nat) (w : World) (a0 : List UInt8) (a1 : Int) (r : (List UInt8)) (h : rickyardref07_Fill.f fu a0 a1 = some r) :
    Calls Try.prog 31 (([sv a0, .int .i64 a1] : List Value).toArray) w (fun e w' => ∃ v, e = .returned v ∧ v = sv r ∧ Gr w w') := by
  unfold rickyardref07_Fill.f at h
  have fB : Gr w w := Fr.refl _ _
  refine calls_cw Try.func31 rfl Try.ntmps31 rfl ?_
  refine cw_seq ?_
  refine cw_region ?_
  refine ol_val (v := sv []) (by exact xr_assign rfl rfl) rfl rfl rfl ?_
  refine ol_nil ?_
  refine cw_seq ?_
  refine cw_region ?_
  refine ol_val (v := sv a0) (by exact xr_move rfl rfl) rfl rfl rfl ?_
  refine ol_val (v := .int .i64 a1) (by exact xr_move rfl rfl) rfl rfl rfl ?_
  refine ol_val (v := sv a0) (by exact xr_move rfl rfl) rfl rfl rfl ?_
  refine ol_val (v := .int .i64 (List.length a0 : Int)) (by exact xr_lenStr rfl Try.underlying9 rfl) rfl rfl rfl ?_
  refine ol_val (v := .int .i64 (IntKind.i64.wrap (a1 - (List.length a0 : Int)))) (by exact xr_sub rfl rfl rfl) rfl rfl rfl ?_
  refine ol_val (v := .int .i64 (mxI (IntKind.i64.wrap (a1 - (List.length a0 : Int))) 0)) (by exact xr_max2 rfl rfl rfl) rfl rfl rfl ?_
  obtain ⟨g1, h⟩ := gs h
  refine ol_op (by exact opv_make (K := (kI .u8)) (z := (0 : Int)) rfl Try.underlying22 el5 rfl rfl rfl g1.1 g1.2 rfl fB.size) rfl rfl rfl ?_
  rintro v2 w7 ⟨o4, q3, z5⟩
  have fB := fB.gr q3
  refine ol_val (v := sv (List.map toB (List.replicate (Int.toNat (mxI (IntKind.i64.wrap (a1 - (List.length a0 : Int))) 0)) (0 : Int)))) (by exact xr_toStr rfl Try.underlying22 Try.underlying5 Try.underlying9 rfl o4.rd) rfl rfl rfl ?_
  obtain ⟨g8, h⟩ := gs h
  refine ol_val (v := sv (a0 ++ (List.map toB (List.replicate (Int.toNat (mxI (IntKind.i64.wrap (a1 - (List.length a0 : Int))) 0)) (0 : Int))))) (by exact xr_addStr rfl rfl rfl g8) rfl rfl rfl ?_
  refine ol_val (v := sv (a0 ++ (List.map toB (List.replicate (Int.toNat (mxI (IntKind.i64.wrap (a1 - (List.length a0 : Int))) 0)) (0 : Int))))) (by exact xr_assign rfl rfl) rfl rfl rfl ?_
  refine ol_nil ?_
  refine cw_ret ?_
  repeat (first | with_reducible refine thn_r ?_ | with_reducible refine blk_r ?_)
  obtain rfl := Option.some.inj h
  refine fin_ret1 Try.results31 rfl ?_
  exact ⟨_, rfl, rfl, fB⟩
end Go.Proofs.Ytjhajfkfhdnciaa

/- rickyard/rickyardref07.Seal: its model, and that the Go function computes it: written by gen.py. -/
set_option linter.unusedVariables false
namespace Go.Proofs.Ytjhajfkfhdnciaa
open Go Go.Xw
def rickyardref07_Seal.f (fu : Nat) (a0 : Int) (a1 : Int) (a2 : List UInt8) : Option (List UInt8) := ((rickyardref07_Fill.f fu a2 56 : Option (List UInt8)).bind fun t6 => (if List.length (List.map toB [(IntKind.u8.wrap a0), (IntKind.u8.wrap a1), 0, 0]) + List.length t6 ≤ LIM then ((rickyardref02_Sum.f fu (List.map ofB ((List.map toB [(IntKind.u8.wrap a0), (IntKind.u8.wrap a1), 0, 0]) ++ t6)) : Option Int).bind fun t17 => ((rickyardref01_Lay.f fu (IntKind.u64.wrap t17) 4 : Option (List UInt8)).bind fun t21 => (if List.length t21 + List.length ((List.map toB [(IntKind.u8.wrap a0), (IntKind.u8.wrap a1), 0, 0]) ++ t6) ≤ LIM then some ((t21 ++ ((List.map toB [(IntKind.u8.wrap a0), (IntKind.u8.wrap a1), 0, 0]) ++ t6))) else none))) else none))
set_option maxRecDepth 100000 in
set_option maxHeartbeats 400000 in
theorem rickyardref07_Seal.ok (fu : Nat) (w : World) (a0 : Int) (a1 : Int) (a2 : List UInt8) (r : (List UInt8)) (h : rickyardref07_Seal.f fu a0 a1 a2 = some r) :
    Calls Try.prog 30 (([.int .i64 a0, .int .i64 a1, sv a2] : List Value).toArray) w (fun e w' => ∃ v, e = .returned v ∧ v = sv r ∧ Gr w w') := by
  unfold rickyardref07_Seal.f at h
  have fB : Gr w w := Fr.refl _ _
  refine calls_cw Try.func30 rfl Try.ntmps30 rfl ?_
  refine cw_seq ?_
  refine cw_region ?_
  refine ol_val (v := sv []) (by exact xr_assign rfl rfl) rfl rfl rfl ?_
  refine ol_nil ?_
  refine cw_seq ?_
  obtain ⟨t6, k7, h⟩ := bs h
  refine cw_drawL 8 [fun vz wz => vz = (.int .i64 a0 : Value), fun vz wz => vz = (.int .u8 (IntKind.u8.wrap a0) : Value), fun vz wz => vz = (.int .i64 a1 : Value), fun vz wz => vz = (.int .u8 (IntKind.u8.wrap a1) : Value), fun vz wz => ∃ v1 : Value, ∃ o3 : Own (kI .u8) 5 wz w.heap.size v1 [(IntKind.u8.wrap a0), (IntKind.u8.wrap a1), 0, 0], vz = (v1 : Value), fun vz wz => vz = (sv (List.map toB [(IntKind.u8.wrap a0), (IntKind.u8.wrap a1), 0, 0]) : Value), fun vz wz => vz = (sv a2 : Value), fun vz wz => vz = (sv t6 : Value)] mo rfl ⟨fun _ _ _ h _ => h, fun _ _ _ h _ => h, fun _ _ _ h _ => h, fun _ _ _ h _ => h, fun _ _ _ ⟨v1, o3, h⟩ q => ⟨v1, o3.gr q, h⟩, fun _ _ _ h _ => h, fun _ _ _ h _ => h, fun _ _ _ h _ => h, trivial⟩ ?_ ?_
  · refine ⟨?_, ?_, ?_, ?_, ?_, ?_, ?_, ?_, trivial⟩
    · intro ρz wz hz hk hd
      exact sk_val (v := .int .i64 a0) (by exact xr_move rfl ((hk 0 rfl).trans rfl)) rfl rfl
    · intro ρz wz hz hk hd
      have d8 := hd 0 rfl 8 rfl
      exact sk_val (v := .int .u8 (IntKind.u8.wrap a0)) (by exact xr_conv rfl Try.underlying3 Try.underlying5 d8) rfl rfl
    · intro ρz wz hz hk hd
      exact sk_val (v := .int .i64 a1) (by exact xr_move rfl ((hk 1 rfl).trans rfl)) rfl rfl
    · intro ρz wz hz hk hd
      have d10 := hd 2 rfl 10 rfl
      exact sk_val (v := .int .u8 (IntKind.u8.wrap a1)) (by exact xr_conv rfl Try.underlying3 Try.underlying5 d10) rfl rfl
    · intro ρz wz hz hk hd
      have d9 := hd 1 rfl 9 rfl
      have d11 := hd 3 rfl 11 rfl
      refine sk_op (by exact opv_buildSlice (K := (kI .u8)) (xs := [(IntKind.u8.wrap a0), (IntKind.u8.wrap a1), 0, 0]) (vals := [.int .u8 (IntKind.u8.wrap a0), .int .u8 (IntKind.u8.wrap a1), .int .u8 0, .int .u8 0]) rfl Try.underlying22 el5 rfl rfl ⟨rfl, d9, ⟨rfl, d11, ⟨rfl, rfl, ⟨rfl, rfl, trivial⟩⟩⟩⟩ rfl rfl rfl (Nat.le_trans fB.size hz.size)) rfl ?_
      rintro v1 wy ⟨o3, q2, z4⟩
      exact ⟨⟨v1, o3, rfl⟩, q2⟩
    · intro ρz wz hz hk hd
      obtain ⟨v1, o3, d12⟩ := hd 4 rfl 12 rfl
      exact sk_val (by exact xr_toStr rfl Try.underlying22 Try.underlying5 Try.underlying9 d12 o3.rd) rfl rfl
    · intro ρz wz hz hk hd
      exact sk_val (v := sv a2) (by exact xr_move rfl ((hk 2 rfl).trans rfl)) rfl rfl
    · intro ρz wz hz hk hd
      have d14 := hd 6 rfl 14 rfl
      refine sk_op (by exact opv_call rfl cal31 (ac d14 (ac rfl an)) (rickyardref07_Fill.ok fu _ a2 56 _ k7)) rfl ?_
      rintro _ wy ⟨rfl, q8⟩
      exact ⟨rfl, q8⟩
  · intro ρ9 w10 q11 hk hd
    have e13 := hd 5 rfl 13 rfl
    have e15 := hd 7 rfl 15 rfl
    have fB := fB.gr q11
    obtain ⟨g12, h⟩ := gs h
    refine ol_val (v := sv ((List.map toB [(IntKind.u8.wrap a0), (IntKind.u8.wrap a1), 0, 0]) ++ t6)) (by exact xr_addStr rfl e13 e15 g12) rfl rfl rfl ?_
    refine ol_val (v := sv ((List.map toB [(IntKind.u8.wrap a0), (IntKind.u8.wrap a1), 0, 0]) ++ t6)) (by exact xr_assign rfl rfl) rfl rfl rfl ?_
    refine ol_nil ?_
    refine cw_seq ?_
    refine cw_region ?_
    refine ol_val (v := sv ((List.map toB [(IntKind.u8.wrap a0), (IntKind.u8.wrap a1), 0, 0]) ++ t6)) (by exact xr_move rfl rfl) rfl rfl rfl ?_
    refine ol_op (by exact opv_toBytes rfl Try.underlying9 Try.underlying22 Try.underlying5 rfl) rfl rfl rfl ?_
    rintro v13 w16 ⟨r15, q14⟩
    have fB := fB.gr q14
    obtain ⟨t17, k18, h⟩ := bs h
    refine ol_op (by exact opv_call rfl cal100 (ac rfl an) (rickyardref02_Sum.ok fu _ (List.map ofB ((List.map toB [(IntKind.u8.wrap a0), (IntKind.u8.wrap a1), 0, 0]) ++ t6)) v13 (r15) _ k18)) rfl rfl rfl ?_
    rintro _ w20 ⟨rfl, q19⟩
    have fB := fB.gr q19
    refine ol_val (v := .int .u64 (IntKind.u64.wrap t17)) (by exact xr_conv rfl Try.underlying36 Try.underlying129 rfl) rfl rfl rfl ?_
    obtain ⟨t21, k22, h⟩ := bs h
    refine ol_op (by exact opv_call rfl cal99 (ac rfl (ac rfl an)) (rickyardref01_Lay.ok fu _ (IntKind.u64.wrap t17) 4 _ k22)) rfl rfl rfl ?_
    rintro _ w24 ⟨rfl, q23⟩
    have fB := fB.gr q23
    refine ol_val (v := sv ((List.map toB [(IntKind.u8.wrap a0), (IntKind.u8.wrap a1), 0, 0]) ++ t6)) (by exact xr_move rfl rfl) rfl rfl rfl ?_
    obtain ⟨g25, h⟩ := gs h
    refine ol_val (v := sv (t21 ++ ((List.map toB [(IntKind.u8.wrap a0), (IntKind.u8.wrap a1), 0, 0]) ++ t6))) (by exact xr_addStr rfl rfl rfl g25) rfl rfl rfl ?_
    refine ol_val (v := sv (t21 ++ ((List.map toB [(IntKind.u8.wrap a0), (IntKind.u8.wrap a1), 0, 0]) ++ t6))) (by exact xr_assign rfl rfl) rfl rfl rfl ?_
    refine ol_nil ?_
    refine cw_ret ?_
    repeat (first | with_reducible refine thn_r ?_ | with_reducible refine blk_r ?_)
    obtain rfl := Option.some.inj h
    refine fin_ret1 Try.results30 rfl ?_
    exact ⟨_, rfl, rfl, fB⟩
end Go.Proofs.Ytjhajfkfhdnciaa

/- rickyard/rickyardref07.Open: its model, and that the Go function computes it: written by gen.py. -/
set_option linter.unusedVariables false
namespace Go.Proofs.Ytjhajfkfhdnciaa
open Go Go.Xw
def rickyardref07_Open.f (fu : Nat) (a0 : List Int) : Option (Int × Int × (List UInt8) × Bool) := (((if (!decide ((List.length a0 : Int) = 64)) = true then some (true) else (if (4 : Int) < (List.length a0 : Int) then (if (decide ((ix a0 4) = 0)) = true then some (true) else (if (4 : Int) < (List.length a0 : Int) then (if (5 : Int) < (List.length a0 : Int) then (if (8 : Int) ≤ (List.length a0 : Int) then ((rickyardref07_Seal.f fu (IntKind.i64.wrap (ix a0 4)) (IntKind.i64.wrap (ix a0 5)) (List.map toB (cut a0 8 (List.length a0 : Int))) : Option (List UInt8)).bind fun t17 => some ((!decide (t17 = (List.map toB a0))))) else none) else none) else none)) else none)) : Option Bool).bind fun x1 => (if x1 = true then some (0, 0, [], false) else (if (4 : Int) < (List.length a0 : Int) then (if (5 : Int) < (List.length a0 : Int) then (if (8 : Int) ≤ (List.length a0 : Int) then some ((IntKind.i64.wrap (ix a0 4)), (IntKind.i64.wrap (ix a0 5)), (List.map toB (cut a0 8 (List.length a0 : Int))), true) else none) else none) else none)))
set_option maxRecDepth 100000 in
set_option maxHeartbeats 400000 in
theorem rickyardref07_Open.ok (fu : Nat) (w : World) (a0 : List Int) (V0_0 : Value) (R0_0 : Rd (kI .u8) w V0_0 a0) (r : Int × Int × (List UInt8) × Bool) (h : rickyardref07_Open.f fu a0 = some r) :
    Calls Try.prog 32 (([V0_0] : List Value).toArray) w (fun e w' => ∃ v, e = .returned v ∧ v = .tuple #[.int .i64 r.1, .int .i64 r.2.1, sv r.2.2.1, .bool r.2.2.2] ∧ Gr w w') := by
  unfold rickyardref07_Open.f at h
  have fB : Gr w w := Fr.refl _ _
  refine calls_cw Try.func32 rfl Try.ntmps32 rfl ?_
  refine cw_seq ?_
  refine cw_region ?_
  refine ol_val (v := .int .i64 0) (by exact xr_assign rfl rfl) rfl rfl rfl ?_
  refine ol_val (v := .int .i64 0) (by exact xr_assign rfl rfl) rfl rfl rfl ?_
  refine ol_val (v := sv []) (by exact xr_assign rfl rfl) rfl rfl rfl ?_
  refine ol_val (v := .bool false) (by exact xr_assign rfl rfl) rfl rfl rfl ?_
  refine ol_nil ?_
  refine cw_seq ?_
  refine cw_seq ?_
  obtain ⟨x1, j2, h⟩ := bs h
  refine cw_mid (fun ρ' w' => ρ' 0 = V0_0 ∧ ρ' 31 = .bool x1 ∧ Gr w w') ?_ ?_
  · skip
    rcases is j2 with ⟨c3, j2⟩ | ⟨c3, j2⟩
    · skip
      refine cw_drawL 25 [fun vz wz => vz = (V0_0 : Value), fun vz wz => vz = (.int .i64 (List.length a0 : Int) : Value), fun vz wz => vz = (.bool (!decide ((List.length a0 : Int) = 64)) : Value), fun vz wz => vz = (.bool (!decide ((List.length a0 : Int) = 64)) : Value), fun vz _ => vz = undef, fun vz _ => vz = undef, fun vz _ => vz = undef, fun vz _ => vz = undef, fun vz wz => vz = (.bool true : Value), fun vz wz => vz = (.bool true : Value), fun vz _ => vz = undef, fun vz _ => vz = undef, fun vz _ => vz = undef, fun vz _ => vz = undef, fun vz _ => vz = undef, fun vz _ => vz = undef, fun vz _ => vz = undef, fun vz _ => vz = undef, fun vz _ => vz = undef, fun vz _ => vz = undef, fun vz _ => vz = undef, fun vz _ => vz = undef, fun vz _ => vz = undef, fun vz _ => vz = undef, fun vz _ => vz = undef] mo rfl ⟨fun _ _ _ h _ => h, fun _ _ _ h _ => h, fun _ _ _ h _ => h, fun _ _ _ h _ => h, fun _ _ _ h _ => h, fun _ _ _ h _ => h, fun _ _ _ h _ => h, fun _ _ _ h _ => h, fun _ _ _ h _ => h, fun _ _ _ h _ => h, fun _ _ _ h _ => h, fun _ _ _ h _ => h, fun _ _ _ h _ => h, fun _ _ _ h _ => h, fun _ _ _ h _ => h, fun _ _ _ h _ => h, fun _ _ _ h _ => h, fun _ _ _ h _ => h, fun _ _ _ h _ => h, fun _ _ _ h _ => h, fun _ _ _ h _ => h, fun _ _ _ h _ => h, fun _ _ _ h _ => h, fun _ _ _ h _ => h, fun _ _ _ h _ => h, trivial⟩ ?_ ?_
      · refine ⟨?_, ?_, ?_, ?_, ?_, ?_, ?_, ?_, ?_, ?_, ?_, ?_, ?_, ?_, ?_, ?_, ?_, ?_, ?_, ?_, ?_, ?_, ?_, ?_, ?_, trivial⟩
        · intro ρz wz hz hk hd
          exact sk_val (v := V0_0) (by exact xr_move rfl ((hk 0 rfl).trans rfl)) rfl rfl
        · intro ρz wz hz hk hd
          have d6 := hd 0 rfl 6 rfl
          exact sk_val (v := .int .i64 (List.length a0 : Int)) (by exact xr_lenR rfl Try.underlying22 d6 (R0_0.gr (fB.gr hz))) rfl rfl
        · intro ρz wz hz hk hd
          have d7 := hd 1 rfl 7 rfl
          exact sk_val (v := .bool (!decide ((List.length a0 : Int) = 64))) (by exact xr_neI rfl Try.underlying3 rfl d7 rfl) rfl rfl
        · intro ρz wz hz hk hd
          have d8 := hd 2 rfl 8 rfl
          exact sk_val (v := .bool (!decide ((List.length a0 : Int) = 64))) (by exact xr_move rfl d8) rfl rfl
        · intro ρz wz hz hk hd
          have d9 := hd 3 rfl 9 rfl
          exact sk_skip rfl rfl d9 c3 rfl
        · intro ρz wz hz hk hd
          have d9 := hd 3 rfl 9 rfl
          exact sk_skip rfl rfl d9 c3 rfl
        · intro ρz wz hz hk hd
          have d9 := hd 3 rfl 9 rfl
          exact sk_skip rfl rfl d9 c3 rfl
        · intro ρz wz hz hk hd
          have d9 := hd 3 rfl 9 rfl
          exact sk_skip rfl rfl d9 c3 rfl
        · intro ρz wz hz hk hd
          have d9 := hd 3 rfl 9 rfl
          exact sk_val (v := .bool true) (by exact xr_pickT rfl d9 c3 rfl) rfl rfl
        · intro ρz wz hz hk hd
          have d14 := hd 8 rfl 14 rfl
          exact sk_val (v := .bool true) (by exact xr_move rfl d14) rfl rfl
        · intro ρz wz hz hk hd
          have d15 := hd 9 rfl 15 rfl
          exact sk_skip rfl rfl d15 rfl rfl
        · intro ρz wz hz hk hd
          have d15 := hd 9 rfl 15 rfl
          exact sk_skip rfl rfl d15 rfl rfl
        · intro ρz wz hz hk hd
          have d15 := hd 9 rfl 15 rfl
          exact sk_skip rfl rfl d15 rfl rfl
        · intro ρz wz hz hk hd
          have d15 := hd 9 rfl 15 rfl
          exact sk_skip rfl rfl d15 rfl rfl
        · intro ρz wz hz hk hd
          have d15 := hd 9 rfl 15 rfl
          exact sk_skip rfl rfl d15 rfl rfl
        · intro ρz wz hz hk hd
          have d15 := hd 9 rfl 15 rfl
          exact sk_skip rfl rfl d15 rfl rfl
        · intro ρz wz hz hk hd
          have d15 := hd 9 rfl 15 rfl
          exact sk_skip rfl rfl d15 rfl rfl
        · intro ρz wz hz hk hd
          have d15 := hd 9 rfl 15 rfl
          exact sk_skip rfl rfl d15 rfl rfl
        · intro ρz wz hz hk hd
          have d15 := hd 9 rfl 15 rfl
          exact sk_skip rfl rfl d15 rfl rfl
        · intro ρz wz hz hk hd
          have d15 := hd 9 rfl 15 rfl
          exact sk_skip rfl rfl d15 rfl rfl
        · intro ρz wz hz hk hd
          have d15 := hd 9 rfl 15 rfl
          exact sk_skip rfl rfl d15 rfl rfl
        · intro ρz wz hz hk hd
          have d15 := hd 9 rfl 15 rfl
          exact sk_skip rfl rfl d15 rfl rfl
        · intro ρz wz hz hk hd
          have d15 := hd 9 rfl 15 rfl
          exact sk_skip rfl rfl d15 rfl rfl
        · intro ρz wz hz hk hd
          have d15 := hd 9 rfl 15 rfl
          exact sk_skip rfl rfl d15 rfl rfl
        · intro ρz wz hz hk hd
          have d15 := hd 9 rfl 15 rfl
          exact sk_skip rfl rfl d15 rfl rfl
      · intro ρ4 w5 q6 hk hd
        have e0 := (hk 0 rfl).trans rfl
        have e15 := hd 9 rfl 15 rfl
        have fB := fB.gr q6
        refine ol_val (v := .bool true) (by exact xr_pickT rfl e15 rfl rfl) rfl rfl rfl ?_
        refine ol_nil ?_
        obtain rfl := Option.some.inj j2
        refine thn_i ?_
        exact ⟨e0, rfl, q6⟩
    · skip
      obtain ⟨g7, j2⟩ := gs j2
      rcases is j2 with ⟨c8, j2⟩ | ⟨c8, j2⟩
      · skip
        refine cw_drawL 25 [fun vz wz => vz = (V0_0 : Value), fun vz wz => vz = (.int .i64 (List.length a0 : Int) : Value), fun vz wz => vz = (.bool (!decide ((List.length a0 : Int) = 64)) : Value), fun vz wz => vz = (.bool (!decide ((List.length a0 : Int) = 64)) : Value), fun vz wz => vz = (V0_0 : Value), fun vz wz => vz = (.pointer (some ⟨(sb V0_0), so V0_0 + Int.toNat 4 * 1, none⟩) : Value), fun vz wz => vz = (.int .u8 (ix a0 4) : Value), fun vz wz => vz = (.bool (decide ((ix a0 4) = 0)) : Value), fun vz wz => vz = (.bool (decide ((ix a0 4) = 0)) : Value), fun vz wz => vz = (.bool (decide ((ix a0 4) = 0)) : Value), fun vz _ => vz = undef, fun vz _ => vz = undef, fun vz _ => vz = undef, fun vz _ => vz = undef, fun vz _ => vz = undef, fun vz _ => vz = undef, fun vz _ => vz = undef, fun vz _ => vz = undef, fun vz _ => vz = undef, fun vz _ => vz = undef, fun vz _ => vz = undef, fun vz _ => vz = undef, fun vz _ => vz = undef, fun vz _ => vz = undef, fun vz _ => vz = undef] mo rfl ⟨fun _ _ _ h _ => h, fun _ _ _ h _ => h, fun _ _ _ h _ => h, fun _ _ _ h _ => h, fun _ _ _ h _ => h, fun _ _ _ h _ => h, fun _ _ _ h _ => h, fun _ _ _ h _ => h, fun _ _ _ h _ => h, fun _ _ _ h _ => h, fun _ _ _ h _ => h, fun _ _ _ h _ => h, fun _ _ _ h _ => h, fun _ _ _ h _ => h, fun _ _ _ h _ => h, fun _ _ _ h _ => h, fun _ _ _ h _ => h, fun _ _ _ h _ => h, fun _ _ _ h _ => h, fun _ _ _ h _ => h, fun _ _ _ h _ => h, fun _ _ _ h _ => h, fun _ _ _ h _ => h, fun _ _ _ h _ => h, fun _ _ _ h _ => h, trivial⟩ ?_ ?_
        · refine ⟨?_, ?_, ?_, ?_, ?_, ?_, ?_, ?_, ?_, ?_, ?_, ?_, ?_, ?_, ?_, ?_, ?_, ?_, ?_, ?_, ?_, ?_, ?_, ?_, ?_, trivial⟩
          · intro ρz wz hz hk hd
            exact sk_val (v := V0_0) (by exact xr_move rfl ((hk 0 rfl).trans rfl)) rfl rfl
          · intro ρz wz hz hk hd
            have d6 := hd 0 rfl 6 rfl
            exact sk_val (v := .int .i64 (List.length a0 : Int)) (by exact xr_lenR rfl Try.underlying22 d6 (R0_0.gr (fB.gr hz))) rfl rfl
          · intro ρz wz hz hk hd
            have d7 := hd 1 rfl 7 rfl
            exact sk_val (v := .bool (!decide ((List.length a0 : Int) = 64))) (by exact xr_neI rfl Try.underlying3 rfl d7 rfl) rfl rfl
          · intro ρz wz hz hk hd
            have d8 := hd 2 rfl 8 rfl
            exact sk_val (v := .bool (!decide ((List.length a0 : Int) = 64))) (by exact xr_move rfl d8) rfl rfl
          · intro ρz wz hz hk hd
            have d9 := hd 3 rfl 9 rfl
            exact sk_gval (v := V0_0) (by exact xr_move rfl ((hk 0 rfl).trans rfl)) rfl rfl d9 c3 rfl
          · intro ρz wz hz hk hd
            have d10 := hd 4 rfl 10 rfl
            have d9 := hd 3 rfl 9 rfl
            exact sk_gval (by exact xr_indexR (K := (kI .u8)) (v := V0_0) rfl Try.underlying22 sz5 d10 (R0_0.gr (fB.gr hz)) rfl (by decide) g7) rfl rfl d9 c3 rfl
          · intro ρz wz hz hk hd
            have d11 := hd 5 rfl 11 rfl
            have d9 := hd 3 rfl 9 rfl
            exact sk_gval (v := .int .u8 (ix a0 4)) (by exact xr_load1 (v := .int .u8 (ix a0 4)) rfl ag5 d11 ((R0_0.gr (fB.gr hz)).elem (by decide) g7)) rfl rfl d9 c3 rfl
          · intro ρz wz hz hk hd
            have d12 := hd 6 rfl 12 rfl
            have d9 := hd 3 rfl 9 rfl
            exact sk_gval (v := .bool (decide ((ix a0 4) = 0))) (by exact xr_eqI rfl Try.underlying5 rfl d12 rfl) rfl rfl d9 c3 rfl
          · intro ρz wz hz hk hd
            have d9 := hd 3 rfl 9 rfl
            have d13 := hd 7 rfl 13 rfl
            exact sk_val (v := .bool (decide ((ix a0 4) = 0))) (by exact xr_pickF rfl d9 c3 d13) rfl rfl
          · intro ρz wz hz hk hd
            have d14 := hd 8 rfl 14 rfl
            exact sk_val (v := .bool (decide ((ix a0 4) = 0))) (by exact xr_move rfl d14) rfl rfl
          · intro ρz wz hz hk hd
            have d15 := hd 9 rfl 15 rfl
            exact sk_skip rfl rfl d15 c8 rfl
          · intro ρz wz hz hk hd
            have d15 := hd 9 rfl 15 rfl
            exact sk_skip rfl rfl d15 c8 rfl
          · intro ρz wz hz hk hd
            have d15 := hd 9 rfl 15 rfl
            exact sk_skip rfl rfl d15 c8 rfl
          · intro ρz wz hz hk hd
            have d15 := hd 9 rfl 15 rfl
            exact sk_skip rfl rfl d15 c8 rfl
          · intro ρz wz hz hk hd
            have d15 := hd 9 rfl 15 rfl
            exact sk_skip rfl rfl d15 c8 rfl
          · intro ρz wz hz hk hd
            have d15 := hd 9 rfl 15 rfl
            exact sk_skip rfl rfl d15 c8 rfl
          · intro ρz wz hz hk hd
            have d15 := hd 9 rfl 15 rfl
            exact sk_skip rfl rfl d15 c8 rfl
          · intro ρz wz hz hk hd
            have d15 := hd 9 rfl 15 rfl
            exact sk_skip rfl rfl d15 c8 rfl
          · intro ρz wz hz hk hd
            have d15 := hd 9 rfl 15 rfl
            exact sk_skip rfl rfl d15 c8 rfl
          · intro ρz wz hz hk hd
            have d15 := hd 9 rfl 15 rfl
            exact sk_skip rfl rfl d15 c8 rfl
          · intro ρz wz hz hk hd
            have d15 := hd 9 rfl 15 rfl
            exact sk_skip rfl rfl d15 c8 rfl
          · intro ρz wz hz hk hd
            have d15 := hd 9 rfl 15 rfl
            exact sk_skip rfl rfl d15 c8 rfl
          · intro ρz wz hz hk hd
            have d15 := hd 9 rfl 15 rfl
            exact sk_skip rfl rfl d15 c8 rfl
          · intro ρz wz hz hk hd
            have d15 := hd 9 rfl 15 rfl
            exact sk_skip rfl rfl d15 c8 rfl
          · intro ρz wz hz hk hd
            have d15 := hd 9 rfl 15 rfl
            exact sk_skip rfl rfl d15 c8 rfl
        · intro ρ9 w10 q11 hk hd
          have e0 := (hk 0 rfl).trans rfl
          have e15 := hd 9 rfl 15 rfl
          have fB := fB.gr q11
          refine ol_val (v := .bool true) (by exact xr_pickT rfl e15 c8 rfl) rfl rfl rfl ?_
          refine ol_nil ?_
          obtain rfl := Option.some.inj j2
          refine thn_i ?_
          exact ⟨e0, rfl, q11⟩
      · skip
        obtain ⟨g12, j2⟩ := gs j2
        obtain ⟨g13, j2⟩ := gs j2
        obtain ⟨g15, j2⟩ := gs j2
        obtain ⟨t17, k18, j2⟩ := bs j2
        refine cw_drawL 25 [fun vz wz => vz = (V0_0 : Value), fun vz wz => vz = (.int .i64 (List.length a0 : Int) : Value), fun vz wz => vz = (.bool (!decide ((List.length a0 : Int) = 64)) : Value), fun vz wz => vz = (.bool (!decide ((List.length a0 : Int) = 64)) : Value), fun vz wz => vz = (V0_0 : Value), fun vz wz => vz = (.pointer (some ⟨(sb V0_0), so V0_0 + Int.toNat 4 * 1, none⟩) : Value), fun vz wz => vz = (.int .u8 (ix a0 4) : Value), fun vz wz => vz = (.bool (decide ((ix a0 4) = 0)) : Value), fun vz wz => vz = (.bool (decide ((ix a0 4) = 0)) : Value), fun vz wz => vz = (.bool (decide ((ix a0 4) = 0)) : Value), fun vz wz => vz = (V0_0 : Value), fun vz wz => vz = (.pointer (some ⟨(sb V0_0), so V0_0 + Int.toNat 4 * 1, none⟩) : Value), fun vz wz => vz = (.int .u8 (ix a0 4) : Value), fun vz wz => vz = (.int .i64 (IntKind.i64.wrap (ix a0 4)) : Value), fun vz wz => vz = (V0_0 : Value), fun vz wz => vz = (.pointer (some ⟨(sb V0_0), so V0_0 + Int.toNat 5 * 1, none⟩) : Value), fun vz wz => vz = (.int .u8 (ix a0 5) : Value), fun vz wz => vz = (.int .i64 (IntKind.i64.wrap (ix a0 5)) : Value), fun vz wz => vz = (V0_0 : Value), fun vz wz => ∃ u16 : Value, ∃ r14 : Rd (kI .u8) wz u16 (cut a0 8 (List.length a0 : Int)), vz = (u16 : Value), fun vz wz => vz = (sv (List.map toB (cut a0 8 (List.length a0 : Int))) : Value), fun vz wz => vz = (sv t17 : Value), fun vz wz => vz = (V0_0 : Value), fun vz wz => vz = (sv (List.map toB a0) : Value), fun vz wz => vz = (.bool (!decide (t17 = (List.map toB a0))) : Value)] mo rfl ⟨fun _ _ _ h _ => h, fun _ _ _ h _ => h, fun _ _ _ h _ => h, fun _ _ _ h _ => h, fun _ _ _ h _ => h, fun _ _ _ h _ => h, fun _ _ _ h _ => h, fun _ _ _ h _ => h, fun _ _ _ h _ => h, fun _ _ _ h _ => h, fun _ _ _ h _ => h, fun _ _ _ h _ => h, fun _ _ _ h _ => h, fun _ _ _ h _ => h, fun _ _ _ h _ => h, fun _ _ _ h _ => h, fun _ _ _ h _ => h, fun _ _ _ h _ => h, fun _ _ _ h _ => h, fun _ _ _ ⟨u16, r14, h⟩ q => ⟨u16, r14.gr q, h⟩, fun _ _ _ h _ => h, fun _ _ _ h _ => h, fun _ _ _ h _ => h, fun _ _ _ h _ => h, fun _ _ _ h _ => h, trivial⟩ ?_ ?_
        · refine ⟨?_, ?_, ?_, ?_, ?_, ?_, ?_, ?_, ?_, ?_, ?_, ?_, ?_, ?_, ?_, ?_, ?_, ?_, ?_, ?_, ?_, ?_, ?_, ?_, ?_, trivial⟩
          · intro ρz wz hz hk hd
            exact sk_val (v := V0_0) (by exact xr_move rfl ((hk 0 rfl).trans rfl)) rfl rfl
          · intro ρz wz hz hk hd
            have d6 := hd 0 rfl 6 rfl
            exact sk_val (v := .int .i64 (List.length a0 : Int)) (by exact xr_lenR rfl Try.underlying22 d6 (R0_0.gr (fB.gr hz))) rfl rfl
          · intro ρz wz hz hk hd
            have d7 := hd 1 rfl 7 rfl
            exact sk_val (v := .bool (!decide ((List.length a0 : Int) = 64))) (by exact xr_neI rfl Try.underlying3 rfl d7 rfl) rfl rfl
          · intro ρz wz hz hk hd
            have d8 := hd 2 rfl 8 rfl
            exact sk_val (v := .bool (!decide ((List.length a0 : Int) = 64))) (by exact xr_move rfl d8) rfl rfl
          · intro ρz wz hz hk hd
            have d9 := hd 3 rfl 9 rfl
            exact sk_gval (v := V0_0) (by exact xr_move rfl ((hk 0 rfl).trans rfl)) rfl rfl d9 c3 rfl
          · intro ρz wz hz hk hd
            have d10 := hd 4 rfl 10 rfl
            have d9 := hd 3 rfl 9 rfl
            exact sk_gval (by exact xr_indexR (K := (kI .u8)) (v := V0_0) rfl Try.underlying22 sz5 d10 (R0_0.gr (fB.gr hz)) rfl (by decide) g7) rfl rfl d9 c3 rfl
          · intro ρz wz hz hk hd
            have d11 := hd 5 rfl 11 rfl
            have d9 := hd 3 rfl 9 rfl
            exact sk_gval (v := .int .u8 (ix a0 4)) (by exact xr_load1 (v := .int .u8 (ix a0 4)) rfl ag5 d11 ((R0_0.gr (fB.gr hz)).elem (by decide) g7)) rfl rfl d9 c3 rfl
          · intro ρz wz hz hk hd
            have d12 := hd 6 rfl 12 rfl
            have d9 := hd 3 rfl 9 rfl
            exact sk_gval (v := .bool (decide ((ix a0 4) = 0))) (by exact xr_eqI rfl Try.underlying5 rfl d12 rfl) rfl rfl d9 c3 rfl
          · intro ρz wz hz hk hd
            have d9 := hd 3 rfl 9 rfl
            have d13 := hd 7 rfl 13 rfl
            exact sk_val (v := .bool (decide ((ix a0 4) = 0))) (by exact xr_pickF rfl d9 c3 d13) rfl rfl
          · intro ρz wz hz hk hd
            have d14 := hd 8 rfl 14 rfl
            exact sk_val (v := .bool (decide ((ix a0 4) = 0))) (by exact xr_move rfl d14) rfl rfl
          · intro ρz wz hz hk hd
            have d15 := hd 9 rfl 15 rfl
            exact sk_gval (v := V0_0) (by exact xr_move rfl ((hk 0 rfl).trans rfl)) rfl rfl d15 c8 rfl
          · intro ρz wz hz hk hd
            have d16 := hd 10 rfl 16 rfl
            have d15 := hd 9 rfl 15 rfl
            exact sk_gval (by exact xr_indexR (K := (kI .u8)) (v := V0_0) rfl Try.underlying22 sz5 d16 (R0_0.gr (fB.gr hz)) rfl (by decide) g12) rfl rfl d15 c8 rfl
          · intro ρz wz hz hk hd
            have d17 := hd 11 rfl 17 rfl
            have d15 := hd 9 rfl 15 rfl
            exact sk_gval (v := .int .u8 (ix a0 4)) (by exact xr_load1 (v := .int .u8 (ix a0 4)) rfl ag5 d17 ((R0_0.gr (fB.gr hz)).elem (by decide) g12)) rfl rfl d15 c8 rfl
          · intro ρz wz hz hk hd
            have d18 := hd 12 rfl 18 rfl
            have d15 := hd 9 rfl 15 rfl
            exact sk_gval (v := .int .i64 (IntKind.i64.wrap (ix a0 4))) (by exact xr_conv rfl Try.underlying5 Try.underlying3 d18) rfl rfl d15 c8 rfl
          · intro ρz wz hz hk hd
            have d15 := hd 9 rfl 15 rfl
            exact sk_gval (v := V0_0) (by exact xr_move rfl ((hk 0 rfl).trans rfl)) rfl rfl d15 c8 rfl
          · intro ρz wz hz hk hd
            have d20 := hd 14 rfl 20 rfl
            have d15 := hd 9 rfl 15 rfl
            exact sk_gval (by exact xr_indexR (K := (kI .u8)) (v := V0_0) rfl Try.underlying22 sz5 d20 (R0_0.gr (fB.gr hz)) rfl (by decide) g13) rfl rfl d15 c8 rfl
          · intro ρz wz hz hk hd
            have d21 := hd 15 rfl 21 rfl
            have d15 := hd 9 rfl 15 rfl
            exact sk_gval (v := .int .u8 (ix a0 5)) (by exact xr_load1 (v := .int .u8 (ix a0 5)) rfl ag5 d21 ((R0_0.gr (fB.gr hz)).elem (by decide) g13)) rfl rfl d15 c8 rfl
          · intro ρz wz hz hk hd
            have d22 := hd 16 rfl 22 rfl
            have d15 := hd 9 rfl 15 rfl
            exact sk_gval (v := .int .i64 (IntKind.i64.wrap (ix a0 5))) (by exact xr_conv rfl Try.underlying5 Try.underlying3 d22) rfl rfl d15 c8 rfl
          · intro ρz wz hz hk hd
            have d15 := hd 9 rfl 15 rfl
            exact sk_gval (v := V0_0) (by exact xr_move rfl ((hk 0 rfl).trans rfl)) rfl rfl d15 c8 rfl
          · intro ρz wz hz hk hd
            have d24 := hd 18 rfl 24 rfl
            have d15 := hd 9 rfl 15 rfl
            exact sk_gval (by exact xr_slice_l (K := (kI .u8)) (v := V0_0) rfl Try.underlying22 sz5 d24 (R0_0.gr (fB.gr hz)) rfl (by decide) g15) rfl rfl d15 c8 ⟨_, (R0_0.gr (fB.gr hz)).cut (lo := 8) (hi := (List.length a0 : Int)) (by decide) g15 (Int.le_refl _), rfl⟩
          · intro ρz wz hz hk hd
            obtain ⟨u16, r14, d25⟩ := hd 19 rfl 25 rfl
            have d15 := hd 9 rfl 15 rfl
            exact sk_gval (v := sv (List.map toB (cut a0 8 (List.length a0 : Int)))) (by exact xr_toStr rfl Try.underlying22 Try.underlying5 Try.underlying9 d25 r14) rfl rfl d15 c8 rfl
          · intro ρz wz hz hk hd
            have d19 := hd 13 rfl 19 rfl
            have d23 := hd 17 rfl 23 rfl
            have d26 := hd 20 rfl 26 rfl
            have d15 := hd 9 rfl 15 rfl
            refine sk_gop (by exact opv_call rfl cal30 (ac d19 (ac d23 (ac d26 an))) (rickyardref07_Seal.ok fu _ (IntKind.i64.wrap (ix a0 4)) (IntKind.i64.wrap (ix a0 5)) (List.map toB (cut a0 8 (List.length a0 : Int))) _ k18)) rfl rfl d15 c8 ?_
            rintro _ wy ⟨rfl, q19⟩
            exact ⟨rfl, q19⟩
          · intro ρz wz hz hk hd
            have d15 := hd 9 rfl 15 rfl
            exact sk_gval (v := V0_0) (by exact xr_move rfl ((hk 0 rfl).trans rfl)) rfl rfl d15 c8 rfl
          · intro ρz wz hz hk hd
            have d28 := hd 22 rfl 28 rfl
            have d15 := hd 9 rfl 15 rfl
            exact sk_gval (v := sv (List.map toB a0)) (by exact xr_toStr rfl Try.underlying22 Try.underlying5 Try.underlying9 d28 (R0_0.gr (fB.gr hz))) rfl rfl d15 c8 rfl
          · intro ρz wz hz hk hd
            have d27 := hd 21 rfl 27 rfl
            have d29 := hd 23 rfl 29 rfl
            have d15 := hd 9 rfl 15 rfl
            exact sk_gval (v := .bool (!decide (t17 = (List.map toB a0)))) (by exact xr_neStr rfl Try.underlying9 d27 d29) rfl rfl d15 c8 rfl
        · intro ρ20 w21 q22 hk hd
          have e0 := (hk 0 rfl).trans rfl
          have e15 := hd 9 rfl 15 rfl
          have e30 := hd 24 rfl 30 rfl
          have fB := fB.gr q22
          refine ol_val (v := .bool (!decide (t17 = (List.map toB a0)))) (by exact xr_pickF rfl e15 c8 e30) rfl rfl rfl ?_
          refine ol_nil ?_
          obtain rfl := Option.some.inj j2
          refine thn_i ?_
          exact ⟨e0, rfl, q22⟩
  · skip
    rintro ρ23 w24 ⟨e0, e31, q25⟩
    have fB := fB.gr q25
    rcases is h with ⟨c26, h⟩ | ⟨c26, h⟩
    · refine cw_condT e31 c26 ?_
      refine cw_seq ?_
      refine cw_region ?_
      refine ol_val (v := .int .i64 0) (by exact xr_assign rfl rfl) rfl rfl rfl ?_
      refine ol_val (v := .int .i64 0) (by exact xr_assign rfl rfl) rfl rfl rfl ?_
      refine ol_val (v := sv []) (by exact xr_assign rfl rfl) rfl rfl rfl ?_
      refine ol_val (v := .bool false) (by exact xr_assign rfl rfl) rfl rfl rfl ?_
      refine ol_nil ?_
      refine cw_ret ?_
      repeat (first | with_reducible refine thn_r ?_ | with_reducible refine blk_r ?_)
      obtain rfl := Option.some.inj h
      refine fin_ret4 Try.results32 rfl rfl rfl rfl ?_
      exact ⟨_, rfl, rfl, fB⟩
    · refine cw_condF e31 c26 ?_
      refine cw_skip ?_
      refine cw_seq ?_
      obtain ⟨g27, h⟩ := gs h
      obtain ⟨g28, h⟩ := gs h
      obtain ⟨g30, h⟩ := gs h
      refine cw_drawL 13 [fun vz wz => vz = (V0_0 : Value), fun vz wz => vz = (.pointer (some ⟨(sb V0_0), so V0_0 + Int.toNat 4 * 1, none⟩) : Value), fun vz wz => vz = (.int .u8 (ix a0 4) : Value), fun vz wz => vz = (.int .i64 (IntKind.i64.wrap (ix a0 4)) : Value), fun vz wz => vz = (V0_0 : Value), fun vz wz => vz = (.pointer (some ⟨(sb V0_0), so V0_0 + Int.toNat 5 * 1, none⟩) : Value), fun vz wz => vz = (.int .u8 (ix a0 5) : Value), fun vz wz => vz = (.int .i64 (IntKind.i64.wrap (ix a0 5)) : Value), fun vz wz => vz = (V0_0 : Value), fun vz wz => ∃ u31 : Value, ∃ r29 : Rd (kI .u8) wz u31 (cut a0 8 (List.length a0 : Int)), vz = (u31 : Value), fun vz wz => vz = (sv (List.map toB (cut a0 8 (List.length a0 : Int))) : Value), fun vz wz => vz = (.int .i64 (IntKind.i64.wrap (ix a0 4)) : Value), fun vz wz => vz = (.int .i64 (IntKind.i64.wrap (ix a0 5)) : Value)] mo rfl ⟨fun _ _ _ h _ => h, fun _ _ _ h _ => h, fun _ _ _ h _ => h, fun _ _ _ h _ => h, fun _ _ _ h _ => h, fun _ _ _ h _ => h, fun _ _ _ h _ => h, fun _ _ _ h _ => h, fun _ _ _ h _ => h, fun _ _ _ ⟨u31, r29, h⟩ q => ⟨u31, r29.gr q, h⟩, fun _ _ _ h _ => h, fun _ _ _ h _ => h, fun _ _ _ h _ => h, trivial⟩ ?_ ?_
      · refine ⟨?_, ?_, ?_, ?_, ?_, ?_, ?_, ?_, ?_, ?_, ?_, ?_, ?_, trivial⟩
        · intro ρz wz hz hk hd
          exact sk_val (v := V0_0) (by exact xr_move rfl ((hk 0 rfl).trans e0)) rfl rfl
        · intro ρz wz hz hk hd
          have d32 := hd 0 rfl 32 rfl
          exact sk_val (by exact xr_indexR (K := (kI .u8)) (v := V0_0) rfl Try.underlying22 sz5 d32 (R0_0.gr (fB.gr hz)) rfl (by decide) g27) rfl rfl
        · intro ρz wz hz hk hd
          have d33 := hd 1 rfl 33 rfl
          exact sk_val (v := .int .u8 (ix a0 4)) (by exact xr_load1 (v := .int .u8 (ix a0 4)) rfl ag5 d33 ((R0_0.gr (fB.gr hz)).elem (by decide) g27)) rfl rfl
        · intro ρz wz hz hk hd
          have d34 := hd 2 rfl 34 rfl
          exact sk_val (v := .int .i64 (IntKind.i64.wrap (ix a0 4))) (by exact xr_conv rfl Try.underlying5 Try.underlying3 d34) rfl rfl
        · intro ρz wz hz hk hd
          exact sk_val (v := V0_0) (by exact xr_move rfl ((hk 0 rfl).trans e0)) rfl rfl
        · intro ρz wz hz hk hd
          have d36 := hd 4 rfl 36 rfl
          exact sk_val (by exact xr_indexR (K := (kI .u8)) (v := V0_0) rfl Try.underlying22 sz5 d36 (R0_0.gr (fB.gr hz)) rfl (by decide) g28) rfl rfl
        · intro ρz wz hz hk hd
          have d37 := hd 5 rfl 37 rfl
          exact sk_val (v := .int .u8 (ix a0 5)) (by exact xr_load1 (v := .int .u8 (ix a0 5)) rfl ag5 d37 ((R0_0.gr (fB.gr hz)).elem (by decide) g28)) rfl rfl
        · intro ρz wz hz hk hd
          have d38 := hd 6 rfl 38 rfl
          exact sk_val (v := .int .i64 (IntKind.i64.wrap (ix a0 5))) (by exact xr_conv rfl Try.underlying5 Try.underlying3 d38) rfl rfl
        · intro ρz wz hz hk hd
          exact sk_val (v := V0_0) (by exact xr_move rfl ((hk 0 rfl).trans e0)) rfl rfl
        · intro ρz wz hz hk hd
          have d40 := hd 8 rfl 40 rfl
          exact sk_val (by exact xr_slice_l (K := (kI .u8)) (v := V0_0) rfl Try.underlying22 sz5 d40 (R0_0.gr (fB.gr hz)) rfl (by decide) g30) rfl ⟨_, (R0_0.gr (fB.gr hz)).cut (lo := 8) (hi := (List.length a0 : Int)) (by decide) g30 (Int.le_refl _), rfl⟩
        · intro ρz wz hz hk hd
          obtain ⟨u31, r29, d41⟩ := hd 9 rfl 41 rfl
          exact sk_val (v := sv (List.map toB (cut a0 8 (List.length a0 : Int)))) (by exact xr_toStr rfl Try.underlying22 Try.underlying5 Try.underlying9 d41 r29) rfl rfl
        · intro ρz wz hz hk hd
          have d35 := hd 3 rfl 35 rfl
          exact sk_val (v := .int .i64 (IntKind.i64.wrap (ix a0 4))) (by exact xr_assign rfl d35) rfl rfl
        · intro ρz wz hz hk hd
          have d39 := hd 7 rfl 39 rfl
          exact sk_val (v := .int .i64 (IntKind.i64.wrap (ix a0 5))) (by exact xr_assign rfl d39) rfl rfl
      · intro ρ32 w33 q34 hk hd
        have e2 := hd 11 rfl 2 rfl
        have e3 := hd 12 rfl 3 rfl
        have e42 := hd 10 rfl 42 rfl
        have fB := fB.gr q34
        refine ol_val (v := sv (List.map toB (cut a0 8 (List.length a0 : Int)))) (by exact xr_assign rfl e42) rfl rfl rfl ?_
        refine ol_val (v := .bool true) (by exact xr_assign rfl rfl) rfl rfl rfl ?_
        refine ol_nil ?_
        refine cw_ret ?_
        repeat (first | with_reducible refine thn_r ?_ | with_reducible refine blk_r ?_)
        obtain rfl := Option.some.inj h
        refine fin_ret4 Try.results32 e2 e3 rfl rfl ?_
        exact ⟨_, rfl, rfl, fB⟩
end Go.Proofs.Ytjhajfkfhdnciaa

/- Blocks in plain words: how one is sealed, which octets are one, as the program and the document tell it. -/
set_option linter.unusedVariables false
set_option linter.unusedSimpArgs false
namespace Go.Proofs.Ytjhajfkfhdnciaa.Pure
open Go Go.Xw
theorem toB_inj {a b : Int} (ha : 0 ≤ a ∧ a ≤ 255) (hb : 0 ≤ b ∧ b ≤ 255) (h : toB a = toB b) : a = b := by
  unfold toB at h
  have := congrArg UInt8.toNat h
  simp only [UInt8.toNat_ofNat'] at this
  omega
theorem map_toB_inj : ∀ {a b : List Int}, Bytes a → Bytes b → a.map toB = b.map toB → a = b
  | [], [], _, _, _ => rfl
  | [], _ :: _, _, _, h => by simp at h
  | _ :: _, [], _, _, h => by simp at h
  | x :: a, y :: b, ha, hb, h => by
    simp only [List.map_cons, List.cons.injEq] at h
    rw [toB_inj (ha x (by simp)) (hb y (by simp)) h.1, map_toB_inj (fun z hz => ha z (by simp [hz])) (fun z hz => hb z (by simp [hz])) h.2]
theorem map_toB_iff {a b : List Int} (ha : Bytes a) (hb : Bytes b) : (a.map toB = b.map toB) ↔ a = b := ⟨map_toB_inj ha hb, fun h => by rw [h]⟩
theorem of_toB {l : List Int} (h : Bytes l) : (l.map toB).map ofB = l := by
  rw [List.map_map]
  conv => rhs; rw [← List.map_id l]
  apply List.map_congr_left
  intro x hx
  have := h x hx
  simp only [Function.comp, ofB, toB, UInt8.toNat_ofNat', id]
  omega
theorem Bytes.app {a b : List Int} (ha : Bytes a) (hb : Bytes b) : Bytes (a ++ b) := by
  intro x hx
  rcases List.mem_append.1 hx with h | h
  · exact ha x h
  · exact hb x h
theorem Bytes.rep (n : Nat) : Bytes (List.replicate n (0 : Int)) := by
  intro x hx
  obtain rfl := List.eq_of_mem_replicate hx
  omega
theorem Bytes.drop {l : List Int} (h : Bytes l) (n : Nat) : Bytes (l.drop n) := fun x hx => h x (List.mem_of_mem_drop hx)
theorem Bytes.take {l : List Int} (h : Bytes l) (n : Nat) : Bytes (l.take n) := fun x hx => h x (List.mem_of_mem_take hx)
/-- What is summed: kind, tag, a gap, the body with noughts behind it. -/
def summed (k t : Int) (body : List Int) : List Int := [k, t, 0, 0] ++ (body ++ List.replicate (56 - body.length) 0)
def sealed (s : List Int) : List Int := lay (crc s).toNat 4 ++ s
theorem summed_len {k t : Int} {body : List Int} (h : body.length ≤ 56) : (summed k t body).length = 60 := by
  simp [summed]
  omega
theorem summed_bytes {k t : Int} {body : List Int} (hk : 0 ≤ k ∧ k ≤ 255) (ht : 0 ≤ t ∧ t ≤ 255) (hb : Bytes body) : Bytes (summed k t body) := by
  refine Bytes.app ?_ (Bytes.app hb (Bytes.rep _))
  intro x hx
  simp only [List.mem_cons, List.not_mem_nil, or_false] at hx
  rcases hx with rfl | rfl | rfl | rfl <;> omega
theorem sealed_len {s : List Int} (h : s.length = 60) : (sealed s).length = 64 := by
  simp [sealed, lay_len, h]
theorem sealed_bytes {s : List Int} (h : Bytes s) : Bytes (sealed s) := Bytes.app (lay_bytes _ _) h
theorem x2_eq (k t : Int) : List.set (List.set (List.replicate (Int.toNat 64) (0 : Int)) (Int.toNat 4) k) (Int.toNat 5) t = [0, 0, 0, 0, k, t, 0, 0] ++ List.replicate 56 (0 : Int) := rfl
theorem x3_eq {k t : Int} {body : List Int} (h : body.length ≤ 56) : splL ([0, 0, 0, 0, k, t, 0, 0] ++ List.replicate 56 (0 : Int)) (Int.toNat 8) (List.take (List.length ([0, 0, 0, 0, k, t, 0, 0] ++ List.replicate 56 (0 : Int)) - Int.toNat 8) body) = [0, 0, 0, 0] ++ summed k t body := by
  have e : List.take (List.length ([0, 0, 0, 0, k, t, 0, 0] ++ List.replicate 56 (0 : Int)) - Int.toNat 8) body = body := List.take_of_length_le (by simpa using h)
  rw [e]
  have e2 : List.drop (8 + body.length) ([0, 0, 0, 0, k, t, 0, 0] ++ List.replicate 56 (0 : Int)) = List.replicate (56 - body.length) 0 := by
    have h8 : ([0, 0, 0, 0, k, t, 0, 0] : List Int).length = 8 := rfl
    rw [List.drop_append, List.drop_eq_nil_of_le (by rw [h8]; omega), List.nil_append, h8, List.drop_replicate]
    congr 1
    omega
  unfold splL summed
  rw [show (Int.toNat 8) = 8 from rfl, e2]
  simp
theorem lay4_eq {fu : Nat} (x : BitVec 32) (hf : 8 < fu) : octet_Lay.f fu (IntKind.u64.wrap (I32 x)) 4 = some (lay x.toNat 4) := by
  have hb := I32_lt x
  rw [wu64 hb.1 (by omega)]
  exact olay_eq (n := 4) (by decide) (by omega)
theorem rlay4_eq {fu : Nat} (x : BitVec 32) (hf : 8 < fu) : rickyardref01_Lay.f fu (IntKind.u64.wrap (I32 x)) 4 = some ((lay x.toNat 4).map toB) := by
  have hb := I32_lt x
  rw [wu64 hb.1 (by omega)]
  exact rlay_eq (n := 4) (by have := x.isLt; omega) (by decide) (by omega)
theorem seal_eq {fu : Nat} {k t : Int} {body : List Int} (hb : Bytes body) (hk : 1 ≤ k ∧ k ≤ 255) (ht : 0 ≤ t ∧ t ≤ 255) (hl : body.length ≤ 56) (hf : 100 < fu) : block_Seal.f fu k t body = some (sealed (summed k t body), true) := by
  have hs := summed_len (k := k) (t := t) hl
  have hsb := summed_bytes ⟨by omega, hk.2⟩ ht hb
  unfold block_Seal.f
  rw [wu8 (by omega : 0 ≤ k) hk.2, wu8 ht.1 ht.2]
  have c0 : (if (decide (k < 1)) = true then true else (if (decide (k ≥ 256)) = true then true else (if (decide (t < 0)) = true then true else (if (decide (t ≥ 256)) = true then true else (decide ((List.length body : Int) > 56)))))) = false := by
    have h1 : ¬ k < 1 := by omega
    have h2 : ¬ k ≥ 256 := by omega
    have h3 : ¬ t < 0 := by omega
    have h4 : ¬ t ≥ 256 := by omega
    have h5 : ¬ (List.length body : Int) > 56 := by omega
    simp [h1, h2, h3, h4, h5]
  rw [c0]
  simp only [x2_eq, x3_eq hl]
  have e1 : cut ([0, 0, 0, 0] ++ summed k t body) 4 (List.length ([0, 0, 0, 0] ++ summed k t body) : Int) = summed k t body := by
    unfold cut
    rw [Int.toNat_natCast, List.take_length]
    rfl
  have e2 : ∀ v, splL ([0, 0, 0, 0] ++ summed k t body) 0 (List.take (List.length ([0, 0, 0, 0] ++ summed k t body)) (lay v 4)) = lay v 4 ++ summed k t body := by
    intro v
    rw [List.take_of_length_le (by simp [lay_len])]
    unfold splL
    simp [lay_len]
  simp only [e1, e2, sum_eq (fu := fu) hsb (by omega) (by omega), Option.bind_some, lay4_eq (fu := fu) _ (by omega)]
  simp [hs, sealed]
theorem seal_no {fu : Nat} {k t : Int} {body : List Int} (h : k < 1 ∨ k > 255 ∨ t < 0 ∨ t > 255 ∨ body.length > 56) : block_Seal.f fu k t body = some ([], false) := by
  unfold block_Seal.f
  have c0 : (if (decide (k < 1)) = true then true else (if (decide (k ≥ 256)) = true then true else (if (decide (t < 0)) = true then true else (if (decide (t ≥ 256)) = true then true else (decide ((List.length body : Int) > 56)))))) = true := by
    by_cases h1 : k < 1
    · simp [h1]
    · by_cases h2 : k ≥ 256
      · simp [h2]
      · by_cases h3 : t < 0
        · simp [h3]
        · by_cases h4 : t ≥ 256
          · simp [h4]
          · have h5 : (List.length body : Int) > 56 := by omega
            simp [h5]
  rw [c0]
  rfl
theorem fill_eq {fu : Nat} {body : List Int} (hl : body.length ≤ 56) : rickyardref07_Fill.f fu (body.map toB) 56 = some ((body ++ List.replicate (56 - body.length) 0).map toB) := by
  unfold rickyardref07_Fill.f
  have e1 : mxI (IntKind.i64.wrap (56 - (List.length (body.map toB) : Int))) 0 = ((56 - body.length : Nat) : Int) := by
    rw [List.length_map, w64 (by omega) (by omega)]
    unfold mxI
    split <;> omega
  have hL : (100 : Nat) ≤ LIM := by decide
  rw [e1, Int.toNat_natCast, if_pos ⟨by omega, by omega⟩, if_pos (by simp only [List.length_map, List.length_replicate]; omega), List.map_append]
theorem rseal_eq {fu : Nat} {k t : Int} {body : List Int} (hb : Bytes body) (hk : 0 ≤ k ∧ k ≤ 255) (ht : 0 ≤ t ∧ t ≤ 255) (hl : body.length ≤ 56) (hf : 100 < fu) : rickyardref07_Seal.f fu k t (body.map toB) = some ((sealed (summed k t body)).map toB) := by
  have hs := summed_len (k := k) (t := t) hl
  have hsb := summed_bytes hk ht hb
  unfold rickyardref07_Seal.f
  rw [wu8 hk.1 hk.2, wu8 ht.1 ht.2]
  have e1 : List.map toB [k, t, 0, 0] ++ List.map toB (body ++ List.replicate (56 - body.length) 0) = (summed k t body).map toB := by
    rw [← List.map_append]
    rfl
  have hL : (100 : Nat) ≤ LIM := by decide
  have e2 : List.length (List.map toB [k, t, 0, 0]) + List.length (List.map toB (body ++ List.replicate (56 - body.length) 0)) ≤ LIM := by
    simp
    omega
  simp only [fill_eq (fu := fu) hl, Option.bind_some, e1, of_toB hsb, rsum_eq (fu := fu) hsb (by omega) (by omega), rlay4_eq (fu := fu) _ (by omega : 8 < fu)]
  rw [if_pos e2, if_pos (by simp [lay_len, hs]; omega)]
  simp [sealed]
theorem there_eq {fu : Nat} {b : List Int} {i n : Nat} (hl : b.length ≤ 9000000000000000000) (h : i + n ≤ b.length) : octet_there.f fu b (i : Int) (n : Int) = some true := by
  unfold octet_there.f
  have h1 : (i : Int) ≥ 0 := by omega
  have h2 : (n : Int) ≥ 0 := by omega
  have h3 : (n : Int) ≤ (b.length : Int) := by omega
  have h4 : IntKind.i64.wrap ((b.length : Int) - (n : Int)) = (b.length : Int) - (n : Int) := w64 (by omega) (by omega)
  have h5 : (i : Int) ≤ (b.length : Int) - (n : Int) := by omega
  simp [h1, h2, h3, h4, h5]
theorem noughts_from {fu : Nat} (b : List Int) (x n : Int) {C : List Int} (hC : cut b x (IntKind.i64.wrap (x + n)) = C) (hl : C.length ≤ 9000000000000000000) : ∀ k m, m ≤ C.length → C.length - m < k → loopM (octet_Noughts.s0 fu b x n) k (m : Int) = some (if ∀ y ∈ C.drop m, y = 0 then .inr () else .inl false)
  | 0, m, _, hk => by omega
  | k + 1, m, hm, hk => by
    unfold loopM
    by_cases e : m = C.length
    · subst e
      have : octet_Noughts.s0 fu b x n (C.length : Int) = some (.inl (.inr ())) := by
        unfold octet_Noughts.s0
        rw [hC]
        simp
      rw [this]
      simp
    · have hlt : m < C.length := by omega
      have hx : ix C (m : Int) = C[m] := ix_nat hlt
      rw [List.drop_eq_getElem_cons hlt]
      have h1 : (m : Int) < (C.length : Int) := by omega
      by_cases hn : C[m] = 0
      · have w3 : IntKind.i64.wrap ((m : Int) + 1) = ((m + 1 : Nat) : Int) := by rw [w64 (by omega) (by omega)]; omega
        have : octet_Noughts.s0 fu b x n (m : Int) = some (.inr ((m + 1 : Nat) : Int)) := by
          unfold octet_Noughts.s0
          rw [hC]
          simp [h1, hx, hn, w3, hlt]
        rw [this]
        simp only
        rw [noughts_from b x n hC hl k (m + 1) (by omega) (by omega)]
        have e3 : (∀ y ∈ C[m] :: C.drop (m + 1), y = 0) ↔ ∀ y ∈ C.drop (m + 1), y = 0 := by
          constructor
          · intro h y hy
            exact h y (List.mem_cons_of_mem _ hy)
          · intro h y hy
            rcases List.mem_cons.1 hy with rfl | hy
            · exact hn
            · exact h y hy
        simp only [e3]
      · have : octet_Noughts.s0 fu b x n (m : Int) = some (.inl (.inl false)) := by
          unfold octet_Noughts.s0
          rw [hC]
          simp [h1, hx, hn, hlt]
        rw [this]
        have e3 : ¬ (∀ y ∈ C[m] :: C.drop (m + 1), y = 0) := fun h => hn (h _ (List.mem_cons_self ..))
        simp only [e3, if_false]
theorem noughts_eq {fu : Nat} {b : List Int} {i n : Nat} (hl : b.length ≤ 9000000000000000000) (h : i + n ≤ b.length) (hf : n < fu) : octet_Noughts.f fu b (i : Int) (n : Int) = some (decide (∀ y ∈ (b.drop i).take n, y = 0)) := by
  unfold octet_Noughts.f
  rw [there_eq hl h]
  have w1 : IntKind.i64.wrap ((i : Int) + (n : Int)) = ((i + n : Nat) : Int) := by rw [w64 (by omega) (by omega)]; omega
  have hC : cut b (i : Int) (IntKind.i64.wrap ((i : Int) + (n : Int))) = (b.drop i).take n := by
    rw [w1]
    unfold cut
    rw [Int.toNat_natCast, Int.toNat_natCast, List.drop_take]
    congr 1
    omega
  have hlen : ((b.drop i).take n).length = n := by
    rw [List.length_take, List.length_drop]
    omega
  have := noughts_from (fu := fu) b (i : Int) (n : Int) hC (by omega) fu 0 (by omega) (by omega)
  rw [Int.natCast_zero, List.drop_zero] at this
  have c1 : 0 ≤ (i : Int) ∧ (i : Int) ≤ IntKind.i64.wrap ((i : Int) + (n : Int)) ∧ IntKind.i64.wrap ((i : Int) + (n : Int)) ≤ (b.length : Int) := by
    rw [w1]
    omega
  simp only [Option.bind_some, Bool.not_true, Bool.false_eq_true, if_false]
  rw [if_pos c1, this]
  by_cases hz : ∀ y ∈ (b.drop i).take n, y = 0
  · rw [if_pos hz]
    simp only [Option.bind_some, decide_eq_true hz]
  · rw [if_neg hz]
    simp only [Option.bind_some, decide_eq_false hz]
/-- Octets that are a block. -/
def Is (b : List Int) : Prop := b.length = 64 ∧ ix b 4 ≠ 0 ∧ b = sealed (summed (ix b 4) (ix b 5) (b.drop 8))
instance (b : List Int) : Decidable (Is b) := inferInstanceAs (Decidable (_ ∧ _))
theorem parts {b : List Int} (h : b.length = 64) : b = b.take 4 ++ ([ix b 4, ix b 5, ix b 6, ix b 7] ++ b.drop 8) := by
  have e : b.drop 4 = [ix b 4, ix b 5, ix b 6, ix b 7] ++ b.drop 8 := by
    have g : ∀ j : Nat, j < 64 → b.drop j = ix b (j : Int) :: b.drop (j + 1) := by
      intro j hj
      rw [List.drop_eq_getElem_cons (by omega), ix_nat (by omega)]
    rw [g 4 (by omega), g 5 (by omega), g 6 (by omega), g 7 (by omega)]
    rfl
  rw [← e, List.take_append_drop]
theorem gap_eq {b : List Int} (h : b.length = 64) : (b.drop 6).take 2 = [ix b 6, ix b 7] := by
  have g : ∀ j : Nat, j < 64 → b.drop j = ix b (j : Int) :: b.drop (j + 1) := by
    intro j hj
    rw [List.drop_eq_getElem_cons (by omega), ix_nat (by omega)]
  rw [g 6 (by omega), g 7 (by omega)]
  rfl
theorem drop4 {b : List Int} (h : b.length = 64) : b.drop 4 = [ix b 4, ix b 5, ix b 6, ix b 7] ++ b.drop 8 := by
  have g : ∀ j : Nat, j < 64 → b.drop j = ix b (j : Int) :: b.drop (j + 1) := by
    intro j hj
    rw [List.drop_eq_getElem_cons (by omega), ix_nat (by omega)]
  rw [g 4 (by omega), g 5 (by omega), g 6 (by omega), g 7 (by omega)]
  rfl
theorem summed_full (k t : Int) {body : List Int} (h : body.length = 56) : summed k t body = [k, t, 0, 0] ++ body := by
  unfold summed
  rw [h]
  simp
theorem is_iff {b : List Int} (hb : Bytes b) (h : b.length = 64) : b = sealed (summed (ix b 4) (ix b 5) (b.drop 8)) ↔ (ix b 6 = 0 ∧ ix b 7 = 0) ∧ num (b.take 4) = (crc (b.drop 4)).toNat := by
  have h8 : (b.drop 8).length = 56 := by rw [List.length_drop, h]
  have h4 : (b.take 4).length = 4 := by rw [List.length_take, h]; rfl
  rw [summed_full _ _ h8]
  constructor
  · intro e
    have e2 : b.take 4 ++ b.drop 4 = lay (crc ([ix b 4, ix b 5, 0, 0] ++ b.drop 8)).toNat 4 ++ ([ix b 4, ix b 5, 0, 0] ++ b.drop 8) := by
      rw [List.take_append_drop]
      exact e
    obtain ⟨e3, e4⟩ := List.append_inj e2 (by rw [h4, lay_len])
    have e5 := e4
    rw [drop4 h] at e5
    have e6 := List.append_inj_left e5 rfl
    simp only [List.cons.injEq, and_true, true_and] at e6
    refine ⟨e6, ?_⟩
    rw [e3, e4, num_lay]
    exact Nat.mod_eq_of_lt (crc _).isLt
  · rintro ⟨⟨h6, h7⟩, hn⟩
    have e4 : b.drop 4 = [ix b 4, ix b 5, 0, 0] ++ b.drop 8 := by
      have := drop4 h
      rw [h6, h7] at this
      exact this
    unfold sealed
    rw [← e4, ← hn]
    have := lay_num (hb.take 4)
    rw [h4] at this
    rw [this, List.take_append_drop]
theorem right_is {fu : Nat} {b : List Int} (hb : Bytes b) (hl : b.length ≤ 9000000000000000000) (hf : 100 < fu) : block_right.f fu b = some (decide (Is b)) := by
  unfold block_right.f
  by_cases h : b.length = 64
  · have hL : (b.length : Int) = 64 := by omega
    by_cases h4 : ix b 4 = 0
    · simp [hL, h4, Is]
    · have hn : octet_Noughts.f fu b 6 2 = some (decide (∀ y ∈ (b.drop 6).take 2, y = 0)) := noughts_eq (i := 6) (n := 2) hl (by omega) (by omega)
      have hg : (∀ y ∈ (b.drop 6).take 2, y = 0) ↔ ix b 6 = 0 ∧ ix b 7 = 0 := by
        rw [gap_eq h]
        simp
      by_cases hz : ix b 6 = 0 ∧ ix b 7 = 0
      · have c1 : cut b 0 4 = b.take 4 := by
          unfold cut
          rfl
        have c2 : cut b 4 (b.length : Int) = b.drop 4 := by
          unfold cut
          rw [Int.toNat_natCast, List.take_length]
          rfl
        have h4' : (b.take 4).length = 4 := by rw [List.length_take, h]; rfl
        have hr : octet_Read.f fu (b.take 4) = some ((num (b.take 4) : Nat) : Int) := read_eq (hb.take 4) (by omega) (by omega)
        have hlt : num (b.take 4) < 4294967296 := by
          have := num_lt (hb.take 4)
          rwa [h4'] at this
        have hd : (b.drop 4).length = 60 := by rw [List.length_drop, h]
        have hs : crc_Sum.f fu [b.drop 4] = some (I32 (crc (b.drop 4))) := sum_eq (hb.drop 4) (by omega) (by omega)
        have hw : IntKind.u32.wrap ((num (b.take 4) : Nat) : Int) = ((num (b.take 4) : Nat) : Int) := wu32 (by omega) (by omega)
        have hi : Is b ↔ num (b.take 4) = (crc (b.drop 4)).toNat := by
          unfold Is
          rw [is_iff hb h]
          exact ⟨fun x => x.2.2.2, fun x => ⟨h, h4, hz, x⟩⟩
        have hq : (I32 (crc (b.drop 4)) = ((num (b.take 4) : Nat) : Int)) ↔ Is b := by
          rw [hi]
          unfold I32
          omega
        unfold crc_Fits.f
        rw [hn, decide_eq_true (hg.2 hz), c1, c2, hr]
        simp only [Option.bind_some, hw, hs, hq]
        have hL5 : (4 : Int) < (b.length : Int) := by omega
        have hL6 : (4 : Int) ≤ (b.length : Int) := by omega
        simp [hL, h4]
      · have hi : ¬ Is b := by
          intro x
          unfold Is at x
          rw [is_iff hb h] at x
          exact hz x.2.2.1
        rw [hn, decide_eq_false (fun x => hz (hg.1 x))]
        simp [hL, h4, hi]
  · have hi : ¬ Is b := fun x => h x.1
    have hL : ¬ (b.length : Int) = 64 := by omega
    simp [hL, hi]
theorem open_eq {fu : Nat} {b : List Int} (hb : Bytes b) (hl : b.length ≤ 9000000000000000000) (hf : 100 < fu) : block_Open.f fu b = some (if Is b then (ix b 4, ix b 5, b.drop 8, true) else (0, 0, [], false)) := by
  unfold block_Open.f
  rw [right_is hb hl hf]
  by_cases h : Is b
  · have h0 := h.1
    have c2 : cut b 8 (b.length : Int) = b.drop 8 := by
      unfold cut
      rw [Int.toNat_natCast, List.take_length]
      rfl
    have hc : bytes_Clone.f fu (b.drop 8) = some (b.drop 8) := by
      unfold bytes_Clone.f
      rw [if_pos]
      rw [List.length_drop, h0]
      decide
    have h4 : 0 ≤ ix b 4 ∧ ix b 4 ≤ 255 := by
      have := ix_nat (l := b) (j := 4) (by omega)
      rw [show ((4 : Nat) : Int) = 4 from rfl] at this
      rw [this]
      exact hb _ (List.getElem_mem _)
    have h5 : 0 ≤ ix b 5 ∧ ix b 5 ≤ 255 := by
      have := ix_nat (l := b) (j := 5) (by omega)
      rw [show ((5 : Nat) : Int) = 5 from rfl] at this
      rw [this]
      exact hb _ (List.getElem_mem _)
    have w4 : IntKind.i64.wrap (ix b 4) = ix b 4 := w64 (by omega) (by omega)
    have w5 : IntKind.i64.wrap (ix b 5) = ix b 5 := w64 (by omega) (by omega)
    simp only [c2, hc, w4, w5]
    simp [h, h0]
  · simp [h]
theorem kind_eq {fu : Nat} {b : List Int} (hb : Bytes b) (hl : b.length ≤ 9000000000000000000) (hf : 100 < fu) : block_Kind.f fu b = some (if Is b then ix b 4 else 0) := by
  unfold block_Kind.f
  rw [right_is hb hl hf]
  by_cases h : Is b
  · have h0 := h.1
    have h4 : 0 ≤ ix b 4 ∧ ix b 4 ≤ 255 := by
      have := ix_nat (l := b) (j := 4) (by omega)
      rw [show ((4 : Nat) : Int) = 4 from rfl] at this
      rw [this]
      exact hb _ (List.getElem_mem _)
    have w4 : IntKind.i64.wrap (ix b 4) = ix b 4 := w64 (by omega) (by omega)
    simp [h, h0, w4]
  · simp [h]
theorem sealed_parts (k t : Int) (body : List Int) : ix (sealed (summed k t body)) 4 = k ∧ ix (sealed (summed k t body)) 5 = t ∧ (sealed (summed k t body)).drop 8 = body ++ List.replicate (56 - body.length) 0 := by
  unfold sealed
  obtain ⟨a, b, c, d, e⟩ : ∃ a b c d, lay (crc (summed k t body)).toNat 4 = [a, b, c, d] := ⟨_, _, _, _, rfl⟩
  rw [e]
  exact ⟨rfl, rfl, rfl⟩
theorem fulled (body : List Int) (h : body.length ≤ 56) : (body ++ List.replicate (56 - body.length) (0 : Int)).length = 56 := by
  simp
  omega
theorem is_sealed {k t : Int} {body : List Int} (hk : k ≠ 0) (hl : body.length ≤ 56) : Is (sealed (summed k t body)) := by
  obtain ⟨h4, h5, h8⟩ := sealed_parts k t body
  refine ⟨sealed_len (summed_len hl), by rw [h4]; exact hk, ?_⟩
  rw [h4, h5, h8, summed_full k t (fulled body hl)]
  rfl
theorem ix_byte {b : List Int} (hb : Bytes b) (j : Nat) (h : j < b.length) : 0 ≤ ix b (j : Int) ∧ ix b (j : Int) ≤ 255 := by
  rw [ix_nat h]
  exact hb _ (List.getElem_mem _)
theorem ropen_eq {fu : Nat} {b : List Int} (hb : Bytes b) (hf : 100 < fu) : rickyardref07_Open.f fu b = some (if Is b then (ix b 4, ix b 5, (b.drop 8).map toB, true) else (0, 0, [], false)) := by
  unfold rickyardref07_Open.f
  by_cases h : b.length = 64
  · have hL : (b.length : Int) = 64 := by omega
    have b4 := ix_byte hb 4 (by omega)
    have b5 := ix_byte hb 5 (by omega)
    rw [show ((4 : Nat) : Int) = 4 from rfl] at b4
    rw [show ((5 : Nat) : Int) = 5 from rfl] at b5
    have w4 : IntKind.i64.wrap (ix b 4) = ix b 4 := w64 (by omega) (by omega)
    have w5 : IntKind.i64.wrap (ix b 5) = ix b 5 := w64 (by omega) (by omega)
    have c2 : cut b 8 (b.length : Int) = b.drop 8 := by
      unfold cut
      rw [Int.toNat_natCast, List.take_length]
      rfl
    have h8 : (b.drop 8).length = 56 := by rw [List.length_drop, h]
    have hs : rickyardref07_Seal.f fu (ix b 4) (ix b 5) ((b.drop 8).map toB) = some ((sealed (summed (ix b 4) (ix b 5) (b.drop 8))).map toB) := rseal_eq (hb.drop 8) b4 b5 (by omega) hf
    have hq : (sealed (summed (ix b 4) (ix b 5) (b.drop 8))).map toB = b.map toB ↔ b = sealed (summed (ix b 4) (ix b 5) (b.drop 8)) :=
      (map_toB_iff (sealed_bytes (summed_bytes b4 b5 (hb.drop 8))) hb).trans ⟨Eq.symm, Eq.symm⟩
    rw [c2, w4, w5]
    by_cases h4 : ix b 4 = 0
    · have hi : ¬ Is b := fun x => x.2.1 h4
      simp [hL, h4, hi]
    · by_cases he : b = sealed (summed (ix b 4) (ix b 5) (b.drop 8))
      · have hi : Is b := ⟨h, h4, he⟩
        simp only [hs, hq.2 he]
        simp [hL, h4, hi]
      · have hi : ¬ Is b := fun x => he x.2.2
        have hne : ¬ (sealed (summed (ix b 4) (ix b 5) (b.drop 8))).map toB = b.map toB := fun x => he (hq.1 x)
        simp only [hs, hne]
        simp [hL, h4, hi]
        exact hne
  · have hi : ¬ Is b := fun x => h x.1
    have hL : ¬ (b.length : Int) = 64 := by omega
    simp [hL, hi]
theorem bytes_of {l : List Int} (h : ∀ x ∈ l, (Lit.int .u8 x).wf = true) : Bytes l := fun x hx => wf8.1 (h x hx)
end Go.Proofs.Ytjhajfkfhdnciaa.Pure

/- Blocks that are sealed anew; arrays filled place by place. -/
set_option linter.unusedVariables false
set_option linter.unusedSimpArgs false
namespace Go.Proofs.Ytjhajfkfhdnciaa.Pure
open Go Go.Xw
theorem summed_fulled (k t : Int) (body : List Int) (h : body.length ≤ 56) : summed k t body = summed k t (body ++ List.replicate (56 - body.length) 0) := by
  rw [summed_full k t (fulled body h)]
  rfl
theorem sealed_iff {b : List Int} (hi : Is b) {k t : Int} {body : List Int} (hl : body.length ≤ 56) : sealed (summed k t body) = b ↔ k = ix b 4 ∧ t = ix b 5 ∧ body ++ List.replicate (56 - body.length) 0 = b.drop 8 := by
  obtain ⟨p4, p5, p8⟩ := sealed_parts k t body
  constructor
  · intro e
    rw [← e]
    exact ⟨p4.symm, p5.symm, p8.symm⟩
  · rintro ⟨h1, h2, h3⟩
    rw [summed_fulled k t body hl, h1, h2, h3]
    exact hi.2.2.symm
theorem sealed_map_iff {b : List Int} (hb : Bytes b) (hi : Is b) {k t : Int} {body : List Int} (hk : 0 ≤ k ∧ k ≤ 255) (ht : 0 ≤ t ∧ t ≤ 255) (hbb : Bytes body) (hl : body.length ≤ 56) :
    (sealed (summed k t body)).map toB = b.map toB ↔ k = ix b 4 ∧ t = ix b 5 ∧ body ++ List.replicate (56 - body.length) 0 = b.drop 8 :=
  (map_toB_iff (sealed_bytes (summed_bytes hk ht hbb)) hb).trans (sealed_iff hi hl)
theorem is_tag {b : List Int} (hb : Bytes b) (hi : Is b) : (0 ≤ ix b 4 ∧ ix b 4 ≤ 255) ∧ (0 ≤ ix b 5 ∧ ix b 5 ≤ 255) := by
  have h0 := hi.1
  exact ⟨ix_byte hb 4 (by omega), ix_byte hb 5 (by omega)⟩
theorem is_body {b : List Int} (hi : Is b) : (b.drop 8).length = 56 := by rw [List.length_drop, hi.1]
theorem full_iff {body full : List Int} (hl : body.length ≤ 56) (hf : full.length = 56) : body ++ List.replicate (56 - body.length) 0 = full ↔ body = full.take body.length ∧ ∀ y ∈ full.drop body.length, y = 0 := by
  constructor
  · intro e
    subst e
    refine ⟨by simp, fun y hy => ?_⟩
    rw [List.drop_left' rfl] at hy
    exact List.eq_of_mem_replicate hy
  · rintro ⟨h1, h2⟩
    have h3 : full.drop body.length = List.replicate (56 - body.length) 0 := by
      apply List.eq_replicate_iff.2
      exact ⟨by rw [List.length_drop, hf], h2⟩
    rw [← h3]
    conv => lhs; lhs; rw [h1]
    exact List.take_append_drop _ _
/-! ### Arrays filled place by place -/
def fillA {n : Nat} {α : Type} (f : Nat → α) (a : Arr n α) : Nat → Arr n α
  | 0 => a
  | j + 1 => Arr.set (fillA f a j) (j : Int) (f j)
theorem fillA_l {n : Nat} {α : Type} (f : Nat → α) (a : Arr n α) : ∀ j, j ≤ n → (fillA f a j).l = (List.range j).map f ++ a.l.drop j
  | 0, _ => by simp [fillA]
  | j + 1, h => by
    have ih := fillA_l f a j (by omega)
    have ha := a.h
    show List.set (fillA f a j).l (Int.toNat (j : Int)) (f j) = _
    rw [ih, Int.toNat_natCast, List.set_append_right _ _ (by simp), List.length_map, List.length_range, Nat.sub_self, List.range_succ, List.map_append]
    rw [List.drop_eq_getElem_cons (by omega), List.set_cons_zero]
    simp
theorem fillA_all {n : Nat} {α : Type} (f : Nat → α) (a : Arr n α) : (fillA f a n).l = (List.range n).map f := by
  rw [fillA_l f a n (Nat.le_refl _)]
  have := a.h
  simp [← this]
theorem take_range {l : List Int} {n : Nat} (h : n ≤ l.length) : l.take n = (List.range n).map fun (j : Nat) => ix l (j : Int) := by
  apply List.ext_getElem
  · simp [h]
  · intro i h1 h2
    have hi : i < n := by simpa using h2
    simp [ix_nat (show i < l.length by omega)]
theorem getA {n : Nat} {α : Type} [Inhabited α] (a : Arr n α) {i : Nat} (hi : i < n) : Arr.get a (i : Int) = a.l[i]'(by rw [a.h]; exact hi) := by
  have hl : i < a.l.length := by rw [a.h]; exact hi
  simp [Arr.get, ix, List.getD_eq_getElem?_getD, List.getElem?_eq_getElem hl]
theorem lA {n : Nat} {α : Type} [Inhabited α] (a : Arr n α) : a.l = (List.range n).map fun (i : Nat) => Arr.get a (i : Int) := by
  apply List.ext_getElem
  · simp [a.h]
  · intro i h1 h2
    have hi : i < n := by rw [← a.h]; exact h1
    simp [getA a hi]
theorem getD_toB {l : List Int} (hb : Bytes l) {i : Nat} (h : i < l.length) : ofB (List.getD (l.map toB) (Int.toNat (i : Int)) 0) = ix l (i : Int) := by
  rw [Int.toNat_natCast, List.getD_eq_getElem?_getD, List.getElem?_map, List.getElem?_eq_getElem h, ix_nat h]
  have := of_toB (l := [l[i]]) (by intro x hx; obtain rfl := List.mem_singleton.1 hx; exact hb _ (List.getElem_mem h))
  simpa using this
end Go.Proofs.Ytjhajfkfhdnciaa.Pure

/- rickyard/rickyardref01.Number: its model, and that the Go function computes it: written by gen.py. -/
set_option linter.unusedVariables false
namespace Go.Proofs.Ytjhajfkfhdnciaa
open Go Go.Xw
def rickyardref01_Number.s0 (fu : Nat) (a0 : List UInt8) : (Int × Int) → Option (Sum Int (Int × Int)) := fun s1 => (if (decide (s1.2 ≥ 0)) = true then (((if (decide (s1.2 < 8)) = true then (if 0 ≤ s1.2 ∧ s1.2 < (List.length a0 : Int) then some ((IntKind.u64.wrap ((IntKind.u64.wrap (s1.1 * 256)) + (IntKind.u64.wrap (ofB (List.getD a0 (Int.toNat s1.2) 0)))))) else none) else some (s1.1)) : Option Int).bind fun x9 => some (Sum.inr (x9, (IntKind.i64.wrap (s1.2 - 1))))) else some (Sum.inl (s1.1)))
def rickyardref01_Number.f (fu : Nat) (a0 : List UInt8) : Option Int := ((loopM (rickyardref01_Number.s0 fu a0) fu (0, (IntKind.i64.wrap ((List.length a0 : Int) - 1)))).bind fun e2 => some (e2))
set_option maxRecDepth 100000 in
set_option maxHeartbeats 400000 in
theorem rickyardref01_Number.ok (fu : Nat) (w : World) (a0 : List UInt8) (r : Int) (h : rickyardref01_Number.f fu a0 = some r) :
    Calls Try.prog 136 (([sv a0] : List Value).toArray) w (fun e w' => ∃ v, e = .returned v ∧ v = .int .u64 r ∧ Gr w w') := by
  unfold rickyardref01_Number.f at h
  have fB : Gr w w := Fr.refl _ _
  refine calls_cw Try.func136 rfl Try.ntmps136 rfl ?_
  refine cw_seq ?_
  refine cw_region ?_
  refine ol_val (v := .int .u64 0) (by exact xr_assign rfl rfl) rfl rfl rfl ?_
  refine ol_nil ?_
  refine cw_seq ?_
  refine cw_region ?_
  refine ol_val (v := .int .u64 0) (by exact xr_assign rfl rfl) rfl rfl rfl ?_
  refine ol_nil ?_
  refine cw_seq ?_
  refine cw_seq ?_
  refine cw_region ?_
  refine ol_val (v := sv a0) (by exact xr_move rfl rfl) rfl rfl rfl ?_
  refine ol_val (v := .int .i64 (List.length a0 : Int)) (by exact xr_lenStr rfl Try.underlying9 rfl) rfl rfl rfl ?_
  refine ol_val (v := .int .i64 (IntKind.i64.wrap ((List.length a0 : Int) - 1))) (by exact xr_sub rfl rfl rfl) rfl rfl rfl ?_
  refine ol_val (v := .int .i64 (IntKind.i64.wrap ((List.length a0 : Int) - 1))) (by exact xr_assign rfl rfl) rfl rfl rfl ?_
  refine ol_nil ?_
  obtain ⟨e2, l3, h4⟩ := bs h
  refine cw_mid (fun ρ' w' => ρ' 3 = .int .u64 e2 ∧ Gr w w') ?_ ?_
  · refine cw_block ?_
    refine cw_round (fun (s1 : Int × Int) ρ' w' => ρ' 0 = sv a0 ∧ ρ' 3 = .int .u64 s1.1 ∧ ρ' 4 = .int .i64 s1.2 ∧ Gr w w') l3 ?_ ?_
    · skip
      exact ⟨rfl, rfl, rfl, fB⟩
    · rintro s1 x7 ρ5 w6 ⟨e0, e3, e4, fB⟩ h
      unfold rickyardref01_Number.s0 at h
      refine cw_seq ?_
      refine cw_seq ?_
      refine cw_region ?_
      refine ol_val (v := .int .i64 s1.2) (by exact xr_move rfl e4) rfl rfl rfl ?_
      refine ol_val (v := .bool (decide (s1.2 ≥ 0))) (by exact xr_geq rfl rfl rfl) rfl rfl rfl ?_
      refine ol_nil ?_
      rcases is h with ⟨c8, h⟩ | ⟨c8, h⟩
      · refine cw_condT rfl c8 ?_
        refine cw_skip ?_
        refine cw_seq ?_
        refine cw_block ?_
        refine cw_seq ?_
        refine cw_region ?_
        refine ol_val (v := .int .i64 s1.2) (by exact xr_move rfl e4) rfl rfl rfl ?_
        refine ol_val (v := .bool (decide (s1.2 < 8))) (by exact xr_lss rfl rfl rfl) rfl rfl rfl ?_
        refine ol_nil ?_
        obtain ⟨x9, j10, h11⟩ := bs h
        refine cw_mid (fun ρ' w' => ρ' 0 = sv a0 ∧ ρ' 3 = .int .u64 x9 ∧ ρ' 4 = .int .i64 s1.2 ∧ Gr w w') ?_ ?_
        · have h := j10
          rcases is h with ⟨c12, h⟩ | ⟨c12, h⟩
          · refine cw_condT rfl c12 ?_
            refine cw_region ?_
            refine ol_val (v := .int .u64 s1.1) (by exact xr_move rfl e3) rfl rfl rfl ?_
            refine ol_val (v := .int .u64 (IntKind.u64.wrap (s1.1 * 256))) (by exact xr_mul rfl rfl rfl) rfl rfl rfl ?_
            refine ol_val (v := sv a0) (by exact xr_move rfl e0) rfl rfl rfl ?_
            refine ol_val (v := .int .i64 s1.2) (by exact xr_move rfl e4) rfl rfl rfl ?_
            obtain ⟨g13, h⟩ := gs h
            refine ol_val (v := .int .u8 (ofB (List.getD a0 (Int.toNat s1.2) 0))) (by exact xr_indexStr rfl Try.underlying9 rfl rfl g13.1 g13.2) rfl rfl rfl ?_
            refine ol_val (v := .int .u64 (IntKind.u64.wrap (ofB (List.getD a0 (Int.toNat s1.2) 0)))) (by exact xr_conv rfl Try.underlying5 Try.underlying129 rfl) rfl rfl rfl ?_
            refine ol_val (v := .int .u64 (IntKind.u64.wrap ((IntKind.u64.wrap (s1.1 * 256)) + (IntKind.u64.wrap (ofB (List.getD a0 (Int.toNat s1.2) 0)))))) (by exact xr_add rfl rfl rfl) rfl rfl rfl ?_
            refine ol_val (v := .int .u64 (IntKind.u64.wrap ((IntKind.u64.wrap (s1.1 * 256)) + (IntKind.u64.wrap (ofB (List.getD a0 (Int.toNat s1.2) 0)))))) (by exact xr_assign rfl rfl) rfl rfl rfl ?_
            refine ol_nil ?_
            obtain rfl := Option.some.inj h
            refine thn_i ?_
            exact ⟨e0, rfl, e4, fB⟩
          · refine cw_condF rfl c12 ?_
            refine cw_skip ?_
            obtain rfl := Option.some.inj h
            refine thn_i ?_
            exact ⟨e0, e3, e4, fB⟩
        · rintro ρ14 w15 ⟨e0, e3, e4, fB⟩
          have h := h11
          refine blk_i ?_
          refine cw_region ?_
          refine ol_val (v := .int .i64 s1.2) (by exact xr_move rfl e4) rfl rfl rfl ?_
          refine ol_val (v := .int .i64 (IntKind.i64.wrap (s1.2 - 1))) (by exact xr_sub rfl rfl rfl) rfl rfl rfl ?_
          refine ol_val (v := .int .i64 (IntKind.i64.wrap (s1.2 - 1))) (by exact xr_assign rfl rfl) rfl rfl rfl ?_
          refine ol_nil ?_
          obtain rfl := Option.some.inj h
          refine lp_in ?_
          exact ⟨e0, e3, rfl, fB⟩
      · refine cw_condF rfl c8 ?_
        refine cw_exit ?_
        repeat (first | with_reducible refine thn_e ?_ | with_reducible refine blk_e rfl ?_)
        obtain rfl := Option.some.inj h
        refine lp_exit ?_
        rintro rfl
        refine thn_x ?_
        exact ⟨e3, fB⟩
  · rintro ρ16 w17 ⟨e3, fB⟩
    have h := h4
    refine cw_seq ?_
    refine cw_region ?_
    refine ol_val (v := .int .u64 e2) (by exact xr_move rfl e3) rfl rfl rfl ?_
    refine ol_val (v := .int .u64 e2) (by exact xr_assign rfl rfl) rfl rfl rfl ?_
    refine ol_nil ?_
    refine cw_ret ?_
    repeat (first | with_reducible refine thn_r ?_ | with_reducible refine blk_r ?_)
    obtain rfl := Option.some.inj h
    refine fin_ret1 Try.results136 rfl ?_
    exact ⟨_, rfl, rfl, fB⟩
end Go.Proofs.Ytjhajfkfhdnciaa

/- rickyard/rickyardref01.Int: its model, and that the Go function computes it: written by gen.py. -/
set_option linter.unusedVariables false
namespace Go.Proofs.Ytjhajfkfhdnciaa
open Go Go.Xw
def rickyardref01_Int.f (fu : Nat) (a0 : List UInt8) : Option Int := ((rickyardref01_Number.f fu a0 : Option Int).bind fun t1 => some ((IntKind.i64.wrap t1)))
set_option maxRecDepth 100000 in
set_option maxHeartbeats 400000 in
theorem rickyardref01_Int.ok (fu : Nat) (w : World) (a0 : List UInt8) (r : Int) (h : rickyardref01_Int.f fu a0 = some r) :
    Calls Try.prog 103 (([sv a0] : List Value).toArray) w (fun e w' => ∃ v, e = .returned v ∧ v = .int .i64 r ∧ Gr w w') := by
  unfold rickyardref01_Int.f at h
  have fB : Gr w w := Fr.refl _ _
  refine calls_cw Try.func103 rfl Try.ntmps103 rfl ?_
  refine cw_seq ?_
  refine cw_region ?_
  refine ol_val (v := .int .i64 0) (by exact xr_assign rfl rfl) rfl rfl rfl ?_
  refine ol_nil ?_
  refine cw_seq ?_
  refine cw_region ?_
  refine ol_val (v := sv a0) (by exact xr_move rfl rfl) rfl rfl rfl ?_
  obtain ⟨t1, k2, h⟩ := bs h
  refine ol_op (by exact opv_call rfl cal136 (ac rfl an) (rickyardref01_Number.ok fu _ a0 _ k2)) rfl rfl rfl ?_
  rintro _ w4 ⟨rfl, q3⟩
  have fB := fB.gr q3
  refine ol_val (v := .int .i64 (IntKind.i64.wrap t1)) (by exact xr_conv rfl Try.underlying129 Try.underlying3 rfl) rfl rfl rfl ?_
  refine ol_val (v := .int .i64 (IntKind.i64.wrap t1)) (by exact xr_assign rfl rfl) rfl rfl rfl ?_
  refine ol_nil ?_
  refine cw_ret ?_
  repeat (first | with_reducible refine thn_r ?_ | with_reducible refine blk_r ?_)
  obtain rfl := Option.some.inj h
  refine fin_ret1 Try.results103 rfl ?_
  exact ⟨_, rfl, rfl, fB⟩
end Go.Proofs.Ytjhajfkfhdnciaa

/- Numbers laid as octets and read again, as the program and the document do it. -/
set_option linter.unusedVariables false
set_option linter.unusedSimpArgs false
namespace Go.Proofs.Ytjhajfkfhdnciaa.Pure
open Go Go.Xw
def u64n (x : Int) : Nat := (x % 18446744073709551616).toNat
theorem u64_wrap (x : Int) : IntKind.u64.wrap x = (u64n x : Int) := by
  unfold u64n IntKind.wrap
  simp only [IntKind.signed, IntKind.bits]
  simp
  omega
theorem u64n_lt (x : Int) : u64n x < 18446744073709551616 := by
  unfold u64n
  omega
theorem u64n_of {x : Int} (h0 : 0 ≤ x) (h1 : x ≤ 18446744073709551615) : u64n x = x.toNat := by
  unfold u64n
  rw [Int.emod_eq_of_lt h0 (by omega)]
theorem i64_u64 {x : Int} (h0 : -9223372036854775808 ≤ x) (h1 : x ≤ 9223372036854775807) : IntKind.i64.wrap (u64n x : Int) = x := by
  unfold u64n IntKind.wrap
  simp only [IntKind.signed, IntKind.bits]
  simp
  split <;> omega
theorem olay64 {fu n : Nat} {x : Int} (hn : n ≤ 8) (hf : n < fu) : octet_Lay.f fu (IntKind.u64.wrap x) (n : Int) = some (lay (u64n x) n) := by
  rw [u64_wrap]
  exact olay_eq hn hf
theorem rlay64 {fu n : Nat} {x : Int} (hn : n ≤ 8) (hf : n < fu) : rickyardref01_Lay.f fu (IntKind.u64.wrap x) (n : Int) = some ((lay (u64n x) n).map toB) := by
  rw [u64_wrap]
  exact rlay_eq (u64n_lt x) hn hf
theorem num_lt8 {l : List Int} (hb : Bytes l) (hl : l.length ≤ 8) : num l < 18446744073709551616 := by
  have h1 := num_lt hb
  have h2 : (256 : Nat) ^ l.length ≤ 256 ^ 8 := Nat.pow_le_pow_right (by decide) hl
  have h3 : (256 : Nat) ^ 8 = 18446744073709551616 := by decide
  omega
theorem rnumber_eq {fu : Nat} {l : List Int} (hb : Bytes l) (hl : l.length ≤ 8) (hf : l.length < fu) : rickyardref01_Number.f fu (l.map toB) = some ((num l : Nat) : Int) := by
  unfold rickyardref01_Number.f
  have w0 : IntKind.i64.wrap (((l.map toB).length : Int) - 1) = (l.length : Int) - 1 := by rw [List.length_map, w64 (by omega) (by omega)]
  rw [w0]
  have : loopM (rickyardref01_Number.s0 fu (l.map toB)) fu (0, (l.length : Int) - 1) = some ((num l : Nat) : Int) := by
    refine loopM_run (S := fun j => (((num (l.drop (l.length - j)) : Nat) : Int), (l.length : Int) - 1 - (j : Int))) l.length (by simp [num]) ?_ ?_ hf
    · intro j hj
      unfold rickyardref01_Number.s0
      obtain ⟨i, hi⟩ : ∃ i : Nat, l.length - j = i + 1 := ⟨l.length - j - 1, by omega⟩
      have e1 : (l.length : Int) - 1 - (j : Int) = (i : Int) := by omega
      have hil : i < l.length := by omega
      have e2 : l.length - (j + 1) = i := by omega
      have c1 : (i : Int) ≥ 0 := by omega
      have c2 : (i : Int) < 8 := by omega
      have c3 : True ∧ (i : Int) < ((l.map toB).length : Int) := ⟨trivial, by rw [List.length_map]; omega⟩
      have w1 : IntKind.i64.wrap ((i : Int) - 1) = (l.length : Int) - 1 - ((j + 1 : Nat) : Int) := by rw [w64 (by omega) (by omega)]; omega
      have hcb := hb _ (List.getElem_mem hil)
      obtain ⟨c, hc⟩ : ∃ c : Nat, l[i] = (c : Int) := ⟨l[i].toNat, by omega⟩
      have hd : l.drop i = l[i] :: l.drop (i + 1) := List.drop_eq_getElem_cons hil
      have hn : num (l.drop i) = c + 256 * num (l.drop (i + 1)) := by rw [hd, num, hc, Int.toNat_natCast]
      have hlt := num_lt8 (hb.drop i) (by rw [List.length_drop]; omega)
      rw [hn] at hlt
      have w2 : IntKind.u64.wrap (((num (l.drop (i + 1)) : Nat) : Int) * 256) = ((num (l.drop (i + 1)) : Nat) : Int) * 256 := wu64 (by omega) (by omega)
      have w3 : IntKind.u64.wrap (ix l (i : Int)) = (c : Int) := by rw [ix_nat hil, hc, wu64 (by omega) (by omega)]
      have w4 : IntKind.u64.wrap (((num (l.drop (i + 1)) : Nat) : Int) * 256 + (c : Int)) = ((num (l.drop i) : Nat) : Int) := by rw [wu64 (by omega) (by omega), hn]; omega
      simp only [e1, hi, e2, getD_toB hb hil, w1, w2, w3, w4, c1, c2, decide_true, if_true]
      rw [if_pos c3]
      rfl
    · unfold rickyardref01_Number.s0
      have : ¬ (l.length : Int) - 1 - (l.length : Int) ≥ 0 := by omega
      simp only [this]
      simp
  rw [this]
  rfl
theorem rint_eq {fu : Nat} {l : List Int} (hb : Bytes l) (hl : l.length ≤ 8) (hf : l.length < fu) : rickyardref01_Int.f fu (l.map toB) = some (IntKind.i64.wrap ((num l : Nat) : Int)) := by
  unfold rickyardref01_Int.f
  rw [rnumber_eq hb hl hf]
  rfl
theorem num_small {l : List Int} (hb : Bytes l) (hl : l.length ≤ 7) : IntKind.i64.wrap ((num l : Nat) : Int) = ((num l : Nat) : Int) := by
  have h1 := num_lt hb
  have h2 : (256 : Nat) ^ l.length ≤ 256 ^ 7 := Nat.pow_le_pow_right (by decide) hl
  have h3 : (256 : Nat) ^ 7 = 72057594037927936 := by decide
  exact w64 (by omega) (by omega)
/-! ### Rows of fields of one width -/
/-- The i-th field of w octets. -/
def fieldAt (l : List Int) (w i : Nat) : List Int := (l.drop (w * i)).take w
theorem fieldAt_len {l : List Int} {w i n : Nat} (h : w * n ≤ l.length) (hi : i < n) : (fieldAt l w i).length = w := by
  have : w * (i + 1) ≤ w * n := Nat.mul_le_mul_left w hi
  rw [Nat.mul_succ] at this
  unfold fieldAt
  rw [List.length_take, List.length_drop]
  omega
theorem fieldAt_bytes {l : List Int} (hb : Bytes l) (w i : Nat) : Bytes (fieldAt l w i) := (hb.drop _).take _
theorem cut_eq (l : List Int) (i n : Nat) : cut l (i : Int) ((i + n : Nat) : Int) = (l.drop i).take n := by
  unfold cut
  rw [Int.toNat_natCast, Int.toNat_natCast, List.drop_take]
  congr 1
  omega
theorem flat_len {α : Type} {g : Nat → List α} {w : Nat} (hg : ∀ i, (g i).length = w) : ∀ n, ((List.range n).flatMap g).length = w * n
  | 0 => by simp
  | n + 1 => by
    rw [List.range_succ, List.flatMap_append, List.length_append, flat_len hg n]
    simp [hg, Nat.mul_succ]
theorem flat_succ {α : Type} (g : Nat → List α) (n : Nat) : (List.range (n + 1)).flatMap g = (List.range n).flatMap g ++ g n := by
  rw [List.range_succ, List.flatMap_append]
  simp
theorem flat_field {g : Nat → List Int} {w : Nat} (hg : ∀ i, (g i).length = w) {n i : Nat} (hi : i < n) (t : List Int) : fieldAt ((List.range n).flatMap g ++ t) w i = g i := by
  have e : (List.range n).flatMap g = (List.range i).flatMap g ++ (g i ++ ((List.range (n - i - 1)).map (i + 1 + ·)).flatMap g) := by
    have h1 : n = i + (1 + (n - i - 1)) := by omega
    conv => lhs; rw [h1]
    rw [List.range_add, List.flatMap_append, List.range_add, List.map_append, List.flatMap_append]
    congr 1
    simp [List.map_map, Function.comp_def, Nat.add_assoc]
  unfold fieldAt
  rw [e, List.append_assoc, List.drop_left' (flat_len hg i), List.append_assoc, List.take_left' (hg i)]
theorem field_flat {l : List Int} {w : Nat} : ∀ n, w * n ≤ l.length → (List.range n).flatMap (fieldAt l w) = l.take (w * n)
  | 0, _ => by simp
  | n + 1, h => by
    rw [Nat.mul_succ] at h
    rw [flat_succ, field_flat n (by omega), Nat.mul_succ, List.take_add]
    rfl
theorem flat_congr {α : Type} {g k : Nat → List α} {n : Nat} (h : ∀ i, i < n → g i = k i) : (List.range n).flatMap g = (List.range n).flatMap k := by
  induction n with
  | zero => rfl
  | succ n ih => rw [flat_succ, flat_succ, ih fun i hi => h i (by omega), h n (by omega)]
theorem flat_bytes {g : Nat → List Int} (hg : ∀ i, Bytes (g i)) (n : Nat) : Bytes ((List.range n).flatMap g) := by
  intro x hx
  obtain ⟨i, _, h⟩ := List.mem_flatMap.1 hx
  exact hg i x h
theorem flat_map {g : Nat → List Int} (n : Nat) : ((List.range n).flatMap g).map toB = (List.range n).flatMap fun i => (g i).map toB := by
  induction n with
  | zero => rfl
  | succ n ih => rw [flat_succ, flat_succ, List.map_append, ih]
end Go.Proofs.Ytjhajfkfhdnciaa.Pure

/- slices.Equal[[]int,int]: its model, and that the Go function computes it: written by gen.py. -/
set_option linter.unusedVariables false
namespace Go.Proofs.Ytjhajfkfhdnciaa
open Go Go.Xw
def slices_Equal.s0 (fu : Nat) (a0 : List Int) (a1 : List Int) : Int → Option (Sum (Sum Bool Unit) Int) := fun s2 => (if (decide (s2 < (List.length a0 : Int))) = true then (if 0 ≤ s2 ∧ s2 < (List.length a0 : Int) then (if 0 ≤ s2 ∧ s2 < (List.length a1 : Int) then (if (!decide ((ix a0 s2) = (ix a1 s2))) = true then some (Sum.inl (Sum.inl (false))) else some (Sum.inr ((IntKind.i64.wrap (s2 + 1))))) else none) else none) else some (Sum.inl (Sum.inr ())))
def slices_Equal.f (fu : Nat) (a0 : List Int) (a1 : List Int) : Option Bool := (if (!decide ((List.length a0 : Int) = (List.length a1 : Int))) = true then some (false) else ((loopM (slices_Equal.s0 fu a0 a1) fu (0)).bind fun e3 => match e3 with | Sum.inl p => some p | Sum.inr x6 => some (true)))
set_option maxRecDepth 100000 in
set_option maxHeartbeats 400000 in
theorem slices_Equal.ok (fu : Nat) (w : World) (a0 : List Int) (V0_0 : Value) (R0_0 : Rd (kI .i64) w V0_0 a0) (a1 : List Int) (V1_0 : Value) (R1_0 : Rd (kI .i64) w V1_0 a1) (r : Bool) (h : slices_Equal.f fu a0 a1 = some r) :
    Calls Try.prog 110 (([V0_0, V1_0] : List Value).toArray) w (fun e w' => ∃ v, e = .returned v ∧ v = .bool r ∧ Gr w w') := by
  unfold slices_Equal.f at h
  have fB : Gr w w := Fr.refl _ _
  refine calls_cw Try.func110 rfl Try.ntmps110 rfl ?_
  refine cw_seq ?_
  refine cw_region ?_
  refine ol_val (v := .bool false) (by exact xr_assign rfl rfl) rfl rfl rfl ?_
  refine ol_nil ?_
  refine cw_seq ?_
  refine cw_seq ?_
  refine cw_region ?_
  refine ol_val (v := V0_0) (by exact xr_move rfl rfl) rfl rfl rfl ?_
  refine ol_val (v := .int .i64 (List.length a0 : Int)) (by exact xr_lenR rfl Try.underlying45 rfl (R0_0.gr fB)) rfl rfl rfl ?_
  refine ol_val (v := V1_0) (by exact xr_move rfl rfl) rfl rfl rfl ?_
  refine ol_val (v := .int .i64 (List.length a1 : Int)) (by exact xr_lenR rfl Try.underlying45 rfl (R1_0.gr fB)) rfl rfl rfl ?_
  refine ol_val (v := .bool (!decide ((List.length a0 : Int) = (List.length a1 : Int)))) (by exact xr_neI rfl Try.underlying3 rfl rfl rfl) rfl rfl rfl ?_
  refine ol_nil ?_
  rcases is h with ⟨c1, h⟩ | ⟨c1, h⟩
  · refine cw_condT rfl c1 ?_
    refine cw_seq ?_
    refine cw_region ?_
    refine ol_val (v := .bool false) (by exact xr_assign rfl rfl) rfl rfl rfl ?_
    refine ol_nil ?_
    refine cw_ret ?_
    repeat (first | with_reducible refine thn_r ?_ | with_reducible refine blk_r ?_)
    obtain rfl := Option.some.inj h
    refine fin_ret1 Try.results110 rfl ?_
    exact ⟨_, rfl, rfl, fB⟩
  · refine cw_condF rfl c1 ?_
    refine cw_skip ?_
    refine cw_seq ?_
    refine cw_seq ?_
    refine cw_region ?_
    refine ol_val (v := V0_0) (by exact xr_move rfl rfl) rfl rfl rfl ?_
    refine ol_val (v := .int .i64 (List.length a0 : Int)) (by exact xr_lenR rfl Try.underlying45 rfl (R0_0.gr fB)) rfl rfl rfl ?_
    refine ol_val (v := .int .i64 0) (by exact xr_move rfl rfl) rfl rfl rfl ?_
    refine ol_nil ?_
    obtain ⟨e3, l4, h5⟩ := bs h
    refine cw_mid (fun ρ' w' => ∃ x6, e3 = Sum.inr x6 ∧ Gr w w') ?_ ?_
    · refine cw_block ?_
      refine cw_round (fun (s2 : Int) ρ' w' => ρ' 0 = V0_0 ∧ ρ' 1 = V1_0 ∧ ρ' 12 = .int .i64 (List.length a0 : Int) ∧ ρ' 13 = .int .i64 s2 ∧ Gr w w') l4 ?_ ?_
      · skip
        exact ⟨rfl, rfl, rfl, rfl, fB⟩
      · rintro s2 x9 ρ7 w8 ⟨e0, e1, e12, e13, fB⟩ h
        unfold slices_Equal.s0 at h
        refine cw_seq ?_
        refine cw_region ?_
        refine ol_val (v := .bool (decide (s2 < (List.length a0 : Int)))) (by exact xr_lss rfl e13 e12) rfl rfl rfl ?_
        refine ol_nil ?_
        refine cw_seq ?_
        rcases is h with ⟨c10, h⟩ | ⟨c10, h⟩
        · refine cw_condT rfl c10 ?_
          refine cw_skip ?_
          refine cw_seq ?_
          refine cw_block ?_
          refine cw_seq ?_
          refine cw_region ?_
          refine ol_val (v := .int .i64 s2) (by exact xr_move rfl e13) rfl rfl rfl ?_
          refine ol_val (v := .int .i64 s2) (by exact xr_assign rfl rfl) rfl rfl rfl ?_
          refine ol_nil ?_
          refine cw_seq ?_
          obtain ⟨g11, h⟩ := gs h
          obtain ⟨g12, h⟩ := gs h
          refine cw_drawL 8 [fun vz wz => vz = (V0_0 : Value), fun vz wz => vz = (.int .i64 s2 : Value), fun vz wz => vz = (.pointer (some ⟨(sb V0_0), so V0_0 + Int.toNat s2 * 1, none⟩) : Value), fun vz wz => vz = (.int .i64 (ix a0 s2) : Value), fun vz wz => vz = (V1_0 : Value), fun vz wz => vz = (.int .i64 s2 : Value), fun vz wz => vz = (.pointer (some ⟨(sb V1_0), so V1_0 + Int.toNat s2 * 1, none⟩) : Value), fun vz wz => vz = (.int .i64 (ix a1 s2) : Value)] mo rfl ⟨fun _ _ _ h _ => h, fun _ _ _ h _ => h, fun _ _ _ h _ => h, fun _ _ _ h _ => h, fun _ _ _ h _ => h, fun _ _ _ h _ => h, fun _ _ _ h _ => h, fun _ _ _ h _ => h, trivial⟩ ?_ ?_
          · refine ⟨?_, ?_, ?_, ?_, ?_, ?_, ?_, ?_, trivial⟩
            · intro ρz wz hz hk hd
              exact sk_val (v := V0_0) (by exact xr_move rfl ((hk 0 rfl).trans e0)) rfl rfl
            · intro ρz wz hz hk hd
              exact sk_val (v := .int .i64 s2) (by exact xr_move rfl ((hk 5 rfl).trans rfl)) rfl rfl
            · intro ρz wz hz hk hd
              have d16 := hd 0 rfl 16 rfl
              have d17 := hd 1 rfl 17 rfl
              exact sk_val (by exact xr_indexR (K := (kI .i64)) (v := V0_0) rfl Try.underlying45 sz3 d16 (R0_0.gr (fB.gr hz)) d17 g11.1 g11.2) rfl rfl
            · intro ρz wz hz hk hd
              have d18 := hd 2 rfl 18 rfl
              exact sk_val (v := .int .i64 (ix a0 s2)) (by exact xr_load1 (v := .int .i64 (ix a0 s2)) rfl ag3 d18 ((R0_0.gr (fB.gr hz)).elem g11.1 g11.2)) rfl rfl
            · intro ρz wz hz hk hd
              exact sk_val (v := V1_0) (by exact xr_move rfl ((hk 1 rfl).trans e1)) rfl rfl
            · intro ρz wz hz hk hd
              exact sk_val (v := .int .i64 s2) (by exact xr_move rfl ((hk 5 rfl).trans rfl)) rfl rfl
            · intro ρz wz hz hk hd
              have d20 := hd 4 rfl 20 rfl
              have d21 := hd 5 rfl 21 rfl
              exact sk_val (by exact xr_indexR (K := (kI .i64)) (v := V1_0) rfl Try.underlying45 sz3 d20 (R1_0.gr (fB.gr hz)) d21 g12.1 g12.2) rfl rfl
            · intro ρz wz hz hk hd
              have d22 := hd 6 rfl 22 rfl
              exact sk_val (v := .int .i64 (ix a1 s2)) (by exact xr_load1 (v := .int .i64 (ix a1 s2)) rfl ag3 d22 ((R1_0.gr (fB.gr hz)).elem g12.1 g12.2)) rfl rfl
          · intro ρ13 w14 q15 hk hd
            have e0 := (hk 0 rfl).trans e0
            have e1 := (hk 1 rfl).trans e1
            have e12 := (hk 12 rfl).trans e12
            have e13 := (hk 13 rfl).trans e13
            have e19 := hd 3 rfl 19 rfl
            have e23 := hd 7 rfl 23 rfl
            have fB := fB.gr q15
            refine ol_val (v := .bool (!decide ((ix a0 s2) = (ix a1 s2)))) (by exact xr_neI rfl Try.underlying3 rfl e19 e23) rfl rfl rfl ?_
            refine ol_nil ?_
            rcases is h with ⟨c16, h⟩ | ⟨c16, h⟩
            · refine cw_condT rfl c16 ?_
              refine cw_seq ?_
              refine cw_region ?_
              refine ol_val (v := .bool false) (by exact xr_assign rfl rfl) rfl rfl rfl ?_
              refine ol_nil ?_
              refine cw_ret ?_
              repeat (first | with_reducible refine thn_r ?_ | with_reducible refine blk_r ?_)
              obtain rfl := Option.some.inj h
              refine lp_ret ?_
              rintro rfl
              repeat (first | with_reducible refine thn_r ?_ | with_reducible refine blk_r ?_)
              have h := h5
              obtain rfl := Option.some.inj h
              refine fin_ret1 Try.results110 rfl ?_
              exact ⟨_, rfl, rfl, fB⟩
            · refine cw_condF rfl c16 ?_
              refine cw_skip ?_
              refine blk_i ?_
              refine cw_region ?_
              refine ol_val (v := .int .i64 (IntKind.i64.wrap (s2 + 1))) (by exact xr_add rfl e13 rfl) rfl rfl rfl ?_
              refine ol_val (v := .int .i64 (IntKind.i64.wrap (s2 + 1))) (by exact xr_move rfl rfl) rfl rfl rfl ?_
              refine ol_nil ?_
              obtain rfl := Option.some.inj h
              refine lp_in ?_
              exact ⟨e0, e1, e12, rfl, fB⟩
        · refine cw_condF rfl c10 ?_
          refine cw_exit ?_
          repeat (first | with_reducible refine thn_e ?_ | with_reducible refine blk_e rfl ?_)
          obtain rfl := Option.some.inj h
          refine lp_exit ?_
          rintro rfl
          refine thn_x ?_
          exact ⟨_, rfl, fB⟩
    · rintro ρ17 w18 ⟨x6, rfl, fB⟩
      have h := h5
      refine cw_seq ?_
      refine cw_region ?_
      refine ol_val (v := .bool true) (by exact xr_assign rfl rfl) rfl rfl rfl ?_
      refine ol_nil ?_
      refine cw_ret ?_
      repeat (first | with_reducible refine thn_r ?_ | with_reducible refine blk_r ?_)
      obtain rfl := Option.some.inj h
      refine fin_ret1 Try.results110 rfl ?_
      exact ⟨_, rfl, rfl, fB⟩
end Go.Proofs.Ytjhajfkfhdnciaa

/- Lists that are alike; rows of octets read as numbers. -/
set_option linter.unusedVariables false
set_option linter.unusedSimpArgs false
namespace Go.Proofs.Ytjhajfkfhdnciaa.Pure
open Go Go.Xw
theorem ix_ext {a b : List Int} (hl : a.length = b.length) (h : ∀ j, j < a.length → ix a (j : Int) = ix b (j : Int)) : a = b := by
  apply List.ext_getElem hl
  intro i h1 h2
  rw [← ix_nat h1, ← ix_nat h2]
  exact h i h1
theorem ints2_eq {fu : Nat} {a b : List Int} (ha : a.length ≤ 9000000000000000000) (hf : a.length < fu) : rickyardref01_Ints.f fu a b = some (decide (a = b)) := by
  unfold rickyardref01_Ints.f
  by_cases hl : a.length = b.length
  · have hL : (a.length : Int) = (b.length : Int) := by omega
    rw [decide_eq_true hL]
    simp only [Bool.not_true, Bool.false_eq_true, if_false]
    have hs : ∀ j : Nat, j < a.length → rickyardref01_Ints.s0 fu a b (j : Int) = some (if ix a (j : Int) = ix b (j : Int) then .inr ((j + 1 : Nat) : Int) else .inl (.inl false)) := by
      intro j hj
      unfold rickyardref01_Ints.s0
      have h1 : (j : Int) < (a.length : Int) := by omega
      have h2 : (j : Int) < (b.length : Int) := by omega
      have c0 : 0 ≤ (j : Int) := by omega
      have w3 : IntKind.i64.wrap ((j : Int) + 1) = ((j + 1 : Nat) : Int) := by rw [w64 (by omega) (by omega)]; omega
      simp only [h1, h2, c0, and_self, decide_true, if_true, w3]
      by_cases e : ix a (j : Int) = ix b (j : Int) <;> simp [e]
    by_cases h : a = b
    · have : loopM (rickyardref01_Ints.s0 fu a b) fu 0 = some (.inr ()) := by
        refine loopM_run (S := fun j => (j : Int)) a.length rfl (fun j hj => by rw [hs j hj, if_pos (by rw [h])]) ?_ hf
        unfold rickyardref01_Ints.s0
        simp
      rw [this]
      simp [h]
    · have : loopM (rickyardref01_Ints.s0 fu a b) fu 0 = some (.inl false) := by
        refine loopM_bad (S := fun j => (j : Int)) a.length (fun j => ix a (j : Int) = ix b (j : Int)) rfl ?_ (fun j hj _ hg => by rw [hs j hj, if_pos hg]) (fun j hj _ hg => by rw [hs j hj, if_neg hg]) hf
        apply Classical.byContradiction
        intro hx
        exact h (ix_ext hl fun i hi => Classical.byContradiction fun hg => hx ⟨i, hi, hg⟩)
      rw [this]
      simp [h]
  · have hL : ¬ (a.length : Int) = (b.length : Int) := by omega
    have h : ¬ a = b := fun e => hl (by rw [e])
    rw [decide_eq_false hL, decide_eq_false h]
    rfl
theorem equal_eq {fu : Nat} {a b : List Int} (ha : a.length ≤ 9000000000000000000) (hf : a.length < fu) : slices_Equal.f fu a b = some (decide (a = b)) := by
  unfold slices_Equal.f
  by_cases hl : a.length = b.length
  · have hL : (a.length : Int) = (b.length : Int) := by omega
    rw [decide_eq_true hL]
    simp only [Bool.not_true, Bool.false_eq_true, if_false]
    have hs : ∀ j : Nat, j < a.length → slices_Equal.s0 fu a b (j : Int) = some (if ix a (j : Int) = ix b (j : Int) then .inr ((j + 1 : Nat) : Int) else .inl (.inl false)) := by
      intro j hj
      unfold slices_Equal.s0
      have h1 : (j : Int) < (a.length : Int) := by omega
      have h2 : (j : Int) < (b.length : Int) := by omega
      have c0 : 0 ≤ (j : Int) := by omega
      have w3 : IntKind.i64.wrap ((j : Int) + 1) = ((j + 1 : Nat) : Int) := by rw [w64 (by omega) (by omega)]; omega
      simp only [h1, h2, c0, and_self, decide_true, if_true, w3]
      by_cases e : ix a (j : Int) = ix b (j : Int) <;> simp [e]
    by_cases h : a = b
    · have : loopM (slices_Equal.s0 fu a b) fu 0 = some (.inr ()) := by
        refine loopM_run (S := fun j => (j : Int)) a.length rfl (fun j hj => by rw [hs j hj, if_pos (by rw [h])]) ?_ hf
        unfold slices_Equal.s0
        simp
      rw [this]
      simp [h]
    · have : loopM (slices_Equal.s0 fu a b) fu 0 = some (.inl false) := by
        refine loopM_bad (S := fun j => (j : Int)) a.length (fun j => ix a (j : Int) = ix b (j : Int)) rfl ?_ (fun j hj _ hg => by rw [hs j hj, if_pos hg]) (fun j hj _ hg => by rw [hs j hj, if_neg hg]) hf
        apply Classical.byContradiction
        intro hx
        exact h (ix_ext hl fun i hi => Classical.byContradiction fun hg => hx ⟨i, hi, hg⟩)
      rw [this]
      simp [h]
  · have hL : ¬ (a.length : Int) = (b.length : Int) := by omega
    have h : ¬ a = b := fun e => hl (by rw [e])
    rw [decide_eq_false hL, decide_eq_false h]
    rfl
def rowE (l : List Int) (n : Nat) : List Int := (List.range n).flatMap fun (i : Nat) => lay (u64n (ix l (i : Int))) 2
theorem rowE_len (l : List Int) (n : Nat) : (rowE l n).length = 2 * n := flat_len (fun i => lay_len _ _) n
theorem rowE_bytes (l : List Int) (n : Nat) : Bytes (rowE l n) := flat_bytes (fun i => lay_bytes _ _) n
theorem lim_of' {a b : Nat} (h : a + b ≤ 1000) : a + b ≤ LIM := by
  have : (1000 : Nat) ≤ LIM := by decide
  omega
def part (l : List Int) (i n : Nat) : List Int := (l.drop i).take n
theorem part_len {l : List Int} {i n : Nat} (h : i + n ≤ l.length) : (part l i n).length = n := by
  unfold part
  rw [List.length_take, List.length_drop]
  omega
theorem part_bytes {l : List Int} (hb : Bytes l) (i n : Nat) : Bytes (part l i n) := (hb.drop i).take n
def intAt (l : List Int) (i n : Nat) : Int := IntKind.i64.wrap ((num (part l i n) : Nat) : Int)
theorem rintAt_eq {fu : Nat} {b : List Int} {i n : Nat} (hb : Bytes b) (h : i + n ≤ b.length) (hn : n ≤ 8) (hf : 100 < fu) : rickyardref01_Int.f fu (cut (b.map toB) (i : Int) ((i + n : Nat) : Int)) = some (intAt b i n) := by
  have e : cut (b.map toB) (i : Int) ((i + n : Nat) : Int) = (part b i n).map toB := by
    unfold cut part
    rw [Int.toNat_natCast, Int.toNat_natCast, List.drop_take, ← List.map_drop, ← List.map_take]
    congr 2
    omega
  rw [e, rint_eq (part_bytes hb i n) (by rw [part_len h]; exact hn) (by rw [part_len h]; omega)]
  rfl
theorem u64n_i64 {n : Nat} (h : n < 18446744073709551616) : u64n (IntKind.i64.wrap (n : Int)) = n := by
  unfold u64n IntKind.wrap
  simp only [IntKind.signed, IntKind.bits]
  simp
  split <;> omega
theorem lay_part {l : List Int} {i n : Nat} (hb : Bytes l) (h : i + n ≤ l.length) (hn : n ≤ 8) : lay (u64n (intAt l i n)) n = part l i n := by
  have hpl := part_len h
  have hpb := part_bytes hb i n
  unfold intAt
  rw [u64n_i64 (num_lt8 hpb (by omega))]
  have := lay_num hpb
  rwa [hpl] at this
theorem intAt_small {l : List Int} {i n : Nat} (hb : Bytes l) (h : i + n ≤ l.length) (hn : n ≤ 7) : intAt l i n = ((num (part l i n) : Nat) : Int) := num_small (part_bytes hb i n) (by rw [part_len h]; exact hn)
theorem ix_map {f : Nat → Int} {t i : Nat} (h : i < t) : ix ((List.range t).map f) (i : Int) = f i := by
  rw [ix_nat (by simpa using h)]
  simp
end Go.Proofs.Ytjhajfkfhdnciaa.Pure

/- rickyard/rickyardref04.follows: its model, and that the Go function computes it: written by gen.py. -/
set_option linter.unusedVariables false
namespace Go.Proofs.Ytjhajfkfhdnciaa
open Go Go.Xw
def rickyardref04_follows.f (fu : Nat) (a0 : List UInt8) (a1 : Int) (a2 : Int) (a3 : Int) : Option Bool := (((if (decide (a1 < (List.length a0 : Int))) = true then (if 0 ≤ a1 ∧ a1 < (List.length a0 : Int) then (if (decide ((ofB (List.getD a0 (Int.toNat a1) 0)) ≥ a2)) = true then (if 0 ≤ a1 ∧ a1 < (List.length a0 : Int) then some ((decide ((ofB (List.getD a0 (Int.toNat a1) 0)) ≤ a3))) else none) else some (false)) else none) else some (false)) : Option Bool).bind fun x1 => some (x1))
set_option maxRecDepth 100000 in
set_option maxHeartbeats 400000 in
theorem rickyardref04_follows.ok (fu : Nat) (w : World) (a0 : List UInt8) (a1 : Int) (a2 : Int) (a3 : Int) (r : Bool) (h : rickyardref04_follows.f fu a0 a1 a2 a3 = some r) :
    Calls Try.prog 149 (([sv a0, .int .i64 a1, .int .u8 a2, .int .u8 a3] : List Value).toArray) w (fun e w' => ∃ v, e = .returned v ∧ v = .bool r ∧ Gr w w') := by
  unfold rickyardref04_follows.f at h
  have fB : Gr w w := Fr.refl _ _
  refine calls_cw Try.func149 rfl Try.ntmps149 rfl ?_
  refine cw_seq ?_
  refine cw_region ?_
  refine ol_val (v := .bool false) (by exact xr_assign rfl rfl) rfl rfl rfl ?_
  refine ol_nil ?_
  refine cw_seq ?_
  obtain ⟨x1, j2, h⟩ := bs h
  refine cw_mid (fun ρ' w' => ρ' 8 = .bool x1 ∧ w = w') ?_ ?_
  · skip
    refine cw_region ?_
    refine ol_val (v := .int .i64 a1) (by exact xr_move rfl rfl) rfl rfl rfl ?_
    refine ol_val (v := sv a0) (by exact xr_move rfl rfl) rfl rfl rfl ?_
    refine ol_val (v := .int .i64 (List.length a0 : Int)) (by exact xr_lenStr rfl Try.underlying9 rfl) rfl rfl rfl ?_
    refine ol_val (v := .bool (decide (a1 < (List.length a0 : Int)))) (by exact xr_lss rfl rfl rfl) rfl rfl rfl ?_
    refine ol_val (v := .bool (decide (a1 < (List.length a0 : Int)))) (by exact xr_move rfl rfl) rfl rfl rfl ?_
    rcases is j2 with ⟨c3, j2⟩ | ⟨c3, j2⟩
    · skip
      refine ol_gval (v := sv a0) (by exact xr_move rfl rfl) rfl rfl rfl rfl rfl c3 ?_
      refine ol_gval (v := .int .i64 a1) (by exact xr_move rfl rfl) rfl rfl rfl rfl rfl c3 ?_
      obtain ⟨g4, j2⟩ := gs j2
      refine ol_gval (v := .int .u8 (ofB (List.getD a0 (Int.toNat a1) 0))) (by exact xr_indexStr rfl Try.underlying9 rfl rfl g4.1 g4.2) rfl rfl rfl rfl rfl c3 ?_
      refine ol_gval (v := .int .u8 a2) (by exact xr_move rfl rfl) rfl rfl rfl rfl rfl c3 ?_
      refine ol_gval (v := .bool (decide ((ofB (List.getD a0 (Int.toNat a1) 0)) ≥ a2))) (by exact xr_geq rfl rfl rfl) rfl rfl rfl rfl rfl c3 ?_
      refine ol_val (v := .bool (decide ((ofB (List.getD a0 (Int.toNat a1) 0)) ≥ a2))) (by exact xr_pickT rfl rfl c3 rfl) rfl rfl rfl ?_
      refine ol_val (v := .bool (decide ((ofB (List.getD a0 (Int.toNat a1) 0)) ≥ a2))) (by exact xr_move rfl rfl) rfl rfl rfl ?_
      rcases is j2 with ⟨c5, j2⟩ | ⟨c5, j2⟩
      · skip
        refine ol_gval (v := sv a0) (by exact xr_move rfl rfl) rfl rfl rfl rfl rfl c5 ?_
        refine ol_gval (v := .int .i64 a1) (by exact xr_move rfl rfl) rfl rfl rfl rfl rfl c5 ?_
        obtain ⟨g6, j2⟩ := gs j2
        refine ol_gval (v := .int .u8 (ofB (List.getD a0 (Int.toNat a1) 0))) (by exact xr_indexStr rfl Try.underlying9 rfl rfl g6.1 g6.2) rfl rfl rfl rfl rfl c5 ?_
        refine ol_gval (v := .int .u8 a3) (by exact xr_move rfl rfl) rfl rfl rfl rfl rfl c5 ?_
        refine ol_gval (v := .bool (decide ((ofB (List.getD a0 (Int.toNat a1) 0)) ≤ a3))) (by exact xr_leq rfl rfl rfl) rfl rfl rfl rfl rfl c5 ?_
        refine ol_val (v := .bool (decide ((ofB (List.getD a0 (Int.toNat a1) 0)) ≤ a3))) (by exact xr_pickT rfl rfl c5 rfl) rfl rfl rfl ?_
        refine ol_val (v := .bool (decide ((ofB (List.getD a0 (Int.toNat a1) 0)) ≤ a3))) (by exact xr_assign rfl rfl) rfl rfl rfl ?_
        refine ol_nil ?_
        obtain rfl := Option.some.inj j2
        refine thn_i ?_
        exact ⟨rfl, rfl⟩
      · skip
        refine ol_gskip rfl rfl rfl rfl rfl c5 ?_
        refine ol_gskip rfl rfl rfl rfl rfl c5 ?_
        refine ol_gskip rfl rfl rfl rfl rfl c5 ?_
        refine ol_gskip rfl rfl rfl rfl rfl c5 ?_
        refine ol_gskip rfl rfl rfl rfl rfl c5 ?_
        refine ol_val (v := .bool false) (by exact xr_pickF rfl rfl c5 rfl) rfl rfl rfl ?_
        refine ol_val (v := .bool false) (by exact xr_assign rfl rfl) rfl rfl rfl ?_
        refine ol_nil ?_
        obtain rfl := Option.some.inj j2
        refine thn_i ?_
        exact ⟨rfl, rfl⟩
    · skip
      refine ol_gskip rfl rfl rfl rfl rfl c3 ?_
      refine ol_gskip rfl rfl rfl rfl rfl c3 ?_
      refine ol_gskip rfl rfl rfl rfl rfl c3 ?_
      refine ol_gskip rfl rfl rfl rfl rfl c3 ?_
      refine ol_gskip rfl rfl rfl rfl rfl c3 ?_
      refine ol_val (v := .bool false) (by exact xr_pickF rfl rfl c3 rfl) rfl rfl rfl ?_
      refine ol_val (v := .bool false) (by exact xr_move rfl rfl) rfl rfl rfl ?_
      refine ol_gskip rfl rfl rfl rfl rfl rfl ?_
      refine ol_gskip rfl rfl rfl rfl rfl rfl ?_
      refine ol_gskip rfl rfl rfl rfl rfl rfl ?_
      refine ol_gskip rfl rfl rfl rfl rfl rfl ?_
      refine ol_gskip rfl rfl rfl rfl rfl rfl ?_
      refine ol_val (v := .bool false) (by exact xr_pickF rfl rfl rfl rfl) rfl rfl rfl ?_
      refine ol_val (v := .bool false) (by exact xr_assign rfl rfl) rfl rfl rfl ?_
      refine ol_nil ?_
      obtain rfl := Option.some.inj j2
      refine thn_i ?_
      exact ⟨rfl, rfl⟩
  · skip
    rintro ρ7 _ ⟨e8, rfl⟩
    refine cw_ret ?_
    repeat (first | with_reducible refine thn_r ?_ | with_reducible refine blk_r ?_)
    obtain rfl := Option.some.inj h
    refine fin_ret1 Try.results149 e8 ?_
    exact ⟨_, rfl, rfl, fB⟩
end Go.Proofs.Ytjhajfkfhdnciaa

/- rickyard/rickyardref04.First: its model, and that the Go function computes it: written by gen.py. -/
set_option linter.unusedVariables false
namespace Go.Proofs.Ytjhajfkfhdnciaa
open Go Go.Xw
def rickyardref04_First.f (fu : Nat) (a0 : List UInt8) : Option (Int × Int) := (if (0 : Int) < (List.length a0 : Int) then (if (decide ((ofB (List.getD a0 (Int.toNat 0) 0)) < 128)) = true then some ((IntKind.i64.wrap (ofB (List.getD a0 (Int.toNat 0) 0))), 1) else (((if (decide ((ofB (List.getD a0 (Int.toNat 0) 0)) ≥ 194)) = true then (if (decide ((ofB (List.getD a0 (Int.toNat 0) 0)) ≤ 223)) = true then ((rickyardref04_follows.f fu a0 1 128 191 : Option Bool).bind fun t7 => some (t7)) else some (false)) else some (false)) : Option Bool).bind fun x3 => (if x3 = true then (if (1 : Int) < (List.length a0 : Int) then some ((IntKind.i64.wrap ((IntKind.i64.wrap ((IntKind.i64.wrap (IntKind.u8.wrap ((ofB (List.getD a0 (Int.toNat 0) 0)) - 192))) * 64)) + (IntKind.i64.wrap (IntKind.u8.wrap ((ofB (List.getD a0 (Int.toNat 1) 0)) - 128))))), 2) else none) else (((if (if (decide ((ofB (List.getD a0 (Int.toNat 0) 0)) ≥ 224)) = true then (decide ((ofB (List.getD a0 (Int.toNat 0) 0)) ≤ 239)) else false) = true then (((if (decide ((ofB (List.getD a0 (Int.toNat 0) 0)) = 224)) = true then some (160) else some (128)) : Option Int).bind fun x23 => (((if (decide ((ofB (List.getD a0 (Int.toNat 0) 0)) = 237)) = true then some (159) else some (191)) : Option Int).bind fun x29 => ((((rickyardref04_follows.f fu a0 1 x23 x29 : Option Bool).bind fun t37 => (if t37 = true then ((rickyardref04_follows.f fu a0 2 128 191 : Option Bool).bind fun t42 => some (t42)) else some (false))) : Option Bool).bind fun x35 => (if x35 = true then (if (1 : Int) < (List.length a0 : Int) then (if (2 : Int) < (List.length a0 : Int) then some (Sum.inl ((IntKind.i64.wrap ((IntKind.i64.wrap ((IntKind.i64.wrap ((IntKind.i64.wrap (IntKind.u8.wrap ((ofB (List.getD a0 (Int.toNat 0) 0)) - 224))) * 4096)) + (IntKind.i64.wrap ((IntKind.i64.wrap (IntKind.u8.wrap ((ofB (List.getD a0 (Int.toNat 1) 0)) - 128))) * 64)))) + (IntKind.i64.wrap (IntKind.u8.wrap ((ofB (List.getD a0 (Int.toNat 2) 0)) - 128))))), 3)) else none) else none) else some (Sum.inr ()))))) else (((if (if (decide ((ofB (List.getD a0 (Int.toNat 0) 0)) ≥ 240)) = true then (decide ((ofB (List.getD a0 (Int.toNat 0) 0)) ≤ 244)) else false) = true then (((if (decide ((ofB (List.getD a0 (Int.toNat 0) 0)) = 240)) = true then some (144) else some (128)) : Option Int).bind fun x62 => (((if (decide ((ofB (List.getD a0 (Int.toNat 0) 0)) = 244)) = true then some (143) else some (191)) : Option Int).bind fun x68 => ((((rickyardref04_follows.f fu a0 1 x62 x68 : Option Bool).bind fun t76 => (if t76 = true then ((rickyardref04_follows.f fu a0 2 128 191 : Option Bool).bind fun t81 => (if t81 = true then ((rickyardref04_follows.f fu a0 3 128 191 : Option Bool).bind fun t86 => some (t86)) else some (false))) else some (false))) : Option Bool).bind fun x74 => (if x74 = true then (if (1 : Int) < (List.length a0 : Int) then (if (2 : Int) < (List.length a0 : Int) then (if (3 : Int) < (List.length a0 : Int) then some (Sum.inl (Sum.inl ((IntKind.i64.wrap ((IntKind.i64.wrap ((IntKind.i64.wrap ((IntKind.i64.wrap ((IntKind.i64.wrap (IntKind.u8.wrap ((ofB (List.getD a0 (Int.toNat 0) 0)) - 240))) * 262144)) + (IntKind.i64.wrap ((IntKind.i64.wrap (IntKind.u8.wrap ((ofB (List.getD a0 (Int.toNat 1) 0)) - 128))) * 4096)))) + (IntKind.i64.wrap ((IntKind.i64.wrap (IntKind.u8.wrap ((ofB (List.getD a0 (Int.toNat 2) 0)) - 128))) * 64)))) + (IntKind.i64.wrap (IntKind.u8.wrap ((ofB (List.getD a0 (Int.toNat 3) 0)) - 128))))), 4))) else none) else none) else none) else some (Sum.inr ()))))) else some (Sum.inr ())) : Option (Sum (Sum (Int × Int) Unit) Unit)).bind fun x57 => match x57 with | Sum.inl p => some p | Sum.inr x60 => some (Sum.inr ()))) : Option (Sum (Int × Int) Unit)).bind fun x18 => match x18 with | Sum.inl p => some p | Sum.inr x21 => some (65533, 1))))) else none)
set_option maxRecDepth 100000 in
set_option maxHeartbeats 400000 in
theorem rickyardref04_First.ok (fu : Nat) (w : World) (a0 : List UInt8) (r : Int × Int) (h : rickyardref04_First.f fu a0 = some r) :
    Calls Try.prog 147 (([sv a0] : List Value).toArray) w (fun e w' => ∃ v, e = .returned v ∧ v = .tuple #[.int .i64 r.1, .int .i64 r.2] ∧ Gr w w') := by
  unfold rickyardref04_First.f at h
  have fB : Gr w w := Fr.refl _ _
  refine calls_cw Try.func147 rfl Try.ntmps147 rfl ?_
  refine cw_seq ?_
  refine cw_region ?_
  refine ol_val (v := .int .i64 0) (by exact xr_assign rfl rfl) rfl rfl rfl ?_
  refine ol_val (v := .int .i64 0) (by exact xr_assign rfl rfl) rfl rfl rfl ?_
  refine ol_nil ?_
  refine cw_seq ?_
  refine cw_region ?_
  refine ol_val (v := sv a0) (by exact xr_move rfl rfl) rfl rfl rfl ?_
  obtain ⟨g1, h⟩ := gs h
  refine ol_val (v := .int .u8 (ofB (List.getD a0 (Int.toNat 0) 0))) (by exact xr_indexStr rfl Try.underlying9 rfl rfl (by decide) g1) rfl rfl rfl ?_
  refine ol_val (v := .int .u8 (ofB (List.getD a0 (Int.toNat 0) 0))) (by exact xr_assign rfl rfl) rfl rfl rfl ?_
  refine ol_nil ?_
  refine cw_seq ?_
  refine cw_region ?_
  refine ol_val (v := .int .u8 128) (by exact xr_assign rfl rfl) rfl rfl rfl ?_
  refine ol_val (v := .int .u8 191) (by exact xr_assign rfl rfl) rfl rfl rfl ?_
  refine ol_nil ?_
  refine cw_seq ?_
  refine cw_block ?_
  refine cw_seq ?_
  refine cw_region ?_
  refine ol_val (v := .int .u8 (ofB (List.getD a0 (Int.toNat 0) 0))) (by exact xr_move rfl rfl) rfl rfl rfl ?_
  refine ol_val (v := .bool (decide ((ofB (List.getD a0 (Int.toNat 0) 0)) < 128))) (by exact xr_lss rfl rfl rfl) rfl rfl rfl ?_
  refine ol_val (v := .bool (decide ((ofB (List.getD a0 (Int.toNat 0) 0)) < 128))) (by exact xr_assign rfl rfl) rfl rfl rfl ?_
  refine ol_nil ?_
  rcases is h with ⟨c2, h⟩ | ⟨c2, h⟩
  · refine cw_condT rfl c2 ?_
    refine cw_seq ?_
    refine cw_region ?_
    refine ol_val (v := .int .u8 (ofB (List.getD a0 (Int.toNat 0) 0))) (by exact xr_move rfl rfl) rfl rfl rfl ?_
    refine ol_val (v := .int .i64 (IntKind.i64.wrap (ofB (List.getD a0 (Int.toNat 0) 0)))) (by exact xr_conv rfl Try.underlying5 Try.underlying3 rfl) rfl rfl rfl ?_
    refine ol_val (v := .int .i64 (IntKind.i64.wrap (ofB (List.getD a0 (Int.toNat 0) 0)))) (by exact xr_assign rfl rfl) rfl rfl rfl ?_
    refine ol_val (v := .int .i64 1) (by exact xr_assign rfl rfl) rfl rfl rfl ?_
    refine ol_nil ?_
    refine cw_ret ?_
    repeat (first | with_reducible refine thn_r ?_ | with_reducible refine blk_r ?_)
    obtain rfl := Option.some.inj h
    refine fin_ret2 Try.results147 rfl rfl ?_
    exact ⟨_, rfl, rfl, fB⟩
  · refine cw_condF rfl c2 ?_
    refine cw_seq ?_
    obtain ⟨x3, j4, h⟩ := bs h
    refine cw_mid (fun ρ' w' => ρ' 0 = sv a0 ∧ ρ' 4 = .int .u8 (ofB (List.getD a0 (Int.toNat 0) 0)) ∧ ρ' 5 = .int .u8 128 ∧ ρ' 6 = .int .u8 191 ∧ ρ' 14 = .bool x3 ∧ Gr w w') ?_ ?_
    · skip
      refine cw_region ?_
      refine ol_val (v := .int .u8 (ofB (List.getD a0 (Int.toNat 0) 0))) (by exact xr_move rfl rfl) rfl rfl rfl ?_
      refine ol_val (v := .bool (decide ((ofB (List.getD a0 (Int.toNat 0) 0)) ≥ 194))) (by exact xr_geq rfl rfl rfl) rfl rfl rfl ?_
      refine ol_val (v := .bool (decide ((ofB (List.getD a0 (Int.toNat 0) 0)) ≥ 194))) (by exact xr_move rfl rfl) rfl rfl rfl ?_
      rcases is j4 with ⟨c5, j4⟩ | ⟨c5, j4⟩
      · skip
        refine ol_gval (v := .int .u8 (ofB (List.getD a0 (Int.toNat 0) 0))) (by exact xr_move rfl rfl) rfl rfl rfl rfl rfl c5 ?_
        refine ol_gval (v := .bool (decide ((ofB (List.getD a0 (Int.toNat 0) 0)) ≤ 223))) (by exact xr_leq rfl rfl rfl) rfl rfl rfl rfl rfl c5 ?_
        refine ol_val (v := .bool (decide ((ofB (List.getD a0 (Int.toNat 0) 0)) ≤ 223))) (by exact xr_pickT rfl rfl c5 rfl) rfl rfl rfl ?_
        refine ol_val (v := .bool (decide ((ofB (List.getD a0 (Int.toNat 0) 0)) ≤ 223))) (by exact xr_move rfl rfl) rfl rfl rfl ?_
        rcases is j4 with ⟨c6, j4⟩ | ⟨c6, j4⟩
        · skip
          refine ol_gval (v := sv a0) (by exact xr_move rfl rfl) rfl rfl rfl rfl rfl c6 ?_
          refine ol_gval (v := .int .u8 128) (by exact xr_move rfl rfl) rfl rfl rfl rfl rfl c6 ?_
          refine ol_gval (v := .int .u8 191) (by exact xr_move rfl rfl) rfl rfl rfl rfl rfl c6 ?_
          obtain ⟨t7, k8, j4⟩ := bs j4
          refine ol_gop (by exact opv_call rfl cal149 (ac rfl (ac rfl (ac rfl (ac rfl an)))) (rickyardref04_follows.ok fu _ a0 1 128 191 _ k8)) rfl rfl rfl rfl rfl c6 ?_
          rintro _ w10 ⟨rfl, q9⟩
          have fB := fB.gr q9
          refine ol_val (v := .bool t7) (by exact xr_pickT rfl rfl c6 rfl) rfl rfl rfl ?_
          refine ol_val (v := .bool t7) (by exact xr_assign rfl rfl) rfl rfl rfl ?_
          refine ol_nil ?_
          obtain rfl := Option.some.inj j4
          refine thn_i ?_
          exact ⟨rfl, rfl, rfl, rfl, rfl, q9⟩
        · skip
          refine ol_gskip rfl rfl rfl rfl rfl c6 ?_
          refine ol_gskip rfl rfl rfl rfl rfl c6 ?_
          refine ol_gskip rfl rfl rfl rfl rfl c6 ?_
          refine ol_gskip rfl rfl rfl rfl rfl c6 ?_
          refine ol_val (v := .bool false) (by exact xr_pickF rfl rfl c6 rfl) rfl rfl rfl ?_
          refine ol_val (v := .bool false) (by exact xr_assign rfl rfl) rfl rfl rfl ?_
          refine ol_nil ?_
          obtain rfl := Option.some.inj j4
          refine thn_i ?_
          exact ⟨rfl, rfl, rfl, rfl, rfl, Fr.refl _ _⟩
      · skip
        refine ol_gskip rfl rfl rfl rfl rfl c5 ?_
        refine ol_gskip rfl rfl rfl rfl rfl c5 ?_
        refine ol_val (v := .bool false) (by exact xr_pickF rfl rfl c5 rfl) rfl rfl rfl ?_
        refine ol_val (v := .bool false) (by exact xr_move rfl rfl) rfl rfl rfl ?_
        refine ol_gskip rfl rfl rfl rfl rfl rfl ?_
        refine ol_gskip rfl rfl rfl rfl rfl rfl ?_
        refine ol_gskip rfl rfl rfl rfl rfl rfl ?_
        refine ol_gskip rfl rfl rfl rfl rfl rfl ?_
        refine ol_val (v := .bool false) (by exact xr_pickF rfl rfl rfl rfl) rfl rfl rfl ?_
        refine ol_val (v := .bool false) (by exact xr_assign rfl rfl) rfl rfl rfl ?_
        refine ol_nil ?_
        obtain rfl := Option.some.inj j4
        refine thn_i ?_
        exact ⟨rfl, rfl, rfl, rfl, rfl, Fr.refl _ _⟩
    · skip
      rintro ρ11 w12 ⟨e0, e4, e5, e6, e14, q13⟩
      have fB := fB.gr q13
      rcases is h with ⟨c14, h⟩ | ⟨c14, h⟩
      · refine cw_condT e14 c14 ?_
        refine cw_seq ?_
        refine cw_region ?_
        refine ol_val (v := .int .u8 (ofB (List.getD a0 (Int.toNat 0) 0))) (by exact xr_move rfl e4) rfl rfl rfl ?_
        refine ol_val (v := .int .u8 (IntKind.u8.wrap ((ofB (List.getD a0 (Int.toNat 0) 0)) - 192))) (by exact xr_sub rfl rfl rfl) rfl rfl rfl ?_
        refine ol_val (v := .int .i64 (IntKind.i64.wrap (IntKind.u8.wrap ((ofB (List.getD a0 (Int.toNat 0) 0)) - 192)))) (by exact xr_conv rfl Try.underlying5 Try.underlying3 rfl) rfl rfl rfl ?_
        refine ol_val (v := .int .i64 (IntKind.i64.wrap ((IntKind.i64.wrap (IntKind.u8.wrap ((ofB (List.getD a0 (Int.toNat 0) 0)) - 192))) * 64))) (by exact xr_mul rfl rfl rfl) rfl rfl rfl ?_
        refine ol_val (v := sv a0) (by exact xr_move rfl e0) rfl rfl rfl ?_
        obtain ⟨g15, h⟩ := gs h
        refine ol_val (v := .int .u8 (ofB (List.getD a0 (Int.toNat 1) 0))) (by exact xr_indexStr rfl Try.underlying9 rfl rfl (by decide) g15) rfl rfl rfl ?_
        refine ol_val (v := .int .u8 (IntKind.u8.wrap ((ofB (List.getD a0 (Int.toNat 1) 0)) - 128))) (by exact xr_sub rfl rfl rfl) rfl rfl rfl ?_
        refine ol_val (v := .int .i64 (IntKind.i64.wrap (IntKind.u8.wrap ((ofB (List.getD a0 (Int.toNat 1) 0)) - 128)))) (by exact xr_conv rfl Try.underlying5 Try.underlying3 rfl) rfl rfl rfl ?_
        refine ol_val (v := .int .i64 (IntKind.i64.wrap ((IntKind.i64.wrap ((IntKind.i64.wrap (IntKind.u8.wrap ((ofB (List.getD a0 (Int.toNat 0) 0)) - 192))) * 64)) + (IntKind.i64.wrap (IntKind.u8.wrap ((ofB (List.getD a0 (Int.toNat 1) 0)) - 128)))))) (by exact xr_add rfl rfl rfl) rfl rfl rfl ?_
        refine ol_val (v := .int .i64 (IntKind.i64.wrap ((IntKind.i64.wrap ((IntKind.i64.wrap (IntKind.u8.wrap ((ofB (List.getD a0 (Int.toNat 0) 0)) - 192))) * 64)) + (IntKind.i64.wrap (IntKind.u8.wrap ((ofB (List.getD a0 (Int.toNat 1) 0)) - 128)))))) (by exact xr_assign rfl rfl) rfl rfl rfl ?_
        refine ol_val (v := .int .i64 2) (by exact xr_assign rfl rfl) rfl rfl rfl ?_
        refine ol_nil ?_
        refine cw_ret ?_
        repeat (first | with_reducible refine thn_r ?_ | with_reducible refine blk_r ?_)
        obtain rfl := Option.some.inj h
        refine fin_ret2 Try.results147 rfl rfl ?_
        exact ⟨_, rfl, rfl, fB⟩
      · refine cw_condF e14 c14 ?_
        refine cw_seq ?_
        refine cw_mid (fun ρ' w' => ρ' 0 = sv a0 ∧ ρ' 4 = .int .u8 (ofB (List.getD a0 (Int.toNat 0) 0)) ∧ ρ' 5 = .int .u8 128 ∧ ρ' 6 = .int .u8 191 ∧ ρ' 36 = .bool (if (decide ((ofB (List.getD a0 (Int.toNat 0) 0)) ≥ 224)) = true then (decide ((ofB (List.getD a0 (Int.toNat 0) 0)) ≤ 239)) else false) ∧ w12 = w') ?_ ?_
        · skip
          refine cw_region ?_
          refine ol_val (v := .int .u8 (ofB (List.getD a0 (Int.toNat 0) 0))) (by exact xr_move rfl e4) rfl rfl rfl ?_
          refine ol_val (v := .bool (decide ((ofB (List.getD a0 (Int.toNat 0) 0)) ≥ 224))) (by exact xr_geq rfl rfl rfl) rfl rfl rfl ?_
          refine ol_val (v := .bool (decide ((ofB (List.getD a0 (Int.toNat 0) 0)) ≥ 224))) (by exact xr_move rfl rfl) rfl rfl rfl ?_
          rcases bt (decide ((ofB (List.getD a0 (Int.toNat 0) 0)) ≥ 224)) with c16 | c16
          · skip
            refine ol_gval (v := .int .u8 (ofB (List.getD a0 (Int.toNat 0) 0))) (by exact xr_move rfl e4) rfl rfl rfl rfl rfl c16 ?_
            refine ol_gval (v := .bool (decide ((ofB (List.getD a0 (Int.toNat 0) 0)) ≤ 239))) (by exact xr_leq rfl rfl rfl) rfl rfl rfl rfl rfl c16 ?_
            refine ol_val (v := .bool (decide ((ofB (List.getD a0 (Int.toNat 0) 0)) ≤ 239))) (by exact xr_pickT rfl rfl c16 rfl) rfl rfl rfl ?_
            refine ol_val (v := .bool (decide ((ofB (List.getD a0 (Int.toNat 0) 0)) ≤ 239))) (by exact xr_assign rfl rfl) rfl rfl rfl ?_
            refine ol_nil ?_
            refine thn_i ?_
            exact ⟨e0, e4, e5, e6, (rfl).trans (congrArg (fun z => (.bool z : Value)) (show (decide ((ofB (List.getD a0 (Int.toNat 0) 0)) ≤ 239)) = (if (decide ((ofB (List.getD a0 (Int.toNat 0) 0)) ≥ 224)) = true then (decide ((ofB (List.getD a0 (Int.toNat 0) 0)) ≤ 239)) else false) from by rw [ite_t c16])), rfl⟩
          · skip
            refine ol_gskip rfl rfl rfl rfl rfl c16 ?_
            refine ol_gskip rfl rfl rfl rfl rfl c16 ?_
            refine ol_val (v := .bool false) (by exact xr_pickF rfl rfl c16 rfl) rfl rfl rfl ?_
            refine ol_val (v := .bool false) (by exact xr_assign rfl rfl) rfl rfl rfl ?_
            refine ol_nil ?_
            refine thn_i ?_
            exact ⟨e0, e4, e5, e6, (rfl).trans (congrArg (fun z => (.bool z : Value)) (show false = (if (decide ((ofB (List.getD a0 (Int.toNat 0) 0)) ≥ 224)) = true then (decide ((ofB (List.getD a0 (Int.toNat 0) 0)) ≤ 239)) else false) from by rw [ite_f c16])), rfl⟩
        · skip
          rintro ρ17 _ ⟨e0, e4, e5, e6, e36, rfl⟩
          obtain ⟨x18, j19, h20⟩ := bs h
          refine cw_mid (fun ρ' w' => ∃ x21, x18 = Sum.inr x21 ∧ Gr w w') ?_ ?_
          · have h := j19
            rcases is h with ⟨c22, h⟩ | ⟨c22, h⟩
            · refine cw_condT e36 c22 ?_
              refine cw_seq ?_
              refine cw_seq ?_
              refine cw_region ?_
              refine ol_val (v := .int .u8 (ofB (List.getD a0 (Int.toNat 0) 0))) (by exact xr_move rfl e4) rfl rfl rfl ?_
              refine ol_val (v := .bool (decide ((ofB (List.getD a0 (Int.toNat 0) 0)) = 224))) (by exact xr_eqI rfl Try.underlying5 rfl rfl rfl) rfl rfl rfl ?_
              refine ol_nil ?_
              obtain ⟨x23, j24, h25⟩ := bs h
              refine cw_mid (fun ρ' w' => ρ' 0 = sv a0 ∧ ρ' 4 = .int .u8 (ofB (List.getD a0 (Int.toNat 0) 0)) ∧ ρ' 5 = .int .u8 x23 ∧ ρ' 6 = .int .u8 191 ∧ Gr w w') ?_ ?_
              · have h := j24
                rcases is h with ⟨c26, h⟩ | ⟨c26, h⟩
                · refine cw_condT rfl c26 ?_
                  refine cw_region ?_
                  refine ol_val (v := .int .u8 160) (by exact xr_assign rfl rfl) rfl rfl rfl ?_
                  refine ol_nil ?_
                  obtain rfl := Option.some.inj h
                  refine thn_i ?_
                  exact ⟨e0, e4, rfl, e6, fB⟩
                · refine cw_condF rfl c26 ?_
                  refine cw_skip ?_
                  obtain rfl := Option.some.inj h
                  refine thn_i ?_
                  exact ⟨e0, e4, e5, e6, fB⟩
              · rintro ρ27 w28 ⟨e0, e4, e5, e6, fB⟩
                have h := h25
                refine cw_seq ?_
                refine cw_seq ?_
                refine cw_region ?_
                refine ol_val (v := .int .u8 (ofB (List.getD a0 (Int.toNat 0) 0))) (by exact xr_move rfl e4) rfl rfl rfl ?_
                refine ol_val (v := .bool (decide ((ofB (List.getD a0 (Int.toNat 0) 0)) = 237))) (by exact xr_eqI rfl Try.underlying5 rfl rfl rfl) rfl rfl rfl ?_
                refine ol_nil ?_
                obtain ⟨x29, j30, h31⟩ := bs h
                refine cw_mid (fun ρ' w' => ρ' 0 = sv a0 ∧ ρ' 4 = .int .u8 (ofB (List.getD a0 (Int.toNat 0) 0)) ∧ ρ' 5 = .int .u8 x23 ∧ ρ' 6 = .int .u8 x29 ∧ Gr w w') ?_ ?_
                · have h := j30
                  rcases is h with ⟨c32, h⟩ | ⟨c32, h⟩
                  · refine cw_condT rfl c32 ?_
                    refine cw_region ?_
                    refine ol_val (v := .int .u8 159) (by exact xr_assign rfl rfl) rfl rfl rfl ?_
                    refine ol_nil ?_
                    obtain rfl := Option.some.inj h
                    refine thn_i ?_
                    exact ⟨e0, e4, e5, rfl, fB⟩
                  · refine cw_condF rfl c32 ?_
                    refine cw_skip ?_
                    obtain rfl := Option.some.inj h
                    refine thn_i ?_
                    exact ⟨e0, e4, e5, e6, fB⟩
                · rintro ρ33 w34 ⟨e0, e4, e5, e6, fB⟩
                  have h := h31
                  refine cw_seq ?_
                  obtain ⟨x35, j36, h⟩ := bs h
                  refine cw_mid (fun ρ' w' => ρ' 0 = sv a0 ∧ ρ' 4 = .int .u8 (ofB (List.getD a0 (Int.toNat 0) 0)) ∧ ρ' 54 = .bool x35 ∧ Gr w34 w') ?_ ?_
                  · skip
                    refine cw_region ?_
                    refine ol_val (v := sv a0) (by exact xr_move rfl e0) rfl rfl rfl ?_
                    refine ol_val (v := .int .u8 x23) (by exact xr_move rfl e5) rfl rfl rfl ?_
                    refine ol_val (v := .int .u8 x29) (by exact xr_move rfl e6) rfl rfl rfl ?_
                    obtain ⟨t37, k38, j36⟩ := bs j36
                    refine ol_op (by exact opv_call rfl cal149 (ac rfl (ac rfl (ac rfl (ac rfl an)))) (rickyardref04_follows.ok fu _ a0 1 x23 x29 _ k38)) rfl rfl rfl ?_
                    rintro _ w40 ⟨rfl, q39⟩
                    have fB := fB.gr q39
                    refine ol_val (v := .bool t37) (by exact xr_move rfl rfl) rfl rfl rfl ?_
                    rcases is j36 with ⟨c41, j36⟩ | ⟨c41, j36⟩
                    · skip
                      refine ol_gval (v := sv a0) (by exact xr_move rfl e0) rfl rfl rfl rfl rfl c41 ?_
                      obtain ⟨t42, k43, j36⟩ := bs j36
                      refine ol_gop (by exact opv_call rfl cal149 (ac rfl (ac rfl (ac rfl (ac rfl an)))) (rickyardref04_follows.ok fu _ a0 2 128 191 _ k43)) rfl rfl rfl rfl rfl c41 ?_
                      rintro _ w45 ⟨rfl, q44⟩
                      have fB := fB.gr q44
                      refine ol_val (v := .bool t42) (by exact xr_pickT rfl rfl c41 rfl) rfl rfl rfl ?_
                      refine ol_nil ?_
                      obtain rfl := Option.some.inj j36
                      refine thn_i ?_
                      exact ⟨e0, e4, rfl, (q39.gr q44)⟩
                    · skip
                      refine ol_gskip rfl rfl rfl rfl rfl c41 ?_
                      refine ol_gskip rfl rfl rfl rfl rfl c41 ?_
                      refine ol_val (v := .bool false) (by exact xr_pickF rfl rfl c41 rfl) rfl rfl rfl ?_
                      refine ol_nil ?_
                      obtain rfl := Option.some.inj j36
                      refine thn_i ?_
                      exact ⟨e0, e4, rfl, q39⟩
                  · skip
                    rintro ρ46 w47 ⟨e0, e4, e54, q48⟩
                    have fB := fB.gr q48
                    rcases is h with ⟨c49, h⟩ | ⟨c49, h⟩
                    · refine cw_condT e54 c49 ?_
                      refine cw_seq ?_
                      obtain ⟨g50, h⟩ := gs h
                      obtain ⟨g51, h⟩ := gs h
                      refine cw_drawL 14 [fun vz wz => vz = (.int .u8 (ofB (List.getD a0 (Int.toNat 0) 0)) : Value), fun vz wz => vz = (.int .u8 (IntKind.u8.wrap ((ofB (List.getD a0 (Int.toNat 0) 0)) - 224)) : Value), fun vz wz => vz = (.int .i64 (IntKind.i64.wrap (IntKind.u8.wrap ((ofB (List.getD a0 (Int.toNat 0) 0)) - 224))) : Value), fun vz wz => vz = (.int .i64 (IntKind.i64.wrap ((IntKind.i64.wrap (IntKind.u8.wrap ((ofB (List.getD a0 (Int.toNat 0) 0)) - 224))) * 4096)) : Value), fun vz wz => vz = (sv a0 : Value), fun vz wz => vz = (.int .u8 (ofB (List.getD a0 (Int.toNat 1) 0)) : Value), fun vz wz => vz = (.int .u8 (IntKind.u8.wrap ((ofB (List.getD a0 (Int.toNat 1) 0)) - 128)) : Value), fun vz wz => vz = (.int .i64 (IntKind.i64.wrap (IntKind.u8.wrap ((ofB (List.getD a0 (Int.toNat 1) 0)) - 128))) : Value), fun vz wz => vz = (.int .i64 (IntKind.i64.wrap ((IntKind.i64.wrap (IntKind.u8.wrap ((ofB (List.getD a0 (Int.toNat 1) 0)) - 128))) * 64)) : Value), fun vz wz => vz = (.int .i64 (IntKind.i64.wrap ((IntKind.i64.wrap ((IntKind.i64.wrap (IntKind.u8.wrap ((ofB (List.getD a0 (Int.toNat 0) 0)) - 224))) * 4096)) + (IntKind.i64.wrap ((IntKind.i64.wrap (IntKind.u8.wrap ((ofB (List.getD a0 (Int.toNat 1) 0)) - 128))) * 64)))) : Value), fun vz wz => vz = (sv a0 : Value), fun vz wz => vz = (.int .u8 (ofB (List.getD a0 (Int.toNat 2) 0)) : Value), fun vz wz => vz = (.int .u8 (IntKind.u8.wrap ((ofB (List.getD a0 (Int.toNat 2) 0)) - 128)) : Value), fun vz wz => vz = (.int .i64 (IntKind.i64.wrap (IntKind.u8.wrap ((ofB (List.getD a0 (Int.toNat 2) 0)) - 128))) : Value)] mo rfl ⟨fun _ _ _ h _ => h, fun _ _ _ h _ => h, fun _ _ _ h _ => h, fun _ _ _ h _ => h, fun _ _ _ h _ => h, fun _ _ _ h _ => h, fun _ _ _ h _ => h, fun _ _ _ h _ => h, fun _ _ _ h _ => h, fun _ _ _ h _ => h, fun _ _ _ h _ => h, fun _ _ _ h _ => h, fun _ _ _ h _ => h, fun _ _ _ h _ => h, trivial⟩ ?_ ?_
                      · refine ⟨?_, ?_, ?_, ?_, ?_, ?_, ?_, ?_, ?_, ?_, ?_, ?_, ?_, ?_, trivial⟩
                        · intro ρz wz hz hk hd
                          exact sk_val (v := .int .u8 (ofB (List.getD a0 (Int.toNat 0) 0))) (by exact xr_move rfl ((hk 4 rfl).trans e4)) rfl rfl
                        · intro ρz wz hz hk hd
                          have d55 := hd 0 rfl 55 rfl
                          exact sk_val (by exact xr_sub rfl d55 rfl) rfl rfl
                        · intro ρz wz hz hk hd
                          have d56 := hd 1 rfl 56 rfl
                          exact sk_val (by exact xr_conv rfl Try.underlying5 Try.underlying3 d56) rfl rfl
                        · intro ρz wz hz hk hd
                          have d57 := hd 2 rfl 57 rfl
                          exact sk_val (by exact xr_mul rfl d57 rfl) rfl rfl
                        · intro ρz wz hz hk hd
                          exact sk_val (v := sv a0) (by exact xr_move rfl ((hk 0 rfl).trans e0)) rfl rfl
                        · intro ρz wz hz hk hd
                          have d59 := hd 4 rfl 59 rfl
                          exact sk_val (v := .int .u8 (ofB (List.getD a0 (Int.toNat 1) 0))) (by exact xr_indexStr rfl Try.underlying9 d59 rfl (by decide) g50) rfl rfl
                        · intro ρz wz hz hk hd
                          have d60 := hd 5 rfl 60 rfl
                          exact sk_val (by exact xr_sub rfl d60 rfl) rfl rfl
                        · intro ρz wz hz hk hd
                          have d61 := hd 6 rfl 61 rfl
                          exact sk_val (by exact xr_conv rfl Try.underlying5 Try.underlying3 d61) rfl rfl
                        · intro ρz wz hz hk hd
                          have d62 := hd 7 rfl 62 rfl
                          exact sk_val (by exact xr_mul rfl d62 rfl) rfl rfl
                        · intro ρz wz hz hk hd
                          have d58 := hd 3 rfl 58 rfl
                          have d63 := hd 8 rfl 63 rfl
                          exact sk_val (by exact xr_add rfl d58 d63) rfl rfl
                        · intro ρz wz hz hk hd
                          exact sk_val (v := sv a0) (by exact xr_move rfl ((hk 0 rfl).trans e0)) rfl rfl
                        · intro ρz wz hz hk hd
                          have d65 := hd 10 rfl 65 rfl
                          exact sk_val (v := .int .u8 (ofB (List.getD a0 (Int.toNat 2) 0))) (by exact xr_indexStr rfl Try.underlying9 d65 rfl (by decide) g51) rfl rfl
                        · intro ρz wz hz hk hd
                          have d66 := hd 11 rfl 66 rfl
                          exact sk_val (by exact xr_sub rfl d66 rfl) rfl rfl
                        · intro ρz wz hz hk hd
                          have d67 := hd 12 rfl 67 rfl
                          exact sk_val (by exact xr_conv rfl Try.underlying5 Try.underlying3 d67) rfl rfl
                      · intro ρ52 w53 q54 hk hd
                        have e64 := hd 9 rfl 64 rfl
                        have e68 := hd 13 rfl 68 rfl
                        have fB := fB.gr q54
                        refine ol_val (v := .int .i64 (IntKind.i64.wrap ((IntKind.i64.wrap ((IntKind.i64.wrap ((IntKind.i64.wrap (IntKind.u8.wrap ((ofB (List.getD a0 (Int.toNat 0) 0)) - 224))) * 4096)) + (IntKind.i64.wrap ((IntKind.i64.wrap (IntKind.u8.wrap ((ofB (List.getD a0 (Int.toNat 1) 0)) - 128))) * 64)))) + (IntKind.i64.wrap (IntKind.u8.wrap ((ofB (List.getD a0 (Int.toNat 2) 0)) - 128)))))) (by exact xr_add rfl e64 e68) rfl rfl rfl ?_
                        refine ol_val (v := .int .i64 (IntKind.i64.wrap ((IntKind.i64.wrap ((IntKind.i64.wrap ((IntKind.i64.wrap (IntKind.u8.wrap ((ofB (List.getD a0 (Int.toNat 0) 0)) - 224))) * 4096)) + (IntKind.i64.wrap ((IntKind.i64.wrap (IntKind.u8.wrap ((ofB (List.getD a0 (Int.toNat 1) 0)) - 128))) * 64)))) + (IntKind.i64.wrap (IntKind.u8.wrap ((ofB (List.getD a0 (Int.toNat 2) 0)) - 128)))))) (by exact xr_assign rfl rfl) rfl rfl rfl ?_
                        refine ol_val (v := .int .i64 3) (by exact xr_assign rfl rfl) rfl rfl rfl ?_
                        refine ol_nil ?_
                        refine cw_ret ?_
                        repeat (first | with_reducible refine thn_r ?_ | with_reducible refine blk_r ?_)
                        obtain rfl := Option.some.inj h
                        have h := h20
                        obtain rfl := Option.some.inj h
                        refine fin_ret2 Try.results147 rfl rfl ?_
                        exact ⟨_, rfl, rfl, fB⟩
                    · refine cw_condF e54 c49 ?_
                      refine cw_skip ?_
                      obtain rfl := Option.some.inj h
                      refine thn_i ?_
                      exact ⟨_, rfl, fB⟩
            · refine cw_condF e36 c22 ?_
              refine cw_seq ?_
              refine cw_mid (fun ρ' w' => ρ' 0 = sv a0 ∧ ρ' 4 = .int .u8 (ofB (List.getD a0 (Int.toNat 0) 0)) ∧ ρ' 5 = .int .u8 128 ∧ ρ' 6 = .int .u8 191 ∧ ρ' 70 = .bool (if (decide ((ofB (List.getD a0 (Int.toNat 0) 0)) ≥ 240)) = true then (decide ((ofB (List.getD a0 (Int.toNat 0) 0)) ≤ 244)) else false) ∧ w12 = w') ?_ ?_
              · skip
                refine cw_region ?_
                refine ol_val (v := .int .u8 (ofB (List.getD a0 (Int.toNat 0) 0))) (by exact xr_move rfl e4) rfl rfl rfl ?_
                refine ol_val (v := .bool (decide ((ofB (List.getD a0 (Int.toNat 0) 0)) ≥ 240))) (by exact xr_geq rfl rfl rfl) rfl rfl rfl ?_
                refine ol_val (v := .bool (decide ((ofB (List.getD a0 (Int.toNat 0) 0)) ≥ 240))) (by exact xr_move rfl rfl) rfl rfl rfl ?_
                rcases bt (decide ((ofB (List.getD a0 (Int.toNat 0) 0)) ≥ 240)) with c55 | c55
                · skip
                  refine ol_gval (v := .int .u8 (ofB (List.getD a0 (Int.toNat 0) 0))) (by exact xr_move rfl e4) rfl rfl rfl rfl rfl c55 ?_
                  refine ol_gval (v := .bool (decide ((ofB (List.getD a0 (Int.toNat 0) 0)) ≤ 244))) (by exact xr_leq rfl rfl rfl) rfl rfl rfl rfl rfl c55 ?_
                  refine ol_val (v := .bool (decide ((ofB (List.getD a0 (Int.toNat 0) 0)) ≤ 244))) (by exact xr_pickT rfl rfl c55 rfl) rfl rfl rfl ?_
                  refine ol_val (v := .bool (decide ((ofB (List.getD a0 (Int.toNat 0) 0)) ≤ 244))) (by exact xr_assign rfl rfl) rfl rfl rfl ?_
                  refine ol_nil ?_
                  refine thn_i ?_
                  exact ⟨e0, e4, e5, e6, (rfl).trans (congrArg (fun z => (.bool z : Value)) (show (decide ((ofB (List.getD a0 (Int.toNat 0) 0)) ≤ 244)) = (if (decide ((ofB (List.getD a0 (Int.toNat 0) 0)) ≥ 240)) = true then (decide ((ofB (List.getD a0 (Int.toNat 0) 0)) ≤ 244)) else false) from by rw [ite_t c55])), rfl⟩
                · skip
                  refine ol_gskip rfl rfl rfl rfl rfl c55 ?_
                  refine ol_gskip rfl rfl rfl rfl rfl c55 ?_
                  refine ol_val (v := .bool false) (by exact xr_pickF rfl rfl c55 rfl) rfl rfl rfl ?_
                  refine ol_val (v := .bool false) (by exact xr_assign rfl rfl) rfl rfl rfl ?_
                  refine ol_nil ?_
                  refine thn_i ?_
                  exact ⟨e0, e4, e5, e6, (rfl).trans (congrArg (fun z => (.bool z : Value)) (show false = (if (decide ((ofB (List.getD a0 (Int.toNat 0) 0)) ≥ 240)) = true then (decide ((ofB (List.getD a0 (Int.toNat 0) 0)) ≤ 244)) else false) from by rw [ite_f c55])), rfl⟩
              · skip
                rintro ρ56 _ ⟨e0, e4, e5, e6, e70, rfl⟩
                obtain ⟨x57, j58, h59⟩ := bs h
                refine cw_mid (fun ρ' w' => ∃ x60, x57 = Sum.inr x60 ∧ Gr w w') ?_ ?_
                · have h := j58
                  rcases is h with ⟨c61, h⟩ | ⟨c61, h⟩
                  · refine cw_condT e70 c61 ?_
                    refine cw_seq ?_
                    refine cw_seq ?_
                    refine cw_region ?_
                    refine ol_val (v := .int .u8 (ofB (List.getD a0 (Int.toNat 0) 0))) (by exact xr_move rfl e4) rfl rfl rfl ?_
                    refine ol_val (v := .bool (decide ((ofB (List.getD a0 (Int.toNat 0) 0)) = 240))) (by exact xr_eqI rfl Try.underlying5 rfl rfl rfl) rfl rfl rfl ?_
                    refine ol_nil ?_
                    obtain ⟨x62, j63, h64⟩ := bs h
                    refine cw_mid (fun ρ' w' => ρ' 0 = sv a0 ∧ ρ' 4 = .int .u8 (ofB (List.getD a0 (Int.toNat 0) 0)) ∧ ρ' 5 = .int .u8 x62 ∧ ρ' 6 = .int .u8 191 ∧ Gr w w') ?_ ?_
                    · have h := j63
                      rcases is h with ⟨c65, h⟩ | ⟨c65, h⟩
                      · refine cw_condT rfl c65 ?_
                        refine cw_region ?_
                        refine ol_val (v := .int .u8 144) (by exact xr_assign rfl rfl) rfl rfl rfl ?_
                        refine ol_nil ?_
                        obtain rfl := Option.some.inj h
                        refine thn_i ?_
                        exact ⟨e0, e4, rfl, e6, fB⟩
                      · refine cw_condF rfl c65 ?_
                        refine cw_skip ?_
                        obtain rfl := Option.some.inj h
                        refine thn_i ?_
                        exact ⟨e0, e4, e5, e6, fB⟩
                    · rintro ρ66 w67 ⟨e0, e4, e5, e6, fB⟩
                      have h := h64
                      refine cw_seq ?_
                      refine cw_seq ?_
                      refine cw_region ?_
                      refine ol_val (v := .int .u8 (ofB (List.getD a0 (Int.toNat 0) 0))) (by exact xr_move rfl e4) rfl rfl rfl ?_
                      refine ol_val (v := .bool (decide ((ofB (List.getD a0 (Int.toNat 0) 0)) = 244))) (by exact xr_eqI rfl Try.underlying5 rfl rfl rfl) rfl rfl rfl ?_
                      refine ol_nil ?_
                      obtain ⟨x68, j69, h70⟩ := bs h
                      refine cw_mid (fun ρ' w' => ρ' 0 = sv a0 ∧ ρ' 4 = .int .u8 (ofB (List.getD a0 (Int.toNat 0) 0)) ∧ ρ' 5 = .int .u8 x62 ∧ ρ' 6 = .int .u8 x68 ∧ Gr w w') ?_ ?_
                      · have h := j69
                        rcases is h with ⟨c71, h⟩ | ⟨c71, h⟩
                        · refine cw_condT rfl c71 ?_
                          refine cw_region ?_
                          refine ol_val (v := .int .u8 143) (by exact xr_assign rfl rfl) rfl rfl rfl ?_
                          refine ol_nil ?_
                          obtain rfl := Option.some.inj h
                          refine thn_i ?_
                          exact ⟨e0, e4, e5, rfl, fB⟩
                        · refine cw_condF rfl c71 ?_
                          refine cw_skip ?_
                          obtain rfl := Option.some.inj h
                          refine thn_i ?_
                          exact ⟨e0, e4, e5, e6, fB⟩
                      · rintro ρ72 w73 ⟨e0, e4, e5, e6, fB⟩
                        have h := h70
                        refine cw_seq ?_
                        obtain ⟨x74, j75, h⟩ := bs h
                        refine cw_mid (fun ρ' w' => ρ' 0 = sv a0 ∧ ρ' 4 = .int .u8 (ofB (List.getD a0 (Int.toNat 0) 0)) ∧ ρ' 92 = .bool x74 ∧ Gr w73 w') ?_ ?_
                        · skip
                          refine cw_region ?_
                          refine ol_val (v := sv a0) (by exact xr_move rfl e0) rfl rfl rfl ?_
                          refine ol_val (v := .int .u8 x62) (by exact xr_move rfl e5) rfl rfl rfl ?_
                          refine ol_val (v := .int .u8 x68) (by exact xr_move rfl e6) rfl rfl rfl ?_
                          obtain ⟨t76, k77, j75⟩ := bs j75
                          refine ol_op (by exact opv_call rfl cal149 (ac rfl (ac rfl (ac rfl (ac rfl an)))) (rickyardref04_follows.ok fu _ a0 1 x62 x68 _ k77)) rfl rfl rfl ?_
                          rintro _ w79 ⟨rfl, q78⟩
                          have fB := fB.gr q78
                          refine ol_val (v := .bool t76) (by exact xr_move rfl rfl) rfl rfl rfl ?_
                          rcases is j75 with ⟨c80, j75⟩ | ⟨c80, j75⟩
                          · skip
                            refine ol_gval (v := sv a0) (by exact xr_move rfl e0) rfl rfl rfl rfl rfl c80 ?_
                            obtain ⟨t81, k82, j75⟩ := bs j75
                            refine ol_gop (by exact opv_call rfl cal149 (ac rfl (ac rfl (ac rfl (ac rfl an)))) (rickyardref04_follows.ok fu _ a0 2 128 191 _ k82)) rfl rfl rfl rfl rfl c80 ?_
                            rintro _ w84 ⟨rfl, q83⟩
                            have fB := fB.gr q83
                            refine ol_val (v := .bool t81) (by exact xr_pickT rfl rfl c80 rfl) rfl rfl rfl ?_
                            refine ol_val (v := .bool t81) (by exact xr_move rfl rfl) rfl rfl rfl ?_
                            rcases is j75 with ⟨c85, j75⟩ | ⟨c85, j75⟩
                            · skip
                              refine ol_gval (v := sv a0) (by exact xr_move rfl e0) rfl rfl rfl rfl rfl c85 ?_
                              obtain ⟨t86, k87, j75⟩ := bs j75
                              refine ol_gop (by exact opv_call rfl cal149 (ac rfl (ac rfl (ac rfl (ac rfl an)))) (rickyardref04_follows.ok fu _ a0 3 128 191 _ k87)) rfl rfl rfl rfl rfl c85 ?_
                              rintro _ w89 ⟨rfl, q88⟩
                              have fB := fB.gr q88
                              refine ol_val (v := .bool t86) (by exact xr_pickT rfl rfl c85 rfl) rfl rfl rfl ?_
                              refine ol_nil ?_
                              obtain rfl := Option.some.inj j75
                              refine thn_i ?_
                              exact ⟨e0, e4, rfl, ((q78.gr q83).gr q88)⟩
                            · skip
                              refine ol_gskip rfl rfl rfl rfl rfl c85 ?_
                              refine ol_gskip rfl rfl rfl rfl rfl c85 ?_
                              refine ol_val (v := .bool false) (by exact xr_pickF rfl rfl c85 rfl) rfl rfl rfl ?_
                              refine ol_nil ?_
                              obtain rfl := Option.some.inj j75
                              refine thn_i ?_
                              exact ⟨e0, e4, rfl, (q78.gr q83)⟩
                          · skip
                            refine ol_gskip rfl rfl rfl rfl rfl c80 ?_
                            refine ol_gskip rfl rfl rfl rfl rfl c80 ?_
                            refine ol_val (v := .bool false) (by exact xr_pickF rfl rfl c80 rfl) rfl rfl rfl ?_
                            refine ol_val (v := .bool false) (by exact xr_move rfl rfl) rfl rfl rfl ?_
                            refine ol_gskip rfl rfl rfl rfl rfl rfl ?_
                            refine ol_gskip rfl rfl rfl rfl rfl rfl ?_
                            refine ol_val (v := .bool false) (by exact xr_pickF rfl rfl rfl rfl) rfl rfl rfl ?_
                            refine ol_nil ?_
                            obtain rfl := Option.some.inj j75
                            refine thn_i ?_
                            exact ⟨e0, e4, rfl, q78⟩
                        · skip
                          rintro ρ90 w91 ⟨e0, e4, e92, q92⟩
                          have fB := fB.gr q92
                          rcases is h with ⟨c93, h⟩ | ⟨c93, h⟩
                          · refine cw_condT e92 c93 ?_
                            refine cw_seq ?_
                            obtain ⟨g94, h⟩ := gs h
                            obtain ⟨g95, h⟩ := gs h
                            obtain ⟨g96, h⟩ := gs h
                            refine cw_drawL 20 [fun vz wz => vz = (.int .u8 (ofB (List.getD a0 (Int.toNat 0) 0)) : Value), fun vz wz => vz = (.int .u8 (IntKind.u8.wrap ((ofB (List.getD a0 (Int.toNat 0) 0)) - 240)) : Value), fun vz wz => vz = (.int .i64 (IntKind.i64.wrap (IntKind.u8.wrap ((ofB (List.getD a0 (Int.toNat 0) 0)) - 240))) : Value), fun vz wz => vz = (.int .i64 (IntKind.i64.wrap ((IntKind.i64.wrap (IntKind.u8.wrap ((ofB (List.getD a0 (Int.toNat 0) 0)) - 240))) * 262144)) : Value), fun vz wz => vz = (sv a0 : Value), fun vz wz => vz = (.int .u8 (ofB (List.getD a0 (Int.toNat 1) 0)) : Value), fun vz wz => vz = (.int .u8 (IntKind.u8.wrap ((ofB (List.getD a0 (Int.toNat 1) 0)) - 128)) : Value), fun vz wz => vz = (.int .i64 (IntKind.i64.wrap (IntKind.u8.wrap ((ofB (List.getD a0 (Int.toNat 1) 0)) - 128))) : Value), fun vz wz => vz = (.int .i64 (IntKind.i64.wrap ((IntKind.i64.wrap (IntKind.u8.wrap ((ofB (List.getD a0 (Int.toNat 1) 0)) - 128))) * 4096)) : Value), fun vz wz => vz = (.int .i64 (IntKind.i64.wrap ((IntKind.i64.wrap ((IntKind.i64.wrap (IntKind.u8.wrap ((ofB (List.getD a0 (Int.toNat 0) 0)) - 240))) * 262144)) + (IntKind.i64.wrap ((IntKind.i64.wrap (IntKind.u8.wrap ((ofB (List.getD a0 (Int.toNat 1) 0)) - 128))) * 4096)))) : Value), fun vz wz => vz = (sv a0 : Value), fun vz wz => vz = (.int .u8 (ofB (List.getD a0 (Int.toNat 2) 0)) : Value), fun vz wz => vz = (.int .u8 (IntKind.u8.wrap ((ofB (List.getD a0 (Int.toNat 2) 0)) - 128)) : Value), fun vz wz => vz = (.int .i64 (IntKind.i64.wrap (IntKind.u8.wrap ((ofB (List.getD a0 (Int.toNat 2) 0)) - 128))) : Value), fun vz wz => vz = (.int .i64 (IntKind.i64.wrap ((IntKind.i64.wrap (IntKind.u8.wrap ((ofB (List.getD a0 (Int.toNat 2) 0)) - 128))) * 64)) : Value), fun vz wz => vz = (.int .i64 (IntKind.i64.wrap ((IntKind.i64.wrap ((IntKind.i64.wrap ((IntKind.i64.wrap (IntKind.u8.wrap ((ofB (List.getD a0 (Int.toNat 0) 0)) - 240))) * 262144)) + (IntKind.i64.wrap ((IntKind.i64.wrap (IntKind.u8.wrap ((ofB (List.getD a0 (Int.toNat 1) 0)) - 128))) * 4096)))) + (IntKind.i64.wrap ((IntKind.i64.wrap (IntKind.u8.wrap ((ofB (List.getD a0 (Int.toNat 2) 0)) - 128))) * 64)))) : Value), fun vz wz => vz = (sv a0 : Value), fun vz wz => vz = (.int .u8 (ofB (List.getD a0 (Int.toNat 3) 0)) : Value), fun vz wz => vz = (.int .u8 (IntKind.u8.wrap ((ofB (List.getD a0 (Int.toNat 3) 0)) - 128)) : Value), fun vz wz => vz = (.int .i64 (IntKind.i64.wrap (IntKind.u8.wrap ((ofB (List.getD a0 (Int.toNat 3) 0)) - 128))) : Value)] mo rfl ⟨fun _ _ _ h _ => h, fun _ _ _ h _ => h, fun _ _ _ h _ => h, fun _ _ _ h _ => h, fun _ _ _ h _ => h, fun _ _ _ h _ => h, fun _ _ _ h _ => h, fun _ _ _ h _ => h, fun _ _ _ h _ => h, fun _ _ _ h _ => h, fun _ _ _ h _ => h, fun _ _ _ h _ => h, fun _ _ _ h _ => h, fun _ _ _ h _ => h, fun _ _ _ h _ => h, fun _ _ _ h _ => h, fun _ _ _ h _ => h, fun _ _ _ h _ => h, fun _ _ _ h _ => h, fun _ _ _ h _ => h, trivial⟩ ?_ ?_
                            · refine ⟨?_, ?_, ?_, ?_, ?_, ?_, ?_, ?_, ?_, ?_, ?_, ?_, ?_, ?_, ?_, ?_, ?_, ?_, ?_, ?_, trivial⟩
                              · intro ρz wz hz hk hd
                                exact sk_val (v := .int .u8 (ofB (List.getD a0 (Int.toNat 0) 0))) (by exact xr_move rfl ((hk 4 rfl).trans e4)) rfl rfl
                              · intro ρz wz hz hk hd
                                have d93 := hd 0 rfl 93 rfl
                                exact sk_val (by exact xr_sub rfl d93 rfl) rfl rfl
                              · intro ρz wz hz hk hd
                                have d94 := hd 1 rfl 94 rfl
                                exact sk_val (by exact xr_conv rfl Try.underlying5 Try.underlying3 d94) rfl rfl
                              · intro ρz wz hz hk hd
                                have d95 := hd 2 rfl 95 rfl
                                exact sk_val (by exact xr_mul rfl d95 rfl) rfl rfl
                              · intro ρz wz hz hk hd
                                exact sk_val (v := sv a0) (by exact xr_move rfl ((hk 0 rfl).trans e0)) rfl rfl
                              · intro ρz wz hz hk hd
                                have d97 := hd 4 rfl 97 rfl
                                exact sk_val (v := .int .u8 (ofB (List.getD a0 (Int.toNat 1) 0))) (by exact xr_indexStr rfl Try.underlying9 d97 rfl (by decide) g94) rfl rfl
                              · intro ρz wz hz hk hd
                                have d98 := hd 5 rfl 98 rfl
                                exact sk_val (by exact xr_sub rfl d98 rfl) rfl rfl
                              · intro ρz wz hz hk hd
                                have d99 := hd 6 rfl 99 rfl
                                exact sk_val (by exact xr_conv rfl Try.underlying5 Try.underlying3 d99) rfl rfl
                              · intro ρz wz hz hk hd
                                have d100 := hd 7 rfl 100 rfl
                                exact sk_val (by exact xr_mul rfl d100 rfl) rfl rfl
                              · intro ρz wz hz hk hd
                                have d96 := hd 3 rfl 96 rfl
                                have d101 := hd 8 rfl 101 rfl
                                exact sk_val (by exact xr_add rfl d96 d101) rfl rfl
                              · intro ρz wz hz hk hd
                                exact sk_val (v := sv a0) (by exact xr_move rfl ((hk 0 rfl).trans e0)) rfl rfl
                              · intro ρz wz hz hk hd
                                have d103 := hd 10 rfl 103 rfl
                                exact sk_val (v := .int .u8 (ofB (List.getD a0 (Int.toNat 2) 0))) (by exact xr_indexStr rfl Try.underlying9 d103 rfl (by decide) g95) rfl rfl
                              · intro ρz wz hz hk hd
                                have d104 := hd 11 rfl 104 rfl
                                exact sk_val (by exact xr_sub rfl d104 rfl) rfl rfl
                              · intro ρz wz hz hk hd
                                have d105 := hd 12 rfl 105 rfl
                                exact sk_val (by exact xr_conv rfl Try.underlying5 Try.underlying3 d105) rfl rfl
                              · intro ρz wz hz hk hd
                                have d106 := hd 13 rfl 106 rfl
                                exact sk_val (by exact xr_mul rfl d106 rfl) rfl rfl
                              · intro ρz wz hz hk hd
                                have d102 := hd 9 rfl 102 rfl
                                have d107 := hd 14 rfl 107 rfl
                                exact sk_val (by exact xr_add rfl d102 d107) rfl rfl
                              · intro ρz wz hz hk hd
                                exact sk_val (v := sv a0) (by exact xr_move rfl ((hk 0 rfl).trans e0)) rfl rfl
                              · intro ρz wz hz hk hd
                                have d109 := hd 16 rfl 109 rfl
                                exact sk_val (v := .int .u8 (ofB (List.getD a0 (Int.toNat 3) 0))) (by exact xr_indexStr rfl Try.underlying9 d109 rfl (by decide) g96) rfl rfl
                              · intro ρz wz hz hk hd
                                have d110 := hd 17 rfl 110 rfl
                                exact sk_val (by exact xr_sub rfl d110 rfl) rfl rfl
                              · intro ρz wz hz hk hd
                                have d111 := hd 18 rfl 111 rfl
                                exact sk_val (by exact xr_conv rfl Try.underlying5 Try.underlying3 d111) rfl rfl
                            · intro ρ97 w98 q99 hk hd
                              have e108 := hd 15 rfl 108 rfl
                              have e112 := hd 19 rfl 112 rfl
                              have fB := fB.gr q99
                              refine ol_val (v := .int .i64 (IntKind.i64.wrap ((IntKind.i64.wrap ((IntKind.i64.wrap ((IntKind.i64.wrap ((IntKind.i64.wrap (IntKind.u8.wrap ((ofB (List.getD a0 (Int.toNat 0) 0)) - 240))) * 262144)) + (IntKind.i64.wrap ((IntKind.i64.wrap (IntKind.u8.wrap ((ofB (List.getD a0 (Int.toNat 1) 0)) - 128))) * 4096)))) + (IntKind.i64.wrap ((IntKind.i64.wrap (IntKind.u8.wrap ((ofB (List.getD a0 (Int.toNat 2) 0)) - 128))) * 64)))) + (IntKind.i64.wrap (IntKind.u8.wrap ((ofB (List.getD a0 (Int.toNat 3) 0)) - 128)))))) (by exact xr_add rfl e108 e112) rfl rfl rfl ?_
                              refine ol_val (v := .int .i64 (IntKind.i64.wrap ((IntKind.i64.wrap ((IntKind.i64.wrap ((IntKind.i64.wrap ((IntKind.i64.wrap (IntKind.u8.wrap ((ofB (List.getD a0 (Int.toNat 0) 0)) - 240))) * 262144)) + (IntKind.i64.wrap ((IntKind.i64.wrap (IntKind.u8.wrap ((ofB (List.getD a0 (Int.toNat 1) 0)) - 128))) * 4096)))) + (IntKind.i64.wrap ((IntKind.i64.wrap (IntKind.u8.wrap ((ofB (List.getD a0 (Int.toNat 2) 0)) - 128))) * 64)))) + (IntKind.i64.wrap (IntKind.u8.wrap ((ofB (List.getD a0 (Int.toNat 3) 0)) - 128)))))) (by exact xr_assign rfl rfl) rfl rfl rfl ?_
                              refine ol_val (v := .int .i64 4) (by exact xr_assign rfl rfl) rfl rfl rfl ?_
                              refine ol_nil ?_
                              refine cw_ret ?_
                              repeat (first | with_reducible refine thn_r ?_ | with_reducible refine blk_r ?_)
                              obtain rfl := Option.some.inj h
                              have h := h59
                              obtain rfl := Option.some.inj h
                              have h := h20
                              obtain rfl := Option.some.inj h
                              refine fin_ret2 Try.results147 rfl rfl ?_
                              exact ⟨_, rfl, rfl, fB⟩
                          · refine cw_condF e92 c93 ?_
                            refine cw_skip ?_
                            obtain rfl := Option.some.inj h
                            refine thn_i ?_
                            exact ⟨_, rfl, fB⟩
                  · refine cw_condF e70 c61 ?_
                    refine cw_skip ?_
                    obtain rfl := Option.some.inj h
                    refine thn_i ?_
                    exact ⟨_, rfl, fB⟩
                · rintro ρ100 w101 ⟨x60, rfl, fB⟩
                  have h := h59
                  obtain rfl := Option.some.inj h
                  refine thn_i ?_
                  exact ⟨_, rfl, fB⟩
          · rintro ρ102 w103 ⟨x21, rfl, fB⟩
            have h := h20
            refine blk_i ?_
            refine cw_seq ?_
            refine cw_region ?_
            refine ol_val (v := .int .i64 65533) (by exact xr_assign rfl rfl) rfl rfl rfl ?_
            refine ol_val (v := .int .i64 1) (by exact xr_assign rfl rfl) rfl rfl rfl ?_
            refine ol_nil ?_
            refine cw_ret ?_
            repeat (first | with_reducible refine thn_r ?_ | with_reducible refine blk_r ?_)
            obtain rfl := Option.some.inj h
            refine fin_ret2 Try.results147 rfl rfl ?_
            exact ⟨_, rfl, rfl, fB⟩
end Go.Proofs.Ytjhajfkfhdnciaa

/- rickyard/rickyardref04.Runes: its model, and that the Go function computes it: written by gen.py. -/
set_option linter.unusedVariables false
namespace Go.Proofs.Ytjhajfkfhdnciaa
open Go Go.Xw
def rickyardref04_Runes.s0 (fu : Nat) : ((List UInt8) × (List Int)) → Option (Sum (List Int) ((List UInt8) × (List Int))) := fun s4 => (if (decide ((List.length s4.1 : Int) > 0)) = true then ((rickyardref04_First.f fu s4.1 : Option (Int × Int)).bind fun t18 => (if List.length s4.2 + List.length [t18.1] ≤ LIM then (if 0 ≤ t18.2 ∧ t18.2 ≤ (List.length s4.1 : Int) then some (Sum.inr ((cut s4.1 t18.2 (List.length s4.1 : Int)), (s4.2 ++ [t18.1]))) else none) else none)) else some (Sum.inl (s4.2)))
def rickyardref04_Runes.f (fu : Nat) (a0 : List UInt8) : Option (List Int) := ((loopM (rickyardref04_Runes.s0 fu) fu (a0, [])).bind fun e5 => some (e5))
set_option maxRecDepth 100000 in
set_option maxHeartbeats 400000 in
theorem rickyardref04_Runes.ok (fu : Nat) (w : World) (a0 : List UInt8) (r : (List Int)) (h : rickyardref04_Runes.f fu a0 = some r) :
    Calls Try.prog 139 (([sv a0] : List Value).toArray) w (fun e w' => ∃ v, e = .returned v ∧ ∃ u1 : Value, ∃ o2 : Own (kI .i64) 3 w' w.heap.size u1 r, v = u1 ∧ Gr w w') := by
  unfold rickyardref04_Runes.f at h
  have fB : Gr w w := Fr.refl _ _
  refine calls_cw Try.func139 rfl Try.ntmps139 rfl ?_
  refine cw_seq ?_
  refine cw_region ?_
  refine ol_val (v := .slice none 0 0) (by exact xr_assign rfl rfl) rfl rfl rfl ?_
  refine ol_nil ?_
  refine cw_seq ?_
  refine cw_region ?_
  refine ol_val (v := .slice none 0 0) (by exact xr_assign rfl rfl) rfl rfl rfl ?_
  refine ol_nil ?_
  refine cw_seq ?_
  obtain ⟨e5, l6, h7⟩ := bs h
  refine cw_mid (fun ρ' w' => ∃ v8 : Value, ∃ o9 : Own (kI .i64) 3 w' w.heap.size v8 e5, ρ' 3 = v8 ∧ Gr w w') ?_ ?_
  · refine cw_block ?_
    refine cw_round (fun (s4 : (List UInt8) × (List Int)) ρ' w' => ∃ v11 : Value, ∃ o12 : Own (kI .i64) 3 w' w.heap.size v11 s4.2, ρ' 0 = sv s4.1 ∧ ρ' 3 = v11 ∧ Gr w w') l6 ?_ ?_
    · skip
      exact ⟨(.slice none 0 0), Own.nil _ _ _ _, rfl, rfl, fB⟩
    · rintro s4 x16 ρ14 w15 ⟨v11, o12, e0, e3, fB⟩ h
      unfold rickyardref04_Runes.s0 at h
      refine cw_seq ?_
      refine cw_seq ?_
      refine cw_region ?_
      refine ol_val (v := sv s4.1) (by exact xr_move rfl e0) rfl rfl rfl ?_
      refine ol_val (v := .int .i64 (List.length s4.1 : Int)) (by exact xr_lenStr rfl Try.underlying9 rfl) rfl rfl rfl ?_
      refine ol_val (v := .bool (decide ((List.length s4.1 : Int) > 0))) (by exact xr_gtr rfl rfl rfl) rfl rfl rfl ?_
      refine ol_nil ?_
      rcases is h with ⟨c17, h⟩ | ⟨c17, h⟩
      · refine cw_condT rfl c17 ?_
        refine cw_skip ?_
        refine cw_block ?_
        refine cw_seq ?_
        refine cw_region ?_
        refine ol_val (v := sv s4.1) (by exact xr_move rfl e0) rfl rfl rfl ?_
        obtain ⟨t18, k19, h⟩ := bs h
        refine ol_op (by exact opv_call rfl cal147 (ac rfl an) (rickyardref04_First.ok fu _ s4.1 _ k19)) rfl rfl rfl ?_
        rintro _ w21 ⟨rfl, q20⟩
        have o12 := o12.gr q20
        have fB := fB.gr q20
        refine ol_val (v := .tuple #[.int .i64 t18.1, .int .i64 t18.2]) (by exact xr_move rfl rfl) rfl rfl rfl ?_
        refine ol_val (v := .int .i64 t18.1) (by exact xr_extract rfl rfl rfl) rfl rfl rfl ?_
        refine ol_val (v := .int .i64 t18.2) (by exact xr_extract rfl rfl rfl) rfl rfl rfl ?_
        refine ol_val (v := .int .i64 t18.1) (by exact xr_assign rfl rfl) rfl rfl rfl ?_
        refine ol_val (v := .int .i64 t18.2) (by exact xr_assign rfl rfl) rfl rfl rfl ?_
        refine ol_nil ?_
        refine cw_seq ?_
        refine cw_region ?_
        refine ol_val (v := v11) (by exact xr_move rfl e3) rfl rfl rfl ?_
        refine ol_val (v := .int .i64 t18.1) (by exact xr_move rfl rfl) rfl rfl rfl ?_
        refine ol_op (by exact opv_buildSlice (K := (kI .i64)) (xs := [t18.1]) (vals := [.int .i64 t18.1]) rfl Try.underlying45 el3 rfl rfl ⟨rfl, rfl, trivial⟩ rfl rfl rfl fB.size) rfl rfl rfl ?_
        rintro v22 w27 ⟨o24, q23, z25⟩
        have a28 := OffV.new o12 z25
        have o12 := o12.gr q23
        have fB := fB.gr q23
        obtain ⟨g33, h⟩ := gs h
        have f35 := o12.geO
        refine ol_op (by exact opv_append (K := (kI .i64)) rfl Try.underlying45 el3 rfl rfl rfl rfl rfl o12 o24.rd g33 fB.size) rfl rfl rfl ?_
        rintro v29 w36 ⟨o30, q31, n32⟩
        have fB := fB.wrO q31 f35
        refine ol_val (v := v29) (by exact xr_assign rfl rfl) rfl rfl rfl ?_
        refine ol_nil ?_
        refine cw_region ?_
        refine ol_val (v := sv s4.1) (by exact xr_move rfl e0) rfl rfl rfl ?_
        refine ol_val (v := .int .i64 t18.2) (by exact xr_move rfl rfl) rfl rfl rfl ?_
        obtain ⟨g37, h⟩ := gs h
        refine ol_val (v := sv (cut s4.1 t18.2 (List.length s4.1 : Int))) (by exact xr_str_l rfl Try.underlying9 rfl rfl g37.1 g37.2) rfl rfl rfl ?_
        refine ol_val (v := sv (cut s4.1 t18.2 (List.length s4.1 : Int))) (by exact xr_assign rfl rfl) rfl rfl rfl ?_
        refine ol_nil ?_
        refine blk_i ?_
        obtain rfl := Option.some.inj h
        refine lp_in ?_
        exact ⟨v29, o30, rfl, rfl, fB⟩
      · refine cw_condF rfl c17 ?_
        refine cw_exit ?_
        repeat (first | with_reducible refine thn_e ?_ | with_reducible refine blk_e rfl ?_)
        obtain rfl := Option.some.inj h
        refine lp_exit ?_
        rintro rfl
        refine thn_x ?_
        exact ⟨v11, o12, e3, fB⟩
  · rintro ρ38 w39 ⟨v8, o9, e3, fB⟩
    have h := h7
    refine cw_seq ?_
    refine cw_region ?_
    refine ol_val (v := v8) (by exact xr_move rfl e3) rfl rfl rfl ?_
    refine ol_val (v := v8) (by exact xr_assign rfl rfl) rfl rfl rfl ?_
    refine ol_nil ?_
    refine cw_ret ?_
    repeat (first | with_reducible refine thn_r ?_ | with_reducible refine blk_r ?_)
    obtain rfl := Option.some.inj h
    refine fin_ret1 Try.results139 rfl ?_
    exact ⟨_, rfl, v8, o9, rfl, fB⟩
end Go.Proofs.Ytjhajfkfhdnciaa
