/- RootOctet: texts merged, part 6 of 6. The last part proves that the law RootOctet holds for every input. -/
import Derived.Test.YtklhbaghbmndeaaPkRootOctet5
set_option maxRecDepth 100000
set_option maxHeartbeats 4000000
set_option linter.unusedVariables false
set_option linter.unusedSimpArgs false
namespace Go.Proofs.Ytklhbaghbmndeaa
open Go Go.Xw
def ok_api_Geometry (a : S_api_Geometry) : Prop := (Lit.int .i64 a.Blocks).wf = true ∧ (Lit.int .i64 a.Slots).wf = true ∧ (Lit.int .i64 a.Gens).wf = true
theorem opn_api_Geometry {w : World} : Opn Try.prog w 106 k_api_Geometry ok_api_Geometry := by
  intro H enc base sp held fuel cs x h
  obtain ⟨hl, m, hf⟩ := trod_st Try.underlying106 h
  obtain ⟨y0, h0⟩ := hf 0 _ rfl
  have c0 : Try.prog.cellsOf 3 = 1 := by kernel_rfl
  obtain ⟨b0, e0, o0⟩ := (opn_int Try.underlying3) enc base sp held m _ y0 h0
  have e0 : (cs.drop 0).take 1 = (kI .i64).enc b0 := (congrArg (fun n => (cs.drop 0).take n) c0).symm.trans e0
  obtain ⟨y1, h1⟩ := hf 1 _ rfl
  have c1 : Try.prog.cellsOf 3 = 1 := by kernel_rfl
  obtain ⟨b1, e1, o1⟩ := (opn_int Try.underlying3) enc base sp held m _ y1 h1
  have e1 : (cs.drop 1).take 1 = (kI .i64).enc b1 := (congrArg (fun n => (cs.drop 1).take n) c1).symm.trans e1
  obtain ⟨y2, h2⟩ := hf 2 _ rfl
  have c2 : Try.prog.cellsOf 3 = 1 := by kernel_rfl
  obtain ⟨b2, e2, o2⟩ := (opn_int Try.underlying3) enc base sp held m _ y2 h2
  have e2 : (cs.drop 2).take 1 = (kI .i64).enc b2 := (congrArg (fun n => (cs.drop 2).take n) c2).symm.trans e2
  have hn : cs.drop 3 = [] := List.drop_eq_nil_of_le (by rw [hl]; exact Nat.le_of_eq (by kernel_rfl))
  have hc : cs = (kI .i64).enc b0 ++ ((kI .i64).enc b1 ++ ((kI .i64).enc b2 ++ [])) := (fld_cons (o := 0) (n := 1) e0 (fld_cons (o := 1) (n := 1) e1 (fld_cons (o := 2) (n := 1) e2 hn)))
  refine ⟨⟨b0, b1, b2⟩, ?_, o0, o1, o2⟩
  rw [hc]
  simp [kA, kI, kB, kS, kT, cellsOf, Seg.cell, Kd.seg, k_api_Geometry, k_api_Tickets, segs_api_Geometry, segs_api_Tickets]
def ok_api_Tickets (a : S_api_Tickets) : Prop := ok_api_Geometry a.Geometry ∧ (Lit.int .i64 a.Top).wf = true ∧ (Lit.int .i64 a.High).wf = true ∧ (Lit.int .i64 a.Free).wf = true
theorem opn_api_Tickets {w : World} : Opn Try.prog w 108 k_api_Tickets ok_api_Tickets := by
  intro H enc base sp held fuel cs x h
  obtain ⟨hl, m, hf⟩ := trod_st Try.underlying108 h
  obtain ⟨y0, h0⟩ := hf 0 _ rfl
  have c0 : Try.prog.cellsOf 106 = 3 := by kernel_rfl
  obtain ⟨b0, e0, o0⟩ := (opn_api_Geometry (w := w)) enc base sp held m _ y0 h0
  have e0 : (cs.drop 0).take 3 = k_api_Geometry.enc b0 := (congrArg (fun n => (cs.drop 0).take n) c0).symm.trans e0
  obtain ⟨y1, h1⟩ := hf 1 _ rfl
  have c1 : Try.prog.cellsOf 3 = 1 := by kernel_rfl
  obtain ⟨b1, e1, o1⟩ := (opn_int Try.underlying3) enc base sp held m _ y1 h1
  have e1 : (cs.drop 3).take 1 = (kI .i64).enc b1 := (congrArg (fun n => (cs.drop 3).take n) c1).symm.trans e1
  obtain ⟨y2, h2⟩ := hf 2 _ rfl
  have c2 : Try.prog.cellsOf 3 = 1 := by kernel_rfl
  obtain ⟨b2, e2, o2⟩ := (opn_int Try.underlying3) enc base sp held m _ y2 h2
  have e2 : (cs.drop 4).take 1 = (kI .i64).enc b2 := (congrArg (fun n => (cs.drop 4).take n) c2).symm.trans e2
  obtain ⟨y3, h3⟩ := hf 3 _ rfl
  have c3 : Try.prog.cellsOf 3 = 1 := by kernel_rfl
  obtain ⟨b3, e3, o3⟩ := (opn_int Try.underlying3) enc base sp held m _ y3 h3
  have e3 : (cs.drop 5).take 1 = (kI .i64).enc b3 := (congrArg (fun n => (cs.drop 5).take n) c3).symm.trans e3
  have hn : cs.drop 6 = [] := List.drop_eq_nil_of_le (by rw [hl]; exact Nat.le_of_eq (by kernel_rfl))
  have hc : cs = k_api_Geometry.enc b0 ++ ((kI .i64).enc b1 ++ ((kI .i64).enc b2 ++ ((kI .i64).enc b3 ++ []))) := (fld_cons (o := 0) (n := 3) e0 (fld_cons (o := 3) (n := 1) e1 (fld_cons (o := 4) (n := 1) e2 (fld_cons (o := 5) (n := 1) e3 hn))))
  refine ⟨⟨b0, b1, b2, b3⟩, ?_, o0, o1, o2, o3⟩
  rw [hc]
  simp [kA, kI, kB, kS, kT, cellsOf, Seg.cell, Kd.seg, k_api_Geometry, k_api_Tickets, segs_api_Geometry, segs_api_Tickets]
def ok_api_Super (a : S_api_Super) : Prop := (Lit.int .i64 a.Epoch).wf = true ∧ ok_api_Tickets a.Tickets ∧ (Lit.int .i64 a.Dir).wf = true ∧ ((∀ x ∈ a.Charts, (Lit.int .i64 x).wf = true) ∧ List.length a.Charts ≤ maxLen)
theorem opn_api_Super {w : World} {H : Type} (enc : TypeId × Value → H) (base : Nat) (sp : Nat → Bool) (held : Bool) (fuel : Nat) (cs : List Value) (x : DataW H × List MemPlace) (h : DataW.trod enc Try.prog w base sp held fuel 110 cs = some x) : ∃ a : S_api_Super, ∃ V0 : Value, ∃ R0 : Rd (kI .i64) w V0 a.Charts, cs = cellsOf [Seg.cell (.int .i64 a.Epoch), Seg.cell (.int .i64 a.Tickets.Geometry.Blocks), Seg.cell (.int .i64 a.Tickets.Geometry.Slots), Seg.cell (.int .i64 a.Tickets.Geometry.Gens), Seg.cell (.int .i64 a.Tickets.Top), Seg.cell (.int .i64 a.Tickets.High), Seg.cell (.int .i64 a.Tickets.Free), Seg.cell (.int .i64 a.Dir), Seg.cell V0 R0.one] ∧ ok_api_Super a := by
  obtain ⟨hl, m, hf⟩ := trod_st Try.underlying110 h
  obtain ⟨y0, h0⟩ := hf 0 _ rfl
  have c0 : Try.prog.cellsOf 3 = 1 := by kernel_rfl
  obtain ⟨b0, e0, o0⟩ := (opn_int Try.underlying3) enc base sp held m _ y0 h0
  have e0 : (cs.drop 0).take 1 = (kI .i64).enc b0 := (congrArg (fun n => (cs.drop 0).take n) c0).symm.trans e0
  obtain ⟨y1, h1⟩ := hf 1 _ rfl
  have c1 : Try.prog.cellsOf 108 = 6 := by kernel_rfl
  obtain ⟨b1, e1, o1⟩ := (opn_api_Tickets (w := w)) enc base sp held m _ y1 h1
  have e1 : (cs.drop 1).take 6 = k_api_Tickets.enc b1 := (congrArg (fun n => (cs.drop 1).take n) c1).symm.trans e1
  obtain ⟨y2, h2⟩ := hf 2 _ rfl
  have c2 : Try.prog.cellsOf 3 = 1 := by kernel_rfl
  obtain ⟨b2, e2, o2⟩ := (opn_int Try.underlying3) enc base sp held m _ y2 h2
  have e2 : (cs.drop 7).take 1 = (kI .i64).enc b2 := (congrArg (fun n => (cs.drop 7).take n) c2).symm.trans e2
  obtain ⟨y3, h3⟩ := hf 3 _ rfl
  have c3 : Try.prog.cellsOf 25 = 1 := by kernel_rfl
  obtain ⟨b3, W3, e3, r3, o3, l3, _⟩ := (opn_slice (K := (kI .i64)) Try.underlying25 (by kernel_rfl) (by decide) (opn_int Try.underlying3)) enc base sp held m _ y3 h3
  have e3 : (cs.drop 8).take 1 = [W3] := (congrArg (fun n => (cs.drop 8).take n) c3).symm.trans e3
  have hn : cs.drop 9 = [] := List.drop_eq_nil_of_le (by rw [hl]; exact Nat.le_of_eq (by kernel_rfl))
  have hc : cs = (kI .i64).enc b0 ++ (k_api_Tickets.enc b1 ++ ((kI .i64).enc b2 ++ ([W3] ++ []))) := (fld_cons (o := 0) (n := 1) e0 (fld_cons (o := 1) (n := 6) e1 (fld_cons (o := 7) (n := 1) e2 (fld_cons (o := 8) (n := 1) e3 hn))))
  refine ⟨⟨b0, b1, b2, b3⟩, W3, r3, ?_, o0, o1, o2, ⟨o3, l3⟩⟩
  rw [hc]
  simp [kA, kI, kB, kS, kT, cellsOf, Seg.cell, Kd.seg, k_api_Geometry, k_api_Tickets, segs_api_Geometry, segs_api_Tickets]
end Go.Proofs.Ytklhbaghbmndeaa
namespace Go.Proofs.Ytklhbaghbmndeaa.Pure
open Go Go.Xw
def upd {α : Type} (g : Nat → α → α) (lo j : Nat) (cs : List α) : List α := cs.mapIdx fun i c => if lo ≤ i ∧ i < lo + j then g i c else c
theorem getD_set {α : Type} (cs : List α) (i k : Nat) (v d : α) (hi : i < cs.length) : (cs.set i v).getD k d = if i = k then v else cs.getD k d := by
  simp only [List.getD_eq_getElem?_getD, List.getElem?_set]
  by_cases h : i = k
  · subst h
    simp [hi]
  · simp [h]
def I32 (x : BitVec 32) : Int := (x.toNat : Int)
theorem I32_lt (x : BitVec 32) : 0 ≤ I32 x ∧ I32 x ≤ 4294967295 := by
  unfold I32
  have := x.isLt
  omega
theorem ofI (x : BitVec 32) : BitVec.ofInt 32 (I32 x) = x := by
  unfold I32
  rw [BitVec.ofInt_natCast, BitVec.ofNat_toNat, BitVec.setWidth_eq]
theorem I32_of {n : Int} (h0 : 0 ≤ n) (h1 : n ≤ 4294967295) : n = I32 (BitVec.ofNat 32 n.toNat) := by
  unfold I32
  rw [BitVec.toNat_ofNat, Nat.mod_eq_of_lt (by omega)]
  omega
theorem wI32 (x : BitVec 32) : IntKind.u32.wrap (I32 x) = I32 x := wu32 (I32_lt x).1 (I32_lt x).2
theorem bx32 (x y : BitVec 32) : bXor .u32 (I32 x) (I32 y) = I32 (x ^^^ y) := by
  unfold bXor
  show IntKind.u32.wrap (((BitVec.ofInt 32 (I32 x) ^^^ BitVec.ofInt 32 (I32 y)).toNat : Nat) : Int) = _
  rw [ofI, ofI]
  exact wI32 _
theorem ba32 (x y : BitVec 32) : bAnd .u32 (I32 x) (I32 y) = I32 (x &&& y) := by
  unfold bAnd
  show IntKind.u32.wrap (((BitVec.ofInt 32 (I32 x) &&& BitVec.ofInt 32 (I32 y)).toNat : Nat) : Int) = _
  rw [ofI, ofI]
  exact wI32 _
theorem sr32 (x : BitVec 32) (n : Nat) (hn : n ≤ 32) : shR .u32 (I32 x) (n : Int) = I32 (x >>> n) := by
  unfold shR I32
  rw [BitVec.toNat_ushiftRight, Nat.shiftRight_eq_div_pow]
  show Int.fdiv (x.toNat : Int) (2 ^ min ((n : Int).toNat) 32) = _
  rw [Int.toNat_natCast, Nat.min_eq_left hn, Int.fdiv_eq_ediv_of_nonneg _ (Int.le_of_lt (Int.pow_pos (by decide)))]
  simp
def poly : BitVec 32 := 2197175160#32
def stp (x : BitVec 32) : BitVec 32 := (x >>> 1) ^^^ (if x.getLsbD 0 then poly else 0#32)
theorem lsb_and (x : BitVec 32) : (I32 (x &&& 1#32) = 1) ↔ x.getLsbD 0 = true := by
  unfold I32
  rw [BitVec.toNat_and]
  show ((x.toNat &&& 1 : Nat) : Int) = 1 ↔ x.toNat.testBit 0 = true
  rw [Nat.and_one_is_mod, Nat.testBit_zero]
  simp
  omega
theorem rstep_eq (fu : Nat) (x : BitVec 32) : rickyardref02_Step.f fu (I32 x) = some (I32 (stp x)) := by
  unfold rickyardref02_Step.f stp
  have hb := I32_lt x
  have e1 : Int.tmod (I32 x) 2 = I32 (x &&& 1#32) := by
    rw [Int.tmod_eq_emod_of_nonneg hb.1]
    unfold I32
    rw [BitVec.toNat_and]
    show ((x.toNat : Int)) % 2 = ((x.toNat &&& 1 : Nat) : Int)
    rw [Nat.and_one_is_mod]
    omega
  have e2 : Int.tdiv (I32 x) 2 = I32 (x >>> 1) := by
    rw [Int.tdiv_eq_ediv_of_nonneg hb.1]
    unfold I32
    rw [BitVec.toNat_ushiftRight, Nat.shiftRight_eq_div_pow]
    omega
  have e3 : bXor .u32 (I32 (x >>> 1)) 2197175160 = I32 (x >>> 1 ^^^ poly) := bx32 (x >>> 1) poly
  rw [e1, e2, wI32, e3]
  by_cases h : x.getLsbD 0 = true
  · rw [if_pos (by simpa using (lsb_and x).2 h), if_pos h]
  · rw [if_neg (by simpa using fun e => h ((lsb_and x).1 e)), if_neg h]
    simp
theorem xor4 (a b p q : BitVec 32) : (a ^^^ b) ^^^ (p ^^^ q) = (a ^^^ p) ^^^ (b ^^^ q) := by
  rw [BitVec.xor_assoc, ← BitVec.xor_assoc b, BitVec.xor_comm b p, BitVec.xor_assoc p, ← BitVec.xor_assoc]
theorem sel_xor (a b : Bool) (p : BitVec 32) : (if (a ^^ b) = true then p else 0#32) = (if a = true then p else 0#32) ^^^ (if b = true then p else 0#32) := by
  cases a <;> cases b <;> simp
theorem stp_xor (x y : BitVec 32) : stp (x ^^^ y) = stp x ^^^ stp y := by
  unfold stp
  rw [BitVec.ushiftRight_xor_distrib, BitVec.getLsbD_xor, sel_xor, xor4]
def stps : Nat → BitVec 32 → BitVec 32
  | 0, x => x
  | n + 1, x => stps n (stp x)
theorem stps_xor : ∀ (n : Nat) (x y : BitVec 32), stps n (x ^^^ y) = stps n x ^^^ stps n y
  | 0, x, y => rfl
  | n + 1, x, y => by
    unfold stps
    rw [stp_xor, stps_xor n]
theorem stps_add (m : Nat) : ∀ (n : Nat) (x : BitVec 32), stps (n + m) x = stps m (stps n x)
  | 0, x => by simp [stps]
  | n + 1, x => by
    rw [Nat.add_right_comm]
    show stps (n + m) (stp x) = stps m (stps n (stp x))
    exact stps_add m n (stp x)
theorem stps_succ (n : Nat) (x : BitVec 32) : stps (n + 1) x = stp (stps n x) := stps_add 1 n x
theorem stp_even {x : BitVec 32} (h : x.getLsbD 0 = false) : stp x = x >>> 1 := by
  unfold stp
  rw [h]
  simp
theorem stps_high (x : BitVec 32) : ∀ n, (∀ j, j < n → x.getLsbD j = false) → stps n x = x >>> n
  | 0, _ => by simp [stps]
  | n + 1, h => by
    rw [stps_succ, stps_high x n fun j hj => h j (by omega)]
    rw [stp_even (by rw [BitVec.getLsbD_ushiftRight]; exact h (n + 0) (by omega)), ← BitVec.shiftRight_add]
theorem low_bit (n j : Nat) (hj : j < n) (hn : n ≤ 32) : (BitVec.ofNat 32 (2 ^ n - 1)).getLsbD j = true := by
  rw [BitVec.getLsbD_ofNat, Nat.testBit_two_pow_sub_one]
  simp
  omega
theorem high_bit (n j : Nat) (hj : n ≤ j) : (BitVec.ofNat 32 (2 ^ n - 1)).getLsbD j = false := by
  rw [BitVec.getLsbD_ofNat, Nat.testBit_two_pow_sub_one]
  simp
  omega
theorem stps_split (n : Nat) (hn : n ≤ 32) (x : BitVec 32) : stps n x = (x >>> n) ^^^ stps n (x &&& BitVec.ofNat 32 (2 ^ n - 1)) := by
  have e : x = (x &&& ~~~ BitVec.ofNat 32 (2 ^ n - 1)) ^^^ (x &&& BitVec.ofNat 32 (2 ^ n - 1)) := by
    apply BitVec.eq_of_getLsbD_eq
    intro i hi
    rw [BitVec.getLsbD_xor, BitVec.getLsbD_and, BitVec.getLsbD_and, BitVec.getLsbD_not]
    cases x.getLsbD i <;> cases (BitVec.ofNat 32 (2 ^ n - 1)).getLsbD i <;> simp [hi]
  conv => lhs; rw [e]
  rw [stps_xor, stps_high]
  · congr 1
    apply BitVec.eq_of_getLsbD_eq
    intro i hi
    rw [BitVec.getLsbD_ushiftRight, BitVec.getLsbD_ushiftRight, BitVec.getLsbD_and, BitVec.getLsbD_not, high_bit n (n + i) (by omega)]
    by_cases h : n + i < 32
    · simp [h]
    · have : x.getLsbD (n + i) = false := BitVec.getLsbD_of_ge _ _ (by omega)
      simp [this]
  · intro j hj
    rw [BitVec.getLsbD_and, BitVec.getLsbD_not, low_bit n j hj hn]
    simp
theorem stp_inj0 {x : BitVec 32} (h : stp x = 0#32) : x = 0#32 := by
  unfold stp at h
  have hp : poly.getLsbD 31 = true := by decide
  have h31 : (stp x).getLsbD 31 = x.getLsbD 0 := by
    unfold stp
    rw [BitVec.getLsbD_xor, BitVec.getLsbD_ushiftRight, BitVec.getLsbD_of_ge x (1 + 31) (by omega)]
    cases x.getLsbD 0 <;> simp [hp]
  have h0 : x.getLsbD 0 = false := by
    rw [← h31]
    unfold stp
    rw [h]
    simp
  simp only [h0] at h
  apply BitVec.eq_of_getLsbD_eq
  intro i hi
  cases i with
  | zero => rw [h0]; simp
  | succ i =>
    have := congrArg (fun z => z.getLsbD i) h
    simp [BitVec.getLsbD_ushiftRight] at this
    rw [Nat.add_comm] at this
    simpa using this
theorem stps_inj0 : ∀ (n : Nat) {x : BitVec 32}, stps n x = 0#32 → x = 0#32
  | 0, x, h => h
  | n + 1, x, h => stp_inj0 (stps_inj0 n h)
def Bytes (l : List Int) : Prop := ∀ x ∈ l, 0 ≤ x ∧ x ≤ 255
def b32 (c : Int) : BitVec 32 := BitVec.ofNat 32 c.toNat
theorem b32_eq {c : Int} (h : 0 ≤ c ∧ c ≤ 255) : IntKind.u32.wrap c = I32 (b32 c) := by
  rw [wu32 h.1 (by omega)]
  exact I32_of h.1 (by omega)
def take8 (x : BitVec 32) (c : Int) : BitVec 32 := stps 8 (x ^^^ b32 c)
def regs (x : BitVec 32) (l : List Int) : BitVec 32 := l.foldl take8 x
def tabL : List Int := (List.range 16).map fun i => I32 (stps 4 (BitVec.ofNat 32 i))
def tabA : Arr 16 Int := ⟨tabL, rfl⟩
theorem table_at (n : Nat) : crc_Table.f (n + 20) = some tabA := by kernel_rfl
theorem table_eq {fu : Nat} (h : 20 ≤ fu) : crc_Table.f fu = some tabA := by
  obtain ⟨n, rfl⟩ : ∃ n, fu = n + 20 := ⟨fu - 20, by omega⟩
  exact table_at n
theorem tab_get : ∀ i : Fin 16, Arr.get tabA ((i : Nat) : Int) = I32 (stps 4 (BitVec.ofNat 32 (i : Nat))) := by decide +kernel
theorem nib (x : BitVec 32) : bXor .u32 (shR .u32 (I32 x) 4) (Arr.get tabA (bAnd .u32 (I32 x) 15)) = I32 (stps 4 x) := by
  have e1 : bAnd .u32 (I32 x) 15 = I32 (x &&& 15#32) := ba32 x 15#32
  have e2 : shR .u32 (I32 x) 4 = I32 (x >>> 4) := sr32 x 4 (by decide)
  have hlt : (x &&& 15#32).toNat < 16 := by
    rw [BitVec.toNat_and]
    exact Nat.lt_of_le_of_lt Nat.and_le_right (by decide)
  have e3 : Arr.get tabA (I32 (x &&& 15#32)) = I32 (stps 4 (x &&& 15#32)) := by
    have := tab_get ⟨(x &&& 15#32).toNat, hlt⟩
    simp only [BitVec.ofNat_toNat, BitVec.setWidth_eq] at this
    exact this
  rw [e1, e2, e3, bx32]
  exact congrArg I32 (stps_split 4 (by decide) x).symm
theorem nib_in (x : BitVec 32) : 0 ≤ bAnd .u32 (I32 x) 15 ∧ bAnd .u32 (I32 x) 15 < 16 := by
  have e1 : bAnd .u32 (I32 x) 15 = I32 (x &&& 15#32) := ba32 x 15#32
  have hlt : (x &&& 15#32).toNat < 16 := by
    rw [BitVec.toNat_and]
    exact Nat.lt_of_le_of_lt Nat.and_le_right (by decide)
  rw [e1]
  unfold I32
  omega
theorem ix_nat {α : Type} [Inhabited α] {l : List α} {j : Nat} (h : j < l.length) : ix l (j : Int) = l[j] := by
  simp [ix, List.getD_eq_getElem?_getD, List.getElem?_eq_getElem h]
theorem take_next {α : Type} {l : List α} {j : Nat} (h : j < l.length) : l.take (j + 1) = l.take j ++ [l[j]] := by
  rw [List.take_add_one, List.getElem?_eq_getElem h]
  rfl
theorem reg_eq {fu : Nat} {x : BitVec 32} {l : List Int} (hb : Bytes l) (hl : l.length ≤ 9000000000000000000) (hf : l.length < fu) : crc_register.f fu tabA (I32 x) l = some (I32 (regs x l)) := by
  unfold crc_register.f
  have : loopM (crc_register.s0 fu tabA l) fu (I32 x, 0) = some (I32 (regs x l)) := by
    refine loopM_run (S := fun j => (I32 (regs x (l.take j)), (j : Int))) l.length (by simp [regs]) ?_ ?_ hf
    · intro j hj
      unfold crc_register.s0
      have h1 : (j : Int) < (l.length : Int) := by omega
      have w3 : IntKind.i64.wrap ((j : Int) + 1) = ((j + 1 : Nat) : Int) := by rw [w64 (by omega) (by omega)]; omega
      have hc := hb _ (List.getElem_mem hj)
      have e1 : bXor .u32 (I32 (regs x (l.take j))) (IntKind.u32.wrap (ix l (j : Int))) = I32 (regs x (l.take j) ^^^ b32 l[j]) := by
        rw [ix_nat hj, b32_eq hc, bx32]
      have e2 : regs x (l.take (j + 1)) = stps 4 (stps 4 (regs x (l.take j) ^^^ b32 l[j])) := by
        rw [take_next hj]
        unfold regs
        rw [List.foldl_append]
        exact stps_add 4 4 _
      simp only [h1, decide_true, if_true, e1, nib, w3, e2]
      rw [if_pos ⟨by omega, trivial⟩, if_pos (nib_in _), if_pos (nib_in _)]
    · unfold crc_register.s0
      simp
  rw [this]
  rfl
def ones : BitVec 32 := 4294967295#32
def crc (l : List Int) : BitVec 32 := regs ones l ^^^ ones
theorem sum_eq {fu : Nat} {l : List Int} (hb : Bytes l) (hl : l.length ≤ 9000000000000000000) (hf : l.length + 20 < fu) : crc_Sum.f fu [l] = some (I32 (crc l)) := by
  unfold crc_Sum.f
  rw [table_eq (by omega)]
  have : loopM (crc_Sum.s0 fu [l] tabA) fu (4294967295, 0) = some (I32 (regs ones l)) := by
    refine loopM_run (S := fun j => (if j = 0 then I32 ones else I32 (regs ones l), (j : Int))) 1 rfl ?_ ?_ (by omega)
    · intro j hj
      obtain rfl : j = 0 := by omega
      unfold crc_Sum.s0
      have e0 : ix [l] ((0 : Nat) : Int) = l := rfl
      have w3 : IntKind.i64.wrap (((0 : Nat) : Int) + 1) = ((0 + 1 : Nat) : Int) := by decide
      simp only [e0, w3, if_true, reg_eq hb hl (by omega : l.length < fu)]
      simp
    · unfold crc_Sum.s0
      simp
  simp only [Option.bind_some]
  rw [this]
  simp only [Option.bind_some]
  exact congrArg some (bx32 _ ones)
theorem rsteps_eq {fu : Nat} {x : BitVec 32} (hf : 8 < fu) : rickyardref02_Steps.f fu (I32 x) 8 = some (I32 (stps 8 x)) := by
  unfold rickyardref02_Steps.f
  have : loopM (rickyardref02_Steps.s0 fu 8) fu (I32 x, 0) = some (I32 (stps 8 x)) := by
    refine loopM_run (S := fun j => (I32 (stps j x), (j : Int))) 8 rfl ?_ ?_ hf
    · intro j hj
      unfold rickyardref02_Steps.s0
      have h1 : (j : Int) < 8 := by omega
      have w3 : IntKind.i64.wrap ((j : Int) + 1) = ((j + 1 : Nat) : Int) := by rw [w64 (by omega) (by omega)]; omega
      simp only [h1, decide_true, if_true, rstep_eq, w3, stps_succ]
      rfl
    · unfold rickyardref02_Steps.s0
      simp
  rw [this]
  rfl
theorem rsum_eq {fu : Nat} {l : List Int} (hb : Bytes l) (hl : l.length ≤ 9000000000000000000) (hf : l.length + 20 < fu) : rickyardref02_Sum.f fu l = some (I32 (crc l)) := by
  unfold rickyardref02_Sum.f
  have : loopM (rickyardref02_Sum.s0 fu l) fu (4294967295, 0) = some (I32 (regs ones l)) := by
    refine loopM_run (S := fun j => (I32 (regs ones (l.take j)), (j : Int))) l.length (by simp [regs]; rfl) ?_ ?_ (by omega)
    · intro j hj
      unfold rickyardref02_Sum.s0
      have h1 : (j : Int) < (l.length : Int) := by omega
      have w3 : IntKind.i64.wrap ((j : Int) + 1) = ((j + 1 : Nat) : Int) := by rw [w64 (by omega) (by omega)]; omega
      have hc := hb _ (List.getElem_mem hj)
      have e1 : bXor .u32 (I32 (regs ones (l.take j))) (IntKind.u32.wrap (ix l (j : Int))) = I32 (regs ones (l.take j) ^^^ b32 l[j]) := by
        rw [ix_nat hj, b32_eq hc, bx32]
      have e2 : regs ones (l.take (j + 1)) = stps 8 (regs ones (l.take j) ^^^ b32 l[j]) := by
        rw [take_next hj]
        unfold regs
        rw [List.foldl_append]
        rfl
      simp only [h1, decide_true, if_true, e1, w3, e2, rsteps_eq (by omega : 8 < fu)]
      rw [if_pos ⟨by omega, trivial⟩]
      rfl
    · unfold rickyardref02_Sum.s0
      simp
  rw [this]
  have e : IntKind.u32.wrap (4294967295 - I32 (regs ones l)) = I32 (crc l) := by
    have hlt := (regs ones l).isLt
    have h2 : (crc l).toNat = 4294967295 - (regs ones l).toNat := by
      unfold crc
      have : regs ones l ^^^ ones = ~~~ (regs ones l) := by
        apply BitVec.eq_of_getLsbD_eq
        intro i hi
        have ho : ones.getLsbD i = true := by
          have := low_bit 32 i hi (by decide)
          exact this
        rw [BitVec.getLsbD_xor, BitVec.getLsbD_not, ho]
        simp [hi]
      rw [this, BitVec.toNat_not]
    unfold I32
    rw [h2, wu32 (by omega) (by omega)]
    omega
  simp only [Option.bind_some, e]
def lay (v n : Nat) : List Int := (List.range n).map fun i => ((v / 256 ^ i % 256 : Nat) : Int)
theorem lay_len (v n : Nat) : (lay v n).length = n := by simp [lay]
theorem lay_succ (v n : Nat) : lay v (n + 1) = lay v n ++ [((v / 256 ^ n % 256 : Nat) : Int)] := by
  simp [lay, List.range_succ]
theorem lay_bytes (v n : Nat) : Bytes (lay v n) := by
  intro x hx
  simp only [lay, List.mem_map] at hx
  obtain ⟨i, _, rfl⟩ := hx
  omega
theorem wu8_mod {n : Nat} : IntKind.u8.wrap (n : Int) = ((n % 256 : Nat) : Int) := by
  unfold IntKind.wrap
  simp only [IntKind.signed, IntKind.bits]
  simp
theorem shr64 (n : Nat) : shR .u64 (n : Int) 8 = ((n / 256 : Nat) : Int) := by
  unfold shR
  show Int.fdiv (n : Int) (2 ^ min ((8 : Int).toNat) 64) = _
  rw [show (2 : Int) ^ min ((8 : Int).toNat) 64 = 256 from by decide, Int.fdiv_eq_ediv_of_nonneg _ (by decide)]
  omega
theorem wn64 (q : Nat) (h : q < 18446744073709551616) : IntKind.u64.wrap (q : Int) = (q : Int) := wu64 (by omega) (by omega)
theorem tdn (q : Nat) : Int.tdiv (q : Int) 256 = ((q / 256 : Nat) : Int) := by
  rw [Int.tdiv_eq_ediv_of_nonneg (by omega)]
  omega
theorem tmn (q : Nat) : Int.tmod (q : Int) 256 = ((q % 256 : Nat) : Int) := by
  rw [Int.tmod_eq_emod_of_nonneg (by omega)]
  omega
theorem wn8 (q : Nat) : IntKind.u8.wrap ((q % 256 : Nat) : Int) = ((q % 256 : Nat) : Int) := wu8 (by omega) (by omega)
theorem olay_eq {fu v n : Nat} (hn : n ≤ 8) (hf : n < fu) : octet_Lay.f fu (v : Int) (n : Int) = some (lay v n) := by
  unfold octet_Lay.f
  have h0 : ¬ ((n : Int) < 0) := by omega
  have h8 : ¬ ((n : Int) > 8) := by omega
  have hL : Int.toNat (n : Int) ≤ LIM := by
    have : (8 : Nat) ≤ LIM := by decide
    omega
  simp only [h0, h8, decide_false, Bool.false_eq_true, if_false]
  rw [if_pos ⟨by omega, hL⟩]
  have : loopM (octet_Lay.s0 fu (n : Int)) fu ((v : Int), 0, List.replicate (Int.toNat (n : Int)) (0 : Int)) = some (lay v n) := by
    refine loopM_run (S := fun j => (((v / 256 ^ j : Nat) : Int), (j : Int), lay v j ++ List.replicate (n - j) (0 : Int))) n (by simp [lay]) ?_ ?_ hf
    · intro j hj
      unfold octet_Lay.s0
      have w3 : IntKind.i64.wrap ((j : Int) + 1) = ((j + 1 : Nat) : Int) := by rw [w64 (by omega) (by omega)]; omega
      have e1 : (List.replicate (Int.toNat (n : Int)) (0 : Int)).length = n := by simp
      have e2 : (lay v j ++ List.replicate (n - j) (0 : Int)).length = n := by rw [List.length_append, lay_len, List.length_replicate]; omega
      have e3 : List.set (lay v j ++ List.replicate (n - j) (0 : Int)) (Int.toNat (j : Int)) (IntKind.u8.wrap ((v / 256 ^ j : Nat) : Int)) = lay v (j + 1) ++ List.replicate (n - (j + 1)) (0 : Int) := by
        rw [Int.toNat_natCast, List.set_append, if_neg (by rw [lay_len]; omega), lay_len, Nat.sub_self, wu8_mod, lay_succ, show n - j = n - (j + 1) + 1 from by omega, List.replicate_succ]
        simp
      have e4 : shR .u64 ((v / 256 ^ j : Nat) : Int) 8 = ((v / 256 ^ (j + 1) : Nat) : Int) := by
        rw [shr64, Nat.div_div_eq_div_mul, Nat.pow_succ]
      have h1 : (j : Int) < (n : Int) := by omega
      simp only [e1, e2, e3, e4, w3, h1, decide_true, if_true]
      rw [if_pos ⟨by omega, trivial⟩]
    · unfold octet_Lay.s0
      simp
  rw [this]
  rfl
theorem roctet_eq {fu v i : Nat} (hv : v < 18446744073709551616) (hi : i ≤ 1000) (hf : i < fu) : rickyardref01_Octet.f fu (v : Int) (i : Int) = some ((v / 256 ^ i % 256 : Nat) : Int) := by
  unfold rickyardref01_Octet.f
  have : loopM (rickyardref01_Octet.s0 fu (i : Int)) fu ((v : Int), 0) = some ((v / 256 ^ i : Nat) : Int) := by
    refine loopM_run (S := fun j => (((v / 256 ^ j : Nat) : Int), (j : Int))) i (by simp) ?_ ?_ hf
    · intro j hj
      unfold rickyardref01_Octet.s0
      have w3 : IntKind.i64.wrap ((j : Int) + 1) = ((j + 1 : Nat) : Int) := by rw [w64 (by omega) (by omega)]; omega
      have h1 : (j : Int) < (i : Int) := by omega
      have hle : v / 256 ^ j ≤ v := Nat.div_le_self _ _
      have e1 : Int.tdiv ((v / 256 ^ j : Nat) : Int) 256 = ((v / 256 ^ (j + 1) : Nat) : Int) := by
        rw [tdn, Nat.pow_succ, ← Nat.div_div_eq_div_mul]
      have hle2 : v / 256 ^ (j + 1) ≤ v := Nat.div_le_self _ _
      have e2 : IntKind.u64.wrap ((v / 256 ^ (j + 1) : Nat) : Int) = ((v / 256 ^ (j + 1) : Nat) : Int) := wn64 _ (Nat.lt_of_le_of_lt hle2 hv)
      simp only [h1, decide_true, if_true, e1, e2, w3]
    · unfold rickyardref01_Octet.s0
      simp
  rw [this]
  simp only [Option.bind_some, tmn, wn8]
theorem rlay_eq {fu v n : Nat} (hv : v < 18446744073709551616) (hn : n ≤ 8) (hf : n < fu) : rickyardref01_Lay.f fu (v : Int) (n : Int) = some ((lay v n).map toB) := by
  unfold rickyardref01_Lay.f
  have : loopM (rickyardref01_Lay.s0 fu (v : Int) (n : Int)) fu ([], 0) = some ((lay v n).map toB) := by
    refine loopM_run (S := fun j => ((lay v j).map toB, (j : Int))) n (by simp [lay]) ?_ ?_ hf
    · intro j hj
      unfold rickyardref01_Lay.s0
      have w3 : IntKind.i64.wrap ((j : Int) + 1) = ((j + 1 : Nat) : Int) := by rw [w64 (by omega) (by omega)]; omega
      have h1 : (j : Int) < (n : Int) := by omega
      have hlim : ((lay v j).map toB).length + ([((v / 256 ^ j % 256 : Nat) : Int)].map toB).length ≤ LIM := by
        have : (9 : Nat) ≤ LIM := by decide
        simp only [List.length_map, lay_len, List.length_cons, List.length_nil]
        omega
      simp only [h1, decide_true, if_true, roctet_eq (fu := fu) hv (by omega : j ≤ 1000) (by omega), Option.bind_some, w3]
      rw [if_pos hlim, lay_succ, List.map_append]
    · unfold rickyardref01_Lay.s0
      simp
  rw [this]
  rfl
def num : List Int → Nat
  | [] => 0
  | c :: l => c.toNat + 256 * num l
theorem num_append : ∀ (a b : List Int), num (a ++ b) = num a + 256 ^ a.length * num b
  | [], b => by simp [num]
  | c :: a, b => by
    simp only [List.cons_append, num, num_append a b, List.length_cons, Nat.pow_succ]
    rw [Nat.mul_add, Nat.add_assoc, ← Nat.mul_assoc, Nat.mul_comm 256 (256 ^ a.length)]
theorem num_lt : ∀ {l : List Int}, Bytes l → num l < 256 ^ l.length
  | [], _ => by simp [num]
  | c :: l, h => by
    have h1 := h c (by simp)
    have h2 := num_lt (l := l) fun x hx => h x (by simp [hx])
    simp only [num, List.length_cons, Nat.pow_succ]
    omega
theorem lay_num : ∀ {l : List Int}, Bytes l → lay (num l) l.length = l
  | [], _ => rfl
  | c :: l, h => by
    have h1 := h c (by simp)
    have h2 := lay_num (l := l) fun x hx => h x (by simp [hx])
    have e : lay (num (c :: l)) (l.length + 1) = c :: lay (num l) l.length := by
      unfold lay
      rw [List.range_succ_eq_map, List.map_cons, List.map_map]
      congr 1
      · simp only [num, Nat.pow_zero, Nat.div_one]
        omega
      · apply List.map_congr_left
        intro i hi
        simp only [Function.comp, num, Nat.succ_eq_add_one, Nat.pow_succ]
        rw [Nat.mul_comm (256 ^ i) 256, ← Nat.div_div_eq_div_mul, show (c.toNat + 256 * num l) / 256 = num l from by omega]
    rw [List.length_cons, e, h2]
theorem num_lay (v : Nat) : ∀ n, num (lay v n) = v % 256 ^ n
  | 0 => by simp [lay, num, Nat.mod_one]
  | n + 1 => by
    rw [lay_succ, num_append, num_lay v n, lay_len]
    simp only [num]
    rw [Int.toNat_natCast, Nat.mul_zero, Nat.add_zero, Nat.pow_succ, Nat.mod_mul]
theorem or_add (a c j : Nat) (ha : a < 256 ^ j) : a ||| c * 256 ^ j = a + 256 ^ j * c := by
  have e : 256 ^ j = 2 ^ (8 * j) := by rw [Nat.pow_mul]
  rw [e] at ha ⊢
  rw [Nat.mul_comm c, Nat.or_comm, ← Nat.two_pow_add_eq_or_of_lt ha, Nat.add_comm]
theorem read_eq {fu : Nat} {l : List Int} (hb : Bytes l) (hl : l.length ≤ 8) (hf : l.length < fu) : octet_Read.f fu l = some ((num l : Nat) : Int) := by
  unfold octet_Read.f
  have hm : mnI (l.length : Int) 8 = (l.length : Int) := by
    unfold mnI
    split <;> omega
  have hc : cut l 0 (l.length : Int) = l := by
    unfold cut
    simp
  rw [hm, if_pos ⟨by omega, Int.le_refl _⟩]
  have : loopM (octet_Read.s0 fu l) fu (0, 0) = some ((num l : Nat) : Int) := by
    refine loopM_run (S := fun j => (((num (l.take j) : Nat) : Int), (j : Int))) l.length (by simp [num]) ?_ ?_ hf
    · intro j hj
      unfold octet_Read.s0
      rw [hm, hc]
      have h1 : (j : Int) < (l.length : Int) := by omega
      have w3 : IntKind.i64.wrap ((j : Int) + 1) = ((j + 1 : Nat) : Int) := by rw [w64 (by omega) (by omega)]; omega
      have w4 : IntKind.i64.wrap (8 * (j : Int)) = ((8 * j : Nat) : Int) := by rw [w64 (by omega) (by omega)]; omega
      have hcb := hb _ (List.getElem_mem hj)
      obtain ⟨c, hc'⟩ : ∃ c : Nat, l[j] = (c : Int) := ⟨l[j].toNat, by omega⟩
      have hlt : num (l.take j) < 256 ^ j := by
        have := num_lt (l := l.take j) fun x hx => hb x (List.mem_of_mem_take hx)
        rwa [List.length_take, Nat.min_eq_left (by omega)] at this
      have e256 : (256 : Nat) ^ j * 256 ≤ 256 ^ 8 := by
        rw [← Nat.pow_succ]
        exact Nat.pow_le_pow_right (by decide) (by omega)
      have e8 : (256 : Nat) ^ 8 = 18446744073709551616 := by decide
      have hcj : c * 256 ^ j < 18446744073709551616 := by
        have : c * 256 ^ j ≤ 255 * 256 ^ j := Nat.mul_le_mul_right _ (by omega)
        have : 0 < 256 ^ j := Nat.pow_pos (by decide)
        omega
      have e1 : shL .u64 (IntKind.u64.wrap (ix l (j : Int))) ((8 * j : Nat) : Int) = ((c * 256 ^ j : Nat) : Int) := by
        rw [ix_nat hj, hc', wu64 (by omega) (by omega)]
        unfold shL
        rw [Int.toNat_natCast, Nat.min_eq_left (by show 8 * j ≤ 64; omega)]
        have : (c : Int) * 2 ^ (8 * j) = ((c * 256 ^ j : Nat) : Int) := by
          have h256 : ((256 ^ j : Nat) : Int) = 2 ^ (8 * j) := by
            rw [Int.natCast_pow, Int.pow_mul]
            exact congrArg (fun z : Int => z ^ j) (by decide : ((256 : Nat) : Int) = 2 ^ 8)
          rw [Int.natCast_mul, h256]
        rw [this, wu64 (by omega) (by omega)]
      have e2 : bOr .u64 ((num (l.take j) : Nat) : Int) ((c * 256 ^ j : Nat) : Int) = ((num (l.take (j + 1)) : Nat) : Int) := by
        unfold bOr
        show IntKind.u64.wrap (((BitVec.ofInt 64 ((num (l.take j) : Nat) : Int) ||| BitVec.ofInt 64 ((c * 256 ^ j : Nat) : Int)).toNat : Nat) : Int) = _
        rw [BitVec.ofInt_natCast, BitVec.ofInt_natCast, BitVec.toNat_or, BitVec.toNat_ofNat, BitVec.toNat_ofNat, Nat.mod_eq_of_lt (by omega), Nat.mod_eq_of_lt (by omega), or_add _ _ _ hlt, take_next hj, num_append]
        have hs : num (l.take j) + 256 ^ j * c < 18446744073709551616 := by
          rw [Nat.mul_comm]
          have : c * 256 ^ j ≤ 255 * 256 ^ j := Nat.mul_le_mul_right _ (by omega)
          omega
        rw [wu64 (by omega) (by omega)]
        simp only [num, hc', Int.toNat_natCast, List.length_take, Nat.min_eq_left (by omega : j ≤ l.length), Nat.mul_zero, Nat.add_zero]
      simp only [h1, decide_true, if_true, w4, e1, e2, w3]
      rw [if_pos ⟨by omega, trivial⟩, if_pos (by omega)]
    · unfold octet_Read.s0
      rw [hm, hc]
      simp
  rw [this]
  rfl
end Go.Proofs.Ytklhbaghbmndeaa.Pure
namespace Go.Proofs.Ytklhbaghbmndeaa
open Go Go.Xw
end Go.Proofs.Ytklhbaghbmndeaa
namespace Go.Proofs.Ytklhbaghbmndeaa.Pure
open Go Go.Xw
abbrev Cell := S_pmem_cell
abbrev Dev := S_pmem_Device
def pick (p : S_pmem_plan) : Int := if p.list.length = 0 then -1 else ix p.list p.at_
def mayI (off : Bool) (k n : Int) : Int := if off = true then 3 else if k < 0 ∨ k ≥ n then 2 else 0
def loadD (d : Dev) (k : Int) : Int × Int := if mayI d.off k (d.cells.length : Int) = 0 then ((ix d.cells k).stored, 0) else (0, mayI d.off k (d.cells.length : Int))
def U64 (x : Int) : Prop := 0 ≤ x ∧ x ≤ 18446744073709551615
def okC (c : Cell) : Prop := U64 c.lasts ∧ U64 c.stored ∧ U64 c.sent
structure DevOk (n : Nat) (B : Int) (d : Dev) : Prop where
  len : d.cells.length = n
  val : ∀ c ∈ d.cells, okC c
  at0 : d.plan.list.length ≠ 0 → 0 ≤ d.plan.at_ ∧ d.plan.at_ < (d.plan.list.length : Int)
  pl : d.plan.list.length ≤ 1000
  arm : d.armed = true → 0 ≤ d.left ∧ d.left ≤ 9223372036854775807 ∧ d.off = decide (d.left = 0)
  una : d.armed = false → d.off = false
  st : 0 ≤ d.steps ∧ d.steps ≤ B
theorem may_eq {fu : Nat} {d : Dev} {k m : Int} : pmem_Device_may.f fu d k m = some (mayI d.off k m) := by
  unfold pmem_Device_may.f mayI
  cases d.off
  · simp only [Bool.false_eq_true, if_false]
    by_cases h1 : k < 0
    · simp [h1]
    · by_cases h2 : k ≥ m <;> simp [h1, h2]
  · simp
theorem may_zero {b : Bool} {k m : Int} : mayI b k m = 0 ↔ b = false ∧ 0 ≤ k ∧ k < m := by
  unfold mayI
  cases b
  · simp only [Bool.false_eq_true, if_false]
    split <;> simp <;> omega
  · simp
theorem load_eq {fu : Nat} {k : Int} {d : Dev} : pmem_Device_Load.f fu d k = some (loadD d k) := by
  unfold pmem_Device_Load.f loadD
  rw [may_eq]
  simp only [Option.bind_some]
  by_cases e : mayI d.off k (d.cells.length : Int) = 0
  · obtain ⟨ho, h0, h1⟩ := may_zero.1 e
    rw [decide_eq_true e, if_pos e, if_neg (by decide), if_pos ⟨h0, h1⟩]
  · rw [decide_eq_false e, if_neg e, if_pos (by decide)]
theorem lines_eq {fu : Nat} {d : Dev} (h : d.cells.length ≤ 1000000) : pmem_Device_Lines.f fu d = some ((d.cells.length / 8 : Nat) : Int) := by
  unfold pmem_Device_Lines.f
  rw [Int.tdiv_eq_ediv_of_nonneg (by omega), w64 (by omega) (by omega)]
  congr 1
end Go.Proofs.Ytklhbaghbmndeaa.Pure
namespace Go.Proofs.Ytklhbaghbmndeaa
open Go Go.Xw
end Go.Proofs.Ytklhbaghbmndeaa
namespace Go.Proofs.Ytklhbaghbmndeaa.Pure
open Go Go.Xw
def octs (ws : List Int) : List Int := ws.flatMap fun w => lay w.toNat 8
theorem octs_len : ∀ ws : List Int, (octs ws).length = 8 * ws.length
  | [] => rfl
  | w :: ws => by
    have := octs_len ws
    simp only [octs, List.flatMap_cons, List.length_append, lay_len, List.length_cons] at *
    omega
theorem octs_append (a b : List Int) : octs (a ++ b) = octs a ++ octs b := by simp [octs]
theorem octs_one (w : Int) : octs [w] = lay w.toNat 8 := by simp [octs]
theorem octsB (ws : List Int) : Bytes (octs ws) := by
  intro x hx
  obtain ⟨w, _, h⟩ := List.mem_flatMap.1 hx
  exact lay_bytes _ _ x h
theorem octets_eq {fu : Nat} {ws : List Int} (hv : ∀ w ∈ ws, U64 w) (hl : ws.length ≤ 100000) (hf : ws.length + 8 < fu) : octet_Octets.f fu ws = some (octs ws) := by
  unfold octet_Octets.f
  have : loopM (octet_Octets.s0 fu ws) fu ([], 0) = some (octs ws) := by
    refine loopM_run (S := fun j => (octs (ws.take j), (j : Int))) ws.length (by simp [octs]) ?_ ?_ (by omega)
    · intro j hj
      unfold octet_Octets.s0
      have w3 : IntKind.i64.wrap ((j : Int) + 1) = ((j + 1 : Nat) : Int) := by rw [w64 (by omega) (by omega)]; omega
      have c1 : 0 ≤ (j : Int) ∧ (j : Int) < (ws.length : Int) := by omega
      have hu := hv _ (List.getElem_mem hj)
      obtain ⟨v, hv'⟩ : ∃ v : Nat, ws[j] = (v : Int) := ⟨ws[j].toNat, by unfold U64 at hu; omega⟩
      simp only [w3]
      rw [decide_eq_true c1.2, if_pos rfl, if_pos c1, ix_nat hj, hv', show octet_Lay.f fu (v : Int) 8 = some (lay v 8) from olay_eq (n := 8) (by omega) (by omega)]
      simp only [Option.bind_some]
      rw [if_pos (by rw [octs_len, lay_len, List.length_take]; exact Nat.le_trans (by omega : _ ≤ 1000008) (by decide)), take_next hj, octs_append, octs_one, hv', Int.toNat_natCast]
    · unfold octet_Octets.s0
      rw [decide_eq_false (show ¬ ((ws.length : Int) < (ws.length : Int)) by omega), if_neg (by decide), List.take_length]
  rw [this]
  rfl
def storedD (d : Dev) : List Int := d.cells.map fun c => c.stored
end Go.Proofs.Ytklhbaghbmndeaa.Pure
namespace Go.Proofs.Ytklhbaghbmndeaa
open Go Go.Xw
end Go.Proofs.Ytklhbaghbmndeaa
namespace Go.Proofs.Ytklhbaghbmndeaa.Pure
open Go Go.Xw
theorem loopM_inv {σ ε : Type} {step : σ → Option (Sum ε σ)} (P : Nat → σ → Prop) (n : Nat) (Q : ε → Prop) (h : ∀ j s, j < n → P j s → ∃ s', step s = some (.inr s') ∧ P (j + 1) s') (he : ∀ s, P n s → ∃ e, step s = some (.inl e) ∧ Q e) : ∀ {k j : Nat} {s : σ}, P j s → j ≤ n → n - j < k → ∃ e, loopM step k s = some e ∧ Q e
  | 0, j, s, _, _, hk => by omega
  | k + 1, j, s, hp, hj, hk => by
    unfold loopM
    by_cases e1 : j = n
    · subst e1
      obtain ⟨e, h1, h2⟩ := he s hp
      rw [h1]
      exact ⟨e, rfl, h2⟩
    · obtain ⟨s', h1, h2⟩ := h j s (by omega) hp
      rw [h1]
      exact loopM_inv P n Q h he h2 (by omega) (by omega)
def Small (acts : List S_rickyardlaw05_Act) (m : Nat) : Prop := acts.length ≤ m ∧ ∀ a ∈ acts, a.L.length ≤ 40
instance (acts : List S_rickyardlaw05_Act) (m : Nat) : Decidable (Small acts m) := inferInstanceAs (Decidable (_ ∧ _))
abbrev FU : Nat := 200000
theorem next64 {j n : Nat} (h : j < n) (hn : n ≤ 100000) : IntKind.i64.wrap ((j : Int) + 1) = ((j + 1 : Nat) : Int) := by rw [w64 (by omega) (by omega)]; omega
theorem octs_take (ws : List Int) (i : Nat) : (octs ws).take (8 * i) = octs (ws.take i) := by
  by_cases h : i ≤ ws.length
  · have e : octs ws = octs (ws.take i) ++ octs (ws.drop i) := by rw [← octs_append, List.take_append_drop]
    rw [e, List.take_append_of_le_length (by rw [octs_len, List.length_take]; omega), List.take_of_length_le (by rw [octs_len, List.length_take]; omega)]
  · rw [List.take_of_length_le (by rw [octs_len]; omega), List.take_of_length_le (by omega)]
theorem octs_drop (ws : List Int) (i : Nat) : (octs ws).drop (8 * i) = octs (ws.drop i) := by
  by_cases h : i ≤ ws.length
  · have e : octs ws = octs (ws.take i) ++ octs (ws.drop i) := by rw [← octs_append, List.take_append_drop]
    have hl : (octs (ws.take i)).length = 8 * i := by rw [octs_len, List.length_take]; omega
    rw [e, ← hl, List.drop_left]
  · rw [List.drop_of_length_le (by rw [octs_len]; omega), List.drop_of_length_le (by omega)]
    rfl
theorem octs_cut (ws : List Int) (i j : Nat) : cut (octs ws) ((8 * i : Nat) : Int) ((8 * j : Nat) : Int) = octs (cut ws (i : Int) (j : Int)) := by
  unfold cut
  rw [Int.toNat_natCast, Int.toNat_natCast, Int.toNat_natCast, Int.toNat_natCast, octs_take, octs_drop]
theorem cut_get {α : Type} {l : List α} {a b i : Nat} (h : i < (cut l (a : Int) (b : Int)).length) (h2 : a + i < l.length) : (cut l (a : Int) (b : Int))[i] = l[a + i] := by
  simp only [cut, Int.toNat_natCast, List.getElem_drop, List.getElem_take]
theorem cut_len' {α : Type} {l : List α} {a b : Nat} (h : b ≤ l.length) : (cut l (a : Int) (b : Int)).length = b - a := by
  simp only [cut, Int.toNat_natCast, List.length_drop, List.length_take]
  omega
end Go.Proofs.Ytklhbaghbmndeaa.Pure
namespace Go.Proofs.Ytklhbaghbmndeaa
open Go Go.Xw
end Go.Proofs.Ytklhbaghbmndeaa
namespace Go.Proofs.Ytklhbaghbmndeaa.Pure
open Go Go.Xw
theorem of_toB {l : List Int} (h : Bytes l) : (l.map toB).map ofB = l := by
  rw [List.map_map]
  conv => rhs; rw [← List.map_id l]
  apply List.map_congr_left
  intro x hx
  have := h x hx
  simp only [Function.comp, ofB, toB, UInt8.toNat_ofNat', id]
  omega
theorem Bytes.drop {l : List Int} (h : Bytes l) (n : Nat) : Bytes (l.drop n) := fun x hx => h x (List.mem_of_mem_drop hx)
theorem Bytes.take {l : List Int} (h : Bytes l) (n : Nat) : Bytes (l.take n) := fun x hx => h x (List.mem_of_mem_take hx)
theorem num_lt8 {l : List Int} (hb : Bytes l) (hl : l.length ≤ 8) : num l < 18446744073709551616 := by
  have h1 := num_lt hb
  have h2 : (256 : Nat) ^ l.length ≤ 256 ^ 8 := Nat.pow_le_pow_right (by decide) hl
  have h3 : (256 : Nat) ^ 8 = 18446744073709551616 := by decide
  omega
theorem read_long {fu : Nat} {l : List Int} (h : 8 ≤ l.length) : octet_Read.f fu l = octet_Read.f fu (l.take 8) := by
  have h8 : (l.take 8).length = 8 := by rw [List.length_take]; omega
  have e1 : mnI (l.length : Int) 8 = 8 := by unfold mnI; split <;> omega
  have e2 : mnI ((l.take 8).length : Int) 8 = 8 := by rw [h8]; rfl
  have e3 : cut l 0 8 = l.take 8 := rfl
  have e4 : cut (l.take 8) 0 8 = l.take 8 := by
    unfold cut
    rw [List.take_of_length_le (by rw [h8]; decide)]
    rfl
  have es : octet_Read.s0 fu l = octet_Read.s0 fu (l.take 8) := by
    unfold octet_Read.s0
    rw [e1, e2, e3, e4]
  unfold octet_Read.f
  rw [e1, e2, es, if_pos (by omega), if_pos (by rw [h8]; decide)]
def wordsU (l : List Int) (j : Nat) : List Int := (List.range j).map fun i => ((num ((l.drop (8 * i)).take 8) : Nat) : Int)
theorem wordsU_succ (l : List Int) (j : Nat) : wordsU l (j + 1) = wordsU l j ++ [((num ((l.drop (8 * j)).take 8) : Nat) : Int)] := by
  simp [wordsU, List.range_succ]
theorem wordsU_len (l : List Int) (j : Nat) : (wordsU l j).length = j := by simp [wordsU]
theorem chunk_len {l : List Int} {j : Nat} (h : 8 * j + 8 ≤ l.length) : ((l.drop (8 * j)).take 8).length = 8 := by
  rw [List.length_take, List.length_drop]
  omega
theorem octs_words {l : List Int} (hb : Bytes l) : ∀ j, 8 * j ≤ l.length → octs (wordsU l j) = l.take (8 * j)
  | 0, _ => by simp [wordsU, octs]
  | j + 1, h => by
    have hc : ((l.drop (8 * j)).take 8).length = 8 := chunk_len (by omega)
    have hl := lay_num ((hb.drop (8 * j)).take 8)
    rw [hc] at hl
    rw [wordsU_succ, octs_append, octs_one, octs_words hb j (by omega), Int.toNat_natCast, hl, show 8 * (j + 1) = 8 * j + 8 from by omega, List.take_add]
theorem words_U64 {l : List Int} (hb : Bytes l) {n : Nat} : ∀ w ∈ wordsU l n, U64 w := by
  intro w hw
  obtain ⟨i, _, rfl⟩ := List.mem_map.1 hw
  have := num_lt8 ((hb.drop (8 * i)).take 8) (by rw [List.length_take]; omega)
  unfold U64
  omega
theorem words_eq {fu n : Nat} {l : List Int} (hb : Bytes l) (hl : l.length = 8 * n) (hn : n ≤ 100000) (hf : n + 8 < fu) : octet_Words.f fu l = some (wordsU l n) := by
  unfold octet_Words.f
  have : loopM (octet_Words.s0 fu) fu (l, []) = some (wordsU l n) := by
    refine loopM_run (S := fun j => (l.drop (8 * j), wordsU l j)) n (by simp [wordsU]) ?_ ?_ (by omega)
    · intro j hj
      unfold octet_Words.s0
      have hdl : (l.drop (8 * j)).length = 8 * n - 8 * j := by rw [List.length_drop, hl]
      have c1 : ((l.drop (8 * j)).length : Int) ≥ 8 := by omega
      have hc : ((l.drop (8 * j)).take 8).length = 8 := chunk_len (by omega)
      have hr : octet_Read.f fu (l.drop (8 * j)) = some ((num ((l.drop (8 * j)).take 8) : Nat) : Int) := by
        rw [read_long (by omega)]
        exact read_eq ((hb.drop _).take _) (by omega) (by omega)
      have e1 : cut (l.drop (8 * j)) 8 ((l.drop (8 * j)).length : Int) = l.drop (8 * (j + 1)) := by
        unfold cut
        rw [Int.toNat_natCast, List.take_length, show Int.toNat 8 = 8 from rfl, List.drop_drop]
        congr 1
      simp only [e1]
      rw [decide_eq_true c1, if_pos rfl, hr]
      simp only [Option.bind_some]
      rw [if_pos (by rw [wordsU_len]; exact Nat.le_trans (by simp only [List.length_cons, List.length_nil]; omega : _ ≤ 100001) (by decide)), if_pos c1, wordsU_succ]
    · unfold octet_Words.s0
      have : ¬ (((l.drop (8 * n)).length : Int) ≥ 8) := by rw [List.length_drop]; omega
      simp only [this, decide_false, Bool.false_eq_true, if_false]
  rw [this]
  rfl
def wordC (w : Int) : Cell := ⟨w, w, 0, false⟩
def fromD (l : List Int) : Dev := ⟨(wordsU l (8 * (l.length / 64))).map wordC, ⟨[], 0⟩, false, false, 0, 0⟩
theorem wordsU_take {l : List Int} {n : Nat} : ∀ j, 8 * j ≤ n → wordsU (l.take n) j = wordsU l j
  | 0, _ => rfl
  | j + 1, h => by
    rw [wordsU_succ, wordsU_succ, wordsU_take j (by omega)]
    congr 4
    rw [List.drop_take, List.take_take, Nat.min_eq_left (by omega)]
theorem from_eq {fu : Nat} {l : List Int} (hb : Bytes l) (hl : l.length ≤ 100000) (hf : l.length + 8 < fu) : pmem_From.f fu l = some (fromD l) := by
  unfold pmem_From.f
  have hd : l.length / 64 ≤ 1562 := by omega
  have e0 : Int.tdiv (l.length : Int) 64 = ((l.length / 64 : Nat) : Int) := by
    rw [Int.tdiv_eq_ediv_of_nonneg (by omega)]
    omega
  have e1 : mnI (IntKind.i64.wrap (Int.tdiv (l.length : Int) 64)) 4096 = ((l.length / 64 : Nat) : Int) := by
    rw [e0, w64 (by omega) (by omega)]
    unfold mnI
    split <;> omega
  have e2 : IntKind.i64.wrap (((l.length / 64 : Nat) : Int) * 64) = ((64 * (l.length / 64) : Nat) : Int) := by rw [w64 (by omega) (by omega)]; omega
  rw [e1, e2, if_pos (by omega)]
  have e3 : cut l 0 ((64 * (l.length / 64) : Nat) : Int) = l.take (64 * (l.length / 64)) := by
    unfold cut
    rw [Int.toNat_natCast]
    rfl
  have hwo : octet_Words.f fu (l.take (64 * (l.length / 64))) = some (wordsU l (8 * (l.length / 64))) := by
    rw [words_eq (n := 8 * (l.length / 64)) (hb.take _) (by rw [List.length_take]; omega) (by omega) (by omega), wordsU_take _ (by omega)]
  rw [e3, hwo]
  simp only [Option.bind_some]
  generalize hW : wordsU l (8 * (l.length / 64)) = ws
  have hwl : ws.length = 8 * (l.length / 64) := by rw [← hW, wordsU_len]
  have : loopM (pmem_From.s0 fu ws) fu (0, []) = some (ws.map wordC) := by
    refine loopM_run (S := fun j => ((j : Int), (ws.take j).map wordC)) ws.length (by simp) ?_ ?_ (by omega)
    · intro j hj
      unfold pmem_From.s0
      have c1 : 0 ≤ (j : Int) ∧ (j : Int) < (ws.length : Int) := by omega
      have hlim : List.length ((ws.take j).map wordC) + List.length [(⟨(ix ws (j : Int)), (ix ws (j : Int)), (0 : Int), false⟩ : S_pmem_cell)] ≤ LIM := by
        rw [List.length_map, List.length_take]
        exact Nat.le_trans (by simp only [List.length_cons, List.length_nil]; omega : _ ≤ 100001) (by decide)
      simp only []
      rw [decide_eq_true c1.2, if_pos rfl, if_pos c1, if_pos hlim, next64 hj (by omega), ix_nat hj, take_next hj, List.map_append]
      rfl
    · unfold pmem_From.s0
      rw [decide_eq_false (show ¬ ((ws.length : Int) < (ws.length : Int)) by omega), if_neg (by decide), List.take_length]
  rw [this]
  unfold fromD
  rw [hW]
  rfl
theorem from_ok {l : List Int} (hb : Bytes l) : DevOk (8 * (l.length / 64)) 0 (fromD l) := by
  refine ⟨by simp [fromD, wordsU], fun c hc => ?_, fun h => absurd rfl h, by simp [fromD], fun h => (by cases h), fun _ => rfl, by simp [fromD]⟩
  obtain ⟨w, hw, rfl⟩ := List.mem_map.1 hc
  have := words_U64 hb w hw
  exact ⟨this, this, by unfold U64; simp [wordC]⟩
theorem from_stored (l : List Int) : storedD (fromD l) = wordsU l (8 * (l.length / 64)) := by
  simp [storedD, fromD, wordC, Function.comp_def]
end Go.Proofs.Ytklhbaghbmndeaa.Pure
namespace Go.Proofs.Ytklhbaghbmndeaa
open Go Go.Xw
end Go.Proofs.Ytklhbaghbmndeaa
namespace Go.Proofs.Ytklhbaghbmndeaa.Pure
open Go Go.Xw
def inL (d : Dev) (line : Int) : Prop := 0 ≤ line ∧ line < ((d.cells.length / 8 : Nat) : Int)
instance (d : Dev) (line : Int) : Decidable (inL d line) := inferInstanceAs (Decidable (_ ∧ _))
def lineC (d : Dev) (line : Int) : List Int := (List.range 8).map fun (i : Nat) => (ix d.cells (8 * line + (i : Int))).stored
def readD (d : Dev) (line : Int) : List Int × Int := if inL d line then if d.off = true then ([], 3) else (octs (lineC d line), 0) else ([], 2)
theorem pmay_eq {fu : Nat} {d : Dev} {k : Int} (hl : d.cells.length ≤ 1000000) : press_may.f fu d k = some (if inL d k then 0 else 2) := by
  unfold press_may.f
  rw [lines_eq hl]
  by_cases h1 : k < 0
  · rw [decide_eq_true h1, if_neg (show ¬ inL d k from fun q => by have := q.1; omega)]
    rfl
  · rw [decide_eq_false h1, if_neg (by decide)]
    simp only [Option.bind_some]
    by_cases h2 : k ≥ ((d.cells.length / 8 : Nat) : Int)
    · rw [decide_eq_true h2, if_neg (show ¬ inL d k from fun q => by have := q.2; omega)]
      rfl
    · rw [decide_eq_false h2, if_pos (show inL d k from ⟨by omega, by omega⟩)]
      rfl
theorem arr_set8 (a : Arr 8 Int) (j : Nat) (v : Int) (hj : j < 8) (f : Nat → Int) (hf : ∀ i, i < j → ix a.l (i : Int) = f i) (hv : v = f j) : ∀ i, i < j + 1 → ix (Arr.set a (j : Int) v).l (i : Int) = f i := by
  intro i hi
  have hl := a.h
  have e : (Arr.set a (j : Int) v).l = a.l.set j v := by simp [Arr.set]
  rw [e, ix_nat (by rw [List.length_set]; omega), List.getElem_set]
  by_cases h : j = i
  · subst h
    rw [if_pos rfl, hv]
  · rw [if_neg h, ← ix_nat (by omega)]
    exact hf i (by omega)
theorem read_dev {fu n : Nat} {B line : Int} {d : Dev} (h : DevOk n B d) (hn : n ≤ 100000) (hf : 2000 < fu) : press_Read.f fu d line = some (readD d line) := by
  unfold press_Read.f readD
  have hlen := h.len
  rw [pmay_eq (by omega)]
  simp only [Option.bind_some]
  by_cases hi : inL d line
  · rw [if_pos hi, if_neg (by decide), if_pos hi]
    have hin := hi
    unfold inL at hin
    have w1 : IntKind.i64.wrap (line * 8) = 8 * line := by rw [w64 (by omega) (by omega)]; omega
    have hld : ∀ j : Nat, j < 8 → pmem_Device_Load.f fu d (8 * line + (j : Int)) = some (if d.off = true then (0, 3) else ((ix d.cells (8 * line + (j : Int))).stored, 0)) := by
      intro j hj
      rw [load_eq]
      unfold loadD
      cases ho : d.off
      · rw [if_pos (may_zero.2 ⟨rfl, by omega, by omega⟩), if_neg (by decide)]
      · have : mayI true (8 * line + (j : Int)) (d.cells.length : Int) = 3 := rfl
        rw [this, if_neg (by decide), if_pos rfl]
    cases ho : d.off
    · rw [if_neg (by decide)]
      have loop : ∃ e, loopM (press_Read.s0 fu d line) fu (0, Arr.rep 8 (0 : Int)) = some e ∧ ∃ a : Arr 8 Int, e = .inr a ∧ ∀ i : Nat, i < 8 → ix a.l (i : Int) = (ix d.cells (8 * line + (i : Int))).stored := by
        refine loopM_inv (fun j s => ∃ a : Arr 8 Int, s = ((j : Int), a) ∧ ∀ i : Nat, i < j → ix a.l (i : Int) = (ix d.cells (8 * line + (i : Int))).stored) 8 _ ?_ ?_ (j := 0) ⟨_, rfl, fun i hi => by omega⟩ (by omega) (by omega)
        · rintro j _ hj ⟨a, rfl, ha⟩
          unfold press_Read.s0
          have w3 : IntKind.i64.wrap (8 * line + (j : Int)) = 8 * line + (j : Int) := w64 (by omega) (by omega)
          simp only [w1, w3]
          rw [decide_eq_true (show (j : Int) < 8 by omega), if_pos rfl, hld j hj, ho, if_neg (by decide), next64 hj (by decide)]
          simp only [Option.bind_some, decide_true, Bool.not_true, Bool.false_eq_true, if_false]
          rw [if_pos (by omega)]
          exact ⟨_, rfl, _, rfl, arr_set8 a j _ hj (fun i => (ix d.cells (8 * line + (i : Int))).stored) ha rfl⟩
        · rintro _ ⟨a, rfl, ha⟩
          unfold press_Read.s0
          rw [decide_eq_false (show ¬ (((8 : Nat) : Int) < 8) by decide), if_neg (by decide)]
          exact ⟨_, rfl, a, rfl, ha⟩
      obtain ⟨e, h1, a, rfl, ha⟩ := loop
      have hal : a.l = lineC d line := by
        apply List.ext_getElem (by rw [a.h]; simp [lineC])
        intro i h1 h2
        have : i < 8 := by rw [a.h] at h1; exact h1
        rw [← ix_nat h1, ha i this]
        simp [lineC]
      have hu : ∀ w ∈ lineC d line, U64 w := by
        intro w hw
        obtain ⟨i, hi8, rfl⟩ := List.mem_map.1 hw
        have := List.mem_range.1 hi8
        obtain ⟨p, hp⟩ : ∃ p : Nat, 8 * line + (i : Int) = (p : Int) := ⟨(8 * line + (i : Int)).toNat, by omega⟩
        rw [hp, ix_nat (by omega)]
        exact (h.val _ (List.getElem_mem _)).2.1
      rw [h1]
      simp only [Option.bind_some]
      rw [hal, octets_eq hu (by simp [lineC]) (by simp [lineC]; omega)]
      rfl
    · rw [if_pos rfl]
      have loop : loopM (press_Read.s0 fu d line) fu (0, Arr.rep 8 (0 : Int)) = some (.inl ([], 3)) := by
        obtain ⟨k, rfl⟩ : ∃ k, fu = k + 1 := ⟨fu - 1, by omega⟩
        unfold loopM
        have := hld 0 (by decide)
        rw [ho, if_pos rfl] at this
        unfold press_Read.s0
        have w3 : IntKind.i64.wrap (8 * line + 0) = 8 * line + ((0 : Nat) : Int) := by rw [w64 (by omega) (by omega)]; rfl
        simp only [w1, w3]
        rw [this]
        rfl
      rw [loop]
      rfl
  · rw [if_neg hi, if_pos (by decide), if_neg hi]
end Go.Proofs.Ytklhbaghbmndeaa.Pure
namespace Go.Proofs.Ytklhbaghbmndeaa
open Go Go.Xw
end Go.Proofs.Ytklhbaghbmndeaa
namespace Go.Proofs.Ytklhbaghbmndeaa.Pure
open Go Go.Xw
def CellP (Φ : Int → Prop) (c : Cell) : Prop := Φ c.lasts ∧ Φ c.stored ∧ (c.flushed = true → Φ c.sent)
theorem CellP.mono {Φ Ψ : Int → Prop} {c : Cell} (h : CellP Φ c) (hi : ∀ x, Φ x → Ψ x) : CellP Ψ c := ⟨hi _ h.1, hi _ h.2.1, fun e => hi _ (h.2.2 e)⟩
end Go.Proofs.Ytklhbaghbmndeaa.Pure
namespace Go.Proofs.Ytklhbaghbmndeaa
open Go Go.Xw
end Go.Proofs.Ytklhbaghbmndeaa
namespace Go.Proofs.Ytklhbaghbmndeaa.Pure
open Go Go.Xw
theorem Bytes.app {a b : List Int} (ha : Bytes a) (hb : Bytes b) : Bytes (a ++ b) := by
  intro x hx
  rcases List.mem_append.1 hx with h | h
  · exact ha x h
  · exact hb x h
theorem Bytes.rep (n : Nat) : Bytes (List.replicate n (0 : Int)) := by
  intro x hx
  obtain rfl := List.eq_of_mem_replicate hx
  omega
def summed (k t : Int) (body : List Int) : List Int := [k, t, 0, 0] ++ (body ++ List.replicate (56 - body.length) 0)
def sealed (s : List Int) : List Int := lay (crc s).toNat 4 ++ s
theorem summed_len {k t : Int} {body : List Int} (h : body.length ≤ 56) : (summed k t body).length = 60 := by
  simp [summed]
  omega
theorem summed_bytes {k t : Int} {body : List Int} (hk : 0 ≤ k ∧ k ≤ 255) (ht : 0 ≤ t ∧ t ≤ 255) (hb : Bytes body) : Bytes (summed k t body) := by
  refine Bytes.app ?_ (Bytes.app hb (Bytes.rep _))
  intro x hx
  simp only [List.mem_cons, List.not_mem_nil, or_false] at hx
  rcases hx with rfl | rfl | rfl | rfl <;> omega
theorem sealed_len {s : List Int} (h : s.length = 60) : (sealed s).length = 64 := by
  simp [sealed, lay_len, h]
theorem sealed_bytes {s : List Int} (h : Bytes s) : Bytes (sealed s) := Bytes.app (lay_bytes _ _) h
theorem rlay4_eq {fu : Nat} (x : BitVec 32) (hf : 8 < fu) : rickyardref01_Lay.f fu (IntKind.u64.wrap (I32 x)) 4 = some ((lay x.toNat 4).map toB) := by
  have hb := I32_lt x
  rw [wu64 hb.1 (by omega)]
  exact rlay_eq (n := 4) (by have := x.isLt; omega) (by decide) (by omega)
theorem fill_eq {fu : Nat} {body : List Int} (hl : body.length ≤ 56) : rickyardref07_Fill.f fu (body.map toB) 56 = some ((body ++ List.replicate (56 - body.length) 0).map toB) := by
  unfold rickyardref07_Fill.f
  have e1 : mxI (IntKind.i64.wrap (56 - (List.length (body.map toB) : Int))) 0 = ((56 - body.length : Nat) : Int) := by
    rw [List.length_map, w64 (by omega) (by omega)]
    unfold mxI
    split <;> omega
  have hL : (100 : Nat) ≤ LIM := by decide
  rw [e1, Int.toNat_natCast, if_pos ⟨by omega, by omega⟩, if_pos (by simp only [List.length_map, List.length_replicate]; omega), List.map_append]
theorem rseal_eq {fu : Nat} {k t : Int} {body : List Int} (hb : Bytes body) (hk : 0 ≤ k ∧ k ≤ 255) (ht : 0 ≤ t ∧ t ≤ 255) (hl : body.length ≤ 56) (hf : 100 < fu) : rickyardref07_Seal.f fu k t (body.map toB) = some ((sealed (summed k t body)).map toB) := by
  have hs := summed_len (k := k) (t := t) hl
  have hsb := summed_bytes hk ht hb
  unfold rickyardref07_Seal.f
  rw [wu8 hk.1 hk.2, wu8 ht.1 ht.2]
  have e1 : List.map toB [k, t, 0, 0] ++ List.map toB (body ++ List.replicate (56 - body.length) 0) = (summed k t body).map toB := by
    rw [← List.map_append]
    rfl
  have hL : (100 : Nat) ≤ LIM := by decide
  have e2 : List.length (List.map toB [k, t, 0, 0]) + List.length (List.map toB (body ++ List.replicate (56 - body.length) 0)) ≤ LIM := by
    simp
    omega
  simp only [fill_eq (fu := fu) hl, Option.bind_some, e1, of_toB hsb, rsum_eq (fu := fu) hsb (by omega) (by omega), rlay4_eq (fu := fu) _ (by omega : 8 < fu)]
  rw [if_pos e2, if_pos (by simp [lay_len, hs]; omega)]
  simp [sealed]
theorem there_eq {fu : Nat} {b : List Int} {i n : Nat} (hl : b.length ≤ 9000000000000000000) (h : i + n ≤ b.length) : octet_there.f fu b (i : Int) (n : Int) = some true := by
  unfold octet_there.f
  have h1 : (i : Int) ≥ 0 := by omega
  have h2 : (n : Int) ≥ 0 := by omega
  have h3 : (n : Int) ≤ (b.length : Int) := by omega
  have h4 : IntKind.i64.wrap ((b.length : Int) - (n : Int)) = (b.length : Int) - (n : Int) := w64 (by omega) (by omega)
  have h5 : (i : Int) ≤ (b.length : Int) - (n : Int) := by omega
  simp [h1, h2, h3, h4, h5]
theorem noughts_from {fu : Nat} (b : List Int) (x n : Int) {C : List Int} (hC : cut b x (IntKind.i64.wrap (x + n)) = C) (hl : C.length ≤ 9000000000000000000) : ∀ k m, m ≤ C.length → C.length - m < k → loopM (octet_Noughts.s0 fu b x n) k (m : Int) = some (if ∀ y ∈ C.drop m, y = 0 then .inr () else .inl false)
  | 0, m, _, hk => by omega
  | k + 1, m, hm, hk => by
    unfold loopM
    by_cases e : m = C.length
    · subst e
      have : octet_Noughts.s0 fu b x n (C.length : Int) = some (.inl (.inr ())) := by
        unfold octet_Noughts.s0
        rw [hC]
        simp
      rw [this]
      simp
    · have hlt : m < C.length := by omega
      have hx : ix C (m : Int) = C[m] := ix_nat hlt
      rw [List.drop_eq_getElem_cons hlt]
      have h1 : (m : Int) < (C.length : Int) := by omega
      by_cases hn : C[m] = 0
      · have w3 : IntKind.i64.wrap ((m : Int) + 1) = ((m + 1 : Nat) : Int) := by rw [w64 (by omega) (by omega)]; omega
        have : octet_Noughts.s0 fu b x n (m : Int) = some (.inr ((m + 1 : Nat) : Int)) := by
          unfold octet_Noughts.s0
          rw [hC]
          simp [h1, hx, hn, w3, hlt]
        rw [this]
        simp only
        rw [noughts_from b x n hC hl k (m + 1) (by omega) (by omega)]
        have e3 : (∀ y ∈ C[m] :: C.drop (m + 1), y = 0) ↔ ∀ y ∈ C.drop (m + 1), y = 0 := by
          constructor
          · intro h y hy
            exact h y (List.mem_cons_of_mem _ hy)
          · intro h y hy
            rcases List.mem_cons.1 hy with rfl | hy
            · exact hn
            · exact h y hy
        simp only [e3]
      · have : octet_Noughts.s0 fu b x n (m : Int) = some (.inl (.inl false)) := by
          unfold octet_Noughts.s0
          rw [hC]
          simp [h1, hx, hn, hlt]
        rw [this]
        have e3 : ¬ (∀ y ∈ C[m] :: C.drop (m + 1), y = 0) := fun h => hn (h _ (List.mem_cons_self ..))
        simp only [e3, if_false]
theorem noughts_eq {fu : Nat} {b : List Int} {i n : Nat} (hl : b.length ≤ 9000000000000000000) (h : i + n ≤ b.length) (hf : n < fu) : octet_Noughts.f fu b (i : Int) (n : Int) = some (decide (∀ y ∈ (b.drop i).take n, y = 0)) := by
  unfold octet_Noughts.f
  rw [there_eq hl h]
  have w1 : IntKind.i64.wrap ((i : Int) + (n : Int)) = ((i + n : Nat) : Int) := by rw [w64 (by omega) (by omega)]; omega
  have hC : cut b (i : Int) (IntKind.i64.wrap ((i : Int) + (n : Int))) = (b.drop i).take n := by
    rw [w1]
    unfold cut
    rw [Int.toNat_natCast, Int.toNat_natCast, List.drop_take]
    congr 1
    omega
  have hlen : ((b.drop i).take n).length = n := by
    rw [List.length_take, List.length_drop]
    omega
  have := noughts_from (fu := fu) b (i : Int) (n : Int) hC (by omega) fu 0 (by omega) (by omega)
  rw [Int.natCast_zero, List.drop_zero] at this
  have c1 : 0 ≤ (i : Int) ∧ (i : Int) ≤ IntKind.i64.wrap ((i : Int) + (n : Int)) ∧ IntKind.i64.wrap ((i : Int) + (n : Int)) ≤ (b.length : Int) := by
    rw [w1]
    omega
  simp only [Option.bind_some, Bool.not_true, Bool.false_eq_true, if_false]
  rw [if_pos c1, this]
  by_cases hz : ∀ y ∈ (b.drop i).take n, y = 0
  · rw [if_pos hz]
    simp only [Option.bind_some, decide_eq_true hz]
  · rw [if_neg hz]
    simp only [Option.bind_some, decide_eq_false hz]
def Is (b : List Int) : Prop := b.length = 64 ∧ ix b 4 ≠ 0 ∧ b = sealed (summed (ix b 4) (ix b 5) (b.drop 8))
instance (b : List Int) : Decidable (Is b) := inferInstanceAs (Decidable (_ ∧ _))
theorem parts {b : List Int} (h : b.length = 64) : b = b.take 4 ++ ([ix b 4, ix b 5, ix b 6, ix b 7] ++ b.drop 8) := by
  have e : b.drop 4 = [ix b 4, ix b 5, ix b 6, ix b 7] ++ b.drop 8 := by
    have g : ∀ j : Nat, j < 64 → b.drop j = ix b (j : Int) :: b.drop (j + 1) := by
      intro j hj
      rw [List.drop_eq_getElem_cons (by omega), ix_nat (by omega)]
    rw [g 4 (by omega), g 5 (by omega), g 6 (by omega), g 7 (by omega)]
    rfl
  rw [← e, List.take_append_drop]
theorem gap_eq {b : List Int} (h : b.length = 64) : (b.drop 6).take 2 = [ix b 6, ix b 7] := by
  have g : ∀ j : Nat, j < 64 → b.drop j = ix b (j : Int) :: b.drop (j + 1) := by
    intro j hj
    rw [List.drop_eq_getElem_cons (by omega), ix_nat (by omega)]
  rw [g 6 (by omega), g 7 (by omega)]
  rfl
theorem drop4 {b : List Int} (h : b.length = 64) : b.drop 4 = [ix b 4, ix b 5, ix b 6, ix b 7] ++ b.drop 8 := by
  have g : ∀ j : Nat, j < 64 → b.drop j = ix b (j : Int) :: b.drop (j + 1) := by
    intro j hj
    rw [List.drop_eq_getElem_cons (by omega), ix_nat (by omega)]
  rw [g 4 (by omega), g 5 (by omega), g 6 (by omega), g 7 (by omega)]
  rfl
theorem summed_full (k t : Int) {body : List Int} (h : body.length = 56) : summed k t body = [k, t, 0, 0] ++ body := by
  unfold summed
  rw [h]
  simp
theorem is_iff {b : List Int} (hb : Bytes b) (h : b.length = 64) : b = sealed (summed (ix b 4) (ix b 5) (b.drop 8)) ↔ (ix b 6 = 0 ∧ ix b 7 = 0) ∧ num (b.take 4) = (crc (b.drop 4)).toNat := by
  have h8 : (b.drop 8).length = 56 := by rw [List.length_drop, h]
  have h4 : (b.take 4).length = 4 := by rw [List.length_take, h]; rfl
  rw [summed_full _ _ h8]
  constructor
  · intro e
    have e2 : b.take 4 ++ b.drop 4 = lay (crc ([ix b 4, ix b 5, 0, 0] ++ b.drop 8)).toNat 4 ++ ([ix b 4, ix b 5, 0, 0] ++ b.drop 8) := by
      rw [List.take_append_drop]
      exact e
    obtain ⟨e3, e4⟩ := List.append_inj e2 (by rw [h4, lay_len])
    have e5 := e4
    rw [drop4 h] at e5
    have e6 := List.append_inj_left e5 rfl
    simp only [List.cons.injEq, and_true, true_and] at e6
    refine ⟨e6, ?_⟩
    rw [e3, e4, num_lay]
    exact Nat.mod_eq_of_lt (crc _).isLt
  · rintro ⟨⟨h6, h7⟩, hn⟩
    have e4 : b.drop 4 = [ix b 4, ix b 5, 0, 0] ++ b.drop 8 := by
      have := drop4 h
      rw [h6, h7] at this
      exact this
    unfold sealed
    rw [← e4, ← hn]
    have := lay_num (hb.take 4)
    rw [h4] at this
    rw [this, List.take_append_drop]
theorem right_is {fu : Nat} {b : List Int} (hb : Bytes b) (hl : b.length ≤ 9000000000000000000) (hf : 100 < fu) : block_right.f fu b = some (decide (Is b)) := by
  unfold block_right.f
  by_cases h : b.length = 64
  · have hL : (b.length : Int) = 64 := by omega
    by_cases h4 : ix b 4 = 0
    · simp [hL, h4, Is]
    · have hn : octet_Noughts.f fu b 6 2 = some (decide (∀ y ∈ (b.drop 6).take 2, y = 0)) := noughts_eq (i := 6) (n := 2) hl (by omega) (by omega)
      have hg : (∀ y ∈ (b.drop 6).take 2, y = 0) ↔ ix b 6 = 0 ∧ ix b 7 = 0 := by
        rw [gap_eq h]
        simp
      by_cases hz : ix b 6 = 0 ∧ ix b 7 = 0
      · have c1 : cut b 0 4 = b.take 4 := by
          unfold cut
          rfl
        have c2 : cut b 4 (b.length : Int) = b.drop 4 := by
          unfold cut
          rw [Int.toNat_natCast, List.take_length]
          rfl
        have h4' : (b.take 4).length = 4 := by rw [List.length_take, h]; rfl
        have hr : octet_Read.f fu (b.take 4) = some ((num (b.take 4) : Nat) : Int) := read_eq (hb.take 4) (by omega) (by omega)
        have hlt : num (b.take 4) < 4294967296 := by
          have := num_lt (hb.take 4)
          rwa [h4'] at this
        have hd : (b.drop 4).length = 60 := by rw [List.length_drop, h]
        have hs : crc_Sum.f fu [b.drop 4] = some (I32 (crc (b.drop 4))) := sum_eq (hb.drop 4) (by omega) (by omega)
        have hw : IntKind.u32.wrap ((num (b.take 4) : Nat) : Int) = ((num (b.take 4) : Nat) : Int) := wu32 (by omega) (by omega)
        have hi : Is b ↔ num (b.take 4) = (crc (b.drop 4)).toNat := by
          unfold Is
          rw [is_iff hb h]
          exact ⟨fun x => x.2.2.2, fun x => ⟨h, h4, hz, x⟩⟩
        have hq : (I32 (crc (b.drop 4)) = ((num (b.take 4) : Nat) : Int)) ↔ Is b := by
          rw [hi]
          unfold I32
          omega
        unfold crc_Fits.f
        rw [hn, decide_eq_true (hg.2 hz), c1, c2, hr]
        simp only [Option.bind_some, hw, hs, hq]
        have hL5 : (4 : Int) < (b.length : Int) := by omega
        have hL6 : (4 : Int) ≤ (b.length : Int) := by omega
        simp [hL, h4]
      · have hi : ¬ Is b := by
          intro x
          unfold Is at x
          rw [is_iff hb h] at x
          exact hz x.2.2.1
        rw [hn, decide_eq_false (fun x => hz (hg.1 x))]
        simp [hL, h4, hi]
  · have hi : ¬ Is b := fun x => h x.1
    have hL : ¬ (b.length : Int) = 64 := by omega
    simp [hL, hi]
theorem open_eq {fu : Nat} {b : List Int} (hb : Bytes b) (hl : b.length ≤ 9000000000000000000) (hf : 100 < fu) : block_Open.f fu b = some (if Is b then (ix b 4, ix b 5, b.drop 8, true) else (0, 0, [], false)) := by
  unfold block_Open.f
  rw [right_is hb hl hf]
  by_cases h : Is b
  · have h0 := h.1
    have c2 : cut b 8 (b.length : Int) = b.drop 8 := by
      unfold cut
      rw [Int.toNat_natCast, List.take_length]
      rfl
    have hc : bytes_Clone.f fu (b.drop 8) = some (b.drop 8) := by
      unfold bytes_Clone.f
      rw [if_pos]
      rw [List.length_drop, h0]
      decide
    have h4 : 0 ≤ ix b 4 ∧ ix b 4 ≤ 255 := by
      have := ix_nat (l := b) (j := 4) (by omega)
      rw [show ((4 : Nat) : Int) = 4 from rfl] at this
      rw [this]
      exact hb _ (List.getElem_mem _)
    have h5 : 0 ≤ ix b 5 ∧ ix b 5 ≤ 255 := by
      have := ix_nat (l := b) (j := 5) (by omega)
      rw [show ((5 : Nat) : Int) = 5 from rfl] at this
      rw [this]
      exact hb _ (List.getElem_mem _)
    have w4 : IntKind.i64.wrap (ix b 4) = ix b 4 := w64 (by omega) (by omega)
    have w5 : IntKind.i64.wrap (ix b 5) = ix b 5 := w64 (by omega) (by omega)
    simp only [c2, hc, w4, w5]
    simp [h, h0]
  · simp [h]
theorem sealed_parts (k t : Int) (body : List Int) : ix (sealed (summed k t body)) 4 = k ∧ ix (sealed (summed k t body)) 5 = t ∧ (sealed (summed k t body)).drop 8 = body ++ List.replicate (56 - body.length) 0 := by
  unfold sealed
  obtain ⟨a, b, c, d, e⟩ : ∃ a b c d, lay (crc (summed k t body)).toNat 4 = [a, b, c, d] := ⟨_, _, _, _, rfl⟩
  rw [e]
  exact ⟨rfl, rfl, rfl⟩
theorem fulled (body : List Int) (h : body.length ≤ 56) : (body ++ List.replicate (56 - body.length) (0 : Int)).length = 56 := by
  simp
  omega
theorem is_sealed {k t : Int} {body : List Int} (hk : k ≠ 0) (hl : body.length ≤ 56) : Is (sealed (summed k t body)) := by
  obtain ⟨h4, h5, h8⟩ := sealed_parts k t body
  refine ⟨sealed_len (summed_len hl), by rw [h4]; exact hk, ?_⟩
  rw [h4, h5, h8, summed_full k t (fulled body hl)]
  rfl
theorem ix_byte {b : List Int} (hb : Bytes b) (j : Nat) (h : j < b.length) : 0 ≤ ix b (j : Int) ∧ ix b (j : Int) ≤ 255 := by
  rw [ix_nat h]
  exact hb _ (List.getElem_mem _)
theorem is_tag {b : List Int} (hb : Bytes b) (hi : Is b) : (0 ≤ ix b 4 ∧ ix b 4 ≤ 255) ∧ (0 ≤ ix b 5 ∧ ix b 5 ≤ 255) := by
  have h0 := hi.1
  exact ⟨ix_byte hb 4 (by omega), ix_byte hb 5 (by omega)⟩
theorem is_body {b : List Int} (hi : Is b) : (b.drop 8).length = 56 := by rw [List.length_drop, hi.1]
end Go.Proofs.Ytklhbaghbmndeaa.Pure
namespace Go.Proofs.Ytklhbaghbmndeaa
open Go Go.Xw
end Go.Proofs.Ytklhbaghbmndeaa
namespace Go.Proofs.Ytklhbaghbmndeaa.Pure
open Go Go.Xw
def u64n (x : Int) : Nat := (x % 18446744073709551616).toNat
theorem u64_wrap (x : Int) : IntKind.u64.wrap x = (u64n x : Int) := by
  unfold u64n IntKind.wrap
  simp only [IntKind.signed, IntKind.bits]
  simp
  omega
theorem u64n_lt (x : Int) : u64n x < 18446744073709551616 := by
  unfold u64n
  omega
theorem u64n_of {x : Int} (h0 : 0 ≤ x) (h1 : x ≤ 18446744073709551615) : u64n x = x.toNat := by
  unfold u64n
  rw [Int.emod_eq_of_lt h0 (by omega)]
theorem rlay64 {fu n : Nat} {x : Int} (hn : n ≤ 8) (hf : n < fu) : rickyardref01_Lay.f fu (IntKind.u64.wrap x) (n : Int) = some ((lay (u64n x) n).map toB) := by
  rw [u64_wrap]
  exact rlay_eq (u64n_lt x) hn hf
def fieldAt (l : List Int) (w i : Nat) : List Int := (l.drop (w * i)).take w
theorem flat_len {α : Type} {g : Nat → List α} {w : Nat} (hg : ∀ i, (g i).length = w) : ∀ n, ((List.range n).flatMap g).length = w * n
  | 0 => by simp
  | n + 1 => by
    rw [List.range_succ, List.flatMap_append, List.length_append, flat_len hg n]
    simp [hg, Nat.mul_succ]
theorem flat_succ {α : Type} (g : Nat → List α) (n : Nat) : (List.range (n + 1)).flatMap g = (List.range n).flatMap g ++ g n := by
  rw [List.range_succ, List.flatMap_append]
  simp
theorem flat_field {g : Nat → List Int} {w : Nat} (hg : ∀ i, (g i).length = w) {n i : Nat} (hi : i < n) (t : List Int) : fieldAt ((List.range n).flatMap g ++ t) w i = g i := by
  have e : (List.range n).flatMap g = (List.range i).flatMap g ++ (g i ++ ((List.range (n - i - 1)).map (i + 1 + ·)).flatMap g) := by
    have h1 : n = i + (1 + (n - i - 1)) := by omega
    conv => lhs; rw [h1]
    rw [List.range_add, List.flatMap_append, List.range_add, List.map_append, List.flatMap_append]
    congr 1
    simp [List.map_map, Function.comp_def, Nat.add_assoc]
  unfold fieldAt
  rw [e, List.append_assoc, List.drop_left' (flat_len hg i), List.append_assoc, List.take_left' (hg i)]
theorem flat_bytes {g : Nat → List Int} (hg : ∀ i, Bytes (g i)) (n : Nat) : Bytes ((List.range n).flatMap g) := by
  intro x hx
  obtain ⟨i, _, h⟩ := List.mem_flatMap.1 hx
  exact hg i x h
end Go.Proofs.Ytklhbaghbmndeaa.Pure
namespace Go.Proofs.Ytklhbaghbmndeaa
open Go Go.Xw
end Go.Proofs.Ytklhbaghbmndeaa
namespace Go.Proofs.Ytklhbaghbmndeaa.Pure
open Go Go.Xw
theorem ix_ext {a b : List Int} (hl : a.length = b.length) (h : ∀ j, j < a.length → ix a (j : Int) = ix b (j : Int)) : a = b := by
  apply List.ext_getElem hl
  intro i h1 h2
  rw [← ix_nat h1, ← ix_nat h2]
  exact h i h1
theorem ints2_eq {fu : Nat} {a b : List Int} (ha : a.length ≤ 9000000000000000000) (hf : a.length < fu) : rickyardref01_Ints.f fu a b = some (decide (a = b)) := by
  unfold rickyardref01_Ints.f
  by_cases hl : a.length = b.length
  · have hL : (a.length : Int) = (b.length : Int) := by omega
    rw [decide_eq_true hL]
    simp only [Bool.not_true, Bool.false_eq_true, if_false]
    have hs : ∀ j : Nat, j < a.length → rickyardref01_Ints.s0 fu a b (j : Int) = some (if ix a (j : Int) = ix b (j : Int) then .inr ((j + 1 : Nat) : Int) else .inl (.inl false)) := by
      intro j hj
      unfold rickyardref01_Ints.s0
      have h1 : (j : Int) < (a.length : Int) := by omega
      have h2 : (j : Int) < (b.length : Int) := by omega
      have c0 : 0 ≤ (j : Int) := by omega
      have w3 : IntKind.i64.wrap ((j : Int) + 1) = ((j + 1 : Nat) : Int) := by rw [w64 (by omega) (by omega)]; omega
      simp only [h1, h2, c0, and_self, decide_true, if_true, w3]
      by_cases e : ix a (j : Int) = ix b (j : Int) <;> simp [e]
    by_cases h : a = b
    · have : loopM (rickyardref01_Ints.s0 fu a b) fu 0 = some (.inr ()) := by
        refine loopM_run (S := fun j => (j : Int)) a.length rfl (fun j hj => by rw [hs j hj, if_pos (by rw [h])]) ?_ hf
        unfold rickyardref01_Ints.s0
        simp
      rw [this]
      simp [h]
    · have : loopM (rickyardref01_Ints.s0 fu a b) fu 0 = some (.inl false) := by
        refine loopM_bad (S := fun j => (j : Int)) a.length (fun j => ix a (j : Int) = ix b (j : Int)) rfl ?_ (fun j hj _ hg => by rw [hs j hj, if_pos hg]) (fun j hj _ hg => by rw [hs j hj, if_neg hg]) hf
        apply Classical.byContradiction
        intro hx
        exact h (ix_ext hl fun i hi => Classical.byContradiction fun hg => hx ⟨i, hi, hg⟩)
      rw [this]
      simp [h]
  · have hL : ¬ (a.length : Int) = (b.length : Int) := by omega
    have h : ¬ a = b := fun e => hl (by rw [e])
    rw [decide_eq_false hL, decide_eq_false h]
    rfl
def rowE (l : List Int) (n : Nat) : List Int := (List.range n).flatMap fun (i : Nat) => lay (u64n (ix l (i : Int))) 2
theorem rowE_len (l : List Int) (n : Nat) : (rowE l n).length = 2 * n := flat_len (fun i => lay_len _ _) n
theorem rowE_bytes (l : List Int) (n : Nat) : Bytes (rowE l n) := flat_bytes (fun i => lay_bytes _ _) n
theorem lim_of' {a b : Nat} (h : a + b ≤ 1000) : a + b ≤ LIM := by
  have : (1000 : Nat) ≤ LIM := by decide
  omega
def part (l : List Int) (i n : Nat) : List Int := (l.drop i).take n
theorem part_len {l : List Int} {i n : Nat} (h : i + n ≤ l.length) : (part l i n).length = n := by
  unfold part
  rw [List.length_take, List.length_drop]
  omega
theorem part_bytes {l : List Int} (hb : Bytes l) (i n : Nat) : Bytes (part l i n) := (hb.drop i).take n
def intAt (l : List Int) (i n : Nat) : Int := IntKind.i64.wrap ((num (part l i n) : Nat) : Int)
theorem ix_map {f : Nat → Int} {t i : Nat} (h : i < t) : ix ((List.range t).map f) (i : Int) = f i := by
  rw [ix_nat (by simpa using h)]
  simp
end Go.Proofs.Ytklhbaghbmndeaa.Pure
namespace Go.Proofs.Ytklhbaghbmndeaa
open Go Go.Xw
end Go.Proofs.Ytklhbaghbmndeaa
namespace Go.Proofs.Ytklhbaghbmndeaa.Pure
open Go Go.Xw
theorem contains_eq {fu : Nat} {l : List Int} {x : Int} (hl : l.length ≤ 9000000000000000000) (hf : l.length < fu) : slices_Contains_2.f fu l x = some (decide (x ∈ l)) := by
  unfold slices_Contains_2.f
  have hs : ∀ j : Nat, j < l.length → slices_Index_2.s0 fu l x (j : Int) = some (if x ≠ ix l (j : Int) then .inr ((j + 1 : Nat) : Int) else .inl (.inl (j : Int))) := by
    intro j hj
    unfold slices_Index_2.s0
    have h1 : (j : Int) < (l.length : Int) := by omega
    have c0 : 0 ≤ (j : Int) := by omega
    have w3 : IntKind.i64.wrap ((j : Int) + 1) = ((j + 1 : Nat) : Int) := by rw [w64 (by omega) (by omega)]; omega
    simp only [h1, c0, and_self, decide_true, if_true, w3]
    by_cases e : x = ix l (j : Int) <;> simp [e]
  have hi : ∃ r : Int, slices_Index_2.f fu l x = some r ∧ (r ≥ 0 ↔ x ∈ l) := by
    unfold slices_Index_2.f
    by_cases hk : x ∈ l
    · have hmin : ∀ m j, j ≤ m → (j < l.length ∧ x = ix l (j : Int)) → ∃ q, (q < l.length ∧ x = ix l (q : Int)) ∧ ∀ i, i < q → x ≠ ix l (i : Int) := by
        intro m
        induction m with
        | zero =>
          intro j hj hjj
          exact ⟨j, hjj, fun i hi => by omega⟩
        | succ m ih =>
          intro j hj hjj
          by_cases hx : ∃ i, i < j ∧ x = ix l (i : Int)
          · obtain ⟨i, hi, hgi⟩ := hx
            exact ih i (by omega) ⟨by omega, hgi⟩
          · exact ⟨j, hjj, fun i hi hg => hx ⟨i, hi, hg⟩⟩
      obtain ⟨j, hj, hjx⟩ := List.getElem_of_mem hk
      obtain ⟨q, ⟨hq, hg⟩, hall⟩ := hmin j j (Nat.le_refl _) ⟨hj, by rw [ix_nat hj, hjx]⟩
      have : loopM (slices_Index_2.s0 fu l x) fu 0 = some (.inl (q : Int)) :=
        loopM_run (S := fun j => (j : Int)) q rfl (fun i hi => by rw [hs i (by omega), if_pos (hall i hi)]) (by rw [hs q hq, if_neg (fun h => h hg)]) (by omega)
      rw [this]
      refine ⟨(q : Int), rfl, ?_⟩
      simp only [hk, iff_true]
      omega
    · have : loopM (slices_Index_2.s0 fu l x) fu 0 = some (.inr ()) := by
        refine loopM_run (S := fun j => (j : Int)) l.length rfl (fun j hj => ?_) ?_ hf
        · rw [hs j hj, if_pos]
          intro e
          rw [ix_nat hj] at e
          exact hk (by rw [e]; exact List.getElem_mem hj)
        · unfold slices_Index_2.s0
          simp
      rw [this]
      exact ⟨-1, rfl, by simp [hk]⟩
  obtain ⟨r, hr, hrk⟩ := hi
  rw [hr]
  exact congrArg some (decide_eq_decide.2 hrk)
def geoOk (g : S_api_Geometry) : Prop := (16 ≤ g.Blocks ∧ g.Blocks ≤ 3072) ∧ (1 ≤ g.Slots ∧ g.Slots ≤ 1792) ∧ (1 ≤ g.Gens ∧ g.Gens ≤ 4294967295)
instance (g : S_api_Geometry) : Decidable (geoOk g) := inferInstanceAs (Decidable (_ ∧ _))
theorem geo_form (g : S_api_Geometry) : (if (decide (g.Blocks ≥ 16)) = true then (if (decide (g.Blocks ≤ 3072)) = true then (if (decide (g.Slots ≥ 1)) = true then (if (decide (g.Slots ≤ 1792)) = true then (if (decide (g.Gens ≥ 1)) = true then (decide (g.Gens ≤ 4294967295)) else false) else false) else false) else false) else false) = decide (geoOk g) := by
  rw [Bool.eq_iff_iff]
  unfold geoOk
  simp only [decide_eq_true_eq, ge_iff_le]
  by_cases c1 : 16 ≤ g.Blocks
  · by_cases c2 : g.Blocks ≤ 3072
    · by_cases c3 : 1 ≤ g.Slots
      · by_cases c4 : g.Slots ≤ 1792
        · by_cases c5 : 1 ≤ g.Gens <;> simp [c1, c2, c3, c4, c5]
        · simp [c1, c2, c3, c4]
      · simp [c1, c2, c3]
    · simp [c1, c2]
  · simp [c1]
theorem geom_eq (fu : Nat) (g : S_api_Geometry) : geom_Right.f fu g = some (decide (geoOk g)) := congrArg some (geo_form g)
theorem rgeom_eq (fu : Nat) (g : S_api_Geometry) : rickyardref12_Right.f fu g = some (decide (geoOk g)) := congrArg some (geo_form g)
def chartsN (g : S_api_Geometry) : Int := (g.Blocks + 383) / 384
theorem charts_eq {fu : Nat} {g : S_api_Geometry} (h : geoOk g) : geom_Charts.f fu g = some (chartsN g) := by
  unfold geom_Charts.f geom_up.f
  rw [geom_eq, decide_eq_true h]
  unfold geoOk at h
  have w1 : IntKind.i64.wrap (g.Blocks + 384) = g.Blocks + 384 := w64 (by omega) (by omega)
  have w2 : IntKind.i64.wrap (g.Blocks + 384 - 1) = g.Blocks + 383 := by rw [w64 (by omega) (by omega)]; omega
  have e1 : Int.tdiv (g.Blocks + 383) 384 = (g.Blocks + 383) / 384 := Int.tdiv_eq_ediv_of_nonneg (by omega)
  have w3 : IntKind.i64.wrap ((g.Blocks + 383) / 384) = (g.Blocks + 383) / 384 := w64 (by omega) (by omega)
  simp [w1, w2, e1, w3, chartsN]
theorem rcharts_eq {fu : Nat} {g : S_api_Geometry} (h : geoOk g) (hf : 100 < fu) : rickyardref12_Charts.f fu g = some (chartsN g) := by
  unfold rickyardref12_Charts.f rickyardref12_Need.f
  unfold geoOk at h
  obtain ⟨n, hn⟩ : ∃ n : Nat, chartsN g = (n : Int) := ⟨(chartsN g).toNat, by unfold chartsN; omega⟩
  have hn' := hn
  unfold chartsN at hn'
  have : loopM (rickyardref12_Need.s0 fu g.Blocks 384) fu 0 = some (n : Int) := by
    refine loopM_run (S := fun j => (j : Int)) n rfl (fun j hj => ?_) ?_ (by omega)
    · unfold rickyardref12_Need.s0
      have w1 : IntKind.i64.wrap ((j : Int) * 384) = (j : Int) * 384 := w64 (by omega) (by omega)
      have w3 : IntKind.i64.wrap ((j : Int) + 1) = ((j + 1 : Nat) : Int) := by rw [w64 (by omega) (by omega)]; omega
      have h1 : (j : Int) * 384 < g.Blocks := by omega
      simp only [w1, w3, h1, decide_true, if_true]
    · unfold rickyardref12_Need.s0
      have w1 : IntKind.i64.wrap ((n : Int) * 384) = (n : Int) * 384 := w64 (by omega) (by omega)
      have h1 : ¬ (n : Int) * 384 < g.Blocks := by omega
      simp only [w1, h1, decide_false, Bool.false_eq_true, if_false]
  rw [this, hn]
  rfl
def inB (s : S_api_Super) (x : Int) : Prop := 2 ≤ x ∧ x < s.Tickets.Geometry.Blocks
instance (s : S_api_Super) (x : Int) : Decidable (inB s x) := inferInstanceAs (Decidable (_ ∧ _))
def supA (s : S_api_Super) : Prop := (1 ≤ s.Epoch ∧ s.Epoch ≤ 4611686018427387904) ∧ geoOk s.Tickets.Geometry
instance (s : S_api_Super) : Decidable (supA s) := inferInstanceAs (Decidable (_ ∧ _))
def supB (s : S_api_Super) : Prop := (0 ≤ s.Tickets.High ∧ s.Tickets.High ≤ s.Tickets.Geometry.Slots) ∧ (0 ≤ s.Tickets.Free ∧ s.Tickets.Free ≤ s.Tickets.High)
instance (s : S_api_Super) : Decidable (supB s) := inferInstanceAs (Decidable (_ ∧ _))
def topOk (s : S_api_Super) : Prop := (s.Tickets.High = 0 → s.Tickets.Top = 0) ∧ (s.Tickets.High ≠ 0 → inB s s.Tickets.Top)
instance (s : S_api_Super) : Decidable (topOk s) := inferInstanceAs (Decidable (_ ∧ _))
def dirOk (s : S_api_Super) : Prop := s.Dir ≠ 0 → inB s s.Dir
instance (s : S_api_Super) : Decidable (dirOk s) := inferInstanceAs (Decidable (_ → _))
def apartC (l : List Int) : Prop := ∀ j, j < l.length → ix l (j : Int) ∉ l.take j
instance (l : List Int) : Decidable (apartC l) := inferInstanceAs (Decidable (∀ j, j < l.length → _))
def insC (s : S_api_Super) : Prop := ∀ j, j < s.Charts.length → inB s (ix s.Charts (j : Int))
instance (s : S_api_Super) : Decidable (insC s) := inferInstanceAs (Decidable (∀ j, j < s.Charts.length → _))
def SupOk (s : S_api_Super) : Prop := supA s ∧ supB s ∧ topOk s ∧ dirOk s ∧ (s.Charts.length : Int) = chartsN s.Tickets.Geometry ∧ insC s ∧ apartC s.Charts
instance (s : S_api_Super) : Decidable (SupOk s) := inferInstanceAs (Decidable (_ ∧ _))
theorem SupOk.len {s : S_api_Super} (h : SupOk s) : s.Charts.length ≤ 8 ∧ 1 ≤ s.Charts.length := by
  have h1 := h.1.2
  have h2 := h.2.2.2.2.1
  unfold geoOk at h1
  unfold chartsN at h2
  omega
theorem in_eq (fu : Nat) (x : Int) (s : S_api_Super) : super_Right_1__c.f fu x s = some (decide (inB s x)) := by
  unfold super_Right_1__c.f inB
  by_cases h : 2 ≤ x <;> simp [h]
theorem sup_g1 (fu : Nat) (s : S_api_Super) : (if (decide (s.Epoch < 1)) = true then some (true) else (if (decide (s.Epoch > 4611686018427387904)) = true then some (true) else ((geom_Right.f fu s.Tickets.Geometry : Option Bool).bind fun t11 => (if (!t11) = true then some (true) else (if (decide (s.Tickets.High < 0)) = true then some (true) else (if (decide (s.Tickets.High > s.Tickets.Geometry.Slots)) = true then some (true) else (if (decide (s.Tickets.Free < 0)) = true then some (true) else some ((decide (s.Tickets.Free > s.Tickets.High)))))))))) = some (!decide (supA s ∧ supB s)) := by
  rw [geom_eq, Option.bind_some]
  by_cases hA : supA s
  · have hA' := hA
    unfold supA at hA'
    have c1 : ¬ s.Epoch < 1 := by omega
    have c2 : ¬ s.Epoch > 4611686018427387904 := by omega
    rw [decide_eq_false c1, decide_eq_false c2, decide_eq_true hA'.2]
    by_cases hB : supB s
    · have hB' := hB
      unfold supB at hB'
      have c3 : ¬ s.Tickets.High < 0 := by omega
      have c4 : ¬ s.Tickets.High > s.Tickets.Geometry.Slots := by omega
      have c5 : ¬ s.Tickets.Free < 0 := by omega
      have c6 : ¬ s.Tickets.Free > s.Tickets.High := by omega
      rw [decide_eq_false c3, decide_eq_false c4, decide_eq_false c5, decide_eq_false c6, decide_eq_true (⟨hA, hB⟩ : supA s ∧ supB s)]
      rfl
    · rw [decide_eq_false (fun x : supA s ∧ supB s => hB x.2)]
      unfold supB at hB
      by_cases c3 : s.Tickets.High < 0
      · rw [decide_eq_true c3]
        rfl
      · by_cases c4 : s.Tickets.High > s.Tickets.Geometry.Slots
        · rw [decide_eq_false c3, decide_eq_true c4]
          rfl
        · by_cases c5 : s.Tickets.Free < 0
          · rw [decide_eq_false c3, decide_eq_false c4, decide_eq_true c5]
            rfl
          · have c6 : s.Tickets.Free > s.Tickets.High := by omega
            rw [decide_eq_false c3, decide_eq_false c4, decide_eq_false c5, decide_eq_true c6]
            rfl
  · rw [decide_eq_false (fun x : supA s ∧ supB s => hA x.1)]
    unfold supA at hA
    by_cases c1 : s.Epoch < 1
    · rw [decide_eq_true c1]
      rfl
    · by_cases c2 : s.Epoch > 4611686018427387904
      · rw [decide_eq_false c1, decide_eq_true c2]
        rfl
      · have c3 : ¬ geoOk s.Tickets.Geometry := fun x => hA ⟨by omega, x⟩
        rw [decide_eq_false c1, decide_eq_false c2, decide_eq_false c3]
        rfl
def lenOk (s : S_api_Super) : Prop := (s.Charts.length : Int) = chartsN s.Tickets.Geometry
instance (s : S_api_Super) : Decidable (lenOk s) := inferInstanceAs (Decidable (_ = _))
theorem sup_loop {fu : Nat} {s : S_api_Super} (hl : s.Charts.length ≤ 50) (hf : 100 < fu) : loopM (super_Right.s0 fu s) fu 0 = some (if insC s ∧ apartC s.Charts then .inr () else .inl false) := by
  have hs : ∀ j : Nat, j < s.Charts.length → super_Right.s0 fu s (j : Int) = some (if inB s (ix s.Charts (j : Int)) ∧ ix s.Charts (j : Int) ∉ s.Charts.take j then .inr ((j + 1 : Nat) : Int) else .inl (.inl false)) := by
    intro j hj
    unfold super_Right.s0
    have h1 : (j : Int) < (s.Charts.length : Int) := by omega
    have h2 : (j : Int) ≤ (s.Charts.length : Int) := by omega
    have c0 : 0 ≤ (j : Int) := by omega
    have w3 : IntKind.i64.wrap ((j : Int) + 1) = ((j + 1 : Nat) : Int) := by rw [w64 (by omega) (by omega)]; omega
    have ec : cut s.Charts 0 (j : Int) = s.Charts.take j := by unfold cut; simp
    have hc : slices_Contains_2.f fu (s.Charts.take j) (ix s.Charts (j : Int)) = some (decide (ix s.Charts (j : Int) ∈ s.Charts.take j)) := contains_eq (by rw [List.length_take]; omega) (by rw [List.length_take]; omega)
    simp only [h1, h2, c0, and_self, decide_true, if_true, w3, in_eq, Option.bind_some, ec, hc]
    by_cases g1 : inB s (ix s.Charts (j : Int))
    · by_cases g2 : ix s.Charts (j : Int) ∈ s.Charts.take j <;> simp [g1, g2]
    · simp [g1]
  by_cases h : insC s ∧ apartC s.Charts
  · rw [if_pos h]
    refine loopM_run (S := fun j => (j : Int)) s.Charts.length rfl (fun j hj => by rw [hs j hj, if_pos ⟨h.1 j hj, h.2 j hj⟩]) ?_ (by omega)
    unfold super_Right.s0
    simp
  · rw [if_neg h]
    refine loopM_bad (S := fun j => (j : Int)) s.Charts.length (fun j => inB s (ix s.Charts (j : Int)) ∧ ix s.Charts (j : Int) ∉ s.Charts.take j) rfl ?_ (fun j hj _ hg => by rw [hs j hj, if_pos hg]) (fun j hj _ hg => by rw [hs j hj, if_neg hg]) (by omega)
    apply Classical.byContradiction
    intro hx
    exact h ⟨fun i hi => Classical.byContradiction fun hg => hx ⟨i, hi, fun q => hg q.1⟩, fun i hi => Classical.byContradiction fun hg => hx ⟨i, hi, fun q => hg q.2⟩⟩
theorem superRight_eq {fu : Nat} {s : S_api_Super} (hf : 100 < fu) : super_Right.f fu s = some (decide (SupOk s)) := by
  unfold super_Right.f
  rw [sup_g1, Option.bind_some]
  by_cases hAB : supA s ∧ supB s
  · obtain ⟨hA, hB⟩ := hAB
    have hg := hA.2
    have hB' := hB
    unfold supB at hB'
    rw [decide_eq_true (⟨hA, hB⟩ : supA s ∧ supB s), charts_eq hg]
    simp only [Bool.not_true, Bool.false_eq_true, if_false, in_eq, Option.bind_some]
    have key : ∀ (b : Bool), b = decide (topOk s ∧ dirOk s ∧ lenOk s) → (if (!b) = true then some false else ((loopM (super_Right.s0 fu s) fu (0)).bind fun e131 => match e131 with | Sum.inl p => some p | Sum.inr x134 => some (true))) = some (decide (SupOk s)) := by
      intro b hb
      by_cases hT : topOk s ∧ dirOk s ∧ lenOk s
      · rw [hb, decide_eq_true hT]
        have hlen : s.Charts.length ≤ 50 := by
          have h1 := hT.2.2
          unfold lenOk chartsN at h1
          unfold geoOk at hg
          omega
        rw [sup_loop hlen hf]
        by_cases hq : insC s ∧ apartC s.Charts
        · have hS : SupOk s := ⟨hA, hB, hT.1, hT.2.1, hT.2.2, hq.1, hq.2⟩
          rw [if_pos hq, decide_eq_true hS]
          rfl
        · rw [if_neg hq, decide_eq_false (fun x : SupOk s => hq ⟨x.2.2.2.2.2.1, x.2.2.2.2.2.2⟩)]
          rfl
      · rw [hb, decide_eq_false hT, decide_eq_false (fun x : SupOk s => hT ⟨x.2.2.1, x.2.2.2.1, x.2.2.2.2.1⟩)]
        rfl
    by_cases h0 : s.Tickets.High = 0
    · have h1 : ¬ s.Tickets.High > 0 := by omega
      rw [decide_eq_true h0, decide_eq_false h1]
      by_cases ht : s.Tickets.Top = 0
      · rw [decide_eq_true ht]
        have hT : topOk s := ⟨fun _ => ht, fun x => absurd h0 x⟩
        by_cases hd : s.Dir = 0
        · rw [decide_eq_true hd]
          have hD : dirOk s := fun x => absurd hd x
          exact key (decide (lenOk s)) (decide_eq_decide.2 ⟨fun x => ⟨hT, hD, x⟩, fun x => x.2.2⟩)
        · rw [decide_eq_false hd]
          by_cases hi : inB s s.Dir
          · rw [decide_eq_true hi]
            exact key (decide (lenOk s)) (decide_eq_decide.2 ⟨fun x => ⟨hT, fun _ => hi, x⟩, fun x => x.2.2⟩)
          · rw [decide_eq_false hi]
            exact key false (decide_eq_false (fun x => hi (x.2.1 hd))).symm
      · rw [decide_eq_false ht]
        exact key false (decide_eq_false (fun x => ht (x.1.1 h0))).symm
    · have h1 : s.Tickets.High > 0 := by omega
      rw [decide_eq_false h0, decide_eq_true h1]
      by_cases ht : inB s s.Tickets.Top
      · rw [decide_eq_true ht]
        have hT : topOk s := ⟨fun x => absurd x h0, fun _ => ht⟩
        by_cases hd : s.Dir = 0
        · rw [decide_eq_true hd]
          have hD : dirOk s := fun x => absurd hd x
          exact key (decide (lenOk s)) (decide_eq_decide.2 ⟨fun x => ⟨hT, hD, x⟩, fun x => x.2.2⟩)
        · rw [decide_eq_false hd]
          by_cases hi : inB s s.Dir
          · rw [decide_eq_true hi]
            exact key (decide (lenOk s)) (decide_eq_decide.2 ⟨fun x => ⟨hT, fun _ => hi, x⟩, fun x => x.2.2⟩)
          · rw [decide_eq_false hi]
            exact key false (decide_eq_false (fun x => hi (x.2.1 hd))).symm
      · rw [decide_eq_false ht]
        exact key false (decide_eq_false (fun x => ht (x.1.2 h0))).symm
  · rw [decide_eq_false hAB, decide_eq_false (fun x : SupOk s => hAB ⟨x.1, x.2.1⟩)]
    rfl
def needL (s : S_api_Super) : List Int := (if s.Tickets.High = 0 then [] else [s.Tickets.Top]) ++ (if s.Dir = 0 then [] else [s.Dir])
theorem needL_len (s : S_api_Super) : (needL s).length ≤ 2 := by
  unfold needL
  split <;> split <;> simp
theorem mem_ix {l : List Int} {p : Int → Prop} : (∀ x ∈ l, p x) ↔ ∀ j, j < l.length → p (ix l (j : Int)) := by
  constructor
  · intro h j hj
    rw [ix_nat hj]
    exact h _ (List.getElem_mem hj)
  · intro h x hx
    obtain ⟨j, hj, rfl⟩ := List.getElem_of_mem hx
    have := h j hj
    rwa [ix_nat hj] at this
theorem rs2_eq {fu : Nat} {s : S_api_Super} {nd : List Int} {j : Nat} (hj : j < s.Charts.length) (hl : s.Charts.length ≤ 50) (hf : 100 < fu) : loopM (rickyardref13_Right.s2 fu s (nd, (j : Int))) fu 0 = some (if ix s.Charts (j : Int) ∉ s.Charts.take j then .inr () else .inl (.inl (.inl false))) := by
  have hs : ∀ i : Nat, i < j → rickyardref13_Right.s2 fu s (nd, (j : Int)) (i : Int) = some (if ix s.Charts (i : Int) ≠ ix s.Charts (j : Int) then .inr ((i + 1 : Nat) : Int) else .inl (.inl (.inl (.inl false)))) := by
    intro i hi
    unfold rickyardref13_Right.s2
    have h1 : (i : Int) < (j : Int) := by omega
    have h2 : (i : Int) < (s.Charts.length : Int) := by omega
    have h3 : (j : Int) < (s.Charts.length : Int) := by omega
    have c0 : 0 ≤ (i : Int) := by omega
    have c1 : 0 ≤ (j : Int) := by omega
    have w3 : IntKind.i64.wrap ((i : Int) + 1) = ((i + 1 : Nat) : Int) := by rw [w64 (by omega) (by omega)]; omega
    simp only [h1, h2, h3, c0, c1, and_self, decide_true, if_true, w3]
    by_cases e : ix s.Charts (i : Int) = ix s.Charts (j : Int) <;> simp [e]
  have hmem : ix s.Charts (j : Int) ∉ s.Charts.take j ↔ ∀ i, i < j → ix s.Charts (i : Int) ≠ ix s.Charts (j : Int) := by
    constructor
    · intro h i hi e
      apply h
      rw [← e, ix_nat (show i < s.Charts.length by omega)]
      exact List.mem_take_iff_getElem.2 ⟨i, by omega, rfl⟩
    · intro h hm
      obtain ⟨i, hi, he⟩ := List.mem_take_iff_getElem.1 hm
      exact h i (by omega) (by rw [ix_nat (show i < s.Charts.length by omega)]; exact he)
  by_cases h : ix s.Charts (j : Int) ∉ s.Charts.take j
  · rw [if_pos h]
    refine loopM_run (S := fun i => (i : Int)) j rfl (fun i hi => by rw [hs i hi, if_pos (hmem.1 h i hi)]) ?_ (by omega)
    unfold rickyardref13_Right.s2
    simp
  · rw [if_neg h]
    refine loopM_bad (S := fun i => (i : Int)) j (fun i => ix s.Charts (i : Int) ≠ ix s.Charts (j : Int)) rfl ?_ (fun i hi _ hg => by rw [hs i hi, if_pos hg]) (fun i hi _ hg => by rw [hs i hi, if_neg hg]) (by omega)
    apply Classical.byContradiction
    intro hx
    exact h (hmem.2 fun i hi => Classical.byContradiction fun hg => hx ⟨i, hi, hg⟩)
theorem rs1_eq {fu : Nat} {s : S_api_Super} (hl : s.Charts.length ≤ 50) (hf : 100 < fu) : loopM (rickyardref13_Right.s1 fu s) fu (needL s, 0) = some (if apartC s.Charts then .inr (needL s ++ s.Charts) else .inl false) := by
  have hn := needL_len s
  have hs : ∀ j : Nat, j < s.Charts.length → rickyardref13_Right.s1 fu s (needL s ++ s.Charts.take j, (j : Int)) = some (if ix s.Charts (j : Int) ∉ s.Charts.take j then .inr (needL s ++ s.Charts.take (j + 1), ((j + 1 : Nat) : Int)) else .inl (.inl false)) := by
    intro j hj
    unfold rickyardref13_Right.s1
    have h2 : (j : Int) < (s.Charts.length : Int) := by omega
    have c0 : 0 ≤ (j : Int) := by omega
    have w3 : IntKind.i64.wrap ((j : Int) + 1) = ((j + 1 : Nat) : Int) := by rw [w64 (by omega) (by omega)]; omega
    have hlim : (needL s ++ s.Charts.take j).length + ([ix s.Charts (j : Int)] : List Int).length ≤ LIM := lim_of' (by rw [List.length_append, List.length_take]; simp; omega)
    have e : needL s ++ s.Charts.take (j + 1) = needL s ++ s.Charts.take j ++ [ix s.Charts (j : Int)] := by
      rw [List.take_add_one, List.getElem?_eq_getElem hj, ix_nat hj, List.append_assoc]
      rfl
    simp only [h2, c0, and_self, decide_true, if_true, w3, hlim, rs2_eq hj hl hf, e]
    by_cases g : ix s.Charts (j : Int) ∉ s.Charts.take j
    · rw [if_pos g, if_pos g]
      rfl
    · rw [if_neg g, if_neg g]
      rfl
  by_cases h : apartC s.Charts
  · rw [if_pos h]
    refine loopM_run (S := fun j => (needL s ++ s.Charts.take j, (j : Int))) s.Charts.length (by simp) (fun j hj => by rw [hs j hj, if_pos (h j hj)]) ?_ (by omega)
    unfold rickyardref13_Right.s1
    simp
  · rw [if_neg h]
    refine loopM_bad (S := fun j => (needL s ++ s.Charts.take j, (j : Int))) s.Charts.length (fun j => ix s.Charts (j : Int) ∉ s.Charts.take j) (by simp) ?_ (fun j hj _ hg => by rw [hs j hj, if_pos hg]) (fun j hj _ hg => by rw [hs j hj, if_neg hg]) (by omega)
    apply Classical.byContradiction
    intro hx
    exact h fun i hi => Classical.byContradiction fun hg => hx ⟨i, hi, hg⟩
theorem rs3_eq {fu : Nat} {s : S_api_Super} {l : List Int} (hl : l.length ≤ 60) (hf : 100 < fu) : loopM (rickyardref13_Right.s3 fu s l) fu 0 = some (if ∀ j, j < l.length → inB s (ix l (j : Int)) then .inr () else .inl false) := by
  have hs : ∀ j : Nat, j < l.length → rickyardref13_Right.s3 fu s l (j : Int) = some (if inB s (ix l (j : Int)) then .inr ((j + 1 : Nat) : Int) else .inl (.inl false)) := by
    intro j hj
    unfold rickyardref13_Right.s3
    have h2 : (j : Int) < (l.length : Int) := by omega
    have c0 : 0 ≤ (j : Int) := by omega
    have w3 : IntKind.i64.wrap ((j : Int) + 1) = ((j + 1 : Nat) : Int) := by rw [w64 (by omega) (by omega)]; omega
    simp only [h2, c0, and_self, decide_true, if_true, w3]
    by_cases g1 : ix l (j : Int) < 2
    · have g : ¬ inB s (ix l (j : Int)) := fun x => by unfold inB at x; omega
      rw [decide_eq_true g1, if_neg g]
      rfl
    · by_cases g2 : ix l (j : Int) ≥ s.Tickets.Geometry.Blocks
      · have g : ¬ inB s (ix l (j : Int)) := fun x => by unfold inB at x; omega
        rw [decide_eq_false g1, decide_eq_true g2, if_neg g]
        rfl
      · have g : inB s (ix l (j : Int)) := ⟨by omega, by omega⟩
        rw [decide_eq_false g1, decide_eq_false g2, if_pos g]
        rfl
  by_cases h : ∀ j, j < l.length → inB s (ix l (j : Int))
  · rw [if_pos h]
    refine loopM_run (S := fun j => (j : Int)) l.length rfl (fun j hj => by rw [hs j hj, if_pos (h j hj)]) ?_ (by omega)
    unfold rickyardref13_Right.s3
    simp
  · rw [if_neg h]
    refine loopM_bad (S := fun j => (j : Int)) l.length (fun j => inB s (ix l (j : Int))) rfl ?_ (fun j hj _ hg => by rw [hs j hj, if_pos hg]) (fun j hj _ hg => by rw [hs j hj, if_neg hg]) (by omega)
    apply Classical.byContradiction
    intro hx
    exact h fun i hi => Classical.byContradiction fun hg => hx ⟨i, hi, hg⟩
theorem rsuperRight_eq {fu : Nat} {s : S_api_Super} (hf : 100 < fu) : rickyardref13_Right.f fu s = some (decide (SupOk s)) := by
  unfold rickyardref13_Right.f
  rw [rgeom_eq]
  by_cases hA : supA s
  · have hA' := hA
    unfold supA at hA'
    have hg := hA.2
    have hg' := hg
    unfold geoOk at hg'
    have c1 : ¬ s.Epoch < 1 := by omega
    have c2 : ¬ s.Epoch > 4611686018427387904 := by omega
    rw [decide_eq_false c1, decide_eq_false c2, decide_eq_true hg, rcharts_eq hg hf]
    simp only [Bool.false_eq_true, if_false, Option.bind_some, Bool.not_true]
    by_cases hB : supB s
    · have hB' := hB
      unfold supB at hB'
      have c3 : ¬ s.Tickets.High < 0 := by omega
      have c4 : ¬ s.Tickets.High > s.Tickets.Geometry.Slots := by omega
      have c5 : ¬ s.Tickets.Free < 0 := by omega
      have c6 : ¬ s.Tickets.Free > s.Tickets.High := by omega
      rw [decide_eq_false c3, decide_eq_false c4, decide_eq_false c5, decide_eq_false c6]
      simp only [Bool.false_eq_true, if_false, Option.bind_some]
      by_cases hL : (s.Charts.length : Int) = chartsN s.Tickets.Geometry
      · rw [decide_eq_true hL]
        simp only [Bool.not_true, Bool.false_eq_true, if_false]
        have hlen : s.Charts.length ≤ 50 := by unfold chartsN at hL; omega
        have hn := needL_len s
        have fin : (((loopM (rickyardref13_Right.s1 fu s) fu (needL s, 0)).bind fun e99 => match e99 with | Sum.inl p => some p | Sum.inr x102 => ((loopM (rickyardref13_Right.s3 fu s x102) fu (0)).bind fun e150 => match e150 with | Sum.inl p => some p | Sum.inr x153 => some (true)))) = some (decide (apartC s.Charts ∧ ∀ x ∈ needL s ++ s.Charts, inB s x)) := by
          rw [rs1_eq hlen hf]
          by_cases ha : apartC s.Charts
          · rw [if_pos ha]
            simp only [Option.bind_some]
            rw [rs3_eq (by rw [List.length_append]; omega) hf]
            by_cases hi : ∀ j, j < (needL s ++ s.Charts).length → inB s (ix (needL s ++ s.Charts) (j : Int))
            · rw [if_pos hi, decide_eq_true (⟨ha, mem_ix.2 hi⟩ : apartC s.Charts ∧ ∀ x ∈ needL s ++ s.Charts, inB s x)]
              rfl
            · rw [if_neg hi, decide_eq_false (fun x : apartC s.Charts ∧ ∀ x ∈ needL s ++ s.Charts, inB s x => hi (mem_ix.1 x.2))]
              rfl
          · rw [if_neg ha, decide_eq_false (fun x : apartC s.Charts ∧ ∀ x ∈ needL s ++ s.Charts, inB s x => ha x.1)]
            rfl
        have same : (s.Tickets.High = 0 → s.Tickets.Top = 0) → (decide (apartC s.Charts ∧ ∀ x ∈ needL s ++ s.Charts, inB s x)) = decide (SupOk s) := by
          intro ht
          apply decide_eq_decide.2
          constructor
          · rintro ⟨ha, hi⟩
            refine ⟨hA, hB, ⟨ht, fun hh => hi _ ?_⟩, fun hd => hi _ ?_, hL, mem_ix.1 fun x hx => hi x (List.mem_append_right _ hx), ha⟩
            · apply List.mem_append_left
              unfold needL
              rw [if_neg hh]
              simp
            · apply List.mem_append_left
              unfold needL
              rw [if_neg hd]
              simp
          · intro h
            refine ⟨h.2.2.2.2.2.2, fun x hx => ?_⟩
            rcases List.mem_append.1 hx with hx | hx
            · unfold needL at hx
              rcases List.mem_append.1 hx with hx | hx
              · by_cases h0 : s.Tickets.High = 0
                · rw [if_pos h0] at hx
                  simp at hx
                · rw [if_neg h0] at hx
                  rw [List.mem_singleton.1 hx]
                  exact h.2.2.1.2 h0
              · by_cases h0 : s.Dir = 0
                · rw [if_pos h0] at hx
                  simp at hx
                · rw [if_neg h0] at hx
                  rw [List.mem_singleton.1 hx]
                  exact h.2.2.2.1 h0
            · exact mem_ix.2 h.2.2.2.2.2.1 x hx
        have l1 : ([] : List Int).length + ([s.Tickets.Top] : List Int).length ≤ LIM := lim_of' (by simp)
        by_cases h0 : s.Tickets.High = 0
        · rw [decide_eq_true h0]
          simp only [if_true]
          by_cases ht : s.Tickets.Top = 0
          · rw [decide_eq_true ht]
            simp only [Bool.not_true, Bool.false_eq_true, if_false, Option.bind_some]
            have hsame := same (fun _ => ht)
            by_cases hd : s.Dir = 0
            · rw [decide_eq_true hd]
              have hneed : needL s = [] := by unfold needL; rw [if_pos h0, if_pos hd]; rfl
              rw [← hsame, ← fin, hneed]
              rfl
            · rw [decide_eq_false hd]
              have hneed : needL s = [] ++ [s.Dir] := by unfold needL; rw [if_pos h0, if_neg hd]
              have l2 : ([] : List Int).length + ([s.Dir] : List Int).length ≤ LIM := lim_of' (by simp)
              rw [← hsame, ← fin, hneed]
              simp only [Bool.not_false, if_true, if_pos l2, Option.bind_some]
              rfl
          · rw [decide_eq_false ht]
            have : ¬ SupOk s := fun x => ht (x.2.2.1.1 h0)
            rw [decide_eq_false this]
            rfl
        · rw [decide_eq_false h0]
          simp only [Bool.false_eq_true, if_false, if_pos l1, Option.bind_some]
          have hsame := same (fun x => absurd x h0)
          by_cases hd : s.Dir = 0
          · rw [decide_eq_true hd]
            have hneed : needL s = [] ++ [s.Tickets.Top] := by unfold needL; rw [if_neg h0, if_pos hd]; rfl
            rw [← hsame, ← fin, hneed]
            rfl
          · rw [decide_eq_false hd]
            have hneed : needL s = [] ++ [s.Tickets.Top] ++ [s.Dir] := by unfold needL; rw [if_neg h0, if_neg hd]; rfl
            have l2 : ([] ++ [s.Tickets.Top] : List Int).length + ([s.Dir] : List Int).length ≤ LIM := lim_of' (by simp)
            rw [← hsame, ← fin, hneed]
            simp only [Bool.not_false, if_true, if_pos l2, Option.bind_some]
            rfl
      · rw [decide_eq_false hL, decide_eq_false (fun x : SupOk s => hL x.2.2.2.2.1)]
        rfl
    · rw [decide_eq_false (fun x : SupOk s => hB x.2.1)]
      unfold supB at hB
      by_cases c3 : s.Tickets.High < 0
      · rw [decide_eq_true c3]
        rfl
      · by_cases c4 : s.Tickets.High > s.Tickets.Geometry.Slots
        · rw [decide_eq_false c3, decide_eq_true c4]
          rfl
        · by_cases c5 : s.Tickets.Free < 0
          · rw [decide_eq_false c3, decide_eq_false c4, decide_eq_true c5]
            rfl
          · have c6 : s.Tickets.Free > s.Tickets.High := by omega
            rw [decide_eq_false c3, decide_eq_false c4, decide_eq_false c5, decide_eq_true c6]
            rfl
  · rw [decide_eq_false (fun x : SupOk s => hA x.1)]
    unfold supA at hA
    by_cases c1 : s.Epoch < 1
    · rw [decide_eq_true c1]
      rfl
    · by_cases c2 : s.Epoch > 4611686018427387904
      · rw [decide_eq_false c1, decide_eq_true c2]
        rfl
      · have c3 : ¬ geoOk s.Tickets.Geometry := fun x => hA ⟨by omega, x⟩
        rw [decide_eq_false c1, decide_eq_false c2, decide_eq_false c3]
        rfl
def supH (s : S_api_Super) : List Int := lay (u64n s.Epoch) 8 ++ (lay (u64n s.Tickets.Geometry.Blocks) 4 ++ (lay (u64n s.Tickets.Geometry.Slots) 4 ++ (lay (u64n s.Tickets.Geometry.Gens) 4 ++ (lay (u64n s.Tickets.High) 4 ++ (lay (u64n s.Tickets.Free) 4 ++ (lay (u64n s.Tickets.Top) 2 ++ lay (u64n s.Dir) 2))))))
theorem supH_len (s : S_api_Super) : (supH s).length = 32 := by simp [supH, lay_len]
theorem supH_bytes (s : S_api_Super) : Bytes (supH s) := (lay_bytes _ _).app ((lay_bytes _ _).app ((lay_bytes _ _).app ((lay_bytes _ _).app ((lay_bytes _ _).app ((lay_bytes _ _).app ((lay_bytes _ _).app (lay_bytes _ _)))))))
def supE (s : S_api_Super) : List Int := supH s ++ rowE s.Charts s.Charts.length
theorem supE_len (s : S_api_Super) : (supE s).length = 32 + 2 * s.Charts.length := by simp [supE, supH_len, rowE_len]
theorem supE_bytes (s : S_api_Super) : Bytes (supE s) := (supH_bytes _).app (rowE_bytes _ _)
theorem rsuperPut_eq {fu : Nat} {s : S_api_Super} (hk : s.Charts.length ≤ 8) (hf : 100 < fu) : rickyardref13_Put.f fu s = some ((sealed (summed 7 (s.Charts.length : Int) (supE s))).map toB) := by
  unfold rickyardref13_Put.f
  have hl8 : ∀ z : Int, rickyardref01_Lay.f fu (IntKind.u64.wrap z) 8 = some ((lay (u64n z) 8).map toB) := fun z => rlay64 (n := 8) (by decide) (by omega)
  have hl4 : ∀ z : Int, rickyardref01_Lay.f fu (IntKind.u64.wrap z) 4 = some ((lay (u64n z) 4).map toB) := fun z => rlay64 (n := 4) (by decide) (by omega)
  have hl2 : ∀ z : Int, rickyardref01_Lay.f fu (IntKind.u64.wrap z) 2 = some ((lay (u64n z) 2).map toB) := fun z => rlay64 (n := 2) (by decide) (by omega)
  have e0 : (lay (u64n s.Epoch) 8).map toB ++ (lay (u64n s.Tickets.Geometry.Blocks) 4).map toB ++ (lay (u64n s.Tickets.Geometry.Slots) 4).map toB ++ (lay (u64n s.Tickets.Geometry.Gens) 4).map toB ++ (lay (u64n s.Tickets.High) 4).map toB ++ (lay (u64n s.Tickets.Free) 4).map toB ++ (lay (u64n s.Tickets.Top) 2).map toB ++ (lay (u64n s.Dir) 2).map toB = (supH s).map toB := by simp [supH]
  have lm : ∀ v n, ((lay v n).map toB).length = n := fun v n => by rw [List.length_map, lay_len]
  have lim : ∀ {a : List UInt8} {b : List UInt8}, a.length + b.length ≤ 1000 → a.length + b.length ≤ LIM := fun h => lim_of' h
  have hloop : loopM (rickyardref13_Put.s0 fu s) fu ((supH s).map toB, 0) = some ((supE s).map toB) := by
    refine loopM_run (S := fun j => ((supH s ++ rowE s.Charts j).map toB, (j : Int))) s.Charts.length (by simp [rowE]) ?_ ?_ (by omega)
    · intro j hj
      unfold rickyardref13_Put.s0
      have h1 : (j : Int) < (s.Charts.length : Int) := by omega
      have c0 : 0 ≤ (j : Int) := by omega
      have w3 : IntKind.i64.wrap ((j : Int) + 1) = ((j + 1 : Nat) : Int) := by rw [w64 (by omega) (by omega)]; omega
      have hlim : ((supH s ++ rowE s.Charts j).map toB).length + ((lay (u64n (ix s.Charts (j : Int))) 2).map toB).length ≤ LIM := lim_of' (by rw [List.length_map, List.length_map, List.length_append, supH_len, rowE_len, lay_len]; omega)
      simp only [h1, c0, and_self, decide_true, if_true, w3, hl2, Option.bind_some, hlim]
      rw [← List.map_append, List.append_assoc]
      congr 5
      rw [rowE, rowE, flat_succ]
    · unfold rickyardref13_Put.s0
      simp [supE]
  have hs := rseal_eq (fu := fu) (k := 7) (t := (s.Charts.length : Int)) (supE_bytes s) (by omega) (by omega) (by rw [supE_len]; omega) hf
  simp only [hl8, hl4, hl2, Option.bind_some]
  rw [if_pos (lim (by simp only [List.length_append, lm]; decide)), if_pos (lim (by simp only [List.length_append, lm]; decide)), if_pos (lim (by simp only [List.length_append, lm]; decide)), if_pos (lim (by simp only [List.length_append, lm]; decide)), if_pos (lim (by simp only [List.length_append, lm]; decide)), if_pos (lim (by simp only [List.length_append, lm]; decide)), if_pos (lim (by simp only [List.length_append, lm]; decide)), e0, hloop, Option.bind_some, hs]
  rfl
theorem next_eq {fu : Nat} {b : List Int} {i n : Nat} (hb : Bytes b) (h : i + n ≤ b.length) (hn : n ≤ 8) (hf : 100 < fu) : super_reader_next.f fu ⟨b.drop i⟩ (n : Int) = some (intAt b i n, ⟨b.drop (i + n)⟩) := by
  unfold super_reader_next.f
  have hl : (b.drop i).length = b.length - i := List.length_drop
  have c1 : 0 ≤ (n : Int) ∧ (n : Int) ≤ ((b.drop i).length : Int) := by omega
  have e0 : cut (b.drop i) 0 (n : Int) = part b i n := by unfold cut part; simp
  have e1 : cut (b.drop i) (n : Int) ((b.drop i).length : Int) = b.drop (i + n) := by
    unfold cut
    rw [Int.toNat_natCast, Int.toNat_natCast, List.take_length, List.drop_drop]
  have hr : octet_Read.f fu (part b i n) = some ((num (part b i n) : Nat) : Int) := read_eq (part_bytes hb i n) (by rw [part_len h]; exact hn) (by rw [part_len h]; omega)
  simp only [if_pos c1, e0, e1, hr, Option.bind_some]
  rfl
def chartsOf (body : List Int) (t : Nat) : List Int := (List.range t).map fun i => intAt body (32 + 2 * i) 2
def supOf (body : List Int) (t : Nat) : S_api_Super := ⟨intAt body 0 8, ⟨⟨intAt body 8 4, intAt body 12 4, intAt body 16 4⟩, intAt body 28 2, intAt body 20 4, intAt body 24 4⟩, intAt body 30 2, chartsOf body t⟩
theorem supOf_E {s : S_api_Super} (h : SupOk s) (t : List Int) : supOf (supE s ++ t) s.Charts.length = s := by
  have hlen := h.len
  have hA := h.1
  have hB := h.2.1
  have hT := h.2.2.1
  have hD := h.2.2.2.1
  have hI := h.2.2.2.2.2.1
  unfold supA geoOk at hA
  unfold supB at hB
  have hTop : 0 ≤ s.Tickets.Top ∧ s.Tickets.Top ≤ 3072 := by
    by_cases h0 : s.Tickets.High = 0
    · have := hT.1 h0
      omega
    · have := hT.2 h0
      unfold inB at this
      omega
  have hDir : 0 ≤ s.Dir ∧ s.Dir ≤ 3072 := by
    by_cases h0 : s.Dir = 0
    · omega
    · have := hD h0
      unfold inB at this
      omega
  obtain ⟨R, hR⟩ : ∃ R, R = rowE s.Charts s.Charts.length ++ t := ⟨_, rfl⟩
  have e : supE s ++ t = lay (u64n s.Epoch) 8 ++ (lay (u64n s.Tickets.Geometry.Blocks) 4 ++ (lay (u64n s.Tickets.Geometry.Slots) 4 ++ (lay (u64n s.Tickets.Geometry.Gens) 4 ++ (lay (u64n s.Tickets.High) 4 ++ (lay (u64n s.Tickets.Free) 4 ++ (lay (u64n s.Tickets.Top) 2 ++ (lay (u64n s.Dir) 2 ++ R))))))) := by
    rw [hR]
    simp [supE, supH]
  have l8 : ∀ v, (lay v 8).length = 8 := fun v => lay_len v 8
  have l4 : ∀ v, (lay v 4).length = 4 := fun v => lay_len v 4
  have l2 : ∀ v, (lay v 2).length = 2 := fun v => lay_len v 2
  have d8 : (supE s ++ t).drop 8 = (lay (u64n s.Tickets.Geometry.Blocks) 4 ++ (lay (u64n s.Tickets.Geometry.Slots) 4 ++ (lay (u64n s.Tickets.Geometry.Gens) 4 ++ (lay (u64n s.Tickets.High) 4 ++ (lay (u64n s.Tickets.Free) 4 ++ (lay (u64n s.Tickets.Top) 2 ++ (lay (u64n s.Dir) 2 ++ R))))))) := by rw [e, List.drop_left' (l8 _)]
  have d12 : (supE s ++ t).drop 12 = (lay (u64n s.Tickets.Geometry.Slots) 4 ++ (lay (u64n s.Tickets.Geometry.Gens) 4 ++ (lay (u64n s.Tickets.High) 4 ++ (lay (u64n s.Tickets.Free) 4 ++ (lay (u64n s.Tickets.Top) 2 ++ (lay (u64n s.Dir) 2 ++ R)))))) := by rw [show (12 : Nat) = 8 + 4 from rfl, ← List.drop_drop, d8, List.drop_left' (l4 _)]
  have d16 : (supE s ++ t).drop 16 = (lay (u64n s.Tickets.Geometry.Gens) 4 ++ (lay (u64n s.Tickets.High) 4 ++ (lay (u64n s.Tickets.Free) 4 ++ (lay (u64n s.Tickets.Top) 2 ++ (lay (u64n s.Dir) 2 ++ R))))) := by rw [show (16 : Nat) = 12 + 4 from rfl, ← List.drop_drop, d12, List.drop_left' (l4 _)]
  have d20 : (supE s ++ t).drop 20 = (lay (u64n s.Tickets.High) 4 ++ (lay (u64n s.Tickets.Free) 4 ++ (lay (u64n s.Tickets.Top) 2 ++ (lay (u64n s.Dir) 2 ++ R)))) := by rw [show (20 : Nat) = 16 + 4 from rfl, ← List.drop_drop, d16, List.drop_left' (l4 _)]
  have d24 : (supE s ++ t).drop 24 = (lay (u64n s.Tickets.Free) 4 ++ (lay (u64n s.Tickets.Top) 2 ++ (lay (u64n s.Dir) 2 ++ R))) := by rw [show (24 : Nat) = 20 + 4 from rfl, ← List.drop_drop, d20, List.drop_left' (l4 _)]
  have d28 : (supE s ++ t).drop 28 = (lay (u64n s.Tickets.Top) 2 ++ (lay (u64n s.Dir) 2 ++ R)) := by rw [show (28 : Nat) = 24 + 4 from rfl, ← List.drop_drop, d24, List.drop_left' (l4 _)]
  have d30 : (supE s ++ t).drop 30 = (lay (u64n s.Dir) 2 ++ R) := by rw [show (30 : Nat) = 28 + 2 from rfl, ← List.drop_drop, d28, List.drop_left' (l2 _)]
  have d32 : (supE s ++ t).drop 32 = R := by rw [show (32 : Nat) = 30 + 2 from rfl, ← List.drop_drop, d30, List.drop_left' (l2 _)]
  have q8 : (256 : Nat) ^ 8 = 18446744073709551616 := by decide
  have q4 : (256 : Nat) ^ 4 = 4294967296 := by decide
  have q2 : (256 : Nat) ^ 2 = 65536 := by decide
  have val : ∀ (i n : Nat) (x : Int), part (supE s ++ t) i n = lay (u64n x) n → 0 ≤ x → x < ((256 ^ n : Nat) : Int) → x ≤ 9223372036854775807 → intAt (supE s ++ t) i n = x := by
    intro i n x hp h0 h1 h2
    unfold intAt
    rw [hp, num_lay, u64n_of h0 (by omega), Nat.mod_eq_of_lt (by omega), Int.toNat_of_nonneg h0, w64 (by omega) h2]
  have p0 : part (supE s ++ t) 0 8 = lay (u64n s.Epoch) 8 := by unfold part; rw [List.drop_zero, e, List.take_left' (l8 _)]
  have p8 : part (supE s ++ t) 8 4 = lay (u64n s.Tickets.Geometry.Blocks) 4 := by unfold part; rw [d8, List.take_left' (l4 _)]
  have p12 : part (supE s ++ t) 12 4 = lay (u64n s.Tickets.Geometry.Slots) 4 := by unfold part; rw [d12, List.take_left' (l4 _)]
  have p16 : part (supE s ++ t) 16 4 = lay (u64n s.Tickets.Geometry.Gens) 4 := by unfold part; rw [d16, List.take_left' (l4 _)]
  have p20 : part (supE s ++ t) 20 4 = lay (u64n s.Tickets.High) 4 := by unfold part; rw [d20, List.take_left' (l4 _)]
  have p24 : part (supE s ++ t) 24 4 = lay (u64n s.Tickets.Free) 4 := by unfold part; rw [d24, List.take_left' (l4 _)]
  have p28 : part (supE s ++ t) 28 2 = lay (u64n s.Tickets.Top) 2 := by unfold part; rw [d28, List.take_left' (l2 _)]
  have p30 : part (supE s ++ t) 30 2 = lay (u64n s.Dir) 2 := by unfold part; rw [d30, List.take_left' (l2 _)]
  have i0 := val 0 8 _ p0 (by omega) (by omega) (by omega)
  have i8 := val 8 4 _ p8 (by omega) (by omega) (by omega)
  have i12 := val 12 4 _ p12 (by omega) (by omega) (by omega)
  have i16 := val 16 4 _ p16 (by omega) (by omega) (by omega)
  have i20 := val 20 4 _ p20 (by omega) (by omega) (by omega)
  have i24 := val 24 4 _ p24 (by omega) (by omega) (by omega)
  have i28 := val 28 2 _ p28 (by omega) (by omega) (by omega)
  have i30 := val 30 2 _ p30 (by omega) (by omega) (by omega)
  have ik : chartsOf (supE s ++ t) s.Charts.length = s.Charts := by
    apply ix_ext (by simp [chartsOf])
    intro i hi
    have hi' : i < s.Charts.length := by simpa [chartsOf] using hi
    unfold chartsOf
    rw [ix_map hi']
    have hp : part (supE s ++ t) (32 + 2 * i) 2 = lay (u64n (ix s.Charts (i : Int))) 2 := by
      unfold part
      rw [← List.drop_drop, d32, hR]
      exact flat_field (fun i => lay_len _ _) hi' t
    have := hI i hi'
    unfold inB at this
    exact val _ 2 _ hp (by omega) (by omega) (by omega)
  unfold supOf
  rw [i0, i8, i12, i16, i20, i24, i28, i30, ik]
def noU : S_api_Super := ⟨0, ⟨⟨0, 0, 0⟩, 0, 0, 0⟩, 0, []⟩
def GetU (b : List Int) : Prop := Is b ∧ ix b 4 = 7 ∧ ix b 5 ≤ 8 ∧ SupOk (supOf (b.drop 8) (ix b 5).toNat) ∧ ∀ y ∈ (b.drop 8).drop (32 + 2 * (ix b 5).toNat), y = 0
instance (b : List Int) : Decidable (GetU b) := inferInstanceAs (Decidable (_ ∧ _))
theorem superGet_eq {fu : Nat} {b : List Int} (hb : Bytes b) (hl : b.length ≤ 9000000000000000000) (hf : 100 < fu) : super_Get.f fu b = some (if GetU b then (supOf (b.drop 8) (ix b 5).toNat, true) else (noU, false)) := by
  unfold super_Get.f
  rw [open_eq hb hl hf]
  by_cases hi : Is b
  · have h8 := is_body hi
    obtain ⟨b4, b5⟩ := is_tag hb hi
    rw [if_pos hi]
    simp only [Option.bind_some, Bool.not_true, Bool.false_eq_true, if_false]
    by_cases h4 : ix b 4 = 7
    · by_cases h5 : ix b 5 ≤ 8
      · have h5' : ¬ ix b 5 > 8 := by omega
        obtain ⟨t, ht⟩ : ∃ t : Nat, ix b 5 = (t : Int) := ⟨(ix b 5).toNat, by omega⟩
        have hbd := hb.drop 8
        obtain ⟨body, hbody⟩ : ∃ body, body = b.drop 8 := ⟨_, rfl⟩
        rw [← hbody] at h8 hbd
        have n0 : super_reader_next.f fu ⟨body⟩ 8 = some (intAt body 0 8, ⟨body.drop 8⟩) := next_eq (i := 0) (n := 8) hbd (by omega) (by decide) hf
        have n8 : super_reader_next.f fu ⟨body.drop 8⟩ 4 = some (intAt body 8 4, ⟨body.drop 12⟩) := next_eq (i := 8) (n := 4) hbd (by omega) (by decide) hf
        have n12 : super_reader_next.f fu ⟨body.drop 12⟩ 4 = some (intAt body 12 4, ⟨body.drop 16⟩) := next_eq (i := 12) (n := 4) hbd (by omega) (by decide) hf
        have n16 : super_reader_next.f fu ⟨body.drop 16⟩ 4 = some (intAt body 16 4, ⟨body.drop 20⟩) := next_eq (i := 16) (n := 4) hbd (by omega) (by decide) hf
        have n20 : super_reader_next.f fu ⟨body.drop 20⟩ 4 = some (intAt body 20 4, ⟨body.drop 24⟩) := next_eq (i := 20) (n := 4) hbd (by omega) (by decide) hf
        have n24 : super_reader_next.f fu ⟨body.drop 24⟩ 4 = some (intAt body 24 4, ⟨body.drop 28⟩) := next_eq (i := 24) (n := 4) hbd (by omega) (by decide) hf
        have n28 : super_reader_next.f fu ⟨body.drop 28⟩ 2 = some (intAt body 28 2, ⟨body.drop 30⟩) := next_eq (i := 28) (n := 2) hbd (by omega) (by decide) hf
        have n30 : super_reader_next.f fu ⟨body.drop 30⟩ 2 = some (intAt body 30 2, ⟨body.drop 32⟩) := next_eq (i := 30) (n := 2) hbd (by omega) (by decide) hf
        have hloop : loopM (super_Get.s0 fu (ix b 4, ix b 5, body, true)) fu (0, [], body.drop 32) = some (chartsOf body t, body.drop (32 + 2 * t)) := by
          refine loopM_run (S := fun j => ((j : Int), chartsOf body j, body.drop (32 + 2 * j))) t (by simp [chartsOf]) ?_ ?_ (by omega)
          · intro j hj
            unfold super_Get.s0
            have h1 : (j : Int) < ix b 5 := by omega
            have w3 : IntKind.i64.wrap ((j : Int) + 1) = ((j + 1 : Nat) : Int) := by rw [w64 (by omega) (by omega)]; omega
            have hn : super_reader_next.f fu ⟨body.drop (32 + 2 * j)⟩ 2 = some (intAt body (32 + 2 * j) 2, ⟨body.drop (32 + 2 * j + 2)⟩) := next_eq (n := 2) hbd (by omega) (by decide) hf
            have hlim : (chartsOf body j).length + ([intAt body (32 + 2 * j) 2] : List Int).length ≤ LIM := lim_of' (by simp [chartsOf]; omega)
            simp only [h1, decide_true, if_true, w3, hn, Option.bind_some, hlim]
            simp [chartsOf, List.range_succ, Nat.mul_add, Nat.add_assoc]
          · unfold super_Get.s0
            simp [ht]
        have hrl : (body.drop (32 + 2 * t)).length = 56 - (32 + 2 * t) := by rw [List.length_drop, h8]
        have hn := noughts_eq (fu := fu) (b := body.drop (32 + 2 * t)) (i := 0) (n := 56 - (32 + 2 * t)) (by omega) (by omega) (by omega)
        have e8 : ((body.drop (32 + 2 * t)).drop 0).take (56 - (32 + 2 * t)) = body.drop (32 + 2 * t) := by rw [List.drop_zero]; exact List.take_of_length_le (by omega)
        rw [e8, ← hrl] at hn
        have hn' := hn
        rw [show ((0 : Nat) : Int) = 0 from rfl] at hn'
        have hN : (⟨intAt body 0 8, ⟨⟨intAt body 8 4, intAt body 12 4, intAt body 16 4⟩, intAt body 28 2, intAt body 20 4, intAt body 24 4⟩, intAt body 30 2, chartsOf body t⟩ : S_api_Super) = supOf body t := rfl
        rw [← hbody]
        simp only [h4, h5', decide_true, decide_false, Bool.not_true, Bool.false_eq_true, if_false] at hloop ⊢
        simp only [n0, n8, n12, n16, n20, n24, n28, n30, Option.bind_some, hloop]
        simp only [hn', hN, superRight_eq hf, Option.bind_some]
        have hgi : GetU b ↔ (SupOk (supOf body t) ∧ ∀ y ∈ body.drop (32 + 2 * t), y = 0) := by
          unfold GetU
          rw [ht, ← hbody, Int.toNat_natCast]
          exact ⟨fun x => x.2.2.2, fun x => ⟨hi, h4, by omega, x⟩⟩
        rw [ht, Int.toNat_natCast]
        by_cases hr : SupOk (supOf body t)
        · by_cases hz : ∀ y ∈ body.drop (32 + 2 * t), y = 0
          · rw [if_pos (hgi.2 ⟨hr, hz⟩), decide_eq_true hr, decide_eq_true hz]
            rfl
          · rw [if_neg (fun x => hz (hgi.1 x).2), decide_eq_true hr, decide_eq_false hz]
            rfl
        · rw [if_neg (fun x => hr (hgi.1 x).1), decide_eq_false hr]
          rfl
      · have h5' : ix b 5 > 8 := by omega
        have hg : ¬ GetU b := fun x => h5 x.2.2.1
        rw [if_neg hg, decide_eq_true h4, decide_eq_true h5']
        rfl
    · have hg : ¬ GetU b := fun x => h4 x.2.1
      rw [if_neg hg, decide_eq_false h4]
      rfl
  · have hg : ¬ GetU b := fun x => hi x.1
    rw [if_neg hi, if_neg hg]
    rfl
theorem sup_get {s : S_api_Super} (h : SupOk s) : GetU (sealed (summed 7 (s.Charts.length : Int) (supE s))) ∧ supOf ((sealed (summed 7 (s.Charts.length : Int) (supE s))).drop 8) (ix (sealed (summed 7 (s.Charts.length : Int) (supE s))) 5).toNat = s := by
  have k1 := h.len
  have hl := supE_len s
  obtain ⟨p4, p5, p8⟩ := sealed_parts 7 (s.Charts.length : Int) (supE s)
  have hno := supOf_E h (List.replicate (56 - (supE s).length) 0)
  refine ⟨⟨is_sealed (by decide) (by omega), p4, by rw [p5]; omega, ?_, ?_⟩, by rw [p8, p5, Int.toNat_natCast, hno]⟩
  · rw [p8, p5, Int.toNat_natCast, hno]
    exact h
  · rw [p8, p5, Int.toNat_natCast, ← hl, List.drop_left' rfl]
    intro y hy
    exact List.eq_of_mem_replicate hy
theorem sup_sealed {s : S_api_Super} (h : SupOk s) : Bytes (sealed (summed 7 (s.Charts.length : Int) (supE s))) ∧ (sealed (summed 7 (s.Charts.length : Int) (supE s))).length = 64 := by
  have k1 := h.len
  have hl := supE_len s
  exact ⟨sealed_bytes (summed_bytes (by omega) (by omega) (supE_bytes s)), sealed_len (summed_len (by omega))⟩
theorem same_sup {a b : S_api_Super} : (a = b) ↔ a.Epoch = b.Epoch ∧ a.Tickets = b.Tickets ∧ a.Dir = b.Dir ∧ a.Charts = b.Charts := by
  cases a
  cases b
  simp
theorem same_tick {a b : S_api_Tickets} : (a = b) ↔ a.Geometry = b.Geometry ∧ a.Top = b.Top ∧ a.High = b.High ∧ a.Free = b.Free := by
  cases a
  cases b
  simp
theorem rsuperSame_eq {fu : Nat} {a b : S_api_Super} (hl : a.Charts.length ≤ 9000000000000000000) (hf : a.Charts.length < fu) : rickyardref13_Same.f fu a b = some (decide (a = b)) := by
  unfold rickyardref13_Same.f
  rw [ints2_eq hl hf]
  have hab : a = b ↔ a.Epoch = b.Epoch ∧ (a.Tickets.Geometry = b.Tickets.Geometry ∧ a.Tickets.Top = b.Tickets.Top ∧ a.Tickets.High = b.Tickets.High ∧ a.Tickets.Free = b.Tickets.Free) ∧ a.Dir = b.Dir ∧ a.Charts = b.Charts := by
    rw [same_sup, same_tick]
  by_cases h1 : a.Epoch = b.Epoch
  · by_cases h2 : a.Tickets.Geometry = b.Tickets.Geometry
    · by_cases h3 : a.Tickets.High = b.Tickets.High
      · by_cases h4 : a.Tickets.Free = b.Tickets.Free
        · by_cases h5 : a.Tickets.Top = b.Tickets.Top
          · by_cases h6 : a.Dir = b.Dir
            · by_cases h7 : a.Charts = b.Charts
              · rw [decide_eq_true h1, decide_eq_true h2, decide_eq_true h3, decide_eq_true h4, decide_eq_true h5, decide_eq_true h6, decide_eq_true h7, decide_eq_true (hab.2 ⟨h1, ⟨h2, h5, h3, h4⟩, h6, h7⟩)]
                rfl
              · rw [decide_eq_true h1, decide_eq_true h2, decide_eq_true h3, decide_eq_true h4, decide_eq_true h5, decide_eq_true h6, decide_eq_false h7, decide_eq_false (fun x => h7 (hab.1 x).2.2.2)]
                rfl
            · rw [decide_eq_true h1, decide_eq_true h2, decide_eq_true h3, decide_eq_true h4, decide_eq_true h5, decide_eq_false h6, decide_eq_false (fun x => h6 (hab.1 x).2.2.1)]
              rfl
          · rw [decide_eq_true h1, decide_eq_true h2, decide_eq_true h3, decide_eq_true h4, decide_eq_false h5, decide_eq_false (fun x => h5 (hab.1 x).2.1.2.1)]
            rfl
        · rw [decide_eq_true h1, decide_eq_true h2, decide_eq_true h3, decide_eq_false h4, decide_eq_false (fun x => h4 (hab.1 x).2.1.2.2.2)]
          rfl
      · rw [decide_eq_true h1, decide_eq_true h2, decide_eq_false h3, decide_eq_false (fun x => h3 (hab.1 x).2.1.2.2.1)]
        rfl
    · rw [decide_eq_true h1, decide_eq_false h2, decide_eq_false (fun x => h2 (hab.1 x).2.1.1)]
      rfl
  · rw [decide_eq_false h1, decide_eq_false (fun x => h1 (hab.1 x).1)]
    rfl
end Go.Proofs.Ytklhbaghbmndeaa.Pure
namespace Go.Proofs.Ytklhbaghbmndeaa
open Go Go.Xw
end Go.Proofs.Ytklhbaghbmndeaa
namespace Go.Proofs.Ytklhbaghbmndeaa.Pure
open Go Go.Xw
def getS (b : List Int) : S_api_Super × Bool := if GetU b then (supOf (b.drop 8) (ix b 5).toNat, true) else (noU, false)
def readS (d : Dev) (k : Int) : S_api_Super × Bool := if (0 ≤ k ∧ k < 2) ∧ inL d k ∧ d.off = false then getS (octs (lineC d k)) else (noU, false)
def pick2 (a b : S_api_Super × Bool) : S_api_Super × Int × Bool := if b.2 = true ∧ (a.2 = false ∨ b.1.Epoch > a.1.Epoch) then (b.1, 1, true) else (a.1, 0, a.2)
theorem pick2_f {a b : S_api_Super × Bool} (h : b.2 = false) : pick2 a b = (a.1, 0, a.2) := if_neg (fun q => by rw [h] at q; cases q.1)
theorem pick2_t {a b : S_api_Super × Bool} (h : b.2 = true) (h2 : a.2 = false ∨ b.1.Epoch > a.1.Epoch) : pick2 a b = (b.1, 1, true) := if_pos ⟨h, h2⟩
theorem pick2_n {a b : S_api_Super × Bool} (h1 : a.2 = true) (h2 : ¬ b.1.Epoch > a.1.Epoch) : pick2 a b = (a.1, 0, a.2) := if_neg (fun q => by
  rcases q.2 with q | q
  · rw [h1] at q
    cases q
  · exact h2 q)
theorem getS_no {b : List Int} (h : (getS b).2 = false) : (getS b).1 = noU := by
  unfold getS at h ⊢
  split
  · rename_i q
    rw [if_pos q] at h
    cases h
  · rfl
theorem readS_no {d : Dev} {k : Int} (h : (readS d k).2 = false) : (readS d k).1 = noU := by
  unfold readS at h ⊢
  split
  · rename_i q
    rw [if_pos q] at h
    exact getS_no h
  · rfl
theorem root_read_eq {fu n : Nat} {B k : Int} {d : Dev} (h : DevOk n B d) (hn : n ≤ 100000) (hf : 2000 < fu) : root_Read.f fu d k = some (readS d k) := by
  unfold root_Read.f
  by_cases hk : 0 ≤ k ∧ k < 2
  · rw [decide_eq_false (show ¬ k < 0 by omega), decide_eq_false (show ¬ k ≥ 2 by omega), if_neg (by decide), read_dev h hn hf]
    simp only [Option.bind_some]
    unfold readD
    by_cases hi : inL d k
    · cases ho : d.off
      · have e1 : readS d k = getS (octs (lineC d k)) := if_pos ⟨hk, hi, ho⟩
        rw [if_pos hi, e1]
        simp only [Bool.false_eq_true, if_false, decide_true, Bool.not_true]
        rw [superGet_eq (octsB _) (by rw [octs_len]; simp [lineC]) (by omega)]
        rfl
      · have e1 : readS d k = (noU, false) := if_neg (fun q => by have := q.2.2; rw [ho] at this; cases this)
        rw [if_pos hi, e1]
        rfl
    · have e1 : readS d k = (noU, false) := if_neg (fun q => hi q.2.1)
      rw [if_neg hi, e1]
      rfl
  · have e1 : readS d k = (noU, false) := if_neg (fun q => hk q.1)
    have : (if (decide (k < 0)) = true then true else (decide (k ≥ 2))) = true := by
      by_cases h1 : k < 0
      · rw [decide_eq_true h1, if_pos rfl]
      · rw [decide_eq_false h1, if_neg (by decide), decide_eq_true (by omega)]
    rw [if_pos this, e1]
    rfl
theorem root_pick_eq {fu n : Nat} {B : Int} {d : Dev} (h : DevOk n B d) (hn : n ≤ 100000) (hf : 2000 < fu) : root_Pick.f fu d = some (pick2 (readS d 0) (readS d 1)) := by
  have h0 := readS_no (d := d) (k := 0)
  have h1 := readS_no (d := d) (k := 1)
  have r0 := root_read_eq (fu := fu) (k := 0) h hn hf
  have r1 := root_read_eq (fu := fu) (k := 1) h hn hf
  generalize ha : readS d 0 = a at *
  generalize hb : readS d 1 = b at *
  unfold root_Pick.f
  have st : ∀ (e : Int × Bool × S_api_Super), loopM (root_Pick.s0 fu d) fu (0, false, 0, (0 : Int), (⟨(⟨(0 : Int), (0 : Int), (0 : Int)⟩ : S_api_Geometry), (0 : Int), (0 : Int), (0 : Int)⟩ : S_api_Tickets), (0 : Int), []) = some (e.1, e.2.1, e.2.2.Epoch, e.2.2.Tickets, e.2.2.Dir, e.2.2.Charts) → ((loopM (root_Pick.s0 fu d) fu (0, false, 0, (0 : Int), (⟨(⟨(0 : Int), (0 : Int), (0 : Int)⟩ : S_api_Geometry), (0 : Int), (0 : Int), (0 : Int)⟩ : S_api_Tickets), (0 : Int), [])).bind fun e12 => some ((⟨e12.2.2.1, e12.2.2.2.1, e12.2.2.2.2.1, e12.2.2.2.2.2⟩ : S_api_Super), e12.1, e12.2.1)) = some (e.2.2, e.1, e.2.1) := by
    intro e he
    rw [he]
    rfl
  have key : ∃ e : Int × Bool × S_api_Super, loopM (root_Pick.s0 fu d) fu (0, false, 0, (0 : Int), (⟨(⟨(0 : Int), (0 : Int), (0 : Int)⟩ : S_api_Geometry), (0 : Int), (0 : Int), (0 : Int)⟩ : S_api_Tickets), (0 : Int), []) = some (e.1, e.2.1, e.2.2.Epoch, e.2.2.Tickets, e.2.2.Dir, e.2.2.Charts) ∧ (e.2.2, e.1, e.2.1) = pick2 a b := by
    obtain ⟨k, rfl⟩ : ∃ k, fu = k + 1 + 1 + 1 := ⟨fu - 3, by omega⟩
    have hs0 : root_Pick.s0 (k + 1 + 1 + 1) d (0, false, 0, (0 : Int), (⟨(⟨(0 : Int), (0 : Int), (0 : Int)⟩ : S_api_Geometry), (0 : Int), (0 : Int), (0 : Int)⟩ : S_api_Tickets), (0 : Int), []) = some (.inr (0, a.2, 1, a.1.Epoch, a.1.Tickets, a.1.Dir, a.1.Charts)) := by
      unfold root_Pick.s0
      simp only [r0, Option.bind_some]
      cases h2 : a.2
      · rw [h0 h2]
        rfl
      · rfl
    have hs1 : root_Pick.s0 (k + 1 + 1 + 1) d (0, a.2, 1, a.1.Epoch, a.1.Tickets, a.1.Dir, a.1.Charts) = some (.inr ((pick2 a b).2.1, (pick2 a b).2.2, 2, (pick2 a b).1.Epoch, (pick2 a b).1.Tickets, (pick2 a b).1.Dir, (pick2 a b).1.Charts)) := by
      cases hb2 : b.2
      · rw [pick2_f hb2]
        unfold root_Pick.s0
        simp only [r1, Option.bind_some, hb2]
        rfl
      · cases ha2 : a.2
        · rw [pick2_t hb2 (.inl ha2)]
          unfold root_Pick.s0
          simp only [r1, Option.bind_some, hb2]
          rfl
        · by_cases hE : b.1.Epoch > a.1.Epoch
          · rw [pick2_t hb2 (.inr hE)]
            unfold root_Pick.s0
            simp only [r1, Option.bind_some, hb2, decide_eq_true hE]
            rfl
          · rw [pick2_n ha2 hE]
            unfold root_Pick.s0
            simp only [r1, Option.bind_some, hb2, decide_eq_false hE, ha2]
            rfl
    have hs2 : ∀ z, root_Pick.s0 (k + 1 + 1 + 1) d ((pick2 a b).2.1, (pick2 a b).2.2, 2, z) = some (.inl ((pick2 a b).2.1, (pick2 a b).2.2, z)) := by
      intro z
      unfold root_Pick.s0
      rfl
    refine ⟨((pick2 a b).2.1, (pick2 a b).2.2, (pick2 a b).1), ?_, rfl⟩
    unfold loopM
    rw [hs0]
    simp only []
    unfold loopM
    rw [hs1]
    simp only []
    unfold loopM
    rw [hs2]
  obtain ⟨e, he, hp⟩ := key
  rw [st e he, hp]
def atS (l : List Int) (k : Int) : S_api_Super × Bool := if (0 ≤ k ∧ k < 2) ∧ 64 * k + 64 ≤ (l.length : Int) then getS (cut l (64 * k) (64 * k + 64)) else (noU, false)
theorem lineC_stored {d : Dev} {k : Nat} (h : 8 * k + 8 ≤ d.cells.length) : cut (storedD d) ((8 * k : Nat) : Int) ((8 * k + 8 : Nat) : Int) = lineC d (k : Int) := by
  have hl : (storedD d).length = d.cells.length := by simp [storedD]
  apply List.ext_getElem
  · rw [cut_len' (by omega)]
    simp [lineC]
  · intro i h1 h2
    have hi : i < 8 := by simpa [lineC] using h2
    rw [cut_get h1 (by omega)]
    simp only [storedD, lineC, List.getElem_map, List.getElem_range]
    rw [show 8 * (k : Int) + (i : Int) = ((8 * k + i : Nat) : Int) from by omega, ix_nat (by omega)]
theorem readS_of {d : Dev} {l : List Int} {k : Int} (ho : d.off = false) (hl : l.length = 8 * d.cells.length) (hd : d.cells.length % 8 = 0) (hs : octs (storedD d) = l) : readS d k = atS l k := by
  unfold readS atS
  by_cases h0 : 0 ≤ k ∧ k < 2
  · by_cases hi : inL d k
    · have hin := hi
      unfold inL at hin
      rw [if_pos ⟨h0, hi, ho⟩, if_pos ⟨h0, by omega⟩]
      obtain ⟨q, rfl⟩ : ∃ q : Nat, k = (q : Int) := ⟨k.toNat, by omega⟩
      have := octs_cut (storedD d) (8 * q) (8 * q + 8)
      rw [lineC_stored (by omega), hs] at this
      rw [← this]
      congr 2 <;> omega
    · rw [if_neg (fun q => hi q.2.1), if_neg (fun q => hi ⟨h0.1, by omega⟩)]
  · rw [if_neg (fun q => h0 q.1), if_neg (fun q => h0 q.1)]
end Go.Proofs.Ytklhbaghbmndeaa.Pure
namespace Go.Proofs.Ytklhbaghbmndeaa
open Go Go.Xw
end Go.Proofs.Ytklhbaghbmndeaa
namespace Go.Proofs.Ytklhbaghbmndeaa.Pure
open Go Go.Xw
def blockS (s : S_api_Super) : List Int := sealed (summed 7 (s.Charts.length : Int) (supE s))
theorem blockS_words {s : S_api_Super} (h : SupOk s) : Bytes (blockS s) ∧ (blockS s).length = 64 := sup_sealed h
theorem getS_block {s : S_api_Super} (h : SupOk s) : getS (blockS s) = (s, true) := by
  obtain ⟨g1, g2⟩ := sup_get h
  unfold getS blockS
  rw [if_pos g1, g2]
end Go.Proofs.Ytklhbaghbmndeaa.Pure
namespace Go.Proofs.Ytklhbaghbmndeaa
open Go Go.Xw
end Go.Proofs.Ytklhbaghbmndeaa
namespace Go.Proofs.Ytklhbaghbmndeaa.Pure
open Go Go.Xw
end Go.Proofs.Ytklhbaghbmndeaa.Pure
namespace Go.Proofs.Ytklhbaghbmndeaa
open Go Go.Xw
end Go.Proofs.Ytklhbaghbmndeaa
namespace Go.Proofs.Ytklhbaghbmndeaa.Pure
open Go Go.Xw
def Since (d : Dev) (s : Int) : Prop := d.plan.list.length ≠ 0 → d.plan.at_ = s % (d.plan.list.length : Int)
structure RefOk (n : Nat) (B : Int) (d : Dev) (b : Int) : Prop where
  ok : DevOk n B d
  b0 : 0 ≤ b
  b1 : b ≤ d.steps
  si : Since d (d.steps - b)
end Go.Proofs.Ytklhbaghbmndeaa.Pure
namespace Go.Proofs.Ytklhbaghbmndeaa
open Go Go.Xw
end Go.Proofs.Ytklhbaghbmndeaa
namespace Go.Proofs.Ytklhbaghbmndeaa.Pure
open Go Go.Xw
end Go.Proofs.Ytklhbaghbmndeaa.Pure
namespace Go.Proofs.Ytklhbaghbmndeaa
open Go Go.Xw
end Go.Proofs.Ytklhbaghbmndeaa
namespace Go.Proofs.Ytklhbaghbmndeaa.Pure
open Go Go.Xw
def SmallP (acts : List S_rickyardlaw15_Act) (m : Nat) : Prop := acts.length ≤ m ∧ ∀ a ∈ acts, a.B.length ≤ 200 ∧ a.A.L.length ≤ 40
instance (acts : List S_rickyardlaw15_Act) (m : Nat) : Decidable (SmallP acts m) := inferInstanceAs (Decidable (_ ∧ _))
end Go.Proofs.Ytklhbaghbmndeaa.Pure
namespace Go.Proofs.Ytklhbaghbmndeaa
open Go Go.Xw
end Go.Proofs.Ytklhbaghbmndeaa
namespace Go.Proofs.Ytklhbaghbmndeaa.Pure
open Go Go.Xw
def bit (c : Bool) : BitVec 32 := if c then 1#32 else 0#32
def feed (x : BitVec 32) : List Bool → BitVec 32
  | [] => x
  | c :: cs => feed (stp (x ^^^ bit c)) cs
theorem feed_append (x : BitVec 32) : ∀ (a b : List Bool), feed x (a ++ b) = feed (feed x a) b := by
  intro a
  induction a generalizing x with
  | nil => intro b; rfl
  | cons c a ih => intro b; exact ih _ b
theorem bit_xor (a b : Bool) : bit (a ^^ b) = bit a ^^^ bit b := by cases a <;> cases b <;> decide
theorem feed_xor : ∀ (a b : List Bool) (x y : BitVec 32), a.length = b.length → feed (x ^^^ y) (List.zipWith (fun p q => p ^^ q) a b) = feed x a ^^^ feed y b
  | [], [], x, y, _ => rfl
  | [], _ :: _, x, y, h => by simp at h
  | _ :: _, [], x, y, h => by simp at h
  | p :: a, q :: b, x, y, h => by
    simp only [List.zipWith_cons_cons, feed]
    rw [bit_xor, xor4, stp_xor]
    exact feed_xor a b _ _ (by simpa using h)
theorem stp_zero : stp 0#32 = 0#32 := by decide
theorem stps_zero : ∀ n, stps n 0#32 = 0#32
  | 0 => rfl
  | n + 1 => by
    unfold stps
    rw [stp_zero]
    exact stps_zero n
theorem feed_noughts : ∀ (n : Nat) (x : BitVec 32), feed x (List.replicate n false) = stps n x
  | 0, x => rfl
  | n + 1, x => by
    rw [List.replicate_succ]
    simp only [feed, bit, Bool.false_eq_true, if_false, BitVec.xor_zero]
    exact feed_noughts n _
theorem feed_low : ∀ (n w : Nat) (x : BitVec 32), n ≤ 32 → w < 2 ^ n → feed x ((List.range n).map fun i => w.testBit i) = stps n (x ^^^ BitVec.ofNat 32 w)
  | 0, w, x, _, hw => by
    have : w = 0 := by omega
    subst this
    simp [feed, stps]
  | n + 1, w, x, hn, hw => by
    rw [List.range_succ_eq_map, List.map_cons, List.map_map]
    have hf : ((fun i => w.testBit i) ∘ Nat.succ) = fun i => (w / 2).testBit i := by
      funext i
      simp [Function.comp, Nat.testBit_succ]
    rw [hf]
    show feed (stp (x ^^^ bit (w.testBit 0))) ((List.range n).map fun i => (w / 2).testBit i) = stps n (stp (x ^^^ BitVec.ofNat 32 w))
    rw [feed_low n (w / 2) _ (by omega) (by rw [Nat.pow_succ] at hw; omega)]
    congr 1
    have e : BitVec.ofNat 32 w = bit (w.testBit 0) ^^^ (BitVec.ofNat 32 w &&& ~~~ 1#32) := by
      apply BitVec.eq_of_getLsbD_eq
      intro i hi
      rw [BitVec.getLsbD_xor, BitVec.getLsbD_and, BitVec.getLsbD_not, BitVec.getLsbD_ofNat]
      cases i with
      | zero =>
        unfold bit
        cases w.testBit 0 <;> simp
      | succ i =>
        have h1 : (bit (w.testBit 0)).getLsbD (i + 1) = false := by
          unfold bit
          cases w.testBit 0 <;> simp [BitVec.getLsbD_one]
        have h2 : (1#32).getLsbD (i + 1) = false := by simp [BitVec.getLsbD_one]
        rw [h1, h2]
        simp [hi]
    have hz : (BitVec.ofNat 32 w &&& ~~~ 1#32).getLsbD 0 = false := by
      rw [BitVec.getLsbD_and, BitVec.getLsbD_not]
      simp
    have key : stp (x ^^^ BitVec.ofNat 32 w) = stp (x ^^^ bit (w.testBit 0)) ^^^ ((BitVec.ofNat 32 w &&& ~~~ 1#32) >>> 1) := by
      conv => lhs; rw [e]
      rw [← BitVec.xor_assoc, stp_xor (x ^^^ bit (w.testBit 0)), stp_even hz]
    rw [key]
    congr 1
    apply BitVec.eq_of_getLsbD_eq
    intro i hi
    rw [BitVec.getLsbD_ushiftRight, BitVec.getLsbD_and, BitVec.getLsbD_not, BitVec.getLsbD_ofNat, BitVec.getLsbD_ofNat]
    have h2 : (1#32).getLsbD (1 + i) = false := by
      rw [Nat.add_comm]
      simp [BitVec.getLsbD_one]
    rw [h2, Nat.add_comm 1 i, Nat.testBit_succ]
    by_cases h : i + 1 < 32
    · simp [h, hi]
    · have : (w / 2).testBit i = false := by
        apply Nat.testBit_lt_two_pow
        have h31 : n ≤ i := by omega
        exact Nat.lt_of_lt_of_le (by rw [Nat.pow_succ] at hw; omega) (Nat.pow_le_pow_right (by decide) h31)
      simp [this]
def bitAt (l : List Int) (p : Nat) : Bool := (ix l ((p / 8 : Nat) : Int)).toNat.testBit (p % 8)
def bitsOf (l : List Int) : List Bool := (List.range (8 * l.length)).map (bitAt l)
theorem bitsOf_cons (c : Int) (l : List Int) : bitsOf (c :: l) = ((List.range 8).map fun i => c.toNat.testBit i) ++ bitsOf l := by
  unfold bitsOf
  rw [List.length_cons, show 8 * (l.length + 1) = 8 + 8 * l.length from by omega, List.range_add, List.map_append, List.map_map]
  congr 1
  apply List.map_congr_left
  intro i hi
  unfold bitAt
  simp only [Function.comp]
  rw [show (8 + i) / 8 = i / 8 + 1 from by omega, show (8 + i) % 8 = i % 8 from by omega]
  rfl
theorem regs_feed : ∀ (l : List Int) (x : BitVec 32), Bytes l → regs x l = feed x (bitsOf l)
  | [], x, _ => rfl
  | c :: l, x, h => by
    have hc := h c (by simp)
    rw [bitsOf_cons, feed_append, feed_low 8 c.toNat x (by decide) (by show c.toNat < 256; omega)]
    exact regs_feed l _ fun y hy => h y (by simp [hy])
theorem trace {j w m : Nat} (hw : w < 2 ^ 32) (h0 : w ≠ 0) : feed 0#32 (List.replicate j false ++ (((List.range 32).map fun i => w.testBit i) ++ List.replicate m false)) ≠ 0#32 := by
  rw [feed_append, feed_append, feed_noughts j, stps_zero, feed_low 32 w _ (Nat.le_refl _) hw, feed_noughts, BitVec.zero_xor]
  intro h
  have h1 := stps_inj0 32 (stps_inj0 m h)
  have h2 := congrArg BitVec.toNat h1
  rw [BitVec.toNat_ofNat, Nat.mod_eq_of_lt hw] at h2
  exact h0 h2
theorem byte_ext {c d : Nat} (hc : c < 256) (hd : d < 256) (h : ∀ j, j < 8 → c.testBit j = d.testBit j) : c = d := by
  apply Nat.eq_of_testBit_eq
  intro j
  by_cases hj : j < 8
  · exact h j hj
  · have h8 : 256 ≤ 2 ^ j := by
      have := Nat.pow_le_pow_right (n := 2) (by decide) (by omega : 8 ≤ j)
      exact this
    rw [Nat.testBit_lt_two_pow (by omega), Nat.testBit_lt_two_pow (by omega)]
theorem ext_bits {a b : List Int} (ha : Bytes a) (hb : Bytes b) (hl : a.length = b.length) (h : ∀ p, p < 8 * a.length → bitAt a p = bitAt b p) : a = b := by
  apply List.ext_getElem hl
  intro i h1 h2
  have ca := ha _ (List.getElem_mem h1)
  have cb := hb _ (List.getElem_mem h2)
  have : a[i].toNat = b[i].toNat := by
    apply byte_ext (by omega) (by omega)
    intro j hj
    have := h (8 * i + j) (by omega)
    unfold bitAt at this
    rw [show (8 * i + j) / 8 = i from by omega, show (8 * i + j) % 8 = j from by omega, ix_nat h1, ix_nat h2] at this
    exact this
  omega
theorem bitAt_take {l : List Int} {n p : Nat} (h : p < 8 * n) (hn : n ≤ l.length) : bitAt (l.take n) p = bitAt l p := by
  unfold bitAt
  rw [ix_nat (by rw [List.length_take]; omega), ix_nat (by omega), List.getElem_take]
theorem bitAt_drop {l : List Int} {n p : Nat} (h : p < 8 * (l.length - n)) : bitAt (l.drop n) p = bitAt l (8 * n + p) := by
  unfold bitAt
  rw [show (8 * n + p) / 8 = n + p / 8 from by omega, show (8 * n + p) % 8 = p % 8 from by omega, ix_nat (by rw [List.length_drop]; omega), ix_nat (by omega), List.getElem_drop]
def pat (j w p : Nat) : Bool := decide (j ≤ p ∧ p < j + 32) && w.testBit (p - j)
theorem pat_list {j w m : Nat} : (List.range (j + (32 + m))).map (pat j w) = List.replicate j false ++ (((List.range 32).map fun i => w.testBit i) ++ List.replicate m false) := by
  apply List.ext_getElem
  · simp
  · intro i h1 h2
    simp only [List.length_map, List.length_range] at h1
    rw [List.getElem_map, List.getElem_range, List.getElem_append]
    split
    · rename_i h
      simp only [List.length_replicate] at h
      rw [List.getElem_replicate]
      unfold pat
      have : ¬ (j ≤ i ∧ i < j + 32) := by omega
      simp [this]
    · rename_i h
      simp only [List.length_replicate] at h
      rw [List.getElem_append]
      split
      · rename_i h3
        simp only [List.length_map, List.length_range, List.length_replicate] at h3
        rw [List.getElem_map, List.getElem_range]
        unfold pat
        have : j ≤ i ∧ i < j + 32 := by omega
        simp only [List.length_replicate, this, and_self, decide_true, Bool.true_and]
      · rename_i h3
        simp only [List.length_map, List.length_range, List.length_replicate] at h3
        rw [List.getElem_replicate]
        unfold pat
        have : ¬ (j ≤ i ∧ i < j + 32) := by omega
        simp [this]
theorem turned {b e : List Int} {k w : Nat} (hb : Bytes b) (he : Bytes e) (hbl : b.length = 64) (hel : e.length = 64) (hw : w < 2 ^ 32) (h0 : w ≠ 0) (hk : k = 0 ∨ 32 ≤ k ∧ k + 32 ≤ 512) (hbit : ∀ p, p < 512 → bitAt e p = (bitAt b p ^^ pat k w p)) (hi : Is b) : ¬ Is e := by
  intro hi2
  have i1 := ((is_iff hb hbl).1 hi.2.2).2
  have i2 := ((is_iff he hel).1 hi2.2.2).2
  have db : (b.drop 4).length = 60 := by rw [List.length_drop, hbl]
  have de : (e.drop 4).length = 60 := by rw [List.length_drop, hel]
  have tb : (b.take 4).length = 4 := by rw [List.length_take, hbl]; rfl
  have te : (e.take 4).length = 4 := by rw [List.length_take, hel]; rfl
  rcases hk with rfl | ⟨hk1, hk2⟩
  · have hd : e.drop 4 = b.drop 4 := by
      apply ext_bits (he.drop 4) (hb.drop 4) (by rw [de, db])
      intro p hp
      rw [de] at hp
      rw [bitAt_drop (by rw [hel]; omega), bitAt_drop (by rw [hbl]; omega), hbit _ (by omega)]
      have : pat 0 w (8 * 4 + p) = false := by
        unfold pat
        simp
        omega
      rw [this]
      simp
    have hn : num (e.take 4) = num (b.take 4) := by rw [i2, hd, ← i1]
    have ht : e.take 4 = b.take 4 := by
      have l1 := lay_num (he.take 4)
      have l2 := lay_num (hb.take 4)
      rw [te] at l1
      rw [tb] at l2
      rw [← l1, ← l2, hn]
    have heq : e = b := by rw [← List.take_append_drop 4 e, ← List.take_append_drop 4 b, ht, hd]
    apply h0
    apply Nat.eq_of_testBit_eq
    intro p
    rw [Nat.zero_testBit]
    by_cases hp : p < 32
    · have := hbit p (by omega)
      rw [heq] at this
      have hpat : pat 0 w p = w.testBit p := by
        unfold pat
        simp
        intro _
        omega
      rw [hpat] at this
      cases hx : w.testBit p
      · rfl
      · rw [hx] at this
        cases hy : bitAt b p <;> rw [hy] at this <;> simp at this
    · exact Nat.testBit_lt_two_pow (Nat.lt_of_lt_of_le hw (Nat.pow_le_pow_right (by decide) (by omega)))
  · obtain ⟨j, rfl⟩ : ∃ j, k = 32 + j := ⟨k - 32, by omega⟩
    have ht : e.take 4 = b.take 4 := by
      apply ext_bits (he.take 4) (hb.take 4) (by rw [te, tb])
      intro p hp
      rw [te] at hp
      rw [bitAt_take (by omega) (by omega), bitAt_take (by omega) (by omega), hbit _ (by omega)]
      have : pat (32 + j) w p = false := by
        unfold pat
        have : ¬ (32 + j ≤ p) := by omega
        simp [this]
      rw [this]
      simp
    have hbits : bitsOf (e.drop 4) = List.zipWith (fun p q => p ^^ q) (bitsOf (b.drop 4)) ((List.range (j + (32 + (448 - j)))).map (pat j w)) := by
      apply List.ext_getElem
      · simp [bitsOf, de, db]
        omega
      · intro p h1 h2
        simp only [bitsOf, List.length_map, List.length_range, de] at h1
        simp only [bitsOf, List.getElem_zipWith, List.getElem_map, List.getElem_range]
        rw [bitAt_drop (by rw [hel]; omega), bitAt_drop (by rw [hbl]; omega), hbit _ (by omega)]
        congr 1
        unfold pat
        rw [show 8 * 4 + p - (32 + j) = p - j from by omega]
        congr 1
        apply decide_eq_decide.2
        omega
    have hlen : (bitsOf (b.drop 4)).length = ((List.range (j + (32 + (448 - j)))).map (pat j w)).length := by
      simp [bitsOf, db]
      omega
    have hr : regs ones (e.drop 4) = regs ones (b.drop 4) ^^^ feed 0#32 ((List.range (j + (32 + (448 - j)))).map (pat j w)) := by
      rw [regs_feed _ _ (he.drop 4), regs_feed _ _ (hb.drop 4), hbits]
      have := feed_xor (bitsOf (b.drop 4)) ((List.range (j + (32 + (448 - j)))).map (pat j w)) ones 0#32 hlen
      rw [BitVec.xor_zero] at this
      exact this
    have hc : crc (e.drop 4) = crc (b.drop 4) := by
      apply BitVec.eq_of_toNat_eq
      rw [← i1, ← i2, ht]
    unfold crc at hc
    rw [hr, pat_list] at hc
    refine trace (j := j) (w := w) (m := 448 - j) hw h0 ?_
    generalize feed 0#32 _ = d at hc ⊢
    have h3 := congrArg (fun z => regs ones (b.drop 4) ^^^ (z ^^^ ones)) hc
    simp only [BitVec.xor_assoc] at h3
    rw [BitVec.xor_self, BitVec.xor_zero, BitVec.xor_zero, BitVec.xor_self, ← BitVec.xor_assoc, BitVec.xor_self, BitVec.zero_xor] at h3
    exact h3
theorem xor8 {c d : Nat} (hc : c < 256) (hd : d < 256) : bXor .u8 (c : Int) (d : Int) = ((c ^^^ d : Nat) : Int) := by
  have hx : c ^^^ d < 2 ^ 8 := Nat.xor_lt_two_pow hc hd
  unfold bXor
  show IntKind.u8.wrap (((BitVec.ofInt 8 (c : Int) ^^^ BitVec.ofInt 8 (d : Int)).toNat : Nat) : Int) = _
  rw [BitVec.ofInt_natCast, BitVec.ofInt_natCast, BitVec.toNat_xor, BitVec.toNat_ofNat, BitVec.toNat_ofNat, Nat.mod_eq_of_lt hc, Nat.mod_eq_of_lt hd]
  exact wu8 (by omega) (by omega)
def turn1 (b : List Int) (k w : Nat) : List Int := b.set k (bXor .u8 (ix b (k : Int)) (w : Int))
theorem turn1_ok {b : List Int} {k w : Nat} (hb : Bytes b) (hk : k < b.length) (hw : w < 256) : Bytes (turn1 b k w) ∧ (turn1 b k w).length = b.length ∧ turn1 (turn1 b k w) k w = b ∧ ∀ p, p < 8 * b.length → bitAt (turn1 b k w) p = (bitAt b p ^^ (decide (p / 8 = k) && w.testBit (p % 8))) := by
  have hc := ix_byte hb k hk
  obtain ⟨c, hcc⟩ : ∃ c : Nat, ix b (k : Int) = (c : Int) := ⟨(ix b (k : Int)).toNat, by omega⟩
  have hx : bXor .u8 (ix b (k : Int)) (w : Int) = ((c ^^^ w : Nat) : Int) := by
    rw [hcc]
    exact xor8 (by omega) hw
  have hlt : c ^^^ w < 2 ^ 8 := Nat.xor_lt_two_pow (by show c < 256; omega) hw
  have hg : b[k] = (c : Int) := by rw [← hcc, ix_nat hk]
  have ht : turn1 b k w = b.set k ((c ^^^ w : Nat) : Int) := by
    unfold turn1
    rw [hx]
  refine ⟨?_, by simp [turn1], ?_, ?_⟩
  · intro x hxm
    rw [ht] at hxm
    rcases List.mem_or_eq_of_mem_set hxm with h | rfl
    · exact hb x h
    · have : (2 : Nat) ^ 8 = 256 := rfl
      omega
  · rw [ht]
    unfold turn1
    have hk2 : k < (b.set k ((c ^^^ w : Nat) : Int)).length := by simpa using hk
    rw [ix_nat hk2, List.getElem_set_self, xor8 hlt hw, Nat.xor_assoc, Nat.xor_self, Nat.xor_zero, List.set_set, ← hg, List.set_getElem_self]
  · intro p hp
    rw [ht]
    unfold bitAt
    rw [ix_nat (by rw [List.length_set]; omega), ix_nat (l := b) (j := p / 8) (by omega), List.getElem_set]
    by_cases e : k = p / 8
    · subst e
      rw [if_pos rfl, hg, Int.toNat_natCast, Int.toNat_natCast, Nat.testBit_xor]
      simp
    · rw [if_neg e]
      have : ¬ p / 8 = k := fun h => e h.symm
      simp [this]
theorem octet_is {b : List Int} {k w : Nat} (hb : Bytes b) (hbl : b.length = 64) (hk : k < 64) (hw : w < 256) (h0 : w ≠ 0) (hi : Is b) : ¬ Is (turn1 b k w) := by
  obtain ⟨t1, t2, _, t3⟩ := turn1_ok (w := w) hb (by omega : k < b.length) hw
  obtain ⟨K, s, hK, hks, hs⟩ : ∃ K s : Nat, (K = 0 ∨ 32 ≤ K ∧ K + 32 ≤ 512) ∧ 8 * k = K + s ∧ s ≤ 24 := by
    by_cases h4 : k < 4
    · exact ⟨0, 8 * k, .inl rfl, by omega, by omega⟩
    · by_cases h60 : k ≤ 60
      · exact ⟨8 * k, 0, .inr (by omega), by omega, by omega⟩
      · exact ⟨480, 8 * k - 480, .inr (by omega), by omega, by omega⟩
  have hlt : w <<< s < 2 ^ 32 := by
    rw [Nat.shiftLeft_eq]
    have h1 : 2 ^ s ≤ 2 ^ 24 := Nat.pow_le_pow_right (by decide) hs
    have h2 : w * 2 ^ s ≤ 255 * 2 ^ 24 := Nat.mul_le_mul (by omega) h1
    exact Nat.lt_of_le_of_lt h2 (by decide)
  have hne : w <<< s ≠ 0 := by
    rw [Nat.shiftLeft_eq]
    have : 0 < 2 ^ s := Nat.pow_pos (by decide)
    exact Nat.mul_ne_zero h0 (by omega)
  refine turned (k := K) (w := w <<< s) hb t1 hbl (by rw [t2, hbl]) hlt hne hK ?_ hi
  intro p hp
  rw [t3 p (by omega)]
  congr 1
  unfold pat
  rw [Nat.testBit_shiftLeft]
  by_cases hin : p / 8 = k
  · have a1 : K ≤ p ∧ p < K + 32 := by omega
    have a2 : p - K ≥ s := by omega
    rw [show p - K - s = p % 8 from by omega, decide_eq_true hin, decide_eq_true a1, decide_eq_true a2]
    rfl
  · rw [decide_eq_false hin]
    by_cases a1 : K ≤ p ∧ p < K + 32
    · by_cases a2 : p - K ≥ s
      · have : w.testBit (p - K - s) = false := by
          apply Nat.testBit_lt_two_pow
          have h8 : 8 ≤ p - K - s := by omega
          exact Nat.lt_of_lt_of_le hw (Nat.pow_le_pow_right (n := 2) (by decide) h8)
        simp [this]
      · simp [a2]
    · simp [a1]
theorem awake16 : rickyardlaw16_awake.f FU = some true := by decide +kernel
def okS2 (s : S_api_Super) : Prop := ¬ (s.Charts.length : Int) > 60 ∧ SupOk s
instance (s : S_api_Super) : Decidable (okS2 s) := by unfold okS2; exact inferInstance
theorem super_eta2 (s : S_api_Super) : (⟨s.Epoch, (⟨s.Tickets.Geometry, s.Tickets.Top, s.Tickets.High, s.Tickets.Free⟩ : S_api_Tickets), s.Dir, s.Charts⟩ : S_api_Super) = s := rfl
theorem octet_step {fu j : Nat} {a : Arr 2 S_api_Super} (hf : 2000 < fu) (hj : j < 2) : rickyardlaw16_RootOctet.s0 fu a (j : Int) = some (if okS2 (Arr.get a (j : Int)) then .inr ((j + 1 : Nat) : Int) else .inl (.inl true)) := by
  unfold rickyardlaw16_RootOctet.s0
  simp only [super_eta2]
  have hc : 0 ≤ (j : Int) ∧ (j : Int) < 2 := by omega
  rw [decide_eq_true (show (j : Int) < 2 by omega), if_pos rfl, next64 hj (by decide)]
  simp only [if_pos hc]
  generalize Arr.get a (j : Int) = s
  by_cases h : (s.Charts.length : Int) > 60
  · rw [decide_eq_true h, if_pos rfl, if_neg (show ¬ okS2 s from fun q => q.1 h)]
    rfl
  · rw [decide_eq_false h, if_neg (by decide), rsuperRight_eq (by omega)]
    simp only [Option.bind_some]
    by_cases hR : SupOk s
    · rw [decide_eq_true hR, if_pos (show okS2 s from ⟨h, hR⟩)]
      rfl
    · rw [decide_eq_false hR, if_neg (show ¬ okS2 s from fun q => hR q.2)]
      rfl
theorem octet_loop {fu : Nat} {a : Arr 2 S_api_Super} (hf : 2000 < fu) : loopM (rickyardlaw16_RootOctet.s0 fu a) fu 0 = some (if okS2 (Arr.get a 0) ∧ okS2 (Arr.get a 1) then .inr () else .inl true) := by
  have h0 := octet_step (a := a) hf (show 0 < 2 by decide)
  have h1 := octet_step (a := a) hf (show 1 < 2 by decide)
  rw [show (((0 : Nat) : Int)) = 0 from rfl, show (((0 + 1 : Nat) : Int)) = 1 from rfl] at h0
  rw [show (((1 : Nat) : Int)) = 1 from rfl, show (((1 + 1 : Nat) : Int)) = 2 from rfl] at h1
  have h3 : rickyardlaw16_RootOctet.s0 fu a 2 = some (.inl (.inr ())) := rfl
  generalize hs : rickyardlaw16_RootOctet.s0 fu a = st at *
  obtain ⟨q, hq⟩ : ∃ q, fu = q + 1 + 1 + 1 := ⟨fu - 3, by omega⟩
  rw [hq]
  unfold loopM
  rw [h0]
  by_cases k0 : okS2 (Arr.get a 0)
  rotate_left
  · rw [if_neg k0, if_neg (fun z => k0 z.1)]
  rw [if_pos k0]
  simp only []
  unfold loopM
  rw [h1]
  by_cases k1 : okS2 (Arr.get a 1)
  rotate_left
  · rw [if_neg k1, if_neg (fun z => k1 z.2)]
  rw [if_pos k1]
  simp only []
  unfold loopM
  rw [h3, if_pos ⟨k0, k1⟩]
theorem turn_no {s : S_api_Super} (hs : SupOk s) {k : Nat} (hk : k < 64) {x : Int} (hx : 0 ≤ x ∧ x ≤ 255) (h0 : x ≠ 0) : (getS ((blockS s).set k (bXor .u8 (ix (blockS s) (k : Int)) x))).2 = false ∧ Bytes ((blockS s).set k (bXor .u8 (ix (blockS s) (k : Int)) x)) := by
  obtain ⟨b1, b2⟩ := blockS_words hs
  obtain ⟨g1, _⟩ := sup_get hs
  obtain ⟨y, rfl⟩ : ∃ y : Nat, x = (y : Int) := ⟨x.toNat, by omega⟩
  have hlt : y < 2 ^ 8 := by show y < 256; omega
  have e : (blockS s).set k (bXor .u8 (ix (blockS s) (k : Int)) (y : Int)) = turn1 (blockS s) k y := rfl
  have hno := octet_is b1 b2 hk hlt (show y ≠ 0 by omega) g1.1
  have ht := turn1_ok (w := y) b1 (show k < (blockS s).length by omega) hlt
  rw [e]
  refine ⟨?_, ht.1⟩
  unfold getS
  rw [if_neg (fun q => hno q.1)]
theorem at_parts {b c : List Int} (hb : b.length = 64) (hc : c.length = 64) : atS (b ++ c) 0 = getS b ∧ atS (b ++ c) 1 = getS c := by
  constructor
  · unfold atS
    rw [if_pos ⟨by decide, by rw [List.length_append, hb, hc]; decide⟩]
    congr 1
    unfold cut
    rw [show Int.toNat (64 * 0 + 64) = 64 from rfl, show Int.toNat (64 * 0) = 0 from rfl, List.drop_zero]
    exact List.take_left' hb
  · unfold atS
    rw [if_pos ⟨by decide, by rw [List.length_append, hb, hc]; decide⟩]
    congr 1
    unfold cut
    rw [show Int.toNat (64 * 1 + 64) = 128 from rfl, show Int.toNat (64 * 1) = 64 from rfl, List.take_of_length_le (by rw [List.length_append, hb, hc]; decide)]
    exact List.drop_left' hb
set_option maxHeartbeats 2000000 in
theorem RootOctet : ∀ (a0 : Arr 2 S_api_Super) (a1 : Int) (a2 : Int), (∀ x ∈ a0.l, ok_api_Super x) → (Lit.int .u8 a1).wf = true → (Lit.int .u8 a2).wf = true → ∃ fu, rickyardlaw16_RootOctet.f fu a0 a1 a2 = some true := by
  intro a at_ x ha hat hx
  refine ⟨FU, ?_⟩
  unfold rickyardlaw16_RootOctet.f
  simp only [super_eta2]
  rw [awake16, Option.bind_some, if_neg (show ¬ (!true) = true by decide), Option.bind_some, Option.bind_some]
  by_cases hx0 : x = 0
  · rw [decide_eq_true hx0]
    rfl
  rw [decide_eq_false hx0, if_neg (show ¬ false = true by decide), octet_loop (by decide), Option.bind_some]
  by_cases hok : okS2 (Arr.get a 0) ∧ okS2 (Arr.get a 1)
  rotate_left
  · rw [if_neg hok]
  rw [if_pos hok]
  obtain ⟨⟨_, hR0⟩, ⟨_, hR1⟩⟩ := hok
  simp only []
  have l0 := hR0.len.1
  have l1 := hR1.len.1
  have h8 := wf8.1 hat
  have hx8 := wf8.1 hx
  have p0 : rickyardref13_Put.f FU (Arr.get a 0) = some ((blockS (Arr.get a 0)).map toB) := rsuperPut_eq l0 (by decide)
  have p1 : rickyardref13_Put.f FU (Arr.get a 1) = some ((blockS (Arr.get a 1)).map toB) := rsuperPut_eq l1 (by decide)
  obtain ⟨b01, b02⟩ := blockS_words hR0
  obtain ⟨b11, b12⟩ := blockS_words hR1
  have t0 := fun (k : Nat) (hk : k < 64) => turn_no hR0 hk hx8 hx0
  have t1 := fun (k : Nat) (hk : k < 64) => turn_no hR1 hk hx8 hx0
  have g0 := getS_block hR0
  have g1 := getS_block hR1
  rw [p0, p1]
  generalize blockS (Arr.get a 0) = B0 at *
  generalize blockS (Arr.get a 1) = B1 at *
  obtain ⟨k, hk⟩ : ∃ k : Nat, Int.tmod (IntKind.i64.wrap at_) 128 = (k : Int) := ⟨(at_ % 128).toNat, by
    rw [w64 (by omega) (by omega), Int.tmod_eq_emod_of_nonneg h8.1]
    omega⟩
  have hk128 : k < 128 := by
    rw [w64 (by omega) (by omega), Int.tmod_eq_emod_of_nonneg h8.1] at hk
    omega
  have hmap : List.map ofB (List.map toB B0 ++ List.map toB B1) = B0 ++ B1 := by rw [List.map_append, of_toB b01, of_toB b11]
  have hlen : (B0 ++ B1).length = 128 := by rw [List.length_append, b02, b12]
  have hb : Bytes (B0 ++ B1) := b01.app b11
  have hck : (0 : Int) ≤ (k : Int) ∧ (k : Int) < ((List.map toB B0 ++ List.map toB B1).length : Int) := by
    rw [List.length_append, List.length_map, List.length_map]
    omega
  rw [hk]
  simp only [Option.bind_some, hmap, List.length_map, b02, b12, Int.toNat_natCast]
  rw [if_pos (by decide), if_pos hck, if_pos hck]
  have w1 : Int.tdiv (k : Int) 64 = ((k / 64 : Nat) : Int) := by rw [Int.tdiv_eq_ediv_of_nonneg (by omega)]; omega
  have w2 : IntKind.i64.wrap ((k / 64 : Nat) : Int) = ((k / 64 : Nat) : Int) := w64 (by omega) (by omega)
  have w3 : IntKind.i64.wrap (1 - ((k / 64 : Nat) : Int)) = ((1 - k / 64 : Nat) : Int) := by rw [w64 (by omega) (by omega)]; omega
  -- what the two places read
  have key : ∃ C0 C1 : List Int, (B0 ++ B1).set k (bXor .u8 (ix (B0 ++ B1) (k : Int)) x) = C0 ++ C1 ∧ (Bytes C0 ∧ C0.length = 64) ∧ (Bytes C1 ∧ C1.length = 64) ∧ pick2 (getS C0) (getS C1) = (if k < 64 then Arr.get a 1 else Arr.get a 0, ((1 - k / 64 : Nat) : Int), true) := by
    by_cases h : k < 64
    · have e1 : ix (B0 ++ B1) (k : Int) = ix B0 (k : Int) := by rw [ix_nat (by omega), ix_nat (by omega), List.getElem_append_left]
      have tt := t0 k h
      refine ⟨B0.set k (bXor .u8 (ix B0 (k : Int)) x), B1, ?_, ⟨tt.2, by rw [List.length_set]; exact b02⟩, ⟨b11, b12⟩, ?_⟩
      · rw [e1, List.set_append_left _ _ (by omega)]
      · have hd : 1 - k / 64 = 1 := by omega
        rw [g1, pick2_t (b := (Arr.get a 1, true)) rfl (.inl tt.1), if_pos h, hd]
        exact congrArg (fun z : Int => (Arr.get a 1, z, true)) (show (1 : Int) = ((1 : Nat) : Int) from rfl)
    · have e1 : ix (B0 ++ B1) (k : Int) = ix B1 ((k - 64 : Nat) : Int) := by
        rw [ix_nat (by omega), ix_nat (by omega), List.getElem_append_right (by omega)]
        congr 1
        omega
      have tt := t1 (k - 64) (by omega)
      refine ⟨B0, B1.set (k - 64) (bXor .u8 (ix B1 ((k - 64 : Nat) : Int)) x), ?_, ⟨b01, b02⟩, ⟨tt.2, by rw [List.length_set]; exact b12⟩, ?_⟩
      · rw [e1, List.set_append_right _ _ (by omega), b02]
      · have hd : 1 - k / 64 = 0 := by omega
        rw [g0, pick2_f tt.1, if_neg h, hd]
        exact congrArg (fun z : Int => (Arr.get a 0, z, true)) (show (0 : Int) = ((0 : Nat) : Int) from rfl)
  obtain ⟨C0, C1, hset, ⟨c01, c02⟩, ⟨c11, c12⟩, hpick⟩ := key
  have cb : Bytes (C0 ++ C1) := c01.app c11
  have cl : (C0 ++ C1).length = 128 := by rw [List.length_append, c02, c12]
  have hf : pmem_From.f FU (C0 ++ C1) = some (fromD (C0 ++ C1)) := from_eq cb (by omega) (by show _ < 200000; omega)
  have hd := from_ok cb
  have hcl := hd.len
  have hst : octs (storedD (fromD (C0 ++ C1))) = C0 ++ C1 := by
    rw [from_stored, octs_words cb _ (by omega), List.take_of_length_le (by omega)]
  have hro : ∀ p, readS (fromD (C0 ++ C1)) p = atS (C0 ++ C1) p := fun p => readS_of rfl (by rw [cl, hcl, cl]) (by rw [hcl]; omega) hst
  rw [hset, hf, Option.bind_some, root_pick_eq hd (by omega) (by decide), hro, hro, (at_parts c02 c12).1, (at_parts c02 c12).2, hpick, Option.bind_some, w1, w2, w3]
  simp only [decide_true, if_true]
  rw [if_pos (by omega)]
  by_cases h : k < 64
  · rw [if_pos h, show 1 - k / 64 = 1 from by omega]
    show ((rickyardref13_Same.f FU (Arr.get a 1) (Arr.get a 1)).bind _).bind _ = _
    rw [rsuperSame_eq (by omega) (by show _ < 200000; omega)]
    simp
  · rw [if_neg h, show 1 - k / 64 = 0 from by omega]
    show ((rickyardref13_Same.f FU (Arr.get a 0) (Arr.get a 0)).bind _).bind _ = _
    rw [rsuperSame_eq (by omega) (by show _ < 200000; omega)]
    simp
end Go.Proofs.Ytklhbaghbmndeaa.Pure
namespace Go.Proofs.Ytklhbaghbmndeaa.rootOctet
open Go.ChangeShapes Go.WideShapes Go.ChangeAt Go.RowKit
open Go.ChangeMaps (open_string shut_string)
open Go Go.Xw
theorem own : ownKnob Try.prog.godebug = none := Facts.own
theorem laidOut : laidOutB Try.prog = true := Facts.laid
theorem closed : joinedFacts Try.pinned.checked.prog 19 Try.f19 Rows.rootOctetSpec Rows.rootOctetRow = true := by
  unfold joinedFacts
  rw [Facts.enter, Facts.lifts, Facts.make, Facts.laid, Facts.rowed, Facts.plain, Facts.heard]
  kernel_rfl
theorem enc_seg {α : Type} (K : Kd α) (a : α) : K.enc a = cellsOf [Kd.seg K a] := by simp [cellsOf, Kd.seg]
def start : Input := ⟨#[], #[.agg #[.int .i64 0, .int .i64 0, .int .i64 0, .int .i64 0, .int .i64 0, .int .i64 0, .int .i64 0, .int .i64 0, .slice none 0 0, .int .i64 0, .int .i64 0, .int .i64 0, .int .i64 0, .int .i64 0, .int .i64 0, .int .i64 0, .int .i64 0, .slice none 0 0], .int .u8 0, .int .u8 0], []⟩
set_option maxRecDepth 100000 in
set_option maxHeartbeats 1000000 in
theorem lifted (os : Os) (started : os.Started) (H : Type) (enc : TypeId × Value → H) :
    ReturnsInHanded {} Try.checked os 19 .any (Rows.rootOctetSpec.pre6 enc Try.prog Try.f19 Rows.rootOctetRow.domain false) (Rows.rootOctetSpec.post enc Try.prog Try.f19 false true false false) := by
  refine returnsInHanded_of_change_sized (C := Try.checked) own started (by kernel_rfl) Try.func19
    (ChangeSpec.witness6 (enc := enc) (C := Try.checked) false start 8 (by kernel_rfl) (by kernel_rfl) (by kernel_rfl) (by kernel_rfl)) ?_
  intro W base args ds gs before hval0 hW hcnd hsz0 _
  have hval : ∀ (j : Nat) t v, Try.f19.params[j]? = some t → args[j]? = some v → Value.okWide Try.prog W .any base t v := hval0
  have hW' := hW
  obtain ⟨p, q, hA0, hV, rfl, hfz, hnd⟩ := hW
  have hA : DataW.TrodAll enc Try.prog W 0 (fun _ => true) true Try.f19.params.toList args.toList ds p := hA0
  rw [Try.params19] at hA hval
  obtain ⟨v0, vs0, d0, ds0, p0, q0, hargs, rfl, rfl, h0, r0⟩ := trodAll_cons hA
  obtain ⟨v1, vs1, d1, ds1, p1, q1, rfl, rfl, rfl, h1, r1⟩ := trodAll_cons r0
  obtain ⟨v2, vs2, d2, ds2, p2, q2, rfl, rfl, rfl, h2, r2⟩ := trodAll_cons r1
  obtain ⟨rfl, rfl, rfl⟩ := trodAll_nil r2
  obtain rfl : args = #[v0, v1, v2] := by cases args; simp_all
  obtain ⟨rfl, rfl⟩ := trodVars_none hV
  have k0 := h0
  have lt0 : ∀ x ∈ p0, x.block < W.heap.size := by obtain ⟨m, hm⟩ := k0; exact DataW.trod_lt m _ _ _ hm
  obtain ⟨fu0, hf0⟩ := h0
  obtain ⟨C0, a0, E0, e0, o0⟩ := (opn_arrN (n := 9) (D := D_api_Super) (ok := ok_api_Super) (w := W) Try.underlying119 (by kernel_rfl) (by kernel_rfl) (by decide) (fun enc base sp held fuel cs x h => by obtain ⟨a, V0, R0, e, o⟩ := opn_api_Super enc base sp held fuel cs x h; exact ⟨a, ⟨V0, R0, e⟩, o, by rw [e, len_cellsOf]; rfl, by rw [e]; exact one_cellsOf _⟩)) enc _ _ _ _ _ _ hf0
  obtain rfl := agg_of (by kernel_rfl) (hval 0 119 v0 rfl rfl) e0
  obtain ⟨a1, rfl, rfl, rfl, w1⟩ := open_int Try.underlying5 (hval 1 5 v1 rfl rfl) h1
  obtain ⟨a2, rfl, rfl, rfl, w2⟩ := open_int Try.underlying5 (hval 2 5 v2 rfl rfl) h2
  obtain ⟨fu, hfu⟩ := Pure.RootOctet a0 a1 a2 o0 w1 w2
  refine Calls.mono (rickyardlaw16_RootOctet.ok fu W a0 _ E0 a1 a2 true hfu) fun e W' hr => ?_
  obtain ⟨v, rfl, rfl, gr⟩ := hr
  have bel := Fr.below gr
  exact ⟨_, rfl, _, _, _, [], _, [], hW', trodAll_mk1 (shut_bool Try.underlying4 _), (trodAll_cons_mk (Below.trod laidOut (by kernel_rfl) (of_decide_eq_true (by kernel_rfl)) k0 bel lt0) (trodAll_cons_mk (shut_int Try.underlying5 w1) (trodAll_cons_mk (shut_int Try.underlying5 w2) trodAll_mk0))), rfl, bel.frame _, fun h => by cases h⟩
theorem over : Rows.rootOctetRow.holds Try.pinned (OpenSpec.ofChange Rows.rootOctetSpec) :=
  OpenClaim.holds_of_wide 19 Try.f19 rfl rfl rfl rfl rfl rfl rfl ⟨rfl, rfl, rfl, rfl, rfl⟩ rfl rfl rfl rfl rfl (by kernel_rfl) Try.func19 closed
    (of_decide_eq_true (by kernel_rfl)) (by unfold Func.isWrapper; first | (rw [if_pos (by decide +kernel)]; kernel_rfl) | (rw [if_neg (by decide +kernel)]; exact ⟨rfl, rfl⟩))
    (fun os started H enc _ => lifted os started H enc)
theorem proved : Rows.RootOctetSaid := over
end Go.Proofs.Ytklhbaghbmndeaa.rootOctet
namespace Go.Proofs.Ytklhbaghbmndeaa
theorem rootOctet_holds : Rows.RootOctetSaid := rootOctet.proved
#print axioms rootOctet_holds
end Go.Proofs.Ytklhbaghbmndeaa
