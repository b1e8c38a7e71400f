/- PmemFrom: texts merged, part 5 of 5. The last part proves that the law PmemFrom holds for every input. -/
import Derived.Test.YtklhbaghbmndeaaPkPmemFrom4
/- Numbers as octets, in plain words. -/
set_option linter.unusedVariables false
set_option linter.unusedSimpArgs false
namespace Go.Proofs.Ytklhbaghbmndeaa.Pure
open Go Go.Xw
def lay (v n : Nat) : List Int := (List.range n).map fun i => ((v / 256 ^ i % 256 : Nat) : Int)
theorem lay_len (v n : Nat) : (lay v n).length = n := by simp [lay]
theorem lay_succ (v n : Nat) : lay v (n + 1) = lay v n ++ [((v / 256 ^ n % 256 : Nat) : Int)] := by
  simp [lay, List.range_succ]
theorem lay_bytes (v n : Nat) : Bytes (lay v n) := by
  intro x hx
  simp only [lay, List.mem_map] at hx
  obtain ⟨i, _, rfl⟩ := hx
  omega
theorem wu8_mod {n : Nat} : IntKind.u8.wrap (n : Int) = ((n % 256 : Nat) : Int) := by
  unfold IntKind.wrap
  simp only [IntKind.signed, IntKind.bits]
  simp
theorem shr64 (n : Nat) : shR .u64 (n : Int) 8 = ((n / 256 : Nat) : Int) := by
  unfold shR
  show Int.fdiv (n : Int) (2 ^ min ((8 : Int).toNat) 64) = _
  rw [show (2 : Int) ^ min ((8 : Int).toNat) 64 = 256 from by decide, Int.fdiv_eq_ediv_of_nonneg _ (by decide)]
  omega
theorem wn64 (q : Nat) (h : q < 18446744073709551616) : IntKind.u64.wrap (q : Int) = (q : Int) := wu64 (by omega) (by omega)
theorem tdn (q : Nat) : Int.tdiv (q : Int) 256 = ((q / 256 : Nat) : Int) := by
  rw [Int.tdiv_eq_ediv_of_nonneg (by omega)]
  omega
theorem tmn (q : Nat) : Int.tmod (q : Int) 256 = ((q % 256 : Nat) : Int) := by
  rw [Int.tmod_eq_emod_of_nonneg (by omega)]
  omega
theorem wn8 (q : Nat) : IntKind.u8.wrap ((q % 256 : Nat) : Int) = ((q % 256 : Nat) : Int) := wu8 (by omega) (by omega)
theorem olay_eq {fu v n : Nat} (hn : n ≤ 8) (hf : n < fu) : octet_Lay.f fu (v : Int) (n : Int) = some (lay v n) := by
  unfold octet_Lay.f
  have h0 : ¬ ((n : Int) < 0) := by omega
  have h8 : ¬ ((n : Int) > 8) := by omega
  have hL : Int.toNat (n : Int) ≤ LIM := by
    have : (8 : Nat) ≤ LIM := by decide
    omega
  simp only [h0, h8, decide_false, Bool.false_eq_true, if_false]
  rw [if_pos ⟨by omega, hL⟩]
  have : loopM (octet_Lay.s0 fu (n : Int)) fu ((v : Int), 0, List.replicate (Int.toNat (n : Int)) (0 : Int)) = some (lay v n) := by
    refine loopM_run (S := fun j => (((v / 256 ^ j : Nat) : Int), (j : Int), lay v j ++ List.replicate (n - j) (0 : Int))) n (by simp [lay]) ?_ ?_ hf
    · intro j hj
      unfold octet_Lay.s0
      have w3 : IntKind.i64.wrap ((j : Int) + 1) = ((j + 1 : Nat) : Int) := by rw [w64 (by omega) (by omega)]; omega
      have e1 : (List.replicate (Int.toNat (n : Int)) (0 : Int)).length = n := by simp
      have e2 : (lay v j ++ List.replicate (n - j) (0 : Int)).length = n := by rw [List.length_append, lay_len, List.length_replicate]; omega
      have e3 : List.set (lay v j ++ List.replicate (n - j) (0 : Int)) (Int.toNat (j : Int)) (IntKind.u8.wrap ((v / 256 ^ j : Nat) : Int)) = lay v (j + 1) ++ List.replicate (n - (j + 1)) (0 : Int) := by
        rw [Int.toNat_natCast, List.set_append, if_neg (by rw [lay_len]; omega), lay_len, Nat.sub_self, wu8_mod, lay_succ, show n - j = n - (j + 1) + 1 from by omega, List.replicate_succ]
        simp
      have e4 : shR .u64 ((v / 256 ^ j : Nat) : Int) 8 = ((v / 256 ^ (j + 1) : Nat) : Int) := by
        rw [shr64, Nat.div_div_eq_div_mul, Nat.pow_succ]
      have h1 : (j : Int) < (n : Int) := by omega
      simp only [e1, e2, e3, e4, w3, h1, decide_true, if_true]
      rw [if_pos ⟨by omega, trivial⟩]
    · unfold octet_Lay.s0
      simp
  rw [this]
  rfl
theorem roctet_eq {fu v i : Nat} (hv : v < 18446744073709551616) (hi : i ≤ 1000) (hf : i < fu) : rickyardref01_Octet.f fu (v : Int) (i : Int) = some ((v / 256 ^ i % 256 : Nat) : Int) := by
  unfold rickyardref01_Octet.f
  have : loopM (rickyardref01_Octet.s0 fu (i : Int)) fu ((v : Int), 0) = some ((v / 256 ^ i : Nat) : Int) := by
    refine loopM_run (S := fun j => (((v / 256 ^ j : Nat) : Int), (j : Int))) i (by simp) ?_ ?_ hf
    · intro j hj
      unfold rickyardref01_Octet.s0
      have w3 : IntKind.i64.wrap ((j : Int) + 1) = ((j + 1 : Nat) : Int) := by rw [w64 (by omega) (by omega)]; omega
      have h1 : (j : Int) < (i : Int) := by omega
      have hle : v / 256 ^ j ≤ v := Nat.div_le_self _ _
      have e1 : Int.tdiv ((v / 256 ^ j : Nat) : Int) 256 = ((v / 256 ^ (j + 1) : Nat) : Int) := by
        rw [tdn, Nat.pow_succ, ← Nat.div_div_eq_div_mul]
      have hle2 : v / 256 ^ (j + 1) ≤ v := Nat.div_le_self _ _
      have e2 : IntKind.u64.wrap ((v / 256 ^ (j + 1) : Nat) : Int) = ((v / 256 ^ (j + 1) : Nat) : Int) := wn64 _ (Nat.lt_of_le_of_lt hle2 hv)
      simp only [h1, decide_true, if_true, e1, e2, w3]
    · unfold rickyardref01_Octet.s0
      simp
  rw [this]
  simp only [Option.bind_some, tmn, wn8]
theorem rlay_eq {fu v n : Nat} (hv : v < 18446744073709551616) (hn : n ≤ 8) (hf : n < fu) : rickyardref01_Lay.f fu (v : Int) (n : Int) = some ((lay v n).map toB) := by
  unfold rickyardref01_Lay.f
  have : loopM (rickyardref01_Lay.s0 fu (v : Int) (n : Int)) fu ([], 0) = some ((lay v n).map toB) := by
    refine loopM_run (S := fun j => ((lay v j).map toB, (j : Int))) n (by simp [lay]) ?_ ?_ hf
    · intro j hj
      unfold rickyardref01_Lay.s0
      have w3 : IntKind.i64.wrap ((j : Int) + 1) = ((j + 1 : Nat) : Int) := by rw [w64 (by omega) (by omega)]; omega
      have h1 : (j : Int) < (n : Int) := by omega
      have hlim : ((lay v j).map toB).length + ([((v / 256 ^ j % 256 : Nat) : Int)].map toB).length ≤ LIM := by
        have : (9 : Nat) ≤ LIM := by decide
        simp only [List.length_map, lay_len, List.length_cons, List.length_nil]
        omega
      simp only [h1, decide_true, if_true, roctet_eq (fu := fu) hv (by omega : j ≤ 1000) (by omega), Option.bind_some, w3]
      rw [if_pos hlim, lay_succ, List.map_append]
    · unfold rickyardref01_Lay.s0
      simp
  rw [this]
  rfl
def num : List Int → Nat
  | [] => 0
  | c :: l => c.toNat + 256 * num l
theorem num_append : ∀ (a b : List Int), num (a ++ b) = num a + 256 ^ a.length * num b
  | [], b => by simp [num]
  | c :: a, b => by
    simp only [List.cons_append, num, num_append a b, List.length_cons, Nat.pow_succ]
    rw [Nat.mul_add, Nat.add_assoc, ← Nat.mul_assoc, Nat.mul_comm 256 (256 ^ a.length)]
theorem num_lt : ∀ {l : List Int}, Bytes l → num l < 256 ^ l.length
  | [], _ => by simp [num]
  | c :: l, h => by
    have h1 := h c (by simp)
    have h2 := num_lt (l := l) fun x hx => h x (by simp [hx])
    simp only [num, List.length_cons, Nat.pow_succ]
    omega
theorem lay_num : ∀ {l : List Int}, Bytes l → lay (num l) l.length = l
  | [], _ => rfl
  | c :: l, h => by
    have h1 := h c (by simp)
    have h2 := lay_num (l := l) fun x hx => h x (by simp [hx])
    have e : lay (num (c :: l)) (l.length + 1) = c :: lay (num l) l.length := by
      unfold lay
      rw [List.range_succ_eq_map, List.map_cons, List.map_map]
      congr 1
      · simp only [num, Nat.pow_zero, Nat.div_one]
        omega
      · apply List.map_congr_left
        intro i hi
        simp only [Function.comp, num, Nat.succ_eq_add_one, Nat.pow_succ]
        rw [Nat.mul_comm (256 ^ i) 256, ← Nat.div_div_eq_div_mul, show (c.toNat + 256 * num l) / 256 = num l from by omega]
    rw [List.length_cons, e, h2]
theorem num_lay (v : Nat) : ∀ n, num (lay v n) = v % 256 ^ n
  | 0 => by simp [lay, num, Nat.mod_one]
  | n + 1 => by
    rw [lay_succ, num_append, num_lay v n, lay_len]
    simp only [num]
    rw [Int.toNat_natCast, Nat.mul_zero, Nat.add_zero, Nat.pow_succ, Nat.mod_mul]
theorem or_add (a c j : Nat) (ha : a < 256 ^ j) : a ||| c * 256 ^ j = a + 256 ^ j * c := by
  have e : 256 ^ j = 2 ^ (8 * j) := by rw [Nat.pow_mul]
  rw [e] at ha ⊢
  rw [Nat.mul_comm c, Nat.or_comm, ← Nat.two_pow_add_eq_or_of_lt ha, Nat.add_comm]
theorem read_eq {fu : Nat} {l : List Int} (hb : Bytes l) (hl : l.length ≤ 8) (hf : l.length < fu) : octet_Read.f fu l = some ((num l : Nat) : Int) := by
  unfold octet_Read.f
  have hm : mnI (l.length : Int) 8 = (l.length : Int) := by
    unfold mnI
    split <;> omega
  have hc : cut l 0 (l.length : Int) = l := by
    unfold cut
    simp
  rw [hm, if_pos ⟨by omega, Int.le_refl _⟩]
  have : loopM (octet_Read.s0 fu l) fu (0, 0) = some ((num l : Nat) : Int) := by
    refine loopM_run (S := fun j => (((num (l.take j) : Nat) : Int), (j : Int))) l.length (by simp [num]) ?_ ?_ hf
    · intro j hj
      unfold octet_Read.s0
      rw [hm, hc]
      have h1 : (j : Int) < (l.length : Int) := by omega
      have w3 : IntKind.i64.wrap ((j : Int) + 1) = ((j + 1 : Nat) : Int) := by rw [w64 (by omega) (by omega)]; omega
      have w4 : IntKind.i64.wrap (8 * (j : Int)) = ((8 * j : Nat) : Int) := by rw [w64 (by omega) (by omega)]; omega
      have hcb := hb _ (List.getElem_mem hj)
      obtain ⟨c, hc'⟩ : ∃ c : Nat, l[j] = (c : Int) := ⟨l[j].toNat, by omega⟩
      have hlt : num (l.take j) < 256 ^ j := by
        have := num_lt (l := l.take j) fun x hx => hb x (List.mem_of_mem_take hx)
        rwa [List.length_take, Nat.min_eq_left (by omega)] at this
      have e256 : (256 : Nat) ^ j * 256 ≤ 256 ^ 8 := by
        rw [← Nat.pow_succ]
        exact Nat.pow_le_pow_right (by decide) (by omega)
      have e8 : (256 : Nat) ^ 8 = 18446744073709551616 := by decide
      have hcj : c * 256 ^ j < 18446744073709551616 := by
        have : c * 256 ^ j ≤ 255 * 256 ^ j := Nat.mul_le_mul_right _ (by omega)
        have : 0 < 256 ^ j := Nat.pow_pos (by decide)
        omega
      have e1 : shL .u64 (IntKind.u64.wrap (ix l (j : Int))) ((8 * j : Nat) : Int) = ((c * 256 ^ j : Nat) : Int) := by
        rw [ix_nat hj, hc', wu64 (by omega) (by omega)]
        unfold shL
        rw [Int.toNat_natCast, Nat.min_eq_left (by show 8 * j ≤ 64; omega)]
        have : (c : Int) * 2 ^ (8 * j) = ((c * 256 ^ j : Nat) : Int) := by
          have h256 : ((256 ^ j : Nat) : Int) = 2 ^ (8 * j) := by
            rw [Int.natCast_pow, Int.pow_mul]
            exact congrArg (fun z : Int => z ^ j) (by decide : ((256 : Nat) : Int) = 2 ^ 8)
          rw [Int.natCast_mul, h256]
        rw [this, wu64 (by omega) (by omega)]
      have e2 : bOr .u64 ((num (l.take j) : Nat) : Int) ((c * 256 ^ j : Nat) : Int) = ((num (l.take (j + 1)) : Nat) : Int) := by
        unfold bOr
        show IntKind.u64.wrap (((BitVec.ofInt 64 ((num (l.take j) : Nat) : Int) ||| BitVec.ofInt 64 ((c * 256 ^ j : Nat) : Int)).toNat : Nat) : Int) = _
        rw [BitVec.ofInt_natCast, BitVec.ofInt_natCast, BitVec.toNat_or, BitVec.toNat_ofNat, BitVec.toNat_ofNat, Nat.mod_eq_of_lt (by omega), Nat.mod_eq_of_lt (by omega), or_add _ _ _ hlt, take_next hj, num_append]
        have hs : num (l.take j) + 256 ^ j * c < 18446744073709551616 := by
          rw [Nat.mul_comm]
          have : c * 256 ^ j ≤ 255 * 256 ^ j := Nat.mul_le_mul_right _ (by omega)
          omega
        rw [wu64 (by omega) (by omega)]
        simp only [num, hc', Int.toNat_natCast, List.length_take, Nat.min_eq_left (by omega : j ≤ l.length), Nat.mul_zero, Nat.add_zero]
      simp only [h1, decide_true, if_true, w4, e1, e2, w3]
      rw [if_pos ⟨by omega, trivial⟩, if_pos (by omega)]
    · unfold octet_Read.s0
      rw [hm, hc]
      simp
  rw [this]
  rfl
end Go.Proofs.Ytklhbaghbmndeaa.Pure

/- rickyard/rickyardref01.Rest: its model, and that the Go function computes it: written by gen.py. -/
set_option linter.unusedVariables false
namespace Go.Proofs.Ytklhbaghbmndeaa
open Go Go.Xw
def rickyardref01_Rest.f (fu : Nat) (a0 : Int) (a1 : Int) : Option Int := (if a1 ≠ 0 then (if a1 ≠ 0 then some ((Int.tmod (IntKind.i64.wrap ((Int.tmod a0 a1) + a1)) a1)) else none) else none)
set_option maxRecDepth 100000 in
set_option maxHeartbeats 400000 in
theorem rickyardref01_Rest.ok (fu : Nat) (w : World) (a0 : Int) (a1 : Int) (r : Int) (h : rickyardref01_Rest.f fu a0 a1 = some r) :
    Calls Try.prog 27 (([.int .i64 a0, .int .i64 a1] : List Value).toArray) w (fun e w' => ∃ v, e = .returned v ∧ v = .int .i64 r ∧ Gr w w') := by
  unfold rickyardref01_Rest.f at h
  have fB : Gr w w := Fr.refl _ _
  refine calls_cw Try.func27 rfl Try.ntmps27 rfl ?_
  refine cw_seq ?_
  refine cw_region ?_
  refine ol_val (v := .int .i64 0) (by exact xr_assign rfl rfl) rfl rfl rfl ?_
  refine ol_nil ?_
  refine cw_seq ?_
  refine cw_region ?_
  refine ol_val (v := .int .i64 a0) (by exact xr_move rfl rfl) rfl rfl rfl ?_
  refine ol_val (v := .int .i64 a1) (by exact xr_move rfl rfl) rfl rfl rfl ?_
  obtain ⟨g1, h⟩ := gs h
  refine ol_val (v := .int .i64 (Int.tmod a0 a1)) (by exact xr_rem rfl rfl rfl g1) rfl rfl rfl ?_
  refine ol_val (v := .int .i64 a1) (by exact xr_move rfl rfl) rfl rfl rfl ?_
  refine ol_val (v := .int .i64 (IntKind.i64.wrap ((Int.tmod a0 a1) + a1))) (by exact xr_add rfl rfl rfl) rfl rfl rfl ?_
  refine ol_val (v := .int .i64 a1) (by exact xr_move rfl rfl) rfl rfl rfl ?_
  obtain ⟨g2, h⟩ := gs h
  refine ol_val (v := .int .i64 (Int.tmod (IntKind.i64.wrap ((Int.tmod a0 a1) + a1)) a1)) (by exact xr_rem rfl rfl rfl g2) rfl rfl rfl ?_
  refine ol_val (v := .int .i64 (Int.tmod (IntKind.i64.wrap ((Int.tmod a0 a1) + a1)) a1)) (by exact xr_assign rfl rfl) rfl rfl rfl ?_
  refine ol_nil ?_
  refine cw_ret ?_
  repeat (first | with_reducible refine thn_r ?_ | with_reducible refine blk_r ?_)
  obtain rfl := Option.some.inj h
  refine fin_ret1 Try.results27 rfl ?_
  exact ⟨_, rfl, rfl, fB⟩
end Go.Proofs.Ytklhbaghbmndeaa

/- slices.Clone[[]int,int]: its model, and that the Go function computes it: written by gen.py. -/
set_option linter.unusedVariables false
namespace Go.Proofs.Ytklhbaghbmndeaa
open Go Go.Xw
def slices_Clone_1.f (fu : Nat) (a0 : List Int) : Option (List Int) := (if List.length a0 ≤ LIM then some a0 else none)
set_option maxRecDepth 100000 in
theorem slices_Clone_1.ok (fu : Nat) (w : World) (a0 : List Int) (V0_0 : Value) (R0_0 : Rd (kI .i64) w V0_0 a0) (r : List Int) (h : slices_Clone_1.f fu a0 = some r) :
    Calls Try.prog 90 (([V0_0] : List Value).toArray) w (fun e w' => ∃ v, e = .returned v ∧ ∃ u1 : Value, ∃ o2 : Own (kI .i64) 3 w' w.heap.size u1 r, v = u1 ∧ Gr w w') := by
  unfold slices_Clone_1.f at h
  obtain ⟨g, h⟩ := gs h
  obtain rfl := Option.some.inj h
  have fB : Gr w w := Fr.refl _ _
  refine calls_cw Try.func90 rfl Try.ntmps90 rfl ?_
  refine cw_seq ?_
  refine cw_region ?_
  refine ol_val (v := .slice none 0 0) (by exact xr_assign rfl rfl) rfl rfl rfl ?_
  refine ol_nil ?_
  refine cw_seq ?_
  refine cw_seq ?_
  refine cw_region ?_
  refine ol_val (v := V0_0) (by exact xr_move rfl rfl) rfl rfl rfl ?_
  refine ol_val (v := .bool (isNilV V0_0)) (by exact xr_eqNil rfl Try.underlying25 rfl rfl R0_0) rfl rfl rfl ?_
  refine ol_nil ?_
  rcases bt (isNilV V0_0) with c | c
  · refine cw_condT rfl c ?_
    obtain rfl := R0_0.isNil c
    refine cw_seq ?_
    refine cw_region ?_
    refine ol_val (v := .slice none 0 0) (by exact xr_assign rfl rfl) rfl rfl rfl ?_
    refine ol_nil ?_
    refine cw_ret ?_
    repeat (first | with_reducible refine thn_r ?_ | with_reducible refine blk_r ?_)
    refine fin_ret1 Try.results90 rfl ?_
    exact ⟨_, rfl, _, Own.nil _ _ _ _, rfl, fB⟩
  · refine cw_condF rfl c ?_
    refine cw_skip ?_
    refine cw_seq ?_
    refine cw_region ?_
    refine ol_op (by exact opv_buildSlice (K := (kI .i64)) (xs := ([] : List Int)) (vals := []) rfl Try.underlying25 el3 rfl rfl trivial rfl rfl rfl fB.size) rfl rfl rfl ?_
    rintro v1 w1 ⟨o1, q1, z1⟩
    refine ol_val (v := V0_0) (by exact xr_move rfl rfl) rfl rfl rfl ?_
    refine ol_op (by exact opv_append (K := (kI .i64)) rfl Try.underlying25 el3 rfl rfl rfl rfl rfl o1 (R0_0.gr q1) (by simpa using g) (fB.gr q1).size) rfl rfl rfl ?_
    rintro v2 w2 ⟨o2, q2, n2⟩
    refine ol_val (v := v2) (by exact xr_assign rfl rfl) rfl rfl rfl ?_
    refine ol_nil ?_
    refine cw_ret ?_
    repeat (first | with_reducible refine thn_r ?_ | with_reducible refine blk_r ?_)
    refine fin_ret1 Try.results90 rfl ?_
    exact ⟨_, rfl, v2, o2, rfl, (fB.gr q1).wrO q2 o1.geO⟩
end Go.Proofs.Ytklhbaghbmndeaa

/- (*rickyard/pmem.Device).Plan: its model, and that the Go function computes it: written by gen.py. -/
set_option linter.unusedVariables false
namespace Go.Proofs.Ytklhbaghbmndeaa
open Go Go.Xw
def pmem_Device_Plan.f (fu : Nat) (a0 : S_pmem_Device) (a1 : List Int) : Option S_pmem_Device := ((slices_Clone_1.f fu a1 : Option (List Int)).bind fun t7 => some ((⟨a0.cells, (⟨t7, (0 : Int)⟩ : S_pmem_plan), a0.off, a0.armed, a0.left, a0.steps⟩ : S_pmem_Device)))
set_option maxRecDepth 100000 in
set_option maxHeartbeats 400000 in
theorem pmem_Device_Plan.ok (fu : Nat) (w : World) (a0 : S_pmem_Device) (G_0 : Nat) (V0_0 : Value) (O0_0 : Own k_pmem_cell 142 w 0 V0_0 a0.cells) (V0_1 : Value) (O0_1 : Own (kI .i64) 3 w 0 V0_1 a0.plan.list) (b_0 : Blk w G_0 139 [Seg.cell V0_0 O0_0.one, Seg.cell V0_1 O0_1.one, Seg.cell (.int .i64 a0.plan.at_), Seg.cell (.bool a0.off), Seg.cell (.bool a0.armed), Seg.cell (.int .i64 a0.left), Seg.cell (.int .i64 a0.steps)]) (a1 : List Int) (V1_0 : Value) (R1_0 : Rd (kI .i64) w V1_0 a1) (NR1_0_P0 : OffR V1_0 a1 G_0) (NR1_0_R0_0 : OffRV V1_0 a1 V0_0) (NR1_0_R0_1 : OffRV V1_0 a1 V0_1) (r : S_pmem_Device) (h : pmem_Device_Plan.f fu a0 a1 = some r) :
    Calls Try.prog 35 (([.pointer (some ⟨G_0, 0, none⟩), V1_0] : List Value).toArray) w (fun e w' => ∃ v, e = .returned v ∧ ∃ u1 : Value, ∃ u4 : Value, ∃ o2 : Own k_pmem_cell 142 w' 0 u1 r.cells, ∃ m3 : ∀ g, Value.ownBlock u1 = some g → w.heap.size ≤ g ∨ (g = G_0 ∨ some g = Value.ownBlock V0_0 ∨ some g = Value.ownBlock V0_1), ∃ o5 : Own (kI .i64) 3 w' 0 u4 r.plan.list, ∃ m6 : ∀ g, Value.ownBlock u4 = some g → w.heap.size ≤ g ∨ (g = G_0 ∨ some g = Value.ownBlock V0_0 ∨ some g = Value.ownBlock V0_1), v = .tuple #[] ∧ Blk w' G_0 139 [Seg.cell u1 o2.one, Seg.cell u4 o5.one, Seg.cell (.int .i64 r.plan.at_), Seg.cell (.bool r.off), Seg.cell (.bool r.armed), Seg.cell (.int .i64 r.left), Seg.cell (.int .i64 r.steps)] ∧ Fr (fun j => j = G_0 ∨ some j = Value.ownBlock V0_0 ∨ some j = Value.ownBlock V0_1) w w') := by
  unfold pmem_Device_Plan.f at h
  have fB : Fr (fun j => j = G_0 ∨ some j = Value.ownBlock V0_0 ∨ some j = Value.ownBlock V0_1) w w := Fr.refl _ _
  have M0_0 : ∀ g, Value.ownBlock V0_0 = some g → w.heap.size ≤ g ∨ (g = G_0 ∨ some g = Value.ownBlock V0_0 ∨ some g = Value.ownBlock V0_1) := fun g hg => .inr (.inr (.inl hg.symm))
  have M0_1 : ∀ g, Value.ownBlock V0_1 = some g → w.heap.size ≤ g ∨ (g = G_0 ∨ some g = Value.ownBlock V0_0 ∨ some g = Value.ownBlock V0_1) := fun g hg => .inr (.inr (.inr hg.symm))
  refine calls_cw Try.func35 rfl Try.ntmps35 rfl ?_
  refine cw_region ?_
  refine ol_val (v := .pointer (some ⟨G_0, 0, none⟩)) (by exact xr_move rfl rfl) rfl rfl rfl ?_
  refine ol_val (v := V1_0) (by exact xr_move rfl rfl) rfl rfl rfl ?_
  obtain ⟨t7, k8, h⟩ := bs h
  refine ol_op (by exact opv_call rfl cal90 (ac rfl an) (slices_Clone_1.ok fu _ a1 V1_0 (R1_0) _ k8)) rfl rfl rfl ?_
  rintro u9 w13 ⟨_, o10, rfl, q12⟩
  have a14 := OffV.call O0_1 o10
  have o10 := Own.base o10 fB.size
  have b_0 := b_0.gr q12
  have O0_0 := O0_0.gr q12
  have O0_1 := O0_1.gr q12
  have fB := fB.gr q12
  refine ol_val (v := aggV [Seg.cell u9 o10.one, Seg.cell (.int .i64 (0 : Int))]) (by exact xr_buildS (vals := [(0, u9)]) (res := [Seg.cell u9 o10.one, Seg.cell (.int .i64 (0 : Int))]) rfl ⟨rfl, rfl, trivial⟩ Try.underlying137 ze137 pl137 (fl_cons (xs := cellsOf [Seg.cell u9 o10.one]) (cs' := cellsOf [Seg.cell u9 o10.one, Seg.cell (.int .i64 (0 : Int))]) rfl (cells_one o10.one) (len_cellsOf _) (Spl.segs [Seg.cell (.slice none 0 0) (by rfl), Seg.cell (.int .i64 (0 : Int))] 0 1 [Seg.cell u9 o10.one] rfl rfl) fl_nil)) rfl rfl rfl ?_
  refine ol_val (v := .pointer (some ⟨G_0, 0, none⟩)) (by exact xr_nilCheck rfl rfl) rfl rfl rfl ?_
  refine ol_val (v := .pointer (some ⟨G_0, 1, none⟩)) (by exact xr_fieldAddr (p := 0) (q := 1) rfl fl139_1 rfl) rfl rfl rfl ?_
  have f16 := off_ty b_0 O0_0 (by decide)
  have f17 := off_ty b_0 o10 (by decide)
  refine ol_op0 (by exact opv_store (ss' := [Seg.cell V0_0 O0_0.one, Seg.cell u9 o10.one, Seg.cell (.int .i64 (0 : Int)), Seg.cell (.bool a0.off), Seg.cell (.bool a0.armed), Seg.cell (.int .i64 a0.left), Seg.cell (.int .i64 a0.steps)]) (xs := cellsOf [Seg.cell u9 o10.one, Seg.cell (.int .i64 (0 : Int))]) rfl sz137 rfl rfl rfl (len_cellsOf _) (one_cellsOf _) b_0 (Spl.segs _ 1 2 [Seg.cell u9 o10.one, Seg.cell (.int .i64 (0 : Int))] rfl rfl)) rfl rfl ?_
  rintro _ w18 ⟨b_0, q15⟩
  have O0_0 := O0_0.wr q15 f16
  have o10 := o10.wr q15 f17
  have fB := fB.wrS q15 (.inl rfl)
  refine ol_nil ?_
  obtain rfl := Option.some.inj h
  refine fin_end0 Try.results35 ?_
  exact ⟨_, rfl, V0_0, u9, O0_0, M0_0, (Own.base o10 (Nat.zero_le _)), (ms_geO o10), rfl, b_0, fB⟩
end Go.Proofs.Ytklhbaghbmndeaa

/- (*rickyard/pmem.Device).Arm: its model, and that the Go function computes it: written by gen.py. -/
set_option linter.unusedVariables false
namespace Go.Proofs.Ytklhbaghbmndeaa
open Go Go.Xw
def pmem_Device_Arm.f (fu : Nat) (a0 : S_pmem_Device) (a1 : Int) : Option S_pmem_Device := (if a0.off = true then some (a0) else some ((⟨a0.cells, a0.plan, (decide (a1 = 0)), (decide (a1 ≥ 0)), a1, a0.steps⟩ : S_pmem_Device)))
set_option maxRecDepth 100000 in
set_option maxHeartbeats 400000 in
theorem pmem_Device_Arm.ok (fu : Nat) (w : World) (a0 : S_pmem_Device) (G_0 : Nat) (V0_0 : Value) (R0_0 : Rd k_pmem_cell w V0_0 a0.cells) (N0_0 : OffR V0_0 a0.cells G_0) (V0_1 : Value) (R0_1 : Rd (kI .i64) w V0_1 a0.plan.list) (N0_1 : OffR V0_1 a0.plan.list G_0) (b_0 : Blk w G_0 139 [Seg.cell V0_0 R0_0.one, Seg.cell V0_1 R0_1.one, Seg.cell (.int .i64 a0.plan.at_), Seg.cell (.bool a0.off), Seg.cell (.bool a0.armed), Seg.cell (.int .i64 a0.left), Seg.cell (.int .i64 a0.steps)]) (a1 : Int) (r : S_pmem_Device) (h : pmem_Device_Arm.f fu a0 a1 = some r) :
    Calls Try.prog 38 (([.pointer (some ⟨G_0, 0, none⟩), .int .i64 a1] : List Value).toArray) w (fun e w' => ∃ v, e = .returned v ∧ v = .tuple #[] ∧ Blk w' G_0 139 [Seg.cell V0_0 R0_0.one, Seg.cell V0_1 R0_1.one, Seg.cell (.int .i64 r.plan.at_), Seg.cell (.bool r.off), Seg.cell (.bool r.armed), Seg.cell (.int .i64 r.left), Seg.cell (.int .i64 r.steps)] ∧ Fr (fun j => j = G_0) w w') := by
  unfold pmem_Device_Arm.f at h
  have fB : Fr (fun j => j = G_0) w w := Fr.refl _ _
  refine calls_cw Try.func38 rfl Try.ntmps38 rfl ?_
  refine cw_seq ?_
  refine cw_seq ?_
  refine cw_region ?_
  refine ol_val (v := .pointer (some ⟨G_0, 0, none⟩)) (by exact xr_move rfl rfl) rfl rfl rfl ?_
  refine ol_val (v := .pointer (some ⟨G_0, 0, none⟩)) (by exact xr_nilCheck rfl rfl) rfl rfl rfl ?_
  refine ol_val (v := .pointer (some ⟨G_0, 3, none⟩)) (by exact xr_fieldAddr (p := 0) (q := 3) rfl fl139_2 rfl) rfl rfl rfl ?_
  refine ol_val (v := .bool a0.off) (by exact xr_load1 (v := .bool a0.off) rfl ag4 rfl (b_0.seg 3 rfl rfl)) rfl rfl rfl ?_
  refine ol_nil ?_
  rcases is h with ⟨c1, h⟩ | ⟨c1, h⟩
  · refine cw_condT rfl c1 ?_
    refine cw_ret ?_
    repeat (first | with_reducible refine thn_r ?_ | with_reducible refine blk_r ?_)
    obtain rfl := Option.some.inj h
    refine fin_ret0 Try.results38 ?_
    exact ⟨_, rfl, rfl, b_0, fB⟩
  · refine cw_condF rfl c1 ?_
    refine cw_skip ?_
    refine cw_seq ?_
    refine cw_region ?_
    refine ol_val (v := .pointer (some ⟨G_0, 0, none⟩)) (by exact xr_move rfl rfl) rfl rfl rfl ?_
    refine ol_val (v := .pointer (some ⟨G_0, 0, none⟩)) (by exact xr_move rfl rfl) rfl rfl rfl ?_
    refine ol_val (v := .int .i64 a1) (by exact xr_move rfl rfl) rfl rfl rfl ?_
    refine ol_val (v := .bool (decide (a1 ≥ 0))) (by exact xr_geq rfl rfl rfl) rfl rfl rfl ?_
    refine ol_val (v := .int .i64 a1) (by exact xr_move rfl rfl) rfl rfl rfl ?_
    refine ol_val (v := .pointer (some ⟨G_0, 0, none⟩)) (by exact xr_nilCheck rfl rfl) rfl rfl rfl ?_
    refine ol_val (v := .pointer (some ⟨G_0, 4, none⟩)) (by exact xr_fieldAddr (p := 0) (q := 4) rfl fl139_3 rfl) rfl rfl rfl ?_
    refine ol_op0 (by exact opv_store (ss' := [Seg.cell V0_0 R0_0.one, Seg.cell V0_1 R0_1.one, Seg.cell (.int .i64 a0.plan.at_), Seg.cell (.bool a0.off), Seg.cell (.bool (decide (a1 ≥ 0))), Seg.cell (.int .i64 a0.left), Seg.cell (.int .i64 a0.steps)]) (xs := cellsOf [Seg.cell (.bool (decide (a1 ≥ 0)))]) rfl sz4 rfl rfl rfl (len_cellsOf _) (one_cellsOf _) b_0 (Spl.segs _ 4 1 [Seg.cell (.bool (decide (a1 ≥ 0)))] rfl rfl)) rfl rfl ?_
    rintro _ w3 ⟨b_0, q2⟩
    have R0_0 := R0_0.wr q2 N0_0
    have R0_1 := R0_1.wr q2 N0_1
    have fB := fB.wrS q2 rfl
    refine ol_val (v := .pointer (some ⟨G_0, 0, none⟩)) (by exact xr_nilCheck rfl rfl) rfl rfl rfl ?_
    refine ol_val (v := .pointer (some ⟨G_0, 5, none⟩)) (by exact xr_fieldAddr (p := 0) (q := 5) rfl fl139_4 rfl) rfl rfl rfl ?_
    refine ol_op0 (by exact opv_store (ss' := [Seg.cell V0_0 R0_0.one, Seg.cell V0_1 R0_1.one, Seg.cell (.int .i64 a0.plan.at_), Seg.cell (.bool a0.off), Seg.cell (.bool (decide (a1 ≥ 0))), Seg.cell (.int .i64 a1), Seg.cell (.int .i64 a0.steps)]) (xs := cellsOf [Seg.cell (.int .i64 a1)]) rfl sz3 rfl rfl rfl (len_cellsOf _) (one_cellsOf _) b_0 (Spl.segs _ 5 1 [Seg.cell (.int .i64 a1)] rfl rfl)) rfl rfl ?_
    rintro _ w5 ⟨b_0, q4⟩
    have R0_0 := R0_0.wr q4 N0_0
    have R0_1 := R0_1.wr q4 N0_1
    have fB := fB.wrS q4 rfl
    refine ol_nil ?_
    refine cw_region ?_
    refine ol_val (v := .pointer (some ⟨G_0, 0, none⟩)) (by exact xr_move rfl rfl) rfl rfl rfl ?_
    refine ol_val (v := .int .i64 a1) (by exact xr_move rfl rfl) rfl rfl rfl ?_
    refine ol_val (v := .bool (decide (a1 = 0))) (by exact xr_eqI rfl Try.underlying3 rfl rfl rfl) rfl rfl rfl ?_
    refine ol_val (v := .pointer (some ⟨G_0, 0, none⟩)) (by exact xr_nilCheck rfl rfl) rfl rfl rfl ?_
    refine ol_val (v := .pointer (some ⟨G_0, 3, none⟩)) (by exact xr_fieldAddr (p := 0) (q := 3) rfl fl139_2 rfl) rfl rfl rfl ?_
    refine ol_op0 (by exact opv_store (ss' := [Seg.cell V0_0 R0_0.one, Seg.cell V0_1 R0_1.one, Seg.cell (.int .i64 a0.plan.at_), Seg.cell (.bool (decide (a1 = 0))), Seg.cell (.bool (decide (a1 ≥ 0))), Seg.cell (.int .i64 a1), Seg.cell (.int .i64 a0.steps)]) (xs := cellsOf [Seg.cell (.bool (decide (a1 = 0)))]) rfl sz4 rfl rfl rfl (len_cellsOf _) (one_cellsOf _) b_0 (Spl.segs _ 3 1 [Seg.cell (.bool (decide (a1 = 0)))] rfl rfl)) rfl rfl ?_
    rintro _ w7 ⟨b_0, q6⟩
    have R0_0 := R0_0.wr q6 N0_0
    have R0_1 := R0_1.wr q6 N0_1
    have fB := fB.wrS q6 rfl
    refine ol_nil ?_
    obtain rfl := Option.some.inj h
    refine fin_end0 Try.results38 ?_
    exact ⟨_, rfl, rfl, b_0, fB⟩
end Go.Proofs.Ytklhbaghbmndeaa

/- rickyard/rickyardlaw05.Do: its model, and that the Go function computes it: written by gen.py. -/
set_option linter.unusedVariables false
namespace Go.Proofs.Ytklhbaghbmndeaa
open Go Go.Xw
def rickyardlaw05_Do.f (fu : Nat) (a0 : S_pmem_Device) (a1 : S_rickyardlaw05_Act) : Option (Int × Int × S_pmem_Device) := ((rickyardref01_Rest.f fu a1.Kind 7 : Option Int).bind fun t15 => (if (decide (t15 = 0)) = true then ((pmem_Device_Store.f fu a0 a1.At a1.W : Option (Int × S_pmem_Device)).bind fun t20 => some (0, t20.1, t20.2)) else (if (decide (t15 = 1)) = true then ((pmem_Device_Load.f fu a0 a1.At : Option (Int × Int)).bind fun t34 => some (t34.1, t34.2, a0)) else (if (decide (t15 = 2)) = true then ((pmem_Device_Flush.f fu a0 a1.At : Option (Int × S_pmem_Device)).bind fun t39 => some (0, t39.1, t39.2)) else (if (decide (t15 = 3)) = true then ((pmem_Device_Fence.f fu a0 : Option (Int × S_pmem_Device)).bind fun t53 => some (0, t53.1, t53.2)) else (((if (decide (t15 = 4)) = true then ((pmem_Device_Arm.f fu a0 a1.At : Option S_pmem_Device).bind fun t78 => some (a0.cells, a0.plan.list, t78.plan.at_, t78.off, t78.armed, t78.left, t78.steps)) else (((if (decide (t15 = 5)) = true then ((pmem_Device_Plan.f fu a0 a1.L : Option S_pmem_Device).bind fun t96 => some (t96.cells, t96.plan.list, t96.plan.at_, t96.off, t96.armed, t96.left, t96.steps)) else (((if (decide (t15 = 6)) = true then ((pmem_Device_Crash.f fu a0 a1.L : Option S_pmem_Device).bind fun t122 => some (t122.cells, t122.plan.list, t122.plan.at_, t122.off, t122.armed, t122.left, t122.steps)) else some (a0.cells, a0.plan.list, a0.plan.at_, a0.off, a0.armed, a0.left, a0.steps)) : Option ((List S_pmem_cell) × (List Int) × Int × Bool × Bool × Int × Int)).bind fun x110 => some (x110.1, x110.2.1, x110.2.2.1, x110.2.2.2.1, x110.2.2.2.2.1, x110.2.2.2.2.2.1, x110.2.2.2.2.2.2))) : Option ((List S_pmem_cell) × (List Int) × Int × Bool × Bool × Int × Int)).bind fun x84 => some (x84.1, x84.2.1, x84.2.2.1, x84.2.2.2.1, x84.2.2.2.2.1, x84.2.2.2.2.2.1, x84.2.2.2.2.2.2))) : Option ((List S_pmem_cell) × (List Int) × Int × Bool × Bool × Int × Int)).bind fun x66 => some (0, 0, (⟨x66.1, (⟨x66.2.1, x66.2.2.1⟩ : S_pmem_plan), x66.2.2.2.1, x66.2.2.2.2.1, x66.2.2.2.2.2.1, x66.2.2.2.2.2.2⟩ : S_pmem_Device))))))))
set_option maxRecDepth 100000 in
set_option maxHeartbeats 400000 in
theorem rickyardlaw05_Do.ok (fu : Nat) (w : World) (a0 : S_pmem_Device) (G_0 : Nat) (V0_0 : Value) (O0_0 : Own k_pmem_cell 142 w 0 V0_0 a0.cells) (V0_1 : Value) (O0_1 : Own (kI .i64) 3 w 0 V0_1 a0.plan.list) (b_0 : Blk w G_0 139 [Seg.cell V0_0 O0_0.one, Seg.cell V0_1 O0_1.one, Seg.cell (.int .i64 a0.plan.at_), Seg.cell (.bool a0.off), Seg.cell (.bool a0.armed), Seg.cell (.int .i64 a0.left), Seg.cell (.int .i64 a0.steps)]) (a1 : S_rickyardlaw05_Act) (V1_0 : Value) (R1_0 : Rd (kI .i64) w V1_0 a1.L) (NR1_0_P0 : OffR V1_0 a1.L G_0) (NR1_0_R0_0 : OffRV V1_0 a1.L V0_0) (NR1_0_R0_1 : OffRV V1_0 a1.L V0_1) (r : Int × Int × S_pmem_Device) (h : rickyardlaw05_Do.f fu a0 a1 = some r) :
    Calls Try.prog 31 (([.pointer (some ⟨G_0, 0, none⟩), aggV [Seg.cell (.int .i64 a1.Kind), Seg.cell (.int .i64 a1.At), Seg.cell (.int .u64 a1.W), Seg.cell V1_0 R1_0.one]] : List Value).toArray) w (fun e w' => ∃ v, e = .returned v ∧ ∃ u1 : Value, ∃ u4 : Value, ∃ o2 : Own k_pmem_cell 142 w' 0 u1 r.2.2.cells, ∃ m3 : ∀ g, Value.ownBlock u1 = some g → w.heap.size ≤ g ∨ (g = G_0 ∨ some g = Value.ownBlock V0_0 ∨ some g = Value.ownBlock V0_1), ∃ o5 : Own (kI .i64) 3 w' 0 u4 r.2.2.plan.list, ∃ m6 : ∀ g, Value.ownBlock u4 = some g → w.heap.size ≤ g ∨ (g = G_0 ∨ some g = Value.ownBlock V0_0 ∨ some g = Value.ownBlock V0_1), v = .tuple #[.int .u64 r.1, .int .i64 r.2.1] ∧ Blk w' G_0 139 [Seg.cell u1 o2.one, Seg.cell u4 o5.one, Seg.cell (.int .i64 r.2.2.plan.at_), Seg.cell (.bool r.2.2.off), Seg.cell (.bool r.2.2.armed), Seg.cell (.int .i64 r.2.2.left), Seg.cell (.int .i64 r.2.2.steps)] ∧ Fr (fun j => j = G_0 ∨ some j = Value.ownBlock V0_0 ∨ some j = Value.ownBlock V0_1) w w') := by
  unfold rickyardlaw05_Do.f at h
  have fB : Fr (fun j => j = G_0 ∨ some j = Value.ownBlock V0_0 ∨ some j = Value.ownBlock V0_1) w w := Fr.refl _ _
  have M0_0 : ∀ g, Value.ownBlock V0_0 = some g → w.heap.size ≤ g ∨ (g = G_0 ∨ some g = Value.ownBlock V0_0 ∨ some g = Value.ownBlock V0_1) := fun g hg => .inr (.inr (.inl hg.symm))
  have M0_1 : ∀ g, Value.ownBlock V0_1 = some g → w.heap.size ≤ g ∨ (g = G_0 ∨ some g = Value.ownBlock V0_0 ∨ some g = Value.ownBlock V0_1) := fun g hg => .inr (.inr (.inr hg.symm))
  refine calls_cw Try.func31 rfl Try.ntmps31 rfl ?_
  refine cw_seq ?_
  refine cw_region ?_
  refine ol_op (by exact opv_box (ss := [Seg.cell (.int .i64 a1.Kind), Seg.cell (.int .i64 a1.At), Seg.cell (.int .u64 a1.W), Seg.cell V1_0 R1_0.one]) rfl rfl rfl) rfl rfl rfl ?_
  rintro _ w12 ⟨G7, rfl, b8, q9, z10⟩
  have n13 := b_0.ne z10
  have a14 := OffR.new R1_0 z10 rfl
  have z10 := Nat.le_trans fB.size z10
  have b_0 := b_0.gr q9
  have O0_0 := O0_0.gr q9
  have O0_1 := O0_1.gr q9
  have R1_0 := R1_0.gr q9
  have fB := fB.gr q9
  refine ol_val (v := .int .u64 0) (by exact xr_assign rfl rfl) rfl rfl rfl ?_
  refine ol_val (v := .int .i64 0) (by exact xr_assign rfl rfl) rfl rfl rfl ?_
  refine ol_nil ?_
  refine cw_seq ?_
  refine cw_seq ?_
  refine cw_region ?_
  refine ol_val (v := .pointer (some ⟨G7, 0, none⟩)) (by exact xr_fieldAddr (p := 0) (q := 0) rfl fl39_0 rfl) rfl rfl rfl ?_
  refine ol_val (v := .int .i64 a1.Kind) (by exact xr_load1 (v := .int .i64 a1.Kind) rfl ag3 rfl (b8.seg 0 rfl rfl)) rfl rfl rfl ?_
  obtain ⟨t15, k16, h⟩ := bs h
  refine ol_op (by exact opv_call rfl cal27 (ac rfl (ac rfl an)) (rickyardref01_Rest.ok fu _ a1.Kind 7 _ k16)) rfl rfl rfl ?_
  rintro _ w18 ⟨rfl, q17⟩
  have b_0 := b_0.gr q17
  have b8 := b8.gr q17
  have O0_0 := O0_0.gr q17
  have O0_1 := O0_1.gr q17
  have R1_0 := R1_0.gr q17
  have fB := fB.gr q17
  refine ol_nil ?_
  refine cw_block ?_
  refine cw_seq ?_
  refine cw_region ?_
  refine ol_val (v := .bool (decide (t15 = 0))) (by exact xr_eqI rfl Try.underlying3 rfl rfl rfl) rfl rfl rfl ?_
  refine ol_val (v := .bool (decide (t15 = 0))) (by exact xr_assign rfl rfl) rfl rfl rfl ?_
  refine ol_nil ?_
  rcases is h with ⟨c19, h⟩ | ⟨c19, h⟩
  · refine cw_condT rfl c19 ?_
    refine cw_seq ?_
    refine cw_region ?_
    refine ol_val (v := .pointer (some ⟨G_0, 0, none⟩)) (by exact xr_move rfl rfl) rfl rfl rfl ?_
    refine ol_val (v := .pointer (some ⟨G7, 1, none⟩)) (by exact xr_fieldAddr (p := 0) (q := 1) rfl fl39_1 rfl) rfl rfl rfl ?_
    refine ol_val (v := .int .i64 a1.At) (by exact xr_load1 (v := .int .i64 a1.At) rfl ag3 rfl (b8.seg 1 rfl rfl)) rfl rfl rfl ?_
    refine ol_val (v := .pointer (some ⟨G7, 2, none⟩)) (by exact xr_fieldAddr (p := 0) (q := 2) rfl fl39_2 rfl) rfl rfl rfl ?_
    refine ol_val (v := .int .u64 a1.W) (by exact xr_load1 (v := .int .u64 a1.W) rfl ag22 rfl (b8.seg 2 rfl rfl)) rfl rfl rfl ?_
    obtain ⟨t20, k21, h⟩ := bs h
    have c31 : ∀ k, (k = G_0 ∨ some k = Value.ownBlock V0_0 ∨ some k = Value.ownBlock V0_1) → (w.heap.size ≤ k ∨ (k = G_0 ∨ some k = Value.ownBlock V0_0 ∨ some k = Value.ownBlock V0_1)) := (cv_or (cv_eq (.inr (.inl rfl))) (cv_or (cv_own M0_0) (cv_own M0_1)))
    refine ol_op (by exact opv_call rfl cal28 (ac rfl (ac rfl (ac rfl an))) (pmem_Device_Store.ok fu _ a0 G_0 V0_0 (Own.base O0_0 (Nat.zero_le _)) V0_1 (Own.base O0_1 (Nat.zero_le _)) b_0 a1.At a1.W _ k21)) rfl rfl rfl ?_
    rintro _ w32 ⟨u23, u27, o24, m25, o28, m29, rfl, b_0, q22⟩
    have m25 : ∀ g, Value.ownBlock u23 = some g → w.heap.size ≤ g ∨ (g = G_0 ∨ some g = Value.ownBlock V0_0 ∨ some g = Value.ownBlock V0_1) := fun g hg => (m25 g hg).elim (fun x => .inl (Nat.le_trans fB.size x)) (c31 g)
    have m29 : ∀ g, Value.ownBlock u27 = some g → w.heap.size ≤ g ∨ (g = G_0 ∨ some g = Value.ownBlock V0_0 ∨ some g = Value.ownBlock V0_1) := fun g hg => (m29 g hg).elim (fun x => .inl (Nat.le_trans fB.size x)) (c31 g)
    have fB := fB.call q22 c31
    refine ol_val (v := .int .u64 0) (by exact xr_assign rfl rfl) rfl rfl rfl ?_
    refine ol_val (v := .int .i64 t20.1) (by exact xr_assign rfl rfl) rfl rfl rfl ?_
    refine ol_nil ?_
    refine cw_ret ?_
    repeat (first | with_reducible refine thn_r ?_ | with_reducible refine blk_r ?_)
    obtain rfl := Option.some.inj h
    refine fin_ret2 Try.results31 rfl rfl ?_
    exact ⟨_, rfl, u23, u27, o24, m25, o28, m29, rfl, b_0, fB⟩
  · refine cw_condF rfl c19 ?_
    refine cw_seq ?_
    refine cw_region ?_
    refine ol_val (v := .bool (decide (t15 = 1))) (by exact xr_eqI rfl Try.underlying3 rfl rfl rfl) rfl rfl rfl ?_
    refine ol_val (v := .bool (decide (t15 = 1))) (by exact xr_assign rfl rfl) rfl rfl rfl ?_
    refine ol_nil ?_
    rcases is h with ⟨c33, h⟩ | ⟨c33, h⟩
    · refine cw_condT rfl c33 ?_
      refine cw_seq ?_
      refine cw_region ?_
      refine ol_val (v := .pointer (some ⟨G_0, 0, none⟩)) (by exact xr_move rfl rfl) rfl rfl rfl ?_
      refine ol_val (v := .pointer (some ⟨G7, 1, none⟩)) (by exact xr_fieldAddr (p := 0) (q := 1) rfl fl39_1 rfl) rfl rfl rfl ?_
      refine ol_val (v := .int .i64 a1.At) (by exact xr_load1 (v := .int .i64 a1.At) rfl ag3 rfl (b8.seg 1 rfl rfl)) rfl rfl rfl ?_
      obtain ⟨t34, k35, h⟩ := bs h
      refine ol_op (by exact opv_call rfl cal82 (ac rfl (ac rfl an)) (pmem_Device_Load.ok fu _ a0 G_0 V0_0 (O0_0.rd) V0_1 (O0_1.rd) b_0 a1.At _ k35)) rfl rfl rfl ?_
      rintro _ w37 ⟨rfl, q36⟩
      have b_0 := b_0.gr q36
      have O0_0 := O0_0.gr q36
      have O0_1 := O0_1.gr q36
      have fB := fB.gr q36
      refine ol_val (v := .int .u64 t34.1) (by exact xr_extract rfl rfl rfl) rfl rfl rfl ?_
      refine ol_val (v := .int .i64 t34.2) (by exact xr_extract rfl rfl rfl) rfl rfl rfl ?_
      refine ol_val (v := .int .u64 t34.1) (by exact xr_assign rfl rfl) rfl rfl rfl ?_
      refine ol_val (v := .int .i64 t34.2) (by exact xr_assign rfl rfl) rfl rfl rfl ?_
      refine ol_nil ?_
      refine cw_ret ?_
      repeat (first | with_reducible refine thn_r ?_ | with_reducible refine blk_r ?_)
      obtain rfl := Option.some.inj h
      refine fin_ret2 Try.results31 rfl rfl ?_
      exact ⟨_, rfl, V0_0, V0_1, O0_0, M0_0, O0_1, M0_1, rfl, b_0, fB⟩
    · refine cw_condF rfl c33 ?_
      refine cw_seq ?_
      refine cw_region ?_
      refine ol_val (v := .bool (decide (t15 = 2))) (by exact xr_eqI rfl Try.underlying3 rfl rfl rfl) rfl rfl rfl ?_
      refine ol_val (v := .bool (decide (t15 = 2))) (by exact xr_assign rfl rfl) rfl rfl rfl ?_
      refine ol_nil ?_
      rcases is h with ⟨c38, h⟩ | ⟨c38, h⟩
      · refine cw_condT rfl c38 ?_
        refine cw_seq ?_
        refine cw_region ?_
        refine ol_val (v := .pointer (some ⟨G_0, 0, none⟩)) (by exact xr_move rfl rfl) rfl rfl rfl ?_
        refine ol_val (v := .pointer (some ⟨G7, 1, none⟩)) (by exact xr_fieldAddr (p := 0) (q := 1) rfl fl39_1 rfl) rfl rfl rfl ?_
        refine ol_val (v := .int .i64 a1.At) (by exact xr_load1 (v := .int .i64 a1.At) rfl ag3 rfl (b8.seg 1 rfl rfl)) rfl rfl rfl ?_
        obtain ⟨t39, k40, h⟩ := bs h
        have c50 : ∀ k, (k = G_0 ∨ some k = Value.ownBlock V0_0 ∨ some k = Value.ownBlock V0_1) → (w.heap.size ≤ k ∨ (k = G_0 ∨ some k = Value.ownBlock V0_0 ∨ some k = Value.ownBlock V0_1)) := (cv_or (cv_eq (.inr (.inl rfl))) (cv_or (cv_own M0_0) (cv_own M0_1)))
        refine ol_op (by exact opv_call rfl cal29 (ac rfl (ac rfl an)) (pmem_Device_Flush.ok fu _ a0 G_0 V0_0 (Own.base O0_0 (Nat.zero_le _)) V0_1 (Own.base O0_1 (Nat.zero_le _)) b_0 a1.At _ k40)) rfl rfl rfl ?_
        rintro _ w51 ⟨u42, u46, o43, m44, o47, m48, rfl, b_0, q41⟩
        have m44 : ∀ g, Value.ownBlock u42 = some g → w.heap.size ≤ g ∨ (g = G_0 ∨ some g = Value.ownBlock V0_0 ∨ some g = Value.ownBlock V0_1) := fun g hg => (m44 g hg).elim (fun x => .inl (Nat.le_trans fB.size x)) (c50 g)
        have m48 : ∀ g, Value.ownBlock u46 = some g → w.heap.size ≤ g ∨ (g = G_0 ∨ some g = Value.ownBlock V0_0 ∨ some g = Value.ownBlock V0_1) := fun g hg => (m48 g hg).elim (fun x => .inl (Nat.le_trans fB.size x)) (c50 g)
        have fB := fB.call q41 c50
        refine ol_val (v := .int .u64 0) (by exact xr_assign rfl rfl) rfl rfl rfl ?_
        refine ol_val (v := .int .i64 t39.1) (by exact xr_assign rfl rfl) rfl rfl rfl ?_
        refine ol_nil ?_
        refine cw_ret ?_
        repeat (first | with_reducible refine thn_r ?_ | with_reducible refine blk_r ?_)
        obtain rfl := Option.some.inj h
        refine fin_ret2 Try.results31 rfl rfl ?_
        exact ⟨_, rfl, u42, u46, o43, m44, o47, m48, rfl, b_0, fB⟩
      · refine cw_condF rfl c38 ?_
        refine cw_seq ?_
        refine cw_region ?_
        refine ol_val (v := .bool (decide (t15 = 3))) (by exact xr_eqI rfl Try.underlying3 rfl rfl rfl) rfl rfl rfl ?_
        refine ol_val (v := .bool (decide (t15 = 3))) (by exact xr_assign rfl rfl) rfl rfl rfl ?_
        refine ol_nil ?_
        rcases is h with ⟨c52, h⟩ | ⟨c52, h⟩
        · refine cw_condT rfl c52 ?_
          refine cw_seq ?_
          refine cw_region ?_
          refine ol_val (v := .pointer (some ⟨G_0, 0, none⟩)) (by exact xr_move rfl rfl) rfl rfl rfl ?_
          obtain ⟨t53, k54, h⟩ := bs h
          have c64 : ∀ k, (k = G_0 ∨ some k = Value.ownBlock V0_0 ∨ some k = Value.ownBlock V0_1) → (w.heap.size ≤ k ∨ (k = G_0 ∨ some k = Value.ownBlock V0_0 ∨ some k = Value.ownBlock V0_1)) := (cv_or (cv_eq (.inr (.inl rfl))) (cv_or (cv_own M0_0) (cv_own M0_1)))
          refine ol_op (by exact opv_call rfl cal30 (ac rfl an) (pmem_Device_Fence.ok fu _ a0 G_0 V0_0 (Own.base O0_0 (Nat.zero_le _)) V0_1 (Own.base O0_1 (Nat.zero_le _)) b_0 _ k54)) rfl rfl rfl ?_
          rintro _ w65 ⟨u56, u60, o57, m58, o61, m62, rfl, b_0, q55⟩
          have m58 : ∀ g, Value.ownBlock u56 = some g → w.heap.size ≤ g ∨ (g = G_0 ∨ some g = Value.ownBlock V0_0 ∨ some g = Value.ownBlock V0_1) := fun g hg => (m58 g hg).elim (fun x => .inl (Nat.le_trans fB.size x)) (c64 g)
          have m62 : ∀ g, Value.ownBlock u60 = some g → w.heap.size ≤ g ∨ (g = G_0 ∨ some g = Value.ownBlock V0_0 ∨ some g = Value.ownBlock V0_1) := fun g hg => (m62 g hg).elim (fun x => .inl (Nat.le_trans fB.size x)) (c64 g)
          have fB := fB.call q55 c64
          refine ol_val (v := .int .u64 0) (by exact xr_assign rfl rfl) rfl rfl rfl ?_
          refine ol_val (v := .int .i64 t53.1) (by exact xr_assign rfl rfl) rfl rfl rfl ?_
          refine ol_nil ?_
          refine cw_ret ?_
          repeat (first | with_reducible refine thn_r ?_ | with_reducible refine blk_r ?_)
          obtain rfl := Option.some.inj h
          refine fin_ret2 Try.results31 rfl rfl ?_
          exact ⟨_, rfl, u56, u60, o57, m58, o61, m62, rfl, b_0, fB⟩
        · refine cw_condF rfl c52 ?_
          refine cw_seq ?_
          refine cw_region ?_
          refine ol_val (v := .bool (decide (t15 = 4))) (by exact xr_eqI rfl Try.underlying3 rfl rfl rfl) rfl rfl rfl ?_
          refine ol_val (v := .bool (decide (t15 = 4))) (by exact xr_assign rfl rfl) rfl rfl rfl ?_
          refine ol_nil ?_
          obtain ⟨x66, j67, h68⟩ := bs h
          refine cw_mid (fun ρ' w' => ∃ v69 : Value, ∃ v73 : Value, ∃ o70 : Own k_pmem_cell 142 w' 0 v69 x66.1, ∃ o74 : Own (kI .i64) 3 w' 0 v73 x66.2.1, ∃ m72 : ∀ g, Value.ownBlock v69 = some g → w.heap.size ≤ g ∨ (g = G_0 ∨ some g = Value.ownBlock V0_0 ∨ some g = Value.ownBlock V0_1), ∃ m76 : ∀ g, Value.ownBlock v73 = some g → w.heap.size ≤ g ∨ (g = G_0 ∨ some g = Value.ownBlock V0_0 ∨ some g = Value.ownBlock V0_1), Blk w' G_0 139 [Seg.cell v69 o70.one, Seg.cell v73 o74.one, Seg.cell (.int .i64 x66.2.2.1), Seg.cell (.bool x66.2.2.2.1), Seg.cell (.bool x66.2.2.2.2.1), Seg.cell (.int .i64 x66.2.2.2.2.2.1), Seg.cell (.int .i64 x66.2.2.2.2.2.2)] ∧ Fr (fun j => j = G_0 ∨ some j = Value.ownBlock V0_0 ∨ some j = Value.ownBlock V0_1) w w') ?_ ?_
          · have h := j67
            rcases is h with ⟨c77, h⟩ | ⟨c77, h⟩
            · refine cw_condT rfl c77 ?_
              refine cw_region ?_
              refine ol_val (v := .pointer (some ⟨G_0, 0, none⟩)) (by exact xr_move rfl rfl) rfl rfl rfl ?_
              refine ol_val (v := .pointer (some ⟨G7, 1, none⟩)) (by exact xr_fieldAddr (p := 0) (q := 1) rfl fl39_1 rfl) rfl rfl rfl ?_
              refine ol_val (v := .int .i64 a1.At) (by exact xr_load1 (v := .int .i64 a1.At) rfl ag3 rfl (b8.seg 1 rfl rfl)) rfl rfl rfl ?_
              obtain ⟨t78, k79, h⟩ := bs h
              have f81 := off_ty b_0 O0_0 (by decide)
              have f82 := off_ty b_0 O0_1 (by decide)
              refine ol_op (by exact opv_call rfl cal38 (ac rfl (ac rfl an)) (pmem_Device_Arm.ok fu _ a0 G_0 V0_0 O0_0.rd (OffR.own O0_0 (off_ty b_0 O0_0 (by decide))) V0_1 O0_1.rd (OffR.own O0_1 (off_ty b_0 O0_1 (by decide))) b_0 a1.At _ k79)) rfl rfl rfl ?_
              rintro _ w83 ⟨rfl, b_0, q80⟩
              have O0_0 := O0_0.wr q80 f81
              have O0_1 := O0_1.wr q80 f82
              have fB := fB.wrS q80 (.inl rfl)
              refine ol_nil ?_
              obtain rfl := Option.some.inj h
              refine thn_i ?_
              exact ⟨V0_0, V0_1, O0_0, O0_1, M0_0, M0_1, b_0, fB⟩
            · refine cw_condF rfl c77 ?_
              refine cw_seq ?_
              refine cw_region ?_
              refine ol_val (v := .bool (decide (t15 = 5))) (by exact xr_eqI rfl Try.underlying3 rfl rfl rfl) rfl rfl rfl ?_
              refine ol_val (v := .bool (decide (t15 = 5))) (by exact xr_assign rfl rfl) rfl rfl rfl ?_
              refine ol_nil ?_
              obtain ⟨x84, j85, h86⟩ := bs h
              refine cw_mid (fun ρ' w' => ∃ v87 : Value, ∃ v91 : Value, ∃ o88 : Own k_pmem_cell 142 w' 0 v87 x84.1, ∃ o92 : Own (kI .i64) 3 w' 0 v91 x84.2.1, ∃ m90 : ∀ g, Value.ownBlock v87 = some g → w.heap.size ≤ g ∨ (g = G_0 ∨ some g = Value.ownBlock V0_0 ∨ some g = Value.ownBlock V0_1), ∃ m94 : ∀ g, Value.ownBlock v91 = some g → w.heap.size ≤ g ∨ (g = G_0 ∨ some g = Value.ownBlock V0_0 ∨ some g = Value.ownBlock V0_1), Blk w' G_0 139 [Seg.cell v87 o88.one, Seg.cell v91 o92.one, Seg.cell (.int .i64 x84.2.2.1), Seg.cell (.bool x84.2.2.2.1), Seg.cell (.bool x84.2.2.2.2.1), Seg.cell (.int .i64 x84.2.2.2.2.2.1), Seg.cell (.int .i64 x84.2.2.2.2.2.2)] ∧ Fr (fun j => j = G_0 ∨ some j = Value.ownBlock V0_0 ∨ some j = Value.ownBlock V0_1) w w') ?_ ?_
              · have h := j85
                rcases is h with ⟨c95, h⟩ | ⟨c95, h⟩
                · refine cw_condT rfl c95 ?_
                  refine cw_region ?_
                  refine ol_val (v := .pointer (some ⟨G_0, 0, none⟩)) (by exact xr_move rfl rfl) rfl rfl rfl ?_
                  refine ol_val (v := .pointer (some ⟨G7, 3, none⟩)) (by exact xr_fieldAddr (p := 0) (q := 3) rfl fl39_3 rfl) rfl rfl rfl ?_
                  refine ol_val (v := V1_0) (by exact xr_load1 (v := V1_0) rfl ag25 rfl (b8.seg 3 rfl rfl)) rfl rfl rfl ?_
                  obtain ⟨t96, k97, h⟩ := bs h
                  have f107 := (ro_or (ro_eq NR1_0_P0) (ro_or (ro_own NR1_0_R0_0) (ro_own NR1_0_R0_1)))
                  have c108 : ∀ k, (k = G_0 ∨ some k = Value.ownBlock V0_0 ∨ some k = Value.ownBlock V0_1) → (w.heap.size ≤ k ∨ (k = G_0 ∨ some k = Value.ownBlock V0_0 ∨ some k = Value.ownBlock V0_1)) := (cv_or (cv_eq (.inr (.inl rfl))) (cv_or (cv_own M0_0) (cv_own M0_1)))
                  refine ol_op (by exact opv_call rfl cal35 (ac rfl (ac rfl an)) (pmem_Device_Plan.ok fu _ a0 G_0 V0_0 (Own.base O0_0 (Nat.zero_le _)) V0_1 (Own.base O0_1 (Nat.zero_le _)) b_0 a1.L V1_0 (R1_0) NR1_0_P0 NR1_0_R0_0 NR1_0_R0_1 _ k97)) rfl rfl rfl ?_
                  rintro _ w109 ⟨u99, u103, o100, m101, o104, m105, rfl, b_0, q98⟩
                  have m101 : ∀ g, Value.ownBlock u99 = some g → w.heap.size ≤ g ∨ (g = G_0 ∨ some g = Value.ownBlock V0_0 ∨ some g = Value.ownBlock V0_1) := fun g hg => (m101 g hg).elim (fun x => .inl (Nat.le_trans fB.size x)) (c108 g)
                  have m105 : ∀ g, Value.ownBlock u103 = some g → w.heap.size ≤ g ∨ (g = G_0 ∨ some g = Value.ownBlock V0_0 ∨ some g = Value.ownBlock V0_1) := fun g hg => (m105 g hg).elim (fun x => .inl (Nat.le_trans fB.size x)) (c108 g)
                  have fB := fB.call q98 c108
                  refine ol_nil ?_
                  obtain rfl := Option.some.inj h
                  refine thn_i ?_
                  exact ⟨u99, u103, o100, o104, m101, m105, b_0, fB⟩
                · refine cw_condF rfl c95 ?_
                  refine cw_seq ?_
                  refine cw_region ?_
                  refine ol_val (v := .bool (decide (t15 = 6))) (by exact xr_eqI rfl Try.underlying3 rfl rfl rfl) rfl rfl rfl ?_
                  refine ol_val (v := .bool (decide (t15 = 6))) (by exact xr_assign rfl rfl) rfl rfl rfl ?_
                  refine ol_nil ?_
                  obtain ⟨x110, j111, h112⟩ := bs h
                  refine cw_mid (fun ρ' w' => ∃ v113 : Value, ∃ v117 : Value, ∃ o114 : Own k_pmem_cell 142 w' 0 v113 x110.1, ∃ o118 : Own (kI .i64) 3 w' 0 v117 x110.2.1, ∃ m116 : ∀ g, Value.ownBlock v113 = some g → w.heap.size ≤ g ∨ (g = G_0 ∨ some g = Value.ownBlock V0_0 ∨ some g = Value.ownBlock V0_1), ∃ m120 : ∀ g, Value.ownBlock v117 = some g → w.heap.size ≤ g ∨ (g = G_0 ∨ some g = Value.ownBlock V0_0 ∨ some g = Value.ownBlock V0_1), Blk w' G_0 139 [Seg.cell v113 o114.one, Seg.cell v117 o118.one, Seg.cell (.int .i64 x110.2.2.1), Seg.cell (.bool x110.2.2.2.1), Seg.cell (.bool x110.2.2.2.2.1), Seg.cell (.int .i64 x110.2.2.2.2.2.1), Seg.cell (.int .i64 x110.2.2.2.2.2.2)] ∧ Fr (fun j => j = G_0 ∨ some j = Value.ownBlock V0_0 ∨ some j = Value.ownBlock V0_1) w w') ?_ ?_
                  · have h := j111
                    rcases is h with ⟨c121, h⟩ | ⟨c121, h⟩
                    · refine cw_condT rfl c121 ?_
                      refine cw_region ?_
                      refine ol_val (v := .pointer (some ⟨G_0, 0, none⟩)) (by exact xr_move rfl rfl) rfl rfl rfl ?_
                      refine ol_val (v := .pointer (some ⟨G7, 3, none⟩)) (by exact xr_fieldAddr (p := 0) (q := 3) rfl fl39_3 rfl) rfl rfl rfl ?_
                      refine ol_val (v := V1_0) (by exact xr_load1 (v := V1_0) rfl ag25 rfl (b8.seg 3 rfl rfl)) rfl rfl rfl ?_
                      obtain ⟨t122, k123, h⟩ := bs h
                      have f133 := (ro_or (ro_eq NR1_0_P0) (ro_or (ro_own NR1_0_R0_0) (ro_own NR1_0_R0_1)))
                      have c134 : ∀ k, (k = G_0 ∨ some k = Value.ownBlock V0_0 ∨ some k = Value.ownBlock V0_1) → (w.heap.size ≤ k ∨ (k = G_0 ∨ some k = Value.ownBlock V0_0 ∨ some k = Value.ownBlock V0_1)) := (cv_or (cv_eq (.inr (.inl rfl))) (cv_or (cv_own M0_0) (cv_own M0_1)))
                      refine ol_op (by exact opv_call rfl cal32 (ac rfl (ac rfl an)) (pmem_Device_Crash.ok fu _ a0 G_0 V0_0 (Own.base O0_0 (Nat.zero_le _)) V0_1 (Own.base O0_1 (Nat.zero_le _)) b_0 a1.L V1_0 (R1_0) NR1_0_P0 NR1_0_R0_0 NR1_0_R0_1 _ k123)) rfl rfl rfl ?_
                      rintro _ w135 ⟨u125, u129, o126, m127, o130, m131, rfl, b_0, q124⟩
                      have m127 : ∀ g, Value.ownBlock u125 = some g → w.heap.size ≤ g ∨ (g = G_0 ∨ some g = Value.ownBlock V0_0 ∨ some g = Value.ownBlock V0_1) := fun g hg => (m127 g hg).elim (fun x => .inl (Nat.le_trans fB.size x)) (c134 g)
                      have m131 : ∀ g, Value.ownBlock u129 = some g → w.heap.size ≤ g ∨ (g = G_0 ∨ some g = Value.ownBlock V0_0 ∨ some g = Value.ownBlock V0_1) := fun g hg => (m131 g hg).elim (fun x => .inl (Nat.le_trans fB.size x)) (c134 g)
                      have fB := fB.call q124 c134
                      refine ol_nil ?_
                      obtain rfl := Option.some.inj h
                      refine thn_i ?_
                      exact ⟨u125, u129, o126, o130, m127, m131, b_0, fB⟩
                    · refine cw_condF rfl c121 ?_
                      refine cw_skip ?_
                      obtain rfl := Option.some.inj h
                      refine thn_i ?_
                      exact ⟨V0_0, V0_1, O0_0, O0_1, M0_0, M0_1, b_0, fB⟩
                  · rintro ρ136 w137 ⟨v113, v117, o114, o118, m116, m120, b_0, fB⟩
                    have h := h112
                    obtain rfl := Option.some.inj h
                    refine thn_i ?_
                    exact ⟨v113, v117, o114, o118, m116, m120, b_0, fB⟩
              · rintro ρ138 w139 ⟨v87, v91, o88, o92, m90, m94, b_0, fB⟩
                have h := h86
                obtain rfl := Option.some.inj h
                refine thn_i ?_
                exact ⟨v87, v91, o88, o92, m90, m94, b_0, fB⟩
          · rintro ρ140 w141 ⟨v69, v73, o70, o74, m72, m76, b_0, fB⟩
            have h := h68
            refine blk_i ?_
            refine cw_seq ?_
            refine cw_region ?_
            refine ol_val (v := .int .u64 0) (by exact xr_assign rfl rfl) rfl rfl rfl ?_
            refine ol_val (v := .int .i64 0) (by exact xr_assign rfl rfl) rfl rfl rfl ?_
            refine ol_nil ?_
            refine cw_ret ?_
            repeat (first | with_reducible refine thn_r ?_ | with_reducible refine blk_r ?_)
            obtain rfl := Option.some.inj h
            refine fin_ret2 Try.results31 rfl rfl ?_
            exact ⟨_, rfl, v69, v73, o70, m72, o74, m76, rfl, b_0, fB⟩
end Go.Proofs.Ytklhbaghbmndeaa

/- A device, in plain words: what each step leaves. -/
set_option linter.unusedVariables false
set_option linter.unusedSimpArgs false
namespace Go.Proofs.Ytklhbaghbmndeaa.Pure
open Go Go.Xw
abbrev Cell := S_pmem_cell
abbrev Dev := S_pmem_Device
def keepC (c : Cell) (w : Int) : Cell := ⟨w, c.stored, 0, false⟩
def openC (c : Cell) : Bool := c.flushed || !decide (c.stored = c.lasts)
def evict (p : Int) (cs : List Cell) : List Cell := cs.mapIdx fun i c => if 0 ≤ p ∧ (i : Int) = p % (cs.length : Int) then keepC c c.stored else c
def pick (p : S_pmem_plan) : Int := if p.list.length = 0 then -1 else ix p.list p.at_
def nextP (p : S_pmem_plan) : S_pmem_plan := if p.list.length = 0 then p else ⟨p.list, (p.at_ + 1) % (p.list.length : Int)⟩
def tick (d : Dev) : Dev := ⟨evict (pick d.plan) d.cells, nextP d.plan, if d.armed then decide (d.left - 1 = 0) else d.off, d.armed, if d.armed then d.left - 1 else d.left, d.steps + 1⟩
def mayI (off : Bool) (k n : Int) : Int := if off = true then 3 else if k < 0 ∨ k ≥ n then 2 else 0
def putC (k w : Int) (cs : List Cell) : List Cell := cs.mapIdx fun i c => if (i : Int) = k then ⟨c.lasts, w, c.sent, c.flushed⟩ else c
def sendC (c : Cell) : Cell := ⟨c.lasts, c.stored, c.stored, true⟩
def sendL (k : Int) (cs : List Cell) : List Cell := cs.mapIdx fun i c => if 8 * k ≤ (i : Int) ∧ (i : Int) < 8 * k + 8 then sendC c else c
def fenceC (c : Cell) : Cell := if c.flushed = true then keepC c c.sent else c
def withC (d : Dev) (cs : List Cell) : Dev := ⟨cs, d.plan, d.off, d.armed, d.left, d.steps⟩
def storeD (d : Dev) (k w : Int) : Int × Dev := if mayI d.off k (d.cells.length : Int) = 0 then (0, tick (withC d (putC k w d.cells))) else (mayI d.off k (d.cells.length : Int), d)
def loadD (d : Dev) (k : Int) : Int × Int := if mayI d.off k (d.cells.length : Int) = 0 then ((ix d.cells k).stored, 0) else (0, mayI d.off k (d.cells.length : Int))
def flushD (d : Dev) (k : Int) : Int × Dev := if mayI d.off k ((d.cells.length / 8 : Nat) : Int) = 0 then (0, tick (withC d (sendL k d.cells))) else (mayI d.off k ((d.cells.length / 8 : Nat) : Int), d)
def fenceD (d : Dev) : Int × Dev := if d.off = true then (3, d) else (0, tick (withC d (d.cells.map fenceC)))
def armD (d : Dev) (n : Int) : Dev := if d.off = true then d else ⟨d.cells, d.plan, decide (n = 0), decide (n ≥ 0), n, d.steps⟩
def planD (d : Dev) (l : List Int) : Dev := ⟨d.cells, ⟨l, 0⟩, d.off, d.armed, d.left, d.steps⟩
def fateC (c : Cell) (n : Int) : Int := if n % 3 = 2 then c.stored else if n % 3 = 1 ∧ c.flushed = true then c.sent else c.lasts
def opens (cs : List Cell) (i : Nat) : Nat := ((cs.take i).filter openC).length
def crashC (c : Cell) (n : Int) : Cell := if openC c = true then ⟨fateC c n, fateC c n, 0, false⟩ else ⟨c.lasts, c.lasts, c.sent, c.flushed⟩
def crashL (l : List Int) (cs : List Cell) : List Cell := cs.mapIdx fun i c => crashC c (l.getD (opens cs i) 0)
def crashD (d : Dev) (l : List Int) : Dev := ⟨crashL l d.cells, ⟨[], 0⟩, false, false, 0, d.steps⟩
def doD (d : Dev) (a : S_rickyardlaw05_Act) : (Int × Int) × Dev :=
  if a.Kind % 7 = 0 then ((0, (storeD d a.At a.W).1), (storeD d a.At a.W).2)
  else if a.Kind % 7 = 1 then (loadD d a.At, d)
  else if a.Kind % 7 = 2 then ((0, (flushD d a.At).1), (flushD d a.At).2)
  else if a.Kind % 7 = 3 then ((0, (fenceD d).1), (fenceD d).2)
  else if a.Kind % 7 = 4 then ((0, 0), armD d a.At)
  else if a.Kind % 7 = 5 then ((0, 0), planD d a.L)
  else ((0, 0), crashD d a.L)
def I64 (x : Int) : Prop := -9223372036854775808 ≤ x ∧ x ≤ 9223372036854775807
def U64 (x : Int) : Prop := 0 ≤ x ∧ x ≤ 18446744073709551615
def okC (c : Cell) : Prop := U64 c.lasts ∧ U64 c.stored ∧ U64 c.sent
/-- A device of `n` words that is as it should be, behind at most `B` steps. -/
structure DevOk (n : Nat) (B : Int) (d : Dev) : Prop where
  len : d.cells.length = n
  val : ∀ c ∈ d.cells, okC c
  at0 : d.plan.list.length ≠ 0 → 0 ≤ d.plan.at_ ∧ d.plan.at_ < (d.plan.list.length : Int)
  pl : d.plan.list.length ≤ 1000
  arm : d.armed = true → 0 ≤ d.left ∧ d.left ≤ 9223372036854775807 ∧ d.off = decide (d.left = 0)
  una : d.armed = false → d.off = false
  st : 0 ≤ d.steps ∧ d.steps ≤ B
theorem next_eq {fu : Nat} {p : S_pmem_plan} (h0 : p.list.length ≠ 0 → 0 ≤ p.at_ ∧ p.at_ < (p.list.length : Int)) (hl : p.list.length ≤ 1000) : pmem_plan_next__i0.f fu p = some (pick p, nextP p) := by
  unfold pmem_plan_next__i0.f pick nextP
  by_cases e : p.list.length = 0
  · have e' : (p.list.length : Int) = 0 := by omega
    rw [decide_eq_true e', if_pos rfl, if_pos e, if_pos e]
  · have e' : ¬ (p.list.length : Int) = 0 := by omega
    have h := h0 e
    rw [decide_eq_false e', if_neg (by decide), if_pos h, if_pos e', if_neg e, if_neg e, w64 (by omega) (by omega), Int.tmod_eq_emod_of_nonneg (by omega)]
theorem set_upd {cs : List Cell} {k : Nat} (g : Cell → Cell) (hk : k < cs.length) : cs.set k (g (ix cs (k : Int))) = cs.mapIdx fun i c => if i = k then g c else c := by
  rw [ix_nat hk]
  apply List.ext_getElem (by simp)
  intro i h1 h2
  rw [List.getElem_set, List.getElem_mapIdx]
  by_cases e : k = i
  · subst e
    simp
  · rw [if_neg e, if_neg (fun q => e q.symm)]
theorem evict_no {p : Int} (cs : List Cell) (h : ¬ 0 ≤ p) : evict p cs = cs := by
  apply List.ext_getElem (by simp [evict])
  intro i h1 h2
  simp only [evict, List.getElem_mapIdx]
  rw [if_neg fun q => h q.1]
theorem evict_nil {p : Int} : evict p [] = [] := by simp [evict]
theorem dstep_eq {fu n : Nat} {B : Int} {d : Dev} (h : DevOk n B d) (hB : B < 9223372036854775807) (ho : d.off = false) : pmem_Device_step.f fu d = some (tick d) := by
  unfold pmem_Device_step.f
  rw [next_eq h.at0 h.pl]
  have hs := h.st
  have w1 : IntKind.i64.wrap (d.steps + 1) = d.steps + 1 := w64 (by omega) (by omega)
  have hc : ∀ q, q = pick d.plan → ((if (if (decide (q ≥ 0)) = true then (decide ((List.length d.cells : Int) > 0)) else false) = true then (if (List.length d.cells : Int) ≠ 0 then (if 0 ≤ (Int.tmod q (List.length d.cells : Int)) ∧ (Int.tmod q (List.length d.cells : Int)) < (List.length d.cells : Int) then ((pmem_cell_keep__i0.f fu (ix d.cells (Int.tmod q (List.length d.cells : Int))) ((ix d.cells (Int.tmod q (List.length d.cells : Int))).stored) : Option S_pmem_cell).bind fun t35 => some ((List.set d.cells (Int.toNat (Int.tmod q (List.length d.cells : Int))) t35))) else none) else none) else some (d.cells)) : Option (List S_pmem_cell)) = some (evict q d.cells) := by
    intro q _
    by_cases hq : q ≥ 0
    · rw [decide_eq_true hq]
      by_cases hl : (List.length d.cells : Int) > 0
      · rw [decide_eq_true hl, Int.tmod_eq_emod_of_nonneg hq]
        have hm0 := Int.emod_nonneg q (show (List.length d.cells : Int) ≠ 0 by omega)
        have hm1 := Int.emod_lt_of_pos q hl
        have e1 : (List.length d.cells : Int) ≠ 0 := by omega
        simp only [if_true, e1, ne_eq, not_false_eq_true, hm0, hm1, and_self, pmem_cell_keep__i0.f, Option.bind_some]
        obtain ⟨k, hk⟩ : ∃ k : Nat, q % (List.length d.cells : Int) = (k : Int) := ⟨(q % (List.length d.cells : Int)).toNat, by omega⟩
        have hkl : k < d.cells.length := by omega
        rw [hk, Int.toNat_natCast]
        refine congrArg some ((set_upd (fun c => keepC c c.stored) hkl).trans ?_)
        apply List.ext_getElem (by simp [evict])
        intro i h1 h2
        simp only [evict, List.getElem_mapIdx, hk]
        by_cases e : i = k
        · rw [if_pos e, if_pos ⟨hq, by omega⟩]
        · rw [if_neg e, if_neg fun z => e (by omega)]
      · have : d.cells = [] := List.length_eq_zero_iff.1 (by omega)
        rw [this]
        simp [evict]
    · rw [evict_no _ hq, decide_eq_false hq]
      simp
  have hd : ∀ (r : List Cell), ((((if d.armed = true then some ((decide ((IntKind.i64.wrap (d.left - 1)) = 0)), (IntKind.i64.wrap (d.left - 1))) else some (d.off, d.left)) : Option (Bool × Int)).bind fun x45 => some ((⟨r, (⟨d.plan.list, (nextP d.plan).at_⟩ : S_pmem_plan), x45.1, d.armed, x45.2, (IntKind.i64.wrap (d.steps + 1))⟩ : S_pmem_Device))) : Option Dev) = some ⟨r, nextP d.plan, if d.armed then decide (d.left - 1 = 0) else d.off, d.armed, if d.armed then d.left - 1 else d.left, d.steps + 1⟩ := by
    intro r
    have hp : (⟨d.plan.list, (nextP d.plan).at_⟩ : S_pmem_plan) = nextP d.plan := by
      unfold nextP
      split <;> rfl
    rw [w1, hp]
    cases ha : d.armed
    · simp
    · have := h.arm ha
      rw [ho] at this
      have : d.left ≠ 0 := by
        intro e
        rw [e] at this
        exact absurd this.2.2 (by decide)
      rw [w64 (by omega) (by omega)]
      simp
  simp only [Option.bind_some]
  rw [hc _ rfl]
  exact hd _
theorem evict_len (p : Int) (cs : List Cell) : (evict p cs).length = cs.length := by simp [evict]
theorem keep_ok {c : Cell} {w : Int} (h : okC c) (hw : U64 w) : okC (keepC c w) := ⟨hw, h.2.1, by unfold U64; simp [keepC]⟩
theorem mapIdx_ok {cs : List Cell} {g : Nat → Cell → Cell} (h : ∀ c ∈ cs, okC c) (hg : ∀ i c, okC c → okC (g i c)) : ∀ c ∈ cs.mapIdx g, okC c := by
  intro c hc
  obtain ⟨i, hi, rfl⟩ := List.getElem_of_mem hc
  rw [List.getElem_mapIdx]
  exact hg _ _ (h _ (List.getElem_mem _))
theorem evict_ok {p : Int} {cs : List Cell} (h : ∀ c ∈ cs, okC c) : ∀ c ∈ evict p cs, okC c := by
  refine mapIdx_ok h fun i c hc => ?_
  split
  · exact keep_ok hc hc.2.1
  · exact hc
theorem tick_ok {n : Nat} {B : Int} {d : Dev} (h : DevOk n B d) (ho : d.off = false) : DevOk n (B + 1) (tick d) := by
  refine ⟨?_, ?_, ?_, ?_, ?_, ?_, ?_⟩
  · exact (evict_len _ _).trans h.len
  · exact evict_ok h.val
  · intro e
    by_cases z : d.plan.list.length = 0
    · exact absurd (by simp [tick, nextP, z]) e
    · have : (tick d).plan = ⟨d.plan.list, (d.plan.at_ + 1) % (d.plan.list.length : Int)⟩ := by simp [tick, nextP, z]
      rw [this]
      exact ⟨Int.emod_nonneg _ (by omega), Int.emod_lt_of_pos _ (by omega)⟩
  · by_cases z : d.plan.list.length = 0
    · simp [tick, nextP, z]
    · simp only [tick, nextP, z, if_false]
      exact h.pl
  · intro ha
    have ha' : d.armed = true := ha
    have := h.arm ha'
    have hl : d.left ≠ 0 := by
      intro e
      rw [e, ho] at this
      exact absurd this.2.2 (by decide)
    simp only [tick, ha', if_true]
    exact ⟨by omega, by omega, trivial⟩
  · intro ha
    have ha' : d.armed = false := ha
    simp only [tick, ha', Bool.false_eq_true, if_false]
    exact h.una ha'
  · have := h.st
    simp only [tick]
    omega
theorem DevOk.up {n : Nat} {B C : Int} {d : Dev} (h : DevOk n B d) (hc : B ≤ C) : DevOk n C d := ⟨h.len, h.val, h.at0, h.pl, h.arm, h.una, ⟨h.st.1, by have := h.st; omega⟩⟩
theorem with_ok {n : Nat} {B : Int} {d : Dev} (h : DevOk n B d) {cs : List Cell} (hl : cs.length = n) (hv : ∀ c ∈ cs, okC c) : DevOk n B (withC d cs) := ⟨hl, hv, h.at0, h.pl, h.arm, h.una, h.st⟩
end Go.Proofs.Ytklhbaghbmndeaa.Pure

/- A device, in plain words: the calls. -/
set_option linter.unusedVariables false
set_option linter.unusedSimpArgs false
namespace Go.Proofs.Ytklhbaghbmndeaa.Pure
open Go Go.Xw
theorem may_eq {fu : Nat} {d : Dev} {k m : Int} : pmem_Device_may.f fu d k m = some (mayI d.off k m) := by
  unfold pmem_Device_may.f mayI
  cases d.off
  · simp only [Bool.false_eq_true, if_false]
    by_cases h1 : k < 0
    · simp [h1]
    · by_cases h2 : k ≥ m <;> simp [h1, h2]
  · simp
theorem may_zero {b : Bool} {k m : Int} : mayI b k m = 0 ↔ b = false ∧ 0 ≤ k ∧ k < m := by
  unfold mayI
  cases b
  · simp only [Bool.false_eq_true, if_false]
    split <;> simp <;> omega
  · simp
theorem ix_set {α : Type} [Inhabited α] {l : List α} {k : Nat} {v : α} (h : k < l.length) : ix (l.set k v) (k : Int) = v := by
  rw [ix_nat (by simpa using h)]
  simp
theorem store_eq {fu n : Nat} {B k w : Int} {d : Dev} (h : DevOk n B d) (hB : B < 9223372036854775807) (hw : U64 w) : pmem_Device_Store.f fu d k w = some (storeD d k w) := by
  unfold pmem_Device_Store.f storeD
  rw [may_eq]
  simp only [Option.bind_some]
  by_cases e : mayI d.off k (d.cells.length : Int) = 0
  · obtain ⟨ho, h0, h1⟩ := may_zero.1 e
    rw [decide_eq_true e, if_pos e, if_neg (by decide), if_pos ⟨h0, h1⟩]
    obtain ⟨j, rfl⟩ : ∃ j : Nat, k = (j : Int) := ⟨k.toNat, by omega⟩
    have e1 : List.set d.cells (Int.toNat (j : Int)) (⟨(ix d.cells (j : Int)).lasts, w, (ix d.cells (j : Int)).sent, (ix d.cells (j : Int)).flushed⟩ : S_pmem_cell) = putC (j : Int) w d.cells := by
      rw [Int.toNat_natCast]
      refine (set_upd (fun c => ⟨c.lasts, w, c.sent, c.flushed⟩) (by omega)).trans ?_
      apply List.ext_getElem (by simp [putC])
      intro i h1 h2
      simp only [putC, List.getElem_mapIdx, Int.natCast_inj]
    have e2 : pmem_Device_step.f fu (⟨putC (j : Int) w d.cells, d.plan, d.off, d.armed, d.left, d.steps⟩ : S_pmem_Device) = some (tick (withC d (putC (j : Int) w d.cells))) := by
      refine dstep_eq (with_ok h (by simp [putC, h.len]) (mapIdx_ok h.val fun i c hc => ?_)) hB ho
      split
      · exact ⟨hc.1, hw, hc.2.2⟩
      · exact hc
    rw [e1, e2]
    rfl
  · rw [decide_eq_false e, if_neg e, if_pos (by decide)]
theorem load_eq {fu : Nat} {k : Int} {d : Dev} : pmem_Device_Load.f fu d k = some (loadD d k) := by
  unfold pmem_Device_Load.f loadD
  rw [may_eq]
  simp only [Option.bind_some]
  by_cases e : mayI d.off k (d.cells.length : Int) = 0
  · obtain ⟨ho, h0, h1⟩ := may_zero.1 e
    rw [decide_eq_true e, if_pos e, if_neg (by decide), if_pos ⟨h0, h1⟩]
  · rw [decide_eq_false e, if_neg e, if_pos (by decide)]
theorem lines_eq {fu : Nat} {d : Dev} (h : d.cells.length ≤ 1000000) : pmem_Device_Lines.f fu d = some ((d.cells.length / 8 : Nat) : Int) := by
  unfold pmem_Device_Lines.f
  rw [Int.tdiv_eq_ediv_of_nonneg (by omega), w64 (by omega) (by omega)]
  congr 1
theorem send_loop {fu : Nat} {cs : List Cell} {k : Nat} (h : 8 * k + 8 ≤ cs.length) (hl : cs.length ≤ 1000000) (hf : 8 < fu) : loopM (pmem_Device_Flush.s0 fu (k : Int)) fu (0, cs) = some (sendL (k : Int) cs) := by
  refine loopM_run (S := fun j => ((j : Int), upd (fun _ c => sendC c) (8 * k) j cs)) 8 (by rw [upd_zero]; rfl) ?_ ?_ hf
  · intro j hj
    unfold pmem_Device_Flush.s0
    have w1 : IntKind.i64.wrap ((k : Int) * 8) = ((8 * k : Nat) : Int) := by rw [w64 (by omega) (by omega)]; omega
    have w2 : IntKind.i64.wrap (((8 * k : Nat) : Int) + (j : Int)) = ((8 * k + j : Nat) : Int) := by rw [w64 (by omega) (by omega)]; omega
    have w3 : IntKind.i64.wrap ((j : Int) + 1) = ((j + 1 : Nat) : Int) := by rw [w64 (by omega) (by omega)]; omega
    have hlt : 8 * k + j < (upd (fun _ c => sendC c) (8 * k) j cs).length := by rw [upd_len]; omega
    have c1 : 0 ≤ ((8 * k + j : Nat) : Int) ∧ ((8 * k + j : Nat) : Int) < ((upd (fun _ c => sendC c) (8 * k) j cs).length : Int) := by omega
    have c2 : (j : Int) < 8 := by omega
    simp only [w1, w2, w3]
    rw [decide_eq_true c2, if_pos rfl, if_pos c1, Int.toNat_natCast, ix_set hlt, List.set_set, ix_nat hlt, upd_next _ _ _ _ (by omega)]
    refine congrArg (fun z => some (Sum.inr (((j + 1 : Nat) : Int), z))) ?_
    exact upd_set (fun _ c => sendC c) (8 * k) j cs (by omega)
  · unfold pmem_Device_Flush.s0
    rw [decide_eq_false (show ¬ (((8 : Nat) : Int) < 8) by decide), if_neg (by decide)]
    refine congrArg (fun z => some (Sum.inl z)) ?_
    apply List.ext_getElem (by simp [upd, sendL])
    intro i h1 h2
    simp only [upd, sendL, List.getElem_mapIdx]
    by_cases c : 8 * k ≤ i ∧ i < 8 * k + 8
    · rw [if_pos c, if_pos (by omega)]
    · rw [if_neg c, if_neg (by omega)]
theorem sendL_ok {cs : List Cell} {k : Int} (h : ∀ c ∈ cs, okC c) : ∀ c ∈ sendL k cs, okC c := by
  refine mapIdx_ok h fun i c hc => ?_
  split
  · exact ⟨hc.1, hc.2.1, hc.2.1⟩
  · exact hc
theorem flush_eq {fu n : Nat} {B k : Int} {d : Dev} (h : DevOk n B d) (hB : B < 9223372036854775807) (hn : n ≤ 1000000) (hf : 8 < fu) : pmem_Device_Flush.f fu d k = some (flushD d k) := by
  unfold pmem_Device_Flush.f flushD
  have hl : d.cells.length ≤ 1000000 := by rw [h.len]; exact hn
  rw [lines_eq hl]
  simp only [Option.bind_some]
  rw [may_eq]
  simp only [Option.bind_some]
  by_cases e : mayI d.off k ((d.cells.length / 8 : Nat) : Int) = 0
  · obtain ⟨ho, h0, h1⟩ := may_zero.1 e
    rw [decide_eq_true e, if_pos e, if_neg (by decide)]
    obtain ⟨j, rfl⟩ : ∃ j : Nat, k = (j : Int) := ⟨k.toNat, by omega⟩
    rw [send_loop (by omega) hl hf]
    have e2 : pmem_Device_step.f fu (⟨sendL (j : Int) d.cells, d.plan, d.off, d.armed, d.left, d.steps⟩ : S_pmem_Device) = some (tick (withC d (sendL (j : Int) d.cells))) :=
      dstep_eq (with_ok h (by simp [sendL, h.len]) (sendL_ok h.val)) hB ho
    simp only [Option.bind_some]
    rw [e2]
    rfl
  · rw [decide_eq_false e, if_neg e, if_pos (by decide)]
theorem fence_loop {fu : Nat} {d : Dev} (hl : d.cells.length ≤ 1000000) (hf : d.cells.length < fu) : loopM (pmem_Device_Fence.s0 fu d) fu (0, d.cells) = some (d.cells.map fenceC) := by
  refine loopM_run (S := fun j => ((j : Int), upd (fun _ c => fenceC c) 0 j d.cells)) d.cells.length (by rw [upd_zero]; rfl) ?_ ?_ hf
  · intro j hj
    unfold pmem_Device_Fence.s0
    have w3 : IntKind.i64.wrap ((j : Int) + 1) = ((j + 1 : Nat) : Int) := by rw [w64 (by omega) (by omega)]; omega
    have hlt : j < (upd (fun _ c => fenceC c) 0 j d.cells).length := by rw [upd_len]; omega
    have hnx : (upd (fun _ c => fenceC c) 0 j d.cells)[j] = d.cells[j] := by
      rw [upd_get, if_neg (by omega)]
    have c1 : 0 ≤ (j : Int) ∧ (j : Int) < ((upd (fun _ c => fenceC c) 0 j d.cells).length : Int) := by omega
    have c2 : (j : Int) < (d.cells.length : Int) := by omega
    simp only [w3]
    rw [decide_eq_true c2, if_pos rfl, if_pos c1, Int.toNat_natCast, ix_nat hlt, hnx]
    have hs := upd_set (fun _ c => fenceC c) 0 j d.cells (by omega)
    simp only [Nat.zero_add] at hs
    cases hfl : d.cells[j].flushed
    · have : fenceC d.cells[j] = d.cells[j] := by simp [fenceC, hfl]
      have := upd_same (fun _ c => fenceC c) 0 j d.cells (by omega) (by simpa using this)
      simp only [Bool.false_eq_true, if_false, Option.bind_some]
      rw [this]
    · have : fenceC d.cells[j] = keepC d.cells[j] d.cells[j].sent := by simp [fenceC, hfl]
      rw [this] at hs
      simp only [if_true, pmem_cell_keep__i0.f, Option.bind_some]
      refine congrArg (fun z => some (Sum.inr (((j + 1 : Nat) : Int), z))) hs
  · unfold pmem_Device_Fence.s0
    rw [decide_eq_false (by omega), if_neg (by decide)]
    refine congrArg (fun z => some (Sum.inl z)) ?_
    show upd (fun _ c => fenceC c) 0 d.cells.length d.cells = _
    rw [upd_all]
    apply List.ext_getElem (by simp)
    intro i h1 h2
    simp
theorem fence_okC {c : Cell} (h : okC c) : okC (fenceC c) := by
  unfold fenceC
  split
  · exact keep_ok h h.2.2
  · exact h
theorem fence_eq {fu n : Nat} {B : Int} {d : Dev} (h : DevOk n B d) (hB : B < 9223372036854775807) (hn : n ≤ 1000000) (hf : n < fu) : pmem_Device_Fence.f fu d = some (fenceD d) := by
  unfold pmem_Device_Fence.f fenceD
  rw [may_eq]
  simp only [Option.bind_some]
  cases ho : d.off
  · have e : mayI false 0 1 = 0 := by decide
    rw [e, if_neg (by decide), if_neg (by decide), fence_loop (by rw [h.len]; exact hn) (by rw [h.len]; exact hf)]
    have e2 : pmem_Device_step.f fu (⟨d.cells.map fenceC, d.plan, d.off, d.armed, d.left, d.steps⟩ : S_pmem_Device) = some (tick (withC d (d.cells.map fenceC))) :=
      dstep_eq (with_ok h (by simp [h.len]) (fun c hc => by
        obtain ⟨x, hx, rfl⟩ := List.mem_map.1 hc
        exact fence_okC (h.val x hx))) hB ho
    rw [ho] at e2
    simp only [Option.bind_some]
    rw [e2]
    rfl
  · have e : mayI true 0 1 = 3 := by decide
    rw [e]
    rfl
theorem arm_eq {fu : Nat} {d : Dev} {k : Int} : pmem_Device_Arm.f fu d k = some (armD d k) := by
  unfold pmem_Device_Arm.f armD
  split <;> rfl
theorem plan_eq {fu : Nat} {d : Dev} {l : List Int} (hl : l.length ≤ 1000000) : pmem_Device_Plan.f fu d l = some (planD d l) := by
  unfold pmem_Device_Plan.f slices_Clone_1.f planD
  rw [if_pos (Nat.le_trans hl (by decide))]
  rfl
theorem openr_eq {fu : Nat} {c : Cell} : pmem_cell_open__r0.f fu c = some (openC c) := by
  unfold pmem_cell_open__r0.f openC
  cases c.flushed <;> rfl
theorem fater_eq {fu : Nat} {c : Cell} {n : Int} (hn : I64 n) : pmem_cell_fate__r0.f fu c n = some (fateC c n) := by
  unfold pmem_cell_fate__r0.f fateC
  have hr : Int.tmod n 3 = n % 3 ∧ 0 ≤ n ∨ Int.tmod n 3 = n % 3 - 3 ∧ n < 0 ∧ n % 3 ≠ 0 ∨ Int.tmod n 3 = 0 ∧ n % 3 = 0 := by
    rcases Int.lt_or_le n 0 with h | h
    · have e1 : Int.tmod n 3 = -(Int.tmod (-n) 3) := by rw [Int.neg_tmod, Int.neg_neg]
      have e2 : Int.tmod (-n) 3 = (-n) % 3 := Int.tmod_eq_emod_of_nonneg (by omega)
      omega
    · exact .inl ⟨Int.tmod_eq_emod_of_nonneg h, h⟩
  generalize Int.tmod n 3 = t at *
  generalize hq : n % 3 = q at *
  have hq3 : 0 ≤ q ∧ q < 3 := by omega
  have : q = 0 ∧ t = 0 ∨ q = 1 ∧ (t = 1 ∨ t = -2) ∨ q = 2 ∧ (t = 2 ∨ t = -1) := by omega
  rcases this with ⟨rfl, rfl⟩ | ⟨rfl, rfl | rfl⟩ | ⟨rfl, rfl | rfl⟩ <;> cases c.flushed <;> rfl
theorem opens_succ {cs : List Cell} {j : Nat} (h : j < cs.length) : opens cs (j + 1) = opens cs j + (if openC cs[j] = true then 1 else 0) := by
  unfold opens
  rw [take_next h, List.filter_append, List.length_append]
  cases hc : openC cs[j] <;> simp [hc]
theorem crash_loop {fu : Nat} {d : Dev} {l : List Int} (hl : d.cells.length ≤ 1000000) (hi : ∀ x ∈ l, I64 x) (hf : d.cells.length < fu) : loopM (pmem_Device_Crash.s0 fu d) fu (l, 0, d.cells) = some (crashL l d.cells) := by
  refine loopM_run (S := fun j => (l.drop (opens d.cells j), (j : Int), upd (fun i c => crashC c (l.getD (opens d.cells i) 0)) 0 j d.cells)) d.cells.length (by rw [upd_zero]; simp [opens]) ?_ ?_ hf
  · intro j hj
    unfold pmem_Device_Crash.s0
    have w3 : IntKind.i64.wrap ((j : Int) + 1) = ((j + 1 : Nat) : Int) := by rw [w64 (by omega) (by omega)]; omega
    have hlt : j < (upd (fun i c => crashC c (l.getD (opens d.cells i) 0)) 0 j d.cells).length := by rw [upd_len]; omega
    have hnx : (upd (fun i c => crashC c (l.getD (opens d.cells i) 0)) 0 j d.cells)[j] = d.cells[j] := by
      rw [upd_get, if_neg (by omega)]
    have hs := upd_set (fun i c => crashC c (l.getD (opens d.cells i) 0)) 0 j d.cells (by omega)
    simp only [Nat.zero_add] at hs
    rw [opens_succ hj]
    have c1 : 0 ≤ (j : Int) ∧ (j : Int) < ((upd (fun i c => crashC c (l.getD (opens d.cells i) 0)) 0 j d.cells).length : Int) := by omega
    have c2 : (j : Int) < (d.cells.length : Int) := by omega
    simp only [w3]
    rw [decide_eq_true c2, if_pos rfl, if_pos c1, Int.toNat_natCast, ix_nat hlt, hnx, openr_eq]
    generalize hU : upd (fun i c => crashC c (l.getD (opens d.cells i) 0)) 0 j d.cells = U at *
    simp only [Option.bind_some]
    cases ho : openC d.cells[j]
    · have : crashC d.cells[j] (l.getD (opens d.cells j) 0) = ⟨d.cells[j].lasts, d.cells[j].lasts, d.cells[j].sent, d.cells[j].flushed⟩ := by simp [crashC, ho]
      rw [this] at hs
      simp only [Bool.false_eq_true, if_false, Option.bind_some, ix_nat hlt, hnx, hlt, Int.ofNat_lt, if_true, Nat.add_zero]
      rw [hs]
    · have hx : ∀ v, ix (U.set j (keepC d.cells[j] v)) (j : Int) = keepC d.cells[j] v := fun v => ix_set hlt
      have key : ∀ v, v = l.getD (opens d.cells j) 0 → (U.set j (keepC d.cells[j] (fateC d.cells[j] v))).set j (⟨fateC d.cells[j] v, fateC d.cells[j] v, 0, false⟩ : S_pmem_cell) = upd (fun i c => crashC c (l.getD (opens d.cells i) 0)) 0 (j + 1) d.cells := by
        intro v hv
        rw [List.set_set, hv, ← hs]
        simp [crashC, ho]
      have hlt2 : ∀ v, (j : Int) < (((U.set j v)).length : Int) := fun v => by rw [List.length_set]; omega
      simp only [if_true]
      by_cases hd : opens d.cells j < l.length
      · have e0 : (List.length (l.drop (opens d.cells j)) : Int) > 0 := by rw [List.length_drop]; omega
        have e1 : (1 : Int) ≤ (List.length (l.drop (opens d.cells j)) : Int) := by omega
        have e2 : ix (l.drop (opens d.cells j)) 0 = l.getD (opens d.cells j) 0 := by
          rw [show (0 : Int) = ((0 : Nat) : Int) from rfl, ix_nat (by omega)]
          simp [List.getD_eq_getElem?_getD, List.getElem?_eq_getElem hd]
        have e3 : cut (l.drop (opens d.cells j)) 1 (List.length (l.drop (opens d.cells j)) : Int) = l.drop (opens d.cells j + 1) := by
          unfold cut
          rw [Int.toNat_natCast, List.take_length, show Int.toNat 1 = 1 from rfl, List.drop_drop]
        have e4 : I64 (l.getD (opens d.cells j) 0) := by
          rw [getD_of _ _ _ hd]
          exact hi _ (List.getElem_mem hd)
        rw [decide_eq_true e0, if_pos rfl, if_pos e0, if_pos e1, e2, e3]
        simp only [Option.bind_some]
        rw [fater_eq e4]
        simp only [Option.bind_some, pmem_cell_keep__i0.f]
        rw [if_pos (hlt2 _), if_pos (hlt2 _)]
        have := key _ rfl
        simp only [keepC] at this hx ⊢
        rw [hx]
        rw [this]
      · have e0 : ¬ (List.length (l.drop (opens d.cells j)) : Int) > 0 := by rw [List.length_drop]; omega
        have e2 : l.getD (opens d.cells j) 0 = 0 := by
          rw [List.getD_eq_getElem?_getD, List.getElem?_eq_none (by omega)]
          rfl
        have e3 : l.drop (opens d.cells j) = l.drop (opens d.cells j + 1) := by
          rw [List.drop_eq_nil_of_le (by omega), List.drop_eq_nil_of_le (by omega)]
        rw [decide_eq_false e0, if_neg (by decide)]
        simp only [Option.bind_some]
        rw [fater_eq (show I64 0 by unfold I64; omega)]
        simp only [Option.bind_some, pmem_cell_keep__i0.f]
        rw [if_pos (hlt2 _), if_pos (hlt2 _)]
        have := key 0 e2.symm
        simp only [keepC] at this hx ⊢
        rw [hx, this, e3]
  · unfold pmem_Device_Crash.s0
    rw [decide_eq_false (show ¬ ((d.cells.length : Int) < (d.cells.length : Int)) by omega), if_neg (by decide)]
    refine congrArg (fun z => some (Sum.inl z)) ?_
    exact upd_all _ _
theorem crash_eq {fu n : Nat} {B : Int} {d : Dev} {l : List Int} (h : DevOk n B d) (hn : n ≤ 1000000) (hi : ∀ x ∈ l, I64 x) (hf : n < fu) : pmem_Device_Crash.f fu d l = some (crashD d l) := by
  unfold pmem_Device_Crash.f crashD
  rw [crash_loop (by rw [h.len]; exact hn) hi (by rw [h.len]; exact hf)]
  rfl
end Go.Proofs.Ytklhbaghbmndeaa.Pure

/- rickyard/rickyardref05.Text: its model, and that the Go function computes it: written by gen.py. -/
set_option linter.unusedVariables false
namespace Go.Proofs.Ytklhbaghbmndeaa
open Go Go.Xw
def rickyardref05_Text.s2 (fu : Nat) (a0 : List Int) (s1 : (List Int) × Int) : ((List Int) × Int) → Option (Sum (List Int) ((List Int) × Int)) := fun s15 => (if (decide (s15.2 < 8)) = true then (if 0 ≤ s1.2 ∧ s1.2 < (List.length a0 : Int) then (if 0 ≤ (IntKind.i64.wrap (8 * s15.2)) then (if List.length s15.1 + List.length [(IntKind.u8.wrap (shR .u64 (ix a0 s1.2) (IntKind.i64.wrap (8 * s15.2))))] ≤ LIM then some (Sum.inr ((s15.1 ++ [(IntKind.u8.wrap (shR .u64 (ix a0 s1.2) (IntKind.i64.wrap (8 * s15.2))))]), (IntKind.i64.wrap (s15.2 + 1)))) else none) else none) else none) else some (Sum.inl (s15.1)))
def rickyardref05_Text.s1 (fu : Nat) (a0 : List Int) : ((List Int) × Int) → Option (Sum (List Int) ((List Int) × Int)) := fun s1 => (if (decide (s1.2 < (List.length a0 : Int))) = true then ((loopM (rickyardref05_Text.s2 fu a0 s1) fu (s1.1, 0)).bind fun e16 => some (Sum.inr (e16, (IntKind.i64.wrap (s1.2 + 1))))) else some (Sum.inl (s1.1)))
def rickyardref05_Text.f (fu : Nat) (a0 : List Int) : Option (List UInt8) := ((loopM (rickyardref05_Text.s1 fu a0) fu ([], 0)).bind fun e2 => some ((List.map toB e2)))
set_option maxRecDepth 100000 in
set_option maxHeartbeats 400000 in
theorem rickyardref05_Text.ok (fu : Nat) (w : World) (a0 : List Int) (V0_0 : Value) (R0_0 : Rd (kI .u64) w V0_0 a0) (r : (List UInt8)) (h : rickyardref05_Text.f fu a0 = some r) :
    Calls Try.prog 34 (([V0_0] : List Value).toArray) w (fun e w' => ∃ v, e = .returned v ∧ v = sv r ∧ Gr w w') := by
  unfold rickyardref05_Text.f at h
  have fB : Gr w w := Fr.refl _ _
  refine calls_cw Try.func34 rfl Try.ntmps34 rfl ?_
  refine cw_seq ?_
  refine cw_region ?_
  refine ol_val (v := sv []) (by exact xr_assign rfl rfl) rfl rfl rfl ?_
  refine ol_nil ?_
  refine cw_seq ?_
  refine cw_region ?_
  refine ol_val (v := .slice none 0 0) (by exact xr_assign rfl rfl) rfl rfl rfl ?_
  refine ol_nil ?_
  refine cw_seq ?_
  refine cw_seq ?_
  refine cw_region ?_
  refine ol_val (v := .int .i64 0) (by exact xr_assign rfl rfl) rfl rfl rfl ?_
  refine ol_nil ?_
  obtain ⟨e2, l3, h4⟩ := bs h
  refine cw_mid (fun ρ' w' => ∃ v5 : Value, ∃ o6 : Own (kI .u8) 5 w' w.heap.size v5 e2, ρ' 3 = v5 ∧ Gr w w') ?_ ?_
  · refine cw_block ?_
    refine cw_round (fun (s1 : (List Int) × Int) ρ' w' => ∃ v8 : Value, ∃ o9 : Own (kI .u8) 5 w' w.heap.size v8 s1.1, ρ' 0 = V0_0 ∧ ρ' 3 = v8 ∧ ρ' 4 = .int .i64 s1.2 ∧ Gr w w') l3 ?_ ?_
    · skip
      exact ⟨(.slice none 0 0), Own.nil _ _ _ _, rfl, rfl, rfl, fB⟩
    · rintro s1 x13 ρ11 w12 ⟨v8, o9, e0, e3, e4, fB⟩ h
      unfold rickyardref05_Text.s1 at h
      refine cw_seq ?_
      refine cw_seq ?_
      refine cw_region ?_
      refine ol_val (v := .int .i64 s1.2) (by exact xr_move rfl e4) rfl rfl rfl ?_
      refine ol_val (v := V0_0) (by exact xr_move rfl e0) rfl rfl rfl ?_
      refine ol_val (v := .int .i64 (List.length a0 : Int)) (by exact xr_lenR rfl Try.underlying46 rfl (R0_0.gr fB)) rfl rfl rfl ?_
      refine ol_val (v := .bool (decide (s1.2 < (List.length a0 : Int)))) (by exact xr_lss rfl rfl rfl) rfl rfl rfl ?_
      refine ol_nil ?_
      rcases is h with ⟨c14, h⟩ | ⟨c14, h⟩
      · refine cw_condT rfl c14 ?_
        refine cw_skip ?_
        refine cw_seq ?_
        refine cw_block ?_
        refine cw_seq ?_
        refine cw_region ?_
        refine ol_val (v := .int .i64 0) (by exact xr_assign rfl rfl) rfl rfl rfl ?_
        refine ol_nil ?_
        obtain ⟨e16, l17, h18⟩ := bs h
        refine cw_mid (fun ρ' w' => ∃ v19 : Value, ∃ o20 : Own (kI .u8) 5 w' w.heap.size v19 e16, ρ' 0 = V0_0 ∧ ρ' 3 = v19 ∧ ρ' 4 = .int .i64 s1.2 ∧ Gr w w') ?_ ?_
        · refine cw_block ?_
          refine cw_round (fun (s15 : (List Int) × Int) ρ' w' => ∃ v22 : Value, ∃ o23 : Own (kI .u8) 5 w' w.heap.size v22 s15.1, ρ' 0 = V0_0 ∧ ρ' 3 = v22 ∧ ρ' 4 = .int .i64 s1.2 ∧ ρ' 5 = .int .i64 s15.2 ∧ Gr w w') l17 ?_ ?_
          · skip
            exact ⟨v8, o9, e0, e3, e4, rfl, fB⟩
          · rintro s15 x27 ρ25 w26 ⟨v22, o23, e0, e3, e4, e5, fB⟩ h
            unfold rickyardref05_Text.s2 at h
            refine cw_seq ?_
            refine cw_seq ?_
            refine cw_region ?_
            refine ol_val (v := .int .i64 s15.2) (by exact xr_move rfl e5) rfl rfl rfl ?_
            refine ol_val (v := .bool (decide (s15.2 < 8))) (by exact xr_lss rfl rfl rfl) rfl rfl rfl ?_
            refine ol_nil ?_
            rcases is h with ⟨c28, h⟩ | ⟨c28, h⟩
            · refine cw_condT rfl c28 ?_
              refine cw_skip ?_
              refine cw_seq ?_
              refine cw_block ?_
              refine cw_region ?_
              refine ol_val (v := v22) (by exact xr_move rfl e3) rfl rfl rfl ?_
              refine ol_val (v := V0_0) (by exact xr_move rfl e0) rfl rfl rfl ?_
              refine ol_val (v := .int .i64 s1.2) (by exact xr_move rfl e4) rfl rfl rfl ?_
              obtain ⟨g29, h⟩ := gs h
              refine ol_val (v := .pointer (some ⟨(sb V0_0), so V0_0 + Int.toNat s1.2 * 1, none⟩)) (by exact xr_indexR (K := (kI .u64)) (v := V0_0) rfl Try.underlying46 sz22 rfl (R0_0.gr fB) rfl g29.1 g29.2) rfl rfl rfl ?_
              refine ol_val (v := .int .u64 (ix a0 s1.2)) (by exact xr_load1 (v := .int .u64 (ix a0 s1.2)) rfl ag22 rfl ((R0_0.gr fB).elem g29.1 g29.2)) rfl rfl rfl ?_
              refine ol_val (v := .int .i64 s15.2) (by exact xr_move rfl e5) rfl rfl rfl ?_
              refine ol_val (v := .int .i64 (IntKind.i64.wrap (8 * s15.2))) (by exact xr_mul rfl rfl rfl) rfl rfl rfl ?_
              obtain ⟨g30, h⟩ := gs h
              refine ol_val (v := .int .u64 (shR .u64 (ix a0 s1.2) (IntKind.i64.wrap (8 * s15.2)))) (by exact xr_shr rfl rfl rfl g30) rfl rfl rfl ?_
              refine ol_val (v := .int .u8 (IntKind.u8.wrap (shR .u64 (ix a0 s1.2) (IntKind.i64.wrap (8 * s15.2))))) (by exact xr_conv rfl Try.underlying22 Try.underlying5 rfl) rfl rfl rfl ?_
              refine ol_op (by exact opv_buildSlice (K := (kI .u8)) (xs := [(IntKind.u8.wrap (shR .u64 (ix a0 s1.2) (IntKind.i64.wrap (8 * s15.2))))]) (vals := [.int .u8 (IntKind.u8.wrap (shR .u64 (ix a0 s1.2) (IntKind.i64.wrap (8 * s15.2))))]) rfl Try.underlying43 el5 rfl rfl ⟨rfl, rfl, trivial⟩ rfl rfl rfl fB.size) rfl rfl rfl ?_
              rintro v31 w36 ⟨o33, q32, z34⟩
              have a37 := OffV.new o23 z34
              have o23 := o23.gr q32
              have fB := fB.gr q32
              obtain ⟨g42, h⟩ := gs h
              have f44 := o23.geO
              refine ol_op (by exact opv_append (K := (kI .u8)) rfl Try.underlying43 el5 rfl rfl rfl rfl rfl o23 o33.rd g42 fB.size) rfl rfl rfl ?_
              rintro v38 w45 ⟨o39, q40, n41⟩
              have fB := fB.wrO q40 f44
              refine ol_val (v := v38) (by exact xr_assign rfl rfl) rfl rfl rfl ?_
              refine ol_nil ?_
              refine blk_i ?_
              refine cw_region ?_
              refine ol_val (v := .int .i64 s15.2) (by exact xr_move rfl e5) rfl rfl rfl ?_
              refine ol_val (v := .int .i64 (IntKind.i64.wrap (s15.2 + 1))) (by exact xr_add rfl rfl rfl) rfl rfl rfl ?_
              refine ol_val (v := .int .i64 (IntKind.i64.wrap (s15.2 + 1))) (by exact xr_assign rfl rfl) rfl rfl rfl ?_
              refine ol_nil ?_
              obtain rfl := Option.some.inj h
              refine lp_in ?_
              exact ⟨v38, o39, e0, rfl, e4, rfl, fB⟩
            · refine cw_condF rfl c28 ?_
              refine cw_exit ?_
              repeat (first | with_reducible refine thn_e ?_ | with_reducible refine blk_e rfl ?_)
              obtain rfl := Option.some.inj h
              refine lp_exit ?_
              rintro rfl
              refine thn_x ?_
              exact ⟨v22, o23, e0, e3, e4, fB⟩
        · rintro ρ46 w47 ⟨v19, o20, e0, e3, e4, fB⟩
          have h := h18
          refine blk_i ?_
          refine cw_region ?_
          refine ol_val (v := .int .i64 s1.2) (by exact xr_move rfl e4) rfl rfl rfl ?_
          refine ol_val (v := .int .i64 (IntKind.i64.wrap (s1.2 + 1))) (by exact xr_add rfl rfl rfl) rfl rfl rfl ?_
          refine ol_val (v := .int .i64 (IntKind.i64.wrap (s1.2 + 1))) (by exact xr_assign rfl rfl) rfl rfl rfl ?_
          refine ol_nil ?_
          obtain rfl := Option.some.inj h
          refine lp_in ?_
          exact ⟨v19, o20, e0, e3, rfl, fB⟩
      · refine cw_condF rfl c14 ?_
        refine cw_exit ?_
        repeat (first | with_reducible refine thn_e ?_ | with_reducible refine blk_e rfl ?_)
        obtain rfl := Option.some.inj h
        refine lp_exit ?_
        rintro rfl
        refine thn_x ?_
        exact ⟨v8, o9, e3, fB⟩
  · rintro ρ48 w49 ⟨v5, o6, e3, fB⟩
    have h := h4
    refine cw_seq ?_
    refine cw_region ?_
    refine ol_val (v := v5) (by exact xr_move rfl e3) rfl rfl rfl ?_
    refine ol_val (v := sv (List.map toB e2)) (by exact xr_toStr rfl Try.underlying43 Try.underlying5 Try.underlying9 rfl o6.rd) rfl rfl rfl ?_
    refine ol_val (v := sv (List.map toB e2)) (by exact xr_assign rfl rfl) rfl rfl rfl ?_
    refine ol_nil ?_
    refine cw_ret ?_
    repeat (first | with_reducible refine thn_r ?_ | with_reducible refine blk_r ?_)
    obtain rfl := Option.some.inj h
    refine fin_ret1 Try.results34 rfl ?_
    exact ⟨_, rfl, rfl, fB⟩
end Go.Proofs.Ytklhbaghbmndeaa

/- A device, in plain words: what is seen of it; what an act does. -/
set_option linter.unusedVariables false
set_option linter.unusedSimpArgs false
namespace Go.Proofs.Ytklhbaghbmndeaa.Pure
open Go Go.Xw
def octs (ws : List Int) : List Int := ws.flatMap fun w => lay w.toNat 8
theorem octs_len : ∀ ws : List Int, (octs ws).length = 8 * ws.length
  | [] => rfl
  | w :: ws => by
    have := octs_len ws
    simp only [octs, List.flatMap_cons, List.length_append, lay_len, List.length_cons] at *
    omega
theorem octs_append (a b : List Int) : octs (a ++ b) = octs a ++ octs b := by simp [octs]
theorem octs_one (w : Int) : octs [w] = lay w.toNat 8 := by simp [octs]
theorem octs_bytes (ws : List Int) : Bytes (octs ws) := by
  intro x hx
  obtain ⟨w, _, h⟩ := List.mem_flatMap.1 hx
  exact lay_bytes _ _ x h
theorem octets_eq {fu : Nat} {ws : List Int} (hv : ∀ w ∈ ws, U64 w) (hl : ws.length ≤ 100000) (hf : ws.length + 8 < fu) : octet_Octets.f fu ws = some (octs ws) := by
  unfold octet_Octets.f
  have : loopM (octet_Octets.s0 fu ws) fu ([], 0) = some (octs ws) := by
    refine loopM_run (S := fun j => (octs (ws.take j), (j : Int))) ws.length (by simp [octs]) ?_ ?_ (by omega)
    · intro j hj
      unfold octet_Octets.s0
      have w3 : IntKind.i64.wrap ((j : Int) + 1) = ((j + 1 : Nat) : Int) := by rw [w64 (by omega) (by omega)]; omega
      have c1 : 0 ≤ (j : Int) ∧ (j : Int) < (ws.length : Int) := by omega
      have hu := hv _ (List.getElem_mem hj)
      obtain ⟨v, hv'⟩ : ∃ v : Nat, ws[j] = (v : Int) := ⟨ws[j].toNat, by unfold U64 at hu; omega⟩
      simp only [w3]
      rw [decide_eq_true c1.2, if_pos rfl, if_pos c1, ix_nat hj, hv', show octet_Lay.f fu (v : Int) 8 = some (lay v 8) from olay_eq (n := 8) (by omega) (by omega)]
      simp only [Option.bind_some]
      rw [if_pos (by rw [octs_len, lay_len, List.length_take]; exact Nat.le_trans (by omega : _ ≤ 1000008) (by decide)), take_next hj, octs_append, octs_one, hv', Int.toNat_natCast]
    · unfold octet_Octets.s0
      rw [decide_eq_false (show ¬ ((ws.length : Int) < (ws.length : Int)) by omega), if_neg (by decide), List.take_length]
  rw [this]
  rfl
theorem set_next {l : List Int} {n j : Nat} {v : Int} (h : j < n) (hl : l.length = j) : (l ++ List.replicate (n - j) (0 : Int)).set j v = (l ++ [v]) ++ List.replicate (n - (j + 1)) (0 : Int) := by
  rw [List.set_append, if_neg (by omega), hl, Nat.sub_self, show n - j = n - (j + 1) + 1 from by omega, List.replicate_succ]
  simp
def lastsD (d : Dev) : List Int := d.cells.map fun c => c.lasts
def storedD (d : Dev) : List Int := d.cells.map fun c => c.stored
theorem image_eq {fu n : Nat} {B : Int} {d : Dev} (h : DevOk n B d) (hn : n ≤ 100000) (hf : n + 8 < fu) : pmem_Device_Image.f fu d = some (octs (lastsD d)) := by
  unfold pmem_Device_Image.f pmem_Device_octets__pmem_Device_Image_1.f
  have hl := h.len
  rw [if_pos ⟨by omega, Nat.le_trans (by omega : _ ≤ 100000) (by decide)⟩]
  have : loopM (pmem_Device_octets__pmem_Device_Image_1.s0 fu d) fu (0, (List.replicate (Int.toNat (List.length d.cells : Int)) (0 : Int))) = some (lastsD d) := by
    refine loopM_run (S := fun j => ((j : Int), (lastsD d).take j ++ List.replicate (d.cells.length - j) (0 : Int))) d.cells.length (by simp) ?_ ?_ (by omega)
    · intro j hj
      unfold pmem_Device_octets__pmem_Device_Image_1.s0
      have w3 : IntKind.i64.wrap ((j : Int) + 1) = ((j + 1 : Nat) : Int) := by rw [w64 (by omega) (by omega)]; omega
      have hjl : j < (lastsD d).length := by simpa [lastsD] using hj
      have ht : ((lastsD d).take j).length = j := by rw [List.length_take]; omega
      have c1 : 0 ≤ (j : Int) ∧ (j : Int) < (d.cells.length : Int) := by omega
      have c2 : 0 ≤ (j : Int) ∧ (j : Int) < (((lastsD d).take j ++ List.replicate (d.cells.length - j) (0 : Int)).length : Int) := by
        rw [List.length_append, ht, List.length_replicate]
        omega
      simp only [w3]
      rw [decide_eq_true c1.2, if_pos rfl, if_pos c1, ix_nat hj]
      simp only [pmem_Device_Image_1__r0.f, Option.bind_some]
      rw [if_pos c2, Int.toNat_natCast, set_next hj ht, take_next hjl]
      simp [lastsD]
    · unfold pmem_Device_octets__pmem_Device_Image_1.s0
      rw [decide_eq_false (show ¬ ((d.cells.length : Int) < (d.cells.length : Int)) by omega), if_neg (by decide), Nat.sub_self, List.take_of_length_le (by simp [lastsD])]
      simp
  rw [this]
  simp only [Option.bind_some]
  rw [octets_eq (fun w hw => by
    obtain ⟨c, hc, rfl⟩ := List.mem_map.1 hw
    exact (h.val c hc).1) (by simp [lastsD, hl, hn]) (by simp only [lastsD, List.length_map]; omega)]
  rfl
theorem view_eq {fu n : Nat} {B : Int} {d : Dev} (h : DevOk n B d) (hn : n ≤ 100000) (hf : n + 8 < fu) : pmem_Device_View.f fu d = some (octs (storedD d)) := by
  unfold pmem_Device_View.f pmem_Device_octets__pmem_Device_View_1.f
  have hl := h.len
  rw [if_pos ⟨by omega, Nat.le_trans (by omega : _ ≤ 100000) (by decide)⟩]
  have : loopM (pmem_Device_octets__pmem_Device_View_1.s0 fu d) fu (0, (List.replicate (Int.toNat (List.length d.cells : Int)) (0 : Int))) = some (storedD d) := by
    refine loopM_run (S := fun j => ((j : Int), (storedD d).take j ++ List.replicate (d.cells.length - j) (0 : Int))) d.cells.length (by simp) ?_ ?_ (by omega)
    · intro j hj
      unfold pmem_Device_octets__pmem_Device_View_1.s0
      have w3 : IntKind.i64.wrap ((j : Int) + 1) = ((j + 1 : Nat) : Int) := by rw [w64 (by omega) (by omega)]; omega
      have hjl : j < (storedD d).length := by simpa [storedD] using hj
      have ht : ((storedD d).take j).length = j := by rw [List.length_take]; omega
      have c1 : 0 ≤ (j : Int) ∧ (j : Int) < (d.cells.length : Int) := by omega
      have c2 : 0 ≤ (j : Int) ∧ (j : Int) < (((storedD d).take j ++ List.replicate (d.cells.length - j) (0 : Int)).length : Int) := by
        rw [List.length_append, ht, List.length_replicate]
        omega
      simp only [w3]
      rw [decide_eq_true c1.2, if_pos rfl, if_pos c1, ix_nat hj]
      simp only [pmem_Device_View_1__r0.f, Option.bind_some]
      rw [if_pos c2, Int.toNat_natCast, set_next hj ht, take_next hjl]
      simp [storedD]
    · unfold pmem_Device_octets__pmem_Device_View_1.s0
      rw [decide_eq_false (show ¬ ((d.cells.length : Int) < (d.cells.length : Int)) by omega), if_neg (by decide), Nat.sub_self, List.take_of_length_le (by simp [storedD])]
      simp
  rw [this]
  simp only [Option.bind_some]
  rw [octets_eq (fun w hw => by
    obtain ⟨c, hc, rfl⟩ := List.mem_map.1 hw
    exact (h.val c hc).2.1) (by simp [storedD, hl, hn]) (by simp only [storedD, List.length_map]; omega)]
  rfl
def fateD (d : Dev) (i : Nat) : S_api_Fate := ⟨(i : Int), (ix d.cells (i : Int)).lasts, (ix d.cells (i : Int)).flushed, (ix d.cells (i : Int)).sent, (ix d.cells (i : Int)).stored⟩
def fatesU (d : Dev) (j : Nat) : List S_api_Fate := ((List.range j).filter fun (i : Nat) => openC (ix d.cells (i : Int))).map (fateD d)
def fatesD (d : Dev) : List S_api_Fate := fatesU d d.cells.length
theorem fatesU_succ (d : Dev) (j : Nat) : fatesU d (j + 1) = fatesU d j ++ (if openC (ix d.cells (j : Int)) = true then [fateD d j] else []) := by
  unfold fatesU
  rw [List.range_succ, List.filter_append, List.map_append]
  cases h : openC (ix d.cells (j : Int)) <;> simp [h]
theorem fatesU_le (d : Dev) (j : Nat) : (fatesU d j).length ≤ j := by
  unfold fatesU
  rw [List.length_map]
  exact Nat.le_trans (List.length_filter_le _ _) (by simp)
theorem fates_eq {fu n : Nat} {B : Int} {d : Dev} (h : DevOk n B d) (hn : n ≤ 100000) (hf : n < fu) : pmem_Device_Fates.f fu d = some (fatesD d) := by
  unfold pmem_Device_Fates.f
  have hl := h.len
  have : loopM (pmem_Device_Fates.s0 fu d) fu ([], 0) = some (fatesD d) := by
    refine loopM_run (S := fun j => (fatesU d j, (j : Int))) d.cells.length (by simp [fatesU]) ?_ ?_ (by omega)
    · intro j hj
      unfold pmem_Device_Fates.s0
      have w3 : IntKind.i64.wrap ((j : Int) + 1) = ((j + 1 : Nat) : Int) := by rw [w64 (by omega) (by omega)]; omega
      have c1 : 0 ≤ (j : Int) ∧ (j : Int) < (d.cells.length : Int) := by omega
      have hle := fatesU_le d j
      simp only [w3]
      rw [decide_eq_true c1.2, if_pos rfl, if_pos c1, openr_eq, fatesU_succ]
      simp only [Option.bind_some]
      cases ho : openC (ix d.cells (j : Int))
      · simp
      · have hlim : (fatesU d j).length + List.length [(⟨(j : Int), (ix d.cells (j : Int)).lasts, (ix d.cells (j : Int)).flushed, (ix d.cells (j : Int)).sent, (ix d.cells (j : Int)).stored⟩ : S_api_Fate)] ≤ LIM := by
          simp only [List.length_cons, List.length_nil]
          exact Nat.le_trans (by omega : _ ≤ 100001) (by decide)
        rw [if_pos rfl, if_pos hlim]
        rfl
    · unfold pmem_Device_Fates.s0
      rw [decide_eq_false (show ¬ ((d.cells.length : Int) < (d.cells.length : Int)) by omega), if_neg (by decide)]
      rfl
  rw [this]
  rfl
def newD (n : Nat) : Dev := ⟨List.replicate n ⟨0, 0, 0, false⟩, ⟨[], 0⟩, false, false, 0, 0⟩
theorem new_eq {fu : Nat} {k : Nat} (hk : k ≤ 4096) : pmem_New.f fu (k : Int) = some (some (newD (8 * k)), 0) := by
  unfold pmem_New.f
  have h1 : ¬ (k : Int) < 0 := by omega
  have h2 : ¬ (k : Int) > 4096 := by omega
  have w : IntKind.i64.wrap ((k : Int) * 8) = ((8 * k : Nat) : Int) := by rw [w64 (by omega) (by omega)]; omega
  rw [decide_eq_false h1, decide_eq_false h2, if_neg (by decide), w, Int.toNat_natCast, if_pos ⟨by omega, Nat.le_trans (by omega : _ ≤ 100000) (by decide)⟩]
  rfl
theorem newD_ok (n : Nat) : DevOk n 0 (newD n) := by
  refine ⟨by simp [newD], fun c hc => ?_, fun h => absurd rfl h, by simp [newD], fun h => (by cases h), fun _ => rfl, by simp [newD]⟩
  rw [List.eq_of_mem_replicate hc]
  unfold okC U64
  simp
theorem arm_ok {n : Nat} {B k : Int} {d : Dev} (h : DevOk n B d) (hk : I64 k) : DevOk n B (armD d k) := by
  unfold armD
  cases ho : d.off
  · rw [if_neg (by decide)]
    refine ⟨h.len, h.val, h.at0, h.pl, fun ha => ?_, fun ha => ?_, h.st⟩
    · have : k ≥ 0 := by simpa using ha
      exact ⟨this, hk.2, rfl⟩
    · have : ¬ k ≥ 0 := by simpa using ha
      exact decide_eq_false (by omega)
  · rw [if_pos rfl]
    exact h
theorem plan_ok {n : Nat} {B : Int} {d : Dev} {l : List Int} (h : DevOk n B d) (hl : l.length ≤ 1000) : DevOk n B (planD d l) :=
  ⟨h.len, h.val, fun e => ⟨by simp [planD], by simp only [planD] at e ⊢; omega⟩, hl, h.arm, h.una, h.st⟩
theorem fateC_ok {c : Cell} {n : Int} (h : okC c) : U64 (fateC c n) := by
  unfold fateC
  split
  · exact h.2.1
  · split
    · exact h.2.2
    · exact h.1
theorem crashC_ok {c : Cell} {n : Int} (h : okC c) : okC (crashC c n) := by
  unfold crashC
  split
  · exact ⟨fateC_ok h, fateC_ok h, by unfold U64; simp⟩
  · exact ⟨h.1, h.1, h.2.2⟩
theorem crash_ok {n : Nat} {B : Int} {d : Dev} {l : List Int} (h : DevOk n B d) : DevOk n B (crashD d l) :=
  ⟨by simp [crashD, crashL, h.len], mapIdx_ok h.val fun i c hc => crashC_ok hc, fun e => absurd rfl e, by simp [crashD], fun e => (by cases e), fun _ => rfl, h.st⟩
theorem store_ok {n : Nat} {B k w : Int} {d : Dev} (h : DevOk n B d) (hw : U64 w) : DevOk n (B + 1) (storeD d k w).2 := by
  unfold storeD
  split
  · rename_i e
    refine tick_ok (with_ok h (by simp [putC, h.len]) (mapIdx_ok h.val fun i c hc => ?_)) (may_zero.1 e).1
    split
    · exact ⟨hc.1, hw, hc.2.2⟩
    · exact hc
  · exact h.up (by omega)
theorem flush_ok {n : Nat} {B k : Int} {d : Dev} (h : DevOk n B d) : DevOk n (B + 1) (flushD d k).2 := by
  unfold flushD
  split
  · rename_i e
    exact tick_ok (with_ok h (by simp [sendL, h.len]) (sendL_ok h.val)) (may_zero.1 e).1
  · exact h.up (by omega)
theorem fence_ok {n : Nat} {B : Int} {d : Dev} (h : DevOk n B d) : DevOk n (B + 1) (fenceD d).2 := by
  unfold fenceD
  cases ho : d.off
  · rw [if_neg (by decide)]
    exact tick_ok (with_ok h (by simp [h.len]) (fun c hc => by
        obtain ⟨x, hx, rfl⟩ := List.mem_map.1 hc
        exact fence_okC (h.val x hx))) ho
  · rw [if_pos rfl]
    exact h.up (by omega)
/-- An act whose parts fit. -/
def okA (a : S_rickyardlaw05_Act) : Prop := I64 a.Kind ∧ I64 a.At ∧ U64 a.W ∧ (∀ x ∈ a.L, I64 x) ∧ a.L.length ≤ 1000
theorem do_ok {n : Nat} {B : Int} {d : Dev} {a : S_rickyardlaw05_Act} (h : DevOk n B d) (ha : okA a) : DevOk n (B + 1) (doD d a).2 := by
  unfold doD
  split
  · exact store_ok h ha.2.2.1
  split
  · exact h.up (by omega)
  split
  · exact flush_ok h
  split
  · exact fence_ok h
  split
  · exact (arm_ok h ha.2.1).up (by omega)
  split
  · exact (plan_ok h ha.2.2.2.2).up (by omega)
  · exact (crash_ok h).up (by omega)
theorem rest_eq {fu : Nat} {k m : Int} (hk : I64 k) (hm : 0 < m ∧ m ≤ 1000) : rickyardref01_Rest.f fu k m = some (k % m) := by
  unfold rickyardref01_Rest.f
  have h0 : m ≠ 0 := by omega
  rw [if_pos h0, if_pos h0]
  have h1 := Int.emod_nonneg k h0
  have h2 := Int.emod_lt_of_pos k hm.1
  have e : Int.tmod k m = k % m ∨ Int.tmod k m = k % m - m := by
    rcases Int.lt_or_le k 0 with h | h
    · rw [Int.tmod_eq_emod]
      split
      · exact .inl (by omega)
      · right
        have : (m.natAbs : Int) = m := by omega
        omega
    · exact .inl (Int.tmod_eq_emod_of_nonneg h)
  congr 1
  rcases e with e | e
  · rw [e, w64 (by omega) (by omega), Int.tmod_eq_emod_of_nonneg (by omega), Int.add_emod_right, Int.emod_emod]
  · rw [e, show k % m - m + m = k % m from by omega, w64 (by omega) (by omega), Int.tmod_eq_emod_of_nonneg (by omega), Int.emod_emod]
theorem do_eq {fu n : Nat} {B : Int} {d : Dev} {a : S_rickyardlaw05_Act} (h : DevOk n B d) (hB : B < 9223372036854775807) (hn : n ≤ 100000) (ha : okA a) (hf : n + 8 < fu) : rickyardlaw05_Do.f fu d a = some ((doD d a).1.1, (doD d a).1.2, (doD d a).2) := by
  obtain ⟨hk, hat, hw, hL, hl⟩ := ha
  unfold rickyardlaw05_Do.f doD
  rw [rest_eq hk (by decide), store_eq h hB hw, load_eq, flush_eq h hB (by omega) (by omega), fence_eq h hB (by omega) (by omega), arm_eq, plan_eq (by omega), crash_eq h (by omega) hL (by omega)]
  simp only [Option.bind_some]
  have hr : 0 ≤ a.Kind % 7 ∧ a.Kind % 7 < 7 := by omega
  generalize a.Kind % 7 = r at *
  have : r = 0 ∨ r = 1 ∨ r = 2 ∨ r = 3 ∨ r = 4 ∨ r = 5 ∨ r = 6 := by omega
  rcases this with rfl | rfl | rfl | rfl | rfl | rfl | rfl
  · rfl
  · rfl
  · rfl
  · rfl
  · have : (armD d a.At).cells = d.cells ∧ (armD d a.At).plan.list = d.plan.list := by
      unfold armD
      split <;> exact ⟨rfl, rfl⟩
    simp [← this.1, ← this.2]
  · rfl
  · rfl
end Go.Proofs.Ytklhbaghbmndeaa.Pure

/- rickyard/rickyardlaw05.Small: its model, and that the Go function computes it: written by gen.py. -/
set_option linter.unusedVariables false
namespace Go.Proofs.Ytklhbaghbmndeaa
open Go Go.Xw
def rickyardlaw05_Small.s0 (fu : Nat) (a0 : List S_rickyardlaw05_Act) : Int → Option (Sum (Sum Bool Unit) Int) := fun s2 => (if (decide (s2 < (List.length a0 : Int))) = true then (if 0 ≤ s2 ∧ s2 < (List.length a0 : Int) then (if (decide ((List.length ((ix a0 s2).L) : Int) > 40)) = true then some (Sum.inl (Sum.inl (false))) else some (Sum.inr ((IntKind.i64.wrap (s2 + 1))))) else none) else some (Sum.inl (Sum.inr ())))
def rickyardlaw05_Small.f (fu : Nat) (a0 : List S_rickyardlaw05_Act) (a1 : Int) : Option Bool := (if (decide ((List.length a0 : Int) > a1)) = true then some (false) else ((loopM (rickyardlaw05_Small.s0 fu a0) fu (0)).bind fun e3 => match e3 with | Sum.inl p => some p | Sum.inr x6 => some (true)))
set_option maxRecDepth 100000 in
set_option maxHeartbeats 400000 in
theorem rickyardlaw05_Small.ok (fu : Nat) (w : World) (a0 : List S_rickyardlaw05_Act) (V0_0 : Value) (R0_0 : RdN 4 D_rickyardlaw05_Act w V0_0 a0) (a1 : Int) (r : Bool) (h : rickyardlaw05_Small.f fu a0 a1 = some r) :
    Calls Try.prog 25 (([V0_0, .int .i64 a1] : List Value).toArray) w (fun e w' => ∃ v, e = .returned v ∧ v = .bool r ∧ Gr w w') := by
  unfold rickyardlaw05_Small.f at h
  have fB : Gr w w := Fr.refl _ _
  refine calls_cw Try.func25 rfl Try.ntmps25 rfl ?_
  refine cw_seq ?_
  refine cw_region ?_
  refine ol_val (v := .bool false) (by exact xr_assign rfl rfl) rfl rfl rfl ?_
  refine ol_nil ?_
  refine cw_seq ?_
  refine cw_seq ?_
  refine cw_region ?_
  refine ol_val (v := V0_0) (by exact xr_move rfl rfl) rfl rfl rfl ?_
  refine ol_val (v := .int .i64 (List.length a0 : Int)) (by exact xr_lenN rfl Try.underlying24 rfl (RdN.gr R0_0 D_rickyardlaw05_Act.gr fB)) rfl rfl rfl ?_
  refine ol_val (v := .int .i64 a1) (by exact xr_move rfl rfl) rfl rfl rfl ?_
  refine ol_val (v := .bool (decide ((List.length a0 : Int) > a1))) (by exact xr_gtr rfl rfl rfl) rfl rfl rfl ?_
  refine ol_nil ?_
  rcases is h with ⟨c1, h⟩ | ⟨c1, h⟩
  · refine cw_condT rfl c1 ?_
    refine cw_seq ?_
    refine cw_region ?_
    refine ol_val (v := .bool false) (by exact xr_assign rfl rfl) rfl rfl rfl ?_
    refine ol_nil ?_
    refine cw_ret ?_
    repeat (first | with_reducible refine thn_r ?_ | with_reducible refine blk_r ?_)
    obtain rfl := Option.some.inj h
    refine fin_ret1 Try.results25 rfl ?_
    exact ⟨_, rfl, rfl, fB⟩
  · refine cw_condF rfl c1 ?_
    refine cw_skip ?_
    refine cw_seq ?_
    refine cw_seq ?_
    refine cw_region ?_
    refine ol_val (v := .int .i64 0) (by exact xr_assign rfl rfl) rfl rfl rfl ?_
    refine ol_nil ?_
    obtain ⟨e3, l4, h5⟩ := bs h
    refine cw_mid (fun ρ' w' => ∃ x6, e3 = Sum.inr x6 ∧ Gr w w') ?_ ?_
    · refine cw_block ?_
      refine cw_round (fun (s2 : Int) ρ' w' => ρ' 0 = V0_0 ∧ ρ' 5 = .int .i64 s2 ∧ Gr w w') l4 ?_ ?_
      · skip
        exact ⟨rfl, rfl, fB⟩
      · rintro s2 x9 ρ7 w8 ⟨e0, e5, fB⟩ h
        unfold rickyardlaw05_Small.s0 at h
        refine cw_seq ?_
        refine cw_seq ?_
        refine cw_region ?_
        refine ol_val (v := .int .i64 s2) (by exact xr_move rfl e5) rfl rfl rfl ?_
        refine ol_val (v := V0_0) (by exact xr_move rfl e0) rfl rfl rfl ?_
        refine ol_val (v := .int .i64 (List.length a0 : Int)) (by exact xr_lenN rfl Try.underlying24 rfl (RdN.gr R0_0 D_rickyardlaw05_Act.gr fB)) rfl rfl rfl ?_
        refine ol_val (v := .bool (decide (s2 < (List.length a0 : Int)))) (by exact xr_lss rfl rfl rfl) rfl rfl rfl ?_
        refine ol_nil ?_
        rcases is h with ⟨c10, h⟩ | ⟨c10, h⟩
        · refine cw_condT rfl c10 ?_
          refine cw_skip ?_
          refine cw_seq ?_
          refine cw_block ?_
          refine cw_seq ?_
          refine cw_region ?_
          refine ol_val (v := V0_0) (by exact xr_move rfl e0) rfl rfl rfl ?_
          refine ol_val (v := .int .i64 s2) (by exact xr_move rfl e5) rfl rfl rfl ?_
          obtain ⟨g11, h⟩ := gs h
          refine ol_val (v := .pointer (some ⟨(sb V0_0), so V0_0 + Int.toNat s2 * 4, none⟩)) (by exact xr_indexN (v := V0_0) rfl Try.underlying24 sz39 rfl (RdN.gr R0_0 D_rickyardlaw05_Act.gr fB) rfl g11.1 g11.2) rfl rfl rfl ?_
          refine ol_val (v := .pointer (some ⟨(sb V0_0), so V0_0 + Int.toNat s2 * 4 + 3, none⟩)) (by exact xr_fieldAddr (p := so V0_0 + Int.toNat s2 * 4) (q := 3) rfl fl39_3 rfl) rfl rfl rfl ?_
          refine ol_val (v := cellAt w (sb V0_0) (so V0_0 + Int.toNat s2 * 4 + 3)) (by exact xr_load1 (v := cellAt w (sb V0_0) (so V0_0 + Int.toNat s2 * 4 + 3)) rfl ag25 rfl (At.segs (ss := [Seg.cell (.int .i64 ((ix a0 s2).Kind)), Seg.cell (.int .i64 ((ix a0 s2).At)), Seg.cell (.int .u64 ((ix a0 s2).W)), Seg.cell (cellAt w (sb V0_0) (so V0_0 + Int.toNat s2 * 4 + 3)) (N_rickyardlaw05_Act R0_0 g11.1 g11.2).2.one]) (At.gr (N_rickyardlaw05_Act R0_0 g11.1 g11.2).1 fB) 3 1 rfl)) rfl rfl rfl ?_
          refine ol_val (v := .int .i64 (List.length ((ix a0 s2).L) : Int)) (by exact xr_lenR rfl Try.underlying25 rfl ((N_rickyardlaw05_Act R0_0 g11.1 g11.2).2.gr fB)) rfl rfl rfl ?_
          refine ol_val (v := .bool (decide ((List.length ((ix a0 s2).L) : Int) > 40))) (by exact xr_gtr rfl rfl rfl) rfl rfl rfl ?_
          refine ol_nil ?_
          rcases is h with ⟨c12, h⟩ | ⟨c12, h⟩
          · refine cw_condT rfl c12 ?_
            refine cw_seq ?_
            refine cw_region ?_
            refine ol_val (v := .bool false) (by exact xr_assign rfl rfl) rfl rfl rfl ?_
            refine ol_nil ?_
            refine cw_ret ?_
            repeat (first | with_reducible refine thn_r ?_ | with_reducible refine blk_r ?_)
            obtain rfl := Option.some.inj h
            refine lp_ret ?_
            rintro rfl
            repeat (first | with_reducible refine thn_r ?_ | with_reducible refine blk_r ?_)
            have h := h5
            obtain rfl := Option.some.inj h
            refine fin_ret1 Try.results25 rfl ?_
            exact ⟨_, rfl, rfl, fB⟩
          · refine cw_condF rfl c12 ?_
            refine cw_skip ?_
            refine blk_i ?_
            refine cw_region ?_
            refine ol_val (v := .int .i64 s2) (by exact xr_move rfl e5) rfl rfl rfl ?_
            refine ol_val (v := .int .i64 (IntKind.i64.wrap (s2 + 1))) (by exact xr_add rfl rfl rfl) rfl rfl rfl ?_
            refine ol_val (v := .int .i64 (IntKind.i64.wrap (s2 + 1))) (by exact xr_assign rfl rfl) rfl rfl rfl ?_
            refine ol_nil ?_
            obtain rfl := Option.some.inj h
            refine lp_in ?_
            exact ⟨e0, rfl, fB⟩
        · refine cw_condF rfl c10 ?_
          refine cw_exit ?_
          repeat (first | with_reducible refine thn_e ?_ | with_reducible refine blk_e rfl ?_)
          obtain rfl := Option.some.inj h
          refine lp_exit ?_
          rintro rfl
          refine thn_x ?_
          exact ⟨_, rfl, fB⟩
    · rintro ρ13 w14 ⟨x6, rfl, fB⟩
      have h := h5
      refine cw_seq ?_
      refine cw_region ?_
      refine ol_val (v := .bool true) (by exact xr_assign rfl rfl) rfl rfl rfl ?_
      refine ol_nil ?_
      refine cw_ret ?_
      repeat (first | with_reducible refine thn_r ?_ | with_reducible refine blk_r ?_)
      obtain rfl := Option.some.inj h
      refine fin_ret1 Try.results25 rfl ?_
      exact ⟨_, rfl, rfl, fB⟩
end Go.Proofs.Ytklhbaghbmndeaa

/- Acts on a device: rounds with what stays true, small acts, the first example. -/
set_option linter.unusedVariables false
set_option linter.unusedSimpArgs false
namespace Go.Proofs.Ytklhbaghbmndeaa.Pure
open Go Go.Xw
theorem loopM_inv {σ ε : Type} {step : σ → Option (Sum ε σ)} (P : Nat → σ → Prop) (n : Nat) (Q : ε → Prop) (h : ∀ j s, j < n → P j s → ∃ s', step s = some (.inr s') ∧ P (j + 1) s') (he : ∀ s, P n s → ∃ e, step s = some (.inl e) ∧ Q e) : ∀ {k j : Nat} {s : σ}, P j s → j ≤ n → n - j < k → ∃ e, loopM step k s = some e ∧ Q e
  | 0, j, s, _, _, hk => by omega
  | k + 1, j, s, hp, hj, hk => by
    unfold loopM
    by_cases e1 : j = n
    · subst e1
      obtain ⟨e, h1, h2⟩ := he s hp
      rw [h1]
      exact ⟨e, rfl, h2⟩
    · obtain ⟨s', h1, h2⟩ := h j s (by omega) hp
      rw [h1]
      exact loopM_inv P n Q h he h2 (by omega) (by omega)
theorem okA_of {a : S_rickyardlaw05_Act} (h : ok_rickyardlaw05_Act a) (hl : a.L.length ≤ 40) : okA a := by
  obtain ⟨h1, h2, h3, h4, _⟩ := h
  exact ⟨wf64.1 h1, wf64.1 h2, wfu64.1 h3, fun x hx => wf64.1 (h4 x hx), by omega⟩
def Small (acts : List S_rickyardlaw05_Act) (m : Nat) : Prop := acts.length ≤ m ∧ ∀ a ∈ acts, a.L.length ≤ 40
instance (acts : List S_rickyardlaw05_Act) (m : Nat) : Decidable (Small acts m) := inferInstanceAs (Decidable (_ ∧ _))
theorem small_eq {fu m : Nat} {acts : List S_rickyardlaw05_Act} (hm : m ≤ 1000) (hf : m < fu) : rickyardlaw05_Small.f fu acts (m : Int) = some (decide (Small acts m)) := by
  unfold rickyardlaw05_Small.f
  by_cases h1 : acts.length ≤ m
  · have c : ¬ (acts.length : Int) > (m : Int) := by omega
    rw [decide_eq_false c, if_neg (by decide)]
    have hs : ∀ j : Nat, j < acts.length → rickyardlaw05_Small.s0 fu acts (j : Int) = some (if (ix acts (j : Int)).L.length ≤ 40 then .inr ((j + 1 : Nat) : Int) else .inl (.inl false)) := by
      intro j hj
      unfold rickyardlaw05_Small.s0
      have w3 : IntKind.i64.wrap ((j : Int) + 1) = ((j + 1 : Nat) : Int) := by rw [w64 (by omega) (by omega)]; omega
      have c1 : 0 ≤ (j : Int) ∧ (j : Int) < (acts.length : Int) := by omega
      rw [decide_eq_true c1.2, if_pos rfl, if_pos c1, w3]
      by_cases e : (ix acts (j : Int)).L.length ≤ 40
      · rw [decide_eq_false (by omega), if_neg (by decide), if_pos e]
      · rw [decide_eq_true (by omega), if_pos rfl, if_neg e]
    by_cases h2 : ∀ a ∈ acts, a.L.length ≤ 40
    · have : loopM (rickyardlaw05_Small.s0 fu acts) fu 0 = some (.inr ()) := by
        refine loopM_run (S := fun j => (j : Int)) acts.length rfl (fun j hj => by rw [hs j hj, ix_nat hj, if_pos (h2 _ (List.getElem_mem hj))]) ?_ (by omega)
        unfold rickyardlaw05_Small.s0
        rw [decide_eq_false (show ¬ ((acts.length : Int) < (acts.length : Int)) by omega), if_neg (by decide)]
      rw [this, decide_eq_true (show Small acts m from ⟨h1, h2⟩)]
      rfl
    · have : loopM (rickyardlaw05_Small.s0 fu acts) fu 0 = some (.inl false) := by
        refine loopM_bad (S := fun j => (j : Int)) acts.length (fun j => (ix acts (j : Int)).L.length ≤ 40) rfl ?_ (fun j hj _ hg => by rw [hs j hj, if_pos hg]) (fun j hj _ hg => by rw [hs j hj, if_neg hg]) (by omega)
        apply Classical.byContradiction
        intro hx
        refine h2 fun a ha => ?_
        obtain ⟨i, hi, rfl⟩ := List.getElem_of_mem ha
        refine Classical.byContradiction fun hg => hx ⟨i, hi, ?_⟩
        rw [ix_nat hi]
        exact hg
      rw [this, decide_eq_false (show ¬ Small acts m from fun q => h2 q.2)]
      rfl
  · have c : (acts.length : Int) > (m : Int) := by omega
    rw [decide_eq_true c, if_pos rfl, decide_eq_false (show ¬ Small acts m from fun q => h1 q.1)]
/-- The fuel. -/
abbrev FU : Nat := 200000
theorem awake05 : rickyardlaw05_awake.f FU = some true := by decide +kernel
theorem up_eq {fu : Nat} {d : Dev} : pmem_Device_Up.f fu d = some (!d.off) := rfl
theorem steps_eq {fu : Nat} {d : Dev} : pmem_Device_Steps.f fu d = some d.steps := rfl
theorem eta {d : Dev} : (⟨d.cells, ⟨d.plan.list, d.plan.at_⟩, d.off, d.armed, d.left, d.steps⟩ : S_pmem_Device) = d := rfl
def tup (i : Int) (d : Dev) : Int × (List S_pmem_cell) × (List Int) × Int × Bool × Bool × Int × Int := (i, d.cells, d.plan.list, d.plan.at_, d.off, d.armed, d.left, d.steps)
theorem next64 {j n : Nat} (h : j < n) (hn : n ≤ 100000) : IntKind.i64.wrap ((j : Int) + 1) = ((j + 1 : Nat) : Int) := by rw [w64 (by omega) (by omega)]; omega
end Go.Proofs.Ytklhbaghbmndeaa.Pure

/- The octets of numbers, as the document tells them; parts of them. -/
set_option linter.unusedVariables false
set_option linter.unusedSimpArgs false
namespace Go.Proofs.Ytklhbaghbmndeaa.Pure
open Go Go.Xw
theorem shr_pow (n j : Nat) (hj : j < 8) : shR .u64 (n : Int) ((8 * j : Nat) : Int) = ((n / 256 ^ j : Nat) : Int) := by
  unfold shR
  rw [Int.toNat_natCast]
  have e : min (8 * j) IntKind.u64.bits = 8 * j := Nat.min_eq_left (by show 8 * j ≤ 64; omega)
  rw [e, show (256 : Nat) = 2 ^ 8 from rfl, ← Nat.pow_mul]
  have : ((2 : Int) ^ (8 * j)) = ((2 ^ (8 * j) : Nat) : Int) := by simp
  rw [this, Int.fdiv_eq_ediv_of_nonneg _ (Int.natCast_nonneg _)]
  simp
theorem text_eq {fu : Nat} {ws : List Int} (hv : ∀ w ∈ ws, U64 w) (hl : ws.length ≤ 100000) (hf : ws.length + 8 < fu) : rickyardref05_Text.f fu ws = some ((octs ws).map toB) := by
  unfold rickyardref05_Text.f
  have : loopM (rickyardref05_Text.s1 fu ws) fu ([], 0) = some (octs ws) := by
    refine loopM_run (S := fun j => (octs (ws.take j), (j : Int))) ws.length (by simp [octs]) ?_ ?_ (by omega)
    · intro j hj
      unfold rickyardref05_Text.s1
      have w3 : IntKind.i64.wrap ((j : Int) + 1) = ((j + 1 : Nat) : Int) := next64 hj hl
      have c1 : 0 ≤ (j : Int) ∧ (j : Int) < (ws.length : Int) := by omega
      have hu := hv _ (List.getElem_mem hj)
      obtain ⟨v, hv'⟩ : ∃ v : Nat, ws[j] = (v : Int) := ⟨ws[j].toNat, by unfold U64 at hu; omega⟩
      have inner : loopM (rickyardref05_Text.s2 fu ws (octs (ws.take j), (j : Int))) fu (octs (ws.take j), 0) = some (octs (ws.take j) ++ lay v 8) := by
        refine loopM_run (S := fun i => (octs (ws.take j) ++ lay v i, (i : Int))) 8 (by simp [lay]) ?_ ?_ (by omega)
        · intro i hi
          unfold rickyardref05_Text.s2
          have c2 : (i : Int) < 8 := by omega
          have w4 : IntKind.i64.wrap (8 * (i : Int)) = ((8 * i : Nat) : Int) := by rw [w64 (by omega) (by omega)]; omega
          have w5 : IntKind.i64.wrap ((i : Int) + 1) = ((i + 1 : Nat) : Int) := by rw [w64 (by omega) (by omega)]; omega
          simp only [w4, w5]
          have hlim : List.length (octs (ws.take j) ++ lay v i) + List.length [((v / 256 ^ i % 256 : Nat) : Int)] ≤ LIM := by
            rw [List.length_append, octs_len, lay_len, List.length_take]
            exact Nat.le_trans (by simp only [List.length_cons, List.length_nil]; omega : _ ≤ 1000000) (by decide)
          rw [decide_eq_true c2, if_pos rfl, if_pos c1, if_pos (by omega), ix_nat hj, hv', shr_pow _ _ hi, wu8_mod, if_pos hlim, lay_succ, List.append_assoc]
        · unfold rickyardref05_Text.s2
          rw [decide_eq_false (show ¬ (((8 : Nat) : Int) < 8) by decide), if_neg (by decide)]
      simp only [w3]
      rw [decide_eq_true c1.2, if_pos rfl, inner, take_next hj, octs_append, octs_one, hv', Int.toNat_natCast]
      rfl
    · unfold rickyardref05_Text.s1
      rw [decide_eq_false (show ¬ ((ws.length : Int) < (ws.length : Int)) by omega), if_neg (by decide), List.take_length]
  rw [this]
  rfl
theorem octs_take (ws : List Int) (i : Nat) : (octs ws).take (8 * i) = octs (ws.take i) := by
  by_cases h : i ≤ ws.length
  · have e : octs ws = octs (ws.take i) ++ octs (ws.drop i) := by rw [← octs_append, List.take_append_drop]
    rw [e, List.take_append_of_le_length (by rw [octs_len, List.length_take]; omega), List.take_of_length_le (by rw [octs_len, List.length_take]; omega)]
  · rw [List.take_of_length_le (by rw [octs_len]; omega), List.take_of_length_le (by omega)]
theorem octs_drop (ws : List Int) (i : Nat) : (octs ws).drop (8 * i) = octs (ws.drop i) := by
  by_cases h : i ≤ ws.length
  · have e : octs ws = octs (ws.take i) ++ octs (ws.drop i) := by rw [← octs_append, List.take_append_drop]
    have hl : (octs (ws.take i)).length = 8 * i := by rw [octs_len, List.length_take]; omega
    rw [e, ← hl, List.drop_left]
  · rw [List.drop_of_length_le (by rw [octs_len]; omega), List.drop_of_length_le (by omega)]
    rfl
theorem octs_cut (ws : List Int) (i j : Nat) : cut (octs ws) ((8 * i : Nat) : Int) ((8 * j : Nat) : Int) = octs (cut ws (i : Int) (j : Int)) := by
  unfold cut
  rw [Int.toNat_natCast, Int.toNat_natCast, Int.toNat_natCast, Int.toNat_natCast, octs_take, octs_drop]
theorem ix_mapIdx {α : Type} [Inhabited α] {cs : List α} {g : Nat → α → α} {i : Nat} (hi : i < cs.length) : ix (cs.mapIdx g) (i : Int) = g i (ix cs (i : Int)) := by
  rw [ix_nat (by simpa using hi), ix_nat hi, List.getElem_mapIdx]
theorem ix_mapC {α : Type} [Inhabited α] {cs : List α} {g : α → α} {i : Nat} (hi : i < cs.length) : ix (cs.map g) (i : Int) = g (ix cs (i : Int)) := by
  rw [ix_nat (by simpa using hi), ix_nat hi, List.getElem_map]
theorem cut_get {α : Type} {l : List α} {a b i : Nat} (h : i < (cut l (a : Int) (b : Int)).length) (h2 : a + i < l.length) : (cut l (a : Int) (b : Int))[i] = l[a + i] := by
  simp only [cut, Int.toNat_natCast, List.getElem_drop, List.getElem_take]
theorem cut_len' {α : Type} {l : List α} {a b : Nat} (h : b ≤ l.length) : (cut l (a : Int) (b : Int)).length = b - a := by
  simp only [cut, Int.toNat_natCast, List.length_drop, List.length_take]
  omega
theorem mapB_inj {l m : List Int} (hl : Bytes l) (hm : Bytes m) (h : l.map toB = m.map toB) : l = m := by
  apply List.ext_getElem
  · have := congrArg List.length h
    simpa using this
  · intro i h1 h2
    have e := congrArg (fun x => x[i]?) h
    simp only [List.getElem?_map, List.getElem?_eq_getElem h1, List.getElem?_eq_getElem h2, Option.map_some, Option.some.injEq] at e
    have b1 := hl _ (List.getElem_mem h1)
    have b2 := hm _ (List.getElem_mem h2)
    unfold toB at e
    have := congrArg UInt8.toNat e
    simp only [UInt8.toNat_ofNat'] at this
    omega
end Go.Proofs.Ytklhbaghbmndeaa.Pure

/- rickyard/rickyardref01.Number: its model, and that the Go function computes it: written by gen.py. -/
set_option linter.unusedVariables false
namespace Go.Proofs.Ytklhbaghbmndeaa
open Go Go.Xw
def rickyardref01_Number.s0 (fu : Nat) (a0 : List UInt8) : (Int × Int) → Option (Sum Int (Int × Int)) := fun s1 => (if (decide (s1.2 ≥ 0)) = true then (((if (decide (s1.2 < 8)) = true then (if 0 ≤ s1.2 ∧ s1.2 < (List.length a0 : Int) then some ((IntKind.u64.wrap ((IntKind.u64.wrap (s1.1 * 256)) + (IntKind.u64.wrap (ofB (List.getD a0 (Int.toNat s1.2) 0)))))) else none) else some (s1.1)) : Option Int).bind fun x9 => some (Sum.inr (x9, (IntKind.i64.wrap (s1.2 - 1))))) else some (Sum.inl (s1.1)))
def rickyardref01_Number.f (fu : Nat) (a0 : List UInt8) : Option Int := ((loopM (rickyardref01_Number.s0 fu a0) fu (0, (IntKind.i64.wrap ((List.length a0 : Int) - 1)))).bind fun e2 => some (e2))
set_option maxRecDepth 100000 in
set_option maxHeartbeats 400000 in
theorem rickyardref01_Number.ok (fu : Nat) (w : World) (a0 : List UInt8) (r : Int) (h : rickyardref01_Number.f fu a0 = some r) :
    Calls Try.prog 41 (([sv a0] : List Value).toArray) w (fun e w' => ∃ v, e = .returned v ∧ v = .int .u64 r ∧ Gr w w') := by
  unfold rickyardref01_Number.f at h
  have fB : Gr w w := Fr.refl _ _
  refine calls_cw Try.func41 rfl Try.ntmps41 rfl ?_
  refine cw_seq ?_
  refine cw_region ?_
  refine ol_val (v := .int .u64 0) (by exact xr_assign rfl rfl) rfl rfl rfl ?_
  refine ol_nil ?_
  refine cw_seq ?_
  refine cw_region ?_
  refine ol_val (v := .int .u64 0) (by exact xr_assign rfl rfl) rfl rfl rfl ?_
  refine ol_nil ?_
  refine cw_seq ?_
  refine cw_seq ?_
  refine cw_region ?_
  refine ol_val (v := sv a0) (by exact xr_move rfl rfl) rfl rfl rfl ?_
  refine ol_val (v := .int .i64 (List.length a0 : Int)) (by exact xr_lenStr rfl Try.underlying9 rfl) rfl rfl rfl ?_
  refine ol_val (v := .int .i64 (IntKind.i64.wrap ((List.length a0 : Int) - 1))) (by exact xr_sub rfl rfl rfl) rfl rfl rfl ?_
  refine ol_val (v := .int .i64 (IntKind.i64.wrap ((List.length a0 : Int) - 1))) (by exact xr_assign rfl rfl) rfl rfl rfl ?_
  refine ol_nil ?_
  obtain ⟨e2, l3, h4⟩ := bs h
  refine cw_mid (fun ρ' w' => ρ' 3 = .int .u64 e2 ∧ Gr w w') ?_ ?_
  · refine cw_block ?_
    refine cw_round (fun (s1 : Int × Int) ρ' w' => ρ' 0 = sv a0 ∧ ρ' 3 = .int .u64 s1.1 ∧ ρ' 4 = .int .i64 s1.2 ∧ Gr w w') l3 ?_ ?_
    · skip
      exact ⟨rfl, rfl, rfl, fB⟩
    · rintro s1 x7 ρ5 w6 ⟨e0, e3, e4, fB⟩ h
      unfold rickyardref01_Number.s0 at h
      refine cw_seq ?_
      refine cw_seq ?_
      refine cw_region ?_
      refine ol_val (v := .int .i64 s1.2) (by exact xr_move rfl e4) rfl rfl rfl ?_
      refine ol_val (v := .bool (decide (s1.2 ≥ 0))) (by exact xr_geq rfl rfl rfl) rfl rfl rfl ?_
      refine ol_nil ?_
      rcases is h with ⟨c8, h⟩ | ⟨c8, h⟩
      · refine cw_condT rfl c8 ?_
        refine cw_skip ?_
        refine cw_seq ?_
        refine cw_block ?_
        refine cw_seq ?_
        refine cw_region ?_
        refine ol_val (v := .int .i64 s1.2) (by exact xr_move rfl e4) rfl rfl rfl ?_
        refine ol_val (v := .bool (decide (s1.2 < 8))) (by exact xr_lss rfl rfl rfl) rfl rfl rfl ?_
        refine ol_nil ?_
        obtain ⟨x9, j10, h11⟩ := bs h
        refine cw_mid (fun ρ' w' => ρ' 0 = sv a0 ∧ ρ' 3 = .int .u64 x9 ∧ ρ' 4 = .int .i64 s1.2 ∧ Gr w w') ?_ ?_
        · have h := j10
          rcases is h with ⟨c12, h⟩ | ⟨c12, h⟩
          · refine cw_condT rfl c12 ?_
            refine cw_region ?_
            refine ol_val (v := .int .u64 s1.1) (by exact xr_move rfl e3) rfl rfl rfl ?_
            refine ol_val (v := .int .u64 (IntKind.u64.wrap (s1.1 * 256))) (by exact xr_mul rfl rfl rfl) rfl rfl rfl ?_
            refine ol_val (v := sv a0) (by exact xr_move rfl e0) rfl rfl rfl ?_
            refine ol_val (v := .int .i64 s1.2) (by exact xr_move rfl e4) rfl rfl rfl ?_
            obtain ⟨g13, h⟩ := gs h
            refine ol_val (v := .int .u8 (ofB (List.getD a0 (Int.toNat s1.2) 0))) (by exact xr_indexStr rfl Try.underlying9 rfl rfl g13.1 g13.2) rfl rfl rfl ?_
            refine ol_val (v := .int .u64 (IntKind.u64.wrap (ofB (List.getD a0 (Int.toNat s1.2) 0)))) (by exact xr_conv rfl Try.underlying5 Try.underlying22 rfl) rfl rfl rfl ?_
            refine ol_val (v := .int .u64 (IntKind.u64.wrap ((IntKind.u64.wrap (s1.1 * 256)) + (IntKind.u64.wrap (ofB (List.getD a0 (Int.toNat s1.2) 0)))))) (by exact xr_add rfl rfl rfl) rfl rfl rfl ?_
            refine ol_val (v := .int .u64 (IntKind.u64.wrap ((IntKind.u64.wrap (s1.1 * 256)) + (IntKind.u64.wrap (ofB (List.getD a0 (Int.toNat s1.2) 0)))))) (by exact xr_assign rfl rfl) rfl rfl rfl ?_
            refine ol_nil ?_
            obtain rfl := Option.some.inj h
            refine thn_i ?_
            exact ⟨e0, rfl, e4, fB⟩
          · refine cw_condF rfl c12 ?_
            refine cw_skip ?_
            obtain rfl := Option.some.inj h
            refine thn_i ?_
            exact ⟨e0, e3, e4, fB⟩
        · rintro ρ14 w15 ⟨e0, e3, e4, fB⟩
          have h := h11
          refine blk_i ?_
          refine cw_region ?_
          refine ol_val (v := .int .i64 s1.2) (by exact xr_move rfl e4) rfl rfl rfl ?_
          refine ol_val (v := .int .i64 (IntKind.i64.wrap (s1.2 - 1))) (by exact xr_sub rfl rfl rfl) rfl rfl rfl ?_
          refine ol_val (v := .int .i64 (IntKind.i64.wrap (s1.2 - 1))) (by exact xr_assign rfl rfl) rfl rfl rfl ?_
          refine ol_nil ?_
          obtain rfl := Option.some.inj h
          refine lp_in ?_
          exact ⟨e0, e3, rfl, fB⟩
      · refine cw_condF rfl c8 ?_
        refine cw_exit ?_
        repeat (first | with_reducible refine thn_e ?_ | with_reducible refine blk_e rfl ?_)
        obtain rfl := Option.some.inj h
        refine lp_exit ?_
        rintro rfl
        refine thn_x ?_
        exact ⟨e3, fB⟩
  · rintro ρ16 w17 ⟨e3, fB⟩
    have h := h4
    refine cw_seq ?_
    refine cw_region ?_
    refine ol_val (v := .int .u64 e2) (by exact xr_move rfl e3) rfl rfl rfl ?_
    refine ol_val (v := .int .u64 e2) (by exact xr_assign rfl rfl) rfl rfl rfl ?_
    refine ol_nil ?_
    refine cw_ret ?_
    repeat (first | with_reducible refine thn_r ?_ | with_reducible refine blk_r ?_)
    obtain rfl := Option.some.inj h
    refine fin_ret1 Try.results41 rfl ?_
    exact ⟨_, rfl, rfl, fB⟩
end Go.Proofs.Ytklhbaghbmndeaa

/- Octets read as a number, as the document does it. -/
set_option linter.unusedVariables false
set_option linter.unusedSimpArgs false
namespace Go.Proofs.Ytklhbaghbmndeaa.Pure
open Go Go.Xw
theorem of_toB {l : List Int} (h : Bytes l) : (l.map toB).map ofB = l := by
  rw [List.map_map]
  conv => rhs; rw [← List.map_id l]
  apply List.map_congr_left
  intro x hx
  have := h x hx
  simp only [Function.comp, ofB, toB, UInt8.toNat_ofNat', id]
  omega
theorem Bytes.drop {l : List Int} (h : Bytes l) (n : Nat) : Bytes (l.drop n) := fun x hx => h x (List.mem_of_mem_drop hx)
theorem Bytes.take {l : List Int} (h : Bytes l) (n : Nat) : Bytes (l.take n) := fun x hx => h x (List.mem_of_mem_take hx)
theorem getD_toB {l : List Int} (hb : Bytes l) {i : Nat} (h : i < l.length) : ofB (List.getD (l.map toB) (Int.toNat (i : Int)) 0) = ix l (i : Int) := by
  rw [Int.toNat_natCast, List.getD_eq_getElem?_getD, List.getElem?_map, List.getElem?_eq_getElem h, ix_nat h]
  have := of_toB (l := [l[i]]) (by intro x hx; obtain rfl := List.mem_singleton.1 hx; exact hb _ (List.getElem_mem h))
  simpa using this
theorem num_lt8 {l : List Int} (hb : Bytes l) (hl : l.length ≤ 8) : num l < 18446744073709551616 := by
  have h1 := num_lt hb
  have h2 : (256 : Nat) ^ l.length ≤ 256 ^ 8 := Nat.pow_le_pow_right (by decide) hl
  have h3 : (256 : Nat) ^ 8 = 18446744073709551616 := by decide
  omega
theorem rnumber_eq {fu : Nat} {l : List Int} (hb : Bytes l) (hl : l.length ≤ 8) (hf : l.length < fu) : rickyardref01_Number.f fu (l.map toB) = some ((num l : Nat) : Int) := by
  unfold rickyardref01_Number.f
  have w0 : IntKind.i64.wrap (((l.map toB).length : Int) - 1) = (l.length : Int) - 1 := by rw [List.length_map, w64 (by omega) (by omega)]
  rw [w0]
  have : loopM (rickyardref01_Number.s0 fu (l.map toB)) fu (0, (l.length : Int) - 1) = some ((num l : Nat) : Int) := by
    refine loopM_run (S := fun j => (((num (l.drop (l.length - j)) : Nat) : Int), (l.length : Int) - 1 - (j : Int))) l.length (by simp [num]) ?_ ?_ hf
    · intro j hj
      unfold rickyardref01_Number.s0
      obtain ⟨i, hi⟩ : ∃ i : Nat, l.length - j = i + 1 := ⟨l.length - j - 1, by omega⟩
      have e1 : (l.length : Int) - 1 - (j : Int) = (i : Int) := by omega
      have hil : i < l.length := by omega
      have e2 : l.length - (j + 1) = i := by omega
      have c1 : (i : Int) ≥ 0 := by omega
      have c2 : (i : Int) < 8 := by omega
      have c3 : True ∧ (i : Int) < ((l.map toB).length : Int) := ⟨trivial, by rw [List.length_map]; omega⟩
      have w1 : IntKind.i64.wrap ((i : Int) - 1) = (l.length : Int) - 1 - ((j + 1 : Nat) : Int) := by rw [w64 (by omega) (by omega)]; omega
      have hcb := hb _ (List.getElem_mem hil)
      obtain ⟨c, hc⟩ : ∃ c : Nat, l[i] = (c : Int) := ⟨l[i].toNat, by omega⟩
      have hd : l.drop i = l[i] :: l.drop (i + 1) := List.drop_eq_getElem_cons hil
      have hn : num (l.drop i) = c + 256 * num (l.drop (i + 1)) := by rw [hd, num, hc, Int.toNat_natCast]
      have hlt := num_lt8 (hb.drop i) (by rw [List.length_drop]; omega)
      rw [hn] at hlt
      have w2 : IntKind.u64.wrap (((num (l.drop (i + 1)) : Nat) : Int) * 256) = ((num (l.drop (i + 1)) : Nat) : Int) * 256 := wu64 (by omega) (by omega)
      have w3 : IntKind.u64.wrap (ix l (i : Int)) = (c : Int) := by rw [ix_nat hil, hc, wu64 (by omega) (by omega)]
      have w4 : IntKind.u64.wrap (((num (l.drop (i + 1)) : Nat) : Int) * 256 + (c : Int)) = ((num (l.drop i) : Nat) : Int) := by rw [wu64 (by omega) (by omega), hn]; omega
      simp only [e1, hi, e2, getD_toB hb hil, w1, w2, w3, w4, c1, c2, decide_true, if_true]
      rw [if_pos c3]
      rfl
    · unfold rickyardref01_Number.s0
      have : ¬ (l.length : Int) - 1 - (l.length : Int) ≥ 0 := by omega
      simp only [this]
      simp
  rw [this]
  rfl
end Go.Proofs.Ytklhbaghbmndeaa.Pure

/- A device of octets. -/
set_option linter.unusedVariables false
set_option linter.unusedSimpArgs false
namespace Go.Proofs.Ytklhbaghbmndeaa.Pure
open Go Go.Xw
theorem read_long {fu : Nat} {l : List Int} (h : 8 ≤ l.length) : octet_Read.f fu l = octet_Read.f fu (l.take 8) := by
  have h8 : (l.take 8).length = 8 := by rw [List.length_take]; omega
  have e1 : mnI (l.length : Int) 8 = 8 := by unfold mnI; split <;> omega
  have e2 : mnI ((l.take 8).length : Int) 8 = 8 := by rw [h8]; rfl
  have e3 : cut l 0 8 = l.take 8 := rfl
  have e4 : cut (l.take 8) 0 8 = l.take 8 := by
    unfold cut
    rw [List.take_of_length_le (by rw [h8]; decide)]
    rfl
  have es : octet_Read.s0 fu l = octet_Read.s0 fu (l.take 8) := by
    unfold octet_Read.s0
    rw [e1, e2, e3, e4]
  unfold octet_Read.f
  rw [e1, e2, es, if_pos (by omega), if_pos (by rw [h8]; decide)]
def wordsU (l : List Int) (j : Nat) : List Int := (List.range j).map fun i => ((num ((l.drop (8 * i)).take 8) : Nat) : Int)
theorem wordsU_succ (l : List Int) (j : Nat) : wordsU l (j + 1) = wordsU l j ++ [((num ((l.drop (8 * j)).take 8) : Nat) : Int)] := by
  simp [wordsU, List.range_succ]
theorem wordsU_len (l : List Int) (j : Nat) : (wordsU l j).length = j := by simp [wordsU]
theorem chunk_len {l : List Int} {j : Nat} (h : 8 * j + 8 ≤ l.length) : ((l.drop (8 * j)).take 8).length = 8 := by
  rw [List.length_take, List.length_drop]
  omega
theorem octs_words {l : List Int} (hb : Bytes l) : ∀ j, 8 * j ≤ l.length → octs (wordsU l j) = l.take (8 * j)
  | 0, _ => by simp [wordsU, octs]
  | j + 1, h => by
    have hc : ((l.drop (8 * j)).take 8).length = 8 := chunk_len (by omega)
    have hl := lay_num ((hb.drop (8 * j)).take 8)
    rw [hc] at hl
    rw [wordsU_succ, octs_append, octs_one, octs_words hb j (by omega), Int.toNat_natCast, hl, show 8 * (j + 1) = 8 * j + 8 from by omega, List.take_add]
theorem words_U64 {l : List Int} (hb : Bytes l) {n : Nat} : ∀ w ∈ wordsU l n, U64 w := by
  intro w hw
  obtain ⟨i, _, rfl⟩ := List.mem_map.1 hw
  have := num_lt8 ((hb.drop (8 * i)).take 8) (by rw [List.length_take]; omega)
  unfold U64
  omega
theorem words_eq {fu n : Nat} {l : List Int} (hb : Bytes l) (hl : l.length = 8 * n) (hn : n ≤ 100000) (hf : n + 8 < fu) : octet_Words.f fu l = some (wordsU l n) := by
  unfold octet_Words.f
  have : loopM (octet_Words.s0 fu) fu (l, []) = some (wordsU l n) := by
    refine loopM_run (S := fun j => (l.drop (8 * j), wordsU l j)) n (by simp [wordsU]) ?_ ?_ (by omega)
    · intro j hj
      unfold octet_Words.s0
      have hdl : (l.drop (8 * j)).length = 8 * n - 8 * j := by rw [List.length_drop, hl]
      have c1 : ((l.drop (8 * j)).length : Int) ≥ 8 := by omega
      have hc : ((l.drop (8 * j)).take 8).length = 8 := chunk_len (by omega)
      have hr : octet_Read.f fu (l.drop (8 * j)) = some ((num ((l.drop (8 * j)).take 8) : Nat) : Int) := by
        rw [read_long (by omega)]
        exact read_eq ((hb.drop _).take _) (by omega) (by omega)
      have e1 : cut (l.drop (8 * j)) 8 ((l.drop (8 * j)).length : Int) = l.drop (8 * (j + 1)) := by
        unfold cut
        rw [Int.toNat_natCast, List.take_length, show Int.toNat 8 = 8 from rfl, List.drop_drop]
        congr 1
      simp only [e1]
      rw [decide_eq_true c1, if_pos rfl, hr]
      simp only [Option.bind_some]
      rw [if_pos (by rw [wordsU_len]; exact Nat.le_trans (by simp only [List.length_cons, List.length_nil]; omega : _ ≤ 100001) (by decide)), if_pos c1, wordsU_succ]
    · unfold octet_Words.s0
      have : ¬ (((l.drop (8 * n)).length : Int) ≥ 8) := by rw [List.length_drop]; omega
      simp only [this, decide_false, Bool.false_eq_true, if_false]
  rw [this]
  rfl
def wordC (w : Int) : Cell := ⟨w, w, 0, false⟩
def fromD (l : List Int) : Dev := ⟨(wordsU l (8 * (l.length / 64))).map wordC, ⟨[], 0⟩, false, false, 0, 0⟩
theorem wordsU_take {l : List Int} {n : Nat} : ∀ j, 8 * j ≤ n → wordsU (l.take n) j = wordsU l j
  | 0, _ => rfl
  | j + 1, h => by
    rw [wordsU_succ, wordsU_succ, wordsU_take j (by omega)]
    congr 4
    rw [List.drop_take, List.take_take, Nat.min_eq_left (by omega)]
theorem from_eq {fu : Nat} {l : List Int} (hb : Bytes l) (hl : l.length ≤ 100000) (hf : l.length + 8 < fu) : pmem_From.f fu l = some (fromD l) := by
  unfold pmem_From.f
  have hd : l.length / 64 ≤ 1562 := by omega
  have e0 : Int.tdiv (l.length : Int) 64 = ((l.length / 64 : Nat) : Int) := by
    rw [Int.tdiv_eq_ediv_of_nonneg (by omega)]
    omega
  have e1 : mnI (IntKind.i64.wrap (Int.tdiv (l.length : Int) 64)) 4096 = ((l.length / 64 : Nat) : Int) := by
    rw [e0, w64 (by omega) (by omega)]
    unfold mnI
    split <;> omega
  have e2 : IntKind.i64.wrap (((l.length / 64 : Nat) : Int) * 64) = ((64 * (l.length / 64) : Nat) : Int) := by rw [w64 (by omega) (by omega)]; omega
  rw [e1, e2, if_pos (by omega)]
  have e3 : cut l 0 ((64 * (l.length / 64) : Nat) : Int) = l.take (64 * (l.length / 64)) := by
    unfold cut
    rw [Int.toNat_natCast]
    rfl
  have hwo : octet_Words.f fu (l.take (64 * (l.length / 64))) = some (wordsU l (8 * (l.length / 64))) := by
    rw [words_eq (n := 8 * (l.length / 64)) (hb.take _) (by rw [List.length_take]; omega) (by omega) (by omega), wordsU_take _ (by omega)]
  rw [e3, hwo]
  simp only [Option.bind_some]
  generalize hW : wordsU l (8 * (l.length / 64)) = ws
  have hwl : ws.length = 8 * (l.length / 64) := by rw [← hW, wordsU_len]
  have : loopM (pmem_From.s0 fu ws) fu (0, []) = some (ws.map wordC) := by
    refine loopM_run (S := fun j => ((j : Int), (ws.take j).map wordC)) ws.length (by simp) ?_ ?_ (by omega)
    · intro j hj
      unfold pmem_From.s0
      have c1 : 0 ≤ (j : Int) ∧ (j : Int) < (ws.length : Int) := by omega
      have hlim : List.length ((ws.take j).map wordC) + List.length [(⟨(ix ws (j : Int)), (ix ws (j : Int)), (0 : Int), false⟩ : S_pmem_cell)] ≤ LIM := by
        rw [List.length_map, List.length_take]
        exact Nat.le_trans (by simp only [List.length_cons, List.length_nil]; omega : _ ≤ 100001) (by decide)
      simp only []
      rw [decide_eq_true c1.2, if_pos rfl, if_pos c1, if_pos hlim, next64 hj (by omega), ix_nat hj, take_next hj, List.map_append]
      rfl
    · unfold pmem_From.s0
      rw [decide_eq_false (show ¬ ((ws.length : Int) < (ws.length : Int)) by omega), if_neg (by decide), List.take_length]
  rw [this]
  unfold fromD
  rw [hW]
  rfl
theorem from_ok {l : List Int} (hb : Bytes l) : DevOk (8 * (l.length / 64)) 0 (fromD l) := by
  refine ⟨by simp [fromD, wordsU], fun c hc => ?_, fun h => absurd rfl h, by simp [fromD], fun h => (by cases h), fun _ => rfl, by simp [fromD]⟩
  obtain ⟨w, hw, rfl⟩ := List.mem_map.1 hc
  have := words_U64 hb w hw
  exact ⟨this, this, by unfold U64; simp [wordC]⟩
theorem from_lasts (l : List Int) : lastsD (fromD l) = wordsU l (8 * (l.length / 64)) := by
  simp [lastsD, fromD, wordC, Function.comp_def]
theorem from_stored (l : List Int) : storedD (fromD l) = wordsU l (8 * (l.length / 64)) := by
  simp [storedD, fromD, wordC, Function.comp_def]
theorem from_shut {l : List Int} (c : Cell) (hc : c ∈ (fromD l).cells) : openC c = false := by
  obtain ⟨w, hw, rfl⟩ := List.mem_map.1 hc
  simp [openC, wordC]
end Go.Proofs.Ytklhbaghbmndeaa.Pure

/- rickyard/rickyardref05.Value: its model, and that the Go function computes it: written by gen.py. -/
set_option linter.unusedVariables false
namespace Go.Proofs.Ytklhbaghbmndeaa
open Go Go.Xw
def rickyardref05_Value.f (fu : Nat) (a0 : S_api_Fate) (a1 : Int) : Option Int := ((rickyardref01_Rest.f fu a1 3 : Option Int).bind fun t7 => (if (decide (t7 = 2)) = true then some (a0.Stored) else (if (if (decide (t7 = 1)) = true then a0.Flushed else false) = true then some (a0.Sent) else some (a0.Lasts))))
set_option maxRecDepth 100000 in
set_option maxHeartbeats 400000 in
theorem rickyardref05_Value.ok (fu : Nat) (w : World) (a0 : S_api_Fate) (a1 : Int) (r : Int) (h : rickyardref05_Value.f fu a0 a1 = some r) :
    Calls Try.prog 42 (([aggV [Seg.cell (.int .i64 a0.At), Seg.cell (.int .u64 a0.Lasts), Seg.cell (.bool a0.Flushed), Seg.cell (.int .u64 a0.Sent), Seg.cell (.int .u64 a0.Stored)], .int .i64 a1] : List Value).toArray) w (fun e w' => ∃ v, e = .returned v ∧ v = .int .u64 r ∧ Gr w w') := by
  unfold rickyardref05_Value.f at h
  have fB : Gr w w := Fr.refl _ _
  refine calls_cw Try.func42 rfl Try.ntmps42 rfl ?_
  refine cw_seq ?_
  refine cw_region ?_
  refine ol_op (by exact opv_box (ss := [Seg.cell (.int .i64 a0.At), Seg.cell (.int .u64 a0.Lasts), Seg.cell (.bool a0.Flushed), Seg.cell (.int .u64 a0.Sent), Seg.cell (.int .u64 a0.Stored)]) rfl rfl rfl) rfl rfl rfl ?_
  rintro _ w6 ⟨G1, rfl, b2, q3, z4⟩
  have z4 := Nat.le_trans fB.size z4
  have fB := fB.gr q3
  refine ol_val (v := .int .u64 0) (by exact xr_assign rfl rfl) rfl rfl rfl ?_
  refine ol_nil ?_
  refine cw_seq ?_
  refine cw_region ?_
  refine ol_val (v := .int .i64 a1) (by exact xr_move rfl rfl) rfl rfl rfl ?_
  obtain ⟨t7, k8, h⟩ := bs h
  refine ol_op (by exact opv_call rfl cal27 (ac rfl (ac rfl an)) (rickyardref01_Rest.ok fu _ a1 3 _ k8)) rfl rfl rfl ?_
  rintro _ w10 ⟨rfl, q9⟩
  have b2 := b2.gr q9
  have fB := fB.gr q9
  refine ol_val (v := .int .i64 t7) (by exact xr_assign rfl rfl) rfl rfl rfl ?_
  refine ol_nil ?_
  refine cw_seq ?_
  refine cw_seq ?_
  refine cw_region ?_
  refine ol_val (v := .int .i64 t7) (by exact xr_move rfl rfl) rfl rfl rfl ?_
  refine ol_val (v := .bool (decide (t7 = 2))) (by exact xr_eqI rfl Try.underlying3 rfl rfl rfl) rfl rfl rfl ?_
  refine ol_nil ?_
  rcases is h with ⟨c11, h⟩ | ⟨c11, h⟩
  · refine cw_condT rfl c11 ?_
    refine cw_seq ?_
    refine cw_region ?_
    refine ol_val (v := .pointer (some ⟨G1, 4, none⟩)) (by exact xr_fieldAddr (p := 0) (q := 4) rfl fl55_4 rfl) rfl rfl rfl ?_
    refine ol_val (v := .int .u64 a0.Stored) (by exact xr_load1 (v := .int .u64 a0.Stored) rfl ag22 rfl (b2.seg 4 rfl rfl)) rfl rfl rfl ?_
    refine ol_val (v := .int .u64 a0.Stored) (by exact xr_assign rfl rfl) rfl rfl rfl ?_
    refine ol_nil ?_
    refine cw_ret ?_
    repeat (first | with_reducible refine thn_r ?_ | with_reducible refine blk_r ?_)
    obtain rfl := Option.some.inj h
    refine fin_ret1 Try.results42 rfl ?_
    exact ⟨_, rfl, rfl, fB⟩
  · refine cw_condF rfl c11 ?_
    refine cw_skip ?_
    refine cw_seq ?_
    refine cw_seq ?_
    refine cw_mid (fun ρ' w' => ρ' 2 = .pointer (some ⟨G1, 0, none⟩) ∧ ρ' 17 = .bool (if (decide (t7 = 1)) = true then a0.Flushed else false) ∧ w10 = w') ?_ ?_
    · skip
      refine cw_region ?_
      refine ol_val (v := .int .i64 t7) (by exact xr_move rfl rfl) rfl rfl rfl ?_
      refine ol_val (v := .bool (decide (t7 = 1))) (by exact xr_eqI rfl Try.underlying3 rfl rfl rfl) rfl rfl rfl ?_
      refine ol_val (v := .bool (decide (t7 = 1))) (by exact xr_move rfl rfl) rfl rfl rfl ?_
      rcases bt (decide (t7 = 1)) with c12 | c12
      · skip
        refine ol_gval (v := .pointer (some ⟨G1, 2, none⟩)) (by exact xr_fieldAddr (p := 0) (q := 2) rfl fl55_2 rfl) rfl rfl rfl rfl rfl c12 ?_
        refine ol_gval (v := .bool a0.Flushed) (by exact xr_load1 (v := .bool a0.Flushed) rfl ag4 rfl (b2.seg 2 rfl rfl)) rfl rfl rfl rfl rfl c12 ?_
        refine ol_val (v := .bool a0.Flushed) (by exact xr_pickT rfl rfl c12 rfl) rfl rfl rfl ?_
        refine ol_nil ?_
        refine thn_i ?_
        exact ⟨rfl, (rfl).trans (congrArg (fun z => (.bool z : Value)) (show a0.Flushed = (if (decide (t7 = 1)) = true then a0.Flushed else false) from by rw [ite_t c12])), rfl⟩
      · skip
        refine ol_gskip rfl rfl rfl rfl rfl c12 ?_
        refine ol_gskip rfl rfl rfl rfl rfl c12 ?_
        refine ol_val (v := .bool false) (by exact xr_pickF rfl rfl c12 rfl) rfl rfl rfl ?_
        refine ol_nil ?_
        refine thn_i ?_
        exact ⟨rfl, (rfl).trans (congrArg (fun z => (.bool z : Value)) (show false = (if (decide (t7 = 1)) = true then a0.Flushed else false) from by rw [ite_f c12])), rfl⟩
    · skip
      rintro ρ13 _ ⟨e2, e17, rfl⟩
      rcases is h with ⟨c14, h⟩ | ⟨c14, h⟩
      · refine cw_condT e17 c14 ?_
        refine cw_seq ?_
        refine cw_region ?_
        refine ol_val (v := .pointer (some ⟨G1, 3, none⟩)) (by exact xr_fieldAddr (p := 0) (q := 3) rfl fl55_3 e2) rfl rfl rfl ?_
        refine ol_val (v := .int .u64 a0.Sent) (by exact xr_load1 (v := .int .u64 a0.Sent) rfl ag22 rfl (b2.seg 3 rfl rfl)) rfl rfl rfl ?_
        refine ol_val (v := .int .u64 a0.Sent) (by exact xr_assign rfl rfl) rfl rfl rfl ?_
        refine ol_nil ?_
        refine cw_ret ?_
        repeat (first | with_reducible refine thn_r ?_ | with_reducible refine blk_r ?_)
        obtain rfl := Option.some.inj h
        refine fin_ret1 Try.results42 rfl ?_
        exact ⟨_, rfl, rfl, fB⟩
      · refine cw_condF e17 c14 ?_
        refine cw_skip ?_
        refine cw_seq ?_
        refine cw_region ?_
        refine ol_val (v := .pointer (some ⟨G1, 1, none⟩)) (by exact xr_fieldAddr (p := 0) (q := 1) rfl fl55_1 e2) rfl rfl rfl ?_
        refine ol_val (v := .int .u64 a0.Lasts) (by exact xr_load1 (v := .int .u64 a0.Lasts) rfl ag22 rfl (b2.seg 1 rfl rfl)) rfl rfl rfl ?_
        refine ol_val (v := .int .u64 a0.Lasts) (by exact xr_assign rfl rfl) rfl rfl rfl ?_
        refine ol_nil ?_
        refine cw_ret ?_
        repeat (first | with_reducible refine thn_r ?_ | with_reducible refine blk_r ?_)
        obtain rfl := Option.some.inj h
        refine fin_ret1 Try.results42 rfl ?_
        exact ⟨_, rfl, rfl, fB⟩
end Go.Proofs.Ytklhbaghbmndeaa

/- The open words of a device, one behind the other. -/
set_option linter.unusedVariables false
set_option linter.unusedSimpArgs false
namespace Go.Proofs.Ytklhbaghbmndeaa.Pure
open Go Go.Xw
theorem fates_len (d : Dev) : ∀ j, j ≤ d.cells.length → (fatesU d j).length = opens d.cells j
  | 0, _ => by simp [fatesU, opens]
  | j + 1, h => by
    have hj : j < d.cells.length := by omega
    rw [fatesU_succ, opens_succ hj, List.length_append, fates_len d j (by omega), ix_nat hj]
    split <;> rfl
theorem opens_le (cs : List Cell) (j : Nat) : opens cs j ≤ j := by
  unfold opens
  exact Nat.le_trans (List.length_filter_le _ _) (by rw [List.length_take]; omega)
theorem opens_mono {cs : List Cell} {p : Nat} : ∀ {q : Nat}, p ≤ q → q ≤ cs.length → opens cs p ≤ opens cs q
  | 0, h, _ => by
    have : p = 0 := by omega
    rw [this]
    exact Nat.le_refl _
  | q + 1, h, hq => by
    by_cases e : p = q + 1
    · rw [e]
      exact Nat.le_refl _
    · have := opens_mono (cs := cs) (p := p) (q := q) (by omega) (by omega)
      rw [opens_succ (by omega)]
      omega
theorem opens_lt {cs : List Cell} {p q : Nat} (h : p < q) (hq : q ≤ cs.length) (ho : openC (ix cs (p : Int)) = true) : opens cs p < opens cs q := by
  have h1 := opens_mono (cs := cs) (p := p + 1) (q := q) (by omega) hq
  rw [opens_succ (show p < cs.length by omega), ← ix_nat (l := cs) (show p < cs.length by omega), ho, if_pos rfl] at h1
  omega
theorem opens_inj {cs : List Cell} {p q : Nat} (hp : p < cs.length) (hq : q < cs.length) (op : openC (ix cs (p : Int)) = true) (oq : openC (ix cs (q : Int)) = true) (e : opens cs p = opens cs q) : p = q := by
  rcases Nat.lt_trichotomy p q with h | h | h
  · have := opens_lt h (by omega) op
    omega
  · exact h
  · have := opens_lt h (by omega) oq
    omega
/-- The i-th fate is that of the i-th open word. -/
theorem fates_at (d : Dev) : ∀ j, j ≤ d.cells.length → ∀ i, i < (fatesU d j).length → ∃ p : Nat, p < j ∧ openC (ix d.cells (p : Int)) = true ∧ opens d.cells p = i ∧ ix (fatesU d j) (i : Int) = fateD d p
  | 0, _, i, h => by simp [fatesU] at h
  | j + 1, hj, i, h => by
    have hjl : j < d.cells.length := by omega
    have hl := fates_len d j (by omega)
    have e := fatesU_succ d j
    by_cases hi : i < (fatesU d j).length
    · obtain ⟨p, h1, h2, h3, h4⟩ := fates_at d j (by omega) i hi
      refine ⟨p, by omega, h2, h3, ?_⟩
      rw [← h4, ix_nat h, ix_nat hi]
      simp only [e]
      rw [List.getElem_append_left hi]
    · cases ho : openC (ix d.cells (j : Int))
      · rw [e, ho] at h
        simp at h
        omega
      · have h' := h
        rw [e, ho, if_pos rfl, List.length_append] at h'
        simp only [List.length_cons, List.length_nil] at h'
        have hi2 : i = (fatesU d j).length := by omega
        refine ⟨j, by omega, ho, by omega, ?_⟩
        rw [ix_nat h]
        simp only [e, ho, if_true]
        rw [List.getElem_append_right (by omega)]
        simp [hi2]
theorem value_eq {fu : Nat} {f : S_api_Fate} {n : Int} (hn : I64 n) : rickyardref05_Value.f fu f n = some (if n % 3 = 2 then f.Stored else if n % 3 = 1 ∧ f.Flushed = true then f.Sent else f.Lasts) := by
  unfold rickyardref05_Value.f
  rw [rest_eq hn (by decide)]
  simp only [Option.bind_some]
  by_cases h2 : n % 3 = 2
  · rw [decide_eq_true h2, if_pos rfl, if_pos h2]
  · rw [decide_eq_false h2, if_neg (by decide), if_neg h2]
    by_cases h1 : n % 3 = 1
    · rw [decide_eq_true h1]
      cases f.Flushed <;> simp [h1]
    · rw [decide_eq_false h1]
      simp [h1]
theorem value_fate {fu : Nat} {d : Dev} {p : Nat} {n : Int} (hn : I64 n) : rickyardref05_Value.f fu (fateD d p) n = some (fateC (ix d.cells (p : Int)) n) := value_eq hn
theorem octs_set (ws : List Int) {p : Nat} {v : Int} (h : p < ws.length) : splL (octs ws) (8 * p) (lay v.toNat 8) = octs (ws.set p v) := by
  unfold splL
  rw [lay_len, octs_take, show 8 * p + 8 = 8 * (p + 1) from by omega, octs_drop, List.set_eq_take_append_cons_drop, if_pos h, octs_append]
  simp [octs]
theorem octs_at (ws : List Int) {p : Nat} (h : p < ws.length) : cut (octs ws) ((8 * p : Nat) : Int) ((8 * p + 8 : Nat) : Int) = lay (ix ws (p : Int)).toNat 8 := by
  rw [show 8 * p + 8 = 8 * (p + 1) from by omega, octs_cut, ← octs_one]
  congr 1
  unfold cut
  rw [Int.toNat_natCast, Int.toNat_natCast, take_next h, List.drop_append_of_le_length (by rw [List.length_take]; omega), List.drop_of_length_le (by rw [List.length_take]; omega), ix_nat h]
  rfl
theorem number_lay {fu : Nat} {v : Int} (hv : U64 v) (hf : 8 < fu) : rickyardref01_Number.f fu (List.map toB (lay v.toNat 8)) = some v := by
  have hlt : v.toNat < 256 ^ 8 := by
    have : (256 : Nat) ^ 8 = 18446744073709551616 := by decide
    unfold U64 at hv
    omega
  rw [rnumber_eq (lay_bytes _ _) (by rw [lay_len]; exact Nat.le_refl _) (by rw [lay_len]; exact hf), num_lay, Nat.mod_eq_of_lt hlt]
  unfold U64 at hv
  congr 1
  omega
theorem crash_get {d : Dev} {l : List Int} {p : Nat} (hp : p < d.cells.length) : ix (crashD d l).cells (p : Int) = crashC (ix d.cells (p : Int)) (l.getD (opens d.cells p) 0) := ix_mapIdx (g := fun i c => crashC c (l.getD (opens d.cells i) 0)) hp
theorem crash_lasts {d : Dev} {l : List Int} {p : Nat} (hp : p < d.cells.length) : ix (lastsD (crashD d l)) (p : Int) = if openC (ix d.cells (p : Int)) = true then fateC (ix d.cells (p : Int)) (l.getD (opens d.cells p) 0) else ix (lastsD d) (p : Int) := by
  have hc : p < (crashD d l).cells.length := by simpa [crashD, crashL] using hp
  have e1 : ix (lastsD (crashD d l)) (p : Int) = (ix (crashD d l).cells (p : Int)).lasts := by
    unfold lastsD
    rw [ix_nat (by simpa using hc), ix_nat hc, List.getElem_map]
  have e2 : ix (lastsD d) (p : Int) = (ix d.cells (p : Int)).lasts := by
    unfold lastsD
    rw [ix_nat (by simpa using hp), ix_nat hp, List.getElem_map]
  rw [e1, e2, crash_get hp]
  unfold crashC
  split <;> rfl
theorem getD_I64 {l : List Int} (h : ∀ x ∈ l, I64 x) (i : Nat) : I64 (l.getD i 0) := by
  by_cases hi : i < l.length
  · rw [getD_of _ _ _ hi]
    exact h _ (List.getElem_mem hi)
  · rw [List.getD_eq_getElem?_getD, List.getElem?_eq_none (by omega)]
    unfold I64
    simp
/-- Behind a crash no word is open. -/
theorem crash_shut {d : Dev} {l : List Int} {p : Nat} (hp : p < d.cells.length) : openC (ix (crashD d l).cells (p : Int)) = false ∧ (ix (crashD d l).cells (p : Int)).stored = (ix (crashD d l).cells (p : Int)).lasts := by
  rw [crash_get hp]
  unfold crashC
  cases ho : openC (ix d.cells (p : Int))
  · rw [if_neg (by decide)]
    have : (ix d.cells (p : Int)).flushed = false := by
      unfold openC at ho
      cases hf : (ix d.cells (p : Int)).flushed
      · rfl
      · rw [hf] at ho
        cases ho
    refine ⟨?_, rfl⟩
    unfold openC
    simp [this]
  · rw [if_pos rfl]
    refine ⟨?_, rfl⟩
    unfold openC
    simp
theorem fates_none {d : Dev} (h : ∀ p : Nat, p < d.cells.length → openC (ix d.cells (p : Int)) = false) : fatesD d = [] := by
  have : ∀ j, j ≤ d.cells.length → fatesU d j = [] := by
    intro j
    induction j with
    | zero => intro _; simp [fatesU]
    | succ j ih =>
      intro hj
      rw [fatesU_succ, ih (by omega), h j (by omega)]
      rfl
  exact this _ (Nat.le_refl _)
theorem crash_crash {d : Dev} {l m : List Int} : crashD (crashD d l) m = crashD d l := by
  have : (crashD (crashD d l) m).cells = (crashD d l).cells := by
    apply List.ext_getElem (by simp [crashD, crashL])
    intro p h1 h2
    have hp : p < d.cells.length := by simpa [crashD, crashL] using h2
    have h3 := crash_shut (l := l) hp
    have e : ∀ z : Dev, (hz : p < z.cells.length) → z.cells[p] = ix z.cells (p : Int) := fun z hz => (ix_nat hz).symm
    rw [e _ h1, e _ h2, crash_get h2]
    unfold crashC
    rw [h3.1, if_neg (by decide)]
    generalize ix (crashD d l).cells (p : Int) = c at *
    obtain ⟨x, y, z, f⟩ := c
    have : y = x := h3.2
    subst this
    rfl
  show (⟨(crashD (crashD d l) m).cells, ⟨[], 0⟩, false, false, 0, d.steps⟩ : S_pmem_Device) = _
  rw [this]
  rfl
theorem crash_view {d : Dev} {l : List Int} : storedD (crashD d l) = lastsD (crashD d l) := by
  unfold storedD lastsD
  apply List.ext_getElem (by simp)
  intro p h1 h2
  have hp : p < d.cells.length := by simpa [crashD, crashL] using h1
  have hp2 : p < (crashD d l).cells.length := by simpa using h1
  rw [List.getElem_map, List.getElem_map, ← ix_nat hp2]
  exact (crash_shut hp).2
end Go.Proofs.Ytklhbaghbmndeaa.Pure

/- The pure statement of PmemFrom. -/
set_option linter.unusedVariables false
set_option linter.unusedSimpArgs false
namespace Go.Proofs.Ytklhbaghbmndeaa.Pure
open Go Go.Xw
theorem PmemFrom : ∀ (a0 : List Int), ((∀ x ∈ a0, (Lit.int .u8 x).wf = true) ∧ List.length a0 ≤ maxLen) → ∃ fu, rickyardlaw05_PmemFrom.f fu a0 = some true := by
  intro l hl
  refine ⟨FU, ?_⟩
  unfold rickyardlaw05_PmemFrom.f
  rw [awake05]
  simp only [Option.bind_some, Bool.not_true, Bool.false_eq_true, if_false]
  by_cases hL : (l.length : Int) > 3000
  · rw [decide_eq_true hL]
    rfl
  rw [decide_eq_false hL]
  have hb : Bytes l := fun x hx => wf8.1 (hl.1 x hx)
  have hf : pmem_From.f FU l = some (fromD l) := from_eq hb (by omega) (by show _ < 200000; omega)
  have hd := from_ok hb
  have e0 : Int.tdiv (l.length : Int) 64 = ((l.length / 64 : Nat) : Int) := by
    rw [Int.tdiv_eq_ediv_of_nonneg (by omega)]
    omega
  have e1 : IntKind.i64.wrap ((l.length / 64 : Nat) : Int) = ((l.length / 64 : Nat) : Int) := w64 (by omega) (by omega)
  have e2 : IntKind.i64.wrap (64 * ((l.length / 64 : Nat) : Int)) = ((64 * (l.length / 64) : Nat) : Int) := by rw [w64 (by omega) (by omega)]; omega
  have hn : 8 * (l.length / 64) ≤ 400 := by omega
  have i0 : pmem_Device_Lines.f FU (fromD l) = some ((l.length / 64 : Nat) : Int) := by
    rw [lines_eq (by rw [hd.len]; omega), hd.len]
    congr 2
    omega
  have i1 : pmem_Device_Fates.f FU (fromD l) = some [] := by
    have : pmem_Device_Fates.f FU (fromD l) = some (fatesD (fromD l)) := fates_eq hd (by omega) (by show _ < 200000; omega)
    rw [this, fates_none fun p hp => by rw [ix_nat hp]; exact from_shut _ (List.getElem_mem _)]
  have e3 : octs (wordsU l (8 * (l.length / 64))) = l.take (64 * (l.length / 64)) := by
    rw [octs_words hb _ (by omega)]
    congr 1
    omega
  have i2 : pmem_Device_Image.f FU (fromD l) = some (l.take (64 * (l.length / 64))) := by
    have : pmem_Device_Image.f FU (fromD l) = some (octs (lastsD (fromD l))) := image_eq hd (by omega) (by show _ < 200000; omega)
    rw [this, from_lasts, e3]
  have i3 : pmem_Device_View.f FU (fromD l) = some (l.take (64 * (l.length / 64))) := by
    have : pmem_Device_View.f FU (fromD l) = some (octs (storedD (fromD l))) := view_eq hd (by omega) (by show _ < 200000; omega)
    rw [this, from_stored, e3]
  have e4 : cut l 0 ((64 * (l.length / 64) : Nat) : Int) = l.take (64 * (l.length / 64)) := by
    unfold cut
    rw [Int.toNat_natCast]
    rfl
  have g1 : 0 ≤ ((64 * (l.length / 64) : Nat) : Int) ∧ ((64 * (l.length / 64) : Nat) : Int) ≤ (l.length : Int) := by omega
  rw [hf]
  simp only [Option.bind_some, Bool.false_eq_true, if_false, e0, e1, e2, e4]
  rw [i0, up_eq, steps_eq, i1, i2, i3]
  simp only [Option.bind_some, decide_true, if_true, if_pos g1]
  rfl
end Go.Proofs.Ytklhbaghbmndeaa.Pure

/- The law PmemFrom holds for every input: the row, out of the walk of the law's function and of its pure statement. Written by rows.py. -/
namespace Go.Proofs.Ytklhbaghbmndeaa.pmemFrom
open Go.ChangeShapes Go.WideShapes Go.ChangeAt Go.RowKit
open Go.ChangeMaps (open_string shut_string)
open Go Go.Xw
set_option linter.unusedVariables false
theorem own : ownKnob Try.prog.godebug = none := Facts.own
theorem laidOut : laidOutB Try.prog = true := Facts.laid
theorem closed : joinedFacts Try.pinned.checked.prog 8 Try.f8 Rows.pmemFromSpec Rows.pmemFromRow = true := by
  unfold joinedFacts
  rw [Facts.enter, Facts.lifts, Facts.make, Facts.laid, Facts.rowed, Facts.plain, Facts.heard]
  kernel_rfl
theorem enc_seg {α : Type} (K : Kd α) (a : α) : K.enc a = cellsOf [Kd.seg K a] := by simp [cellsOf, Kd.seg]
def start : Input := ⟨#[], #[.slice none 0 0], []⟩
set_option maxRecDepth 100000 in
set_option maxHeartbeats 1000000 in
theorem lifted (os : Os) (started : os.Started) (H : Type) (enc : TypeId × Value → H) :
    ReturnsInHanded {} Try.checked os 8 .any (Rows.pmemFromSpec.pre6 enc Try.prog Try.f8 Rows.pmemFromRow.domain false) (Rows.pmemFromSpec.post enc Try.prog Try.f8 false true false false) := by
  refine returnsInHanded_of_change_sized (C := Try.checked) own started (by kernel_rfl) Try.func8
    (ChangeSpec.witness6 (enc := enc) (C := Try.checked) false start 8 (by kernel_rfl) (by kernel_rfl) (by kernel_rfl) (by kernel_rfl)) ?_
  intro W base args ds gs before hval0 hW hcnd hsz0 _
  have hval : ∀ (j : Nat) t v, Try.f8.params[j]? = some t → args[j]? = some v → Value.okWide Try.prog W .any base t v := hval0
  have hW' := hW
  obtain ⟨p, q, hA0, hV, rfl, hfz, hnd⟩ := hW
  have hA : DataW.TrodAll enc Try.prog W 0 (fun _ => true) true Try.f8.params.toList args.toList ds p := hA0
  rw [Try.params8] at hA hval
  obtain ⟨v0, vs0, d0, ds0, p0, q0, hargs, rfl, rfl, h0, r0⟩ := trodAll_cons hA
  obtain ⟨rfl, rfl, rfl⟩ := trodAll_nil r0
  obtain rfl : args = #[v0] := by cases args; simp_all
  obtain ⟨rfl, rfl⟩ := trodVars_none hV
  have k0 := h0
  have lt0 : ∀ x ∈ p0, x.block < W.heap.size := by obtain ⟨m, hm⟩ := k0; exact DataW.trod_lt m _ _ _ hm
  obtain ⟨fu0, hf0⟩ := h0
  obtain ⟨aa0, len0, cap0, rfl⟩ := okWide_slice Try.underlying43 (hval 0 43 v0 rfl rfl)
  obtain ⟨a0, V0_0, e0, R0_0, o0, l0, _⟩ := (opn_slice (K := (kI .u8)) Try.underlying43 (by kernel_rfl) (by decide) (opn_int Try.underlying5)) enc _ _ _ _ _ _ hf0
  obtain rfl : Value.slice aa0 len0 cap0 = V0_0 := by simpa [Value.cells] using e0
  obtain ⟨fu, hfu⟩ := Pure.PmemFrom a0 ⟨o0, l0⟩
  refine Calls.mono (rickyardlaw05_PmemFrom.ok fu W a0 _ R0_0 true hfu) fun e W' hr => ?_
  obtain ⟨v, rfl, rfl, gr⟩ := hr
  have bel := Fr.below gr
  exact ⟨_, rfl, _, _, _, [], _, [], hW', trodAll_mk1 (shut_bool Try.underlying4 _), (trodAll_cons_mk (Below.trod laidOut (by kernel_rfl) (of_decide_eq_true (by kernel_rfl)) k0 bel lt0) trodAll_mk0), rfl, bel.frame _, fun h => by cases h⟩
theorem over : Rows.pmemFromRow.holds Try.pinned (OpenSpec.ofChange Rows.pmemFromSpec) :=
  OpenClaim.holds_of_wide 8 Try.f8 rfl rfl rfl rfl rfl rfl rfl ⟨rfl, rfl, rfl, rfl, rfl⟩ rfl rfl rfl rfl rfl (by kernel_rfl) Try.func8 closed
    (of_decide_eq_true (by kernel_rfl)) (by unfold Func.isWrapper; first | (rw [if_pos (by decide +kernel)]; kernel_rfl) | (rw [if_neg (by decide +kernel)]; exact ⟨rfl, rfl⟩))
    (fun os started H enc _ => lifted os started H enc)
theorem proved : Rows.PmemFromSaid := over
end Go.Proofs.Ytklhbaghbmndeaa.pmemFrom
namespace Go.Proofs.Ytklhbaghbmndeaa
/-- The law holds. -/
theorem pmemFrom_holds : Rows.PmemFromSaid := pmemFrom.proved
#print axioms pmemFrom_holds
end Go.Proofs.Ytklhbaghbmndeaa
