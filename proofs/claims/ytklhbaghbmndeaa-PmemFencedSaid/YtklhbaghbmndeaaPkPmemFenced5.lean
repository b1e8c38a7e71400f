/- PmemFenced: texts merged, part 5 of 5. The last part proves that the law PmemFenced holds for every input. -/
import Derived.Test.YtklhbaghbmndeaaPkPmemFenced4
/- Numbers as octets, in plain words. -/
set_option linter.unusedVariables false
set_option linter.unusedSimpArgs false
namespace Go.Proofs.Ytklhbaghbmndeaa.Pure
open Go Go.Xw
def lay (v n : Nat) : List Int := (List.range n).map fun i => ((v / 256 ^ i % 256 : Nat) : Int)
theorem lay_len (v n : Nat) : (lay v n).length = n := by simp [lay]
theorem lay_succ (v n : Nat) : lay v (n + 1) = lay v n ++ [((v / 256 ^ n % 256 : Nat) : Int)] := by
  simp [lay, List.range_succ]
theorem lay_bytes (v n : Nat) : Bytes (lay v n) := by
  intro x hx
  simp only [lay, List.mem_map] at hx
  obtain ⟨i, _, rfl⟩ := hx
  omega
theorem wu8_mod {n : Nat} : IntKind.u8.wrap (n : Int) = ((n % 256 : Nat) : Int) := by
  unfold IntKind.wrap
  simp only [IntKind.signed, IntKind.bits]
  simp
theorem shr64 (n : Nat) : shR .u64 (n : Int) 8 = ((n / 256 : Nat) : Int) := by
  unfold shR
  show Int.fdiv (n : Int) (2 ^ min ((8 : Int).toNat) 64) = _
  rw [show (2 : Int) ^ min ((8 : Int).toNat) 64 = 256 from by decide, Int.fdiv_eq_ediv_of_nonneg _ (by decide)]
  omega
theorem wn64 (q : Nat) (h : q < 18446744073709551616) : IntKind.u64.wrap (q : Int) = (q : Int) := wu64 (by omega) (by omega)
theorem tdn (q : Nat) : Int.tdiv (q : Int) 256 = ((q / 256 : Nat) : Int) := by
  rw [Int.tdiv_eq_ediv_of_nonneg (by omega)]
  omega
theorem tmn (q : Nat) : Int.tmod (q : Int) 256 = ((q % 256 : Nat) : Int) := by
  rw [Int.tmod_eq_emod_of_nonneg (by omega)]
  omega
theorem wn8 (q : Nat) : IntKind.u8.wrap ((q % 256 : Nat) : Int) = ((q % 256 : Nat) : Int) := wu8 (by omega) (by omega)
theorem olay_eq {fu v n : Nat} (hn : n ≤ 8) (hf : n < fu) : octet_Lay.f fu (v : Int) (n : Int) = some (lay v n) := by
  unfold octet_Lay.f
  have h0 : ¬ ((n : Int) < 0) := by omega
  have h8 : ¬ ((n : Int) > 8) := by omega
  have hL : Int.toNat (n : Int) ≤ LIM := by
    have : (8 : Nat) ≤ LIM := by decide
    omega
  simp only [h0, h8, decide_false, Bool.false_eq_true, if_false]
  rw [if_pos ⟨by omega, hL⟩]
  have : loopM (octet_Lay.s0 fu (n : Int)) fu ((v : Int), 0, List.replicate (Int.toNat (n : Int)) (0 : Int)) = some (lay v n) := by
    refine loopM_run (S := fun j => (((v / 256 ^ j : Nat) : Int), (j : Int), lay v j ++ List.replicate (n - j) (0 : Int))) n (by simp [lay]) ?_ ?_ hf
    · intro j hj
      unfold octet_Lay.s0
      have w3 : IntKind.i64.wrap ((j : Int) + 1) = ((j + 1 : Nat) : Int) := by rw [w64 (by omega) (by omega)]; omega
      have e1 : (List.replicate (Int.toNat (n : Int)) (0 : Int)).length = n := by simp
      have e2 : (lay v j ++ List.replicate (n - j) (0 : Int)).length = n := by rw [List.length_append, lay_len, List.length_replicate]; omega
      have e3 : List.set (lay v j ++ List.replicate (n - j) (0 : Int)) (Int.toNat (j : Int)) (IntKind.u8.wrap ((v / 256 ^ j : Nat) : Int)) = lay v (j + 1) ++ List.replicate (n - (j + 1)) (0 : Int) := by
        rw [Int.toNat_natCast, List.set_append, if_neg (by rw [lay_len]; omega), lay_len, Nat.sub_self, wu8_mod, lay_succ, show n - j = n - (j + 1) + 1 from by omega, List.replicate_succ]
        simp
      have e4 : shR .u64 ((v / 256 ^ j : Nat) : Int) 8 = ((v / 256 ^ (j + 1) : Nat) : Int) := by
        rw [shr64, Nat.div_div_eq_div_mul, Nat.pow_succ]
      have h1 : (j : Int) < (n : Int) := by omega
      simp only [e1, e2, e3, e4, w3, h1, decide_true, if_true]
      rw [if_pos ⟨by omega, trivial⟩]
    · unfold octet_Lay.s0
      simp
  rw [this]
  rfl
theorem roctet_eq {fu v i : Nat} (hv : v < 18446744073709551616) (hi : i ≤ 1000) (hf : i < fu) : rickyardref01_Octet.f fu (v : Int) (i : Int) = some ((v / 256 ^ i % 256 : Nat) : Int) := by
  unfold rickyardref01_Octet.f
  have : loopM (rickyardref01_Octet.s0 fu (i : Int)) fu ((v : Int), 0) = some ((v / 256 ^ i : Nat) : Int) := by
    refine loopM_run (S := fun j => (((v / 256 ^ j : Nat) : Int), (j : Int))) i (by simp) ?_ ?_ hf
    · intro j hj
      unfold rickyardref01_Octet.s0
      have w3 : IntKind.i64.wrap ((j : Int) + 1) = ((j + 1 : Nat) : Int) := by rw [w64 (by omega) (by omega)]; omega
      have h1 : (j : Int) < (i : Int) := by omega
      have hle : v / 256 ^ j ≤ v := Nat.div_le_self _ _
      have e1 : Int.tdiv ((v / 256 ^ j : Nat) : Int) 256 = ((v / 256 ^ (j + 1) : Nat) : Int) := by
        rw [tdn, Nat.pow_succ, ← Nat.div_div_eq_div_mul]
      have hle2 : v / 256 ^ (j + 1) ≤ v := Nat.div_le_self _ _
      have e2 : IntKind.u64.wrap ((v / 256 ^ (j + 1) : Nat) : Int) = ((v / 256 ^ (j + 1) : Nat) : Int) := wn64 _ (Nat.lt_of_le_of_lt hle2 hv)
      simp only [h1, decide_true, if_true, e1, e2, w3]
    · unfold rickyardref01_Octet.s0
      simp
  rw [this]
  simp only [Option.bind_some, tmn, wn8]
theorem rlay_eq {fu v n : Nat} (hv : v < 18446744073709551616) (hn : n ≤ 8) (hf : n < fu) : rickyardref01_Lay.f fu (v : Int) (n : Int) = some ((lay v n).map toB) := by
  unfold rickyardref01_Lay.f
  have : loopM (rickyardref01_Lay.s0 fu (v : Int) (n : Int)) fu ([], 0) = some ((lay v n).map toB) := by
    refine loopM_run (S := fun j => ((lay v j).map toB, (j : Int))) n (by simp [lay]) ?_ ?_ hf
    · intro j hj
      unfold rickyardref01_Lay.s0
      have w3 : IntKind.i64.wrap ((j : Int) + 1) = ((j + 1 : Nat) : Int) := by rw [w64 (by omega) (by omega)]; omega
      have h1 : (j : Int) < (n : Int) := by omega
      have hlim : ((lay v j).map toB).length + ([((v / 256 ^ j % 256 : Nat) : Int)].map toB).length ≤ LIM := by
        have : (9 : Nat) ≤ LIM := by decide
        simp only [List.length_map, lay_len, List.length_cons, List.length_nil]
        omega
      simp only [h1, decide_true, if_true, roctet_eq (fu := fu) hv (by omega : j ≤ 1000) (by omega), Option.bind_some, w3]
      rw [if_pos hlim, lay_succ, List.map_append]
    · unfold rickyardref01_Lay.s0
      simp
  rw [this]
  rfl
def num : List Int → Nat
  | [] => 0
  | c :: l => c.toNat + 256 * num l
theorem num_append : ∀ (a b : List Int), num (a ++ b) = num a + 256 ^ a.length * num b
  | [], b => by simp [num]
  | c :: a, b => by
    simp only [List.cons_append, num, num_append a b, List.length_cons, Nat.pow_succ]
    rw [Nat.mul_add, Nat.add_assoc, ← Nat.mul_assoc, Nat.mul_comm 256 (256 ^ a.length)]
theorem num_lt : ∀ {l : List Int}, Bytes l → num l < 256 ^ l.length
  | [], _ => by simp [num]
  | c :: l, h => by
    have h1 := h c (by simp)
    have h2 := num_lt (l := l) fun x hx => h x (by simp [hx])
    simp only [num, List.length_cons, Nat.pow_succ]
    omega
theorem lay_num : ∀ {l : List Int}, Bytes l → lay (num l) l.length = l
  | [], _ => rfl
  | c :: l, h => by
    have h1 := h c (by simp)
    have h2 := lay_num (l := l) fun x hx => h x (by simp [hx])
    have e : lay (num (c :: l)) (l.length + 1) = c :: lay (num l) l.length := by
      unfold lay
      rw [List.range_succ_eq_map, List.map_cons, List.map_map]
      congr 1
      · simp only [num, Nat.pow_zero, Nat.div_one]
        omega
      · apply List.map_congr_left
        intro i hi
        simp only [Function.comp, num, Nat.succ_eq_add_one, Nat.pow_succ]
        rw [Nat.mul_comm (256 ^ i) 256, ← Nat.div_div_eq_div_mul, show (c.toNat + 256 * num l) / 256 = num l from by omega]
    rw [List.length_cons, e, h2]
theorem num_lay (v : Nat) : ∀ n, num (lay v n) = v % 256 ^ n
  | 0 => by simp [lay, num, Nat.mod_one]
  | n + 1 => by
    rw [lay_succ, num_append, num_lay v n, lay_len]
    simp only [num]
    rw [Int.toNat_natCast, Nat.mul_zero, Nat.add_zero, Nat.pow_succ, Nat.mod_mul]
theorem or_add (a c j : Nat) (ha : a < 256 ^ j) : a ||| c * 256 ^ j = a + 256 ^ j * c := by
  have e : 256 ^ j = 2 ^ (8 * j) := by rw [Nat.pow_mul]
  rw [e] at ha ⊢
  rw [Nat.mul_comm c, Nat.or_comm, ← Nat.two_pow_add_eq_or_of_lt ha, Nat.add_comm]
theorem read_eq {fu : Nat} {l : List Int} (hb : Bytes l) (hl : l.length ≤ 8) (hf : l.length < fu) : octet_Read.f fu l = some ((num l : Nat) : Int) := by
  unfold octet_Read.f
  have hm : mnI (l.length : Int) 8 = (l.length : Int) := by
    unfold mnI
    split <;> omega
  have hc : cut l 0 (l.length : Int) = l := by
    unfold cut
    simp
  rw [hm, if_pos ⟨by omega, Int.le_refl _⟩]
  have : loopM (octet_Read.s0 fu l) fu (0, 0) = some ((num l : Nat) : Int) := by
    refine loopM_run (S := fun j => (((num (l.take j) : Nat) : Int), (j : Int))) l.length (by simp [num]) ?_ ?_ hf
    · intro j hj
      unfold octet_Read.s0
      rw [hm, hc]
      have h1 : (j : Int) < (l.length : Int) := by omega
      have w3 : IntKind.i64.wrap ((j : Int) + 1) = ((j + 1 : Nat) : Int) := by rw [w64 (by omega) (by omega)]; omega
      have w4 : IntKind.i64.wrap (8 * (j : Int)) = ((8 * j : Nat) : Int) := by rw [w64 (by omega) (by omega)]; omega
      have hcb := hb _ (List.getElem_mem hj)
      obtain ⟨c, hc'⟩ : ∃ c : Nat, l[j] = (c : Int) := ⟨l[j].toNat, by omega⟩
      have hlt : num (l.take j) < 256 ^ j := by
        have := num_lt (l := l.take j) fun x hx => hb x (List.mem_of_mem_take hx)
        rwa [List.length_take, Nat.min_eq_left (by omega)] at this
      have e256 : (256 : Nat) ^ j * 256 ≤ 256 ^ 8 := by
        rw [← Nat.pow_succ]
        exact Nat.pow_le_pow_right (by decide) (by omega)
      have e8 : (256 : Nat) ^ 8 = 18446744073709551616 := by decide
      have hcj : c * 256 ^ j < 18446744073709551616 := by
        have : c * 256 ^ j ≤ 255 * 256 ^ j := Nat.mul_le_mul_right _ (by omega)
        have : 0 < 256 ^ j := Nat.pow_pos (by decide)
        omega
      have e1 : shL .u64 (IntKind.u64.wrap (ix l (j : Int))) ((8 * j : Nat) : Int) = ((c * 256 ^ j : Nat) : Int) := by
        rw [ix_nat hj, hc', wu64 (by omega) (by omega)]
        unfold shL
        rw [Int.toNat_natCast, Nat.min_eq_left (by show 8 * j ≤ 64; omega)]
        have : (c : Int) * 2 ^ (8 * j) = ((c * 256 ^ j : Nat) : Int) := by
          have h256 : ((256 ^ j : Nat) : Int) = 2 ^ (8 * j) := by
            rw [Int.natCast_pow, Int.pow_mul]
            exact congrArg (fun z : Int => z ^ j) (by decide : ((256 : Nat) : Int) = 2 ^ 8)
          rw [Int.natCast_mul, h256]
        rw [this, wu64 (by omega) (by omega)]
      have e2 : bOr .u64 ((num (l.take j) : Nat) : Int) ((c * 256 ^ j : Nat) : Int) = ((num (l.take (j + 1)) : Nat) : Int) := by
        unfold bOr
        show IntKind.u64.wrap (((BitVec.ofInt 64 ((num (l.take j) : Nat) : Int) ||| BitVec.ofInt 64 ((c * 256 ^ j : Nat) : Int)).toNat : Nat) : Int) = _
        rw [BitVec.ofInt_natCast, BitVec.ofInt_natCast, BitVec.toNat_or, BitVec.toNat_ofNat, BitVec.toNat_ofNat, Nat.mod_eq_of_lt (by omega), Nat.mod_eq_of_lt (by omega), or_add _ _ _ hlt, take_next hj, num_append]
        have hs : num (l.take j) + 256 ^ j * c < 18446744073709551616 := by
          rw [Nat.mul_comm]
          have : c * 256 ^ j ≤ 255 * 256 ^ j := Nat.mul_le_mul_right _ (by omega)
          omega
        rw [wu64 (by omega) (by omega)]
        simp only [num, hc', Int.toNat_natCast, List.length_take, Nat.min_eq_left (by omega : j ≤ l.length), Nat.mul_zero, Nat.add_zero]
      simp only [h1, decide_true, if_true, w4, e1, e2, w3]
      rw [if_pos ⟨by omega, trivial⟩, if_pos (by omega)]
    · unfold octet_Read.s0
      rw [hm, hc]
      simp
  rw [this]
  rfl
end Go.Proofs.Ytklhbaghbmndeaa.Pure

/- A device, in plain words: what each step leaves. -/
set_option linter.unusedVariables false
set_option linter.unusedSimpArgs false
namespace Go.Proofs.Ytklhbaghbmndeaa.Pure
open Go Go.Xw
abbrev Cell := S_pmem_cell
abbrev Dev := S_pmem_Device
def keepC (c : Cell) (w : Int) : Cell := ⟨w, c.stored, 0, false⟩
def openC (c : Cell) : Bool := c.flushed || !decide (c.stored = c.lasts)
def evict (p : Int) (cs : List Cell) : List Cell := cs.mapIdx fun i c => if 0 ≤ p ∧ (i : Int) = p % (cs.length : Int) then keepC c c.stored else c
def pick (p : S_pmem_plan) : Int := if p.list.length = 0 then -1 else ix p.list p.at_
def nextP (p : S_pmem_plan) : S_pmem_plan := if p.list.length = 0 then p else ⟨p.list, (p.at_ + 1) % (p.list.length : Int)⟩
def tick (d : Dev) : Dev := ⟨evict (pick d.plan) d.cells, nextP d.plan, if d.armed then decide (d.left - 1 = 0) else d.off, d.armed, if d.armed then d.left - 1 else d.left, d.steps + 1⟩
def mayI (off : Bool) (k n : Int) : Int := if off = true then 3 else if k < 0 ∨ k ≥ n then 2 else 0
def putC (k w : Int) (cs : List Cell) : List Cell := cs.mapIdx fun i c => if (i : Int) = k then ⟨c.lasts, w, c.sent, c.flushed⟩ else c
def sendC (c : Cell) : Cell := ⟨c.lasts, c.stored, c.stored, true⟩
def sendL (k : Int) (cs : List Cell) : List Cell := cs.mapIdx fun i c => if 8 * k ≤ (i : Int) ∧ (i : Int) < 8 * k + 8 then sendC c else c
def fenceC (c : Cell) : Cell := if c.flushed = true then keepC c c.sent else c
def withC (d : Dev) (cs : List Cell) : Dev := ⟨cs, d.plan, d.off, d.armed, d.left, d.steps⟩
def storeD (d : Dev) (k w : Int) : Int × Dev := if mayI d.off k (d.cells.length : Int) = 0 then (0, tick (withC d (putC k w d.cells))) else (mayI d.off k (d.cells.length : Int), d)
def loadD (d : Dev) (k : Int) : Int × Int := if mayI d.off k (d.cells.length : Int) = 0 then ((ix d.cells k).stored, 0) else (0, mayI d.off k (d.cells.length : Int))
def flushD (d : Dev) (k : Int) : Int × Dev := if mayI d.off k ((d.cells.length / 8 : Nat) : Int) = 0 then (0, tick (withC d (sendL k d.cells))) else (mayI d.off k ((d.cells.length / 8 : Nat) : Int), d)
def fenceD (d : Dev) : Int × Dev := if d.off = true then (3, d) else (0, tick (withC d (d.cells.map fenceC)))
def armD (d : Dev) (n : Int) : Dev := if d.off = true then d else ⟨d.cells, d.plan, decide (n = 0), decide (n ≥ 0), n, d.steps⟩
def planD (d : Dev) (l : List Int) : Dev := ⟨d.cells, ⟨l, 0⟩, d.off, d.armed, d.left, d.steps⟩
def fateC (c : Cell) (n : Int) : Int := if n % 3 = 2 then c.stored else if n % 3 = 1 ∧ c.flushed = true then c.sent else c.lasts
def opens (cs : List Cell) (i : Nat) : Nat := ((cs.take i).filter openC).length
def crashC (c : Cell) (n : Int) : Cell := if openC c = true then ⟨fateC c n, fateC c n, 0, false⟩ else ⟨c.lasts, c.lasts, c.sent, c.flushed⟩
def crashL (l : List Int) (cs : List Cell) : List Cell := cs.mapIdx fun i c => crashC c (l.getD (opens cs i) 0)
def crashD (d : Dev) (l : List Int) : Dev := ⟨crashL l d.cells, ⟨[], 0⟩, false, false, 0, d.steps⟩
def doD (d : Dev) (a : S_rickyardlaw05_Act) : (Int × Int) × Dev :=
  if a.Kind % 7 = 0 then ((0, (storeD d a.At a.W).1), (storeD d a.At a.W).2)
  else if a.Kind % 7 = 1 then (loadD d a.At, d)
  else if a.Kind % 7 = 2 then ((0, (flushD d a.At).1), (flushD d a.At).2)
  else if a.Kind % 7 = 3 then ((0, (fenceD d).1), (fenceD d).2)
  else if a.Kind % 7 = 4 then ((0, 0), armD d a.At)
  else if a.Kind % 7 = 5 then ((0, 0), planD d a.L)
  else ((0, 0), crashD d a.L)
def I64 (x : Int) : Prop := -9223372036854775808 ≤ x ∧ x ≤ 9223372036854775807
def U64 (x : Int) : Prop := 0 ≤ x ∧ x ≤ 18446744073709551615
def okC (c : Cell) : Prop := U64 c.lasts ∧ U64 c.stored ∧ U64 c.sent
/-- A device of `n` words that is as it should be, behind at most `B` steps. -/
structure DevOk (n : Nat) (B : Int) (d : Dev) : Prop where
  len : d.cells.length = n
  val : ∀ c ∈ d.cells, okC c
  at0 : d.plan.list.length ≠ 0 → 0 ≤ d.plan.at_ ∧ d.plan.at_ < (d.plan.list.length : Int)
  pl : d.plan.list.length ≤ 1000
  arm : d.armed = true → 0 ≤ d.left ∧ d.left ≤ 9223372036854775807 ∧ d.off = decide (d.left = 0)
  una : d.armed = false → d.off = false
  st : 0 ≤ d.steps ∧ d.steps ≤ B
theorem next_eq {fu : Nat} {p : S_pmem_plan} (h0 : p.list.length ≠ 0 → 0 ≤ p.at_ ∧ p.at_ < (p.list.length : Int)) (hl : p.list.length ≤ 1000) : pmem_plan_next__i0.f fu p = some (pick p, nextP p) := by
  unfold pmem_plan_next__i0.f pick nextP
  by_cases e : p.list.length = 0
  · have e' : (p.list.length : Int) = 0 := by omega
    rw [decide_eq_true e', if_pos rfl, if_pos e, if_pos e]
  · have e' : ¬ (p.list.length : Int) = 0 := by omega
    have h := h0 e
    rw [decide_eq_false e', if_neg (by decide), if_pos h, if_pos e', if_neg e, if_neg e, w64 (by omega) (by omega), Int.tmod_eq_emod_of_nonneg (by omega)]
theorem set_upd {cs : List Cell} {k : Nat} (g : Cell → Cell) (hk : k < cs.length) : cs.set k (g (ix cs (k : Int))) = cs.mapIdx fun i c => if i = k then g c else c := by
  rw [ix_nat hk]
  apply List.ext_getElem (by simp)
  intro i h1 h2
  rw [List.getElem_set, List.getElem_mapIdx]
  by_cases e : k = i
  · subst e
    simp
  · rw [if_neg e, if_neg (fun q => e q.symm)]
theorem evict_no {p : Int} (cs : List Cell) (h : ¬ 0 ≤ p) : evict p cs = cs := by
  apply List.ext_getElem (by simp [evict])
  intro i h1 h2
  simp only [evict, List.getElem_mapIdx]
  rw [if_neg fun q => h q.1]
theorem evict_nil {p : Int} : evict p [] = [] := by simp [evict]
theorem dstep_eq {fu n : Nat} {B : Int} {d : Dev} (h : DevOk n B d) (hB : B < 9223372036854775807) (ho : d.off = false) : pmem_Device_step.f fu d = some (tick d) := by
  unfold pmem_Device_step.f
  rw [next_eq h.at0 h.pl]
  have hs := h.st
  have w1 : IntKind.i64.wrap (d.steps + 1) = d.steps + 1 := w64 (by omega) (by omega)
  have hc : ∀ q, q = pick d.plan → ((if (if (decide (q ≥ 0)) = true then (decide ((List.length d.cells : Int) > 0)) else false) = true then (if (List.length d.cells : Int) ≠ 0 then (if 0 ≤ (Int.tmod q (List.length d.cells : Int)) ∧ (Int.tmod q (List.length d.cells : Int)) < (List.length d.cells : Int) then ((pmem_cell_keep__i0.f fu (ix d.cells (Int.tmod q (List.length d.cells : Int))) ((ix d.cells (Int.tmod q (List.length d.cells : Int))).stored) : Option S_pmem_cell).bind fun t35 => some ((List.set d.cells (Int.toNat (Int.tmod q (List.length d.cells : Int))) t35))) else none) else none) else some (d.cells)) : Option (List S_pmem_cell)) = some (evict q d.cells) := by
    intro q _
    by_cases hq : q ≥ 0
    · rw [decide_eq_true hq]
      by_cases hl : (List.length d.cells : Int) > 0
      · rw [decide_eq_true hl, Int.tmod_eq_emod_of_nonneg hq]
        have hm0 := Int.emod_nonneg q (show (List.length d.cells : Int) ≠ 0 by omega)
        have hm1 := Int.emod_lt_of_pos q hl
        have e1 : (List.length d.cells : Int) ≠ 0 := by omega
        simp only [if_true, e1, ne_eq, not_false_eq_true, hm0, hm1, and_self, pmem_cell_keep__i0.f, Option.bind_some]
        obtain ⟨k, hk⟩ : ∃ k : Nat, q % (List.length d.cells : Int) = (k : Int) := ⟨(q % (List.length d.cells : Int)).toNat, by omega⟩
        have hkl : k < d.cells.length := by omega
        rw [hk, Int.toNat_natCast]
        refine congrArg some ((set_upd (fun c => keepC c c.stored) hkl).trans ?_)
        apply List.ext_getElem (by simp [evict])
        intro i h1 h2
        simp only [evict, List.getElem_mapIdx, hk]
        by_cases e : i = k
        · rw [if_pos e, if_pos ⟨hq, by omega⟩]
        · rw [if_neg e, if_neg fun z => e (by omega)]
      · have : d.cells = [] := List.length_eq_zero_iff.1 (by omega)
        rw [this]
        simp [evict]
    · rw [evict_no _ hq, decide_eq_false hq]
      simp
  have hd : ∀ (r : List Cell), ((((if d.armed = true then some ((decide ((IntKind.i64.wrap (d.left - 1)) = 0)), (IntKind.i64.wrap (d.left - 1))) else some (d.off, d.left)) : Option (Bool × Int)).bind fun x45 => some ((⟨r, (⟨d.plan.list, (nextP d.plan).at_⟩ : S_pmem_plan), x45.1, d.armed, x45.2, (IntKind.i64.wrap (d.steps + 1))⟩ : S_pmem_Device))) : Option Dev) = some ⟨r, nextP d.plan, if d.armed then decide (d.left - 1 = 0) else d.off, d.armed, if d.armed then d.left - 1 else d.left, d.steps + 1⟩ := by
    intro r
    have hp : (⟨d.plan.list, (nextP d.plan).at_⟩ : S_pmem_plan) = nextP d.plan := by
      unfold nextP
      split <;> rfl
    rw [w1, hp]
    cases ha : d.armed
    · simp
    · have := h.arm ha
      rw [ho] at this
      have : d.left ≠ 0 := by
        intro e
        rw [e] at this
        exact absurd this.2.2 (by decide)
      rw [w64 (by omega) (by omega)]
      simp
  simp only [Option.bind_some]
  rw [hc _ rfl]
  exact hd _
theorem evict_len (p : Int) (cs : List Cell) : (evict p cs).length = cs.length := by simp [evict]
theorem keep_ok {c : Cell} {w : Int} (h : okC c) (hw : U64 w) : okC (keepC c w) := ⟨hw, h.2.1, by unfold U64; simp [keepC]⟩
theorem mapIdx_ok {cs : List Cell} {g : Nat → Cell → Cell} (h : ∀ c ∈ cs, okC c) (hg : ∀ i c, okC c → okC (g i c)) : ∀ c ∈ cs.mapIdx g, okC c := by
  intro c hc
  obtain ⟨i, hi, rfl⟩ := List.getElem_of_mem hc
  rw [List.getElem_mapIdx]
  exact hg _ _ (h _ (List.getElem_mem _))
theorem evict_ok {p : Int} {cs : List Cell} (h : ∀ c ∈ cs, okC c) : ∀ c ∈ evict p cs, okC c := by
  refine mapIdx_ok h fun i c hc => ?_
  split
  · exact keep_ok hc hc.2.1
  · exact hc
theorem tick_ok {n : Nat} {B : Int} {d : Dev} (h : DevOk n B d) (ho : d.off = false) : DevOk n (B + 1) (tick d) := by
  refine ⟨?_, ?_, ?_, ?_, ?_, ?_, ?_⟩
  · exact (evict_len _ _).trans h.len
  · exact evict_ok h.val
  · intro e
    by_cases z : d.plan.list.length = 0
    · exact absurd (by simp [tick, nextP, z]) e
    · have : (tick d).plan = ⟨d.plan.list, (d.plan.at_ + 1) % (d.plan.list.length : Int)⟩ := by simp [tick, nextP, z]
      rw [this]
      exact ⟨Int.emod_nonneg _ (by omega), Int.emod_lt_of_pos _ (by omega)⟩
  · by_cases z : d.plan.list.length = 0
    · simp [tick, nextP, z]
    · simp only [tick, nextP, z, if_false]
      exact h.pl
  · intro ha
    have ha' : d.armed = true := ha
    have := h.arm ha'
    have hl : d.left ≠ 0 := by
      intro e
      rw [e, ho] at this
      exact absurd this.2.2 (by decide)
    simp only [tick, ha', if_true]
    exact ⟨by omega, by omega, trivial⟩
  · intro ha
    have ha' : d.armed = false := ha
    simp only [tick, ha', Bool.false_eq_true, if_false]
    exact h.una ha'
  · have := h.st
    simp only [tick]
    omega
theorem DevOk.up {n : Nat} {B C : Int} {d : Dev} (h : DevOk n B d) (hc : B ≤ C) : DevOk n C d := ⟨h.len, h.val, h.at0, h.pl, h.arm, h.una, ⟨h.st.1, by have := h.st; omega⟩⟩
theorem with_ok {n : Nat} {B : Int} {d : Dev} (h : DevOk n B d) {cs : List Cell} (hl : cs.length = n) (hv : ∀ c ∈ cs, okC c) : DevOk n B (withC d cs) := ⟨hl, hv, h.at0, h.pl, h.arm, h.una, h.st⟩
end Go.Proofs.Ytklhbaghbmndeaa.Pure

/- A device, in plain words: the calls. -/
set_option linter.unusedVariables false
set_option linter.unusedSimpArgs false
namespace Go.Proofs.Ytklhbaghbmndeaa.Pure
open Go Go.Xw
theorem may_eq {fu : Nat} {d : Dev} {k m : Int} : pmem_Device_may.f fu d k m = some (mayI d.off k m) := by
  unfold pmem_Device_may.f mayI
  cases d.off
  · simp only [Bool.false_eq_true, if_false]
    by_cases h1 : k < 0
    · simp [h1]
    · by_cases h2 : k ≥ m <;> simp [h1, h2]
  · simp
theorem may_zero {b : Bool} {k m : Int} : mayI b k m = 0 ↔ b = false ∧ 0 ≤ k ∧ k < m := by
  unfold mayI
  cases b
  · simp only [Bool.false_eq_true, if_false]
    split <;> simp <;> omega
  · simp
theorem ix_set {α : Type} [Inhabited α] {l : List α} {k : Nat} {v : α} (h : k < l.length) : ix (l.set k v) (k : Int) = v := by
  rw [ix_nat (by simpa using h)]
  simp
theorem store_eq {fu n : Nat} {B k w : Int} {d : Dev} (h : DevOk n B d) (hB : B < 9223372036854775807) (hw : U64 w) : pmem_Device_Store.f fu d k w = some (storeD d k w) := by
  unfold pmem_Device_Store.f storeD
  rw [may_eq]
  simp only [Option.bind_some]
  by_cases e : mayI d.off k (d.cells.length : Int) = 0
  · obtain ⟨ho, h0, h1⟩ := may_zero.1 e
    rw [decide_eq_true e, if_pos e, if_neg (by decide), if_pos ⟨h0, h1⟩]
    obtain ⟨j, rfl⟩ : ∃ j : Nat, k = (j : Int) := ⟨k.toNat, by omega⟩
    have e1 : List.set d.cells (Int.toNat (j : Int)) (⟨(ix d.cells (j : Int)).lasts, w, (ix d.cells (j : Int)).sent, (ix d.cells (j : Int)).flushed⟩ : S_pmem_cell) = putC (j : Int) w d.cells := by
      rw [Int.toNat_natCast]
      refine (set_upd (fun c => ⟨c.lasts, w, c.sent, c.flushed⟩) (by omega)).trans ?_
      apply List.ext_getElem (by simp [putC])
      intro i h1 h2
      simp only [putC, List.getElem_mapIdx, Int.natCast_inj]
    have e2 : pmem_Device_step.f fu (⟨putC (j : Int) w d.cells, d.plan, d.off, d.armed, d.left, d.steps⟩ : S_pmem_Device) = some (tick (withC d (putC (j : Int) w d.cells))) := by
      refine dstep_eq (with_ok h (by simp [putC, h.len]) (mapIdx_ok h.val fun i c hc => ?_)) hB ho
      split
      · exact ⟨hc.1, hw, hc.2.2⟩
      · exact hc
    rw [e1, e2]
    rfl
  · rw [decide_eq_false e, if_neg e, if_pos (by decide)]
theorem load_eq {fu : Nat} {k : Int} {d : Dev} : pmem_Device_Load.f fu d k = some (loadD d k) := by
  unfold pmem_Device_Load.f loadD
  rw [may_eq]
  simp only [Option.bind_some]
  by_cases e : mayI d.off k (d.cells.length : Int) = 0
  · obtain ⟨ho, h0, h1⟩ := may_zero.1 e
    rw [decide_eq_true e, if_pos e, if_neg (by decide), if_pos ⟨h0, h1⟩]
  · rw [decide_eq_false e, if_neg e, if_pos (by decide)]
theorem lines_eq {fu : Nat} {d : Dev} (h : d.cells.length ≤ 1000000) : pmem_Device_Lines.f fu d = some ((d.cells.length / 8 : Nat) : Int) := by
  unfold pmem_Device_Lines.f
  rw [Int.tdiv_eq_ediv_of_nonneg (by omega), w64 (by omega) (by omega)]
  congr 1
theorem send_loop {fu : Nat} {cs : List Cell} {k : Nat} (h : 8 * k + 8 ≤ cs.length) (hl : cs.length ≤ 1000000) (hf : 8 < fu) : loopM (pmem_Device_Flush.s0 fu (k : Int)) fu (0, cs) = some (sendL (k : Int) cs) := by
  refine loopM_run (S := fun j => ((j : Int), upd (fun _ c => sendC c) (8 * k) j cs)) 8 (by rw [upd_zero]; rfl) ?_ ?_ hf
  · intro j hj
    unfold pmem_Device_Flush.s0
    have w1 : IntKind.i64.wrap ((k : Int) * 8) = ((8 * k : Nat) : Int) := by rw [w64 (by omega) (by omega)]; omega
    have w2 : IntKind.i64.wrap (((8 * k : Nat) : Int) + (j : Int)) = ((8 * k + j : Nat) : Int) := by rw [w64 (by omega) (by omega)]; omega
    have w3 : IntKind.i64.wrap ((j : Int) + 1) = ((j + 1 : Nat) : Int) := by rw [w64 (by omega) (by omega)]; omega
    have hlt : 8 * k + j < (upd (fun _ c => sendC c) (8 * k) j cs).length := by rw [upd_len]; omega
    have c1 : 0 ≤ ((8 * k + j : Nat) : Int) ∧ ((8 * k + j : Nat) : Int) < ((upd (fun _ c => sendC c) (8 * k) j cs).length : Int) := by omega
    have c2 : (j : Int) < 8 := by omega
    simp only [w1, w2, w3]
    rw [decide_eq_true c2, if_pos rfl, if_pos c1, Int.toNat_natCast, ix_set hlt, List.set_set, ix_nat hlt, upd_next _ _ _ _ (by omega)]
    refine congrArg (fun z => some (Sum.inr (((j + 1 : Nat) : Int), z))) ?_
    exact upd_set (fun _ c => sendC c) (8 * k) j cs (by omega)
  · unfold pmem_Device_Flush.s0
    rw [decide_eq_false (show ¬ (((8 : Nat) : Int) < 8) by decide), if_neg (by decide)]
    refine congrArg (fun z => some (Sum.inl z)) ?_
    apply List.ext_getElem (by simp [upd, sendL])
    intro i h1 h2
    simp only [upd, sendL, List.getElem_mapIdx]
    by_cases c : 8 * k ≤ i ∧ i < 8 * k + 8
    · rw [if_pos c, if_pos (by omega)]
    · rw [if_neg c, if_neg (by omega)]
theorem sendL_ok {cs : List Cell} {k : Int} (h : ∀ c ∈ cs, okC c) : ∀ c ∈ sendL k cs, okC c := by
  refine mapIdx_ok h fun i c hc => ?_
  split
  · exact ⟨hc.1, hc.2.1, hc.2.1⟩
  · exact hc
theorem flush_eq {fu n : Nat} {B k : Int} {d : Dev} (h : DevOk n B d) (hB : B < 9223372036854775807) (hn : n ≤ 1000000) (hf : 8 < fu) : pmem_Device_Flush.f fu d k = some (flushD d k) := by
  unfold pmem_Device_Flush.f flushD
  have hl : d.cells.length ≤ 1000000 := by rw [h.len]; exact hn
  rw [lines_eq hl]
  simp only [Option.bind_some]
  rw [may_eq]
  simp only [Option.bind_some]
  by_cases e : mayI d.off k ((d.cells.length / 8 : Nat) : Int) = 0
  · obtain ⟨ho, h0, h1⟩ := may_zero.1 e
    rw [decide_eq_true e, if_pos e, if_neg (by decide)]
    obtain ⟨j, rfl⟩ : ∃ j : Nat, k = (j : Int) := ⟨k.toNat, by omega⟩
    rw [send_loop (by omega) hl hf]
    have e2 : pmem_Device_step.f fu (⟨sendL (j : Int) d.cells, d.plan, d.off, d.armed, d.left, d.steps⟩ : S_pmem_Device) = some (tick (withC d (sendL (j : Int) d.cells))) :=
      dstep_eq (with_ok h (by simp [sendL, h.len]) (sendL_ok h.val)) hB ho
    simp only [Option.bind_some]
    rw [e2]
    rfl
  · rw [decide_eq_false e, if_neg e, if_pos (by decide)]
theorem fence_loop {fu : Nat} {d : Dev} (hl : d.cells.length ≤ 1000000) (hf : d.cells.length < fu) : loopM (pmem_Device_Fence.s0 fu d) fu (0, d.cells) = some (d.cells.map fenceC) := by
  refine loopM_run (S := fun j => ((j : Int), upd (fun _ c => fenceC c) 0 j d.cells)) d.cells.length (by rw [upd_zero]; rfl) ?_ ?_ hf
  · intro j hj
    unfold pmem_Device_Fence.s0
    have w3 : IntKind.i64.wrap ((j : Int) + 1) = ((j + 1 : Nat) : Int) := by rw [w64 (by omega) (by omega)]; omega
    have hlt : j < (upd (fun _ c => fenceC c) 0 j d.cells).length := by rw [upd_len]; omega
    have hnx : (upd (fun _ c => fenceC c) 0 j d.cells)[j] = d.cells[j] := by
      rw [upd_get, if_neg (by omega)]
    have c1 : 0 ≤ (j : Int) ∧ (j : Int) < ((upd (fun _ c => fenceC c) 0 j d.cells).length : Int) := by omega
    have c2 : (j : Int) < (d.cells.length : Int) := by omega
    simp only [w3]
    rw [decide_eq_true c2, if_pos rfl, if_pos c1, Int.toNat_natCast, ix_nat hlt, hnx]
    have hs := upd_set (fun _ c => fenceC c) 0 j d.cells (by omega)
    simp only [Nat.zero_add] at hs
    cases hfl : d.cells[j].flushed
    · have : fenceC d.cells[j] = d.cells[j] := by simp [fenceC, hfl]
      have := upd_same (fun _ c => fenceC c) 0 j d.cells (by omega) (by simpa using this)
      simp only [Bool.false_eq_true, if_false, Option.bind_some]
      rw [this]
    · have : fenceC d.cells[j] = keepC d.cells[j] d.cells[j].sent := by simp [fenceC, hfl]
      rw [this] at hs
      simp only [if_true, pmem_cell_keep__i0.f, Option.bind_some]
      refine congrArg (fun z => some (Sum.inr (((j + 1 : Nat) : Int), z))) hs
  · unfold pmem_Device_Fence.s0
    rw [decide_eq_false (by omega), if_neg (by decide)]
    refine congrArg (fun z => some (Sum.inl z)) ?_
    show upd (fun _ c => fenceC c) 0 d.cells.length d.cells = _
    rw [upd_all]
    apply List.ext_getElem (by simp)
    intro i h1 h2
    simp
theorem fence_okC {c : Cell} (h : okC c) : okC (fenceC c) := by
  unfold fenceC
  split
  · exact keep_ok h h.2.2
  · exact h
theorem fence_eq {fu n : Nat} {B : Int} {d : Dev} (h : DevOk n B d) (hB : B < 9223372036854775807) (hn : n ≤ 1000000) (hf : n < fu) : pmem_Device_Fence.f fu d = some (fenceD d) := by
  unfold pmem_Device_Fence.f fenceD
  rw [may_eq]
  simp only [Option.bind_some]
  cases ho : d.off
  · have e : mayI false 0 1 = 0 := by decide
    rw [e, if_neg (by decide), if_neg (by decide), fence_loop (by rw [h.len]; exact hn) (by rw [h.len]; exact hf)]
    have e2 : pmem_Device_step.f fu (⟨d.cells.map fenceC, d.plan, d.off, d.armed, d.left, d.steps⟩ : S_pmem_Device) = some (tick (withC d (d.cells.map fenceC))) :=
      dstep_eq (with_ok h (by simp [h.len]) (fun c hc => by
        obtain ⟨x, hx, rfl⟩ := List.mem_map.1 hc
        exact fence_okC (h.val x hx))) hB ho
    rw [ho] at e2
    simp only [Option.bind_some]
    rw [e2]
    rfl
  · have e : mayI true 0 1 = 3 := by decide
    rw [e]
    rfl
theorem arm_eq {fu : Nat} {d : Dev} {k : Int} : pmem_Device_Arm.f fu d k = some (armD d k) := by
  unfold pmem_Device_Arm.f armD
  split <;> rfl
theorem plan_eq {fu : Nat} {d : Dev} {l : List Int} (hl : l.length ≤ 1000000) : pmem_Device_Plan.f fu d l = some (planD d l) := by
  unfold pmem_Device_Plan.f slices_Clone_1.f planD
  rw [if_pos (Nat.le_trans hl (by decide))]
  rfl
theorem openr_eq {fu : Nat} {c : Cell} : pmem_cell_open__r0.f fu c = some (openC c) := by
  unfold pmem_cell_open__r0.f openC
  cases c.flushed <;> rfl
theorem fater_eq {fu : Nat} {c : Cell} {n : Int} (hn : I64 n) : pmem_cell_fate__r0.f fu c n = some (fateC c n) := by
  unfold pmem_cell_fate__r0.f fateC
  have hr : Int.tmod n 3 = n % 3 ∧ 0 ≤ n ∨ Int.tmod n 3 = n % 3 - 3 ∧ n < 0 ∧ n % 3 ≠ 0 ∨ Int.tmod n 3 = 0 ∧ n % 3 = 0 := by
    rcases Int.lt_or_le n 0 with h | h
    · have e1 : Int.tmod n 3 = -(Int.tmod (-n) 3) := by rw [Int.neg_tmod, Int.neg_neg]
      have e2 : Int.tmod (-n) 3 = (-n) % 3 := Int.tmod_eq_emod_of_nonneg (by omega)
      omega
    · exact .inl ⟨Int.tmod_eq_emod_of_nonneg h, h⟩
  generalize Int.tmod n 3 = t at *
  generalize hq : n % 3 = q at *
  have hq3 : 0 ≤ q ∧ q < 3 := by omega
  have : q = 0 ∧ t = 0 ∨ q = 1 ∧ (t = 1 ∨ t = -2) ∨ q = 2 ∧ (t = 2 ∨ t = -1) := by omega
  rcases this with ⟨rfl, rfl⟩ | ⟨rfl, rfl | rfl⟩ | ⟨rfl, rfl | rfl⟩ <;> cases c.flushed <;> rfl
theorem opens_succ {cs : List Cell} {j : Nat} (h : j < cs.length) : opens cs (j + 1) = opens cs j + (if openC cs[j] = true then 1 else 0) := by
  unfold opens
  rw [take_next h, List.filter_append, List.length_append]
  cases hc : openC cs[j] <;> simp [hc]
theorem crash_loop {fu : Nat} {d : Dev} {l : List Int} (hl : d.cells.length ≤ 1000000) (hi : ∀ x ∈ l, I64 x) (hf : d.cells.length < fu) : loopM (pmem_Device_Crash.s0 fu d) fu (l, 0, d.cells) = some (crashL l d.cells) := by
  refine loopM_run (S := fun j => (l.drop (opens d.cells j), (j : Int), upd (fun i c => crashC c (l.getD (opens d.cells i) 0)) 0 j d.cells)) d.cells.length (by rw [upd_zero]; simp [opens]) ?_ ?_ hf
  · intro j hj
    unfold pmem_Device_Crash.s0
    have w3 : IntKind.i64.wrap ((j : Int) + 1) = ((j + 1 : Nat) : Int) := by rw [w64 (by omega) (by omega)]; omega
    have hlt : j < (upd (fun i c => crashC c (l.getD (opens d.cells i) 0)) 0 j d.cells).length := by rw [upd_len]; omega
    have hnx : (upd (fun i c => crashC c (l.getD (opens d.cells i) 0)) 0 j d.cells)[j] = d.cells[j] := by
      rw [upd_get, if_neg (by omega)]
    have hs := upd_set (fun i c => crashC c (l.getD (opens d.cells i) 0)) 0 j d.cells (by omega)
    simp only [Nat.zero_add] at hs
    rw [opens_succ hj]
    have c1 : 0 ≤ (j : Int) ∧ (j : Int) < ((upd (fun i c => crashC c (l.getD (opens d.cells i) 0)) 0 j d.cells).length : Int) := by omega
    have c2 : (j : Int) < (d.cells.length : Int) := by omega
    simp only [w3]
    rw [decide_eq_true c2, if_pos rfl, if_pos c1, Int.toNat_natCast, ix_nat hlt, hnx, openr_eq]
    generalize hU : upd (fun i c => crashC c (l.getD (opens d.cells i) 0)) 0 j d.cells = U at *
    simp only [Option.bind_some]
    cases ho : openC d.cells[j]
    · have : crashC d.cells[j] (l.getD (opens d.cells j) 0) = ⟨d.cells[j].lasts, d.cells[j].lasts, d.cells[j].sent, d.cells[j].flushed⟩ := by simp [crashC, ho]
      rw [this] at hs
      simp only [Bool.false_eq_true, if_false, Option.bind_some, ix_nat hlt, hnx, hlt, Int.ofNat_lt, if_true, Nat.add_zero]
      rw [hs]
    · have hx : ∀ v, ix (U.set j (keepC d.cells[j] v)) (j : Int) = keepC d.cells[j] v := fun v => ix_set hlt
      have key : ∀ v, v = l.getD (opens d.cells j) 0 → (U.set j (keepC d.cells[j] (fateC d.cells[j] v))).set j (⟨fateC d.cells[j] v, fateC d.cells[j] v, 0, false⟩ : S_pmem_cell) = upd (fun i c => crashC c (l.getD (opens d.cells i) 0)) 0 (j + 1) d.cells := by
        intro v hv
        rw [List.set_set, hv, ← hs]
        simp [crashC, ho]
      have hlt2 : ∀ v, (j : Int) < (((U.set j v)).length : Int) := fun v => by rw [List.length_set]; omega
      simp only [if_true]
      by_cases hd : opens d.cells j < l.length
      · have e0 : (List.length (l.drop (opens d.cells j)) : Int) > 0 := by rw [List.length_drop]; omega
        have e1 : (1 : Int) ≤ (List.length (l.drop (opens d.cells j)) : Int) := by omega
        have e2 : ix (l.drop (opens d.cells j)) 0 = l.getD (opens d.cells j) 0 := by
          rw [show (0 : Int) = ((0 : Nat) : Int) from rfl, ix_nat (by omega)]
          simp [List.getD_eq_getElem?_getD, List.getElem?_eq_getElem hd]
        have e3 : cut (l.drop (opens d.cells j)) 1 (List.length (l.drop (opens d.cells j)) : Int) = l.drop (opens d.cells j + 1) := by
          unfold cut
          rw [Int.toNat_natCast, List.take_length, show Int.toNat 1 = 1 from rfl, List.drop_drop]
        have e4 : I64 (l.getD (opens d.cells j) 0) := by
          rw [getD_of _ _ _ hd]
          exact hi _ (List.getElem_mem hd)
        rw [decide_eq_true e0, if_pos rfl, if_pos e0, if_pos e1, e2, e3]
        simp only [Option.bind_some]
        rw [fater_eq e4]
        simp only [Option.bind_some, pmem_cell_keep__i0.f]
        rw [if_pos (hlt2 _), if_pos (hlt2 _)]
        have := key _ rfl
        simp only [keepC] at this hx ⊢
        rw [hx]
        rw [this]
      · have e0 : ¬ (List.length (l.drop (opens d.cells j)) : Int) > 0 := by rw [List.length_drop]; omega
        have e2 : l.getD (opens d.cells j) 0 = 0 := by
          rw [List.getD_eq_getElem?_getD, List.getElem?_eq_none (by omega)]
          rfl
        have e3 : l.drop (opens d.cells j) = l.drop (opens d.cells j + 1) := by
          rw [List.drop_eq_nil_of_le (by omega), List.drop_eq_nil_of_le (by omega)]
        rw [decide_eq_false e0, if_neg (by decide)]
        simp only [Option.bind_some]
        rw [fater_eq (show I64 0 by unfold I64; omega)]
        simp only [Option.bind_some, pmem_cell_keep__i0.f]
        rw [if_pos (hlt2 _), if_pos (hlt2 _)]
        have := key 0 e2.symm
        simp only [keepC] at this hx ⊢
        rw [hx, this, e3]
  · unfold pmem_Device_Crash.s0
    rw [decide_eq_false (show ¬ ((d.cells.length : Int) < (d.cells.length : Int)) by omega), if_neg (by decide)]
    refine congrArg (fun z => some (Sum.inl z)) ?_
    exact upd_all _ _
theorem crash_eq {fu n : Nat} {B : Int} {d : Dev} {l : List Int} (h : DevOk n B d) (hn : n ≤ 1000000) (hi : ∀ x ∈ l, I64 x) (hf : n < fu) : pmem_Device_Crash.f fu d l = some (crashD d l) := by
  unfold pmem_Device_Crash.f crashD
  rw [crash_loop (by rw [h.len]; exact hn) hi (by rw [h.len]; exact hf)]
  rfl
end Go.Proofs.Ytklhbaghbmndeaa.Pure

/- (*rickyard/pmem.Device).View$1: its model, and that the Go function computes it: written by gen.py. -/
set_option linter.unusedVariables false
namespace Go.Proofs.Ytklhbaghbmndeaa
open Go Go.Xw
def pmem_Device_View_1__r0.f (fu : Nat) (a0 : S_pmem_cell) : Option Int := some (a0.stored)
set_option maxRecDepth 100000 in
set_option maxHeartbeats 400000 in
theorem pmem_Device_View_1__r0.ok (fu : Nat) (w : World) (a0 : S_pmem_cell) (G_0 p_0 : Nat) (A_0 : At w G_0 p_0 (cellsOf [Seg.cell (.int .u64 a0.lasts), Seg.cell (.int .u64 a0.stored), Seg.cell (.int .u64 a0.sent), Seg.cell (.bool a0.flushed)])) (r : Int) (h : pmem_Device_View_1__r0.f fu a0 = some r) :
    Calls Try.prog 91 (([.pointer (some ⟨G_0, p_0, none⟩)] : List Value).toArray) w (fun e w' => ∃ v, e = .returned v ∧ v = .int .u64 r ∧ Gr w w') := by
  unfold pmem_Device_View_1__r0.f at h
  have fB : Gr w w := Fr.refl _ _
  refine calls_cw Try.func91 rfl Try.ntmps91 rfl ?_
  refine cw_seq ?_
  refine cw_region ?_
  refine ol_val (v := .int .u64 0) (by exact xr_assign rfl rfl) rfl rfl rfl ?_
  refine ol_nil ?_
  refine cw_seq ?_
  refine cw_region ?_
  refine ol_val (v := .pointer (some ⟨G_0, p_0, none⟩)) (by exact xr_move rfl rfl) rfl rfl rfl ?_
  refine ol_val (v := .pointer (some ⟨G_0, p_0, none⟩)) (by exact xr_nilCheck rfl rfl) rfl rfl rfl ?_
  refine ol_val (v := .pointer (some ⟨G_0, p_0 + 1, none⟩)) (by exact xr_fieldAddr (p := p_0) (q := 1) rfl fl142_1 rfl) rfl rfl rfl ?_
  refine ol_val (v := .int .u64 a0.stored) (by exact xr_load1 (v := .int .u64 a0.stored) rfl ag22 rfl (At.segs (ss := [Seg.cell (.int .u64 a0.lasts), Seg.cell (.int .u64 a0.stored), Seg.cell (.int .u64 a0.sent), Seg.cell (.bool a0.flushed)]) (At.gr A_0 fB) 1 1 rfl)) rfl rfl rfl ?_
  refine ol_val (v := .int .u64 a0.stored) (by exact xr_assign rfl rfl) rfl rfl rfl ?_
  refine ol_nil ?_
  refine cw_ret ?_
  repeat (first | with_reducible refine thn_r ?_ | with_reducible refine blk_r ?_)
  obtain rfl := Option.some.inj h
  refine fin_ret1 Try.results91 rfl ?_
  exact ⟨_, rfl, rfl, fB⟩
end Go.Proofs.Ytklhbaghbmndeaa

/- (*rickyard/pmem.Device).octets: its model, and that the Go function computes it: written by gen.py. -/
set_option linter.unusedVariables false
namespace Go.Proofs.Ytklhbaghbmndeaa
open Go Go.Xw
def pmem_Device_octets__pmem_Device_View_1.s0 (fu : Nat) (a0 : S_pmem_Device) : (Int × (List Int)) → Option (Sum (List Int) (Int × (List Int))) := fun s11 => (if (decide (s11.1 < (List.length a0.cells : Int))) = true then (if 0 ≤ s11.1 ∧ s11.1 < (List.length a0.cells : Int) then ((pmem_Device_View_1__r0.f fu (ix a0.cells s11.1) : Option Int).bind fun t20 => (if 0 ≤ s11.1 ∧ s11.1 < (List.length s11.2 : Int) then some (Sum.inr ((IntKind.i64.wrap (s11.1 + 1)), (List.set s11.2 (Int.toNat s11.1) t20))) else none)) else none) else some (Sum.inl (s11.2)))
def pmem_Device_octets__pmem_Device_View_1.f (fu : Nat) (a0 : S_pmem_Device) : Option (List Int) := (if 0 ≤ (List.length a0.cells : Int) ∧ Int.toNat (List.length a0.cells : Int) ≤ LIM then ((loopM (pmem_Device_octets__pmem_Device_View_1.s0 fu a0) fu (0, (List.replicate (Int.toNat (List.length a0.cells : Int)) (0 : Int)))).bind fun e12 => ((octet_Octets.f fu e12 : Option (List Int)).bind fun t31 => some (t31))) else none)
set_option maxRecDepth 100000 in
set_option maxHeartbeats 400000 in
theorem pmem_Device_octets__pmem_Device_View_1.ok (fu : Nat) (w : World) (a0 : S_pmem_Device) (G_0 : Nat) (V0_0 : Value) (R0_0 : Rd k_pmem_cell w V0_0 a0.cells) (V0_1 : Value) (R0_1 : Rd (kI .i64) w V0_1 a0.plan.list) (b_0 : Blk w G_0 139 [Seg.cell V0_0 R0_0.one, Seg.cell V0_1 R0_1.one, Seg.cell (.int .i64 a0.plan.at_), Seg.cell (.bool a0.off), Seg.cell (.bool a0.armed), Seg.cell (.int .i64 a0.left), Seg.cell (.int .i64 a0.steps)]) (r : (List Int)) (h : pmem_Device_octets__pmem_Device_View_1.f fu a0 = some r) :
    Calls Try.prog 88 (([.pointer (some ⟨G_0, 0, none⟩), Value.func (.func 91) #[] #[]] : List Value).toArray) w (fun e w' => ∃ v, e = .returned v ∧ ∃ u1 : Value, ∃ o2 : Own (kI .u8) 5 w' w.heap.size u1 r, v = u1 ∧ Gr w w') := by
  unfold pmem_Device_octets__pmem_Device_View_1.f at h
  have fB : Gr w w := Fr.refl _ _
  refine calls_cw Try.func88 rfl Try.ntmps88 rfl ?_
  refine cw_seq ?_
  refine cw_region ?_
  refine ol_val (v := .slice none 0 0) (by exact xr_assign rfl rfl) rfl rfl rfl ?_
  refine ol_nil ?_
  refine cw_seq ?_
  refine cw_region ?_
  refine ol_val (v := .pointer (some ⟨G_0, 0, none⟩)) (by exact xr_move rfl rfl) rfl rfl rfl ?_
  refine ol_val (v := .pointer (some ⟨G_0, 0, none⟩)) (by exact xr_nilCheck rfl rfl) rfl rfl rfl ?_
  refine ol_val (v := .pointer (some ⟨G_0, 0, none⟩)) (by exact xr_fieldAddr (p := 0) (q := 0) rfl fl139_0 rfl) rfl rfl rfl ?_
  refine ol_val (v := V0_0) (by exact xr_load1 (v := V0_0) rfl ag135 rfl (b_0.seg 0 rfl rfl)) rfl rfl rfl ?_
  refine ol_val (v := .int .i64 (List.length a0.cells : Int)) (by exact xr_lenR rfl Try.underlying135 rfl (R0_0.gr fB)) rfl rfl rfl ?_
  obtain ⟨g4, h⟩ := gs h
  refine ol_op (by exact opv_make (K := (kI .u64)) (z := (0 : Int)) rfl Try.underlying46 el22 rfl rfl rfl g4.1 g4.2 rfl fB.size) rfl rfl rfl ?_
  rintro v5 w10 ⟨o7, q6, z8⟩
  have b_0 := b_0.gr q6
  have fB := fB.gr q6
  refine ol_val (v := v5) (by exact xr_assign rfl rfl) rfl rfl rfl ?_
  refine ol_nil ?_
  refine cw_seq ?_
  refine cw_seq ?_
  refine cw_region ?_
  refine ol_val (v := .pointer (some ⟨G_0, 0, none⟩)) (by exact xr_move rfl rfl) rfl rfl rfl ?_
  refine ol_val (v := .pointer (some ⟨G_0, 0, none⟩)) (by exact xr_nilCheck rfl rfl) rfl rfl rfl ?_
  refine ol_val (v := .pointer (some ⟨G_0, 0, none⟩)) (by exact xr_fieldAddr (p := 0) (q := 0) rfl fl139_0 rfl) rfl rfl rfl ?_
  refine ol_val (v := V0_0) (by exact xr_load1 (v := V0_0) rfl ag135 rfl (b_0.seg 0 rfl rfl)) rfl rfl rfl ?_
  refine ol_val (v := .int .i64 (List.length a0.cells : Int)) (by exact xr_lenR rfl Try.underlying135 rfl (R0_0.gr fB)) rfl rfl rfl ?_
  refine ol_val (v := .int .i64 0) (by exact xr_move rfl rfl) rfl rfl rfl ?_
  refine ol_nil ?_
  obtain ⟨e12, l13, h14⟩ := bs h
  refine cw_mid (fun ρ' w' => ∃ o7 : Own (kI .u64) 22 w' w.heap.size v5 e12, ρ' 5 = v5 ∧ Blk w' G_0 139 [Seg.cell V0_0 R0_0.one, Seg.cell V0_1 R0_1.one, Seg.cell (.int .i64 a0.plan.at_), Seg.cell (.bool a0.off), Seg.cell (.bool a0.armed), Seg.cell (.int .i64 a0.left), Seg.cell (.int .i64 a0.steps)] ∧ Gr w w') ?_ ?_
  · refine cw_block ?_
    refine cw_round (fun (s11 : Int × (List Int)) ρ' w' => ∃ o7 : Own (kI .u64) 22 w' w.heap.size v5 s11.2, ρ' 0 = .pointer (some ⟨G_0, 0, none⟩) ∧ ρ' 1 = Value.func (.func 91) #[] #[] ∧ ρ' 5 = v5 ∧ ρ' 17 = .int .i64 (List.length a0.cells : Int) ∧ ρ' 18 = .int .i64 s11.1 ∧ Blk w' G_0 139 [Seg.cell V0_0 R0_0.one, Seg.cell V0_1 R0_1.one, Seg.cell (.int .i64 a0.plan.at_), Seg.cell (.bool a0.off), Seg.cell (.bool a0.armed), Seg.cell (.int .i64 a0.left), Seg.cell (.int .i64 a0.steps)] ∧ Gr w w') l13 ?_ ?_
    · skip
      exact ⟨o7, rfl, rfl, rfl, rfl, rfl, b_0, fB⟩
    · rintro s11 x17 ρ15 w16 ⟨o7, e0, e1, e5, e17, e18, b_0, fB⟩ h
      unfold pmem_Device_octets__pmem_Device_View_1.s0 at h
      refine cw_seq ?_
      refine cw_region ?_
      refine ol_val (v := .bool (decide (s11.1 < (List.length a0.cells : Int)))) (by exact xr_lss rfl e18 e17) rfl rfl rfl ?_
      refine ol_nil ?_
      refine cw_seq ?_
      rcases is h with ⟨c18, h⟩ | ⟨c18, h⟩
      · refine cw_condT rfl c18 ?_
        refine cw_skip ?_
        refine cw_seq ?_
        refine cw_block ?_
        refine cw_seq ?_
        refine cw_region ?_
        refine ol_val (v := .int .i64 s11.1) (by exact xr_move rfl e18) rfl rfl rfl ?_
        refine ol_val (v := .int .i64 s11.1) (by exact xr_assign rfl rfl) rfl rfl rfl ?_
        refine ol_nil ?_
        refine cw_region ?_
        refine ol_val (v := v5) (by exact xr_move rfl e5) rfl rfl rfl ?_
        refine ol_val (v := .int .i64 s11.1) (by exact xr_move rfl rfl) rfl rfl rfl ?_
        refine ol_val (v := Value.func (.func 91) #[] #[]) (by exact xr_move rfl e1) rfl rfl rfl ?_
        refine ol_val (v := .pointer (some ⟨G_0, 0, none⟩)) (by exact xr_move rfl e0) rfl rfl rfl ?_
        refine ol_val (v := .pointer (some ⟨G_0, 0, none⟩)) (by exact xr_nilCheck rfl rfl) rfl rfl rfl ?_
        refine ol_val (v := .pointer (some ⟨G_0, 0, none⟩)) (by exact xr_fieldAddr (p := 0) (q := 0) rfl fl139_0 rfl) rfl rfl rfl ?_
        refine ol_val (v := V0_0) (by exact xr_load1 (v := V0_0) rfl ag135 rfl (b_0.seg 0 rfl rfl)) rfl rfl rfl ?_
        refine ol_val (v := .int .i64 s11.1) (by exact xr_move rfl rfl) rfl rfl rfl ?_
        obtain ⟨g19, h⟩ := gs h
        refine ol_val (v := .pointer (some ⟨(sb V0_0), so V0_0 + Int.toNat s11.1 * 4, none⟩)) (by exact xr_indexR (K := k_pmem_cell) (v := V0_0) rfl Try.underlying135 sz142 rfl (R0_0.gr fB) rfl g19.1 g19.2) rfl rfl rfl ?_
        obtain ⟨t20, k21, h⟩ := bs h
        refine ol_op (by exact opv_callV (C := []) rfl rfl cal91 (ac rfl an) (pmem_Device_View_1__r0.ok fu _ (ix a0.cells s11.1) (sb V0_0) (so V0_0 + Int.toNat s11.1 * 4) (show At _ _ _ (cellsOf [Seg.cell (.int .u64 ((ix a0.cells s11.1).lasts)), Seg.cell (.int .u64 ((ix a0.cells s11.1).stored)), Seg.cell (.int .u64 ((ix a0.cells s11.1).sent)), Seg.cell (.bool ((ix a0.cells s11.1).flushed))]) from ((R0_0.gr fB).elem g19.1 g19.2)) _ k21)) rfl rfl rfl ?_
        rintro _ w23 ⟨rfl, q22⟩
        have b_0 := b_0.gr q22
        have o7 := o7.gr q22
        have fB := fB.gr q22
        obtain ⟨g24, h⟩ := gs h
        refine ol_val (v := .pointer (some ⟨(sb v5), so v5 + Int.toNat s11.1 * 1, none⟩)) (by exact xr_indexR (K := (kI .u64)) (v := v5) rfl Try.underlying46 sz22 rfl o7.rd rfl g24.1 g24.2) rfl rfl rfl ?_
        have f26 := off_ty b_0 o7 (by decide)
        have f27 := o7.geO
        refine ol_op0 (by exact opv_storeRow (z := t20) (xs := cellsOf [Seg.cell (.int .u64 t20)]) rfl sz22 rfl rfl rfl (len_cellsOf _) (one_cellsOf _) o7 g24.1 g24.2 (Spl.whole ((Kd.len _ _).trans (Kd.len _ _).symm)) rfl) rfl rfl ?_
        rintro _ w28 ⟨o7, q25⟩
        have b_0 := b_0.wrO q25 f26
        have fB := fB.wrO q25 f27
        refine ol_nil ?_
        refine blk_i ?_
        refine cw_region ?_
        refine ol_val (v := .int .i64 (IntKind.i64.wrap (s11.1 + 1))) (by exact xr_add rfl e18 rfl) rfl rfl rfl ?_
        refine ol_val (v := .int .i64 (IntKind.i64.wrap (s11.1 + 1))) (by exact xr_move rfl rfl) rfl rfl rfl ?_
        refine ol_nil ?_
        obtain rfl := Option.some.inj h
        refine lp_in ?_
        exact ⟨o7, e0, e1, e5, e17, rfl, b_0, fB⟩
      · refine cw_condF rfl c18 ?_
        refine cw_exit ?_
        repeat (first | with_reducible refine thn_e ?_ | with_reducible refine blk_e rfl ?_)
        obtain rfl := Option.some.inj h
        refine lp_exit ?_
        rintro rfl
        refine thn_x ?_
        exact ⟨o7, e5, b_0, fB⟩
  · rintro ρ29 w30 ⟨o7, e5, b_0, fB⟩
    have h := h14
    refine cw_seq ?_
    refine cw_region ?_
    refine ol_val (v := v5) (by exact xr_move rfl e5) rfl rfl rfl ?_
    obtain ⟨t31, k32, h⟩ := bs h
    refine ol_op (by exact opv_call rfl cal104 (ac rfl an) (octet_Octets.ok fu _ e12 v5 (o7.rd) _ k32)) rfl rfl rfl ?_
    rintro u33 w37 ⟨_, o34, rfl, q36⟩
    have o34 := Own.base o34 fB.size
    have b_0 := b_0.gr q36
    have fB := fB.gr q36
    refine ol_val (v := u33) (by exact xr_assign rfl rfl) rfl rfl rfl ?_
    refine ol_nil ?_
    refine cw_ret ?_
    repeat (first | with_reducible refine thn_r ?_ | with_reducible refine blk_r ?_)
    obtain rfl := Option.some.inj h
    refine fin_ret1 Try.results88 rfl ?_
    exact ⟨_, rfl, u33, o34, rfl, fB⟩
end Go.Proofs.Ytklhbaghbmndeaa

/- (*rickyard/pmem.Device).View: its model, and that the Go function computes it: written by gen.py. -/
set_option linter.unusedVariables false
namespace Go.Proofs.Ytklhbaghbmndeaa
open Go Go.Xw
def pmem_Device_View.f (fu : Nat) (a0 : S_pmem_Device) : Option (List Int) := ((pmem_Device_octets__pmem_Device_View_1.f fu a0 : Option (List Int)).bind fun t4 => some (t4))
set_option maxRecDepth 100000 in
set_option maxHeartbeats 400000 in
theorem pmem_Device_View.ok (fu : Nat) (w : World) (a0 : S_pmem_Device) (G_0 : Nat) (V0_0 : Value) (R0_0 : Rd k_pmem_cell w V0_0 a0.cells) (V0_1 : Value) (R0_1 : Rd (kI .i64) w V0_1 a0.plan.list) (b_0 : Blk w G_0 139 [Seg.cell V0_0 R0_0.one, Seg.cell V0_1 R0_1.one, Seg.cell (.int .i64 a0.plan.at_), Seg.cell (.bool a0.off), Seg.cell (.bool a0.armed), Seg.cell (.int .i64 a0.left), Seg.cell (.int .i64 a0.steps)]) (r : (List Int)) (h : pmem_Device_View.f fu a0 = some r) :
    Calls Try.prog 36 (([.pointer (some ⟨G_0, 0, none⟩)] : List Value).toArray) w (fun e w' => ∃ v, e = .returned v ∧ ∃ u1 : Value, ∃ o2 : Own (kI .u8) 5 w' w.heap.size u1 r, v = u1 ∧ Gr w w') := by
  unfold pmem_Device_View.f at h
  have fB : Gr w w := Fr.refl _ _
  refine calls_cw Try.func36 rfl Try.ntmps36 rfl ?_
  refine cw_seq ?_
  refine cw_region ?_
  refine ol_val (v := .slice none 0 0) (by exact xr_assign rfl rfl) rfl rfl rfl ?_
  refine ol_nil ?_
  refine cw_seq ?_
  refine cw_region ?_
  refine ol_val (v := .pointer (some ⟨G_0, 0, none⟩)) (by exact xr_move rfl rfl) rfl rfl rfl ?_
  obtain ⟨t4, k5, h⟩ := bs h
  refine ol_op (by exact opv_call rfl cal88 (ac rfl (ac rfl an)) (pmem_Device_octets__pmem_Device_View_1.ok fu _ a0 G_0 V0_0 (R0_0.gr fB) V0_1 (R0_1.gr fB) b_0 _ k5)) rfl rfl rfl ?_
  rintro u6 w10 ⟨_, o7, rfl, q9⟩
  have o7 := Own.base o7 fB.size
  have b_0 := b_0.gr q9
  have fB := fB.gr q9
  refine ol_val (v := u6) (by exact xr_assign rfl rfl) rfl rfl rfl ?_
  refine ol_nil ?_
  refine cw_ret ?_
  repeat (first | with_reducible refine thn_r ?_ | with_reducible refine blk_r ?_)
  obtain rfl := Option.some.inj h
  refine fin_ret1 Try.results36 rfl ?_
  exact ⟨_, rfl, u6, o7, rfl, fB⟩
end Go.Proofs.Ytklhbaghbmndeaa

/- (*rickyard/pmem.Device).Fates: its model, and that the Go function computes it: written by gen.py. -/
set_option linter.unusedVariables false
namespace Go.Proofs.Ytklhbaghbmndeaa
open Go Go.Xw
def pmem_Device_Fates.s0 (fu : Nat) (a0 : S_pmem_Device) : ((List S_api_Fate) × Int) → Option (Sum (List S_api_Fate) ((List S_api_Fate) × Int)) := fun s4 => (if (decide (s4.2 < (List.length a0.cells : Int))) = true then (if 0 ≤ s4.2 ∧ s4.2 < (List.length a0.cells : Int) then ((pmem_cell_open__r0.f fu (ix a0.cells s4.2) : Option Bool).bind fun t19 => (((if t19 = true then (if List.length s4.1 + List.length [(⟨s4.2, (ix a0.cells s4.2).lasts, (ix a0.cells s4.2).flushed, (ix a0.cells s4.2).sent, (ix a0.cells s4.2).stored⟩ : S_api_Fate)] ≤ LIM then some ((s4.1 ++ [(⟨s4.2, (ix a0.cells s4.2).lasts, (ix a0.cells s4.2).flushed, (ix a0.cells s4.2).sent, (ix a0.cells s4.2).stored⟩ : S_api_Fate)])) else none) else some (s4.1)) : Option (List S_api_Fate)).bind fun x23 => some (Sum.inr (x23, (IntKind.i64.wrap (s4.2 + 1)))))) else none) else some (Sum.inl (s4.1)))
def pmem_Device_Fates.f (fu : Nat) (a0 : S_pmem_Device) : Option (List S_api_Fate) := ((loopM (pmem_Device_Fates.s0 fu a0) fu ([], 0)).bind fun e5 => some (e5))
set_option maxRecDepth 100000 in
set_option maxHeartbeats 400000 in
theorem pmem_Device_Fates.ok (fu : Nat) (w : World) (a0 : S_pmem_Device) (G_0 : Nat) (V0_0 : Value) (R0_0 : Rd k_pmem_cell w V0_0 a0.cells) (V0_1 : Value) (R0_1 : Rd (kI .i64) w V0_1 a0.plan.list) (b_0 : Blk w G_0 139 [Seg.cell V0_0 R0_0.one, Seg.cell V0_1 R0_1.one, Seg.cell (.int .i64 a0.plan.at_), Seg.cell (.bool a0.off), Seg.cell (.bool a0.armed), Seg.cell (.int .i64 a0.left), Seg.cell (.int .i64 a0.steps)]) (r : (List S_api_Fate)) (h : pmem_Device_Fates.f fu a0 = some r) :
    Calls Try.prog 40 (([.pointer (some ⟨G_0, 0, none⟩)] : List Value).toArray) w (fun e w' => ∃ v, e = .returned v ∧ ∃ u1 : Value, ∃ o2 : Own k_api_Fate 55 w' w.heap.size u1 r, v = u1 ∧ Gr w w') := by
  unfold pmem_Device_Fates.f at h
  have fB : Gr w w := Fr.refl _ _
  refine calls_cw Try.func40 rfl Try.ntmps40 rfl ?_
  refine cw_seq ?_
  refine cw_region ?_
  refine ol_val (v := .slice none 0 0) (by exact xr_assign rfl rfl) rfl rfl rfl ?_
  refine ol_nil ?_
  refine cw_seq ?_
  refine cw_region ?_
  refine ol_val (v := .slice none 0 0) (by exact xr_assign rfl rfl) rfl rfl rfl ?_
  refine ol_nil ?_
  refine cw_seq ?_
  refine cw_seq ?_
  refine cw_region ?_
  refine ol_val (v := .pointer (some ⟨G_0, 0, none⟩)) (by exact xr_move rfl rfl) rfl rfl rfl ?_
  refine ol_val (v := .pointer (some ⟨G_0, 0, none⟩)) (by exact xr_nilCheck rfl rfl) rfl rfl rfl ?_
  refine ol_val (v := .pointer (some ⟨G_0, 0, none⟩)) (by exact xr_fieldAddr (p := 0) (q := 0) rfl fl139_0 rfl) rfl rfl rfl ?_
  refine ol_val (v := V0_0) (by exact xr_load1 (v := V0_0) rfl ag135 rfl (b_0.seg 0 rfl rfl)) rfl rfl rfl ?_
  refine ol_val (v := .int .i64 (List.length a0.cells : Int)) (by exact xr_lenR rfl Try.underlying135 rfl (R0_0.gr fB)) rfl rfl rfl ?_
  refine ol_val (v := .int .i64 0) (by exact xr_move rfl rfl) rfl rfl rfl ?_
  refine ol_nil ?_
  obtain ⟨e5, l6, h7⟩ := bs h
  refine cw_mid (fun ρ' w' => ∃ v8 : Value, ∃ o9 : Own k_api_Fate 55 w' w.heap.size v8 e5, ρ' 3 = v8 ∧ Blk w' G_0 139 [Seg.cell V0_0 R0_0.one, Seg.cell V0_1 R0_1.one, Seg.cell (.int .i64 a0.plan.at_), Seg.cell (.bool a0.off), Seg.cell (.bool a0.armed), Seg.cell (.int .i64 a0.left), Seg.cell (.int .i64 a0.steps)] ∧ Gr w w') ?_ ?_
  · refine cw_block ?_
    refine cw_round (fun (s4 : (List S_api_Fate) × Int) ρ' w' => ∃ v11 : Value, ∃ o12 : Own k_api_Fate 55 w' w.heap.size v11 s4.1, ρ' 0 = .pointer (some ⟨G_0, 0, none⟩) ∧ ρ' 3 = v11 ∧ ρ' 10 = .int .i64 (List.length a0.cells : Int) ∧ ρ' 11 = .int .i64 s4.2 ∧ Blk w' G_0 139 [Seg.cell V0_0 R0_0.one, Seg.cell V0_1 R0_1.one, Seg.cell (.int .i64 a0.plan.at_), Seg.cell (.bool a0.off), Seg.cell (.bool a0.armed), Seg.cell (.int .i64 a0.left), Seg.cell (.int .i64 a0.steps)] ∧ Gr w w') l6 ?_ ?_
    · skip
      exact ⟨(.slice none 0 0), Own.nil _ _ _ _, rfl, rfl, rfl, rfl, b_0, fB⟩
    · rintro s4 x16 ρ14 w15 ⟨v11, o12, e0, e3, e10, e11, b_0, fB⟩ h
      unfold pmem_Device_Fates.s0 at h
      refine cw_seq ?_
      refine cw_region ?_
      refine ol_val (v := .bool (decide (s4.2 < (List.length a0.cells : Int)))) (by exact xr_lss rfl e11 e10) rfl rfl rfl ?_
      refine ol_nil ?_
      refine cw_seq ?_
      rcases is h with ⟨c17, h⟩ | ⟨c17, h⟩
      · refine cw_condT rfl c17 ?_
        refine cw_skip ?_
        refine cw_seq ?_
        refine cw_block ?_
        refine cw_seq ?_
        refine cw_region ?_
        refine ol_val (v := .int .i64 s4.2) (by exact xr_move rfl e11) rfl rfl rfl ?_
        refine ol_val (v := .int .i64 s4.2) (by exact xr_assign rfl rfl) rfl rfl rfl ?_
        refine ol_nil ?_
        refine cw_seq ?_
        refine cw_region ?_
        refine ol_val (v := .pointer (some ⟨G_0, 0, none⟩)) (by exact xr_move rfl e0) rfl rfl rfl ?_
        refine ol_val (v := .pointer (some ⟨G_0, 0, none⟩)) (by exact xr_nilCheck rfl rfl) rfl rfl rfl ?_
        refine ol_val (v := .pointer (some ⟨G_0, 0, none⟩)) (by exact xr_fieldAddr (p := 0) (q := 0) rfl fl139_0 rfl) rfl rfl rfl ?_
        refine ol_val (v := V0_0) (by exact xr_load1 (v := V0_0) rfl ag135 rfl (b_0.seg 0 rfl rfl)) rfl rfl rfl ?_
        refine ol_val (v := .int .i64 s4.2) (by exact xr_move rfl rfl) rfl rfl rfl ?_
        obtain ⟨g18, h⟩ := gs h
        refine ol_val (v := .pointer (some ⟨(sb V0_0), so V0_0 + Int.toNat s4.2 * 4, none⟩)) (by exact xr_indexR (K := k_pmem_cell) (v := V0_0) rfl Try.underlying135 sz142 rfl (R0_0.gr fB) rfl g18.1 g18.2) rfl rfl rfl ?_
        refine ol_val (v := .pointer (some ⟨(sb V0_0), so V0_0 + Int.toNat s4.2 * 4, none⟩)) (by exact xr_assign rfl rfl) rfl rfl rfl ?_
        refine ol_nil ?_
        refine cw_seq ?_
        refine cw_region ?_
        refine ol_val (v := .pointer (some ⟨(sb V0_0), so V0_0 + Int.toNat s4.2 * 4, none⟩)) (by exact xr_move rfl rfl) rfl rfl rfl ?_
        obtain ⟨t19, k20, h⟩ := bs h
        refine ol_op (by exact opv_call rfl cal86 (ac rfl an) (pmem_cell_open__r0.ok fu _ (ix a0.cells s4.2) (sb V0_0) (so V0_0 + Int.toNat s4.2 * 4) (show At _ _ _ (cellsOf [Seg.cell (.int .u64 ((ix a0.cells s4.2).lasts)), Seg.cell (.int .u64 ((ix a0.cells s4.2).stored)), Seg.cell (.int .u64 ((ix a0.cells s4.2).sent)), Seg.cell (.bool ((ix a0.cells s4.2).flushed))]) from ((R0_0.gr fB).elem g18.1 g18.2)) _ k20)) rfl rfl rfl ?_
        rintro _ w22 ⟨rfl, q21⟩
        have b_0 := b_0.gr q21
        have o12 := o12.gr q21
        have fB := fB.gr q21
        refine ol_nil ?_
        obtain ⟨x23, j24, h25⟩ := bs h
        refine cw_mid (fun ρ' w' => ∃ v26 : Value, ∃ o27 : Own k_api_Fate 55 w' w.heap.size v26 x23, ρ' 0 = .pointer (some ⟨G_0, 0, none⟩) ∧ ρ' 3 = v26 ∧ ρ' 10 = .int .i64 (List.length a0.cells : Int) ∧ ρ' 11 = .int .i64 s4.2 ∧ Blk w' G_0 139 [Seg.cell V0_0 R0_0.one, Seg.cell V0_1 R0_1.one, Seg.cell (.int .i64 a0.plan.at_), Seg.cell (.bool a0.off), Seg.cell (.bool a0.armed), Seg.cell (.int .i64 a0.left), Seg.cell (.int .i64 a0.steps)] ∧ Gr w w') ?_ ?_
        · have h := j24
          rcases is h with ⟨c29, h⟩ | ⟨c29, h⟩
          · refine cw_condT rfl c29 ?_
            refine cw_drawL 20 [fun vz wz => vz = (v11 : Value), fun vz wz => vz = (.int .i64 s4.2 : Value), fun vz wz => vz = (.pointer (some ⟨(sb V0_0), so V0_0 + Int.toNat s4.2 * 4, none⟩) : Value), fun vz wz => vz = (.pointer (some ⟨(sb V0_0), so V0_0 + Int.toNat s4.2 * 4, none⟩) : Value), fun vz wz => vz = (.pointer (some ⟨(sb V0_0), so V0_0 + Int.toNat s4.2 * 4 + 0, none⟩) : Value), fun vz wz => vz = (.int .u64 ((ix a0.cells s4.2).lasts) : Value), fun vz wz => vz = (.pointer (some ⟨(sb V0_0), so V0_0 + Int.toNat s4.2 * 4, none⟩) : Value), fun vz wz => vz = (.pointer (some ⟨(sb V0_0), so V0_0 + Int.toNat s4.2 * 4, none⟩) : Value), fun vz wz => vz = (.pointer (some ⟨(sb V0_0), so V0_0 + Int.toNat s4.2 * 4 + 3, none⟩) : Value), fun vz wz => vz = (.bool ((ix a0.cells s4.2).flushed) : Value), fun vz wz => vz = (.pointer (some ⟨(sb V0_0), so V0_0 + Int.toNat s4.2 * 4, none⟩) : Value), fun vz wz => vz = (.pointer (some ⟨(sb V0_0), so V0_0 + Int.toNat s4.2 * 4, none⟩) : Value), fun vz wz => vz = (.pointer (some ⟨(sb V0_0), so V0_0 + Int.toNat s4.2 * 4 + 2, none⟩) : Value), fun vz wz => vz = (.int .u64 ((ix a0.cells s4.2).sent) : Value), fun vz wz => vz = (.pointer (some ⟨(sb V0_0), so V0_0 + Int.toNat s4.2 * 4, none⟩) : Value), fun vz wz => vz = (.pointer (some ⟨(sb V0_0), so V0_0 + Int.toNat s4.2 * 4, none⟩) : Value), fun vz wz => vz = (.pointer (some ⟨(sb V0_0), so V0_0 + Int.toNat s4.2 * 4 + 1, none⟩) : Value), fun vz wz => vz = (.int .u64 ((ix a0.cells s4.2).stored) : Value), fun vz wz => vz = (aggV [Seg.cell (.int .i64 s4.2), Seg.cell (.int .u64 ((ix a0.cells s4.2).lasts)), Seg.cell (.bool ((ix a0.cells s4.2).flushed)), Seg.cell (.int .u64 ((ix a0.cells s4.2).sent)), Seg.cell (.int .u64 ((ix a0.cells s4.2).stored))] : Value), fun vz wz => ∃ v30 : Value, ∃ o32 : Own k_api_Fate 55 wz w.heap.size v30 [(⟨s4.2, (ix a0.cells s4.2).lasts, (ix a0.cells s4.2).flushed, (ix a0.cells s4.2).sent, (ix a0.cells s4.2).stored⟩ : S_api_Fate)], vz = (v30 : Value)] mo rfl ⟨fun _ _ _ h _ => h, fun _ _ _ h _ => h, fun _ _ _ h _ => h, fun _ _ _ h _ => h, fun _ _ _ h _ => h, fun _ _ _ h _ => h, fun _ _ _ h _ => h, fun _ _ _ h _ => h, fun _ _ _ h _ => h, fun _ _ _ h _ => h, fun _ _ _ h _ => h, fun _ _ _ h _ => h, fun _ _ _ h _ => h, fun _ _ _ h _ => h, fun _ _ _ h _ => h, fun _ _ _ h _ => h, fun _ _ _ h _ => h, fun _ _ _ h _ => h, fun _ _ _ h _ => h, fun _ _ _ ⟨v30, o32, h⟩ q => ⟨v30, o32.gr q, h⟩, trivial⟩ ?_ ?_
            · refine ⟨?_, ?_, ?_, ?_, ?_, ?_, ?_, ?_, ?_, ?_, ?_, ?_, ?_, ?_, ?_, ?_, ?_, ?_, ?_, ?_, trivial⟩
              · intro ρz wz hz hk hd
                exact sk_val (v := v11) (by exact xr_move rfl ((hk 3 rfl).trans e3)) rfl rfl
              · intro ρz wz hz hk hd
                exact sk_val (v := .int .i64 s4.2) (by exact xr_move rfl ((hk 4 rfl).trans rfl)) rfl rfl
              · intro ρz wz hz hk hd
                exact sk_val (by exact xr_move rfl ((hk 5 rfl).trans rfl)) rfl rfl
              · intro ρz wz hz hk hd
                have d24 := hd 2 rfl 24 rfl
                exact sk_val (by exact xr_nilCheck rfl d24) rfl rfl
              · intro ρz wz hz hk hd
                have d25 := hd 3 rfl 25 rfl
                exact sk_val (by exact xr_fieldAddr (p := so V0_0 + Int.toNat s4.2 * 4) (q := 0) rfl fl142_0 d25) rfl rfl
              · intro ρz wz hz hk hd
                have d26 := hd 4 rfl 26 rfl
                exact sk_val (v := .int .u64 ((ix a0.cells s4.2).lasts)) (by exact xr_load1 (v := .int .u64 ((ix a0.cells s4.2).lasts)) rfl ag22 d26 (At.segs (ss := segs_pmem_cell (ix a0.cells s4.2)) ((R0_0.gr (fB.gr hz)).elem g18.1 g18.2) 0 1 rfl)) rfl rfl
              · intro ρz wz hz hk hd
                exact sk_val (by exact xr_move rfl ((hk 5 rfl).trans rfl)) rfl rfl
              · intro ρz wz hz hk hd
                have d28 := hd 6 rfl 28 rfl
                exact sk_val (by exact xr_nilCheck rfl d28) rfl rfl
              · intro ρz wz hz hk hd
                have d29 := hd 7 rfl 29 rfl
                exact sk_val (by exact xr_fieldAddr (p := so V0_0 + Int.toNat s4.2 * 4) (q := 3) rfl fl142_3 d29) rfl rfl
              · intro ρz wz hz hk hd
                have d30 := hd 8 rfl 30 rfl
                exact sk_val (v := .bool ((ix a0.cells s4.2).flushed)) (by exact xr_load1 (v := .bool ((ix a0.cells s4.2).flushed)) rfl ag4 d30 (At.segs (ss := segs_pmem_cell (ix a0.cells s4.2)) ((R0_0.gr (fB.gr hz)).elem g18.1 g18.2) 3 1 rfl)) rfl rfl
              · intro ρz wz hz hk hd
                exact sk_val (by exact xr_move rfl ((hk 5 rfl).trans rfl)) rfl rfl
              · intro ρz wz hz hk hd
                have d32 := hd 10 rfl 32 rfl
                exact sk_val (by exact xr_nilCheck rfl d32) rfl rfl
              · intro ρz wz hz hk hd
                have d33 := hd 11 rfl 33 rfl
                exact sk_val (by exact xr_fieldAddr (p := so V0_0 + Int.toNat s4.2 * 4) (q := 2) rfl fl142_2 d33) rfl rfl
              · intro ρz wz hz hk hd
                have d34 := hd 12 rfl 34 rfl
                exact sk_val (v := .int .u64 ((ix a0.cells s4.2).sent)) (by exact xr_load1 (v := .int .u64 ((ix a0.cells s4.2).sent)) rfl ag22 d34 (At.segs (ss := segs_pmem_cell (ix a0.cells s4.2)) ((R0_0.gr (fB.gr hz)).elem g18.1 g18.2) 2 1 rfl)) rfl rfl
              · intro ρz wz hz hk hd
                exact sk_val (by exact xr_move rfl ((hk 5 rfl).trans rfl)) rfl rfl
              · intro ρz wz hz hk hd
                have d36 := hd 14 rfl 36 rfl
                exact sk_val (by exact xr_nilCheck rfl d36) rfl rfl
              · intro ρz wz hz hk hd
                have d37 := hd 15 rfl 37 rfl
                exact sk_val (by exact xr_fieldAddr (p := so V0_0 + Int.toNat s4.2 * 4) (q := 1) rfl fl142_1 d37) rfl rfl
              · intro ρz wz hz hk hd
                have d38 := hd 16 rfl 38 rfl
                exact sk_val (v := .int .u64 ((ix a0.cells s4.2).stored)) (by exact xr_load1 (v := .int .u64 ((ix a0.cells s4.2).stored)) rfl ag22 d38 (At.segs (ss := segs_pmem_cell (ix a0.cells s4.2)) ((R0_0.gr (fB.gr hz)).elem g18.1 g18.2) 1 1 rfl)) rfl rfl
              · intro ρz wz hz hk hd
                have d23 := hd 1 rfl 23 rfl
                have d27 := hd 5 rfl 27 rfl
                have d31 := hd 9 rfl 31 rfl
                have d35 := hd 13 rfl 35 rfl
                have d39 := hd 17 rfl 39 rfl
                exact sk_val (by exact xr_build (vals := [(0, .int .i64 s4.2), (1, .int .u64 ((ix a0.cells s4.2).lasts)), (2, .bool ((ix a0.cells s4.2).flushed)), (3, .int .u64 ((ix a0.cells s4.2).sent)), (4, .int .u64 ((ix a0.cells s4.2).stored))]) rfl ⟨rfl, d23, ⟨rfl, d27, ⟨rfl, d31, ⟨rfl, d35, ⟨rfl, d39, trivial⟩⟩⟩⟩⟩ (bl55_0_1_2_3_4 s4.2 ((ix a0.cells s4.2).lasts) ((ix a0.cells s4.2).flushed) ((ix a0.cells s4.2).sent) ((ix a0.cells s4.2).stored) _)) rfl rfl
              · intro ρz wz hz hk hd
                have d40 := hd 18 rfl 40 rfl
                refine sk_op (by exact opv_buildRec (K := k_api_Fate) (z := (⟨s4.2, (ix a0.cells s4.2).lasts, (ix a0.cells s4.2).flushed, (ix a0.cells s4.2).sent, (ix a0.cells s4.2).stored⟩ : S_api_Fate)) rfl Try.underlying52 el55 rfl rfl d40 rfl (Nat.le_trans fB.size hz.size)) rfl ?_
                rintro v30 wy ⟨o32, q31, z33⟩
                exact ⟨⟨v30, o32, rfl⟩, q31⟩
            · intro ρ35 w36 q37 hk hd
              have e0 := (hk 0 rfl).trans e0
              have e10 := (hk 10 rfl).trans e10
              have e11 := (hk 11 rfl).trans e11
              have e22 := hd 0 rfl 22 rfl
              obtain ⟨v38, o39, e41⟩ := hd 19 rfl 41 rfl
              have b_0 := b_0.gr q37
              have o12 := o12.gr q37
              have fB := fB.gr q37
              obtain ⟨g45, h⟩ := gs h
              have f47 := off_ty b_0 o12 (by decide)
              have f48 := o12.geO
              refine ol_op (by exact opv_append (K := k_api_Fate) rfl Try.underlying52 el55 rfl rfl rfl e22 e41 o12 o39.rd g45 fB.size) rfl rfl rfl ?_
              rintro v41 w49 ⟨o42, q43, n44⟩
              have b_0 := b_0.wrO q43 f47
              have fB := fB.wrO q43 f48
              refine ol_val (v := v41) (by exact xr_assign rfl rfl) rfl rfl rfl ?_
              refine ol_nil ?_
              obtain rfl := Option.some.inj h
              refine thn_i ?_
              exact ⟨v41, o42, e0, rfl, e10, e11, b_0, fB⟩
          · refine cw_condF rfl c29 ?_
            refine cw_skip ?_
            obtain rfl := Option.some.inj h
            refine thn_i ?_
            exact ⟨v11, o12, e0, e3, e10, e11, b_0, fB⟩
        · rintro ρ50 w51 ⟨v26, o27, e0, e3, e10, e11, b_0, fB⟩
          have h := h25
          refine blk_i ?_
          refine cw_region ?_
          refine ol_val (v := .int .i64 (IntKind.i64.wrap (s4.2 + 1))) (by exact xr_add rfl e11 rfl) rfl rfl rfl ?_
          refine ol_val (v := .int .i64 (IntKind.i64.wrap (s4.2 + 1))) (by exact xr_move rfl rfl) rfl rfl rfl ?_
          refine ol_nil ?_
          obtain rfl := Option.some.inj h
          refine lp_in ?_
          exact ⟨v26, o27, e0, e3, e10, rfl, b_0, fB⟩
      · refine cw_condF rfl c17 ?_
        refine cw_exit ?_
        repeat (first | with_reducible refine thn_e ?_ | with_reducible refine blk_e rfl ?_)
        obtain rfl := Option.some.inj h
        refine lp_exit ?_
        rintro rfl
        refine thn_x ?_
        exact ⟨v11, o12, e3, b_0, fB⟩
  · rintro ρ52 w53 ⟨v8, o9, e3, b_0, fB⟩
    have h := h7
    refine cw_seq ?_
    refine cw_region ?_
    refine ol_val (v := v8) (by exact xr_move rfl e3) rfl rfl rfl ?_
    refine ol_val (v := v8) (by exact xr_assign rfl rfl) rfl rfl rfl ?_
    refine ol_nil ?_
    refine cw_ret ?_
    repeat (first | with_reducible refine thn_r ?_ | with_reducible refine blk_r ?_)
    obtain rfl := Option.some.inj h
    refine fin_ret1 Try.results40 rfl ?_
    exact ⟨_, rfl, v8, o9, rfl, fB⟩
end Go.Proofs.Ytklhbaghbmndeaa

/- (*rickyard/pmem.Device).Up: its model, and that the Go function computes it: written by gen.py. -/
set_option linter.unusedVariables false
namespace Go.Proofs.Ytklhbaghbmndeaa
open Go Go.Xw
def pmem_Device_Up.f (fu : Nat) (a0 : S_pmem_Device) : Option Bool := some ((!a0.off))
set_option maxRecDepth 100000 in
set_option maxHeartbeats 400000 in
theorem pmem_Device_Up.ok (fu : Nat) (w : World) (a0 : S_pmem_Device) (G_0 : Nat) (V0_0 : Value) (R0_0 : Rd k_pmem_cell w V0_0 a0.cells) (V0_1 : Value) (R0_1 : Rd (kI .i64) w V0_1 a0.plan.list) (b_0 : Blk w G_0 139 [Seg.cell V0_0 R0_0.one, Seg.cell V0_1 R0_1.one, Seg.cell (.int .i64 a0.plan.at_), Seg.cell (.bool a0.off), Seg.cell (.bool a0.armed), Seg.cell (.int .i64 a0.left), Seg.cell (.int .i64 a0.steps)]) (r : Bool) (h : pmem_Device_Up.f fu a0 = some r) :
    Calls Try.prog 39 (([.pointer (some ⟨G_0, 0, none⟩)] : List Value).toArray) w (fun e w' => ∃ v, e = .returned v ∧ v = .bool r ∧ Gr w w') := by
  unfold pmem_Device_Up.f at h
  have fB : Gr w w := Fr.refl _ _
  refine calls_cw Try.func39 rfl Try.ntmps39 rfl ?_
  refine cw_seq ?_
  refine cw_region ?_
  refine ol_val (v := .bool false) (by exact xr_assign rfl rfl) rfl rfl rfl ?_
  refine ol_nil ?_
  refine cw_seq ?_
  refine cw_region ?_
  refine ol_val (v := .pointer (some ⟨G_0, 0, none⟩)) (by exact xr_move rfl rfl) rfl rfl rfl ?_
  refine ol_val (v := .pointer (some ⟨G_0, 0, none⟩)) (by exact xr_nilCheck rfl rfl) rfl rfl rfl ?_
  refine ol_val (v := .pointer (some ⟨G_0, 3, none⟩)) (by exact xr_fieldAddr (p := 0) (q := 3) rfl fl139_2 rfl) rfl rfl rfl ?_
  refine ol_val (v := .bool a0.off) (by exact xr_load1 (v := .bool a0.off) rfl ag4 rfl (b_0.seg 3 rfl rfl)) rfl rfl rfl ?_
  refine ol_val (v := .bool (!a0.off)) (by exact xr_not rfl rfl) rfl rfl rfl ?_
  refine ol_val (v := .bool (!a0.off)) (by exact xr_assign rfl rfl) rfl rfl rfl ?_
  refine ol_nil ?_
  refine cw_ret ?_
  repeat (first | with_reducible refine thn_r ?_ | with_reducible refine blk_r ?_)
  obtain rfl := Option.some.inj h
  refine fin_ret1 Try.results39 rfl ?_
  exact ⟨_, rfl, rfl, fB⟩
end Go.Proofs.Ytklhbaghbmndeaa

/- (*rickyard/pmem.Device).Steps: its model, and that the Go function computes it: written by gen.py. -/
set_option linter.unusedVariables false
namespace Go.Proofs.Ytklhbaghbmndeaa
open Go Go.Xw
def pmem_Device_Steps.f (fu : Nat) (a0 : S_pmem_Device) : Option Int := some (a0.steps)
set_option maxRecDepth 100000 in
set_option maxHeartbeats 400000 in
theorem pmem_Device_Steps.ok (fu : Nat) (w : World) (a0 : S_pmem_Device) (G_0 : Nat) (V0_0 : Value) (R0_0 : Rd k_pmem_cell w V0_0 a0.cells) (V0_1 : Value) (R0_1 : Rd (kI .i64) w V0_1 a0.plan.list) (b_0 : Blk w G_0 139 [Seg.cell V0_0 R0_0.one, Seg.cell V0_1 R0_1.one, Seg.cell (.int .i64 a0.plan.at_), Seg.cell (.bool a0.off), Seg.cell (.bool a0.armed), Seg.cell (.int .i64 a0.left), Seg.cell (.int .i64 a0.steps)]) (r : Int) (h : pmem_Device_Steps.f fu a0 = some r) :
    Calls Try.prog 37 (([.pointer (some ⟨G_0, 0, none⟩)] : List Value).toArray) w (fun e w' => ∃ v, e = .returned v ∧ v = .int .i64 r ∧ Gr w w') := by
  unfold pmem_Device_Steps.f at h
  have fB : Gr w w := Fr.refl _ _
  refine calls_cw Try.func37 rfl Try.ntmps37 rfl ?_
  refine cw_seq ?_
  refine cw_region ?_
  refine ol_val (v := .int .i64 0) (by exact xr_assign rfl rfl) rfl rfl rfl ?_
  refine ol_nil ?_
  refine cw_seq ?_
  refine cw_region ?_
  refine ol_val (v := .pointer (some ⟨G_0, 0, none⟩)) (by exact xr_move rfl rfl) rfl rfl rfl ?_
  refine ol_val (v := .pointer (some ⟨G_0, 0, none⟩)) (by exact xr_nilCheck rfl rfl) rfl rfl rfl ?_
  refine ol_val (v := .pointer (some ⟨G_0, 6, none⟩)) (by exact xr_fieldAddr (p := 0) (q := 6) rfl fl139_5 rfl) rfl rfl rfl ?_
  refine ol_val (v := .int .i64 a0.steps) (by exact xr_load1 (v := .int .i64 a0.steps) rfl ag3 rfl (b_0.seg 6 rfl rfl)) rfl rfl rfl ?_
  refine ol_val (v := .int .i64 a0.steps) (by exact xr_assign rfl rfl) rfl rfl rfl ?_
  refine ol_nil ?_
  refine cw_ret ?_
  repeat (first | with_reducible refine thn_r ?_ | with_reducible refine blk_r ?_)
  obtain rfl := Option.some.inj h
  refine fin_ret1 Try.results37 rfl ?_
  exact ⟨_, rfl, rfl, fB⟩
end Go.Proofs.Ytklhbaghbmndeaa

/- rickyard/octet.Words: its model, and that the Go function computes it: written by gen.py. -/
set_option linter.unusedVariables false
namespace Go.Proofs.Ytklhbaghbmndeaa
open Go Go.Xw
def octet_Words.s0 (fu : Nat) : ((List Int) × (List Int)) → Option (Sum (List Int) ((List Int) × (List Int))) := fun s4 => (if (decide ((List.length s4.1 : Int) ≥ 8)) = true then ((octet_Read.f fu s4.1 : Option Int).bind fun t21 => (if List.length s4.2 + List.length [t21] ≤ LIM then (if (8 : Int) ≤ (List.length s4.1 : Int) then some (Sum.inr ((cut s4.1 8 (List.length s4.1 : Int)), (s4.2 ++ [t21]))) else none) else none)) else some (Sum.inl (s4.2)))
def octet_Words.f (fu : Nat) (a0 : List Int) : Option (List Int) := ((loopM (octet_Words.s0 fu) fu (a0, [])).bind fun e5 => some (e5))
set_option maxRecDepth 100000 in
set_option maxHeartbeats 400000 in
theorem octet_Words.ok (fu : Nat) (w : World) (a0 : List Int) (V0_0 : Value) (R0_0 : Rd (kI .u8) w V0_0 a0) (r : (List Int)) (h : octet_Words.f fu a0 = some r) :
    Calls Try.prog 99 (([V0_0] : List Value).toArray) w (fun e w' => ∃ v, e = .returned v ∧ ∃ u1 : Value, ∃ o2 : Own (kI .u64) 22 w' w.heap.size u1 r, v = u1 ∧ Gr w w') := by
  unfold octet_Words.f at h
  have fB : Gr w w := Fr.refl _ _
  refine calls_cw Try.func99 rfl Try.ntmps99 rfl ?_
  refine cw_seq ?_
  refine cw_region ?_
  refine ol_val (v := .slice none 0 0) (by exact xr_assign rfl rfl) rfl rfl rfl ?_
  refine ol_nil ?_
  refine cw_seq ?_
  refine cw_region ?_
  refine ol_val (v := .slice none 0 0) (by exact xr_assign rfl rfl) rfl rfl rfl ?_
  refine ol_nil ?_
  refine cw_seq ?_
  obtain ⟨e5, l6, h7⟩ := bs h
  refine cw_mid (fun ρ' w' => ∃ v8 : Value, ∃ o9 : Own (kI .u64) 22 w' w.heap.size v8 e5, ρ' 3 = v8 ∧ Gr w w') ?_ ?_
  · refine cw_block ?_
    refine cw_round (fun (s4 : (List Int) × (List Int)) ρ' w' => ∃ v11 : Value, ∃ v13 : Value, ∃ o14 : Own (kI .u64) 22 w' w.heap.size v13 s4.2, ∃ r12 : Rd (kI .u8) w' v11 s4.1, OffRV v11 s4.1 v13 ∧ ρ' 0 = v11 ∧ ρ' 3 = v13 ∧ Gr w w') l6 ?_ ?_
    · skip
      exact ⟨V0_0, (.slice none 0 0), Own.nil _ _ _ _, (R0_0.gr fB), (OffRV.nil _ _), rfl, rfl, fB⟩
    · rintro s4 x19 ρ17 w18 ⟨v11, v13, o14, r12, a16, e0, e3, fB⟩ h
      unfold octet_Words.s0 at h
      refine cw_seq ?_
      refine cw_seq ?_
      refine cw_region ?_
      refine ol_val (v := v11) (by exact xr_move rfl e0) rfl rfl rfl ?_
      refine ol_val (v := .int .i64 (List.length s4.1 : Int)) (by exact xr_lenR rfl Try.underlying43 rfl r12) rfl rfl rfl ?_
      refine ol_val (v := .bool (decide ((List.length s4.1 : Int) ≥ 8))) (by exact xr_geq rfl rfl rfl) rfl rfl rfl ?_
      refine ol_nil ?_
      rcases is h with ⟨c20, h⟩ | ⟨c20, h⟩
      · refine cw_condT rfl c20 ?_
        refine cw_skip ?_
        refine cw_block ?_
        refine cw_seq ?_
        refine cw_region ?_
        refine ol_val (v := v13) (by exact xr_move rfl e3) rfl rfl rfl ?_
        refine ol_val (v := v11) (by exact xr_move rfl e0) rfl rfl rfl ?_
        obtain ⟨t21, k22, h⟩ := bs h
        refine ol_op (by exact opv_call rfl cal109 (ac rfl an) (octet_Read.ok fu _ s4.1 v11 (r12) _ k22)) rfl rfl rfl ?_
        rintro _ w24 ⟨rfl, q23⟩
        have o14 := o14.gr q23
        have r12 := r12.gr q23
        have fB := fB.gr q23
        refine ol_op (by exact opv_buildSlice (K := (kI .u64)) (xs := [t21]) (vals := [.int .u64 t21]) rfl Try.underlying46 el22 rfl rfl ⟨rfl, rfl, trivial⟩ rfl rfl rfl fB.size) rfl rfl rfl ?_
        rintro v25 w30 ⟨o27, q26, z28⟩
        have a31 := OffV.new o14 z28
        have a32 := OffRV.new r12 z28 rfl
        have o14 := o14.gr q26
        have r12 := r12.gr q26
        have fB := fB.gr q26
        obtain ⟨g37, h⟩ := gs h
        have f39 := o14.geO
        refine ol_op (by exact opv_append (K := (kI .u64)) rfl Try.underlying46 el22 rfl rfl rfl rfl rfl o14 o27.rd g37 fB.size) rfl rfl rfl ?_
        rintro v33 w40 ⟨o34, q35, n36⟩
        have a41 := OffRV.app r12 a16 n36 rfl
        have fB := fB.wrO q35 f39
        have r12 := r12.wrV q35 a16
        refine ol_val (v := v33) (by exact xr_assign rfl rfl) rfl rfl rfl ?_
        refine ol_nil ?_
        refine cw_region ?_
        refine ol_val (v := v11) (by exact xr_move rfl e0) rfl rfl rfl ?_
        obtain ⟨g43, h⟩ := gs h
        refine ol_val (v := subv 1 v11 (Int.toNat 8) (List.length s4.1)) (by exact xr_slice_l (K := (kI .u8)) (v := v11) rfl Try.underlying43 sz5 rfl r12 rfl (by decide) g43) rfl rfl rfl ?_
        have r42 : Rd (kI .u8) w40 (subv 1 v11 (Int.toNat 8) (List.length s4.1)) (cut s4.1 8 (List.length s4.1 : Int)) := r12.cut (lo := 8) (hi := (List.length s4.1 : Int)) (by decide) g43 (Int.le_refl _)
        refine ol_val (v := subv 1 v11 (Int.toNat 8) (List.length s4.1)) (by exact xr_assign rfl rfl) rfl rfl rfl ?_
        refine ol_nil ?_
        refine blk_i ?_
        obtain rfl := Option.some.inj h
        refine lp_in ?_
        exact ⟨(subv 1 v11 (Int.toNat 8) (List.length s4.1)), v33, o34, r42, (OffRV.cut a41), rfl, rfl, fB⟩
      · refine cw_condF rfl c20 ?_
        refine cw_exit ?_
        repeat (first | with_reducible refine thn_e ?_ | with_reducible refine blk_e rfl ?_)
        obtain rfl := Option.some.inj h
        refine lp_exit ?_
        rintro rfl
        refine thn_x ?_
        exact ⟨v13, o14, e3, fB⟩
  · rintro ρ44 w45 ⟨v8, o9, e3, fB⟩
    have h := h7
    refine cw_seq ?_
    refine cw_region ?_
    refine ol_val (v := v8) (by exact xr_move rfl e3) rfl rfl rfl ?_
    refine ol_val (v := v8) (by exact xr_assign rfl rfl) rfl rfl rfl ?_
    refine ol_nil ?_
    refine cw_ret ?_
    repeat (first | with_reducible refine thn_r ?_ | with_reducible refine blk_r ?_)
    obtain rfl := Option.some.inj h
    refine fin_ret1 Try.results99 rfl ?_
    exact ⟨_, rfl, v8, o9, rfl, fB⟩
end Go.Proofs.Ytklhbaghbmndeaa

/- rickyard/pmem.From: its model, and that the Go function computes it: written by gen.py. -/
set_option linter.unusedVariables false
namespace Go.Proofs.Ytklhbaghbmndeaa
open Go Go.Xw
def pmem_From.s0 (fu : Nat) (t11 : (List Int)) : (Int × (List S_pmem_cell)) → Option (Sum (List S_pmem_cell) (Int × (List S_pmem_cell))) := fun s18 => (if (decide (s18.1 < (List.length t11 : Int))) = true then (if 0 ≤ s18.1 ∧ s18.1 < (List.length t11 : Int) then (if List.length s18.2 + List.length [(⟨(ix t11 s18.1), (ix t11 s18.1), (0 : Int), false⟩ : S_pmem_cell)] ≤ LIM then some (Sum.inr ((IntKind.i64.wrap (s18.1 + 1)), (s18.2 ++ [(⟨(ix t11 s18.1), (ix t11 s18.1), (0 : Int), false⟩ : S_pmem_cell)]))) else none) else none) else some (Sum.inl (s18.2)))
def pmem_From.f (fu : Nat) (a0 : List Int) : Option S_pmem_Device := (if 0 ≤ (IntKind.i64.wrap ((mnI (IntKind.i64.wrap (Int.tdiv (List.length a0 : Int) 64)) 4096) * 64)) ∧ (IntKind.i64.wrap ((mnI (IntKind.i64.wrap (Int.tdiv (List.length a0 : Int) 64)) 4096) * 64)) ≤ (List.length a0 : Int) then ((octet_Words.f fu (cut a0 0 (IntKind.i64.wrap ((mnI (IntKind.i64.wrap (Int.tdiv (List.length a0 : Int) 64)) 4096) * 64))) : Option (List Int)).bind fun t11 => ((loopM (pmem_From.s0 fu t11) fu (0, [])).bind fun e19 => some ((⟨e19, (⟨[], (0 : Int)⟩ : S_pmem_plan), false, false, (0 : Int), (0 : Int)⟩ : S_pmem_Device)))) else none)
set_option maxRecDepth 100000 in
set_option maxHeartbeats 400000 in
theorem pmem_From.ok (fu : Nat) (w : World) (a0 : List Int) (V0_0 : Value) (R0_0 : Rd (kI .u8) w V0_0 a0) (r : S_pmem_Device) (h : pmem_From.f fu a0 = some r) :
    Calls Try.prog 48 (([V0_0] : List Value).toArray) w (fun e w' => ∃ v, e = .returned v ∧ ∃ u1 : Value, ∃ p2 : ∃ G9 : Nat, ∃ U0 : Value, ∃ U1 : Value, ∃ O0 : Own k_pmem_cell 142 w' w.heap.size U0 r.cells, ∃ O1 : Own (kI .i64) 3 w' w.heap.size U1 r.plan.list, u1 = .pointer (some ⟨G9, 0, none⟩) ∧ w.heap.size ≤ G9 ∧ Blk w' G9 139 [Seg.cell U0 O0.one, Seg.cell U1 O1.one, Seg.cell (.int .i64 r.plan.at_), Seg.cell (.bool r.off), Seg.cell (.bool r.armed), Seg.cell (.int .i64 r.left), Seg.cell (.int .i64 r.steps)], v = u1 ∧ Gr w w') := by
  unfold pmem_From.f at h
  have fB : Gr w w := Fr.refl _ _
  refine calls_cw Try.func48 rfl Try.ntmps48 rfl ?_
  refine cw_seq ?_
  refine cw_region ?_
  refine ol_val (v := .pointer none) (by exact xr_assign rfl rfl) rfl rfl rfl ?_
  refine ol_nil ?_
  refine cw_seq ?_
  refine cw_region ?_
  refine ol_val (v := V0_0) (by exact xr_move rfl rfl) rfl rfl rfl ?_
  refine ol_val (v := .int .i64 (List.length a0 : Int)) (by exact xr_lenR rfl Try.underlying43 rfl (R0_0.gr fB)) rfl rfl rfl ?_
  refine ol_val (v := .int .i64 (IntKind.i64.wrap (Int.tdiv (List.length a0 : Int) 64))) (by exact xr_quo rfl rfl rfl (by decide)) rfl rfl rfl ?_
  refine ol_val (v := .int .i64 (mnI (IntKind.i64.wrap (Int.tdiv (List.length a0 : Int) 64)) 4096)) (by exact xr_min2 rfl rfl rfl) rfl rfl rfl ?_
  refine ol_val (v := .int .i64 (mnI (IntKind.i64.wrap (Int.tdiv (List.length a0 : Int) 64)) 4096)) (by exact xr_assign rfl rfl) rfl rfl rfl ?_
  refine ol_nil ?_
  refine cw_seq ?_
  refine cw_region ?_
  refine ol_val (v := aggV [Seg.cell (.slice none 0 0) (by rfl), Seg.cell (.slice none 0 0) (by rfl), Seg.cell (.int .i64 (0 : Int)), Seg.cell (.bool false), Seg.cell (.bool false), Seg.cell (.int .i64 (0 : Int)), Seg.cell (.int .i64 (0 : Int))]) (by exact xr_build (vals := []) rfl trivial (bl139_ _)) rfl rfl rfl ?_
  refine ol_op (by exact opv_box (ss := [Seg.cell (.slice none 0 0) (by rfl), Seg.cell (.slice none 0 0) (by rfl), Seg.cell (.int .i64 (0 : Int)), Seg.cell (.bool false), Seg.cell (.bool false), Seg.cell (.int .i64 (0 : Int)), Seg.cell (.int .i64 (0 : Int))]) rfl rfl rfl) rfl rfl rfl ?_
  rintro _ w8 ⟨G3, rfl, b4, q5, z6⟩
  have z6 := Nat.le_trans fB.size z6
  have fB := fB.gr q5
  refine ol_val (v := .pointer (some ⟨G3, 0, none⟩)) (by exact xr_assign rfl rfl) rfl rfl rfl ?_
  refine ol_nil ?_
  refine cw_seq ?_
  refine cw_seq ?_
  refine cw_region ?_
  refine ol_val (v := V0_0) (by exact xr_move rfl rfl) rfl rfl rfl ?_
  refine ol_val (v := .int .i64 (mnI (IntKind.i64.wrap (Int.tdiv (List.length a0 : Int) 64)) 4096)) (by exact xr_move rfl rfl) rfl rfl rfl ?_
  refine ol_val (v := .int .i64 (IntKind.i64.wrap ((mnI (IntKind.i64.wrap (Int.tdiv (List.length a0 : Int) 64)) 4096) * 64))) (by exact xr_mul rfl rfl rfl) rfl rfl rfl ?_
  obtain ⟨g10, h⟩ := gs h
  refine ol_val (v := subv 1 V0_0 0 (Int.toNat (IntKind.i64.wrap ((mnI (IntKind.i64.wrap (Int.tdiv (List.length a0 : Int) 64)) 4096) * 64)))) (by exact xr_slice_h (K := (kI .u8)) (v := V0_0) rfl Try.underlying43 sz5 rfl (R0_0.gr fB) rfl g10.1 g10.2) rfl rfl rfl ?_
  have r9 : Rd (kI .u8) w8 (subv 1 V0_0 0 (Int.toNat (IntKind.i64.wrap ((mnI (IntKind.i64.wrap (Int.tdiv (List.length a0 : Int) 64)) 4096) * 64)))) (cut a0 0 (IntKind.i64.wrap ((mnI (IntKind.i64.wrap (Int.tdiv (List.length a0 : Int) 64)) 4096) * 64))) := (R0_0.gr fB).cut (lo := 0) (hi := (IntKind.i64.wrap ((mnI (IntKind.i64.wrap (Int.tdiv (List.length a0 : Int) 64)) 4096) * 64))) (by decide) g10.1 g10.2
  obtain ⟨t11, k12, h⟩ := bs h
  refine ol_op (by exact opv_call rfl cal99 (ac rfl an) (octet_Words.ok fu _ (cut a0 0 (IntKind.i64.wrap ((mnI (IntKind.i64.wrap (Int.tdiv (List.length a0 : Int) 64)) 4096) * 64))) (subv 1 V0_0 0 (Int.toNat (IntKind.i64.wrap ((mnI (IntKind.i64.wrap (Int.tdiv (List.length a0 : Int) 64)) 4096) * 64)))) (r9) _ k12)) rfl rfl rfl ?_
  rintro u13 w17 ⟨_, o14, rfl, q16⟩
  have o14 := Own.base o14 fB.size
  have b4 := b4.gr q16
  have fB := fB.gr q16
  refine ol_val (v := .int .i64 (List.length t11 : Int)) (by exact xr_lenR rfl Try.underlying46 rfl o14.rd) rfl rfl rfl ?_
  refine ol_val (v := .int .i64 0) (by exact xr_move rfl rfl) rfl rfl rfl ?_
  refine ol_nil ?_
  obtain ⟨e19, l20, h21⟩ := bs h
  refine cw_mid (fun ρ' w' => ∃ v22 : Value, ∃ o23 : Own k_pmem_cell 142 w' w.heap.size v22 e19, ρ' 4 = .pointer (some ⟨G3, 0, none⟩) ∧ Blk w' G3 139 [Seg.cell v22 o23.one, Seg.cell (.slice none 0 0) (by rfl), Seg.cell (.int .i64 (0 : Int)), Seg.cell (.bool false), Seg.cell (.bool false), Seg.cell (.int .i64 (0 : Int)), Seg.cell (.int .i64 (0 : Int))] ∧ Gr w w') ?_ ?_
  · refine cw_block ?_
    refine cw_round (fun (s18 : Int × (List S_pmem_cell)) ρ' w' => ∃ v25 : Value, ∃ o14 : Own (kI .u64) 22 w' w.heap.size u13 t11, ∃ o26 : Own k_pmem_cell 142 w' w.heap.size v25 s18.2, ρ' 4 = .pointer (some ⟨G3, 0, none⟩) ∧ ρ' 17 = u13 ∧ ρ' 18 = .int .i64 (List.length t11 : Int) ∧ ρ' 19 = .int .i64 s18.1 ∧ Blk w' G3 139 [Seg.cell v25 o26.one, Seg.cell (.slice none 0 0) (by rfl), Seg.cell (.int .i64 (0 : Int)), Seg.cell (.bool false), Seg.cell (.bool false), Seg.cell (.int .i64 (0 : Int)), Seg.cell (.int .i64 (0 : Int))] ∧ Gr w w') l20 ?_ ?_
    · skip
      exact ⟨(.slice none 0 0), o14, Own.nil _ _ _ _, rfl, rfl, rfl, rfl, b4, fB⟩
    · rintro s18 x30 ρ28 w29 ⟨v25, o14, o26, e4, e17, e18, e19, b4, fB⟩ h
      unfold pmem_From.s0 at h
      refine cw_seq ?_
      refine cw_region ?_
      refine ol_val (v := .bool (decide (s18.1 < (List.length t11 : Int)))) (by exact xr_lss rfl e19 e18) rfl rfl rfl ?_
      refine ol_nil ?_
      refine cw_seq ?_
      rcases is h with ⟨c31, h⟩ | ⟨c31, h⟩
      · refine cw_condT rfl c31 ?_
        refine cw_skip ?_
        refine cw_seq ?_
        refine cw_block ?_
        refine cw_seq ?_
        refine cw_region ?_
        obtain ⟨g32, h⟩ := gs h
        refine ol_val (v := .pointer (some ⟨(sb u13), so u13 + Int.toNat s18.1 * 1, none⟩)) (by exact xr_indexR (K := (kI .u64)) (v := u13) rfl Try.underlying46 sz22 e17 o14.rd e19 g32.1 g32.2) rfl rfl rfl ?_
        refine ol_val (v := .int .u64 (ix t11 s18.1)) (by exact xr_load1 (v := .int .u64 (ix t11 s18.1)) rfl ag22 rfl (o14.rd.elem g32.1 g32.2)) rfl rfl rfl ?_
        refine ol_val (v := .int .u64 (ix t11 s18.1)) (by exact xr_assign rfl rfl) rfl rfl rfl ?_
        refine ol_nil ?_
        refine cw_region ?_
        refine ol_val (v := .pointer (some ⟨G3, 0, none⟩)) (by exact xr_move rfl e4) rfl rfl rfl ?_
        refine ol_val (v := .pointer (some ⟨G3, 0, none⟩)) (by exact xr_move rfl e4) rfl rfl rfl ?_
        refine ol_val (v := .pointer (some ⟨G3, 0, none⟩)) (by exact xr_nilCheck rfl rfl) rfl rfl rfl ?_
        refine ol_val (v := .pointer (some ⟨G3, 0, none⟩)) (by exact xr_fieldAddr (p := 0) (q := 0) rfl fl139_0 rfl) rfl rfl rfl ?_
        refine ol_val (v := v25) (by exact xr_load1 (v := v25) rfl ag135 rfl (b4.seg 0 rfl rfl)) rfl rfl rfl ?_
        refine ol_val (v := .int .u64 (ix t11 s18.1)) (by exact xr_move rfl rfl) rfl rfl rfl ?_
        refine ol_val (v := .int .u64 (ix t11 s18.1)) (by exact xr_move rfl rfl) rfl rfl rfl ?_
        refine ol_val (v := aggV [Seg.cell (.int .u64 (ix t11 s18.1)), Seg.cell (.int .u64 (ix t11 s18.1)), Seg.cell (.int .u64 (0 : Int)), Seg.cell (.bool false)]) (by exact xr_build (vals := [(0, .int .u64 (ix t11 s18.1)), (1, .int .u64 (ix t11 s18.1))]) rfl ⟨rfl, rfl, ⟨rfl, rfl, trivial⟩⟩ (bl142_0_1 (ix t11 s18.1) (ix t11 s18.1) _)) rfl rfl rfl ?_
        refine ol_op (by exact opv_buildRec (K := k_pmem_cell) (z := (⟨(ix t11 s18.1), (ix t11 s18.1), (0 : Int), false⟩ : S_pmem_cell)) rfl Try.underlying135 el142 rfl rfl rfl rfl fB.size) rfl rfl rfl ?_
        rintro v33 w38 ⟨o35, q34, z36⟩
        have a39 := OffV.new o26 z36
        have b4 := b4.gr q34
        have o14 := o14.gr q34
        have o26 := o26.gr q34
        have fB := fB.gr q34
        obtain ⟨g44, h⟩ := gs h
        have f46 := off_ty b4 o26 (by decide)
        have f47 := OffV.ty o14 o26 (by decide)
        have f48 := o26.geO
        refine ol_op (by exact opv_append (K := k_pmem_cell) rfl Try.underlying135 el142 rfl rfl rfl rfl rfl o26 o35.rd g44 fB.size) rfl rfl rfl ?_
        rintro v40 w49 ⟨o41, q42, n43⟩
        have b4 := b4.wrO q42 f46
        have o14 := o14.wrV q42 f47
        have fB := fB.wrO q42 f48
        refine ol_val (v := .pointer (some ⟨G3, 0, none⟩)) (by exact xr_nilCheck rfl rfl) rfl rfl rfl ?_
        refine ol_val (v := .pointer (some ⟨G3, 0, none⟩)) (by exact xr_fieldAddr (p := 0) (q := 0) rfl fl139_0 rfl) rfl rfl rfl ?_
        have f51 := off_ty b4 o14 (by decide)
        have f52 := off_ty b4 o41 (by decide)
        refine ol_op0 (by exact opv_store (ss' := [Seg.cell v40 o41.one, Seg.cell (.slice none 0 0) (by rfl), Seg.cell (.int .i64 (0 : Int)), Seg.cell (.bool false), Seg.cell (.bool false), Seg.cell (.int .i64 (0 : Int)), Seg.cell (.int .i64 (0 : Int))]) (xs := cellsOf [Seg.cell v40 o41.one]) rfl sz135 rfl rfl (cells_one o41.one) (len_cellsOf _) (one_cellsOf _) b4 (Spl.segs _ 0 1 [Seg.cell v40 o41.one] rfl rfl)) rfl rfl ?_
        rintro _ w53 ⟨b4, q50⟩
        have o14 := o14.wr q50 f51
        have o41 := o41.wr q50 f52
        have fB := fB.wr q50 z6
        refine ol_nil ?_
        refine blk_i ?_
        refine cw_region ?_
        refine ol_val (v := .int .i64 (IntKind.i64.wrap (s18.1 + 1))) (by exact xr_add rfl e19 rfl) rfl rfl rfl ?_
        refine ol_val (v := .int .i64 (IntKind.i64.wrap (s18.1 + 1))) (by exact xr_move rfl rfl) rfl rfl rfl ?_
        refine ol_nil ?_
        obtain rfl := Option.some.inj h
        refine lp_in ?_
        exact ⟨v40, o14, o41, e4, e17, e18, rfl, b4, fB⟩
      · refine cw_condF rfl c31 ?_
        refine cw_exit ?_
        repeat (first | with_reducible refine thn_e ?_ | with_reducible refine blk_e rfl ?_)
        obtain rfl := Option.some.inj h
        refine lp_exit ?_
        rintro rfl
        refine thn_x ?_
        exact ⟨v25, o26, e4, b4, fB⟩
  · rintro ρ54 w55 ⟨v22, o23, e4, b4, fB⟩
    have h := h21
    refine cw_seq ?_
    refine cw_region ?_
    refine ol_val (v := .pointer (some ⟨G3, 0, none⟩)) (by exact xr_move rfl e4) rfl rfl rfl ?_
    refine ol_val (v := .pointer (some ⟨G3, 0, none⟩)) (by exact xr_assign rfl rfl) rfl rfl rfl ?_
    refine ol_nil ?_
    refine cw_ret ?_
    repeat (first | with_reducible refine thn_r ?_ | with_reducible refine blk_r ?_)
    obtain rfl := Option.some.inj h
    refine fin_ret1 Try.results48 rfl ?_
    exact ⟨_, rfl, (.pointer (some ⟨G3, 0, none⟩)), ⟨G3, v22, (.slice none 0 0), o23, Own.nil _ _ _ _, rfl, z6, b4⟩, rfl, fB⟩
end Go.Proofs.Ytklhbaghbmndeaa

/- A device, in plain words: what is seen of it; what an act does. -/
set_option linter.unusedVariables false
set_option linter.unusedSimpArgs false
namespace Go.Proofs.Ytklhbaghbmndeaa.Pure
open Go Go.Xw
def octs (ws : List Int) : List Int := ws.flatMap fun w => lay w.toNat 8
theorem octs_len : ∀ ws : List Int, (octs ws).length = 8 * ws.length
  | [] => rfl
  | w :: ws => by
    have := octs_len ws
    simp only [octs, List.flatMap_cons, List.length_append, lay_len, List.length_cons] at *
    omega
theorem octs_append (a b : List Int) : octs (a ++ b) = octs a ++ octs b := by simp [octs]
theorem octs_one (w : Int) : octs [w] = lay w.toNat 8 := by simp [octs]
theorem octs_bytes (ws : List Int) : Bytes (octs ws) := by
  intro x hx
  obtain ⟨w, _, h⟩ := List.mem_flatMap.1 hx
  exact lay_bytes _ _ x h
theorem octets_eq {fu : Nat} {ws : List Int} (hv : ∀ w ∈ ws, U64 w) (hl : ws.length ≤ 100000) (hf : ws.length + 8 < fu) : octet_Octets.f fu ws = some (octs ws) := by
  unfold octet_Octets.f
  have : loopM (octet_Octets.s0 fu ws) fu ([], 0) = some (octs ws) := by
    refine loopM_run (S := fun j => (octs (ws.take j), (j : Int))) ws.length (by simp [octs]) ?_ ?_ (by omega)
    · intro j hj
      unfold octet_Octets.s0
      have w3 : IntKind.i64.wrap ((j : Int) + 1) = ((j + 1 : Nat) : Int) := by rw [w64 (by omega) (by omega)]; omega
      have c1 : 0 ≤ (j : Int) ∧ (j : Int) < (ws.length : Int) := by omega
      have hu := hv _ (List.getElem_mem hj)
      obtain ⟨v, hv'⟩ : ∃ v : Nat, ws[j] = (v : Int) := ⟨ws[j].toNat, by unfold U64 at hu; omega⟩
      simp only [w3]
      rw [decide_eq_true c1.2, if_pos rfl, if_pos c1, ix_nat hj, hv', show octet_Lay.f fu (v : Int) 8 = some (lay v 8) from olay_eq (n := 8) (by omega) (by omega)]
      simp only [Option.bind_some]
      rw [if_pos (by rw [octs_len, lay_len, List.length_take]; exact Nat.le_trans (by omega : _ ≤ 1000008) (by decide)), take_next hj, octs_append, octs_one, hv', Int.toNat_natCast]
    · unfold octet_Octets.s0
      rw [decide_eq_false (show ¬ ((ws.length : Int) < (ws.length : Int)) by omega), if_neg (by decide), List.take_length]
  rw [this]
  rfl
theorem set_next {l : List Int} {n j : Nat} {v : Int} (h : j < n) (hl : l.length = j) : (l ++ List.replicate (n - j) (0 : Int)).set j v = (l ++ [v]) ++ List.replicate (n - (j + 1)) (0 : Int) := by
  rw [List.set_append, if_neg (by omega), hl, Nat.sub_self, show n - j = n - (j + 1) + 1 from by omega, List.replicate_succ]
  simp
def lastsD (d : Dev) : List Int := d.cells.map fun c => c.lasts
def storedD (d : Dev) : List Int := d.cells.map fun c => c.stored
theorem image_eq {fu n : Nat} {B : Int} {d : Dev} (h : DevOk n B d) (hn : n ≤ 100000) (hf : n + 8 < fu) : pmem_Device_Image.f fu d = some (octs (lastsD d)) := by
  unfold pmem_Device_Image.f pmem_Device_octets__pmem_Device_Image_1.f
  have hl := h.len
  rw [if_pos ⟨by omega, Nat.le_trans (by omega : _ ≤ 100000) (by decide)⟩]
  have : loopM (pmem_Device_octets__pmem_Device_Image_1.s0 fu d) fu (0, (List.replicate (Int.toNat (List.length d.cells : Int)) (0 : Int))) = some (lastsD d) := by
    refine loopM_run (S := fun j => ((j : Int), (lastsD d).take j ++ List.replicate (d.cells.length - j) (0 : Int))) d.cells.length (by simp) ?_ ?_ (by omega)
    · intro j hj
      unfold pmem_Device_octets__pmem_Device_Image_1.s0
      have w3 : IntKind.i64.wrap ((j : Int) + 1) = ((j + 1 : Nat) : Int) := by rw [w64 (by omega) (by omega)]; omega
      have hjl : j < (lastsD d).length := by simpa [lastsD] using hj
      have ht : ((lastsD d).take j).length = j := by rw [List.length_take]; omega
      have c1 : 0 ≤ (j : Int) ∧ (j : Int) < (d.cells.length : Int) := by omega
      have c2 : 0 ≤ (j : Int) ∧ (j : Int) < (((lastsD d).take j ++ List.replicate (d.cells.length - j) (0 : Int)).length : Int) := by
        rw [List.length_append, ht, List.length_replicate]
        omega
      simp only [w3]
      rw [decide_eq_true c1.2, if_pos rfl, if_pos c1, ix_nat hj]
      simp only [pmem_Device_Image_1__r0.f, Option.bind_some]
      rw [if_pos c2, Int.toNat_natCast, set_next hj ht, take_next hjl]
      simp [lastsD]
    · unfold pmem_Device_octets__pmem_Device_Image_1.s0
      rw [decide_eq_false (show ¬ ((d.cells.length : Int) < (d.cells.length : Int)) by omega), if_neg (by decide), Nat.sub_self, List.take_of_length_le (by simp [lastsD])]
      simp
  rw [this]
  simp only [Option.bind_some]
  rw [octets_eq (fun w hw => by
    obtain ⟨c, hc, rfl⟩ := List.mem_map.1 hw
    exact (h.val c hc).1) (by simp [lastsD, hl, hn]) (by simp only [lastsD, List.length_map]; omega)]
  rfl
theorem view_eq {fu n : Nat} {B : Int} {d : Dev} (h : DevOk n B d) (hn : n ≤ 100000) (hf : n + 8 < fu) : pmem_Device_View.f fu d = some (octs (storedD d)) := by
  unfold pmem_Device_View.f pmem_Device_octets__pmem_Device_View_1.f
  have hl := h.len
  rw [if_pos ⟨by omega, Nat.le_trans (by omega : _ ≤ 100000) (by decide)⟩]
  have : loopM (pmem_Device_octets__pmem_Device_View_1.s0 fu d) fu (0, (List.replicate (Int.toNat (List.length d.cells : Int)) (0 : Int))) = some (storedD d) := by
    refine loopM_run (S := fun j => ((j : Int), (storedD d).take j ++ List.replicate (d.cells.length - j) (0 : Int))) d.cells.length (by simp) ?_ ?_ (by omega)
    · intro j hj
      unfold pmem_Device_octets__pmem_Device_View_1.s0
      have w3 : IntKind.i64.wrap ((j : Int) + 1) = ((j + 1 : Nat) : Int) := by rw [w64 (by omega) (by omega)]; omega
      have hjl : j < (storedD d).length := by simpa [storedD] using hj
      have ht : ((storedD d).take j).length = j := by rw [List.length_take]; omega
      have c1 : 0 ≤ (j : Int) ∧ (j : Int) < (d.cells.length : Int) := by omega
      have c2 : 0 ≤ (j : Int) ∧ (j : Int) < (((storedD d).take j ++ List.replicate (d.cells.length - j) (0 : Int)).length : Int) := by
        rw [List.length_append, ht, List.length_replicate]
        omega
      simp only [w3]
      rw [decide_eq_true c1.2, if_pos rfl, if_pos c1, ix_nat hj]
      simp only [pmem_Device_View_1__r0.f, Option.bind_some]
      rw [if_pos c2, Int.toNat_natCast, set_next hj ht, take_next hjl]
      simp [storedD]
    · unfold pmem_Device_octets__pmem_Device_View_1.s0
      rw [decide_eq_false (show ¬ ((d.cells.length : Int) < (d.cells.length : Int)) by omega), if_neg (by decide), Nat.sub_self, List.take_of_length_le (by simp [storedD])]
      simp
  rw [this]
  simp only [Option.bind_some]
  rw [octets_eq (fun w hw => by
    obtain ⟨c, hc, rfl⟩ := List.mem_map.1 hw
    exact (h.val c hc).2.1) (by simp [storedD, hl, hn]) (by simp only [storedD, List.length_map]; omega)]
  rfl
def fateD (d : Dev) (i : Nat) : S_api_Fate := ⟨(i : Int), (ix d.cells (i : Int)).lasts, (ix d.cells (i : Int)).flushed, (ix d.cells (i : Int)).sent, (ix d.cells (i : Int)).stored⟩
def fatesU (d : Dev) (j : Nat) : List S_api_Fate := ((List.range j).filter fun (i : Nat) => openC (ix d.cells (i : Int))).map (fateD d)
def fatesD (d : Dev) : List S_api_Fate := fatesU d d.cells.length
theorem fatesU_succ (d : Dev) (j : Nat) : fatesU d (j + 1) = fatesU d j ++ (if openC (ix d.cells (j : Int)) = true then [fateD d j] else []) := by
  unfold fatesU
  rw [List.range_succ, List.filter_append, List.map_append]
  cases h : openC (ix d.cells (j : Int)) <;> simp [h]
theorem fatesU_le (d : Dev) (j : Nat) : (fatesU d j).length ≤ j := by
  unfold fatesU
  rw [List.length_map]
  exact Nat.le_trans (List.length_filter_le _ _) (by simp)
theorem fates_eq {fu n : Nat} {B : Int} {d : Dev} (h : DevOk n B d) (hn : n ≤ 100000) (hf : n < fu) : pmem_Device_Fates.f fu d = some (fatesD d) := by
  unfold pmem_Device_Fates.f
  have hl := h.len
  have : loopM (pmem_Device_Fates.s0 fu d) fu ([], 0) = some (fatesD d) := by
    refine loopM_run (S := fun j => (fatesU d j, (j : Int))) d.cells.length (by simp [fatesU]) ?_ ?_ (by omega)
    · intro j hj
      unfold pmem_Device_Fates.s0
      have w3 : IntKind.i64.wrap ((j : Int) + 1) = ((j + 1 : Nat) : Int) := by rw [w64 (by omega) (by omega)]; omega
      have c1 : 0 ≤ (j : Int) ∧ (j : Int) < (d.cells.length : Int) := by omega
      have hle := fatesU_le d j
      simp only [w3]
      rw [decide_eq_true c1.2, if_pos rfl, if_pos c1, openr_eq, fatesU_succ]
      simp only [Option.bind_some]
      cases ho : openC (ix d.cells (j : Int))
      · simp
      · have hlim : (fatesU d j).length + List.length [(⟨(j : Int), (ix d.cells (j : Int)).lasts, (ix d.cells (j : Int)).flushed, (ix d.cells (j : Int)).sent, (ix d.cells (j : Int)).stored⟩ : S_api_Fate)] ≤ LIM := by
          simp only [List.length_cons, List.length_nil]
          exact Nat.le_trans (by omega : _ ≤ 100001) (by decide)
        rw [if_pos rfl, if_pos hlim]
        rfl
    · unfold pmem_Device_Fates.s0
      rw [decide_eq_false (show ¬ ((d.cells.length : Int) < (d.cells.length : Int)) by omega), if_neg (by decide)]
      rfl
  rw [this]
  rfl
def newD (n : Nat) : Dev := ⟨List.replicate n ⟨0, 0, 0, false⟩, ⟨[], 0⟩, false, false, 0, 0⟩
theorem new_eq {fu : Nat} {k : Nat} (hk : k ≤ 4096) : pmem_New.f fu (k : Int) = some (some (newD (8 * k)), 0) := by
  unfold pmem_New.f
  have h1 : ¬ (k : Int) < 0 := by omega
  have h2 : ¬ (k : Int) > 4096 := by omega
  have w : IntKind.i64.wrap ((k : Int) * 8) = ((8 * k : Nat) : Int) := by rw [w64 (by omega) (by omega)]; omega
  rw [decide_eq_false h1, decide_eq_false h2, if_neg (by decide), w, Int.toNat_natCast, if_pos ⟨by omega, Nat.le_trans (by omega : _ ≤ 100000) (by decide)⟩]
  rfl
theorem newD_ok (n : Nat) : DevOk n 0 (newD n) := by
  refine ⟨by simp [newD], fun c hc => ?_, fun h => absurd rfl h, by simp [newD], fun h => (by cases h), fun _ => rfl, by simp [newD]⟩
  rw [List.eq_of_mem_replicate hc]
  unfold okC U64
  simp
theorem arm_ok {n : Nat} {B k : Int} {d : Dev} (h : DevOk n B d) (hk : I64 k) : DevOk n B (armD d k) := by
  unfold armD
  cases ho : d.off
  · rw [if_neg (by decide)]
    refine ⟨h.len, h.val, h.at0, h.pl, fun ha => ?_, fun ha => ?_, h.st⟩
    · have : k ≥ 0 := by simpa using ha
      exact ⟨this, hk.2, rfl⟩
    · have : ¬ k ≥ 0 := by simpa using ha
      exact decide_eq_false (by omega)
  · rw [if_pos rfl]
    exact h
theorem plan_ok {n : Nat} {B : Int} {d : Dev} {l : List Int} (h : DevOk n B d) (hl : l.length ≤ 1000) : DevOk n B (planD d l) :=
  ⟨h.len, h.val, fun e => ⟨by simp [planD], by simp only [planD] at e ⊢; omega⟩, hl, h.arm, h.una, h.st⟩
theorem fateC_ok {c : Cell} {n : Int} (h : okC c) : U64 (fateC c n) := by
  unfold fateC
  split
  · exact h.2.1
  · split
    · exact h.2.2
    · exact h.1
theorem crashC_ok {c : Cell} {n : Int} (h : okC c) : okC (crashC c n) := by
  unfold crashC
  split
  · exact ⟨fateC_ok h, fateC_ok h, by unfold U64; simp⟩
  · exact ⟨h.1, h.1, h.2.2⟩
theorem crash_ok {n : Nat} {B : Int} {d : Dev} {l : List Int} (h : DevOk n B d) : DevOk n B (crashD d l) :=
  ⟨by simp [crashD, crashL, h.len], mapIdx_ok h.val fun i c hc => crashC_ok hc, fun e => absurd rfl e, by simp [crashD], fun e => (by cases e), fun _ => rfl, h.st⟩
theorem store_ok {n : Nat} {B k w : Int} {d : Dev} (h : DevOk n B d) (hw : U64 w) : DevOk n (B + 1) (storeD d k w).2 := by
  unfold storeD
  split
  · rename_i e
    refine tick_ok (with_ok h (by simp [putC, h.len]) (mapIdx_ok h.val fun i c hc => ?_)) (may_zero.1 e).1
    split
    · exact ⟨hc.1, hw, hc.2.2⟩
    · exact hc
  · exact h.up (by omega)
theorem flush_ok {n : Nat} {B k : Int} {d : Dev} (h : DevOk n B d) : DevOk n (B + 1) (flushD d k).2 := by
  unfold flushD
  split
  · rename_i e
    exact tick_ok (with_ok h (by simp [sendL, h.len]) (sendL_ok h.val)) (may_zero.1 e).1
  · exact h.up (by omega)
theorem fence_ok {n : Nat} {B : Int} {d : Dev} (h : DevOk n B d) : DevOk n (B + 1) (fenceD d).2 := by
  unfold fenceD
  cases ho : d.off
  · rw [if_neg (by decide)]
    exact tick_ok (with_ok h (by simp [h.len]) (fun c hc => by
        obtain ⟨x, hx, rfl⟩ := List.mem_map.1 hc
        exact fence_okC (h.val x hx))) ho
  · rw [if_pos rfl]
    exact h.up (by omega)
/-- An act whose parts fit. -/
def okA (a : S_rickyardlaw05_Act) : Prop := I64 a.Kind ∧ I64 a.At ∧ U64 a.W ∧ (∀ x ∈ a.L, I64 x) ∧ a.L.length ≤ 1000
theorem do_ok {n : Nat} {B : Int} {d : Dev} {a : S_rickyardlaw05_Act} (h : DevOk n B d) (ha : okA a) : DevOk n (B + 1) (doD d a).2 := by
  unfold doD
  split
  · exact store_ok h ha.2.2.1
  split
  · exact h.up (by omega)
  split
  · exact flush_ok h
  split
  · exact fence_ok h
  split
  · exact (arm_ok h ha.2.1).up (by omega)
  split
  · exact (plan_ok h ha.2.2.2.2).up (by omega)
  · exact (crash_ok h).up (by omega)
theorem rest_eq {fu : Nat} {k m : Int} (hk : I64 k) (hm : 0 < m ∧ m ≤ 1000) : rickyardref01_Rest.f fu k m = some (k % m) := by
  unfold rickyardref01_Rest.f
  have h0 : m ≠ 0 := by omega
  rw [if_pos h0, if_pos h0]
  have h1 := Int.emod_nonneg k h0
  have h2 := Int.emod_lt_of_pos k hm.1
  have e : Int.tmod k m = k % m ∨ Int.tmod k m = k % m - m := by
    rcases Int.lt_or_le k 0 with h | h
    · rw [Int.tmod_eq_emod]
      split
      · exact .inl (by omega)
      · right
        have : (m.natAbs : Int) = m := by omega
        omega
    · exact .inl (Int.tmod_eq_emod_of_nonneg h)
  congr 1
  rcases e with e | e
  · rw [e, w64 (by omega) (by omega), Int.tmod_eq_emod_of_nonneg (by omega), Int.add_emod_right, Int.emod_emod]
  · rw [e, show k % m - m + m = k % m from by omega, w64 (by omega) (by omega), Int.tmod_eq_emod_of_nonneg (by omega), Int.emod_emod]
theorem do_eq {fu n : Nat} {B : Int} {d : Dev} {a : S_rickyardlaw05_Act} (h : DevOk n B d) (hB : B < 9223372036854775807) (hn : n ≤ 100000) (ha : okA a) (hf : n + 8 < fu) : rickyardlaw05_Do.f fu d a = some ((doD d a).1.1, (doD d a).1.2, (doD d a).2) := by
  obtain ⟨hk, hat, hw, hL, hl⟩ := ha
  unfold rickyardlaw05_Do.f doD
  rw [rest_eq hk (by decide), store_eq h hB hw, load_eq, flush_eq h hB (by omega) (by omega), fence_eq h hB (by omega) (by omega), arm_eq, plan_eq (by omega), crash_eq h (by omega) hL (by omega)]
  simp only [Option.bind_some]
  have hr : 0 ≤ a.Kind % 7 ∧ a.Kind % 7 < 7 := by omega
  generalize a.Kind % 7 = r at *
  have : r = 0 ∨ r = 1 ∨ r = 2 ∨ r = 3 ∨ r = 4 ∨ r = 5 ∨ r = 6 := by omega
  rcases this with rfl | rfl | rfl | rfl | rfl | rfl | rfl
  · rfl
  · rfl
  · rfl
  · rfl
  · have : (armD d a.At).cells = d.cells ∧ (armD d a.At).plan.list = d.plan.list := by
      unfold armD
      split <;> exact ⟨rfl, rfl⟩
    simp [← this.1, ← this.2]
  · rfl
  · rfl
end Go.Proofs.Ytklhbaghbmndeaa.Pure

/- Acts on a device: rounds with what stays true, small acts, the first example. -/
set_option linter.unusedVariables false
set_option linter.unusedSimpArgs false
namespace Go.Proofs.Ytklhbaghbmndeaa.Pure
open Go Go.Xw
theorem loopM_inv {σ ε : Type} {step : σ → Option (Sum ε σ)} (P : Nat → σ → Prop) (n : Nat) (Q : ε → Prop) (h : ∀ j s, j < n → P j s → ∃ s', step s = some (.inr s') ∧ P (j + 1) s') (he : ∀ s, P n s → ∃ e, step s = some (.inl e) ∧ Q e) : ∀ {k j : Nat} {s : σ}, P j s → j ≤ n → n - j < k → ∃ e, loopM step k s = some e ∧ Q e
  | 0, j, s, _, _, hk => by omega
  | k + 1, j, s, hp, hj, hk => by
    unfold loopM
    by_cases e1 : j = n
    · subst e1
      obtain ⟨e, h1, h2⟩ := he s hp
      rw [h1]
      exact ⟨e, rfl, h2⟩
    · obtain ⟨s', h1, h2⟩ := h j s (by omega) hp
      rw [h1]
      exact loopM_inv P n Q h he h2 (by omega) (by omega)
theorem okA_of {a : S_rickyardlaw05_Act} (h : ok_rickyardlaw05_Act a) (hl : a.L.length ≤ 40) : okA a := by
  obtain ⟨h1, h2, h3, h4, _⟩ := h
  exact ⟨wf64.1 h1, wf64.1 h2, wfu64.1 h3, fun x hx => wf64.1 (h4 x hx), by omega⟩
def Small (acts : List S_rickyardlaw05_Act) (m : Nat) : Prop := acts.length ≤ m ∧ ∀ a ∈ acts, a.L.length ≤ 40
instance (acts : List S_rickyardlaw05_Act) (m : Nat) : Decidable (Small acts m) := inferInstanceAs (Decidable (_ ∧ _))
theorem small_eq {fu m : Nat} {acts : List S_rickyardlaw05_Act} (hm : m ≤ 1000) (hf : m < fu) : rickyardlaw05_Small.f fu acts (m : Int) = some (decide (Small acts m)) := by
  unfold rickyardlaw05_Small.f
  by_cases h1 : acts.length ≤ m
  · have c : ¬ (acts.length : Int) > (m : Int) := by omega
    rw [decide_eq_false c, if_neg (by decide)]
    have hs : ∀ j : Nat, j < acts.length → rickyardlaw05_Small.s0 fu acts (j : Int) = some (if (ix acts (j : Int)).L.length ≤ 40 then .inr ((j + 1 : Nat) : Int) else .inl (.inl false)) := by
      intro j hj
      unfold rickyardlaw05_Small.s0
      have w3 : IntKind.i64.wrap ((j : Int) + 1) = ((j + 1 : Nat) : Int) := by rw [w64 (by omega) (by omega)]; omega
      have c1 : 0 ≤ (j : Int) ∧ (j : Int) < (acts.length : Int) := by omega
      rw [decide_eq_true c1.2, if_pos rfl, if_pos c1, w3]
      by_cases e : (ix acts (j : Int)).L.length ≤ 40
      · rw [decide_eq_false (by omega), if_neg (by decide), if_pos e]
      · rw [decide_eq_true (by omega), if_pos rfl, if_neg e]
    by_cases h2 : ∀ a ∈ acts, a.L.length ≤ 40
    · have : loopM (rickyardlaw05_Small.s0 fu acts) fu 0 = some (.inr ()) := by
        refine loopM_run (S := fun j => (j : Int)) acts.length rfl (fun j hj => by rw [hs j hj, ix_nat hj, if_pos (h2 _ (List.getElem_mem hj))]) ?_ (by omega)
        unfold rickyardlaw05_Small.s0
        rw [decide_eq_false (show ¬ ((acts.length : Int) < (acts.length : Int)) by omega), if_neg (by decide)]
      rw [this, decide_eq_true (show Small acts m from ⟨h1, h2⟩)]
      rfl
    · have : loopM (rickyardlaw05_Small.s0 fu acts) fu 0 = some (.inl false) := by
        refine loopM_bad (S := fun j => (j : Int)) acts.length (fun j => (ix acts (j : Int)).L.length ≤ 40) rfl ?_ (fun j hj _ hg => by rw [hs j hj, if_pos hg]) (fun j hj _ hg => by rw [hs j hj, if_neg hg]) (by omega)
        apply Classical.byContradiction
        intro hx
        refine h2 fun a ha => ?_
        obtain ⟨i, hi, rfl⟩ := List.getElem_of_mem ha
        refine Classical.byContradiction fun hg => hx ⟨i, hi, ?_⟩
        rw [ix_nat hi]
        exact hg
      rw [this, decide_eq_false (show ¬ Small acts m from fun q => h2 q.2)]
      rfl
  · have c : (acts.length : Int) > (m : Int) := by omega
    rw [decide_eq_true c, if_pos rfl, decide_eq_false (show ¬ Small acts m from fun q => h1 q.1)]
/-- The fuel. -/
abbrev FU : Nat := 200000
theorem awake05 : rickyardlaw05_awake.f FU = some true := by decide +kernel
theorem up_eq {fu : Nat} {d : Dev} : pmem_Device_Up.f fu d = some (!d.off) := rfl
theorem steps_eq {fu : Nat} {d : Dev} : pmem_Device_Steps.f fu d = some d.steps := rfl
theorem eta {d : Dev} : (⟨d.cells, ⟨d.plan.list, d.plan.at_⟩, d.off, d.armed, d.left, d.steps⟩ : S_pmem_Device) = d := rfl
def tup (i : Int) (d : Dev) : Int × (List S_pmem_cell) × (List Int) × Int × Bool × Bool × Int × Int := (i, d.cells, d.plan.list, d.plan.at_, d.off, d.armed, d.left, d.steps)
theorem next64 {j n : Nat} (h : j < n) (hn : n ≤ 100000) : IntKind.i64.wrap ((j : Int) + 1) = ((j + 1 : Nat) : Int) := by rw [w64 (by omega) (by omega)]; omega
end Go.Proofs.Ytklhbaghbmndeaa.Pure

/- The octets of numbers, as the document tells them; parts of them. -/
set_option linter.unusedVariables false
set_option linter.unusedSimpArgs false
namespace Go.Proofs.Ytklhbaghbmndeaa.Pure
open Go Go.Xw
theorem shr_pow (n j : Nat) (hj : j < 8) : shR .u64 (n : Int) ((8 * j : Nat) : Int) = ((n / 256 ^ j : Nat) : Int) := by
  unfold shR
  rw [Int.toNat_natCast]
  have e : min (8 * j) IntKind.u64.bits = 8 * j := Nat.min_eq_left (by show 8 * j ≤ 64; omega)
  rw [e, show (256 : Nat) = 2 ^ 8 from rfl, ← Nat.pow_mul]
  have : ((2 : Int) ^ (8 * j)) = ((2 ^ (8 * j) : Nat) : Int) := by simp
  rw [this, Int.fdiv_eq_ediv_of_nonneg _ (Int.natCast_nonneg _)]
  simp
theorem text_eq {fu : Nat} {ws : List Int} (hv : ∀ w ∈ ws, U64 w) (hl : ws.length ≤ 100000) (hf : ws.length + 8 < fu) : rickyardref05_Text.f fu ws = some ((octs ws).map toB) := by
  unfold rickyardref05_Text.f
  have : loopM (rickyardref05_Text.s1 fu ws) fu ([], 0) = some (octs ws) := by
    refine loopM_run (S := fun j => (octs (ws.take j), (j : Int))) ws.length (by simp [octs]) ?_ ?_ (by omega)
    · intro j hj
      unfold rickyardref05_Text.s1
      have w3 : IntKind.i64.wrap ((j : Int) + 1) = ((j + 1 : Nat) : Int) := next64 hj hl
      have c1 : 0 ≤ (j : Int) ∧ (j : Int) < (ws.length : Int) := by omega
      have hu := hv _ (List.getElem_mem hj)
      obtain ⟨v, hv'⟩ : ∃ v : Nat, ws[j] = (v : Int) := ⟨ws[j].toNat, by unfold U64 at hu; omega⟩
      have inner : loopM (rickyardref05_Text.s2 fu ws (octs (ws.take j), (j : Int))) fu (octs (ws.take j), 0) = some (octs (ws.take j) ++ lay v 8) := by
        refine loopM_run (S := fun i => (octs (ws.take j) ++ lay v i, (i : Int))) 8 (by simp [lay]) ?_ ?_ (by omega)
        · intro i hi
          unfold rickyardref05_Text.s2
          have c2 : (i : Int) < 8 := by omega
          have w4 : IntKind.i64.wrap (8 * (i : Int)) = ((8 * i : Nat) : Int) := by rw [w64 (by omega) (by omega)]; omega
          have w5 : IntKind.i64.wrap ((i : Int) + 1) = ((i + 1 : Nat) : Int) := by rw [w64 (by omega) (by omega)]; omega
          simp only [w4, w5]
          have hlim : List.length (octs (ws.take j) ++ lay v i) + List.length [((v / 256 ^ i % 256 : Nat) : Int)] ≤ LIM := by
            rw [List.length_append, octs_len, lay_len, List.length_take]
            exact Nat.le_trans (by simp only [List.length_cons, List.length_nil]; omega : _ ≤ 1000000) (by decide)
          rw [decide_eq_true c2, if_pos rfl, if_pos c1, if_pos (by omega), ix_nat hj, hv', shr_pow _ _ hi, wu8_mod, if_pos hlim, lay_succ, List.append_assoc]
        · unfold rickyardref05_Text.s2
          rw [decide_eq_false (show ¬ (((8 : Nat) : Int) < 8) by decide), if_neg (by decide)]
      simp only [w3]
      rw [decide_eq_true c1.2, if_pos rfl, inner, take_next hj, octs_append, octs_one, hv', Int.toNat_natCast]
      rfl
    · unfold rickyardref05_Text.s1
      rw [decide_eq_false (show ¬ ((ws.length : Int) < (ws.length : Int)) by omega), if_neg (by decide), List.take_length]
  rw [this]
  rfl
theorem octs_take (ws : List Int) (i : Nat) : (octs ws).take (8 * i) = octs (ws.take i) := by
  by_cases h : i ≤ ws.length
  · have e : octs ws = octs (ws.take i) ++ octs (ws.drop i) := by rw [← octs_append, List.take_append_drop]
    rw [e, List.take_append_of_le_length (by rw [octs_len, List.length_take]; omega), List.take_of_length_le (by rw [octs_len, List.length_take]; omega)]
  · rw [List.take_of_length_le (by rw [octs_len]; omega), List.take_of_length_le (by omega)]
theorem octs_drop (ws : List Int) (i : Nat) : (octs ws).drop (8 * i) = octs (ws.drop i) := by
  by_cases h : i ≤ ws.length
  · have e : octs ws = octs (ws.take i) ++ octs (ws.drop i) := by rw [← octs_append, List.take_append_drop]
    have hl : (octs (ws.take i)).length = 8 * i := by rw [octs_len, List.length_take]; omega
    rw [e, ← hl, List.drop_left]
  · rw [List.drop_of_length_le (by rw [octs_len]; omega), List.drop_of_length_le (by omega)]
    rfl
theorem octs_cut (ws : List Int) (i j : Nat) : cut (octs ws) ((8 * i : Nat) : Int) ((8 * j : Nat) : Int) = octs (cut ws (i : Int) (j : Int)) := by
  unfold cut
  rw [Int.toNat_natCast, Int.toNat_natCast, Int.toNat_natCast, Int.toNat_natCast, octs_take, octs_drop]
theorem ix_mapIdx {α : Type} [Inhabited α] {cs : List α} {g : Nat → α → α} {i : Nat} (hi : i < cs.length) : ix (cs.mapIdx g) (i : Int) = g i (ix cs (i : Int)) := by
  rw [ix_nat (by simpa using hi), ix_nat hi, List.getElem_mapIdx]
theorem ix_mapC {α : Type} [Inhabited α] {cs : List α} {g : α → α} {i : Nat} (hi : i < cs.length) : ix (cs.map g) (i : Int) = g (ix cs (i : Int)) := by
  rw [ix_nat (by simpa using hi), ix_nat hi, List.getElem_map]
theorem cut_get {α : Type} {l : List α} {a b i : Nat} (h : i < (cut l (a : Int) (b : Int)).length) (h2 : a + i < l.length) : (cut l (a : Int) (b : Int))[i] = l[a + i] := by
  simp only [cut, Int.toNat_natCast, List.getElem_drop, List.getElem_take]
theorem cut_len' {α : Type} {l : List α} {a b : Nat} (h : b ≤ l.length) : (cut l (a : Int) (b : Int)).length = b - a := by
  simp only [cut, Int.toNat_natCast, List.length_drop, List.length_take]
  omega
theorem toB_inj {l m : List Int} (hl : Bytes l) (hm : Bytes m) (h : l.map toB = m.map toB) : l = m := by
  apply List.ext_getElem
  · have := congrArg List.length h
    simpa using this
  · intro i h1 h2
    have e := congrArg (fun x => x[i]?) h
    simp only [List.getElem?_map, List.getElem?_eq_getElem h1, List.getElem?_eq_getElem h2, Option.map_some, Option.some.injEq] at e
    have b1 := hl _ (List.getElem_mem h1)
    have b2 := hm _ (List.getElem_mem h2)
    unfold toB at e
    have := congrArg UInt8.toNat e
    simp only [UInt8.toNat_ofNat'] at this
    omega
end Go.Proofs.Ytklhbaghbmndeaa.Pure

/- The pure statement of PmemFenced. -/
set_option linter.unusedVariables false
set_option linter.unusedSimpArgs false
namespace Go.Proofs.Ytklhbaghbmndeaa.Pure
open Go Go.Xw
def HoldsC (w : Int) (c : Cell) : Prop := c.stored = w ∧ c.lasts = w ∧ (c.flushed = true → c.sent = w)
theorem holds_tick {w : Int} {d : Dev} {i : Nat} (hi : i < d.cells.length) (h : HoldsC w (ix d.cells (i : Int))) : HoldsC w (ix (tick d).cells (i : Int)) := by
  show HoldsC w (ix (evict (pick d.plan) d.cells) (i : Int))
  unfold evict
  rw [ix_mapIdx hi]
  split
  · exact ⟨h.1, h.1, fun e => (by cases e)⟩
  · exact h
theorem holds_do {w : Int} {d : Dev} {a : S_rickyardlaw05_Act} {i : Nat} (hi : i < d.cells.length) (h : HoldsC w (ix d.cells (i : Int))) (hx : a.Kind % 7 = 0 → a.At ≠ (i : Int)) : HoldsC w (ix (doD d a).2.cells (i : Int)) := by
  unfold doD
  split
  · rename_i e
    unfold storeD
    split
    · refine holds_tick (by simpa [withC, putC] using hi) ?_
      show HoldsC w (ix (putC a.At a.W d.cells) (i : Int))
      unfold putC
      rw [ix_mapIdx hi, if_neg fun q => hx e q.symm]
      exact h
    · exact h
  split
  · exact h
  split
  · unfold flushD
    split
    · refine holds_tick (by simpa [withC, sendL] using hi) ?_
      show HoldsC w (ix (sendL a.At d.cells) (i : Int))
      unfold sendL
      rw [ix_mapIdx hi]
      split
      · exact ⟨h.1, h.2.1, fun _ => h.1⟩
      · exact h
    · exact h
  split
  · unfold fenceD
    split
    · exact h
    · refine holds_tick (by simpa [withC] using hi) ?_
      show HoldsC w (ix (d.cells.map fenceC) (i : Int))
      rw [ix_mapC hi]
      unfold fenceC
      split
      · rename_i e
        exact ⟨h.1, h.2.2 e, fun e => (by cases e)⟩
      · exact h
  split
  · unfold armD
    split
    · exact h
    · exact h
  split
  · exact h
  · show HoldsC w (ix (crashL a.L d.cells) (i : Int))
    unfold crashL
    rw [ix_mapIdx hi]
    unfold crashC
    split
    · have hf : fateC (ix d.cells (i : Int)) (a.L.getD (opens d.cells i) 0) = w := by
        unfold fateC
        split
        · exact h.1
        · split
          · rename_i q
            exact h.2.2 q.2
          · exact h.2.1
      rw [hf]
      exact ⟨rfl, rfl, fun e => (by cases e)⟩
    · exact ⟨h.2.1, h.2.1, h.2.2⟩
/-- Nothing is planned, and the power stays on. -/
structure Quiet (d : Dev) : Prop where
  ar : d.armed = false
  pl : d.plan.list.length = 0
theorem quiet_tick {d : Dev} (h : Quiet d) : (tick d).cells = d.cells ∧ Quiet (tick d) := by
  constructor
  · show evict (pick d.plan) d.cells = d.cells
    unfold pick
    rw [if_pos h.pl]
    exact evict_no _ (by decide)
  · exact ⟨h.ar, by simp [tick, nextP, h.pl]⟩
theorem quiet_store {d : Dev} {k w : Int} (h : Quiet d) (ho : d.off = false) (h0 : 0 ≤ k) (h1 : k < (d.cells.length : Int)) : (storeD d k w).1 = 0 ∧ (storeD d k w).2.cells = putC k w d.cells ∧ Quiet (storeD d k w).2 := by
  unfold storeD
  rw [if_pos (may_zero.2 ⟨ho, h0, h1⟩)]
  have := quiet_tick (d := withC d (putC k w d.cells)) ⟨h.ar, h.pl⟩
  exact ⟨rfl, this.1, this.2⟩
theorem quiet_flush {d : Dev} {k : Int} (h : Quiet d) (ho : d.off = false) (h0 : 0 ≤ k) (h1 : k < ((d.cells.length / 8 : Nat) : Int)) : (flushD d k).1 = 0 ∧ (flushD d k).2.cells = sendL k d.cells ∧ Quiet (flushD d k).2 := by
  unfold flushD
  rw [if_pos (may_zero.2 ⟨ho, h0, h1⟩)]
  have := quiet_tick (d := withC d (sendL k d.cells)) ⟨h.ar, h.pl⟩
  exact ⟨rfl, this.1, this.2⟩
theorem quiet_fence {d : Dev} (h : Quiet d) (ho : d.off = false) : (fenceD d).1 = 0 ∧ (fenceD d).2.cells = d.cells.map fenceC ∧ Quiet (fenceD d).2 := by
  unfold fenceD
  rw [if_neg (by rw [ho]; decide)]
  have := quiet_tick (d := withC d (d.cells.map fenceC)) ⟨h.ar, h.pl⟩
  exact ⟨rfl, this.1, this.2⟩
theorem PmemFenced : ∀ (a0 : S_rickyardlaw05_Fenced), ok_rickyardlaw05_Fenced a0 → ∃ fu, rickyardlaw05_PmemFenced.f fu a0 = some true := by
  rintro x ⟨hline, hws, hacts, hxl⟩
  refine ⟨FU, ?_⟩
  unfold rickyardlaw05_PmemFenced.f
  have hsm : rickyardlaw05_Small.f FU x.Acts 30 = some (decide (Small x.Acts 30)) := small_eq (m := 30) (by decide) (by decide)
  rw [awake05, hsm]
  simp only [Option.bind_some, Bool.not_true, Bool.false_eq_true, if_false]
  by_cases hS : Small x.Acts 30
  rotate_left
  · rw [decide_eq_false hS]
    rfl
  rw [decide_eq_true hS]
  by_cases hL : (x.L.length : Int) > 60
  · rw [decide_eq_true hL]
    rfl
  rw [decide_eq_false hL]
  have hk : I64 x.Line := wf64.1 hline
  have hnew : pmem_New.f FU 4 = some (some (newD 32), 0) := new_eq (k := 4) (by decide)
  rw [hnew, rest_eq hk (by decide)]
  simp only [Option.bind_some, Bool.not_true, Bool.false_eq_true, if_false, Option.elim_some]
  have hk2 : 0 ≤ x.Line % 4 ∧ x.Line % 4 < 4 := by omega
  obtain ⟨k, hkk⟩ : ∃ k : Nat, x.Line % 4 = (k : Int) := ⟨(x.Line % 4).toNat, by omega⟩
  rw [hkk] at hk2 ⊢
  have hk4 : k < 4 := by omega
  have hwl : x.Ws.l.length = 8 := x.Ws.h
  have w8 : IntKind.i64.wrap (8 * (k : Int)) = ((8 * k : Nat) : Int) := by rw [w64 (by omega) (by omega)]; omega
  have w88 : IntKind.i64.wrap (((8 * k : Nat) : Int) + 8) = ((8 * k + 8 : Nat) : Int) := by rw [w64 (by omega) (by omega)]; omega
  have hU : ∀ i : Nat, i < 8 → U64 (ix x.Ws.l (i : Int)) := by
    intro i hi
    rw [ix_nat (by omega)]
    exact wfu64.1 (hws _ (List.getElem_mem _))
  have loop0 : ∃ e, loopM (rickyardlaw05_PmemFenced.s0 FU x (k : Int)) FU (tup 0 (newD 32)) = some e ∧ ∃ d : Dev, e = .inr (d.cells, d.plan.list, d.plan.at_, d.off, d.armed, d.left, d.steps) ∧ DevOk 32 8 d ∧ Quiet d ∧ ∀ i : Nat, i < 8 → (ix d.cells ((8 * k + i : Nat) : Int)).stored = ix x.Ws.l (i : Int) := by
    refine loopM_inv (fun j s => ∃ d : Dev, s = tup (j : Int) d ∧ DevOk 32 (j : Int) d ∧ Quiet d ∧ ∀ i : Nat, i < j → (ix d.cells ((8 * k + i : Nat) : Int)).stored = ix x.Ws.l (i : Int)) 8 _ ?_ ?_ (j := 0) ⟨_, rfl, newD_ok 32, ⟨rfl, rfl⟩, fun i hi => by omega⟩ (by omega) (by decide)
    · rintro j _ hj ⟨d, rfl, hd, hq, hi⟩
      have c1 : 0 ≤ (j : Int) ∧ (j : Int) < 8 := by omega
      have hlen := hd.len
      have w9 : IntKind.i64.wrap (((8 * k : Nat) : Int) + (j : Int)) = ((8 * k + j : Nat) : Int) := by rw [w64 (by omega) (by omega)]; omega
      have hst : pmem_Device_Store.f FU d ((8 * k + j : Nat) : Int) (ix x.Ws.l (j : Int)) = some (storeD d ((8 * k + j : Nat) : Int) (ix x.Ws.l (j : Int))) := store_eq hd (by omega) (hU j hj)
      obtain ⟨q1, q2, q3⟩ := quiet_store (k := ((8 * k + j : Nat) : Int)) (w := ix x.Ws.l (j : Int)) hq (hd.una hq.ar) (by omega) (by omega)
      have hd2 : DevOk 32 ((j : Int) + 1) (storeD d ((8 * k + j : Nat) : Int) (ix x.Ws.l (j : Int))).2 := store_ok hd (hU j hj)
      unfold rickyardlaw05_PmemFenced.s0 tup
      simp only [eta, w8, w9, Arr.get]
      rw [decide_eq_true c1.2, if_pos rfl, if_pos c1, next64 hj (by omega), hst]
      simp only [Option.bind_some, q1, decide_true, Bool.not_true, Bool.false_eq_true, if_false]
      refine ⟨_, rfl, _, rfl, hd2.up (by omega), q3, fun i hij => ?_⟩
      rw [q2]
      unfold putC
      rw [ix_mapIdx (by omega)]
      by_cases e : i = j
      · subst e
        rw [if_pos rfl]
      · rw [if_neg (by omega)]
        exact hi i (by omega)
    · rintro _ ⟨d, rfl, hd, hq, hi⟩
      unfold rickyardlaw05_PmemFenced.s0 tup
      rw [decide_eq_false (show ¬ (((8 : Nat) : Int) < 8) by decide), if_neg (by decide)]
      exact ⟨_, rfl, d, rfl, hd, hq, hi⟩
  obtain ⟨e, h1, d, rfl, hd, hq, hi⟩ := loop0
  unfold tup at h1
  rw [h1]
  simp only [Option.bind_some, eta]
  have hlen := hd.len
  have hfl : pmem_Device_Flush.f FU d (k : Int) = some (flushD d (k : Int)) := flush_eq hd (by decide) (by decide) (by decide)
  obtain ⟨q1, q2, q3⟩ := quiet_flush (k := (k : Int)) hq (hd.una hq.ar) (by omega) (by omega)
  have hd1 : DevOk 32 9 (flushD d (k : Int)).2 := flush_ok hd
  rw [hfl]
  simp only [Option.bind_some, q1, decide_true, Bool.not_true, Bool.false_eq_true, if_false]
  have hfe : pmem_Device_Fence.f FU (flushD d (k : Int)).2 = some (fenceD (flushD d (k : Int)).2) := fence_eq hd1 (by decide) (by decide) (by decide)
  obtain ⟨p1, p2, p3⟩ := quiet_fence q3 (hd1.una q3.ar)
  have hd2 : DevOk 32 10 (fenceD (flushD d (k : Int)).2).2 := fence_ok hd1
  rw [hfe]
  simp only [Option.bind_some, p1, decide_true, Bool.not_true, Bool.false_eq_true, if_false]
  have hh : ∀ i : Nat, i < 8 → HoldsC (ix x.Ws.l (i : Int)) (ix (fenceD (flushD d (k : Int)).2).2.cells ((8 * k + i : Nat) : Int)) := by
    intro i hi8
    rw [p2, q2, ix_mapC (by simp [sendL, hlen]; omega)]
    unfold sendL
    rw [ix_mapIdx (by omega), if_pos (by omega)]
    unfold fenceC sendC
    rw [if_pos rfl]
    have := hi i hi8
    exact ⟨this, this, fun e => (by cases e)⟩
  generalize hD : (fenceD (flushD d (k : Int)).2).2 = D at *
  have hokA : ∀ a ∈ x.Acts, okA a := fun a h => okA_of (hacts.1 a h) (hS.2 a h)
  have loop1 : ∃ e, loopM (rickyardlaw05_PmemFenced.s1 FU x (k : Int)) FU (tup 0 D) = some e ∧ ∃ d : Dev, e = (d.cells, d.plan.list, d.plan.at_, d.off, d.armed, d.left, d.steps) ∧ DevOk 32 100 d ∧ ∀ i : Nat, i < 8 → HoldsC (ix x.Ws.l (i : Int)) (ix d.cells ((8 * k + i : Nat) : Int)) := by
    refine loopM_inv (fun j s => ∃ d : Dev, s = tup (j : Int) d ∧ DevOk 32 (10 + (j : Int)) d ∧ ∀ i : Nat, i < 8 → HoldsC (ix x.Ws.l (i : Int)) (ix d.cells ((8 * k + i : Nat) : Int))) x.Acts.length _ ?_ ?_ (j := 0) ⟨_, rfl, hd2, hh⟩ (by omega) (by have := hS.1; show _ < 200000; omega)
    · rintro j _ hj ⟨d, rfl, hd, hi⟩
      have hS1 := hS.1
      have c1 : 0 ≤ (j : Int) ∧ (j : Int) < (x.Acts.length : Int) := by omega
      have hoa := hokA _ (List.getElem_mem hj)
      have hdo : rickyardlaw05_Do.f FU d x.Acts[j] = some ((doD d x.Acts[j]).1.1, (doD d x.Acts[j]).1.2, (doD d x.Acts[j]).2) := do_eq hd (by omega) (by decide) hoa (by decide)
      have hd3 := do_ok hd hoa
      have hlen := hd.len
      unfold rickyardlaw05_PmemFenced.s1 tup
      simp only [eta, w8, w88]
      rw [decide_eq_true c1.2, if_pos rfl, if_pos c1, if_pos c1, if_pos c1, if_pos c1, ix_nat hj, next64 hj (by omega), hdo]
      by_cases hgo : Int.tmod x.Acts[j].Kind 7 = 0 ∧ ((8 * k : Nat) : Int) ≤ x.Acts[j].At ∧ x.Acts[j].At < ((8 * k + 8 : Nat) : Int)
      · rw [decide_eq_true hgo.1, decide_eq_false (show ¬ x.Acts[j].At < ((8 * k : Nat) : Int) by omega), decide_eq_false (show ¬ x.Acts[j].At ≥ ((8 * k + 8 : Nat) : Int) by omega)]
        exact ⟨_, rfl, d, rfl, hd.up (by omega), hi⟩
      · have hif : (if (!decide (Int.tmod x.Acts[j].Kind 7 = 0)) = true then some true else if decide (x.Acts[j].At < ((8 * k : Nat) : Int)) = true then some true else some (decide (x.Acts[j].At ≥ ((8 * k + 8 : Nat) : Int)))) = some true := by
          by_cases g1 : Int.tmod x.Acts[j].Kind 7 = 0
          · rw [decide_eq_true g1, if_neg (by decide)]
            by_cases g2 : x.Acts[j].At < ((8 * k : Nat) : Int)
            · rw [decide_eq_true g2, if_pos rfl]
            · rw [decide_eq_false g2, if_neg (by decide), decide_eq_true (by omega)]
          · rw [decide_eq_false g1, if_pos (by decide)]
        rw [hif]
        refine ⟨_, rfl, (doD d x.Acts[j]).2, rfl, hd3.up (by omega), fun i hi8 => holds_do (by omega) (hi i hi8) fun h0 => ?_⟩
        intro e
        refine hgo ⟨?_, by omega, by omega⟩
        have : x.Acts[j].Kind = 7 * (x.Acts[j].Kind / 7) := by omega
        rw [this]
        exact Int.mul_tmod_right 7 _
    · rintro _ ⟨d, rfl, hd, hi⟩
      have hS1 := hS.1
      unfold rickyardlaw05_PmemFenced.s1 tup
      rw [decide_eq_false (show ¬ ((x.Acts.length : Int) < (x.Acts.length : Int)) by omega), if_neg (by decide)]
      exact ⟨_, rfl, d, rfl, hd.up (by omega), hi⟩
  obtain ⟨e, h1, d', rfl, hd', hi'⟩ := loop1
  unfold tup at h1
  rw [h1]
  simp only [Option.bind_some, eta]
  have hxL : ∀ y ∈ x.L, I64 y := fun y hy => wf64.1 (hxl.1 y hy)
  have hcr : pmem_Device_Crash.f FU d' x.L = some (crashD d' x.L) := crash_eq hd' (by decide) hxL (by decide)
  have hdc : DevOk 32 100 (crashD d' x.L) := crash_ok hd'
  have him : pmem_Device_Image.f FU (crashD d' x.L) = some (octs (lastsD (crashD d' x.L))) := image_eq hdc (by decide) (by decide)
  have htx : rickyardref05_Text.f FU (Arr.l x.Ws) = some ((octs x.Ws.l).map toB) := text_eq (fun w hw => wfu64.1 (hws w hw)) (by omega) (by rw [hwl]; decide)
  rw [hcr]
  simp only [Option.bind_some]
  rw [him, htx]
  have hol : (octs (lastsD (crashD d' x.L))).length = 256 := by rw [octs_len, lastsD, List.length_map, hdc.len]
  have w64k : IntKind.i64.wrap (64 * (k : Int)) = ((8 * (8 * k) : Nat) : Int) := by rw [w64 (by omega) (by omega)]; omega
  have w64k2 : IntKind.i64.wrap (((8 * (8 * k) : Nat) : Int) + 64) = ((8 * (8 * k + 8) : Nat) : Int) := by rw [w64 (by omega) (by omega)]; omega
  simp only [Option.bind_some, w64k, w64k2]
  rw [hol, decide_eq_true (by decide), if_pos rfl, if_pos (by omega), octs_cut]
  have hlast : cut (lastsD (crashD d' x.L)) ((8 * k : Nat) : Int) ((8 * k + 8 : Nat) : Int) = x.Ws.l := by
    have hll : (lastsD (crashD d' x.L)).length = 32 := by rw [lastsD, List.length_map, hdc.len]
    apply List.ext_getElem
    · unfold cut
      rw [List.length_drop, List.length_take, hll, hwl]
      omega
    · intro i h1 h2
      have hi8 : i < 8 := by omega
      have hdl := hd'.len
      have := holds_do (a := ⟨6, 0, 0, x.L⟩) (d := d') (i := 8 * k + i) (by omega) (hi' i hi8) (fun e => absurd (show (6 : Int) % 7 = 0 from e) (by decide))
      have hcd : (doD d' ⟨6, 0, 0, x.L⟩).2 = crashD d' x.L := rfl
      have hcl : (crashD d' x.L).cells.length = 32 := hdc.len
      rw [hcd, ix_nat (l := (crashD d' x.L).cells) (by omega), ix_nat (l := x.Ws.l) (by omega)] at this
      rw [cut_get h1 (by omega)]
      simp only [lastsD, List.getElem_map]
      exact this.2.1
  rw [hlast]
  simp
end Go.Proofs.Ytklhbaghbmndeaa.Pure

/- The law PmemFenced holds for every input: the row, out of the walk of the law's function and of its pure statement. Written by rows.py. -/
namespace Go.Proofs.Ytklhbaghbmndeaa.pmemFenced
open Go.ChangeShapes Go.WideShapes Go.ChangeAt Go.RowKit
open Go.ChangeMaps (open_string shut_string)
open Go Go.Xw
set_option linter.unusedVariables false
theorem own : ownKnob Try.prog.godebug = none := Facts.own
theorem laidOut : laidOutB Try.prog = true := Facts.laid
theorem closed : joinedFacts Try.pinned.checked.prog 3 Try.f3 Rows.pmemFencedSpec Rows.pmemFencedRow = true := by
  unfold joinedFacts
  rw [Facts.enter, Facts.lifts, Facts.make, Facts.laid, Facts.rowed, Facts.plain, Facts.heard]
  kernel_rfl
theorem enc_seg {α : Type} (K : Kd α) (a : α) : K.enc a = cellsOf [Kd.seg K a] := by simp [cellsOf, Kd.seg]
def start : Input := ⟨#[], #[.agg #[.int .i64 0, .int .u64 0, .int .u64 0, .int .u64 0, .int .u64 0, .int .u64 0, .int .u64 0, .int .u64 0, .int .u64 0, .slice none 0 0, .slice none 0 0]], []⟩
set_option maxRecDepth 100000 in
set_option maxHeartbeats 1000000 in
theorem lifted (os : Os) (started : os.Started) (H : Type) (enc : TypeId × Value → H) :
    ReturnsInHanded {} Try.checked os 3 .any (Rows.pmemFencedSpec.pre6 enc Try.prog Try.f3 Rows.pmemFencedRow.domain false) (Rows.pmemFencedSpec.post enc Try.prog Try.f3 false true false false) := by
  refine returnsInHanded_of_change_sized (C := Try.checked) own started (by kernel_rfl) Try.func3
    (ChangeSpec.witness6 (enc := enc) (C := Try.checked) false start 8 (by kernel_rfl) (by kernel_rfl) (by kernel_rfl) (by kernel_rfl)) ?_
  intro W base args ds gs before hval0 hW hcnd hsz0 _
  have hval : ∀ (j : Nat) t v, Try.f3.params[j]? = some t → args[j]? = some v → Value.okWide Try.prog W .any base t v := hval0
  have hW' := hW
  obtain ⟨p, q, hA0, hV, rfl, hfz, hnd⟩ := hW
  have hA : DataW.TrodAll enc Try.prog W 0 (fun _ => true) true Try.f3.params.toList args.toList ds p := hA0
  rw [Try.params3] at hA hval
  obtain ⟨v0, vs0, d0, ds0, p0, q0, hargs, rfl, rfl, h0, r0⟩ := trodAll_cons hA
  obtain ⟨rfl, rfl, rfl⟩ := trodAll_nil r0
  obtain rfl : args = #[v0] := by cases args; simp_all
  obtain ⟨rfl, rfl⟩ := trodVars_none hV
  have k0 := h0
  have lt0 : ∀ x ∈ p0, x.block < W.heap.size := by obtain ⟨m, hm⟩ := k0; exact DataW.trod_lt m _ _ _ hm
  obtain ⟨fu0, hf0⟩ := h0
  obtain ⟨a0, V0_0, V0_1, R0_0, R0_1, e0, o0⟩ := opn_rickyardlaw05_Fenced enc _ _ _ _ _ _ hf0
  obtain rfl := agg_of (by kernel_rfl) (hval 0 27 v0 rfl rfl) e0
  obtain ⟨fu, hfu⟩ := Pure.PmemFenced a0 o0
  refine Calls.mono (rickyardlaw05_PmemFenced.ok fu W a0 _ R0_0 _ R0_1 true hfu) fun e W' hr => ?_
  obtain ⟨v, rfl, rfl, gr⟩ := hr
  have bel := Fr.below gr
  exact ⟨_, rfl, _, _, _, [], _, [], hW', trodAll_mk1 (shut_bool Try.underlying4 _), (trodAll_cons_mk (Below.trod laidOut (by kernel_rfl) (of_decide_eq_true (by kernel_rfl)) k0 bel lt0) trodAll_mk0), rfl, bel.frame _, fun h => by cases h⟩
theorem over : Rows.pmemFencedRow.holds Try.pinned (OpenSpec.ofChange Rows.pmemFencedSpec) :=
  OpenClaim.holds_of_wide 3 Try.f3 rfl rfl rfl rfl rfl rfl rfl ⟨rfl, rfl, rfl, rfl, rfl⟩ rfl rfl rfl rfl rfl (by kernel_rfl) Try.func3 closed
    (of_decide_eq_true (by kernel_rfl)) (by unfold Func.isWrapper; first | (rw [if_pos (by decide +kernel)]; kernel_rfl) | (rw [if_neg (by decide +kernel)]; exact ⟨rfl, rfl⟩))
    (fun os started H enc _ => lifted os started H enc)
theorem proved : Rows.PmemFencedSaid := over
end Go.Proofs.Ytklhbaghbmndeaa.pmemFenced
namespace Go.Proofs.Ytklhbaghbmndeaa
/-- The law holds. -/
theorem pmemFenced_holds : Rows.PmemFencedSaid := pmemFenced.proved
#print axioms pmemFenced_holds
end Go.Proofs.Ytklhbaghbmndeaa
