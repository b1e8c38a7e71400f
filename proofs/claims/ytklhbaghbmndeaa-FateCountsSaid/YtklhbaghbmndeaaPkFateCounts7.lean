/- FateCounts: texts merged, part 7 of 8. The last part proves that the law FateCounts holds for every input. -/
import Derived.Test.YtklhbaghbmndeaaPkFateCounts6
/- Numbers as octets, in plain words. -/
set_option linter.unusedVariables false
set_option linter.unusedSimpArgs false
namespace Go.Proofs.Ytklhbaghbmndeaa.Pure
open Go Go.Xw
def lay (v n : Nat) : List Int := (List.range n).map fun i => ((v / 256 ^ i % 256 : Nat) : Int)
theorem lay_len (v n : Nat) : (lay v n).length = n := by simp [lay]
theorem lay_succ (v n : Nat) : lay v (n + 1) = lay v n ++ [((v / 256 ^ n % 256 : Nat) : Int)] := by
  simp [lay, List.range_succ]
theorem lay_bytes (v n : Nat) : Bytes (lay v n) := by
  intro x hx
  simp only [lay, List.mem_map] at hx
  obtain ⟨i, _, rfl⟩ := hx
  omega
theorem wu8_mod {n : Nat} : IntKind.u8.wrap (n : Int) = ((n % 256 : Nat) : Int) := by
  unfold IntKind.wrap
  simp only [IntKind.signed, IntKind.bits]
  simp
theorem shr64 (n : Nat) : shR .u64 (n : Int) 8 = ((n / 256 : Nat) : Int) := by
  unfold shR
  show Int.fdiv (n : Int) (2 ^ min ((8 : Int).toNat) 64) = _
  rw [show (2 : Int) ^ min ((8 : Int).toNat) 64 = 256 from by decide, Int.fdiv_eq_ediv_of_nonneg _ (by decide)]
  omega
theorem wn64 (q : Nat) (h : q < 18446744073709551616) : IntKind.u64.wrap (q : Int) = (q : Int) := wu64 (by omega) (by omega)
theorem tdn (q : Nat) : Int.tdiv (q : Int) 256 = ((q / 256 : Nat) : Int) := by
  rw [Int.tdiv_eq_ediv_of_nonneg (by omega)]
  omega
theorem tmn (q : Nat) : Int.tmod (q : Int) 256 = ((q % 256 : Nat) : Int) := by
  rw [Int.tmod_eq_emod_of_nonneg (by omega)]
  omega
theorem wn8 (q : Nat) : IntKind.u8.wrap ((q % 256 : Nat) : Int) = ((q % 256 : Nat) : Int) := wu8 (by omega) (by omega)
theorem olay_eq {fu v n : Nat} (hn : n ≤ 8) (hf : n < fu) : octet_Lay.f fu (v : Int) (n : Int) = some (lay v n) := by
  unfold octet_Lay.f
  have h0 : ¬ ((n : Int) < 0) := by omega
  have h8 : ¬ ((n : Int) > 8) := by omega
  have hL : Int.toNat (n : Int) ≤ LIM := by
    have : (8 : Nat) ≤ LIM := by decide
    omega
  simp only [h0, h8, decide_false, Bool.false_eq_true, if_false]
  rw [if_pos ⟨by omega, hL⟩]
  have : loopM (octet_Lay.s0 fu (n : Int)) fu ((v : Int), 0, List.replicate (Int.toNat (n : Int)) (0 : Int)) = some (lay v n) := by
    refine loopM_run (S := fun j => (((v / 256 ^ j : Nat) : Int), (j : Int), lay v j ++ List.replicate (n - j) (0 : Int))) n (by simp [lay]) ?_ ?_ hf
    · intro j hj
      unfold octet_Lay.s0
      have w3 : IntKind.i64.wrap ((j : Int) + 1) = ((j + 1 : Nat) : Int) := by rw [w64 (by omega) (by omega)]; omega
      have e1 : (List.replicate (Int.toNat (n : Int)) (0 : Int)).length = n := by simp
      have e2 : (lay v j ++ List.replicate (n - j) (0 : Int)).length = n := by rw [List.length_append, lay_len, List.length_replicate]; omega
      have e3 : List.set (lay v j ++ List.replicate (n - j) (0 : Int)) (Int.toNat (j : Int)) (IntKind.u8.wrap ((v / 256 ^ j : Nat) : Int)) = lay v (j + 1) ++ List.replicate (n - (j + 1)) (0 : Int) := by
        rw [Int.toNat_natCast, List.set_append, if_neg (by rw [lay_len]; omega), lay_len, Nat.sub_self, wu8_mod, lay_succ, show n - j = n - (j + 1) + 1 from by omega, List.replicate_succ]
        simp
      have e4 : shR .u64 ((v / 256 ^ j : Nat) : Int) 8 = ((v / 256 ^ (j + 1) : Nat) : Int) := by
        rw [shr64, Nat.div_div_eq_div_mul, Nat.pow_succ]
      have h1 : (j : Int) < (n : Int) := by omega
      simp only [e1, e2, e3, e4, w3, h1, decide_true, if_true]
      rw [if_pos ⟨by omega, trivial⟩]
    · unfold octet_Lay.s0
      simp
  rw [this]
  rfl
theorem roctet_eq {fu v i : Nat} (hv : v < 18446744073709551616) (hi : i ≤ 1000) (hf : i < fu) : rickyardref01_Octet.f fu (v : Int) (i : Int) = some ((v / 256 ^ i % 256 : Nat) : Int) := by
  unfold rickyardref01_Octet.f
  have : loopM (rickyardref01_Octet.s0 fu (i : Int)) fu ((v : Int), 0) = some ((v / 256 ^ i : Nat) : Int) := by
    refine loopM_run (S := fun j => (((v / 256 ^ j : Nat) : Int), (j : Int))) i (by simp) ?_ ?_ hf
    · intro j hj
      unfold rickyardref01_Octet.s0
      have w3 : IntKind.i64.wrap ((j : Int) + 1) = ((j + 1 : Nat) : Int) := by rw [w64 (by omega) (by omega)]; omega
      have h1 : (j : Int) < (i : Int) := by omega
      have hle : v / 256 ^ j ≤ v := Nat.div_le_self _ _
      have e1 : Int.tdiv ((v / 256 ^ j : Nat) : Int) 256 = ((v / 256 ^ (j + 1) : Nat) : Int) := by
        rw [tdn, Nat.pow_succ, ← Nat.div_div_eq_div_mul]
      have hle2 : v / 256 ^ (j + 1) ≤ v := Nat.div_le_self _ _
      have e2 : IntKind.u64.wrap ((v / 256 ^ (j + 1) : Nat) : Int) = ((v / 256 ^ (j + 1) : Nat) : Int) := wn64 _ (Nat.lt_of_le_of_lt hle2 hv)
      simp only [h1, decide_true, if_true, e1, e2, w3]
    · unfold rickyardref01_Octet.s0
      simp
  rw [this]
  simp only [Option.bind_some, tmn, wn8]
theorem rlay_eq {fu v n : Nat} (hv : v < 18446744073709551616) (hn : n ≤ 8) (hf : n < fu) : rickyardref01_Lay.f fu (v : Int) (n : Int) = some ((lay v n).map toB) := by
  unfold rickyardref01_Lay.f
  have : loopM (rickyardref01_Lay.s0 fu (v : Int) (n : Int)) fu ([], 0) = some ((lay v n).map toB) := by
    refine loopM_run (S := fun j => ((lay v j).map toB, (j : Int))) n (by simp [lay]) ?_ ?_ hf
    · intro j hj
      unfold rickyardref01_Lay.s0
      have w3 : IntKind.i64.wrap ((j : Int) + 1) = ((j + 1 : Nat) : Int) := by rw [w64 (by omega) (by omega)]; omega
      have h1 : (j : Int) < (n : Int) := by omega
      have hlim : ((lay v j).map toB).length + ([((v / 256 ^ j % 256 : Nat) : Int)].map toB).length ≤ LIM := by
        have : (9 : Nat) ≤ LIM := by decide
        simp only [List.length_map, lay_len, List.length_cons, List.length_nil]
        omega
      simp only [h1, decide_true, if_true, roctet_eq (fu := fu) hv (by omega : j ≤ 1000) (by omega), Option.bind_some, w3]
      rw [if_pos hlim, lay_succ, List.map_append]
    · unfold rickyardref01_Lay.s0
      simp
  rw [this]
  rfl
def num : List Int → Nat
  | [] => 0
  | c :: l => c.toNat + 256 * num l
theorem num_append : ∀ (a b : List Int), num (a ++ b) = num a + 256 ^ a.length * num b
  | [], b => by simp [num]
  | c :: a, b => by
    simp only [List.cons_append, num, num_append a b, List.length_cons, Nat.pow_succ]
    rw [Nat.mul_add, Nat.add_assoc, ← Nat.mul_assoc, Nat.mul_comm 256 (256 ^ a.length)]
theorem num_lt : ∀ {l : List Int}, Bytes l → num l < 256 ^ l.length
  | [], _ => by simp [num]
  | c :: l, h => by
    have h1 := h c (by simp)
    have h2 := num_lt (l := l) fun x hx => h x (by simp [hx])
    simp only [num, List.length_cons, Nat.pow_succ]
    omega
theorem lay_num : ∀ {l : List Int}, Bytes l → lay (num l) l.length = l
  | [], _ => rfl
  | c :: l, h => by
    have h1 := h c (by simp)
    have h2 := lay_num (l := l) fun x hx => h x (by simp [hx])
    have e : lay (num (c :: l)) (l.length + 1) = c :: lay (num l) l.length := by
      unfold lay
      rw [List.range_succ_eq_map, List.map_cons, List.map_map]
      congr 1
      · simp only [num, Nat.pow_zero, Nat.div_one]
        omega
      · apply List.map_congr_left
        intro i hi
        simp only [Function.comp, num, Nat.succ_eq_add_one, Nat.pow_succ]
        rw [Nat.mul_comm (256 ^ i) 256, ← Nat.div_div_eq_div_mul, show (c.toNat + 256 * num l) / 256 = num l from by omega]
    rw [List.length_cons, e, h2]
theorem num_lay (v : Nat) : ∀ n, num (lay v n) = v % 256 ^ n
  | 0 => by simp [lay, num, Nat.mod_one]
  | n + 1 => by
    rw [lay_succ, num_append, num_lay v n, lay_len]
    simp only [num]
    rw [Int.toNat_natCast, Nat.mul_zero, Nat.add_zero, Nat.pow_succ, Nat.mod_mul]
theorem or_add (a c j : Nat) (ha : a < 256 ^ j) : a ||| c * 256 ^ j = a + 256 ^ j * c := by
  have e : 256 ^ j = 2 ^ (8 * j) := by rw [Nat.pow_mul]
  rw [e] at ha ⊢
  rw [Nat.mul_comm c, Nat.or_comm, ← Nat.two_pow_add_eq_or_of_lt ha, Nat.add_comm]
theorem read_eq {fu : Nat} {l : List Int} (hb : Bytes l) (hl : l.length ≤ 8) (hf : l.length < fu) : octet_Read.f fu l = some ((num l : Nat) : Int) := by
  unfold octet_Read.f
  have hm : mnI (l.length : Int) 8 = (l.length : Int) := by
    unfold mnI
    split <;> omega
  have hc : cut l 0 (l.length : Int) = l := by
    unfold cut
    simp
  rw [hm, if_pos ⟨by omega, Int.le_refl _⟩]
  have : loopM (octet_Read.s0 fu l) fu (0, 0) = some ((num l : Nat) : Int) := by
    refine loopM_run (S := fun j => (((num (l.take j) : Nat) : Int), (j : Int))) l.length (by simp [num]) ?_ ?_ hf
    · intro j hj
      unfold octet_Read.s0
      rw [hm, hc]
      have h1 : (j : Int) < (l.length : Int) := by omega
      have w3 : IntKind.i64.wrap ((j : Int) + 1) = ((j + 1 : Nat) : Int) := by rw [w64 (by omega) (by omega)]; omega
      have w4 : IntKind.i64.wrap (8 * (j : Int)) = ((8 * j : Nat) : Int) := by rw [w64 (by omega) (by omega)]; omega
      have hcb := hb _ (List.getElem_mem hj)
      obtain ⟨c, hc'⟩ : ∃ c : Nat, l[j] = (c : Int) := ⟨l[j].toNat, by omega⟩
      have hlt : num (l.take j) < 256 ^ j := by
        have := num_lt (l := l.take j) fun x hx => hb x (List.mem_of_mem_take hx)
        rwa [List.length_take, Nat.min_eq_left (by omega)] at this
      have e256 : (256 : Nat) ^ j * 256 ≤ 256 ^ 8 := by
        rw [← Nat.pow_succ]
        exact Nat.pow_le_pow_right (by decide) (by omega)
      have e8 : (256 : Nat) ^ 8 = 18446744073709551616 := by decide
      have hcj : c * 256 ^ j < 18446744073709551616 := by
        have : c * 256 ^ j ≤ 255 * 256 ^ j := Nat.mul_le_mul_right _ (by omega)
        have : 0 < 256 ^ j := Nat.pow_pos (by decide)
        omega
      have e1 : shL .u64 (IntKind.u64.wrap (ix l (j : Int))) ((8 * j : Nat) : Int) = ((c * 256 ^ j : Nat) : Int) := by
        rw [ix_nat hj, hc', wu64 (by omega) (by omega)]
        unfold shL
        rw [Int.toNat_natCast, Nat.min_eq_left (by show 8 * j ≤ 64; omega)]
        have : (c : Int) * 2 ^ (8 * j) = ((c * 256 ^ j : Nat) : Int) := by
          have h256 : ((256 ^ j : Nat) : Int) = 2 ^ (8 * j) := by
            rw [Int.natCast_pow, Int.pow_mul]
            exact congrArg (fun z : Int => z ^ j) (by decide : ((256 : Nat) : Int) = 2 ^ 8)
          rw [Int.natCast_mul, h256]
        rw [this, wu64 (by omega) (by omega)]
      have e2 : bOr .u64 ((num (l.take j) : Nat) : Int) ((c * 256 ^ j : Nat) : Int) = ((num (l.take (j + 1)) : Nat) : Int) := by
        unfold bOr
        show IntKind.u64.wrap (((BitVec.ofInt 64 ((num (l.take j) : Nat) : Int) ||| BitVec.ofInt 64 ((c * 256 ^ j : Nat) : Int)).toNat : Nat) : Int) = _
        rw [BitVec.ofInt_natCast, BitVec.ofInt_natCast, BitVec.toNat_or, BitVec.toNat_ofNat, BitVec.toNat_ofNat, Nat.mod_eq_of_lt (by omega), Nat.mod_eq_of_lt (by omega), or_add _ _ _ hlt, take_next hj, num_append]
        have hs : num (l.take j) + 256 ^ j * c < 18446744073709551616 := by
          rw [Nat.mul_comm]
          have : c * 256 ^ j ≤ 255 * 256 ^ j := Nat.mul_le_mul_right _ (by omega)
          omega
        rw [wu64 (by omega) (by omega)]
        simp only [num, hc', Int.toNat_natCast, List.length_take, Nat.min_eq_left (by omega : j ≤ l.length), Nat.mul_zero, Nat.add_zero]
      simp only [h1, decide_true, if_true, w4, e1, e2, w3]
      rw [if_pos ⟨by omega, trivial⟩, if_pos (by omega)]
    · unfold octet_Read.s0
      rw [hm, hc]
      simp
  rw [this]
  rfl
end Go.Proofs.Ytklhbaghbmndeaa.Pure

/- A device, in plain words: what each step leaves. -/
set_option linter.unusedVariables false
set_option linter.unusedSimpArgs false
namespace Go.Proofs.Ytklhbaghbmndeaa.Pure
open Go Go.Xw
abbrev Cell := S_pmem_cell
abbrev Dev := S_pmem_Device
def keepC (c : Cell) (w : Int) : Cell := ⟨w, c.stored, 0, false⟩
def openC (c : Cell) : Bool := c.flushed || !decide (c.stored = c.lasts)
def evict (p : Int) (cs : List Cell) : List Cell := cs.mapIdx fun i c => if 0 ≤ p ∧ (i : Int) = p % (cs.length : Int) then keepC c c.stored else c
def pick (p : S_pmem_plan) : Int := if p.list.length = 0 then -1 else ix p.list p.at_
def nextP (p : S_pmem_plan) : S_pmem_plan := if p.list.length = 0 then p else ⟨p.list, (p.at_ + 1) % (p.list.length : Int)⟩
def tick (d : Dev) : Dev := ⟨evict (pick d.plan) d.cells, nextP d.plan, if d.armed then decide (d.left - 1 = 0) else d.off, d.armed, if d.armed then d.left - 1 else d.left, d.steps + 1⟩
def mayI (off : Bool) (k n : Int) : Int := if off = true then 3 else if k < 0 ∨ k ≥ n then 2 else 0
def putC (k w : Int) (cs : List Cell) : List Cell := cs.mapIdx fun i c => if (i : Int) = k then ⟨c.lasts, w, c.sent, c.flushed⟩ else c
def sendC (c : Cell) : Cell := ⟨c.lasts, c.stored, c.stored, true⟩
def sendL (k : Int) (cs : List Cell) : List Cell := cs.mapIdx fun i c => if 8 * k ≤ (i : Int) ∧ (i : Int) < 8 * k + 8 then sendC c else c
def fenceC (c : Cell) : Cell := if c.flushed = true then keepC c c.sent else c
def withC (d : Dev) (cs : List Cell) : Dev := ⟨cs, d.plan, d.off, d.armed, d.left, d.steps⟩
def storeD (d : Dev) (k w : Int) : Int × Dev := if mayI d.off k (d.cells.length : Int) = 0 then (0, tick (withC d (putC k w d.cells))) else (mayI d.off k (d.cells.length : Int), d)
def loadD (d : Dev) (k : Int) : Int × Int := if mayI d.off k (d.cells.length : Int) = 0 then ((ix d.cells k).stored, 0) else (0, mayI d.off k (d.cells.length : Int))
def flushD (d : Dev) (k : Int) : Int × Dev := if mayI d.off k ((d.cells.length / 8 : Nat) : Int) = 0 then (0, tick (withC d (sendL k d.cells))) else (mayI d.off k ((d.cells.length / 8 : Nat) : Int), d)
def fenceD (d : Dev) : Int × Dev := if d.off = true then (3, d) else (0, tick (withC d (d.cells.map fenceC)))
def armD (d : Dev) (n : Int) : Dev := if d.off = true then d else ⟨d.cells, d.plan, decide (n = 0), decide (n ≥ 0), n, d.steps⟩
def planD (d : Dev) (l : List Int) : Dev := ⟨d.cells, ⟨l, 0⟩, d.off, d.armed, d.left, d.steps⟩
def fateC (c : Cell) (n : Int) : Int := if n % 3 = 2 then c.stored else if n % 3 = 1 ∧ c.flushed = true then c.sent else c.lasts
def opens (cs : List Cell) (i : Nat) : Nat := ((cs.take i).filter openC).length
def crashC (c : Cell) (n : Int) : Cell := if openC c = true then ⟨fateC c n, fateC c n, 0, false⟩ else ⟨c.lasts, c.lasts, c.sent, c.flushed⟩
def crashL (l : List Int) (cs : List Cell) : List Cell := cs.mapIdx fun i c => crashC c (l.getD (opens cs i) 0)
def crashD (d : Dev) (l : List Int) : Dev := ⟨crashL l d.cells, ⟨[], 0⟩, false, false, 0, d.steps⟩
def doD (d : Dev) (a : S_rickyardlaw05_Act) : (Int × Int) × Dev :=
  if a.Kind % 7 = 0 then ((0, (storeD d a.At a.W).1), (storeD d a.At a.W).2)
  else if a.Kind % 7 = 1 then (loadD d a.At, d)
  else if a.Kind % 7 = 2 then ((0, (flushD d a.At).1), (flushD d a.At).2)
  else if a.Kind % 7 = 3 then ((0, (fenceD d).1), (fenceD d).2)
  else if a.Kind % 7 = 4 then ((0, 0), armD d a.At)
  else if a.Kind % 7 = 5 then ((0, 0), planD d a.L)
  else ((0, 0), crashD d a.L)
def I64 (x : Int) : Prop := -9223372036854775808 ≤ x ∧ x ≤ 9223372036854775807
def U64 (x : Int) : Prop := 0 ≤ x ∧ x ≤ 18446744073709551615
def okC (c : Cell) : Prop := U64 c.lasts ∧ U64 c.stored ∧ U64 c.sent
/-- A device of `n` words that is as it should be, behind at most `B` steps. -/
structure DevOk (n : Nat) (B : Int) (d : Dev) : Prop where
  len : d.cells.length = n
  val : ∀ c ∈ d.cells, okC c
  at0 : d.plan.list.length ≠ 0 → 0 ≤ d.plan.at_ ∧ d.plan.at_ < (d.plan.list.length : Int)
  pl : d.plan.list.length ≤ 1000
  arm : d.armed = true → 0 ≤ d.left ∧ d.left ≤ 9223372036854775807 ∧ d.off = decide (d.left = 0)
  una : d.armed = false → d.off = false
  st : 0 ≤ d.steps ∧ d.steps ≤ B
theorem pnext_eq {fu : Nat} {p : S_pmem_plan} (h0 : p.list.length ≠ 0 → 0 ≤ p.at_ ∧ p.at_ < (p.list.length : Int)) (hl : p.list.length ≤ 1000) : pmem_plan_next__i0.f fu p = some (pick p, nextP p) := by
  unfold pmem_plan_next__i0.f pick nextP
  by_cases e : p.list.length = 0
  · have e' : (p.list.length : Int) = 0 := by omega
    rw [decide_eq_true e', if_pos rfl, if_pos e, if_pos e]
  · have e' : ¬ (p.list.length : Int) = 0 := by omega
    have h := h0 e
    rw [decide_eq_false e', if_neg (by decide), if_pos h, if_pos e', if_neg e, if_neg e, w64 (by omega) (by omega), Int.tmod_eq_emod_of_nonneg (by omega)]
theorem set_upd {cs : List Cell} {k : Nat} (g : Cell → Cell) (hk : k < cs.length) : cs.set k (g (ix cs (k : Int))) = cs.mapIdx fun i c => if i = k then g c else c := by
  rw [ix_nat hk]
  apply List.ext_getElem (by simp)
  intro i h1 h2
  rw [List.getElem_set, List.getElem_mapIdx]
  by_cases e : k = i
  · subst e
    simp
  · rw [if_neg e, if_neg (fun q => e q.symm)]
theorem evict_no {p : Int} (cs : List Cell) (h : ¬ 0 ≤ p) : evict p cs = cs := by
  apply List.ext_getElem (by simp [evict])
  intro i h1 h2
  simp only [evict, List.getElem_mapIdx]
  rw [if_neg fun q => h q.1]
theorem evict_nil {p : Int} : evict p [] = [] := by simp [evict]
theorem dstep_eq {fu n : Nat} {B : Int} {d : Dev} (h : DevOk n B d) (hB : B < 9223372036854775807) (ho : d.off = false) : pmem_Device_step.f fu d = some (tick d) := by
  unfold pmem_Device_step.f
  rw [pnext_eq h.at0 h.pl]
  have hs := h.st
  have w1 : IntKind.i64.wrap (d.steps + 1) = d.steps + 1 := w64 (by omega) (by omega)
  have hc : ∀ q, q = pick d.plan → ((if (if (decide (q ≥ 0)) = true then (decide ((List.length d.cells : Int) > 0)) else false) = true then (if (List.length d.cells : Int) ≠ 0 then (if 0 ≤ (Int.tmod q (List.length d.cells : Int)) ∧ (Int.tmod q (List.length d.cells : Int)) < (List.length d.cells : Int) then ((pmem_cell_keep__i0.f fu (ix d.cells (Int.tmod q (List.length d.cells : Int))) ((ix d.cells (Int.tmod q (List.length d.cells : Int))).stored) : Option S_pmem_cell).bind fun t35 => some ((List.set d.cells (Int.toNat (Int.tmod q (List.length d.cells : Int))) t35))) else none) else none) else some (d.cells)) : Option (List S_pmem_cell)) = some (evict q d.cells) := by
    intro q _
    by_cases hq : q ≥ 0
    · rw [decide_eq_true hq]
      by_cases hl : (List.length d.cells : Int) > 0
      · rw [decide_eq_true hl, Int.tmod_eq_emod_of_nonneg hq]
        have hm0 := Int.emod_nonneg q (show (List.length d.cells : Int) ≠ 0 by omega)
        have hm1 := Int.emod_lt_of_pos q hl
        have e1 : (List.length d.cells : Int) ≠ 0 := by omega
        simp only [if_true, e1, ne_eq, not_false_eq_true, hm0, hm1, and_self, pmem_cell_keep__i0.f, Option.bind_some]
        obtain ⟨k, hk⟩ : ∃ k : Nat, q % (List.length d.cells : Int) = (k : Int) := ⟨(q % (List.length d.cells : Int)).toNat, by omega⟩
        have hkl : k < d.cells.length := by omega
        rw [hk, Int.toNat_natCast]
        refine congrArg some ((set_upd (fun c => keepC c c.stored) hkl).trans ?_)
        apply List.ext_getElem (by simp [evict])
        intro i h1 h2
        simp only [evict, List.getElem_mapIdx, hk]
        by_cases e : i = k
        · rw [if_pos e, if_pos ⟨hq, by omega⟩]
        · rw [if_neg e, if_neg fun z => e (by omega)]
      · have : d.cells = [] := List.length_eq_zero_iff.1 (by omega)
        rw [this]
        simp [evict]
    · rw [evict_no _ hq, decide_eq_false hq]
      simp
  have hd : ∀ (r : List Cell), ((((if d.armed = true then some ((decide ((IntKind.i64.wrap (d.left - 1)) = 0)), (IntKind.i64.wrap (d.left - 1))) else some (d.off, d.left)) : Option (Bool × Int)).bind fun x45 => some ((⟨r, (⟨d.plan.list, (nextP d.plan).at_⟩ : S_pmem_plan), x45.1, d.armed, x45.2, (IntKind.i64.wrap (d.steps + 1))⟩ : S_pmem_Device))) : Option Dev) = some ⟨r, nextP d.plan, if d.armed then decide (d.left - 1 = 0) else d.off, d.armed, if d.armed then d.left - 1 else d.left, d.steps + 1⟩ := by
    intro r
    have hp : (⟨d.plan.list, (nextP d.plan).at_⟩ : S_pmem_plan) = nextP d.plan := by
      unfold nextP
      split <;> rfl
    rw [w1, hp]
    cases ha : d.armed
    · simp
    · have := h.arm ha
      rw [ho] at this
      have : d.left ≠ 0 := by
        intro e
        rw [e] at this
        exact absurd this.2.2 (by decide)
      rw [w64 (by omega) (by omega)]
      simp
  simp only [Option.bind_some]
  rw [hc _ rfl]
  exact hd _
theorem evict_len (p : Int) (cs : List Cell) : (evict p cs).length = cs.length := by simp [evict]
theorem keep_ok {c : Cell} {w : Int} (h : okC c) (hw : U64 w) : okC (keepC c w) := ⟨hw, h.2.1, by unfold U64; simp [keepC]⟩
theorem mapIdx_ok {cs : List Cell} {g : Nat → Cell → Cell} (h : ∀ c ∈ cs, okC c) (hg : ∀ i c, okC c → okC (g i c)) : ∀ c ∈ cs.mapIdx g, okC c := by
  intro c hc
  obtain ⟨i, hi, rfl⟩ := List.getElem_of_mem hc
  rw [List.getElem_mapIdx]
  exact hg _ _ (h _ (List.getElem_mem _))
theorem evict_ok {p : Int} {cs : List Cell} (h : ∀ c ∈ cs, okC c) : ∀ c ∈ evict p cs, okC c := by
  refine mapIdx_ok h fun i c hc => ?_
  split
  · exact keep_ok hc hc.2.1
  · exact hc
theorem tick_ok {n : Nat} {B : Int} {d : Dev} (h : DevOk n B d) (ho : d.off = false) : DevOk n (B + 1) (tick d) := by
  refine ⟨?_, ?_, ?_, ?_, ?_, ?_, ?_⟩
  · exact (evict_len _ _).trans h.len
  · exact evict_ok h.val
  · intro e
    by_cases z : d.plan.list.length = 0
    · exact absurd (by simp [tick, nextP, z]) e
    · have : (tick d).plan = ⟨d.plan.list, (d.plan.at_ + 1) % (d.plan.list.length : Int)⟩ := by simp [tick, nextP, z]
      rw [this]
      exact ⟨Int.emod_nonneg _ (by omega), Int.emod_lt_of_pos _ (by omega)⟩
  · by_cases z : d.plan.list.length = 0
    · simp [tick, nextP, z]
    · simp only [tick, nextP, z, if_false]
      exact h.pl
  · intro ha
    have ha' : d.armed = true := ha
    have := h.arm ha'
    have hl : d.left ≠ 0 := by
      intro e
      rw [e, ho] at this
      exact absurd this.2.2 (by decide)
    simp only [tick, ha', if_true]
    exact ⟨by omega, by omega, trivial⟩
  · intro ha
    have ha' : d.armed = false := ha
    simp only [tick, ha', Bool.false_eq_true, if_false]
    exact h.una ha'
  · have := h.st
    simp only [tick]
    omega
theorem DevOk.up {n : Nat} {B C : Int} {d : Dev} (h : DevOk n B d) (hc : B ≤ C) : DevOk n C d := ⟨h.len, h.val, h.at0, h.pl, h.arm, h.una, ⟨h.st.1, by have := h.st; omega⟩⟩
theorem with_ok {n : Nat} {B : Int} {d : Dev} (h : DevOk n B d) {cs : List Cell} (hl : cs.length = n) (hv : ∀ c ∈ cs, okC c) : DevOk n B (withC d cs) := ⟨hl, hv, h.at0, h.pl, h.arm, h.una, h.st⟩
end Go.Proofs.Ytklhbaghbmndeaa.Pure

/- A device, in plain words: the calls. -/
set_option linter.unusedVariables false
set_option linter.unusedSimpArgs false
namespace Go.Proofs.Ytklhbaghbmndeaa.Pure
open Go Go.Xw
theorem may_eq {fu : Nat} {d : Dev} {k m : Int} : pmem_Device_may.f fu d k m = some (mayI d.off k m) := by
  unfold pmem_Device_may.f mayI
  cases d.off
  · simp only [Bool.false_eq_true, if_false]
    by_cases h1 : k < 0
    · simp [h1]
    · by_cases h2 : k ≥ m <;> simp [h1, h2]
  · simp
theorem may_zero {b : Bool} {k m : Int} : mayI b k m = 0 ↔ b = false ∧ 0 ≤ k ∧ k < m := by
  unfold mayI
  cases b
  · simp only [Bool.false_eq_true, if_false]
    split <;> simp <;> omega
  · simp
theorem ix_set {α : Type} [Inhabited α] {l : List α} {k : Nat} {v : α} (h : k < l.length) : ix (l.set k v) (k : Int) = v := by
  rw [ix_nat (by simpa using h)]
  simp
theorem store_eq {fu n : Nat} {B k w : Int} {d : Dev} (h : DevOk n B d) (hB : B < 9223372036854775807) (hw : U64 w) : pmem_Device_Store.f fu d k w = some (storeD d k w) := by
  unfold pmem_Device_Store.f storeD
  rw [may_eq]
  simp only [Option.bind_some]
  by_cases e : mayI d.off k (d.cells.length : Int) = 0
  · obtain ⟨ho, h0, h1⟩ := may_zero.1 e
    rw [decide_eq_true e, if_pos e, if_neg (by decide), if_pos ⟨h0, h1⟩]
    obtain ⟨j, rfl⟩ : ∃ j : Nat, k = (j : Int) := ⟨k.toNat, by omega⟩
    have e1 : List.set d.cells (Int.toNat (j : Int)) (⟨(ix d.cells (j : Int)).lasts, w, (ix d.cells (j : Int)).sent, (ix d.cells (j : Int)).flushed⟩ : S_pmem_cell) = putC (j : Int) w d.cells := by
      rw [Int.toNat_natCast]
      refine (set_upd (fun c => ⟨c.lasts, w, c.sent, c.flushed⟩) (by omega)).trans ?_
      apply List.ext_getElem (by simp [putC])
      intro i h1 h2
      simp only [putC, List.getElem_mapIdx, Int.natCast_inj]
    have e2 : pmem_Device_step.f fu (⟨putC (j : Int) w d.cells, d.plan, d.off, d.armed, d.left, d.steps⟩ : S_pmem_Device) = some (tick (withC d (putC (j : Int) w d.cells))) := by
      refine dstep_eq (with_ok h (by simp [putC, h.len]) (mapIdx_ok h.val fun i c hc => ?_)) hB ho
      split
      · exact ⟨hc.1, hw, hc.2.2⟩
      · exact hc
    rw [e1, e2]
    rfl
  · rw [decide_eq_false e, if_neg e, if_pos (by decide)]
theorem load_eq {fu : Nat} {k : Int} {d : Dev} : pmem_Device_Load.f fu d k = some (loadD d k) := by
  unfold pmem_Device_Load.f loadD
  rw [may_eq]
  simp only [Option.bind_some]
  by_cases e : mayI d.off k (d.cells.length : Int) = 0
  · obtain ⟨ho, h0, h1⟩ := may_zero.1 e
    rw [decide_eq_true e, if_pos e, if_neg (by decide), if_pos ⟨h0, h1⟩]
  · rw [decide_eq_false e, if_neg e, if_pos (by decide)]
theorem lines_eq {fu : Nat} {d : Dev} (h : d.cells.length ≤ 1000000) : pmem_Device_Lines.f fu d = some ((d.cells.length / 8 : Nat) : Int) := by
  unfold pmem_Device_Lines.f
  rw [Int.tdiv_eq_ediv_of_nonneg (by omega), w64 (by omega) (by omega)]
  congr 1
theorem send_loop {fu : Nat} {cs : List Cell} {k : Nat} (h : 8 * k + 8 ≤ cs.length) (hl : cs.length ≤ 1000000) (hf : 8 < fu) : loopM (pmem_Device_Flush.s0 fu (k : Int)) fu (0, cs) = some (sendL (k : Int) cs) := by
  refine loopM_run (S := fun j => ((j : Int), upd (fun _ c => sendC c) (8 * k) j cs)) 8 (by rw [upd_zero]; rfl) ?_ ?_ hf
  · intro j hj
    unfold pmem_Device_Flush.s0
    have w1 : IntKind.i64.wrap ((k : Int) * 8) = ((8 * k : Nat) : Int) := by rw [w64 (by omega) (by omega)]; omega
    have w2 : IntKind.i64.wrap (((8 * k : Nat) : Int) + (j : Int)) = ((8 * k + j : Nat) : Int) := by rw [w64 (by omega) (by omega)]; omega
    have w3 : IntKind.i64.wrap ((j : Int) + 1) = ((j + 1 : Nat) : Int) := by rw [w64 (by omega) (by omega)]; omega
    have hlt : 8 * k + j < (upd (fun _ c => sendC c) (8 * k) j cs).length := by rw [upd_len]; omega
    have c1 : 0 ≤ ((8 * k + j : Nat) : Int) ∧ ((8 * k + j : Nat) : Int) < ((upd (fun _ c => sendC c) (8 * k) j cs).length : Int) := by omega
    have c2 : (j : Int) < 8 := by omega
    simp only [w1, w2, w3]
    rw [decide_eq_true c2, if_pos rfl, if_pos c1, Int.toNat_natCast, ix_set hlt, List.set_set, ix_nat hlt, upd_next _ _ _ _ (by omega)]
    refine congrArg (fun z => some (Sum.inr (((j + 1 : Nat) : Int), z))) ?_
    exact upd_set (fun _ c => sendC c) (8 * k) j cs (by omega)
  · unfold pmem_Device_Flush.s0
    rw [decide_eq_false (show ¬ (((8 : Nat) : Int) < 8) by decide), if_neg (by decide)]
    refine congrArg (fun z => some (Sum.inl z)) ?_
    apply List.ext_getElem (by simp [upd, sendL])
    intro i h1 h2
    simp only [upd, sendL, List.getElem_mapIdx]
    by_cases c : 8 * k ≤ i ∧ i < 8 * k + 8
    · rw [if_pos c, if_pos (by omega)]
    · rw [if_neg c, if_neg (by omega)]
theorem sendL_ok {cs : List Cell} {k : Int} (h : ∀ c ∈ cs, okC c) : ∀ c ∈ sendL k cs, okC c := by
  refine mapIdx_ok h fun i c hc => ?_
  split
  · exact ⟨hc.1, hc.2.1, hc.2.1⟩
  · exact hc
theorem flush_eq {fu n : Nat} {B k : Int} {d : Dev} (h : DevOk n B d) (hB : B < 9223372036854775807) (hn : n ≤ 1000000) (hf : 8 < fu) : pmem_Device_Flush.f fu d k = some (flushD d k) := by
  unfold pmem_Device_Flush.f flushD
  have hl : d.cells.length ≤ 1000000 := by rw [h.len]; exact hn
  rw [lines_eq hl]
  simp only [Option.bind_some]
  rw [may_eq]
  simp only [Option.bind_some]
  by_cases e : mayI d.off k ((d.cells.length / 8 : Nat) : Int) = 0
  · obtain ⟨ho, h0, h1⟩ := may_zero.1 e
    rw [decide_eq_true e, if_pos e, if_neg (by decide)]
    obtain ⟨j, rfl⟩ : ∃ j : Nat, k = (j : Int) := ⟨k.toNat, by omega⟩
    rw [send_loop (by omega) hl hf]
    have e2 : pmem_Device_step.f fu (⟨sendL (j : Int) d.cells, d.plan, d.off, d.armed, d.left, d.steps⟩ : S_pmem_Device) = some (tick (withC d (sendL (j : Int) d.cells))) :=
      dstep_eq (with_ok h (by simp [sendL, h.len]) (sendL_ok h.val)) hB ho
    simp only [Option.bind_some]
    rw [e2]
    rfl
  · rw [decide_eq_false e, if_neg e, if_pos (by decide)]
theorem fence_loop {fu : Nat} {d : Dev} (hl : d.cells.length ≤ 1000000) (hf : d.cells.length < fu) : loopM (pmem_Device_Fence.s0 fu d) fu (0, d.cells) = some (d.cells.map fenceC) := by
  refine loopM_run (S := fun j => ((j : Int), upd (fun _ c => fenceC c) 0 j d.cells)) d.cells.length (by rw [upd_zero]; rfl) ?_ ?_ hf
  · intro j hj
    unfold pmem_Device_Fence.s0
    have w3 : IntKind.i64.wrap ((j : Int) + 1) = ((j + 1 : Nat) : Int) := by rw [w64 (by omega) (by omega)]; omega
    have hlt : j < (upd (fun _ c => fenceC c) 0 j d.cells).length := by rw [upd_len]; omega
    have hnx : (upd (fun _ c => fenceC c) 0 j d.cells)[j] = d.cells[j] := by
      rw [upd_get, if_neg (by omega)]
    have c1 : 0 ≤ (j : Int) ∧ (j : Int) < ((upd (fun _ c => fenceC c) 0 j d.cells).length : Int) := by omega
    have c2 : (j : Int) < (d.cells.length : Int) := by omega
    simp only [w3]
    rw [decide_eq_true c2, if_pos rfl, if_pos c1, Int.toNat_natCast, ix_nat hlt, hnx]
    have hs := upd_set (fun _ c => fenceC c) 0 j d.cells (by omega)
    simp only [Nat.zero_add] at hs
    cases hfl : d.cells[j].flushed
    · have : fenceC d.cells[j] = d.cells[j] := by simp [fenceC, hfl]
      have := upd_same (fun _ c => fenceC c) 0 j d.cells (by omega) (by simpa using this)
      simp only [Bool.false_eq_true, if_false, Option.bind_some]
      rw [this]
    · have : fenceC d.cells[j] = keepC d.cells[j] d.cells[j].sent := by simp [fenceC, hfl]
      rw [this] at hs
      simp only [if_true, pmem_cell_keep__i0.f, Option.bind_some]
      refine congrArg (fun z => some (Sum.inr (((j + 1 : Nat) : Int), z))) hs
  · unfold pmem_Device_Fence.s0
    rw [decide_eq_false (by omega), if_neg (by decide)]
    refine congrArg (fun z => some (Sum.inl z)) ?_
    show upd (fun _ c => fenceC c) 0 d.cells.length d.cells = _
    rw [upd_all]
    apply List.ext_getElem (by simp)
    intro i h1 h2
    simp
theorem fence_okC {c : Cell} (h : okC c) : okC (fenceC c) := by
  unfold fenceC
  split
  · exact keep_ok h h.2.2
  · exact h
theorem fence_eq {fu n : Nat} {B : Int} {d : Dev} (h : DevOk n B d) (hB : B < 9223372036854775807) (hn : n ≤ 1000000) (hf : n < fu) : pmem_Device_Fence.f fu d = some (fenceD d) := by
  unfold pmem_Device_Fence.f fenceD
  rw [may_eq]
  simp only [Option.bind_some]
  cases ho : d.off
  · have e : mayI false 0 1 = 0 := by decide
    rw [e, if_neg (by decide), if_neg (by decide), fence_loop (by rw [h.len]; exact hn) (by rw [h.len]; exact hf)]
    have e2 : pmem_Device_step.f fu (⟨d.cells.map fenceC, d.plan, d.off, d.armed, d.left, d.steps⟩ : S_pmem_Device) = some (tick (withC d (d.cells.map fenceC))) :=
      dstep_eq (with_ok h (by simp [h.len]) (fun c hc => by
        obtain ⟨x, hx, rfl⟩ := List.mem_map.1 hc
        exact fence_okC (h.val x hx))) hB ho
    rw [ho] at e2
    simp only [Option.bind_some]
    rw [e2]
    rfl
  · have e : mayI true 0 1 = 3 := by decide
    rw [e]
    rfl
theorem arm_eq {fu : Nat} {d : Dev} {k : Int} : pmem_Device_Arm.f fu d k = some (armD d k) := by
  unfold pmem_Device_Arm.f armD
  split <;> rfl
theorem plan_eq {fu : Nat} {d : Dev} {l : List Int} (hl : l.length ≤ 1000000) : pmem_Device_Plan.f fu d l = some (planD d l) := by
  unfold pmem_Device_Plan.f slices_Clone_1.f planD
  rw [if_pos (Nat.le_trans hl (by decide))]
  rfl
theorem openr_eq {fu : Nat} {c : Cell} : pmem_cell_open__r0.f fu c = some (openC c) := by
  unfold pmem_cell_open__r0.f openC
  cases c.flushed <;> rfl
theorem fater_eq {fu : Nat} {c : Cell} {n : Int} (hn : I64 n) : pmem_cell_fate__r0.f fu c n = some (fateC c n) := by
  unfold pmem_cell_fate__r0.f fateC
  have hr : Int.tmod n 3 = n % 3 ∧ 0 ≤ n ∨ Int.tmod n 3 = n % 3 - 3 ∧ n < 0 ∧ n % 3 ≠ 0 ∨ Int.tmod n 3 = 0 ∧ n % 3 = 0 := by
    rcases Int.lt_or_le n 0 with h | h
    · have e1 : Int.tmod n 3 = -(Int.tmod (-n) 3) := by rw [Int.neg_tmod, Int.neg_neg]
      have e2 : Int.tmod (-n) 3 = (-n) % 3 := Int.tmod_eq_emod_of_nonneg (by omega)
      omega
    · exact .inl ⟨Int.tmod_eq_emod_of_nonneg h, h⟩
  generalize Int.tmod n 3 = t at *
  generalize hq : n % 3 = q at *
  have hq3 : 0 ≤ q ∧ q < 3 := by omega
  have : q = 0 ∧ t = 0 ∨ q = 1 ∧ (t = 1 ∨ t = -2) ∨ q = 2 ∧ (t = 2 ∨ t = -1) := by omega
  rcases this with ⟨rfl, rfl⟩ | ⟨rfl, rfl | rfl⟩ | ⟨rfl, rfl | rfl⟩ <;> cases c.flushed <;> rfl
theorem opens_succ {cs : List Cell} {j : Nat} (h : j < cs.length) : opens cs (j + 1) = opens cs j + (if openC cs[j] = true then 1 else 0) := by
  unfold opens
  rw [take_next h, List.filter_append, List.length_append]
  cases hc : openC cs[j] <;> simp [hc]
theorem crash_loop {fu : Nat} {d : Dev} {l : List Int} (hl : d.cells.length ≤ 1000000) (hi : ∀ x ∈ l, I64 x) (hf : d.cells.length < fu) : loopM (pmem_Device_Crash.s0 fu d) fu (l, 0, d.cells) = some (crashL l d.cells) := by
  refine loopM_run (S := fun j => (l.drop (opens d.cells j), (j : Int), upd (fun i c => crashC c (l.getD (opens d.cells i) 0)) 0 j d.cells)) d.cells.length (by rw [upd_zero]; simp [opens]) ?_ ?_ hf
  · intro j hj
    unfold pmem_Device_Crash.s0
    have w3 : IntKind.i64.wrap ((j : Int) + 1) = ((j + 1 : Nat) : Int) := by rw [w64 (by omega) (by omega)]; omega
    have hlt : j < (upd (fun i c => crashC c (l.getD (opens d.cells i) 0)) 0 j d.cells).length := by rw [upd_len]; omega
    have hnx : (upd (fun i c => crashC c (l.getD (opens d.cells i) 0)) 0 j d.cells)[j] = d.cells[j] := by
      rw [upd_get, if_neg (by omega)]
    have hs := upd_set (fun i c => crashC c (l.getD (opens d.cells i) 0)) 0 j d.cells (by omega)
    simp only [Nat.zero_add] at hs
    rw [opens_succ hj]
    have c1 : 0 ≤ (j : Int) ∧ (j : Int) < ((upd (fun i c => crashC c (l.getD (opens d.cells i) 0)) 0 j d.cells).length : Int) := by omega
    have c2 : (j : Int) < (d.cells.length : Int) := by omega
    simp only [w3]
    rw [decide_eq_true c2, if_pos rfl, if_pos c1, Int.toNat_natCast, ix_nat hlt, hnx, openr_eq]
    generalize hU : upd (fun i c => crashC c (l.getD (opens d.cells i) 0)) 0 j d.cells = U at *
    simp only [Option.bind_some]
    cases ho : openC d.cells[j]
    · have : crashC d.cells[j] (l.getD (opens d.cells j) 0) = ⟨d.cells[j].lasts, d.cells[j].lasts, d.cells[j].sent, d.cells[j].flushed⟩ := by simp [crashC, ho]
      rw [this] at hs
      simp only [Bool.false_eq_true, if_false, Option.bind_some, ix_nat hlt, hnx, hlt, Int.ofNat_lt, if_true, Nat.add_zero]
      rw [hs]
    · have hx : ∀ v, ix (U.set j (keepC d.cells[j] v)) (j : Int) = keepC d.cells[j] v := fun v => ix_set hlt
      have key : ∀ v, v = l.getD (opens d.cells j) 0 → (U.set j (keepC d.cells[j] (fateC d.cells[j] v))).set j (⟨fateC d.cells[j] v, fateC d.cells[j] v, 0, false⟩ : S_pmem_cell) = upd (fun i c => crashC c (l.getD (opens d.cells i) 0)) 0 (j + 1) d.cells := by
        intro v hv
        rw [List.set_set, hv, ← hs]
        simp [crashC, ho]
      have hlt2 : ∀ v, (j : Int) < (((U.set j v)).length : Int) := fun v => by rw [List.length_set]; omega
      simp only [if_true]
      by_cases hd : opens d.cells j < l.length
      · have e0 : (List.length (l.drop (opens d.cells j)) : Int) > 0 := by rw [List.length_drop]; omega
        have e1 : (1 : Int) ≤ (List.length (l.drop (opens d.cells j)) : Int) := by omega
        have e2 : ix (l.drop (opens d.cells j)) 0 = l.getD (opens d.cells j) 0 := by
          rw [show (0 : Int) = ((0 : Nat) : Int) from rfl, ix_nat (by omega)]
          simp [List.getD_eq_getElem?_getD, List.getElem?_eq_getElem hd]
        have e3 : cut (l.drop (opens d.cells j)) 1 (List.length (l.drop (opens d.cells j)) : Int) = l.drop (opens d.cells j + 1) := by
          unfold cut
          rw [Int.toNat_natCast, List.take_length, show Int.toNat 1 = 1 from rfl, List.drop_drop]
        have e4 : I64 (l.getD (opens d.cells j) 0) := by
          rw [getD_of _ _ _ hd]
          exact hi _ (List.getElem_mem hd)
        rw [decide_eq_true e0, if_pos rfl, if_pos e0, if_pos e1, e2, e3]
        simp only [Option.bind_some]
        rw [fater_eq e4]
        simp only [Option.bind_some, pmem_cell_keep__i0.f]
        rw [if_pos (hlt2 _), if_pos (hlt2 _)]
        have := key _ rfl
        simp only [keepC] at this hx ⊢
        rw [hx]
        rw [this]
      · have e0 : ¬ (List.length (l.drop (opens d.cells j)) : Int) > 0 := by rw [List.length_drop]; omega
        have e2 : l.getD (opens d.cells j) 0 = 0 := by
          rw [List.getD_eq_getElem?_getD, List.getElem?_eq_none (by omega)]
          rfl
        have e3 : l.drop (opens d.cells j) = l.drop (opens d.cells j + 1) := by
          rw [List.drop_eq_nil_of_le (by omega), List.drop_eq_nil_of_le (by omega)]
        rw [decide_eq_false e0, if_neg (by decide)]
        simp only [Option.bind_some]
        rw [fater_eq (show I64 0 by unfold I64; omega)]
        simp only [Option.bind_some, pmem_cell_keep__i0.f]
        rw [if_pos (hlt2 _), if_pos (hlt2 _)]
        have := key 0 e2.symm
        simp only [keepC] at this hx ⊢
        rw [hx, this, e3]
  · unfold pmem_Device_Crash.s0
    rw [decide_eq_false (show ¬ ((d.cells.length : Int) < (d.cells.length : Int)) by omega), if_neg (by decide)]
    refine congrArg (fun z => some (Sum.inl z)) ?_
    exact upd_all _ _
theorem crash_eq {fu n : Nat} {B : Int} {d : Dev} {l : List Int} (h : DevOk n B d) (hn : n ≤ 1000000) (hi : ∀ x ∈ l, I64 x) (hf : n < fu) : pmem_Device_Crash.f fu d l = some (crashD d l) := by
  unfold pmem_Device_Crash.f crashD
  rw [crash_loop (by rw [h.len]; exact hn) hi (by rw [h.len]; exact hf)]
  rfl
end Go.Proofs.Ytklhbaghbmndeaa.Pure

/- (*rickyard/pmem.Device).View$1: its model, and that the Go function computes it: written by gen.py. -/
set_option linter.unusedVariables false
namespace Go.Proofs.Ytklhbaghbmndeaa
open Go Go.Xw
def pmem_Device_View_1__r0.f (fu : Nat) (a0 : S_pmem_cell) : Option Int := some (a0.stored)
set_option maxRecDepth 100000 in
set_option maxHeartbeats 400000 in
theorem pmem_Device_View_1__r0.ok (fu : Nat) (w : World) (a0 : S_pmem_cell) (G_0 p_0 : Nat) (A_0 : At w G_0 p_0 (cellsOf [Seg.cell (.int .u64 a0.lasts), Seg.cell (.int .u64 a0.stored), Seg.cell (.int .u64 a0.sent), Seg.cell (.bool a0.flushed)])) (r : Int) (h : pmem_Device_View_1__r0.f fu a0 = some r) :
    Calls Try.prog 91 (([.pointer (some ⟨G_0, p_0, none⟩)] : List Value).toArray) w (fun e w' => ∃ v, e = .returned v ∧ v = .int .u64 r ∧ Gr w w') := by
  unfold pmem_Device_View_1__r0.f at h
  have fB : Gr w w := Fr.refl _ _
  refine calls_cw Try.func91 rfl Try.ntmps91 rfl ?_
  refine cw_seq ?_
  refine cw_region ?_
  refine ol_val (v := .int .u64 0) (by exact xr_assign rfl rfl) rfl rfl rfl ?_
  refine ol_nil ?_
  refine cw_seq ?_
  refine cw_region ?_
  refine ol_val (v := .pointer (some ⟨G_0, p_0, none⟩)) (by exact xr_move rfl rfl) rfl rfl rfl ?_
  refine ol_val (v := .pointer (some ⟨G_0, p_0, none⟩)) (by exact xr_nilCheck rfl rfl) rfl rfl rfl ?_
  refine ol_val (v := .pointer (some ⟨G_0, p_0 + 1, none⟩)) (by exact xr_fieldAddr (p := p_0) (q := 1) rfl fl142_1 rfl) rfl rfl rfl ?_
  refine ol_val (v := .int .u64 a0.stored) (by exact xr_load1 (v := .int .u64 a0.stored) rfl ag22 rfl (At.segs (ss := [Seg.cell (.int .u64 a0.lasts), Seg.cell (.int .u64 a0.stored), Seg.cell (.int .u64 a0.sent), Seg.cell (.bool a0.flushed)]) (At.gr A_0 fB) 1 1 rfl)) rfl rfl rfl ?_
  refine ol_val (v := .int .u64 a0.stored) (by exact xr_assign rfl rfl) rfl rfl rfl ?_
  refine ol_nil ?_
  refine cw_ret ?_
  repeat (first | with_reducible refine thn_r ?_ | with_reducible refine blk_r ?_)
  obtain rfl := Option.some.inj h
  refine fin_ret1 Try.results91 rfl ?_
  exact ⟨_, rfl, rfl, fB⟩
end Go.Proofs.Ytklhbaghbmndeaa

/- (*rickyard/pmem.Device).octets: its model, and that the Go function computes it: written by gen.py. -/
set_option linter.unusedVariables false
namespace Go.Proofs.Ytklhbaghbmndeaa
open Go Go.Xw
def pmem_Device_octets__pmem_Device_View_1.s0 (fu : Nat) (a0 : S_pmem_Device) : (Int × (List Int)) → Option (Sum (List Int) (Int × (List Int))) := fun s11 => (if (decide (s11.1 < (List.length a0.cells : Int))) = true then (if 0 ≤ s11.1 ∧ s11.1 < (List.length a0.cells : Int) then ((pmem_Device_View_1__r0.f fu (ix a0.cells s11.1) : Option Int).bind fun t20 => (if 0 ≤ s11.1 ∧ s11.1 < (List.length s11.2 : Int) then some (Sum.inr ((IntKind.i64.wrap (s11.1 + 1)), (List.set s11.2 (Int.toNat s11.1) t20))) else none)) else none) else some (Sum.inl (s11.2)))
def pmem_Device_octets__pmem_Device_View_1.f (fu : Nat) (a0 : S_pmem_Device) : Option (List Int) := (if 0 ≤ (List.length a0.cells : Int) ∧ Int.toNat (List.length a0.cells : Int) ≤ LIM then ((loopM (pmem_Device_octets__pmem_Device_View_1.s0 fu a0) fu (0, (List.replicate (Int.toNat (List.length a0.cells : Int)) (0 : Int)))).bind fun e12 => ((octet_Octets.f fu e12 : Option (List Int)).bind fun t31 => some (t31))) else none)
set_option maxRecDepth 100000 in
set_option maxHeartbeats 400000 in
theorem pmem_Device_octets__pmem_Device_View_1.ok (fu : Nat) (w : World) (a0 : S_pmem_Device) (G_0 : Nat) (V0_0 : Value) (R0_0 : Rd k_pmem_cell w V0_0 a0.cells) (V0_1 : Value) (R0_1 : Rd (kI .i64) w V0_1 a0.plan.list) (b_0 : Blk w G_0 139 [Seg.cell V0_0 R0_0.one, Seg.cell V0_1 R0_1.one, Seg.cell (.int .i64 a0.plan.at_), Seg.cell (.bool a0.off), Seg.cell (.bool a0.armed), Seg.cell (.int .i64 a0.left), Seg.cell (.int .i64 a0.steps)]) (r : (List Int)) (h : pmem_Device_octets__pmem_Device_View_1.f fu a0 = some r) :
    Calls Try.prog 88 (([.pointer (some ⟨G_0, 0, none⟩), Value.func (.func 91) #[] #[]] : List Value).toArray) w (fun e w' => ∃ v, e = .returned v ∧ ∃ u1 : Value, ∃ o2 : Own (kI .u8) 5 w' w.heap.size u1 r, v = u1 ∧ Gr w w') := by
  unfold pmem_Device_octets__pmem_Device_View_1.f at h
  have fB : Gr w w := Fr.refl _ _
  refine calls_cw Try.func88 rfl Try.ntmps88 rfl ?_
  refine cw_seq ?_
  refine cw_region ?_
  refine ol_val (v := .slice none 0 0) (by exact xr_assign rfl rfl) rfl rfl rfl ?_
  refine ol_nil ?_
  refine cw_seq ?_
  refine cw_region ?_
  refine ol_val (v := .pointer (some ⟨G_0, 0, none⟩)) (by exact xr_move rfl rfl) rfl rfl rfl ?_
  refine ol_val (v := .pointer (some ⟨G_0, 0, none⟩)) (by exact xr_nilCheck rfl rfl) rfl rfl rfl ?_
  refine ol_val (v := .pointer (some ⟨G_0, 0, none⟩)) (by exact xr_fieldAddr (p := 0) (q := 0) rfl fl139_0 rfl) rfl rfl rfl ?_
  refine ol_val (v := V0_0) (by exact xr_load1 (v := V0_0) rfl ag135 rfl (b_0.seg 0 rfl rfl)) rfl rfl rfl ?_
  refine ol_val (v := .int .i64 (List.length a0.cells : Int)) (by exact xr_lenR rfl Try.underlying135 rfl (R0_0.gr fB)) rfl rfl rfl ?_
  obtain ⟨g4, h⟩ := gs h
  refine ol_op (by exact opv_make (K := (kI .u64)) (z := (0 : Int)) rfl Try.underlying46 el22 rfl rfl rfl g4.1 g4.2 rfl fB.size) rfl rfl rfl ?_
  rintro v5 w10 ⟨o7, q6, z8⟩
  have b_0 := b_0.gr q6
  have fB := fB.gr q6
  refine ol_val (v := v5) (by exact xr_assign rfl rfl) rfl rfl rfl ?_
  refine ol_nil ?_
  refine cw_seq ?_
  refine cw_seq ?_
  refine cw_region ?_
  refine ol_val (v := .pointer (some ⟨G_0, 0, none⟩)) (by exact xr_move rfl rfl) rfl rfl rfl ?_
  refine ol_val (v := .pointer (some ⟨G_0, 0, none⟩)) (by exact xr_nilCheck rfl rfl) rfl rfl rfl ?_
  refine ol_val (v := .pointer (some ⟨G_0, 0, none⟩)) (by exact xr_fieldAddr (p := 0) (q := 0) rfl fl139_0 rfl) rfl rfl rfl ?_
  refine ol_val (v := V0_0) (by exact xr_load1 (v := V0_0) rfl ag135 rfl (b_0.seg 0 rfl rfl)) rfl rfl rfl ?_
  refine ol_val (v := .int .i64 (List.length a0.cells : Int)) (by exact xr_lenR rfl Try.underlying135 rfl (R0_0.gr fB)) rfl rfl rfl ?_
  refine ol_val (v := .int .i64 0) (by exact xr_move rfl rfl) rfl rfl rfl ?_
  refine ol_nil ?_
  obtain ⟨e12, l13, h14⟩ := bs h
  refine cw_mid (fun ρ' w' => ∃ o7 : Own (kI .u64) 22 w' w.heap.size v5 e12, ρ' 5 = v5 ∧ Blk w' G_0 139 [Seg.cell V0_0 R0_0.one, Seg.cell V0_1 R0_1.one, Seg.cell (.int .i64 a0.plan.at_), Seg.cell (.bool a0.off), Seg.cell (.bool a0.armed), Seg.cell (.int .i64 a0.left), Seg.cell (.int .i64 a0.steps)] ∧ Gr w w') ?_ ?_
  · refine cw_block ?_
    refine cw_round (fun (s11 : Int × (List Int)) ρ' w' => ∃ o7 : Own (kI .u64) 22 w' w.heap.size v5 s11.2, ρ' 0 = .pointer (some ⟨G_0, 0, none⟩) ∧ ρ' 1 = Value.func (.func 91) #[] #[] ∧ ρ' 5 = v5 ∧ ρ' 17 = .int .i64 (List.length a0.cells : Int) ∧ ρ' 18 = .int .i64 s11.1 ∧ Blk w' G_0 139 [Seg.cell V0_0 R0_0.one, Seg.cell V0_1 R0_1.one, Seg.cell (.int .i64 a0.plan.at_), Seg.cell (.bool a0.off), Seg.cell (.bool a0.armed), Seg.cell (.int .i64 a0.left), Seg.cell (.int .i64 a0.steps)] ∧ Gr w w') l13 ?_ ?_
    · skip
      exact ⟨o7, rfl, rfl, rfl, rfl, rfl, b_0, fB⟩
    · rintro s11 x17 ρ15 w16 ⟨o7, e0, e1, e5, e17, e18, b_0, fB⟩ h
      unfold pmem_Device_octets__pmem_Device_View_1.s0 at h
      refine cw_seq ?_
      refine cw_region ?_
      refine ol_val (v := .bool (decide (s11.1 < (List.length a0.cells : Int)))) (by exact xr_lss rfl e18 e17) rfl rfl rfl ?_
      refine ol_nil ?_
      refine cw_seq ?_
      rcases is h with ⟨c18, h⟩ | ⟨c18, h⟩
      · refine cw_condT rfl c18 ?_
        refine cw_skip ?_
        refine cw_seq ?_
        refine cw_block ?_
        refine cw_seq ?_
        refine cw_region ?_
        refine ol_val (v := .int .i64 s11.1) (by exact xr_move rfl e18) rfl rfl rfl ?_
        refine ol_val (v := .int .i64 s11.1) (by exact xr_assign rfl rfl) rfl rfl rfl ?_
        refine ol_nil ?_
        refine cw_region ?_
        refine ol_val (v := v5) (by exact xr_move rfl e5) rfl rfl rfl ?_
        refine ol_val (v := .int .i64 s11.1) (by exact xr_move rfl rfl) rfl rfl rfl ?_
        refine ol_val (v := Value.func (.func 91) #[] #[]) (by exact xr_move rfl e1) rfl rfl rfl ?_
        refine ol_val (v := .pointer (some ⟨G_0, 0, none⟩)) (by exact xr_move rfl e0) rfl rfl rfl ?_
        refine ol_val (v := .pointer (some ⟨G_0, 0, none⟩)) (by exact xr_nilCheck rfl rfl) rfl rfl rfl ?_
        refine ol_val (v := .pointer (some ⟨G_0, 0, none⟩)) (by exact xr_fieldAddr (p := 0) (q := 0) rfl fl139_0 rfl) rfl rfl rfl ?_
        refine ol_val (v := V0_0) (by exact xr_load1 (v := V0_0) rfl ag135 rfl (b_0.seg 0 rfl rfl)) rfl rfl rfl ?_
        refine ol_val (v := .int .i64 s11.1) (by exact xr_move rfl rfl) rfl rfl rfl ?_
        obtain ⟨g19, h⟩ := gs h
        refine ol_val (v := .pointer (some ⟨(sb V0_0), so V0_0 + Int.toNat s11.1 * 4, none⟩)) (by exact xr_indexR (K := k_pmem_cell) (v := V0_0) rfl Try.underlying135 sz142 rfl (R0_0.gr fB) rfl g19.1 g19.2) rfl rfl rfl ?_
        obtain ⟨t20, k21, h⟩ := bs h
        refine ol_op (by exact opv_callV (C := []) rfl rfl cal91 (ac rfl an) (pmem_Device_View_1__r0.ok fu _ (ix a0.cells s11.1) (sb V0_0) (so V0_0 + Int.toNat s11.1 * 4) (show At _ _ _ (cellsOf [Seg.cell (.int .u64 ((ix a0.cells s11.1).lasts)), Seg.cell (.int .u64 ((ix a0.cells s11.1).stored)), Seg.cell (.int .u64 ((ix a0.cells s11.1).sent)), Seg.cell (.bool ((ix a0.cells s11.1).flushed))]) from ((R0_0.gr fB).elem g19.1 g19.2)) _ k21)) rfl rfl rfl ?_
        rintro _ w23 ⟨rfl, q22⟩
        have b_0 := b_0.gr q22
        have o7 := o7.gr q22
        have fB := fB.gr q22
        obtain ⟨g24, h⟩ := gs h
        refine ol_val (v := .pointer (some ⟨(sb v5), so v5 + Int.toNat s11.1 * 1, none⟩)) (by exact xr_indexR (K := (kI .u64)) (v := v5) rfl Try.underlying46 sz22 rfl o7.rd rfl g24.1 g24.2) rfl rfl rfl ?_
        have f26 := off_ty b_0 o7 (by decide)
        have f27 := o7.geO
        refine ol_op0 (by exact opv_storeRow (z := t20) (xs := cellsOf [Seg.cell (.int .u64 t20)]) rfl sz22 rfl rfl rfl (len_cellsOf _) (one_cellsOf _) o7 g24.1 g24.2 (Spl.whole ((Kd.len _ _).trans (Kd.len _ _).symm)) rfl) rfl rfl ?_
        rintro _ w28 ⟨o7, q25⟩
        have b_0 := b_0.wrO q25 f26
        have fB := fB.wrO q25 f27
        refine ol_nil ?_
        refine blk_i ?_
        refine cw_region ?_
        refine ol_val (v := .int .i64 (IntKind.i64.wrap (s11.1 + 1))) (by exact xr_add rfl e18 rfl) rfl rfl rfl ?_
        refine ol_val (v := .int .i64 (IntKind.i64.wrap (s11.1 + 1))) (by exact xr_move rfl rfl) rfl rfl rfl ?_
        refine ol_nil ?_
        obtain rfl := Option.some.inj h
        refine lp_in ?_
        exact ⟨o7, e0, e1, e5, e17, rfl, b_0, fB⟩
      · refine cw_condF rfl c18 ?_
        refine cw_exit ?_
        repeat (first | with_reducible refine thn_e ?_ | with_reducible refine blk_e rfl ?_)
        obtain rfl := Option.some.inj h
        refine lp_exit ?_
        rintro rfl
        refine thn_x ?_
        exact ⟨o7, e5, b_0, fB⟩
  · rintro ρ29 w30 ⟨o7, e5, b_0, fB⟩
    have h := h14
    refine cw_seq ?_
    refine cw_region ?_
    refine ol_val (v := v5) (by exact xr_move rfl e5) rfl rfl rfl ?_
    obtain ⟨t31, k32, h⟩ := bs h
    refine ol_op (by exact opv_call rfl cal104 (ac rfl an) (octet_Octets.ok fu _ e12 v5 (o7.rd) _ k32)) rfl rfl rfl ?_
    rintro u33 w37 ⟨_, o34, rfl, q36⟩
    have o34 := Own.base o34 fB.size
    have b_0 := b_0.gr q36
    have fB := fB.gr q36
    refine ol_val (v := u33) (by exact xr_assign rfl rfl) rfl rfl rfl ?_
    refine ol_nil ?_
    refine cw_ret ?_
    repeat (first | with_reducible refine thn_r ?_ | with_reducible refine blk_r ?_)
    obtain rfl := Option.some.inj h
    refine fin_ret1 Try.results88 rfl ?_
    exact ⟨_, rfl, u33, o34, rfl, fB⟩
end Go.Proofs.Ytklhbaghbmndeaa

/- (*rickyard/pmem.Device).View: its model, and that the Go function computes it: written by gen.py. -/
set_option linter.unusedVariables false
namespace Go.Proofs.Ytklhbaghbmndeaa
open Go Go.Xw
def pmem_Device_View.f (fu : Nat) (a0 : S_pmem_Device) : Option (List Int) := ((pmem_Device_octets__pmem_Device_View_1.f fu a0 : Option (List Int)).bind fun t4 => some (t4))
set_option maxRecDepth 100000 in
set_option maxHeartbeats 400000 in
theorem pmem_Device_View.ok (fu : Nat) (w : World) (a0 : S_pmem_Device) (G_0 : Nat) (V0_0 : Value) (R0_0 : Rd k_pmem_cell w V0_0 a0.cells) (V0_1 : Value) (R0_1 : Rd (kI .i64) w V0_1 a0.plan.list) (b_0 : Blk w G_0 139 [Seg.cell V0_0 R0_0.one, Seg.cell V0_1 R0_1.one, Seg.cell (.int .i64 a0.plan.at_), Seg.cell (.bool a0.off), Seg.cell (.bool a0.armed), Seg.cell (.int .i64 a0.left), Seg.cell (.int .i64 a0.steps)]) (r : (List Int)) (h : pmem_Device_View.f fu a0 = some r) :
    Calls Try.prog 36 (([.pointer (some ⟨G_0, 0, none⟩)] : List Value).toArray) w (fun e w' => ∃ v, e = .returned v ∧ ∃ u1 : Value, ∃ o2 : Own (kI .u8) 5 w' w.heap.size u1 r, v = u1 ∧ Gr w w') := by
  unfold pmem_Device_View.f at h
  have fB : Gr w w := Fr.refl _ _
  refine calls_cw Try.func36 rfl Try.ntmps36 rfl ?_
  refine cw_seq ?_
  refine cw_region ?_
  refine ol_val (v := .slice none 0 0) (by exact xr_assign rfl rfl) rfl rfl rfl ?_
  refine ol_nil ?_
  refine cw_seq ?_
  refine cw_region ?_
  refine ol_val (v := .pointer (some ⟨G_0, 0, none⟩)) (by exact xr_move rfl rfl) rfl rfl rfl ?_
  obtain ⟨t4, k5, h⟩ := bs h
  refine ol_op (by exact opv_call rfl cal88 (ac rfl (ac rfl an)) (pmem_Device_octets__pmem_Device_View_1.ok fu _ a0 G_0 V0_0 (R0_0.gr fB) V0_1 (R0_1.gr fB) b_0 _ k5)) rfl rfl rfl ?_
  rintro u6 w10 ⟨_, o7, rfl, q9⟩
  have o7 := Own.base o7 fB.size
  have b_0 := b_0.gr q9
  have fB := fB.gr q9
  refine ol_val (v := u6) (by exact xr_assign rfl rfl) rfl rfl rfl ?_
  refine ol_nil ?_
  refine cw_ret ?_
  repeat (first | with_reducible refine thn_r ?_ | with_reducible refine blk_r ?_)
  obtain rfl := Option.some.inj h
  refine fin_ret1 Try.results36 rfl ?_
  exact ⟨_, rfl, u6, o7, rfl, fB⟩
end Go.Proofs.Ytklhbaghbmndeaa

/- (*rickyard/pmem.Device).Up: its model, and that the Go function computes it: written by gen.py. -/
set_option linter.unusedVariables false
namespace Go.Proofs.Ytklhbaghbmndeaa
open Go Go.Xw
def pmem_Device_Up.f (fu : Nat) (a0 : S_pmem_Device) : Option Bool := some ((!a0.off))
set_option maxRecDepth 100000 in
set_option maxHeartbeats 400000 in
theorem pmem_Device_Up.ok (fu : Nat) (w : World) (a0 : S_pmem_Device) (G_0 : Nat) (V0_0 : Value) (R0_0 : Rd k_pmem_cell w V0_0 a0.cells) (V0_1 : Value) (R0_1 : Rd (kI .i64) w V0_1 a0.plan.list) (b_0 : Blk w G_0 139 [Seg.cell V0_0 R0_0.one, Seg.cell V0_1 R0_1.one, Seg.cell (.int .i64 a0.plan.at_), Seg.cell (.bool a0.off), Seg.cell (.bool a0.armed), Seg.cell (.int .i64 a0.left), Seg.cell (.int .i64 a0.steps)]) (r : Bool) (h : pmem_Device_Up.f fu a0 = some r) :
    Calls Try.prog 39 (([.pointer (some ⟨G_0, 0, none⟩)] : List Value).toArray) w (fun e w' => ∃ v, e = .returned v ∧ v = .bool r ∧ Gr w w') := by
  unfold pmem_Device_Up.f at h
  have fB : Gr w w := Fr.refl _ _
  refine calls_cw Try.func39 rfl Try.ntmps39 rfl ?_
  refine cw_seq ?_
  refine cw_region ?_
  refine ol_val (v := .bool false) (by exact xr_assign rfl rfl) rfl rfl rfl ?_
  refine ol_nil ?_
  refine cw_seq ?_
  refine cw_region ?_
  refine ol_val (v := .pointer (some ⟨G_0, 0, none⟩)) (by exact xr_move rfl rfl) rfl rfl rfl ?_
  refine ol_val (v := .pointer (some ⟨G_0, 0, none⟩)) (by exact xr_nilCheck rfl rfl) rfl rfl rfl ?_
  refine ol_val (v := .pointer (some ⟨G_0, 3, none⟩)) (by exact xr_fieldAddr (p := 0) (q := 3) rfl fl139_2 rfl) rfl rfl rfl ?_
  refine ol_val (v := .bool a0.off) (by exact xr_load1 (v := .bool a0.off) rfl ag4 rfl (b_0.seg 3 rfl rfl)) rfl rfl rfl ?_
  refine ol_val (v := .bool (!a0.off)) (by exact xr_not rfl rfl) rfl rfl rfl ?_
  refine ol_val (v := .bool (!a0.off)) (by exact xr_assign rfl rfl) rfl rfl rfl ?_
  refine ol_nil ?_
  refine cw_ret ?_
  repeat (first | with_reducible refine thn_r ?_ | with_reducible refine blk_r ?_)
  obtain rfl := Option.some.inj h
  refine fin_ret1 Try.results39 rfl ?_
  exact ⟨_, rfl, rfl, fB⟩
end Go.Proofs.Ytklhbaghbmndeaa

/- (*rickyard/pmem.Device).Steps: its model, and that the Go function computes it: written by gen.py. -/
set_option linter.unusedVariables false
namespace Go.Proofs.Ytklhbaghbmndeaa
open Go Go.Xw
def pmem_Device_Steps.f (fu : Nat) (a0 : S_pmem_Device) : Option Int := some (a0.steps)
set_option maxRecDepth 100000 in
set_option maxHeartbeats 400000 in
theorem pmem_Device_Steps.ok (fu : Nat) (w : World) (a0 : S_pmem_Device) (G_0 : Nat) (V0_0 : Value) (R0_0 : Rd k_pmem_cell w V0_0 a0.cells) (V0_1 : Value) (R0_1 : Rd (kI .i64) w V0_1 a0.plan.list) (b_0 : Blk w G_0 139 [Seg.cell V0_0 R0_0.one, Seg.cell V0_1 R0_1.one, Seg.cell (.int .i64 a0.plan.at_), Seg.cell (.bool a0.off), Seg.cell (.bool a0.armed), Seg.cell (.int .i64 a0.left), Seg.cell (.int .i64 a0.steps)]) (r : Int) (h : pmem_Device_Steps.f fu a0 = some r) :
    Calls Try.prog 37 (([.pointer (some ⟨G_0, 0, none⟩)] : List Value).toArray) w (fun e w' => ∃ v, e = .returned v ∧ v = .int .i64 r ∧ Gr w w') := by
  unfold pmem_Device_Steps.f at h
  have fB : Gr w w := Fr.refl _ _
  refine calls_cw Try.func37 rfl Try.ntmps37 rfl ?_
  refine cw_seq ?_
  refine cw_region ?_
  refine ol_val (v := .int .i64 0) (by exact xr_assign rfl rfl) rfl rfl rfl ?_
  refine ol_nil ?_
  refine cw_seq ?_
  refine cw_region ?_
  refine ol_val (v := .pointer (some ⟨G_0, 0, none⟩)) (by exact xr_move rfl rfl) rfl rfl rfl ?_
  refine ol_val (v := .pointer (some ⟨G_0, 0, none⟩)) (by exact xr_nilCheck rfl rfl) rfl rfl rfl ?_
  refine ol_val (v := .pointer (some ⟨G_0, 6, none⟩)) (by exact xr_fieldAddr (p := 0) (q := 6) rfl fl139_5 rfl) rfl rfl rfl ?_
  refine ol_val (v := .int .i64 a0.steps) (by exact xr_load1 (v := .int .i64 a0.steps) rfl ag3 rfl (b_0.seg 6 rfl rfl)) rfl rfl rfl ?_
  refine ol_val (v := .int .i64 a0.steps) (by exact xr_assign rfl rfl) rfl rfl rfl ?_
  refine ol_nil ?_
  refine cw_ret ?_
  repeat (first | with_reducible refine thn_r ?_ | with_reducible refine blk_r ?_)
  obtain rfl := Option.some.inj h
  refine fin_ret1 Try.results37 rfl ?_
  exact ⟨_, rfl, rfl, fB⟩
end Go.Proofs.Ytklhbaghbmndeaa

/- rickyard/octet.Words: its model, and that the Go function computes it: written by gen.py. -/
set_option linter.unusedVariables false
namespace Go.Proofs.Ytklhbaghbmndeaa
open Go Go.Xw
def octet_Words.s0 (fu : Nat) : ((List Int) × (List Int)) → Option (Sum (List Int) ((List Int) × (List Int))) := fun s4 => (if (decide ((List.length s4.1 : Int) ≥ 8)) = true then ((octet_Read.f fu s4.1 : Option Int).bind fun t21 => (if List.length s4.2 + List.length [t21] ≤ LIM then (if (8 : Int) ≤ (List.length s4.1 : Int) then some (Sum.inr ((cut s4.1 8 (List.length s4.1 : Int)), (s4.2 ++ [t21]))) else none) else none)) else some (Sum.inl (s4.2)))
def octet_Words.f (fu : Nat) (a0 : List Int) : Option (List Int) := ((loopM (octet_Words.s0 fu) fu (a0, [])).bind fun e5 => some (e5))
set_option maxRecDepth 100000 in
set_option maxHeartbeats 400000 in
theorem octet_Words.ok (fu : Nat) (w : World) (a0 : List Int) (V0_0 : Value) (R0_0 : Rd (kI .u8) w V0_0 a0) (r : (List Int)) (h : octet_Words.f fu a0 = some r) :
    Calls Try.prog 99 (([V0_0] : List Value).toArray) w (fun e w' => ∃ v, e = .returned v ∧ ∃ u1 : Value, ∃ o2 : Own (kI .u64) 22 w' w.heap.size u1 r, v = u1 ∧ Gr w w') := by
  unfold octet_Words.f at h
  have fB : Gr w w := Fr.refl _ _
  refine calls_cw Try.func99 rfl Try.ntmps99 rfl ?_
  refine cw_seq ?_
  refine cw_region ?_
  refine ol_val (v := .slice none 0 0) (by exact xr_assign rfl rfl) rfl rfl rfl ?_
  refine ol_nil ?_
  refine cw_seq ?_
  refine cw_region ?_
  refine ol_val (v := .slice none 0 0) (by exact xr_assign rfl rfl) rfl rfl rfl ?_
  refine ol_nil ?_
  refine cw_seq ?_
  obtain ⟨e5, l6, h7⟩ := bs h
  refine cw_mid (fun ρ' w' => ∃ v8 : Value, ∃ o9 : Own (kI .u64) 22 w' w.heap.size v8 e5, ρ' 3 = v8 ∧ Gr w w') ?_ ?_
  · refine cw_block ?_
    refine cw_round (fun (s4 : (List Int) × (List Int)) ρ' w' => ∃ v11 : Value, ∃ v13 : Value, ∃ o14 : Own (kI .u64) 22 w' w.heap.size v13 s4.2, ∃ r12 : Rd (kI .u8) w' v11 s4.1, OffRV v11 s4.1 v13 ∧ ρ' 0 = v11 ∧ ρ' 3 = v13 ∧ Gr w w') l6 ?_ ?_
    · skip
      exact ⟨V0_0, (.slice none 0 0), Own.nil _ _ _ _, (R0_0.gr fB), (OffRV.nil _ _), rfl, rfl, fB⟩
    · rintro s4 x19 ρ17 w18 ⟨v11, v13, o14, r12, a16, e0, e3, fB⟩ h
      unfold octet_Words.s0 at h
      refine cw_seq ?_
      refine cw_seq ?_
      refine cw_region ?_
      refine ol_val (v := v11) (by exact xr_move rfl e0) rfl rfl rfl ?_
      refine ol_val (v := .int .i64 (List.length s4.1 : Int)) (by exact xr_lenR rfl Try.underlying43 rfl r12) rfl rfl rfl ?_
      refine ol_val (v := .bool (decide ((List.length s4.1 : Int) ≥ 8))) (by exact xr_geq rfl rfl rfl) rfl rfl rfl ?_
      refine ol_nil ?_
      rcases is h with ⟨c20, h⟩ | ⟨c20, h⟩
      · refine cw_condT rfl c20 ?_
        refine cw_skip ?_
        refine cw_block ?_
        refine cw_seq ?_
        refine cw_region ?_
        refine ol_val (v := v13) (by exact xr_move rfl e3) rfl rfl rfl ?_
        refine ol_val (v := v11) (by exact xr_move rfl e0) rfl rfl rfl ?_
        obtain ⟨t21, k22, h⟩ := bs h
        refine ol_op (by exact opv_call rfl cal109 (ac rfl an) (octet_Read.ok fu _ s4.1 v11 (r12) _ k22)) rfl rfl rfl ?_
        rintro _ w24 ⟨rfl, q23⟩
        have o14 := o14.gr q23
        have r12 := r12.gr q23
        have fB := fB.gr q23
        refine ol_op (by exact opv_buildSlice (K := (kI .u64)) (xs := [t21]) (vals := [.int .u64 t21]) rfl Try.underlying46 el22 rfl rfl ⟨rfl, rfl, trivial⟩ rfl rfl rfl fB.size) rfl rfl rfl ?_
        rintro v25 w30 ⟨o27, q26, z28⟩
        have a31 := OffV.new o14 z28
        have a32 := OffRV.new r12 z28 rfl
        have o14 := o14.gr q26
        have r12 := r12.gr q26
        have fB := fB.gr q26
        obtain ⟨g37, h⟩ := gs h
        have f39 := o14.geO
        refine ol_op (by exact opv_append (K := (kI .u64)) rfl Try.underlying46 el22 rfl rfl rfl rfl rfl o14 o27.rd g37 fB.size) rfl rfl rfl ?_
        rintro v33 w40 ⟨o34, q35, n36⟩
        have a41 := OffRV.app r12 a16 n36 rfl
        have fB := fB.wrO q35 f39
        have r12 := r12.wrV q35 a16
        refine ol_val (v := v33) (by exact xr_assign rfl rfl) rfl rfl rfl ?_
        refine ol_nil ?_
        refine cw_region ?_
        refine ol_val (v := v11) (by exact xr_move rfl e0) rfl rfl rfl ?_
        obtain ⟨g43, h⟩ := gs h
        refine ol_val (v := subv 1 v11 (Int.toNat 8) (List.length s4.1)) (by exact xr_slice_l (K := (kI .u8)) (v := v11) rfl Try.underlying43 sz5 rfl r12 rfl (by decide) g43) rfl rfl rfl ?_
        have r42 : Rd (kI .u8) w40 (subv 1 v11 (Int.toNat 8) (List.length s4.1)) (cut s4.1 8 (List.length s4.1 : Int)) := r12.cut (lo := 8) (hi := (List.length s4.1 : Int)) (by decide) g43 (Int.le_refl _)
        refine ol_val (v := subv 1 v11 (Int.toNat 8) (List.length s4.1)) (by exact xr_assign rfl rfl) rfl rfl rfl ?_
        refine ol_nil ?_
        refine blk_i ?_
        obtain rfl := Option.some.inj h
        refine lp_in ?_
        exact ⟨(subv 1 v11 (Int.toNat 8) (List.length s4.1)), v33, o34, r42, (OffRV.cut a41), rfl, rfl, fB⟩
      · refine cw_condF rfl c20 ?_
        refine cw_exit ?_
        repeat (first | with_reducible refine thn_e ?_ | with_reducible refine blk_e rfl ?_)
        obtain rfl := Option.some.inj h
        refine lp_exit ?_
        rintro rfl
        refine thn_x ?_
        exact ⟨v13, o14, e3, fB⟩
  · rintro ρ44 w45 ⟨v8, o9, e3, fB⟩
    have h := h7
    refine cw_seq ?_
    refine cw_region ?_
    refine ol_val (v := v8) (by exact xr_move rfl e3) rfl rfl rfl ?_
    refine ol_val (v := v8) (by exact xr_assign rfl rfl) rfl rfl rfl ?_
    refine ol_nil ?_
    refine cw_ret ?_
    repeat (first | with_reducible refine thn_r ?_ | with_reducible refine blk_r ?_)
    obtain rfl := Option.some.inj h
    refine fin_ret1 Try.results99 rfl ?_
    exact ⟨_, rfl, v8, o9, rfl, fB⟩
end Go.Proofs.Ytklhbaghbmndeaa

/- rickyard/pmem.From: its model, and that the Go function computes it: written by gen.py. -/
set_option linter.unusedVariables false
namespace Go.Proofs.Ytklhbaghbmndeaa
open Go Go.Xw
def pmem_From.s0 (fu : Nat) (t11 : (List Int)) : (Int × (List S_pmem_cell)) → Option (Sum (List S_pmem_cell) (Int × (List S_pmem_cell))) := fun s18 => (if (decide (s18.1 < (List.length t11 : Int))) = true then (if 0 ≤ s18.1 ∧ s18.1 < (List.length t11 : Int) then (if List.length s18.2 + List.length [(⟨(ix t11 s18.1), (ix t11 s18.1), (0 : Int), false⟩ : S_pmem_cell)] ≤ LIM then some (Sum.inr ((IntKind.i64.wrap (s18.1 + 1)), (s18.2 ++ [(⟨(ix t11 s18.1), (ix t11 s18.1), (0 : Int), false⟩ : S_pmem_cell)]))) else none) else none) else some (Sum.inl (s18.2)))
def pmem_From.f (fu : Nat) (a0 : List Int) : Option S_pmem_Device := (if 0 ≤ (IntKind.i64.wrap ((mnI (IntKind.i64.wrap (Int.tdiv (List.length a0 : Int) 64)) 4096) * 64)) ∧ (IntKind.i64.wrap ((mnI (IntKind.i64.wrap (Int.tdiv (List.length a0 : Int) 64)) 4096) * 64)) ≤ (List.length a0 : Int) then ((octet_Words.f fu (cut a0 0 (IntKind.i64.wrap ((mnI (IntKind.i64.wrap (Int.tdiv (List.length a0 : Int) 64)) 4096) * 64))) : Option (List Int)).bind fun t11 => ((loopM (pmem_From.s0 fu t11) fu (0, [])).bind fun e19 => some ((⟨e19, (⟨[], (0 : Int)⟩ : S_pmem_plan), false, false, (0 : Int), (0 : Int)⟩ : S_pmem_Device)))) else none)
set_option maxRecDepth 100000 in
set_option maxHeartbeats 400000 in
theorem pmem_From.ok (fu : Nat) (w : World) (a0 : List Int) (V0_0 : Value) (R0_0 : Rd (kI .u8) w V0_0 a0) (r : S_pmem_Device) (h : pmem_From.f fu a0 = some r) :
    Calls Try.prog 48 (([V0_0] : List Value).toArray) w (fun e w' => ∃ v, e = .returned v ∧ ∃ u1 : Value, ∃ p2 : ∃ G9 : Nat, ∃ U0 : Value, ∃ U1 : Value, ∃ O0 : Own k_pmem_cell 142 w' w.heap.size U0 r.cells, ∃ O1 : Own (kI .i64) 3 w' w.heap.size U1 r.plan.list, u1 = .pointer (some ⟨G9, 0, none⟩) ∧ w.heap.size ≤ G9 ∧ Blk w' G9 139 [Seg.cell U0 O0.one, Seg.cell U1 O1.one, Seg.cell (.int .i64 r.plan.at_), Seg.cell (.bool r.off), Seg.cell (.bool r.armed), Seg.cell (.int .i64 r.left), Seg.cell (.int .i64 r.steps)], v = u1 ∧ Gr w w') := by
  unfold pmem_From.f at h
  have fB : Gr w w := Fr.refl _ _
  refine calls_cw Try.func48 rfl Try.ntmps48 rfl ?_
  refine cw_seq ?_
  refine cw_region ?_
  refine ol_val (v := .pointer none) (by exact xr_assign rfl rfl) rfl rfl rfl ?_
  refine ol_nil ?_
  refine cw_seq ?_
  refine cw_region ?_
  refine ol_val (v := V0_0) (by exact xr_move rfl rfl) rfl rfl rfl ?_
  refine ol_val (v := .int .i64 (List.length a0 : Int)) (by exact xr_lenR rfl Try.underlying43 rfl (R0_0.gr fB)) rfl rfl rfl ?_
  refine ol_val (v := .int .i64 (IntKind.i64.wrap (Int.tdiv (List.length a0 : Int) 64))) (by exact xr_quo rfl rfl rfl (by decide)) rfl rfl rfl ?_
  refine ol_val (v := .int .i64 (mnI (IntKind.i64.wrap (Int.tdiv (List.length a0 : Int) 64)) 4096)) (by exact xr_min2 rfl rfl rfl) rfl rfl rfl ?_
  refine ol_val (v := .int .i64 (mnI (IntKind.i64.wrap (Int.tdiv (List.length a0 : Int) 64)) 4096)) (by exact xr_assign rfl rfl) rfl rfl rfl ?_
  refine ol_nil ?_
  refine cw_seq ?_
  refine cw_region ?_
  refine ol_val (v := aggV [Seg.cell (.slice none 0 0) (by rfl), Seg.cell (.slice none 0 0) (by rfl), Seg.cell (.int .i64 (0 : Int)), Seg.cell (.bool false), Seg.cell (.bool false), Seg.cell (.int .i64 (0 : Int)), Seg.cell (.int .i64 (0 : Int))]) (by exact xr_build (vals := []) rfl trivial (bl139_ _)) rfl rfl rfl ?_
  refine ol_op (by exact opv_box (ss := [Seg.cell (.slice none 0 0) (by rfl), Seg.cell (.slice none 0 0) (by rfl), Seg.cell (.int .i64 (0 : Int)), Seg.cell (.bool false), Seg.cell (.bool false), Seg.cell (.int .i64 (0 : Int)), Seg.cell (.int .i64 (0 : Int))]) rfl rfl rfl) rfl rfl rfl ?_
  rintro _ w8 ⟨G3, rfl, b4, q5, z6⟩
  have z6 := Nat.le_trans fB.size z6
  have fB := fB.gr q5
  refine ol_val (v := .pointer (some ⟨G3, 0, none⟩)) (by exact xr_assign rfl rfl) rfl rfl rfl ?_
  refine ol_nil ?_
  refine cw_seq ?_
  refine cw_seq ?_
  refine cw_region ?_
  refine ol_val (v := V0_0) (by exact xr_move rfl rfl) rfl rfl rfl ?_
  refine ol_val (v := .int .i64 (mnI (IntKind.i64.wrap (Int.tdiv (List.length a0 : Int) 64)) 4096)) (by exact xr_move rfl rfl) rfl rfl rfl ?_
  refine ol_val (v := .int .i64 (IntKind.i64.wrap ((mnI (IntKind.i64.wrap (Int.tdiv (List.length a0 : Int) 64)) 4096) * 64))) (by exact xr_mul rfl rfl rfl) rfl rfl rfl ?_
  obtain ⟨g10, h⟩ := gs h
  refine ol_val (v := subv 1 V0_0 0 (Int.toNat (IntKind.i64.wrap ((mnI (IntKind.i64.wrap (Int.tdiv (List.length a0 : Int) 64)) 4096) * 64)))) (by exact xr_slice_h (K := (kI .u8)) (v := V0_0) rfl Try.underlying43 sz5 rfl (R0_0.gr fB) rfl g10.1 g10.2) rfl rfl rfl ?_
  have r9 : Rd (kI .u8) w8 (subv 1 V0_0 0 (Int.toNat (IntKind.i64.wrap ((mnI (IntKind.i64.wrap (Int.tdiv (List.length a0 : Int) 64)) 4096) * 64)))) (cut a0 0 (IntKind.i64.wrap ((mnI (IntKind.i64.wrap (Int.tdiv (List.length a0 : Int) 64)) 4096) * 64))) := (R0_0.gr fB).cut (lo := 0) (hi := (IntKind.i64.wrap ((mnI (IntKind.i64.wrap (Int.tdiv (List.length a0 : Int) 64)) 4096) * 64))) (by decide) g10.1 g10.2
  obtain ⟨t11, k12, h⟩ := bs h
  refine ol_op (by exact opv_call rfl cal99 (ac rfl an) (octet_Words.ok fu _ (cut a0 0 (IntKind.i64.wrap ((mnI (IntKind.i64.wrap (Int.tdiv (List.length a0 : Int) 64)) 4096) * 64))) (subv 1 V0_0 0 (Int.toNat (IntKind.i64.wrap ((mnI (IntKind.i64.wrap (Int.tdiv (List.length a0 : Int) 64)) 4096) * 64)))) (r9) _ k12)) rfl rfl rfl ?_
  rintro u13 w17 ⟨_, o14, rfl, q16⟩
  have o14 := Own.base o14 fB.size
  have b4 := b4.gr q16
  have fB := fB.gr q16
  refine ol_val (v := .int .i64 (List.length t11 : Int)) (by exact xr_lenR rfl Try.underlying46 rfl o14.rd) rfl rfl rfl ?_
  refine ol_val (v := .int .i64 0) (by exact xr_move rfl rfl) rfl rfl rfl ?_
  refine ol_nil ?_
  obtain ⟨e19, l20, h21⟩ := bs h
  refine cw_mid (fun ρ' w' => ∃ v22 : Value, ∃ o23 : Own k_pmem_cell 142 w' w.heap.size v22 e19, ρ' 4 = .pointer (some ⟨G3, 0, none⟩) ∧ Blk w' G3 139 [Seg.cell v22 o23.one, Seg.cell (.slice none 0 0) (by rfl), Seg.cell (.int .i64 (0 : Int)), Seg.cell (.bool false), Seg.cell (.bool false), Seg.cell (.int .i64 (0 : Int)), Seg.cell (.int .i64 (0 : Int))] ∧ Gr w w') ?_ ?_
  · refine cw_block ?_
    refine cw_round (fun (s18 : Int × (List S_pmem_cell)) ρ' w' => ∃ v25 : Value, ∃ o14 : Own (kI .u64) 22 w' w.heap.size u13 t11, ∃ o26 : Own k_pmem_cell 142 w' w.heap.size v25 s18.2, ρ' 4 = .pointer (some ⟨G3, 0, none⟩) ∧ ρ' 17 = u13 ∧ ρ' 18 = .int .i64 (List.length t11 : Int) ∧ ρ' 19 = .int .i64 s18.1 ∧ Blk w' G3 139 [Seg.cell v25 o26.one, Seg.cell (.slice none 0 0) (by rfl), Seg.cell (.int .i64 (0 : Int)), Seg.cell (.bool false), Seg.cell (.bool false), Seg.cell (.int .i64 (0 : Int)), Seg.cell (.int .i64 (0 : Int))] ∧ Gr w w') l20 ?_ ?_
    · skip
      exact ⟨(.slice none 0 0), o14, Own.nil _ _ _ _, rfl, rfl, rfl, rfl, b4, fB⟩
    · rintro s18 x30 ρ28 w29 ⟨v25, o14, o26, e4, e17, e18, e19, b4, fB⟩ h
      unfold pmem_From.s0 at h
      refine cw_seq ?_
      refine cw_region ?_
      refine ol_val (v := .bool (decide (s18.1 < (List.length t11 : Int)))) (by exact xr_lss rfl e19 e18) rfl rfl rfl ?_
      refine ol_nil ?_
      refine cw_seq ?_
      rcases is h with ⟨c31, h⟩ | ⟨c31, h⟩
      · refine cw_condT rfl c31 ?_
        refine cw_skip ?_
        refine cw_seq ?_
        refine cw_block ?_
        refine cw_seq ?_
        refine cw_region ?_
        obtain ⟨g32, h⟩ := gs h
        refine ol_val (v := .pointer (some ⟨(sb u13), so u13 + Int.toNat s18.1 * 1, none⟩)) (by exact xr_indexR (K := (kI .u64)) (v := u13) rfl Try.underlying46 sz22 e17 o14.rd e19 g32.1 g32.2) rfl rfl rfl ?_
        refine ol_val (v := .int .u64 (ix t11 s18.1)) (by exact xr_load1 (v := .int .u64 (ix t11 s18.1)) rfl ag22 rfl (o14.rd.elem g32.1 g32.2)) rfl rfl rfl ?_
        refine ol_val (v := .int .u64 (ix t11 s18.1)) (by exact xr_assign rfl rfl) rfl rfl rfl ?_
        refine ol_nil ?_
        refine cw_region ?_
        refine ol_val (v := .pointer (some ⟨G3, 0, none⟩)) (by exact xr_move rfl e4) rfl rfl rfl ?_
        refine ol_val (v := .pointer (some ⟨G3, 0, none⟩)) (by exact xr_move rfl e4) rfl rfl rfl ?_
        refine ol_val (v := .pointer (some ⟨G3, 0, none⟩)) (by exact xr_nilCheck rfl rfl) rfl rfl rfl ?_
        refine ol_val (v := .pointer (some ⟨G3, 0, none⟩)) (by exact xr_fieldAddr (p := 0) (q := 0) rfl fl139_0 rfl) rfl rfl rfl ?_
        refine ol_val (v := v25) (by exact xr_load1 (v := v25) rfl ag135 rfl (b4.seg 0 rfl rfl)) rfl rfl rfl ?_
        refine ol_val (v := .int .u64 (ix t11 s18.1)) (by exact xr_move rfl rfl) rfl rfl rfl ?_
        refine ol_val (v := .int .u64 (ix t11 s18.1)) (by exact xr_move rfl rfl) rfl rfl rfl ?_
        refine ol_val (v := aggV [Seg.cell (.int .u64 (ix t11 s18.1)), Seg.cell (.int .u64 (ix t11 s18.1)), Seg.cell (.int .u64 (0 : Int)), Seg.cell (.bool false)]) (by exact xr_build (vals := [(0, .int .u64 (ix t11 s18.1)), (1, .int .u64 (ix t11 s18.1))]) rfl ⟨rfl, rfl, ⟨rfl, rfl, trivial⟩⟩ (bl142_0_1 (ix t11 s18.1) (ix t11 s18.1) _)) rfl rfl rfl ?_
        refine ol_op (by exact opv_buildRec (K := k_pmem_cell) (z := (⟨(ix t11 s18.1), (ix t11 s18.1), (0 : Int), false⟩ : S_pmem_cell)) rfl Try.underlying135 el142 rfl rfl rfl rfl fB.size) rfl rfl rfl ?_
        rintro v33 w38 ⟨o35, q34, z36⟩
        have a39 := OffV.new o26 z36
        have b4 := b4.gr q34
        have o14 := o14.gr q34
        have o26 := o26.gr q34
        have fB := fB.gr q34
        obtain ⟨g44, h⟩ := gs h
        have f46 := off_ty b4 o26 (by decide)
        have f47 := OffV.ty o14 o26 (by decide)
        have f48 := o26.geO
        refine ol_op (by exact opv_append (K := k_pmem_cell) rfl Try.underlying135 el142 rfl rfl rfl rfl rfl o26 o35.rd g44 fB.size) rfl rfl rfl ?_
        rintro v40 w49 ⟨o41, q42, n43⟩
        have b4 := b4.wrO q42 f46
        have o14 := o14.wrV q42 f47
        have fB := fB.wrO q42 f48
        refine ol_val (v := .pointer (some ⟨G3, 0, none⟩)) (by exact xr_nilCheck rfl rfl) rfl rfl rfl ?_
        refine ol_val (v := .pointer (some ⟨G3, 0, none⟩)) (by exact xr_fieldAddr (p := 0) (q := 0) rfl fl139_0 rfl) rfl rfl rfl ?_
        have f51 := off_ty b4 o14 (by decide)
        have f52 := off_ty b4 o41 (by decide)
        refine ol_op0 (by exact opv_store (ss' := [Seg.cell v40 o41.one, Seg.cell (.slice none 0 0) (by rfl), Seg.cell (.int .i64 (0 : Int)), Seg.cell (.bool false), Seg.cell (.bool false), Seg.cell (.int .i64 (0 : Int)), Seg.cell (.int .i64 (0 : Int))]) (xs := cellsOf [Seg.cell v40 o41.one]) rfl sz135 rfl rfl (cells_one o41.one) (len_cellsOf _) (one_cellsOf _) b4 (Spl.segs _ 0 1 [Seg.cell v40 o41.one] rfl rfl)) rfl rfl ?_
        rintro _ w53 ⟨b4, q50⟩
        have o14 := o14.wr q50 f51
        have o41 := o41.wr q50 f52
        have fB := fB.wr q50 z6
        refine ol_nil ?_
        refine blk_i ?_
        refine cw_region ?_
        refine ol_val (v := .int .i64 (IntKind.i64.wrap (s18.1 + 1))) (by exact xr_add rfl e19 rfl) rfl rfl rfl ?_
        refine ol_val (v := .int .i64 (IntKind.i64.wrap (s18.1 + 1))) (by exact xr_move rfl rfl) rfl rfl rfl ?_
        refine ol_nil ?_
        obtain rfl := Option.some.inj h
        refine lp_in ?_
        exact ⟨v40, o14, o41, e4, e17, e18, rfl, b4, fB⟩
      · refine cw_condF rfl c31 ?_
        refine cw_exit ?_
        repeat (first | with_reducible refine thn_e ?_ | with_reducible refine blk_e rfl ?_)
        obtain rfl := Option.some.inj h
        refine lp_exit ?_
        rintro rfl
        refine thn_x ?_
        exact ⟨v25, o26, e4, b4, fB⟩
  · rintro ρ54 w55 ⟨v22, o23, e4, b4, fB⟩
    have h := h21
    refine cw_seq ?_
    refine cw_region ?_
    refine ol_val (v := .pointer (some ⟨G3, 0, none⟩)) (by exact xr_move rfl e4) rfl rfl rfl ?_
    refine ol_val (v := .pointer (some ⟨G3, 0, none⟩)) (by exact xr_assign rfl rfl) rfl rfl rfl ?_
    refine ol_nil ?_
    refine cw_ret ?_
    repeat (first | with_reducible refine thn_r ?_ | with_reducible refine blk_r ?_)
    obtain rfl := Option.some.inj h
    refine fin_ret1 Try.results48 rfl ?_
    exact ⟨_, rfl, (.pointer (some ⟨G3, 0, none⟩)), ⟨G3, v22, (.slice none 0 0), o23, Own.nil _ _ _ _, rfl, z6, b4⟩, rfl, fB⟩
end Go.Proofs.Ytklhbaghbmndeaa

/- rickyard/rickyardref05.Text: its model, and that the Go function computes it: written by gen.py. -/
set_option linter.unusedVariables false
namespace Go.Proofs.Ytklhbaghbmndeaa
open Go Go.Xw
def rickyardref05_Text.s2 (fu : Nat) (a0 : List Int) (s1 : (List Int) × Int) : ((List Int) × Int) → Option (Sum (List Int) ((List Int) × Int)) := fun s15 => (if (decide (s15.2 < 8)) = true then (if 0 ≤ s1.2 ∧ s1.2 < (List.length a0 : Int) then (if 0 ≤ (IntKind.i64.wrap (8 * s15.2)) then (if List.length s15.1 + List.length [(IntKind.u8.wrap (shR .u64 (ix a0 s1.2) (IntKind.i64.wrap (8 * s15.2))))] ≤ LIM then some (Sum.inr ((s15.1 ++ [(IntKind.u8.wrap (shR .u64 (ix a0 s1.2) (IntKind.i64.wrap (8 * s15.2))))]), (IntKind.i64.wrap (s15.2 + 1)))) else none) else none) else none) else some (Sum.inl (s15.1)))
def rickyardref05_Text.s1 (fu : Nat) (a0 : List Int) : ((List Int) × Int) → Option (Sum (List Int) ((List Int) × Int)) := fun s1 => (if (decide (s1.2 < (List.length a0 : Int))) = true then ((loopM (rickyardref05_Text.s2 fu a0 s1) fu (s1.1, 0)).bind fun e16 => some (Sum.inr (e16, (IntKind.i64.wrap (s1.2 + 1))))) else some (Sum.inl (s1.1)))
def rickyardref05_Text.f (fu : Nat) (a0 : List Int) : Option (List UInt8) := ((loopM (rickyardref05_Text.s1 fu a0) fu ([], 0)).bind fun e2 => some ((List.map toB e2)))
set_option maxRecDepth 100000 in
set_option maxHeartbeats 400000 in
theorem rickyardref05_Text.ok (fu : Nat) (w : World) (a0 : List Int) (V0_0 : Value) (R0_0 : Rd (kI .u64) w V0_0 a0) (r : (List UInt8)) (h : rickyardref05_Text.f fu a0 = some r) :
    Calls Try.prog 34 (([V0_0] : List Value).toArray) w (fun e w' => ∃ v, e = .returned v ∧ v = sv r ∧ Gr w w') := by
  unfold rickyardref05_Text.f at h
  have fB : Gr w w := Fr.refl _ _
  refine calls_cw Try.func34 rfl Try.ntmps34 rfl ?_
  refine cw_seq ?_
  refine cw_region ?_
  refine ol_val (v := sv []) (by exact xr_assign rfl rfl) rfl rfl rfl ?_
  refine ol_nil ?_
  refine cw_seq ?_
  refine cw_region ?_
  refine ol_val (v := .slice none 0 0) (by exact xr_assign rfl rfl) rfl rfl rfl ?_
  refine ol_nil ?_
  refine cw_seq ?_
  refine cw_seq ?_
  refine cw_region ?_
  refine ol_val (v := .int .i64 0) (by exact xr_assign rfl rfl) rfl rfl rfl ?_
  refine ol_nil ?_
  obtain ⟨e2, l3, h4⟩ := bs h
  refine cw_mid (fun ρ' w' => ∃ v5 : Value, ∃ o6 : Own (kI .u8) 5 w' w.heap.size v5 e2, ρ' 3 = v5 ∧ Gr w w') ?_ ?_
  · refine cw_block ?_
    refine cw_round (fun (s1 : (List Int) × Int) ρ' w' => ∃ v8 : Value, ∃ o9 : Own (kI .u8) 5 w' w.heap.size v8 s1.1, ρ' 0 = V0_0 ∧ ρ' 3 = v8 ∧ ρ' 4 = .int .i64 s1.2 ∧ Gr w w') l3 ?_ ?_
    · skip
      exact ⟨(.slice none 0 0), Own.nil _ _ _ _, rfl, rfl, rfl, fB⟩
    · rintro s1 x13 ρ11 w12 ⟨v8, o9, e0, e3, e4, fB⟩ h
      unfold rickyardref05_Text.s1 at h
      refine cw_seq ?_
      refine cw_seq ?_
      refine cw_region ?_
      refine ol_val (v := .int .i64 s1.2) (by exact xr_move rfl e4) rfl rfl rfl ?_
      refine ol_val (v := V0_0) (by exact xr_move rfl e0) rfl rfl rfl ?_
      refine ol_val (v := .int .i64 (List.length a0 : Int)) (by exact xr_lenR rfl Try.underlying46 rfl (R0_0.gr fB)) rfl rfl rfl ?_
      refine ol_val (v := .bool (decide (s1.2 < (List.length a0 : Int)))) (by exact xr_lss rfl rfl rfl) rfl rfl rfl ?_
      refine ol_nil ?_
      rcases is h with ⟨c14, h⟩ | ⟨c14, h⟩
      · refine cw_condT rfl c14 ?_
        refine cw_skip ?_
        refine cw_seq ?_
        refine cw_block ?_
        refine cw_seq ?_
        refine cw_region ?_
        refine ol_val (v := .int .i64 0) (by exact xr_assign rfl rfl) rfl rfl rfl ?_
        refine ol_nil ?_
        obtain ⟨e16, l17, h18⟩ := bs h
        refine cw_mid (fun ρ' w' => ∃ v19 : Value, ∃ o20 : Own (kI .u8) 5 w' w.heap.size v19 e16, ρ' 0 = V0_0 ∧ ρ' 3 = v19 ∧ ρ' 4 = .int .i64 s1.2 ∧ Gr w w') ?_ ?_
        · refine cw_block ?_
          refine cw_round (fun (s15 : (List Int) × Int) ρ' w' => ∃ v22 : Value, ∃ o23 : Own (kI .u8) 5 w' w.heap.size v22 s15.1, ρ' 0 = V0_0 ∧ ρ' 3 = v22 ∧ ρ' 4 = .int .i64 s1.2 ∧ ρ' 5 = .int .i64 s15.2 ∧ Gr w w') l17 ?_ ?_
          · skip
            exact ⟨v8, o9, e0, e3, e4, rfl, fB⟩
          · rintro s15 x27 ρ25 w26 ⟨v22, o23, e0, e3, e4, e5, fB⟩ h
            unfold rickyardref05_Text.s2 at h
            refine cw_seq ?_
            refine cw_seq ?_
            refine cw_region ?_
            refine ol_val (v := .int .i64 s15.2) (by exact xr_move rfl e5) rfl rfl rfl ?_
            refine ol_val (v := .bool (decide (s15.2 < 8))) (by exact xr_lss rfl rfl rfl) rfl rfl rfl ?_
            refine ol_nil ?_
            rcases is h with ⟨c28, h⟩ | ⟨c28, h⟩
            · refine cw_condT rfl c28 ?_
              refine cw_skip ?_
              refine cw_seq ?_
              refine cw_block ?_
              refine cw_region ?_
              refine ol_val (v := v22) (by exact xr_move rfl e3) rfl rfl rfl ?_
              refine ol_val (v := V0_0) (by exact xr_move rfl e0) rfl rfl rfl ?_
              refine ol_val (v := .int .i64 s1.2) (by exact xr_move rfl e4) rfl rfl rfl ?_
              obtain ⟨g29, h⟩ := gs h
              refine ol_val (v := .pointer (some ⟨(sb V0_0), so V0_0 + Int.toNat s1.2 * 1, none⟩)) (by exact xr_indexR (K := (kI .u64)) (v := V0_0) rfl Try.underlying46 sz22 rfl (R0_0.gr fB) rfl g29.1 g29.2) rfl rfl rfl ?_
              refine ol_val (v := .int .u64 (ix a0 s1.2)) (by exact xr_load1 (v := .int .u64 (ix a0 s1.2)) rfl ag22 rfl ((R0_0.gr fB).elem g29.1 g29.2)) rfl rfl rfl ?_
              refine ol_val (v := .int .i64 s15.2) (by exact xr_move rfl e5) rfl rfl rfl ?_
              refine ol_val (v := .int .i64 (IntKind.i64.wrap (8 * s15.2))) (by exact xr_mul rfl rfl rfl) rfl rfl rfl ?_
              obtain ⟨g30, h⟩ := gs h
              refine ol_val (v := .int .u64 (shR .u64 (ix a0 s1.2) (IntKind.i64.wrap (8 * s15.2)))) (by exact xr_shr rfl rfl rfl g30) rfl rfl rfl ?_
              refine ol_val (v := .int .u8 (IntKind.u8.wrap (shR .u64 (ix a0 s1.2) (IntKind.i64.wrap (8 * s15.2))))) (by exact xr_conv rfl Try.underlying22 Try.underlying5 rfl) rfl rfl rfl ?_
              refine ol_op (by exact opv_buildSlice (K := (kI .u8)) (xs := [(IntKind.u8.wrap (shR .u64 (ix a0 s1.2) (IntKind.i64.wrap (8 * s15.2))))]) (vals := [.int .u8 (IntKind.u8.wrap (shR .u64 (ix a0 s1.2) (IntKind.i64.wrap (8 * s15.2))))]) rfl Try.underlying43 el5 rfl rfl ⟨rfl, rfl, trivial⟩ rfl rfl rfl fB.size) rfl rfl rfl ?_
              rintro v31 w36 ⟨o33, q32, z34⟩
              have a37 := OffV.new o23 z34
              have o23 := o23.gr q32
              have fB := fB.gr q32
              obtain ⟨g42, h⟩ := gs h
              have f44 := o23.geO
              refine ol_op (by exact opv_append (K := (kI .u8)) rfl Try.underlying43 el5 rfl rfl rfl rfl rfl o23 o33.rd g42 fB.size) rfl rfl rfl ?_
              rintro v38 w45 ⟨o39, q40, n41⟩
              have fB := fB.wrO q40 f44
              refine ol_val (v := v38) (by exact xr_assign rfl rfl) rfl rfl rfl ?_
              refine ol_nil ?_
              refine blk_i ?_
              refine cw_region ?_
              refine ol_val (v := .int .i64 s15.2) (by exact xr_move rfl e5) rfl rfl rfl ?_
              refine ol_val (v := .int .i64 (IntKind.i64.wrap (s15.2 + 1))) (by exact xr_add rfl rfl rfl) rfl rfl rfl ?_
              refine ol_val (v := .int .i64 (IntKind.i64.wrap (s15.2 + 1))) (by exact xr_assign rfl rfl) rfl rfl rfl ?_
              refine ol_nil ?_
              obtain rfl := Option.some.inj h
              refine lp_in ?_
              exact ⟨v38, o39, e0, rfl, e4, rfl, fB⟩
            · refine cw_condF rfl c28 ?_
              refine cw_exit ?_
              repeat (first | with_reducible refine thn_e ?_ | with_reducible refine blk_e rfl ?_)
              obtain rfl := Option.some.inj h
              refine lp_exit ?_
              rintro rfl
              refine thn_x ?_
              exact ⟨v22, o23, e0, e3, e4, fB⟩
        · rintro ρ46 w47 ⟨v19, o20, e0, e3, e4, fB⟩
          have h := h18
          refine blk_i ?_
          refine cw_region ?_
          refine ol_val (v := .int .i64 s1.2) (by exact xr_move rfl e4) rfl rfl rfl ?_
          refine ol_val (v := .int .i64 (IntKind.i64.wrap (s1.2 + 1))) (by exact xr_add rfl rfl rfl) rfl rfl rfl ?_
          refine ol_val (v := .int .i64 (IntKind.i64.wrap (s1.2 + 1))) (by exact xr_assign rfl rfl) rfl rfl rfl ?_
          refine ol_nil ?_
          obtain rfl := Option.some.inj h
          refine lp_in ?_
          exact ⟨v19, o20, e0, e3, rfl, fB⟩
      · refine cw_condF rfl c14 ?_
        refine cw_exit ?_
        repeat (first | with_reducible refine thn_e ?_ | with_reducible refine blk_e rfl ?_)
        obtain rfl := Option.some.inj h
        refine lp_exit ?_
        rintro rfl
        refine thn_x ?_
        exact ⟨v8, o9, e3, fB⟩
  · rintro ρ48 w49 ⟨v5, o6, e3, fB⟩
    have h := h4
    refine cw_seq ?_
    refine cw_region ?_
    refine ol_val (v := v5) (by exact xr_move rfl e3) rfl rfl rfl ?_
    refine ol_val (v := sv (List.map toB e2)) (by exact xr_toStr rfl Try.underlying43 Try.underlying5 Try.underlying9 rfl o6.rd) rfl rfl rfl ?_
    refine ol_val (v := sv (List.map toB e2)) (by exact xr_assign rfl rfl) rfl rfl rfl ?_
    refine ol_nil ?_
    refine cw_ret ?_
    repeat (first | with_reducible refine thn_r ?_ | with_reducible refine blk_r ?_)
    obtain rfl := Option.some.inj h
    refine fin_ret1 Try.results34 rfl ?_
    exact ⟨_, rfl, rfl, fB⟩
end Go.Proofs.Ytklhbaghbmndeaa

/- A device, in plain words: what is seen of it; what an act does. -/
set_option linter.unusedVariables false
set_option linter.unusedSimpArgs false
namespace Go.Proofs.Ytklhbaghbmndeaa.Pure
open Go Go.Xw
def octs (ws : List Int) : List Int := ws.flatMap fun w => lay w.toNat 8
theorem octs_len : ∀ ws : List Int, (octs ws).length = 8 * ws.length
  | [] => rfl
  | w :: ws => by
    have := octs_len ws
    simp only [octs, List.flatMap_cons, List.length_append, lay_len, List.length_cons] at *
    omega
theorem octs_append (a b : List Int) : octs (a ++ b) = octs a ++ octs b := by simp [octs]
theorem octs_one (w : Int) : octs [w] = lay w.toNat 8 := by simp [octs]
theorem octsB (ws : List Int) : Bytes (octs ws) := by
  intro x hx
  obtain ⟨w, _, h⟩ := List.mem_flatMap.1 hx
  exact lay_bytes _ _ x h
theorem octets_eq {fu : Nat} {ws : List Int} (hv : ∀ w ∈ ws, U64 w) (hl : ws.length ≤ 100000) (hf : ws.length + 8 < fu) : octet_Octets.f fu ws = some (octs ws) := by
  unfold octet_Octets.f
  have : loopM (octet_Octets.s0 fu ws) fu ([], 0) = some (octs ws) := by
    refine loopM_run (S := fun j => (octs (ws.take j), (j : Int))) ws.length (by simp [octs]) ?_ ?_ (by omega)
    · intro j hj
      unfold octet_Octets.s0
      have w3 : IntKind.i64.wrap ((j : Int) + 1) = ((j + 1 : Nat) : Int) := by rw [w64 (by omega) (by omega)]; omega
      have c1 : 0 ≤ (j : Int) ∧ (j : Int) < (ws.length : Int) := by omega
      have hu := hv _ (List.getElem_mem hj)
      obtain ⟨v, hv'⟩ : ∃ v : Nat, ws[j] = (v : Int) := ⟨ws[j].toNat, by unfold U64 at hu; omega⟩
      simp only [w3]
      rw [decide_eq_true c1.2, if_pos rfl, if_pos c1, ix_nat hj, hv', show octet_Lay.f fu (v : Int) 8 = some (lay v 8) from olay_eq (n := 8) (by omega) (by omega)]
      simp only [Option.bind_some]
      rw [if_pos (by rw [octs_len, lay_len, List.length_take]; exact Nat.le_trans (by omega : _ ≤ 1000008) (by decide)), take_next hj, octs_append, octs_one, hv', Int.toNat_natCast]
    · unfold octet_Octets.s0
      rw [decide_eq_false (show ¬ ((ws.length : Int) < (ws.length : Int)) by omega), if_neg (by decide), List.take_length]
  rw [this]
  rfl
theorem set_next {l : List Int} {n j : Nat} {v : Int} (h : j < n) (hl : l.length = j) : (l ++ List.replicate (n - j) (0 : Int)).set j v = (l ++ [v]) ++ List.replicate (n - (j + 1)) (0 : Int) := by
  rw [List.set_append, if_neg (by omega), hl, Nat.sub_self, show n - j = n - (j + 1) + 1 from by omega, List.replicate_succ]
  simp
def lastsD (d : Dev) : List Int := d.cells.map fun c => c.lasts
def storedD (d : Dev) : List Int := d.cells.map fun c => c.stored
theorem image_eq {fu n : Nat} {B : Int} {d : Dev} (h : DevOk n B d) (hn : n ≤ 100000) (hf : n + 8 < fu) : pmem_Device_Image.f fu d = some (octs (lastsD d)) := by
  unfold pmem_Device_Image.f pmem_Device_octets__pmem_Device_Image_1.f
  have hl := h.len
  rw [if_pos ⟨by omega, Nat.le_trans (by omega : _ ≤ 100000) (by decide)⟩]
  have : loopM (pmem_Device_octets__pmem_Device_Image_1.s0 fu d) fu (0, (List.replicate (Int.toNat (List.length d.cells : Int)) (0 : Int))) = some (lastsD d) := by
    refine loopM_run (S := fun j => ((j : Int), (lastsD d).take j ++ List.replicate (d.cells.length - j) (0 : Int))) d.cells.length (by simp) ?_ ?_ (by omega)
    · intro j hj
      unfold pmem_Device_octets__pmem_Device_Image_1.s0
      have w3 : IntKind.i64.wrap ((j : Int) + 1) = ((j + 1 : Nat) : Int) := by rw [w64 (by omega) (by omega)]; omega
      have hjl : j < (lastsD d).length := by simpa [lastsD] using hj
      have ht : ((lastsD d).take j).length = j := by rw [List.length_take]; omega
      have c1 : 0 ≤ (j : Int) ∧ (j : Int) < (d.cells.length : Int) := by omega
      have c2 : 0 ≤ (j : Int) ∧ (j : Int) < (((lastsD d).take j ++ List.replicate (d.cells.length - j) (0 : Int)).length : Int) := by
        rw [List.length_append, ht, List.length_replicate]
        omega
      simp only [w3]
      rw [decide_eq_true c1.2, if_pos rfl, if_pos c1, ix_nat hj]
      simp only [pmem_Device_Image_1__r0.f, Option.bind_some]
      rw [if_pos c2, Int.toNat_natCast, set_next hj ht, take_next hjl]
      simp [lastsD]
    · unfold pmem_Device_octets__pmem_Device_Image_1.s0
      rw [decide_eq_false (show ¬ ((d.cells.length : Int) < (d.cells.length : Int)) by omega), if_neg (by decide), Nat.sub_self, List.take_of_length_le (by simp [lastsD])]
      simp
  rw [this]
  simp only [Option.bind_some]
  rw [octets_eq (fun w hw => by
    obtain ⟨c, hc, rfl⟩ := List.mem_map.1 hw
    exact (h.val c hc).1) (by simp [lastsD, hl, hn]) (by simp only [lastsD, List.length_map]; omega)]
  rfl
theorem view_eq {fu n : Nat} {B : Int} {d : Dev} (h : DevOk n B d) (hn : n ≤ 100000) (hf : n + 8 < fu) : pmem_Device_View.f fu d = some (octs (storedD d)) := by
  unfold pmem_Device_View.f pmem_Device_octets__pmem_Device_View_1.f
  have hl := h.len
  rw [if_pos ⟨by omega, Nat.le_trans (by omega : _ ≤ 100000) (by decide)⟩]
  have : loopM (pmem_Device_octets__pmem_Device_View_1.s0 fu d) fu (0, (List.replicate (Int.toNat (List.length d.cells : Int)) (0 : Int))) = some (storedD d) := by
    refine loopM_run (S := fun j => ((j : Int), (storedD d).take j ++ List.replicate (d.cells.length - j) (0 : Int))) d.cells.length (by simp) ?_ ?_ (by omega)
    · intro j hj
      unfold pmem_Device_octets__pmem_Device_View_1.s0
      have w3 : IntKind.i64.wrap ((j : Int) + 1) = ((j + 1 : Nat) : Int) := by rw [w64 (by omega) (by omega)]; omega
      have hjl : j < (storedD d).length := by simpa [storedD] using hj
      have ht : ((storedD d).take j).length = j := by rw [List.length_take]; omega
      have c1 : 0 ≤ (j : Int) ∧ (j : Int) < (d.cells.length : Int) := by omega
      have c2 : 0 ≤ (j : Int) ∧ (j : Int) < (((storedD d).take j ++ List.replicate (d.cells.length - j) (0 : Int)).length : Int) := by
        rw [List.length_append, ht, List.length_replicate]
        omega
      simp only [w3]
      rw [decide_eq_true c1.2, if_pos rfl, if_pos c1, ix_nat hj]
      simp only [pmem_Device_View_1__r0.f, Option.bind_some]
      rw [if_pos c2, Int.toNat_natCast, set_next hj ht, take_next hjl]
      simp [storedD]
    · unfold pmem_Device_octets__pmem_Device_View_1.s0
      rw [decide_eq_false (show ¬ ((d.cells.length : Int) < (d.cells.length : Int)) by omega), if_neg (by decide), Nat.sub_self, List.take_of_length_le (by simp [storedD])]
      simp
  rw [this]
  simp only [Option.bind_some]
  rw [octets_eq (fun w hw => by
    obtain ⟨c, hc, rfl⟩ := List.mem_map.1 hw
    exact (h.val c hc).2.1) (by simp [storedD, hl, hn]) (by simp only [storedD, List.length_map]; omega)]
  rfl
def fateD (d : Dev) (i : Nat) : S_api_Fate := ⟨(i : Int), (ix d.cells (i : Int)).lasts, (ix d.cells (i : Int)).flushed, (ix d.cells (i : Int)).sent, (ix d.cells (i : Int)).stored⟩
def fatesU (d : Dev) (j : Nat) : List S_api_Fate := ((List.range j).filter fun (i : Nat) => openC (ix d.cells (i : Int))).map (fateD d)
def fatesD (d : Dev) : List S_api_Fate := fatesU d d.cells.length
theorem fatesU_succ (d : Dev) (j : Nat) : fatesU d (j + 1) = fatesU d j ++ (if openC (ix d.cells (j : Int)) = true then [fateD d j] else []) := by
  unfold fatesU
  rw [List.range_succ, List.filter_append, List.map_append]
  cases h : openC (ix d.cells (j : Int)) <;> simp [h]
theorem fatesU_le (d : Dev) (j : Nat) : (fatesU d j).length ≤ j := by
  unfold fatesU
  rw [List.length_map]
  exact Nat.le_trans (List.length_filter_le _ _) (by simp)
theorem fates_eq {fu n : Nat} {B : Int} {d : Dev} (h : DevOk n B d) (hn : n ≤ 100000) (hf : n < fu) : pmem_Device_Fates.f fu d = some (fatesD d) := by
  unfold pmem_Device_Fates.f
  have hl := h.len
  have : loopM (pmem_Device_Fates.s0 fu d) fu ([], 0) = some (fatesD d) := by
    refine loopM_run (S := fun j => (fatesU d j, (j : Int))) d.cells.length (by simp [fatesU]) ?_ ?_ (by omega)
    · intro j hj
      unfold pmem_Device_Fates.s0
      have w3 : IntKind.i64.wrap ((j : Int) + 1) = ((j + 1 : Nat) : Int) := by rw [w64 (by omega) (by omega)]; omega
      have c1 : 0 ≤ (j : Int) ∧ (j : Int) < (d.cells.length : Int) := by omega
      have hle := fatesU_le d j
      simp only [w3]
      rw [decide_eq_true c1.2, if_pos rfl, if_pos c1, openr_eq, fatesU_succ]
      simp only [Option.bind_some]
      cases ho : openC (ix d.cells (j : Int))
      · simp
      · have hlim : (fatesU d j).length + List.length [(⟨(j : Int), (ix d.cells (j : Int)).lasts, (ix d.cells (j : Int)).flushed, (ix d.cells (j : Int)).sent, (ix d.cells (j : Int)).stored⟩ : S_api_Fate)] ≤ LIM := by
          simp only [List.length_cons, List.length_nil]
          exact Nat.le_trans (by omega : _ ≤ 100001) (by decide)
        rw [if_pos rfl, if_pos hlim]
        rfl
    · unfold pmem_Device_Fates.s0
      rw [decide_eq_false (show ¬ ((d.cells.length : Int) < (d.cells.length : Int)) by omega), if_neg (by decide)]
      rfl
  rw [this]
  rfl
def newD (n : Nat) : Dev := ⟨List.replicate n ⟨0, 0, 0, false⟩, ⟨[], 0⟩, false, false, 0, 0⟩
theorem new_eq {fu : Nat} {k : Nat} (hk : k ≤ 4096) : pmem_New.f fu (k : Int) = some (some (newD (8 * k)), 0) := by
  unfold pmem_New.f
  have h1 : ¬ (k : Int) < 0 := by omega
  have h2 : ¬ (k : Int) > 4096 := by omega
  have w : IntKind.i64.wrap ((k : Int) * 8) = ((8 * k : Nat) : Int) := by rw [w64 (by omega) (by omega)]; omega
  rw [decide_eq_false h1, decide_eq_false h2, if_neg (by decide), w, Int.toNat_natCast, if_pos ⟨by omega, Nat.le_trans (by omega : _ ≤ 100000) (by decide)⟩]
  rfl
theorem newD_ok (n : Nat) : DevOk n 0 (newD n) := by
  refine ⟨by simp [newD], fun c hc => ?_, fun h => absurd rfl h, by simp [newD], fun h => (by cases h), fun _ => rfl, by simp [newD]⟩
  rw [List.eq_of_mem_replicate hc]
  unfold okC U64
  simp
theorem arm_ok {n : Nat} {B k : Int} {d : Dev} (h : DevOk n B d) (hk : I64 k) : DevOk n B (armD d k) := by
  unfold armD
  cases ho : d.off
  · rw [if_neg (by decide)]
    refine ⟨h.len, h.val, h.at0, h.pl, fun ha => ?_, fun ha => ?_, h.st⟩
    · have : k ≥ 0 := by simpa using ha
      exact ⟨this, hk.2, rfl⟩
    · have : ¬ k ≥ 0 := by simpa using ha
      exact decide_eq_false (by omega)
  · rw [if_pos rfl]
    exact h
theorem plan_ok {n : Nat} {B : Int} {d : Dev} {l : List Int} (h : DevOk n B d) (hl : l.length ≤ 1000) : DevOk n B (planD d l) :=
  ⟨h.len, h.val, fun e => ⟨by simp [planD], by simp only [planD] at e ⊢; omega⟩, hl, h.arm, h.una, h.st⟩
theorem fateC_ok {c : Cell} {n : Int} (h : okC c) : U64 (fateC c n) := by
  unfold fateC
  split
  · exact h.2.1
  · split
    · exact h.2.2
    · exact h.1
theorem crashC_ok {c : Cell} {n : Int} (h : okC c) : okC (crashC c n) := by
  unfold crashC
  split
  · exact ⟨fateC_ok h, fateC_ok h, by unfold U64; simp⟩
  · exact ⟨h.1, h.1, h.2.2⟩
theorem crash_ok {n : Nat} {B : Int} {d : Dev} {l : List Int} (h : DevOk n B d) : DevOk n B (crashD d l) :=
  ⟨by simp [crashD, crashL, h.len], mapIdx_ok h.val fun i c hc => crashC_ok hc, fun e => absurd rfl e, by simp [crashD], fun e => (by cases e), fun _ => rfl, h.st⟩
theorem store_ok {n : Nat} {B k w : Int} {d : Dev} (h : DevOk n B d) (hw : U64 w) : DevOk n (B + 1) (storeD d k w).2 := by
  unfold storeD
  split
  · rename_i e
    refine tick_ok (with_ok h (by simp [putC, h.len]) (mapIdx_ok h.val fun i c hc => ?_)) (may_zero.1 e).1
    split
    · exact ⟨hc.1, hw, hc.2.2⟩
    · exact hc
  · exact h.up (by omega)
theorem flush_ok {n : Nat} {B k : Int} {d : Dev} (h : DevOk n B d) : DevOk n (B + 1) (flushD d k).2 := by
  unfold flushD
  split
  · rename_i e
    exact tick_ok (with_ok h (by simp [sendL, h.len]) (sendL_ok h.val)) (may_zero.1 e).1
  · exact h.up (by omega)
theorem fence_ok {n : Nat} {B : Int} {d : Dev} (h : DevOk n B d) : DevOk n (B + 1) (fenceD d).2 := by
  unfold fenceD
  cases ho : d.off
  · rw [if_neg (by decide)]
    exact tick_ok (with_ok h (by simp [h.len]) (fun c hc => by
        obtain ⟨x, hx, rfl⟩ := List.mem_map.1 hc
        exact fence_okC (h.val x hx))) ho
  · rw [if_pos rfl]
    exact h.up (by omega)
/-- An act whose parts fit. -/
def okA (a : S_rickyardlaw05_Act) : Prop := I64 a.Kind ∧ I64 a.At ∧ U64 a.W ∧ (∀ x ∈ a.L, I64 x) ∧ a.L.length ≤ 1000
theorem do_ok {n : Nat} {B : Int} {d : Dev} {a : S_rickyardlaw05_Act} (h : DevOk n B d) (ha : okA a) : DevOk n (B + 1) (doD d a).2 := by
  unfold doD
  split
  · exact store_ok h ha.2.2.1
  split
  · exact h.up (by omega)
  split
  · exact flush_ok h
  split
  · exact fence_ok h
  split
  · exact (arm_ok h ha.2.1).up (by omega)
  split
  · exact (plan_ok h ha.2.2.2.2).up (by omega)
  · exact (crash_ok h).up (by omega)
theorem rest7_eq {fu : Nat} {k m : Int} (hk : I64 k) (hm : 0 < m ∧ m ≤ 1000) : rickyardref01_Rest.f fu k m = some (k % m) := by
  unfold rickyardref01_Rest.f
  have h0 : m ≠ 0 := by omega
  rw [if_pos h0, if_pos h0]
  have h1 := Int.emod_nonneg k h0
  have h2 := Int.emod_lt_of_pos k hm.1
  have e : Int.tmod k m = k % m ∨ Int.tmod k m = k % m - m := by
    rcases Int.lt_or_le k 0 with h | h
    · rw [Int.tmod_eq_emod]
      split
      · exact .inl (by omega)
      · right
        have : (m.natAbs : Int) = m := by omega
        omega
    · exact .inl (Int.tmod_eq_emod_of_nonneg h)
  congr 1
  rcases e with e | e
  · rw [e, w64 (by omega) (by omega), Int.tmod_eq_emod_of_nonneg (by omega), Int.add_emod_right, Int.emod_emod]
  · rw [e, show k % m - m + m = k % m from by omega, w64 (by omega) (by omega), Int.tmod_eq_emod_of_nonneg (by omega), Int.emod_emod]
theorem do_eq {fu n : Nat} {B : Int} {d : Dev} {a : S_rickyardlaw05_Act} (h : DevOk n B d) (hB : B < 9223372036854775807) (hn : n ≤ 100000) (ha : okA a) (hf : n + 8 < fu) : rickyardlaw05_Do.f fu d a = some ((doD d a).1.1, (doD d a).1.2, (doD d a).2) := by
  obtain ⟨hk, hat, hw, hL, hl⟩ := ha
  unfold rickyardlaw05_Do.f doD
  rw [rest7_eq hk (by decide), store_eq h hB hw, load_eq, flush_eq h hB (by omega) (by omega), fence_eq h hB (by omega) (by omega), arm_eq, plan_eq (by omega), crash_eq h (by omega) hL (by omega)]
  simp only [Option.bind_some]
  have hr : 0 ≤ a.Kind % 7 ∧ a.Kind % 7 < 7 := by omega
  generalize a.Kind % 7 = r at *
  have : r = 0 ∨ r = 1 ∨ r = 2 ∨ r = 3 ∨ r = 4 ∨ r = 5 ∨ r = 6 := by omega
  rcases this with rfl | rfl | rfl | rfl | rfl | rfl | rfl
  · rfl
  · rfl
  · rfl
  · rfl
  · have : (armD d a.At).cells = d.cells ∧ (armD d a.At).plan.list = d.plan.list := by
      unfold armD
      split <;> exact ⟨rfl, rfl⟩
    simp [← this.1, ← this.2]
  · rfl
  · rfl
end Go.Proofs.Ytklhbaghbmndeaa.Pure

/- rickyard/rickyardlaw05.awake: its model, and that the Go function computes it: written by gen.py. -/
set_option linter.unusedVariables false
namespace Go.Proofs.Ytklhbaghbmndeaa
open Go Go.Xw
def rickyardlaw05_awake.f (fu : Nat) : Option Bool := ((pmem_New.f fu 1 : Option ((Option S_pmem_Device) × Int)).bind fun t1 => (Option.elim t1.1 (some (false)) (fun m8 => (if (!decide (t1.2 = 0)) = true then some (false) else ((pmem_Device_Store.f fu m8 0 5 : Option (Int × S_pmem_Device)).bind fun t22 => ((pmem_Device_Flush.f fu t22.2 0 : Option (Int × S_pmem_Device)).bind fun t35 => ((pmem_Device_Store.f fu t35.2 0 6 : Option (Int × S_pmem_Device)).bind fun t48 => ((pmem_Device_Fence.f fu t48.2 : Option (Int × S_pmem_Device)).bind fun t61 => ((pmem_Device_Crash.f fu t61.2 [] : Option S_pmem_Device).bind fun t74 => ((pmem_Device_Load.f fu t74 0 : Option (Int × Int)).bind fun t87 => some ((if (decide (t87.2 = 0)) = true then (decide (t87.1 = 5)) else false))))))))))))
set_option maxRecDepth 100000 in
set_option maxHeartbeats 400000 in
theorem rickyardlaw05_awake.ok (fu : Nat) (w : World)  (r : Bool) (h : rickyardlaw05_awake.f fu = some r) :
    Calls Try.prog 24 (([] : List Value).toArray) w (fun e w' => ∃ v, e = .returned v ∧ v = .bool r ∧ Gr w w') := by
  unfold rickyardlaw05_awake.f at h
  have fB : Gr w w := Fr.refl _ _
  refine calls_cw Try.func24 rfl Try.ntmps24 rfl ?_
  refine cw_seq ?_
  refine cw_region ?_
  refine ol_val (v := .bool false) (by exact xr_assign rfl rfl) rfl rfl rfl ?_
  refine ol_nil ?_
  refine cw_seq ?_
  refine cw_region ?_
  obtain ⟨t1, k2, h⟩ := bs h
  refine ol_op (by exact opv_call rfl cal26 (ac rfl an) (pmem_New.ok fu _ 1 _ k2)) rfl rfl rfl ?_
  rintro _ w6 ⟨u3, p4, rfl, q5⟩
  rcases en h with ⟨e7, h⟩ | ⟨m8, e7, h⟩
  · obtain rfl := p4.1 e7
    have fB := fB.gr q5
    refine ol_val (v := .tuple #[.pointer none, .int .i64 t1.2]) (by exact xr_move rfl rfl) rfl rfl rfl ?_
    refine ol_val (v := .pointer none) (by exact xr_extract rfl rfl rfl) rfl rfl rfl ?_
    refine ol_val (v := .int .i64 t1.2) (by exact xr_extract rfl rfl rfl) rfl rfl rfl ?_
    refine ol_val (v := .pointer none) (by exact xr_assign rfl rfl) rfl rfl rfl ?_
    refine ol_val (v := .int .i64 t1.2) (by exact xr_assign rfl rfl) rfl rfl rfl ?_
    refine ol_nil ?_
    refine cw_seq ?_
    refine cw_seq ?_
    refine cw_mid (fun ρ' w' => ρ' 1 = .pointer none ∧ ρ' 14 = .bool true ∧ w6 = w') ?_ ?_
    · skip
      refine cw_region ?_
      refine ol_val (v := .pointer none) (by exact xr_move rfl rfl) rfl rfl rfl ?_
      refine ol_val (v := .bool true) (by exact xr_eqP (b := true) rfl Try.underlying30 rfl rfl (by simp) (by simp)) rfl rfl rfl ?_
      refine ol_val (v := .bool true) (by exact xr_move rfl rfl) rfl rfl rfl ?_
      refine ol_gskip rfl rfl rfl rfl rfl rfl ?_
      refine ol_gskip rfl rfl rfl rfl rfl rfl ?_
      refine ol_val (v := .bool true) (by exact xr_pickT rfl rfl rfl rfl) rfl rfl rfl ?_
      refine ol_nil ?_
      refine thn_i ?_
      exact ⟨rfl, rfl, rfl⟩
    · skip
      rintro ρ9 _ ⟨e1, e14, rfl⟩
      refine cw_condT e14 rfl ?_
      refine cw_seq ?_
      refine cw_region ?_
      refine ol_val (v := .bool false) (by exact xr_assign rfl rfl) rfl rfl rfl ?_
      refine ol_nil ?_
      refine cw_ret ?_
      repeat (first | with_reducible refine thn_r ?_ | with_reducible refine blk_r ?_)
      obtain rfl := Option.some.inj h
      refine fin_ret1 Try.results24 rfl ?_
      exact ⟨_, rfl, rfl, fB⟩
  · skip
    obtain ⟨G10, u14, u17, o15, o18, rfl, z11, b12⟩ := p4.2 _ e7
    have o15 := Own.base o15 fB.size
    have o18 := Own.base o18 fB.size
    have z11 := Nat.le_trans fB.size z11
    have fB := fB.gr q5
    refine ol_val (v := .tuple #[.pointer (some ⟨G10, 0, none⟩), .int .i64 t1.2]) (by exact xr_move rfl rfl) rfl rfl rfl ?_
    refine ol_val (v := .pointer (some ⟨G10, 0, none⟩)) (by exact xr_extract rfl rfl rfl) rfl rfl rfl ?_
    refine ol_val (v := .int .i64 t1.2) (by exact xr_extract rfl rfl rfl) rfl rfl rfl ?_
    refine ol_val (v := .pointer (some ⟨G10, 0, none⟩)) (by exact xr_assign rfl rfl) rfl rfl rfl ?_
    refine ol_val (v := .int .i64 t1.2) (by exact xr_assign rfl rfl) rfl rfl rfl ?_
    refine ol_nil ?_
    refine cw_seq ?_
    refine cw_seq ?_
    refine cw_mid (fun ρ' w' => ρ' 1 = .pointer (some ⟨G10, 0, none⟩) ∧ ρ' 14 = .bool (!decide (t1.2 = 0)) ∧ w6 = w') ?_ ?_
    · skip
      refine cw_region ?_
      refine ol_val (v := .pointer (some ⟨G10, 0, none⟩)) (by exact xr_move rfl rfl) rfl rfl rfl ?_
      refine ol_val (v := .bool false) (by exact xr_eqP (b := false) rfl Try.underlying30 rfl rfl (by simp) (by simp)) rfl rfl rfl ?_
      refine ol_val (v := .bool false) (by exact xr_move rfl rfl) rfl rfl rfl ?_
      refine ol_gval (v := .int .i64 t1.2) (by exact xr_move rfl rfl) rfl rfl rfl rfl rfl rfl ?_
      refine ol_gval (v := .bool (!decide (t1.2 = 0))) (by exact xr_neI rfl Try.underlying31 rfl rfl rfl) rfl rfl rfl rfl rfl rfl ?_
      refine ol_val (v := .bool (!decide (t1.2 = 0))) (by exact xr_pickF rfl rfl rfl rfl) rfl rfl rfl ?_
      refine ol_nil ?_
      refine thn_i ?_
      exact ⟨rfl, rfl, rfl⟩
    · skip
      rintro ρ20 _ ⟨e1, e14, rfl⟩
      rcases is h with ⟨c21, h⟩ | ⟨c21, h⟩
      · refine cw_condT e14 c21 ?_
        refine cw_seq ?_
        refine cw_region ?_
        refine ol_val (v := .bool false) (by exact xr_assign rfl rfl) rfl rfl rfl ?_
        refine ol_nil ?_
        refine cw_ret ?_
        repeat (first | with_reducible refine thn_r ?_ | with_reducible refine blk_r ?_)
        obtain rfl := Option.some.inj h
        refine fin_ret1 Try.results24 rfl ?_
        exact ⟨_, rfl, rfl, fB⟩
      · refine cw_condF e14 c21 ?_
        refine cw_skip ?_
        refine cw_seq ?_
        refine cw_region ?_
        refine ol_val (v := .pointer (some ⟨G10, 0, none⟩)) (by exact xr_move rfl e1) rfl rfl rfl ?_
        obtain ⟨t22, k23, h⟩ := bs h
        have c33 : ∀ k, (k = G10 ∨ some k = Value.ownBlock u14 ∨ some k = Value.ownBlock u17) → w.heap.size ≤ k := (cv_or (cv_eq z11) (cv_or (cv_own o15.geO) (cv_own o18.geO)))
        refine ol_op (by exact opv_call rfl cal28 (ac rfl (ac rfl (ac rfl an))) (pmem_Device_Store.ok fu _ m8 G10 u14 (Own.base o15 (Nat.zero_le _)) u17 (Own.base o18 (Nat.zero_le _)) b12 0 5 _ k23)) rfl rfl rfl ?_
        rintro _ w34 ⟨u25, u29, o26, m27, o30, m31, rfl, b12, q24⟩
        have o26 := Own.rebase o26 (fun g hg => (m27 g hg).elim (fun x => Nat.le_trans fB.size x) (c33 g))
        have o30 := Own.rebase o30 (fun g hg => (m31 g hg).elim (fun x => Nat.le_trans fB.size x) (c33 g))
        have fB := fB.call q24 (fun k h => .inl (c33 k h))
        refine ol_nil ?_
        refine cw_seq ?_
        refine cw_region ?_
        refine ol_val (v := .pointer (some ⟨G10, 0, none⟩)) (by exact xr_move rfl e1) rfl rfl rfl ?_
        obtain ⟨t35, k36, h⟩ := bs h
        have c46 : ∀ k, (k = G10 ∨ some k = Value.ownBlock u25 ∨ some k = Value.ownBlock u29) → w.heap.size ≤ k := (cv_or (cv_eq z11) (cv_or (cv_own o26.geO) (cv_own o30.geO)))
        refine ol_op (by exact opv_call rfl cal29 (ac rfl (ac rfl an)) (pmem_Device_Flush.ok fu _ t22.2 G10 u25 (Own.base o26 (Nat.zero_le _)) u29 (Own.base o30 (Nat.zero_le _)) b12 0 _ k36)) rfl rfl rfl ?_
        rintro _ w47 ⟨u38, u42, o39, m40, o43, m44, rfl, b12, q37⟩
        have o39 := Own.rebase o39 (fun g hg => (m40 g hg).elim (fun x => Nat.le_trans fB.size x) (c46 g))
        have o43 := Own.rebase o43 (fun g hg => (m44 g hg).elim (fun x => Nat.le_trans fB.size x) (c46 g))
        have fB := fB.call q37 (fun k h => .inl (c46 k h))
        refine ol_nil ?_
        refine cw_seq ?_
        refine cw_region ?_
        refine ol_val (v := .pointer (some ⟨G10, 0, none⟩)) (by exact xr_move rfl e1) rfl rfl rfl ?_
        obtain ⟨t48, k49, h⟩ := bs h
        have c59 : ∀ k, (k = G10 ∨ some k = Value.ownBlock u38 ∨ some k = Value.ownBlock u42) → w.heap.size ≤ k := (cv_or (cv_eq z11) (cv_or (cv_own o39.geO) (cv_own o43.geO)))
        refine ol_op (by exact opv_call rfl cal28 (ac rfl (ac rfl (ac rfl an))) (pmem_Device_Store.ok fu _ t35.2 G10 u38 (Own.base o39 (Nat.zero_le _)) u42 (Own.base o43 (Nat.zero_le _)) b12 0 6 _ k49)) rfl rfl rfl ?_
        rintro _ w60 ⟨u51, u55, o52, m53, o56, m57, rfl, b12, q50⟩
        have o52 := Own.rebase o52 (fun g hg => (m53 g hg).elim (fun x => Nat.le_trans fB.size x) (c59 g))
        have o56 := Own.rebase o56 (fun g hg => (m57 g hg).elim (fun x => Nat.le_trans fB.size x) (c59 g))
        have fB := fB.call q50 (fun k h => .inl (c59 k h))
        refine ol_nil ?_
        refine cw_seq ?_
        refine cw_region ?_
        refine ol_val (v := .pointer (some ⟨G10, 0, none⟩)) (by exact xr_move rfl e1) rfl rfl rfl ?_
        obtain ⟨t61, k62, h⟩ := bs h
        have c72 : ∀ k, (k = G10 ∨ some k = Value.ownBlock u51 ∨ some k = Value.ownBlock u55) → w.heap.size ≤ k := (cv_or (cv_eq z11) (cv_or (cv_own o52.geO) (cv_own o56.geO)))
        refine ol_op (by exact opv_call rfl cal30 (ac rfl an) (pmem_Device_Fence.ok fu _ t48.2 G10 u51 (Own.base o52 (Nat.zero_le _)) u55 (Own.base o56 (Nat.zero_le _)) b12 _ k62)) rfl rfl rfl ?_
        rintro _ w73 ⟨u64, u68, o65, m66, o69, m70, rfl, b12, q63⟩
        have o65 := Own.rebase o65 (fun g hg => (m66 g hg).elim (fun x => Nat.le_trans fB.size x) (c72 g))
        have o69 := Own.rebase o69 (fun g hg => (m70 g hg).elim (fun x => Nat.le_trans fB.size x) (c72 g))
        have fB := fB.call q63 (fun k h => .inl (c72 k h))
        refine ol_nil ?_
        refine cw_seq ?_
        refine cw_region ?_
        refine ol_val (v := .pointer (some ⟨G10, 0, none⟩)) (by exact xr_move rfl e1) rfl rfl rfl ?_
        obtain ⟨t74, k75, h⟩ := bs h
        have c85 : ∀ k, (k = G10 ∨ some k = Value.ownBlock u64 ∨ some k = Value.ownBlock u68) → w.heap.size ≤ k := (cv_or (cv_eq z11) (cv_or (cv_own o65.geO) (cv_own o69.geO)))
        refine ol_op (by exact opv_call rfl cal32 (ac rfl (ac rfl an)) (pmem_Device_Crash.ok fu _ t61.2 G10 u64 (Own.base o65 (Nat.zero_le _)) u68 (Own.base o69 (Nat.zero_le _)) b12 [] (.slice none 0 0) (Rd.nil (kI .i64) _) (OffR.nil _ _) (OffRV.nilL _ _) (OffRV.nilL _ _) _ k75)) rfl rfl rfl ?_
        rintro _ w86 ⟨u77, u81, o78, m79, o82, m83, rfl, b12, q76⟩
        have o78 := Own.rebase o78 (fun g hg => (m79 g hg).elim (fun x => Nat.le_trans fB.size x) (c85 g))
        have o82 := Own.rebase o82 (fun g hg => (m83 g hg).elim (fun x => Nat.le_trans fB.size x) (c85 g))
        have fB := fB.call q76 (fun k h => .inl (c85 k h))
        refine ol_nil ?_
        refine cw_seq ?_
        refine cw_region ?_
        refine ol_val (v := .pointer (some ⟨G10, 0, none⟩)) (by exact xr_move rfl e1) rfl rfl rfl ?_
        obtain ⟨t87, k88, h⟩ := bs h
        refine ol_op (by exact opv_call rfl cal82 (ac rfl (ac rfl an)) (pmem_Device_Load.ok fu _ t74 G10 u77 (o78.rd) u81 (o82.rd) b12 0 _ k88)) rfl rfl rfl ?_
        rintro _ w90 ⟨rfl, q89⟩
        have fB := fB.gr q89
        refine ol_val (v := .tuple #[.int .u64 t87.1, .int .i64 t87.2]) (by exact xr_move rfl rfl) rfl rfl rfl ?_
        refine ol_val (v := .int .u64 t87.1) (by exact xr_extract rfl rfl rfl) rfl rfl rfl ?_
        refine ol_val (v := .int .i64 t87.2) (by exact xr_extract rfl rfl rfl) rfl rfl rfl ?_
        refine ol_val (v := .int .u64 t87.1) (by exact xr_assign rfl rfl) rfl rfl rfl ?_
        refine ol_val (v := .int .i64 t87.2) (by exact xr_assign rfl rfl) rfl rfl rfl ?_
        refine ol_nil ?_
        refine cw_seq ?_
        refine cw_mid (fun ρ' w' => ρ' 0 = .bool (if (decide (t87.2 = 0)) = true then (decide (t87.1 = 5)) else false) ∧ w90 = w') ?_ ?_
        · skip
          refine cw_region ?_
          refine ol_val (v := .int .i64 t87.2) (by exact xr_move rfl rfl) rfl rfl rfl ?_
          refine ol_val (v := .bool (decide (t87.2 = 0))) (by exact xr_eqI rfl Try.underlying31 rfl rfl rfl) rfl rfl rfl ?_
          refine ol_val (v := .bool (decide (t87.2 = 0))) (by exact xr_move rfl rfl) rfl rfl rfl ?_
          rcases bt (decide (t87.2 = 0)) with c91 | c91
          · skip
            refine ol_gval (v := .int .u64 t87.1) (by exact xr_move rfl rfl) rfl rfl rfl rfl rfl c91 ?_
            refine ol_gval (v := .bool (decide (t87.1 = 5))) (by exact xr_eqI rfl Try.underlying22 rfl rfl rfl) rfl rfl rfl rfl rfl c91 ?_
            refine ol_val (v := .bool (decide (t87.1 = 5))) (by exact xr_pickT rfl rfl c91 rfl) rfl rfl rfl ?_
            refine ol_val (v := .bool (decide (t87.1 = 5))) (by exact xr_assign rfl rfl) rfl rfl rfl ?_
            refine ol_nil ?_
            refine thn_i ?_
            exact ⟨(rfl).trans (congrArg (fun z => (.bool z : Value)) (show (decide (t87.1 = 5)) = (if (decide (t87.2 = 0)) = true then (decide (t87.1 = 5)) else false) from by rw [ite_t c91])), rfl⟩
          · skip
            refine ol_gskip rfl rfl rfl rfl rfl c91 ?_
            refine ol_gskip rfl rfl rfl rfl rfl c91 ?_
            refine ol_val (v := .bool false) (by exact xr_pickF rfl rfl c91 rfl) rfl rfl rfl ?_
            refine ol_val (v := .bool false) (by exact xr_assign rfl rfl) rfl rfl rfl ?_
            refine ol_nil ?_
            refine thn_i ?_
            exact ⟨(rfl).trans (congrArg (fun z => (.bool z : Value)) (show false = (if (decide (t87.2 = 0)) = true then (decide (t87.1 = 5)) else false) from by rw [ite_f c91])), rfl⟩
        · skip
          rintro ρ92 _ ⟨e0, rfl⟩
          refine cw_ret ?_
          repeat (first | with_reducible refine thn_r ?_ | with_reducible refine blk_r ?_)
          obtain rfl := Option.some.inj h
          refine fin_ret1 Try.results24 e0 ?_
          exact ⟨_, rfl, rfl, fB⟩
end Go.Proofs.Ytklhbaghbmndeaa

/- Acts on a device: rounds with what stays true, small acts, the first example. -/
set_option linter.unusedVariables false
set_option linter.unusedSimpArgs false
namespace Go.Proofs.Ytklhbaghbmndeaa.Pure
open Go Go.Xw
theorem loopM_inv {σ ε : Type} {step : σ → Option (Sum ε σ)} (P : Nat → σ → Prop) (n : Nat) (Q : ε → Prop) (h : ∀ j s, j < n → P j s → ∃ s', step s = some (.inr s') ∧ P (j + 1) s') (he : ∀ s, P n s → ∃ e, step s = some (.inl e) ∧ Q e) : ∀ {k j : Nat} {s : σ}, P j s → j ≤ n → n - j < k → ∃ e, loopM step k s = some e ∧ Q e
  | 0, j, s, _, _, hk => by omega
  | k + 1, j, s, hp, hj, hk => by
    unfold loopM
    by_cases e1 : j = n
    · subst e1
      obtain ⟨e, h1, h2⟩ := he s hp
      rw [h1]
      exact ⟨e, rfl, h2⟩
    · obtain ⟨s', h1, h2⟩ := h j s (by omega) hp
      rw [h1]
      exact loopM_inv P n Q h he h2 (by omega) (by omega)
theorem okA_of {a : S_rickyardlaw05_Act} (h : ok_rickyardlaw05_Act a) (hl : a.L.length ≤ 40) : okA a := by
  obtain ⟨h1, h2, h3, h4, _⟩ := h
  exact ⟨wf64.1 h1, wf64.1 h2, wfu64.1 h3, fun x hx => wf64.1 (h4 x hx), by omega⟩
def Small (acts : List S_rickyardlaw05_Act) (m : Nat) : Prop := acts.length ≤ m ∧ ∀ a ∈ acts, a.L.length ≤ 40
instance (acts : List S_rickyardlaw05_Act) (m : Nat) : Decidable (Small acts m) := inferInstanceAs (Decidable (_ ∧ _))
theorem small_eq {fu m : Nat} {acts : List S_rickyardlaw05_Act} (hm : m ≤ 1000) (hf : m < fu) : rickyardlaw05_Small.f fu acts (m : Int) = some (decide (Small acts m)) := by
  unfold rickyardlaw05_Small.f
  by_cases h1 : acts.length ≤ m
  · have c : ¬ (acts.length : Int) > (m : Int) := by omega
    rw [decide_eq_false c, if_neg (by decide)]
    have hs : ∀ j : Nat, j < acts.length → rickyardlaw05_Small.s0 fu acts (j : Int) = some (if (ix acts (j : Int)).L.length ≤ 40 then .inr ((j + 1 : Nat) : Int) else .inl (.inl false)) := by
      intro j hj
      unfold rickyardlaw05_Small.s0
      have w3 : IntKind.i64.wrap ((j : Int) + 1) = ((j + 1 : Nat) : Int) := by rw [w64 (by omega) (by omega)]; omega
      have c1 : 0 ≤ (j : Int) ∧ (j : Int) < (acts.length : Int) := by omega
      rw [decide_eq_true c1.2, if_pos rfl, if_pos c1, w3]
      by_cases e : (ix acts (j : Int)).L.length ≤ 40
      · rw [decide_eq_false (by omega), if_neg (by decide), if_pos e]
      · rw [decide_eq_true (by omega), if_pos rfl, if_neg e]
    by_cases h2 : ∀ a ∈ acts, a.L.length ≤ 40
    · have : loopM (rickyardlaw05_Small.s0 fu acts) fu 0 = some (.inr ()) := by
        refine loopM_run (S := fun j => (j : Int)) acts.length rfl (fun j hj => by rw [hs j hj, ix_nat hj, if_pos (h2 _ (List.getElem_mem hj))]) ?_ (by omega)
        unfold rickyardlaw05_Small.s0
        rw [decide_eq_false (show ¬ ((acts.length : Int) < (acts.length : Int)) by omega), if_neg (by decide)]
      rw [this, decide_eq_true (show Small acts m from ⟨h1, h2⟩)]
      rfl
    · have : loopM (rickyardlaw05_Small.s0 fu acts) fu 0 = some (.inl false) := by
        refine loopM_bad (S := fun j => (j : Int)) acts.length (fun j => (ix acts (j : Int)).L.length ≤ 40) rfl ?_ (fun j hj _ hg => by rw [hs j hj, if_pos hg]) (fun j hj _ hg => by rw [hs j hj, if_neg hg]) (by omega)
        apply Classical.byContradiction
        intro hx
        refine h2 fun a ha => ?_
        obtain ⟨i, hi, rfl⟩ := List.getElem_of_mem ha
        refine Classical.byContradiction fun hg => hx ⟨i, hi, ?_⟩
        rw [ix_nat hi]
        exact hg
      rw [this, decide_eq_false (show ¬ Small acts m from fun q => h2 q.2)]
      rfl
  · have c : (acts.length : Int) > (m : Int) := by omega
    rw [decide_eq_true c, if_pos rfl, decide_eq_false (show ¬ Small acts m from fun q => h1 q.1)]
/-- The fuel. -/
abbrev FU : Nat := 200000
theorem awake05 : rickyardlaw05_awake.f FU = some true := by decide +kernel
theorem up_eq {fu : Nat} {d : Dev} : pmem_Device_Up.f fu d = some (!d.off) := rfl
theorem steps_eq {fu : Nat} {d : Dev} : pmem_Device_Steps.f fu d = some d.steps := rfl
theorem eta {d : Dev} : (⟨d.cells, ⟨d.plan.list, d.plan.at_⟩, d.off, d.armed, d.left, d.steps⟩ : S_pmem_Device) = d := rfl
def tup (i : Int) (d : Dev) : Int × (List S_pmem_cell) × (List Int) × Int × Bool × Bool × Int × Int := (i, d.cells, d.plan.list, d.plan.at_, d.off, d.armed, d.left, d.steps)
theorem next64 {j n : Nat} (h : j < n) (hn : n ≤ 100000) : IntKind.i64.wrap ((j : Int) + 1) = ((j + 1 : Nat) : Int) := by rw [w64 (by omega) (by omega)]; omega
end Go.Proofs.Ytklhbaghbmndeaa.Pure

/- The octets of numbers, as the document tells them; parts of them. -/
set_option linter.unusedVariables false
set_option linter.unusedSimpArgs false
namespace Go.Proofs.Ytklhbaghbmndeaa.Pure
open Go Go.Xw
theorem shr_pow (n j : Nat) (hj : j < 8) : shR .u64 (n : Int) ((8 * j : Nat) : Int) = ((n / 256 ^ j : Nat) : Int) := by
  unfold shR
  rw [Int.toNat_natCast]
  have e : min (8 * j) IntKind.u64.bits = 8 * j := Nat.min_eq_left (by show 8 * j ≤ 64; omega)
  rw [e, show (256 : Nat) = 2 ^ 8 from rfl, ← Nat.pow_mul]
  have : ((2 : Int) ^ (8 * j)) = ((2 ^ (8 * j) : Nat) : Int) := by simp
  rw [this, Int.fdiv_eq_ediv_of_nonneg _ (Int.natCast_nonneg _)]
  simp
theorem text_eq {fu : Nat} {ws : List Int} (hv : ∀ w ∈ ws, U64 w) (hl : ws.length ≤ 100000) (hf : ws.length + 8 < fu) : rickyardref05_Text.f fu ws = some ((octs ws).map toB) := by
  unfold rickyardref05_Text.f
  have : loopM (rickyardref05_Text.s1 fu ws) fu ([], 0) = some (octs ws) := by
    refine loopM_run (S := fun j => (octs (ws.take j), (j : Int))) ws.length (by simp [octs]) ?_ ?_ (by omega)
    · intro j hj
      unfold rickyardref05_Text.s1
      have w3 : IntKind.i64.wrap ((j : Int) + 1) = ((j + 1 : Nat) : Int) := next64 hj hl
      have c1 : 0 ≤ (j : Int) ∧ (j : Int) < (ws.length : Int) := by omega
      have hu := hv _ (List.getElem_mem hj)
      obtain ⟨v, hv'⟩ : ∃ v : Nat, ws[j] = (v : Int) := ⟨ws[j].toNat, by unfold U64 at hu; omega⟩
      have inner : loopM (rickyardref05_Text.s2 fu ws (octs (ws.take j), (j : Int))) fu (octs (ws.take j), 0) = some (octs (ws.take j) ++ lay v 8) := by
        refine loopM_run (S := fun i => (octs (ws.take j) ++ lay v i, (i : Int))) 8 (by simp [lay]) ?_ ?_ (by omega)
        · intro i hi
          unfold rickyardref05_Text.s2
          have c2 : (i : Int) < 8 := by omega
          have w4 : IntKind.i64.wrap (8 * (i : Int)) = ((8 * i : Nat) : Int) := by rw [w64 (by omega) (by omega)]; omega
          have w5 : IntKind.i64.wrap ((i : Int) + 1) = ((i + 1 : Nat) : Int) := by rw [w64 (by omega) (by omega)]; omega
          simp only [w4, w5]
          have hlim : List.length (octs (ws.take j) ++ lay v i) + List.length [((v / 256 ^ i % 256 : Nat) : Int)] ≤ LIM := by
            rw [List.length_append, octs_len, lay_len, List.length_take]
            exact Nat.le_trans (by simp only [List.length_cons, List.length_nil]; omega : _ ≤ 1000000) (by decide)
          rw [decide_eq_true c2, if_pos rfl, if_pos c1, if_pos (by omega), ix_nat hj, hv', shr_pow _ _ hi, wu8_mod, if_pos hlim, lay_succ, List.append_assoc]
        · unfold rickyardref05_Text.s2
          rw [decide_eq_false (show ¬ (((8 : Nat) : Int) < 8) by decide), if_neg (by decide)]
      simp only [w3]
      rw [decide_eq_true c1.2, if_pos rfl, inner, take_next hj, octs_append, octs_one, hv', Int.toNat_natCast]
      rfl
    · unfold rickyardref05_Text.s1
      rw [decide_eq_false (show ¬ ((ws.length : Int) < (ws.length : Int)) by omega), if_neg (by decide), List.take_length]
  rw [this]
  rfl
theorem octs_take (ws : List Int) (i : Nat) : (octs ws).take (8 * i) = octs (ws.take i) := by
  by_cases h : i ≤ ws.length
  · have e : octs ws = octs (ws.take i) ++ octs (ws.drop i) := by rw [← octs_append, List.take_append_drop]
    rw [e, List.take_append_of_le_length (by rw [octs_len, List.length_take]; omega), List.take_of_length_le (by rw [octs_len, List.length_take]; omega)]
  · rw [List.take_of_length_le (by rw [octs_len]; omega), List.take_of_length_le (by omega)]
theorem octs_drop (ws : List Int) (i : Nat) : (octs ws).drop (8 * i) = octs (ws.drop i) := by
  by_cases h : i ≤ ws.length
  · have e : octs ws = octs (ws.take i) ++ octs (ws.drop i) := by rw [← octs_append, List.take_append_drop]
    have hl : (octs (ws.take i)).length = 8 * i := by rw [octs_len, List.length_take]; omega
    rw [e, ← hl, List.drop_left]
  · rw [List.drop_of_length_le (by rw [octs_len]; omega), List.drop_of_length_le (by omega)]
    rfl
theorem octs_cut (ws : List Int) (i j : Nat) : cut (octs ws) ((8 * i : Nat) : Int) ((8 * j : Nat) : Int) = octs (cut ws (i : Int) (j : Int)) := by
  unfold cut
  rw [Int.toNat_natCast, Int.toNat_natCast, Int.toNat_natCast, Int.toNat_natCast, octs_take, octs_drop]
theorem ix_mapIdx {α : Type} [Inhabited α] {cs : List α} {g : Nat → α → α} {i : Nat} (hi : i < cs.length) : ix (cs.mapIdx g) (i : Int) = g i (ix cs (i : Int)) := by
  rw [ix_nat (by simpa using hi), ix_nat hi, List.getElem_mapIdx]
theorem ix_mapC {α : Type} [Inhabited α] {cs : List α} {g : α → α} {i : Nat} (hi : i < cs.length) : ix (cs.map g) (i : Int) = g (ix cs (i : Int)) := by
  rw [ix_nat (by simpa using hi), ix_nat hi, List.getElem_map]
theorem cut_get {α : Type} {l : List α} {a b i : Nat} (h : i < (cut l (a : Int) (b : Int)).length) (h2 : a + i < l.length) : (cut l (a : Int) (b : Int))[i] = l[a + i] := by
  simp only [cut, Int.toNat_natCast, List.getElem_drop, List.getElem_take]
theorem cut_len' {α : Type} {l : List α} {a b : Nat} (h : b ≤ l.length) : (cut l (a : Int) (b : Int)).length = b - a := by
  simp only [cut, Int.toNat_natCast, List.length_drop, List.length_take]
  omega
theorem mapB_inj {l m : List Int} (hl : Bytes l) (hm : Bytes m) (h : l.map toB = m.map toB) : l = m := by
  apply List.ext_getElem
  · have := congrArg List.length h
    simpa using this
  · intro i h1 h2
    have e := congrArg (fun x => x[i]?) h
    simp only [List.getElem?_map, List.getElem?_eq_getElem h1, List.getElem?_eq_getElem h2, Option.map_some, Option.some.injEq] at e
    have b1 := hl _ (List.getElem_mem h1)
    have b2 := hm _ (List.getElem_mem h2)
    unfold toB at e
    have := congrArg UInt8.toNat e
    simp only [UInt8.toNat_ofNat'] at this
    omega
end Go.Proofs.Ytklhbaghbmndeaa.Pure

/- rickyard/rickyardref01.Number: its model, and that the Go function computes it: written by gen.py. -/
set_option linter.unusedVariables false
namespace Go.Proofs.Ytklhbaghbmndeaa
open Go Go.Xw
def rickyardref01_Number.s0 (fu : Nat) (a0 : List UInt8) : (Int × Int) → Option (Sum Int (Int × Int)) := fun s1 => (if (decide (s1.2 ≥ 0)) = true then (((if (decide (s1.2 < 8)) = true then (if 0 ≤ s1.2 ∧ s1.2 < (List.length a0 : Int) then some ((IntKind.u64.wrap ((IntKind.u64.wrap (s1.1 * 256)) + (IntKind.u64.wrap (ofB (List.getD a0 (Int.toNat s1.2) 0)))))) else none) else some (s1.1)) : Option Int).bind fun x9 => some (Sum.inr (x9, (IntKind.i64.wrap (s1.2 - 1))))) else some (Sum.inl (s1.1)))
def rickyardref01_Number.f (fu : Nat) (a0 : List UInt8) : Option Int := ((loopM (rickyardref01_Number.s0 fu a0) fu (0, (IntKind.i64.wrap ((List.length a0 : Int) - 1)))).bind fun e2 => some (e2))
set_option maxRecDepth 100000 in
set_option maxHeartbeats 400000 in
theorem rickyardref01_Number.ok (fu : Nat) (w : World) (a0 : List UInt8) (r : Int) (h : rickyardref01_Number.f fu a0 = some r) :
    Calls Try.prog 41 (([sv a0] : List Value).toArray) w (fun e w' => ∃ v, e = .returned v ∧ v = .int .u64 r ∧ Gr w w') := by
  unfold rickyardref01_Number.f at h
  have fB : Gr w w := Fr.refl _ _
  refine calls_cw Try.func41 rfl Try.ntmps41 rfl ?_
  refine cw_seq ?_
  refine cw_region ?_
  refine ol_val (v := .int .u64 0) (by exact xr_assign rfl rfl) rfl rfl rfl ?_
  refine ol_nil ?_
  refine cw_seq ?_
  refine cw_region ?_
  refine ol_val (v := .int .u64 0) (by exact xr_assign rfl rfl) rfl rfl rfl ?_
  refine ol_nil ?_
  refine cw_seq ?_
  refine cw_seq ?_
  refine cw_region ?_
  refine ol_val (v := sv a0) (by exact xr_move rfl rfl) rfl rfl rfl ?_
  refine ol_val (v := .int .i64 (List.length a0 : Int)) (by exact xr_lenStr rfl Try.underlying9 rfl) rfl rfl rfl ?_
  refine ol_val (v := .int .i64 (IntKind.i64.wrap ((List.length a0 : Int) - 1))) (by exact xr_sub rfl rfl rfl) rfl rfl rfl ?_
  refine ol_val (v := .int .i64 (IntKind.i64.wrap ((List.length a0 : Int) - 1))) (by exact xr_assign rfl rfl) rfl rfl rfl ?_
  refine ol_nil ?_
  obtain ⟨e2, l3, h4⟩ := bs h
  refine cw_mid (fun ρ' w' => ρ' 3 = .int .u64 e2 ∧ Gr w w') ?_ ?_
  · refine cw_block ?_
    refine cw_round (fun (s1 : Int × Int) ρ' w' => ρ' 0 = sv a0 ∧ ρ' 3 = .int .u64 s1.1 ∧ ρ' 4 = .int .i64 s1.2 ∧ Gr w w') l3 ?_ ?_
    · skip
      exact ⟨rfl, rfl, rfl, fB⟩
    · rintro s1 x7 ρ5 w6 ⟨e0, e3, e4, fB⟩ h
      unfold rickyardref01_Number.s0 at h
      refine cw_seq ?_
      refine cw_seq ?_
      refine cw_region ?_
      refine ol_val (v := .int .i64 s1.2) (by exact xr_move rfl e4) rfl rfl rfl ?_
      refine ol_val (v := .bool (decide (s1.2 ≥ 0))) (by exact xr_geq rfl rfl rfl) rfl rfl rfl ?_
      refine ol_nil ?_
      rcases is h with ⟨c8, h⟩ | ⟨c8, h⟩
      · refine cw_condT rfl c8 ?_
        refine cw_skip ?_
        refine cw_seq ?_
        refine cw_block ?_
        refine cw_seq ?_
        refine cw_region ?_
        refine ol_val (v := .int .i64 s1.2) (by exact xr_move rfl e4) rfl rfl rfl ?_
        refine ol_val (v := .bool (decide (s1.2 < 8))) (by exact xr_lss rfl rfl rfl) rfl rfl rfl ?_
        refine ol_nil ?_
        obtain ⟨x9, j10, h11⟩ := bs h
        refine cw_mid (fun ρ' w' => ρ' 0 = sv a0 ∧ ρ' 3 = .int .u64 x9 ∧ ρ' 4 = .int .i64 s1.2 ∧ Gr w w') ?_ ?_
        · have h := j10
          rcases is h with ⟨c12, h⟩ | ⟨c12, h⟩
          · refine cw_condT rfl c12 ?_
            refine cw_region ?_
            refine ol_val (v := .int .u64 s1.1) (by exact xr_move rfl e3) rfl rfl rfl ?_
            refine ol_val (v := .int .u64 (IntKind.u64.wrap (s1.1 * 256))) (by exact xr_mul rfl rfl rfl) rfl rfl rfl ?_
            refine ol_val (v := sv a0) (by exact xr_move rfl e0) rfl rfl rfl ?_
            refine ol_val (v := .int .i64 s1.2) (by exact xr_move rfl e4) rfl rfl rfl ?_
            obtain ⟨g13, h⟩ := gs h
            refine ol_val (v := .int .u8 (ofB (List.getD a0 (Int.toNat s1.2) 0))) (by exact xr_indexStr rfl Try.underlying9 rfl rfl g13.1 g13.2) rfl rfl rfl ?_
            refine ol_val (v := .int .u64 (IntKind.u64.wrap (ofB (List.getD a0 (Int.toNat s1.2) 0)))) (by exact xr_conv rfl Try.underlying5 Try.underlying22 rfl) rfl rfl rfl ?_
            refine ol_val (v := .int .u64 (IntKind.u64.wrap ((IntKind.u64.wrap (s1.1 * 256)) + (IntKind.u64.wrap (ofB (List.getD a0 (Int.toNat s1.2) 0)))))) (by exact xr_add rfl rfl rfl) rfl rfl rfl ?_
            refine ol_val (v := .int .u64 (IntKind.u64.wrap ((IntKind.u64.wrap (s1.1 * 256)) + (IntKind.u64.wrap (ofB (List.getD a0 (Int.toNat s1.2) 0)))))) (by exact xr_assign rfl rfl) rfl rfl rfl ?_
            refine ol_nil ?_
            obtain rfl := Option.some.inj h
            refine thn_i ?_
            exact ⟨e0, rfl, e4, fB⟩
          · refine cw_condF rfl c12 ?_
            refine cw_skip ?_
            obtain rfl := Option.some.inj h
            refine thn_i ?_
            exact ⟨e0, e3, e4, fB⟩
        · rintro ρ14 w15 ⟨e0, e3, e4, fB⟩
          have h := h11
          refine blk_i ?_
          refine cw_region ?_
          refine ol_val (v := .int .i64 s1.2) (by exact xr_move rfl e4) rfl rfl rfl ?_
          refine ol_val (v := .int .i64 (IntKind.i64.wrap (s1.2 - 1))) (by exact xr_sub rfl rfl rfl) rfl rfl rfl ?_
          refine ol_val (v := .int .i64 (IntKind.i64.wrap (s1.2 - 1))) (by exact xr_assign rfl rfl) rfl rfl rfl ?_
          refine ol_nil ?_
          obtain rfl := Option.some.inj h
          refine lp_in ?_
          exact ⟨e0, e3, rfl, fB⟩
      · refine cw_condF rfl c8 ?_
        refine cw_exit ?_
        repeat (first | with_reducible refine thn_e ?_ | with_reducible refine blk_e rfl ?_)
        obtain rfl := Option.some.inj h
        refine lp_exit ?_
        rintro rfl
        refine thn_x ?_
        exact ⟨e3, fB⟩
  · rintro ρ16 w17 ⟨e3, fB⟩
    have h := h4
    refine cw_seq ?_
    refine cw_region ?_
    refine ol_val (v := .int .u64 e2) (by exact xr_move rfl e3) rfl rfl rfl ?_
    refine ol_val (v := .int .u64 e2) (by exact xr_assign rfl rfl) rfl rfl rfl ?_
    refine ol_nil ?_
    refine cw_ret ?_
    repeat (first | with_reducible refine thn_r ?_ | with_reducible refine blk_r ?_)
    obtain rfl := Option.some.inj h
    refine fin_ret1 Try.results41 rfl ?_
    exact ⟨_, rfl, rfl, fB⟩
end Go.Proofs.Ytklhbaghbmndeaa

/- Octets read as a number, as the document does it. -/
set_option linter.unusedVariables false
set_option linter.unusedSimpArgs false
namespace Go.Proofs.Ytklhbaghbmndeaa.Pure
open Go Go.Xw
theorem of_toB {l : List Int} (h : Bytes l) : (l.map toB).map ofB = l := by
  rw [List.map_map]
  conv => rhs; rw [← List.map_id l]
  apply List.map_congr_left
  intro x hx
  have := h x hx
  simp only [Function.comp, ofB, toB, UInt8.toNat_ofNat', id]
  omega
theorem Bytes.drop {l : List Int} (h : Bytes l) (n : Nat) : Bytes (l.drop n) := fun x hx => h x (List.mem_of_mem_drop hx)
theorem Bytes.take {l : List Int} (h : Bytes l) (n : Nat) : Bytes (l.take n) := fun x hx => h x (List.mem_of_mem_take hx)
theorem getD_toB {l : List Int} (hb : Bytes l) {i : Nat} (h : i < l.length) : ofB (List.getD (l.map toB) (Int.toNat (i : Int)) 0) = ix l (i : Int) := by
  rw [Int.toNat_natCast, List.getD_eq_getElem?_getD, List.getElem?_map, List.getElem?_eq_getElem h, ix_nat h]
  have := of_toB (l := [l[i]]) (by intro x hx; obtain rfl := List.mem_singleton.1 hx; exact hb _ (List.getElem_mem h))
  simpa using this
theorem num_lt8 {l : List Int} (hb : Bytes l) (hl : l.length ≤ 8) : num l < 18446744073709551616 := by
  have h1 := num_lt hb
  have h2 : (256 : Nat) ^ l.length ≤ 256 ^ 8 := Nat.pow_le_pow_right (by decide) hl
  have h3 : (256 : Nat) ^ 8 = 18446744073709551616 := by decide
  omega
theorem rnumber_eq {fu : Nat} {l : List Int} (hb : Bytes l) (hl : l.length ≤ 8) (hf : l.length < fu) : rickyardref01_Number.f fu (l.map toB) = some ((num l : Nat) : Int) := by
  unfold rickyardref01_Number.f
  have w0 : IntKind.i64.wrap (((l.map toB).length : Int) - 1) = (l.length : Int) - 1 := by rw [List.length_map, w64 (by omega) (by omega)]
  rw [w0]
  have : loopM (rickyardref01_Number.s0 fu (l.map toB)) fu (0, (l.length : Int) - 1) = some ((num l : Nat) : Int) := by
    refine loopM_run (S := fun j => (((num (l.drop (l.length - j)) : Nat) : Int), (l.length : Int) - 1 - (j : Int))) l.length (by simp [num]) ?_ ?_ hf
    · intro j hj
      unfold rickyardref01_Number.s0
      obtain ⟨i, hi⟩ : ∃ i : Nat, l.length - j = i + 1 := ⟨l.length - j - 1, by omega⟩
      have e1 : (l.length : Int) - 1 - (j : Int) = (i : Int) := by omega
      have hil : i < l.length := by omega
      have e2 : l.length - (j + 1) = i := by omega
      have c1 : (i : Int) ≥ 0 := by omega
      have c2 : (i : Int) < 8 := by omega
      have c3 : True ∧ (i : Int) < ((l.map toB).length : Int) := ⟨trivial, by rw [List.length_map]; omega⟩
      have w1 : IntKind.i64.wrap ((i : Int) - 1) = (l.length : Int) - 1 - ((j + 1 : Nat) : Int) := by rw [w64 (by omega) (by omega)]; omega
      have hcb := hb _ (List.getElem_mem hil)
      obtain ⟨c, hc⟩ : ∃ c : Nat, l[i] = (c : Int) := ⟨l[i].toNat, by omega⟩
      have hd : l.drop i = l[i] :: l.drop (i + 1) := List.drop_eq_getElem_cons hil
      have hn : num (l.drop i) = c + 256 * num (l.drop (i + 1)) := by rw [hd, num, hc, Int.toNat_natCast]
      have hlt := num_lt8 (hb.drop i) (by rw [List.length_drop]; omega)
      rw [hn] at hlt
      have w2 : IntKind.u64.wrap (((num (l.drop (i + 1)) : Nat) : Int) * 256) = ((num (l.drop (i + 1)) : Nat) : Int) * 256 := wu64 (by omega) (by omega)
      have w3 : IntKind.u64.wrap (ix l (i : Int)) = (c : Int) := by rw [ix_nat hil, hc, wu64 (by omega) (by omega)]
      have w4 : IntKind.u64.wrap (((num (l.drop (i + 1)) : Nat) : Int) * 256 + (c : Int)) = ((num (l.drop i) : Nat) : Int) := by rw [wu64 (by omega) (by omega), hn]; omega
      simp only [e1, hi, e2, getD_toB hb hil, w1, w2, w3, w4, c1, c2, decide_true, if_true]
      rw [if_pos c3]
      rfl
    · unfold rickyardref01_Number.s0
      have : ¬ (l.length : Int) - 1 - (l.length : Int) ≥ 0 := by omega
      simp only [this]
      simp
  rw [this]
  rfl
end Go.Proofs.Ytklhbaghbmndeaa.Pure

/- The open words of a device, one behind the other. -/
set_option linter.unusedVariables false
set_option linter.unusedSimpArgs false
namespace Go.Proofs.Ytklhbaghbmndeaa.Pure
open Go Go.Xw
theorem fates_len (d : Dev) : ∀ j, j ≤ d.cells.length → (fatesU d j).length = opens d.cells j
  | 0, _ => by simp [fatesU, opens]
  | j + 1, h => by
    have hj : j < d.cells.length := by omega
    rw [fatesU_succ, opens_succ hj, List.length_append, fates_len d j (by omega), ix_nat hj]
    split <;> rfl
theorem opens_le (cs : List Cell) (j : Nat) : opens cs j ≤ j := by
  unfold opens
  exact Nat.le_trans (List.length_filter_le _ _) (by rw [List.length_take]; omega)
theorem opens_mono {cs : List Cell} {p : Nat} : ∀ {q : Nat}, p ≤ q → q ≤ cs.length → opens cs p ≤ opens cs q
  | 0, h, _ => by
    have : p = 0 := by omega
    rw [this]
    exact Nat.le_refl _
  | q + 1, h, hq => by
    by_cases e : p = q + 1
    · rw [e]
      exact Nat.le_refl _
    · have := opens_mono (cs := cs) (p := p) (q := q) (by omega) (by omega)
      rw [opens_succ (by omega)]
      omega
theorem opens_lt {cs : List Cell} {p q : Nat} (h : p < q) (hq : q ≤ cs.length) (ho : openC (ix cs (p : Int)) = true) : opens cs p < opens cs q := by
  have h1 := opens_mono (cs := cs) (p := p + 1) (q := q) (by omega) hq
  rw [opens_succ (show p < cs.length by omega), ← ix_nat (l := cs) (show p < cs.length by omega), ho, if_pos rfl] at h1
  omega
theorem opens_inj {cs : List Cell} {p q : Nat} (hp : p < cs.length) (hq : q < cs.length) (op : openC (ix cs (p : Int)) = true) (oq : openC (ix cs (q : Int)) = true) (e : opens cs p = opens cs q) : p = q := by
  rcases Nat.lt_trichotomy p q with h | h | h
  · have := opens_lt h (by omega) op
    omega
  · exact h
  · have := opens_lt h (by omega) oq
    omega
/-- The i-th fate is that of the i-th open word. -/
theorem fates_at (d : Dev) : ∀ j, j ≤ d.cells.length → ∀ i, i < (fatesU d j).length → ∃ p : Nat, p < j ∧ openC (ix d.cells (p : Int)) = true ∧ opens d.cells p = i ∧ ix (fatesU d j) (i : Int) = fateD d p
  | 0, _, i, h => by simp [fatesU] at h
  | j + 1, hj, i, h => by
    have hjl : j < d.cells.length := by omega
    have hl := fates_len d j (by omega)
    have e := fatesU_succ d j
    by_cases hi : i < (fatesU d j).length
    · obtain ⟨p, h1, h2, h3, h4⟩ := fates_at d j (by omega) i hi
      refine ⟨p, by omega, h2, h3, ?_⟩
      rw [← h4, ix_nat h, ix_nat hi]
      simp only [e]
      rw [List.getElem_append_left hi]
    · cases ho : openC (ix d.cells (j : Int))
      · rw [e, ho] at h
        simp at h
        omega
      · have h' := h
        rw [e, ho, if_pos rfl, List.length_append] at h'
        simp only [List.length_cons, List.length_nil] at h'
        have hi2 : i = (fatesU d j).length := by omega
        refine ⟨j, by omega, ho, by omega, ?_⟩
        rw [ix_nat h]
        simp only [e, ho, if_true]
        rw [List.getElem_append_right (by omega)]
        simp [hi2]
theorem value_eq {fu : Nat} {f : S_api_Fate} {n : Int} (hn : I64 n) : rickyardref05_Value.f fu f n = some (if n % 3 = 2 then f.Stored else if n % 3 = 1 ∧ f.Flushed = true then f.Sent else f.Lasts) := by
  unfold rickyardref05_Value.f
  rw [rest7_eq hn (by decide)]
  simp only [Option.bind_some]
  by_cases h2 : n % 3 = 2
  · rw [decide_eq_true h2, if_pos rfl, if_pos h2]
  · rw [decide_eq_false h2, if_neg (by decide), if_neg h2]
    by_cases h1 : n % 3 = 1
    · rw [decide_eq_true h1]
      cases f.Flushed <;> simp [h1]
    · rw [decide_eq_false h1]
      simp [h1]
theorem value_fate {fu : Nat} {d : Dev} {p : Nat} {n : Int} (hn : I64 n) : rickyardref05_Value.f fu (fateD d p) n = some (fateC (ix d.cells (p : Int)) n) := value_eq hn
theorem octs_set (ws : List Int) {p : Nat} {v : Int} (h : p < ws.length) : splL (octs ws) (8 * p) (lay v.toNat 8) = octs (ws.set p v) := by
  unfold splL
  rw [lay_len, octs_take, show 8 * p + 8 = 8 * (p + 1) from by omega, octs_drop, List.set_eq_take_append_cons_drop, if_pos h, octs_append]
  simp [octs]
theorem octs_at (ws : List Int) {p : Nat} (h : p < ws.length) : cut (octs ws) ((8 * p : Nat) : Int) ((8 * p + 8 : Nat) : Int) = lay (ix ws (p : Int)).toNat 8 := by
  rw [show 8 * p + 8 = 8 * (p + 1) from by omega, octs_cut, ← octs_one]
  congr 1
  unfold cut
  rw [Int.toNat_natCast, Int.toNat_natCast, take_next h, List.drop_append_of_le_length (by rw [List.length_take]; omega), List.drop_of_length_le (by rw [List.length_take]; omega), ix_nat h]
  rfl
theorem number_lay {fu : Nat} {v : Int} (hv : U64 v) (hf : 8 < fu) : rickyardref01_Number.f fu (List.map toB (lay v.toNat 8)) = some v := by
  have hlt : v.toNat < 256 ^ 8 := by
    have : (256 : Nat) ^ 8 = 18446744073709551616 := by decide
    unfold U64 at hv
    omega
  rw [rnumber_eq (lay_bytes _ _) (by rw [lay_len]; exact Nat.le_refl _) (by rw [lay_len]; exact hf), num_lay, Nat.mod_eq_of_lt hlt]
  unfold U64 at hv
  congr 1
  omega
theorem crash_get {d : Dev} {l : List Int} {p : Nat} (hp : p < d.cells.length) : ix (crashD d l).cells (p : Int) = crashC (ix d.cells (p : Int)) (l.getD (opens d.cells p) 0) := ix_mapIdx (g := fun i c => crashC c (l.getD (opens d.cells i) 0)) hp
theorem crash_lasts {d : Dev} {l : List Int} {p : Nat} (hp : p < d.cells.length) : ix (lastsD (crashD d l)) (p : Int) = if openC (ix d.cells (p : Int)) = true then fateC (ix d.cells (p : Int)) (l.getD (opens d.cells p) 0) else ix (lastsD d) (p : Int) := by
  have hc : p < (crashD d l).cells.length := by simpa [crashD, crashL] using hp
  have e1 : ix (lastsD (crashD d l)) (p : Int) = (ix (crashD d l).cells (p : Int)).lasts := by
    unfold lastsD
    rw [ix_nat (by simpa using hc), ix_nat hc, List.getElem_map]
  have e2 : ix (lastsD d) (p : Int) = (ix d.cells (p : Int)).lasts := by
    unfold lastsD
    rw [ix_nat (by simpa using hp), ix_nat hp, List.getElem_map]
  rw [e1, e2, crash_get hp]
  unfold crashC
  split <;> rfl
theorem getD_I64 {l : List Int} (h : ∀ x ∈ l, I64 x) (i : Nat) : I64 (l.getD i 0) := by
  by_cases hi : i < l.length
  · rw [getD_of _ _ _ hi]
    exact h _ (List.getElem_mem hi)
  · rw [List.getD_eq_getElem?_getD, List.getElem?_eq_none (by omega)]
    unfold I64
    simp
/-- Behind a crash no word is open. -/
theorem crash_shut {d : Dev} {l : List Int} {p : Nat} (hp : p < d.cells.length) : openC (ix (crashD d l).cells (p : Int)) = false ∧ (ix (crashD d l).cells (p : Int)).stored = (ix (crashD d l).cells (p : Int)).lasts := by
  rw [crash_get hp]
  unfold crashC
  cases ho : openC (ix d.cells (p : Int))
  · rw [if_neg (by decide)]
    have : (ix d.cells (p : Int)).flushed = false := by
      unfold openC at ho
      cases hf : (ix d.cells (p : Int)).flushed
      · rfl
      · rw [hf] at ho
        cases ho
    refine ⟨?_, rfl⟩
    unfold openC
    simp [this]
  · rw [if_pos rfl]
    refine ⟨?_, rfl⟩
    unfold openC
    simp
theorem fates_none {d : Dev} (h : ∀ p : Nat, p < d.cells.length → openC (ix d.cells (p : Int)) = false) : fatesD d = [] := by
  have : ∀ j, j ≤ d.cells.length → fatesU d j = [] := by
    intro j
    induction j with
    | zero => intro _; simp [fatesU]
    | succ j ih =>
      intro hj
      rw [fatesU_succ, ih (by omega), h j (by omega)]
      rfl
  exact this _ (Nat.le_refl _)
theorem crash_crash {d : Dev} {l m : List Int} : crashD (crashD d l) m = crashD d l := by
  have : (crashD (crashD d l) m).cells = (crashD d l).cells := by
    apply List.ext_getElem (by simp [crashD, crashL])
    intro p h1 h2
    have hp : p < d.cells.length := by simpa [crashD, crashL] using h2
    have h3 := crash_shut (l := l) hp
    have e : ∀ z : Dev, (hz : p < z.cells.length) → z.cells[p] = ix z.cells (p : Int) := fun z hz => (ix_nat hz).symm
    rw [e _ h1, e _ h2, crash_get h2]
    unfold crashC
    rw [h3.1, if_neg (by decide)]
    generalize ix (crashD d l).cells (p : Int) = c at *
    obtain ⟨x, y, z, f⟩ := c
    have : y = x := h3.2
    subst this
    rfl
  show (⟨(crashD (crashD d l) m).cells, ⟨[], 0⟩, false, false, 0, d.steps⟩ : S_pmem_Device) = _
  rw [this]
  rfl
theorem crash_view {d : Dev} {l : List Int} : storedD (crashD d l) = lastsD (crashD d l) := by
  unfold storedD lastsD
  apply List.ext_getElem (by simp)
  intro p h1 h2
  have hp : p < d.cells.length := by simpa [crashD, crashL] using h1
  have hp2 : p < (crashD d l).cells.length := by simpa using h1
  rw [List.getElem_map, List.getElem_map, ← ix_nat hp2]
  exact (crash_shut hp).2
end Go.Proofs.Ytklhbaghbmndeaa.Pure

/- rickyard/rickyardref05.Same: its model, and that the Go function computes it: written by gen.py. -/
set_option linter.unusedVariables false
namespace Go.Proofs.Ytklhbaghbmndeaa
open Go Go.Xw
def rickyardref05_Same.s0 (fu : Nat) (a0 : List S_api_Fate) (a1 : List S_api_Fate) : Int → Option (Sum (Sum Bool Unit) Int) := fun s2 => (if (decide (s2 < (List.length a0 : Int))) = true then (if 0 ≤ s2 ∧ s2 < (List.length a0 : Int) then (if 0 ≤ s2 ∧ s2 < (List.length a1 : Int) then (if (!decide ((ix a0 s2) = (ix a1 s2))) = true then some (Sum.inl (Sum.inl (false))) else some (Sum.inr ((IntKind.i64.wrap (s2 + 1))))) else none) else none) else some (Sum.inl (Sum.inr ())))
def rickyardref05_Same.f (fu : Nat) (a0 : List S_api_Fate) (a1 : List S_api_Fate) : Option Bool := (if (!decide ((List.length a0 : Int) = (List.length a1 : Int))) = true then some (false) else ((loopM (rickyardref05_Same.s0 fu a0 a1) fu (0)).bind fun e3 => match e3 with | Sum.inl p => some p | Sum.inr x6 => some (true)))
set_option maxRecDepth 100000 in
set_option maxHeartbeats 400000 in
theorem rickyardref05_Same.ok (fu : Nat) (w : World) (a0 : List S_api_Fate) (V0_0 : Value) (R0_0 : Rd k_api_Fate w V0_0 a0) (a1 : List S_api_Fate) (V1_0 : Value) (R1_0 : Rd k_api_Fate w V1_0 a1) (r : Bool) (h : rickyardref05_Same.f fu a0 a1 = some r) :
    Calls Try.prog 46 (([V0_0, V1_0] : List Value).toArray) w (fun e w' => ∃ v, e = .returned v ∧ v = .bool r ∧ Gr w w') := by
  unfold rickyardref05_Same.f at h
  have fB : Gr w w := Fr.refl _ _
  refine calls_cw Try.func46 rfl Try.ntmps46 rfl ?_
  refine cw_seq ?_
  refine cw_region ?_
  refine ol_val (v := .bool false) (by exact xr_assign rfl rfl) rfl rfl rfl ?_
  refine ol_nil ?_
  refine cw_seq ?_
  refine cw_seq ?_
  refine cw_region ?_
  refine ol_val (v := V0_0) (by exact xr_move rfl rfl) rfl rfl rfl ?_
  refine ol_val (v := .int .i64 (List.length a0 : Int)) (by exact xr_lenR rfl Try.underlying52 rfl (R0_0.gr fB)) rfl rfl rfl ?_
  refine ol_val (v := V1_0) (by exact xr_move rfl rfl) rfl rfl rfl ?_
  refine ol_val (v := .int .i64 (List.length a1 : Int)) (by exact xr_lenR rfl Try.underlying52 rfl (R1_0.gr fB)) rfl rfl rfl ?_
  refine ol_val (v := .bool (!decide ((List.length a0 : Int) = (List.length a1 : Int)))) (by exact xr_neI rfl Try.underlying3 rfl rfl rfl) rfl rfl rfl ?_
  refine ol_nil ?_
  rcases is h with ⟨c1, h⟩ | ⟨c1, h⟩
  · refine cw_condT rfl c1 ?_
    refine cw_seq ?_
    refine cw_region ?_
    refine ol_val (v := .bool false) (by exact xr_assign rfl rfl) rfl rfl rfl ?_
    refine ol_nil ?_
    refine cw_ret ?_
    repeat (first | with_reducible refine thn_r ?_ | with_reducible refine blk_r ?_)
    obtain rfl := Option.some.inj h
    refine fin_ret1 Try.results46 rfl ?_
    exact ⟨_, rfl, rfl, fB⟩
  · refine cw_condF rfl c1 ?_
    refine cw_skip ?_
    refine cw_seq ?_
    refine cw_seq ?_
    refine cw_region ?_
    refine ol_val (v := .int .i64 0) (by exact xr_assign rfl rfl) rfl rfl rfl ?_
    refine ol_nil ?_
    obtain ⟨e3, l4, h5⟩ := bs h
    refine cw_mid (fun ρ' w' => ∃ x6, e3 = Sum.inr x6 ∧ Gr w w') ?_ ?_
    · refine cw_block ?_
      refine cw_round (fun (s2 : Int) ρ' w' => ρ' 0 = V0_0 ∧ ρ' 1 = V1_0 ∧ ρ' 5 = .int .i64 s2 ∧ Gr w w') l4 ?_ ?_
      · skip
        exact ⟨rfl, rfl, rfl, fB⟩
      · rintro s2 x9 ρ7 w8 ⟨e0, e1, e5, fB⟩ h
        unfold rickyardref05_Same.s0 at h
        refine cw_seq ?_
        refine cw_seq ?_
        refine cw_region ?_
        refine ol_val (v := .int .i64 s2) (by exact xr_move rfl e5) rfl rfl rfl ?_
        refine ol_val (v := V0_0) (by exact xr_move rfl e0) rfl rfl rfl ?_
        refine ol_val (v := .int .i64 (List.length a0 : Int)) (by exact xr_lenR rfl Try.underlying52 rfl (R0_0.gr fB)) rfl rfl rfl ?_
        refine ol_val (v := .bool (decide (s2 < (List.length a0 : Int)))) (by exact xr_lss rfl rfl rfl) rfl rfl rfl ?_
        refine ol_nil ?_
        rcases is h with ⟨c10, h⟩ | ⟨c10, h⟩
        · refine cw_condT rfl c10 ?_
          refine cw_skip ?_
          refine cw_seq ?_
          refine cw_block ?_
          refine cw_seq ?_
          obtain ⟨g11, h⟩ := gs h
          obtain ⟨g12, h⟩ := gs h
          refine cw_drawL 8 [fun vz wz => vz = (V0_0 : Value), fun vz wz => vz = (.int .i64 s2 : Value), fun vz wz => vz = (.pointer (some ⟨(sb V0_0), so V0_0 + Int.toNat s2 * 5, none⟩) : Value), fun vz wz => vz = (aggV [Seg.cell (.int .i64 ((ix a0 s2).At)), Seg.cell (.int .u64 ((ix a0 s2).Lasts)), Seg.cell (.bool ((ix a0 s2).Flushed)), Seg.cell (.int .u64 ((ix a0 s2).Sent)), Seg.cell (.int .u64 ((ix a0 s2).Stored))] : Value), fun vz wz => vz = (V1_0 : Value), fun vz wz => vz = (.int .i64 s2 : Value), fun vz wz => vz = (.pointer (some ⟨(sb V1_0), so V1_0 + Int.toNat s2 * 5, none⟩) : Value), fun vz wz => vz = (aggV [Seg.cell (.int .i64 ((ix a1 s2).At)), Seg.cell (.int .u64 ((ix a1 s2).Lasts)), Seg.cell (.bool ((ix a1 s2).Flushed)), Seg.cell (.int .u64 ((ix a1 s2).Sent)), Seg.cell (.int .u64 ((ix a1 s2).Stored))] : Value)] mo rfl ⟨fun _ _ _ h _ => h, fun _ _ _ h _ => h, fun _ _ _ h _ => h, fun _ _ _ h _ => h, fun _ _ _ h _ => h, fun _ _ _ h _ => h, fun _ _ _ h _ => h, fun _ _ _ h _ => h, trivial⟩ ?_ ?_
          · refine ⟨?_, ?_, ?_, ?_, ?_, ?_, ?_, ?_, trivial⟩
            · intro ρz wz hz hk hd
              exact sk_val (v := V0_0) (by exact xr_move rfl ((hk 0 rfl).trans e0)) rfl rfl
            · intro ρz wz hz hk hd
              exact sk_val (v := .int .i64 s2) (by exact xr_move rfl ((hk 5 rfl).trans e5)) rfl rfl
            · intro ρz wz hz hk hd
              have d17 := hd 0 rfl 17 rfl
              have d18 := hd 1 rfl 18 rfl
              exact sk_val (by exact xr_indexR (K := k_api_Fate) (v := V0_0) rfl Try.underlying52 sz55 d17 (R0_0.gr (fB.gr hz)) d18 g11.1 g11.2) rfl rfl
            · intro ρz wz hz hk hd
              have d19 := hd 2 rfl 19 rfl
              exact sk_val (by exact xr_loadS (ss := [Seg.cell (.int .i64 ((ix a0 s2).At)), Seg.cell (.int .u64 ((ix a0 s2).Lasts)), Seg.cell (.bool ((ix a0 s2).Flushed)), Seg.cell (.int .u64 ((ix a0 s2).Sent)), Seg.cell (.int .u64 ((ix a0 s2).Stored))]) rfl ag55 sz55 rfl d19 ((R0_0.gr (fB.gr hz)).elem g11.1 g11.2)) rfl rfl
            · intro ρz wz hz hk hd
              exact sk_val (v := V1_0) (by exact xr_move rfl ((hk 1 rfl).trans e1)) rfl rfl
            · intro ρz wz hz hk hd
              exact sk_val (v := .int .i64 s2) (by exact xr_move rfl ((hk 5 rfl).trans e5)) rfl rfl
            · intro ρz wz hz hk hd
              have d21 := hd 4 rfl 21 rfl
              have d22 := hd 5 rfl 22 rfl
              exact sk_val (by exact xr_indexR (K := k_api_Fate) (v := V1_0) rfl Try.underlying52 sz55 d21 (R1_0.gr (fB.gr hz)) d22 g12.1 g12.2) rfl rfl
            · intro ρz wz hz hk hd
              have d23 := hd 6 rfl 23 rfl
              exact sk_val (by exact xr_loadS (ss := [Seg.cell (.int .i64 ((ix a1 s2).At)), Seg.cell (.int .u64 ((ix a1 s2).Lasts)), Seg.cell (.bool ((ix a1 s2).Flushed)), Seg.cell (.int .u64 ((ix a1 s2).Sent)), Seg.cell (.int .u64 ((ix a1 s2).Stored))]) rfl ag55 sz55 rfl d23 ((R1_0.gr (fB.gr hz)).elem g12.1 g12.2)) rfl rfl
          · intro ρ13 w14 q15 hk hd
            have e0 := (hk 0 rfl).trans e0
            have e1 := (hk 1 rfl).trans e1
            have e5 := (hk 5 rfl).trans e5
            have e20 := hd 3 rfl 20 rfl
            have e24 := hd 7 rfl 24 rfl
            have fB := fB.gr q15
            refine ol_val (v := .bool (!decide ((ix a0 s2) = (ix a1 s2)))) (by exact xr_neA (a := (ix a0 s2)) (b := (ix a1 s2)) rfl eqa55 rfl Try.eqGuardType54 e20 e24 rfl rfl) rfl rfl rfl ?_
            refine ol_nil ?_
            rcases is h with ⟨c16, h⟩ | ⟨c16, h⟩
            · refine cw_condT rfl c16 ?_
              refine cw_seq ?_
              refine cw_region ?_
              refine ol_val (v := .bool false) (by exact xr_assign rfl rfl) rfl rfl rfl ?_
              refine ol_nil ?_
              refine cw_ret ?_
              repeat (first | with_reducible refine thn_r ?_ | with_reducible refine blk_r ?_)
              obtain rfl := Option.some.inj h
              refine lp_ret ?_
              rintro rfl
              repeat (first | with_reducible refine thn_r ?_ | with_reducible refine blk_r ?_)
              have h := h5
              obtain rfl := Option.some.inj h
              refine fin_ret1 Try.results46 rfl ?_
              exact ⟨_, rfl, rfl, fB⟩
            · refine cw_condF rfl c16 ?_
              refine cw_skip ?_
              refine blk_i ?_
              refine cw_region ?_
              refine ol_val (v := .int .i64 s2) (by exact xr_move rfl e5) rfl rfl rfl ?_
              refine ol_val (v := .int .i64 (IntKind.i64.wrap (s2 + 1))) (by exact xr_add rfl rfl rfl) rfl rfl rfl ?_
              refine ol_val (v := .int .i64 (IntKind.i64.wrap (s2 + 1))) (by exact xr_assign rfl rfl) rfl rfl rfl ?_
              refine ol_nil ?_
              obtain rfl := Option.some.inj h
              refine lp_in ?_
              exact ⟨e0, e1, rfl, fB⟩
        · refine cw_condF rfl c10 ?_
          refine cw_exit ?_
          repeat (first | with_reducible refine thn_e ?_ | with_reducible refine blk_e rfl ?_)
          obtain rfl := Option.some.inj h
          refine lp_exit ?_
          rintro rfl
          refine thn_x ?_
          exact ⟨_, rfl, fB⟩
    · rintro ρ17 w18 ⟨x6, rfl, fB⟩
      have h := h5
      refine cw_seq ?_
      refine cw_region ?_
      refine ol_val (v := .bool true) (by exact xr_assign rfl rfl) rfl rfl rfl ?_
      refine ol_nil ?_
      refine cw_ret ?_
      repeat (first | with_reducible refine thn_r ?_ | with_reducible refine blk_r ?_)
      obtain rfl := Option.some.inj h
      refine fin_ret1 Try.results46 rfl ?_
      exact ⟨_, rfl, rfl, fB⟩
end Go.Proofs.Ytklhbaghbmndeaa

/- The document's device: it does what the program's does. -/
set_option linter.unusedVariables false
set_option linter.unusedSimpArgs false
namespace Go.Proofs.Ytklhbaghbmndeaa.Pure
open Go Go.Xw
abbrev Ref := S_rickyardref05_Device
def sentD (d : Dev) : List Int := d.cells.map fun c => c.sent
def flushedD (d : Dev) : List Bool := d.cells.map fun c => c.flushed
/-- The document's device of the same state; s: how many steps there were since the plan was laid. -/
def toM (d : Dev) (s : Int) : Ref := ⟨lastsD d, storedD d, sentD d, flushedD d, d.plan.list, s, if d.armed = true then d.left else -1, d.steps⟩
/-- Where the plan stands. -/
def Since (d : Dev) (s : Int) : Prop := d.plan.list.length ≠ 0 → d.plan.at_ = s % (d.plan.list.length : Int)
theorem set_map {α β : Type} (f : α → β) (cs : List α) (k : Nat) (v : α) : (cs.map f).set k (f v) = (cs.set k v).map f := by
  rw [List.map_set]
theorem set_same {α : Type} [Inhabited α] (l : List α) (k : Nat) (h : k < l.length) : l.set k (ix l (k : Int)) = l := by
  rw [ix_nat h]
  exact List.set_getElem_self h
theorem ix_map' {α β : Type} [Inhabited α] [Inhabited β] (f : α → β) (cs : List α) (k : Nat) (h : k < cs.length) : ix (cs.map f) (k : Int) = f (ix cs (k : Int)) := by
  rw [ix_nat (by simpa using h), ix_nat h, List.getElem_map]
theorem evict_set {cs : List Cell} {p : Int} {k : Nat} (hp : 0 ≤ p) (hk : p % (cs.length : Int) = (k : Int)) (hl : k < cs.length) : evict p cs = cs.set k (keepC (ix cs (k : Int)) (ix cs (k : Int)).stored) := by
  rw [set_upd (fun c => keepC c c.stored) hl]
  apply List.ext_getElem (by simp [evict])
  intro i h1 h2
  simp only [evict, List.getElem_mapIdx, hk]
  by_cases e : i = k
  · rw [if_pos e, if_pos ⟨hp, by omega⟩]
  · rw [if_neg e, if_neg fun z => e (by omega)]
theorem stored_keep {cs : List Cell} {k : Nat} {w : Int} (hl : k < cs.length) : (cs.set k (keepC (ix cs (k : Int)) w)).map (fun c => c.stored) = cs.map fun c => c.stored := by
  rw [List.map_set]
  have : (keepC (ix cs (k : Int)) w).stored = ix (cs.map fun c => c.stored) (k : Int) := by rw [ix_map' _ _ _ hl]; rfl
  rw [this, set_same _ _ (by simpa using hl)]
/-- One value lasts. -/
theorem rlast_eq {fu : Nat} {cs : List Cell} {k : Nat} {w : Int} {pl : List Int} {s le st : Int} (hl : k < cs.length) :
    rickyardref05_Device_last.f fu (⟨cs.map (fun c => c.lasts), cs.map (fun c => c.stored), cs.map (fun c => c.sent), cs.map (fun c => c.flushed), pl, s, le, st⟩ : Ref) (k : Int) w = some (⟨(cs.set k (keepC (ix cs (k : Int)) w)).map (fun c => c.lasts), (cs.set k (keepC (ix cs (k : Int)) w)).map (fun c => c.stored), (cs.set k (keepC (ix cs (k : Int)) w)).map (fun c => c.sent), (cs.set k (keepC (ix cs (k : Int)) w)).map (fun c => c.flushed), pl, s, le, st⟩ : Ref) := by
  unfold rickyardref05_Device_last.f
  simp only [List.length_map]
  rw [if_pos (by omega), if_pos (by omega), if_pos (by omega), Int.toNat_natCast, stored_keep hl, List.map_set, List.map_set, List.map_set]
  rfl
theorem rdstep_eq {fu n : Nat} {B s : Int} {d : Dev} (h : DevOk n B d) (hB : B < 9223372036854775807) (hs : 0 ≤ s ∧ s < 9223372036854775807) (hS : Since d s) (ho : d.off = false) : rickyardref05_Device_step.f fu (toM d s) = some (toM (tick d) (s + 1)) := by
  unfold rickyardref05_Device_step.f toM
  simp only []
  have hst := h.st
  have w1 : IntKind.i64.wrap (d.steps + 1) = d.steps + 1 := w64 (by omega) (by omega)
  have w2 : IntKind.i64.wrap (s + 1) = s + 1 := w64 (by omega) (by omega)
  have hll : (lastsD d).length = d.cells.length := by simp [lastsD]
  have hsl : (storedD d).length = d.cells.length := by simp [storedD]
  -- what is evicted
  have hA : ∀ (E : List Cell), E = evict (pick d.plan) d.cells →
      ((if (if (decide ((List.length d.plan.list : Int) > 0)) = true then (decide ((List.length (lastsD d) : Int) > 0)) else false) = true then (if (List.length d.plan.list : Int) ≠ 0 then (if 0 ≤ (Int.tmod s (List.length d.plan.list : Int)) ∧ (Int.tmod s (List.length d.plan.list : Int)) < (List.length d.plan.list : Int) then (((if (decide ((ix d.plan.list (Int.tmod s (List.length d.plan.list : Int))) ≥ 0)) = true then (if (List.length (lastsD d) : Int) ≠ 0 then (if (List.length (lastsD d) : Int) ≠ 0 then (if 0 ≤ (Int.tmod (ix d.plan.list (Int.tmod s (List.length d.plan.list : Int))) (List.length (lastsD d) : Int)) ∧ (Int.tmod (ix d.plan.list (Int.tmod s (List.length d.plan.list : Int))) (List.length (lastsD d) : Int)) < (List.length (storedD d) : Int) then ((rickyardref05_Device_last.f fu (⟨lastsD d, storedD d, sentD d, flushedD d, d.plan.list, s, if d.armed = true then d.left else -1, d.steps⟩ : Ref) (Int.tmod (ix d.plan.list (Int.tmod s (List.length d.plan.list : Int))) (List.length (lastsD d) : Int)) (ix (storedD d) (Int.tmod (ix d.plan.list (Int.tmod s (List.length d.plan.list : Int))) (List.length (lastsD d) : Int))) : Option S_rickyardref05_Device).bind fun t86 => some (t86.Lasts, t86.Stored, t86.Sent, t86.Flushed, t86.Plan, t86.Since, t86.Left, t86.Steps)) else none) else none) else none) else some (lastsD d, storedD d, sentD d, flushedD d, d.plan.list, s, (if d.armed = true then d.left else -1), d.steps)) : Option ((List Int) × (List Int) × (List Int) × (List Bool) × (List Int) × Int × Int × Int)).bind fun x53 => some (x53.1, x53.2.1, x53.2.2.1, x53.2.2.2.1, x53.2.2.2.2.1, x53.2.2.2.2.2.1, x53.2.2.2.2.2.2.1, x53.2.2.2.2.2.2.2)) else none) else none) else some (lastsD d, storedD d, sentD d, flushedD d, d.plan.list, s, (if d.armed = true then d.left else -1), d.steps)) : Option ((List Int) × (List Int) × (List Int) × (List Bool) × (List Int) × Int × Int × Int))
      = some (E.map (fun c => c.lasts), E.map (fun c => c.stored), E.map (fun c => c.sent), E.map (fun c => c.flushed), d.plan.list, s, (if d.armed = true then d.left else -1), d.steps) := by
    rintro E rfl
    by_cases z : d.plan.list.length = 0
    · have z' : ¬ ((List.length d.plan.list : Int) > 0) := by omega
      rw [decide_eq_false z', if_neg (by simp)]
      have : pick d.plan = -1 := by unfold pick; rw [if_pos z]
      rw [this, evict_no _ (by decide)]
      rfl
    · have z' : (List.length d.plan.list : Int) > 0 := by omega
      have z2 : (List.length d.plan.list : Int) ≠ 0 := by omega
      rw [decide_eq_true z', if_pos rfl]
      by_cases zc : d.cells = []
      · have : ¬ ((List.length (lastsD d) : Int) > 0) := by rw [hll, zc]; decide
        rw [decide_eq_false this, if_neg (by simp), zc, evict_nil]
        simp [lastsD, storedD, sentD, flushedD, zc]
      · have hc0 : 0 < d.cells.length := List.length_pos_iff.2 zc
        have c1 : (List.length (lastsD d) : Int) > 0 := by rw [hll]; omega
        rw [decide_eq_true c1, if_pos rfl, if_pos z2, Int.tmod_eq_emod_of_nonneg hs.1]
        have m0 := Int.emod_nonneg s z2
        have m1 := Int.emod_lt_of_pos s z'
        rw [if_pos ⟨m0, m1⟩]
        have hpk : pick d.plan = ix d.plan.list (s % (d.plan.list.length : Int)) := by
          unfold pick
          rw [if_neg z, hS z]
        rw [← hpk]
        by_cases hp : pick d.plan ≥ 0
        · rw [decide_eq_true hp, if_pos rfl, Int.tmod_eq_emod_of_nonneg hp]
          have c2 : (List.length (lastsD d) : Int) ≠ 0 := by omega
          rw [if_pos c2, if_pos c2, hll, hsl]
          have n0 := Int.emod_nonneg (pick d.plan) (show (d.cells.length : Int) ≠ 0 by omega)
          have n1 := Int.emod_lt_of_pos (pick d.plan) (show (d.cells.length : Int) > 0 by omega)
          rw [if_pos ⟨n0, n1⟩]
          obtain ⟨k, hk⟩ : ∃ k : Nat, pick d.plan % (d.cells.length : Int) = (k : Int) := ⟨(pick d.plan % (d.cells.length : Int)).toNat, by omega⟩
          have hkl : k < d.cells.length := by omega
          have e1 : ix (storedD d) (k : Int) = (ix d.cells (k : Int)).stored := ix_map' _ _ _ hkl
          rw [hk, e1, evict_set hp hk hkl]
          have := rlast_eq (fu := fu) (cs := d.cells) (w := (ix d.cells (k : Int)).stored) (pl := d.plan.list) (s := s) (le := if d.armed = true then d.left else -1) (st := d.steps) hkl
          unfold lastsD storedD sentD flushedD
          rw [this]
          rfl
        · rw [decide_eq_false hp, if_neg (by decide), evict_no _ hp]
          rfl
  rw [hA _ rfl]
  simp only [Option.bind_some, w1, w2]
  have hl : (if d.armed = true then d.left else -1) > 0 ↔ d.armed = true := by
    cases ha : d.armed
    · simp
    · have := h.arm ha
      rw [ho] at this
      have : d.left ≠ 0 := of_decide_eq_false this.2.2.symm
      simp
      omega
  have np : (nextP d.plan).list = d.plan.list := by unfold nextP; split <;> rfl
  cases ha : d.armed
  · simp [tick, lastsD, storedD, sentD, flushedD, ha, np]
  · have h3 := h.arm ha
    have : d.left > 0 := by
      have := hl.2 ha
      rwa [ha, if_pos rfl] at this
    rw [if_pos rfl, decide_eq_true this, if_pos rfl, w64 (by omega) (by omega)]
    simp [tick, lastsD, storedD, sentD, flushedD, ha, np]
theorem rerror_eq {fu n : Nat} {B s k m : Int} {d : Dev} (h : DevOk n B d) : rickyardref05_Device_error.f fu (toM d s) k m = some (mayI d.off k m) := by
  unfold rickyardref05_Device_error.f mayI toM
  have hl : (if d.armed = true then d.left else -1) = 0 ↔ d.off = true := by
    cases ha : d.armed
    · have := h.una ha
      simp [this]
    · have := (h.arm ha).2.2
      rw [this]
      simp
  simp only []
  by_cases e : d.off = true
  · rw [decide_eq_true (hl.2 e), if_pos rfl, if_pos e]
  · rw [decide_eq_false (fun q => e (hl.1 q)), if_neg (by decide), if_neg e]
    by_cases h1 : k < 0
    · simp [h1]
    · by_cases h2 : k ≥ m <;> simp [h1, h2]
theorem eta8 {m : Ref} : (⟨m.Lasts, m.Stored, m.Sent, m.Flushed, m.Plan, m.Since, m.Left, m.Steps⟩ : Ref) = m := rfl
/-- How many steps there were since the plan was laid, behind a call. -/
def inc (b : Prop) [Decidable b] (s : Int) : Int := if b then s + 1 else s
theorem with_toM (d : Dev) (cs : List Cell) (s : Int) : toM (withC d cs) s = ⟨cs.map (fun c => c.lasts), cs.map (fun c => c.stored), cs.map (fun c => c.sent), cs.map (fun c => c.flushed), d.plan.list, s, if d.armed = true then d.left else -1, d.steps⟩ := rfl
theorem rstore_eq {fu n : Nat} {B s k w : Int} {d : Dev} (h : DevOk n B d) (hB : B < 9223372036854775807) (hs : 0 ≤ s ∧ s < 9223372036854775807) (hS : Since d s) (hw : U64 w) : rickyardref05_Device_Store.f fu (toM d s) k w = some ((storeD d k w).1, toM (storeD d k w).2 (inc (mayI d.off k (d.cells.length : Int) = 0) s)) := by
  unfold rickyardref05_Device_Store.f storeD inc
  have hll : (toM d s).Lasts.length = d.cells.length := by simp [toM, lastsD]
  rw [hll, rerror_eq h]
  simp only [Option.bind_some]
  by_cases e : mayI d.off k (d.cells.length : Int) = 0
  · obtain ⟨ho, h0, h1⟩ := may_zero.1 e
    have hsl : (toM d s).Stored.length = d.cells.length := by simp [toM, storedD]
    rw [decide_eq_true e, if_pos rfl, hsl, if_pos ⟨h0, h1⟩, if_pos e, if_pos e]
    obtain ⟨j, rfl⟩ : ∃ j : Nat, k = (j : Int) := ⟨k.toNat, by omega⟩
    have hj : j < d.cells.length := by omega
    have hput : putC (j : Int) w d.cells = d.cells.set j ⟨(ix d.cells (j : Int)).lasts, w, (ix d.cells (j : Int)).sent, (ix d.cells (j : Int)).flushed⟩ := by
      rw [set_upd (fun c => ⟨c.lasts, w, c.sent, c.flushed⟩) hj]
      apply List.ext_getElem (by simp [putC])
      intro i h1 h2
      simp only [putC, List.getElem_mapIdx, Int.natCast_inj]
    have e1 : (⟨(toM d s).Lasts, (List.set (toM d s).Stored (Int.toNat (j : Int)) w), (toM d s).Sent, (toM d s).Flushed, (toM d s).Plan, (toM d s).Since, (toM d s).Left, (toM d s).Steps⟩ : Ref) = toM (withC d (putC (j : Int) w d.cells)) s := by
      rw [with_toM, hput, List.map_set, List.map_set, List.map_set, List.map_set]
      have a1 : (ix d.cells (j : Int)).lasts = ix (d.cells.map fun c => c.lasts) (j : Int) := (ix_map' _ _ _ hj).symm
      have a2 : (ix d.cells (j : Int)).sent = ix (d.cells.map fun c => c.sent) (j : Int) := (ix_map' _ _ _ hj).symm
      have a3 : (ix d.cells (j : Int)).flushed = ix (d.cells.map fun c => c.flushed) (j : Int) := (ix_map' (fun c : Cell => c.flushed) _ _ hj).symm
      simp only []
      rw [a1, a2, a3, set_same _ _ (by simpa using hj), set_same _ _ (by simpa using hj), set_same _ _ (by simpa using hj)]
      rfl
    have hok : DevOk n B (withC d (putC (j : Int) w d.cells)) := with_ok h (by simp [putC, h.len]) (mapIdx_ok h.val fun i c hc => by
      split
      · exact ⟨hc.1, hw, hc.2.2⟩
      · exact hc)
    rw [e1, rdstep_eq hok hB hs hS ho]
    simp only [Option.bind_some, e]
  · rw [decide_eq_false e, if_neg (by decide), if_neg e, if_neg e]
    rfl
theorem rload_eq {fu n : Nat} {B s k : Int} {d : Dev} (h : DevOk n B d) : rickyardref05_Device_Load.f fu (toM d s) k = some (loadD d k) := by
  unfold rickyardref05_Device_Load.f loadD
  have hll : (toM d s).Lasts.length = d.cells.length := by simp [toM, lastsD]
  have hsl : (toM d s).Stored.length = d.cells.length := by simp [toM, storedD]
  rw [hll, hsl, rerror_eq h]
  simp only [Option.bind_some]
  by_cases e : mayI d.off k (d.cells.length : Int) = 0
  · obtain ⟨ho, h0, h1⟩ := may_zero.1 e
    rw [decide_eq_true e, if_pos e, if_neg (by decide), if_pos ⟨h0, h1⟩]
    obtain ⟨j, rfl⟩ : ∃ j : Nat, k = (j : Int) := ⟨k.toNat, by omega⟩
    have : ix (toM d s).Stored (j : Int) = (ix d.cells (j : Int)).stored := ix_map' _ _ _ (by omega)
    rw [this]
  · rw [decide_eq_false e, if_neg e, if_pos (by decide)]
end Go.Proofs.Ytklhbaghbmndeaa.Pure

/- The document's device, further: flush, fence, fates, crash, any act. -/
set_option linter.unusedVariables false
set_option linter.unusedSimpArgs false
namespace Go.Proofs.Ytklhbaghbmndeaa.Pure
open Go Go.Xw
theorem sendL_lasts (k : Int) (cs : List Cell) : (sendL k cs).map (fun c => c.lasts) = cs.map fun c => c.lasts := by
  apply List.ext_getElem (by simp [sendL])
  intro i h1 h2
  simp only [sendL, List.getElem_map, List.getElem_mapIdx]
  split <;> rfl
theorem sendL_stored (k : Int) (cs : List Cell) : (sendL k cs).map (fun c => c.stored) = cs.map fun c => c.stored := by
  apply List.ext_getElem (by simp [sendL])
  intro i h1 h2
  simp only [sendL, List.getElem_map, List.getElem_mapIdx]
  split <;> rfl
theorem upd_sendL {cs : List Cell} {k : Nat} : upd (fun _ c => sendC c) (8 * k) 8 cs = sendL (k : Int) cs := by
  apply List.ext_getElem (by simp [upd, sendL])
  intro i h1 h2
  simp only [upd, sendL, List.getElem_mapIdx]
  by_cases c : 8 * k ≤ i ∧ i < 8 * k + 8
  · rw [if_pos c, if_pos (by omega)]
  · rw [if_neg c, if_neg (by omega)]
theorem rflush_eq {fu n : Nat} {B s k : Int} {d : Dev} (h : DevOk n B d) (hB : B < 9223372036854775807) (hn : n ≤ 100000) (hf : 8 < fu) (hs : 0 ≤ s ∧ s < 9223372036854775807) (hS : Since d s) : rickyardref05_Device_Flush.f fu (toM d s) k = some ((flushD d k).1, toM (flushD d k).2 (inc (mayI d.off k ((d.cells.length / 8 : Nat) : Int) = 0) s)) := by
  unfold rickyardref05_Device_Flush.f flushD inc
  have hlen := h.len
  have hll : (toM d s).Lasts.length = d.cells.length := by simp [toM, lastsD]
  have e0 : IntKind.i64.wrap (Int.tdiv (d.cells.length : Int) 8) = ((d.cells.length / 8 : Nat) : Int) := by
    rw [Int.tdiv_eq_ediv_of_nonneg (by omega), w64 (by omega) (by omega)]
    omega
  rw [hll, e0, rerror_eq h]
  simp only [Option.bind_some]
  by_cases e : mayI d.off k ((d.cells.length / 8 : Nat) : Int) = 0
  · obtain ⟨ho, h0, h1⟩ := may_zero.1 e
    rw [decide_eq_true e, if_pos rfl, if_pos e, if_pos e]
    obtain ⟨j, rfl⟩ : ∃ j : Nat, k = (j : Int) := ⟨k.toNat, by omega⟩
    have w1 : IntKind.i64.wrap (8 * (j : Int)) = ((8 * j : Nat) : Int) := by rw [w64 (by omega) (by omega)]; omega
    have w2 : IntKind.i64.wrap (((8 * j : Nat) : Int) + 8) = ((8 * j + 8 : Nat) : Int) := by rw [w64 (by omega) (by omega)]; omega
    have loop : loopM (rickyardref05_Device_Flush.s1 fu (toM d s) (j : Int)) fu (((8 * j : Nat) : Int), (toM d s).Sent, (toM d s).Flushed) = some ((sendL (j : Int) d.cells).map (fun c => c.sent), (sendL (j : Int) d.cells).map (fun c => c.flushed)) := by
      refine loopM_run (S := fun i => (((8 * j + i : Nat) : Int), (upd (fun _ c => sendC c) (8 * j) i d.cells).map (fun c => c.sent), (upd (fun _ c => sendC c) (8 * j) i d.cells).map (fun c => c.flushed))) 8 (by rw [upd_zero]; rfl) ?_ ?_ hf
      · intro i hi
        unfold rickyardref05_Device_Flush.s1
        have w3 : IntKind.i64.wrap (((8 * j + i : Nat) : Int) + 1) = ((8 * j + (i + 1) : Nat) : Int) := by rw [w64 (by omega) (by omega)]; omega
        have hsl : (toM d s).Stored.length = d.cells.length := by simp [toM, storedD]
        have e1 : ix (toM d s).Stored ((8 * j + i : Nat) : Int) = (ix d.cells ((8 * j + i : Nat) : Int)).stored := ix_map' _ _ _ (by omega)
        have hu := upd_set (fun _ c => sendC c) (8 * j) i d.cells (by omega)
        simp only [w1, w2, w3, List.length_map, upd_len, hsl, e1]
        rw [decide_eq_true (show ((8 * j + i : Nat) : Int) < ((8 * j + 8 : Nat) : Int) by omega), if_pos rfl, if_pos (by omega), if_pos (by omega), if_pos (by omega), Int.toNat_natCast, ← hu, List.map_set, List.map_set, ix_nat (by omega)]
        rfl
      · unfold rickyardref05_Device_Flush.s1
        simp only [w1, w2]
        rw [decide_eq_false (show ¬ ((8 * j + 8 : Nat) : Int) < ((8 * j + 8 : Nat) : Int) by omega), if_neg (by decide), upd_sendL]
    rw [w1, loop]
    have hok : DevOk n B (withC d (sendL (j : Int) d.cells)) := with_ok h (by simp [sendL, h.len]) (sendL_ok h.val)
    have e1 : (⟨(toM d s).Lasts, (toM d s).Stored, (sendL (j : Int) d.cells).map (fun c => c.sent), (sendL (j : Int) d.cells).map (fun c => c.flushed), (toM d s).Plan, (toM d s).Since, (toM d s).Left, (toM d s).Steps⟩ : Ref) = toM (withC d (sendL (j : Int) d.cells)) s := by
      rw [with_toM, sendL_lasts, sendL_stored]
      rfl
    simp only [Option.bind_some]
    rw [e1, rdstep_eq hok hB hs hS ho]
    simp only [Option.bind_some, e]
  · rw [decide_eq_false e, if_neg (by decide), if_neg e, if_neg e]
    rfl
def tupM (i : Int) (m : Ref) := (i, m.Lasts, m.Stored, m.Sent, m.Flushed, m.Plan, m.Since, m.Left, m.Steps)
theorem rfence_eq {fu n : Nat} {B s : Int} {d : Dev} (h : DevOk n B d) (hB : B < 9223372036854775807) (hn : n ≤ 100000) (hf : n < fu) (hs : 0 ≤ s ∧ s < 9223372036854775807) (hS : Since d s) : rickyardref05_Device_Fence.f fu (toM d s) = some ((fenceD d).1, toM (fenceD d).2 (inc (d.off = false) s)) := by
  unfold rickyardref05_Device_Fence.f fenceD inc
  have hlen := h.len
  rw [rerror_eq h]
  simp only [Option.bind_some]
  cases ho : d.off
  · have e : mayI false 0 1 = 0 := by decide
    rw [e]
    have loop : loopM (rickyardref05_Device_Fence.s1 fu) fu (tupM 0 (toM d s)) = some ((toM (withC d (d.cells.map fenceC)) s).Lasts, (toM (withC d (d.cells.map fenceC)) s).Stored, (toM (withC d (d.cells.map fenceC)) s).Sent, (toM (withC d (d.cells.map fenceC)) s).Flushed, (toM (withC d (d.cells.map fenceC)) s).Plan, (toM (withC d (d.cells.map fenceC)) s).Since, (toM (withC d (d.cells.map fenceC)) s).Left, (toM (withC d (d.cells.map fenceC)) s).Steps) := by
      refine loopM_run (S := fun i => tupM (i : Int) (toM (withC d (upd (fun _ c => fenceC c) 0 i d.cells)) s)) d.cells.length (by rw [upd_zero]; rfl) ?_ ?_ (by omega)
      · intro j hj
        have hlt : j < (upd (fun _ c => fenceC c) 0 j d.cells).length := by rw [upd_len]; omega
        have hnx : ix (upd (fun _ c => fenceC c) 0 j d.cells) (j : Int) = d.cells[j] := by
          rw [ix_nat hlt, upd_get, if_neg (by omega)]
        have hu := upd_set (fun _ c => fenceC c) 0 j d.cells (by omega)
        have hsm := upd_same (fun _ c => fenceC c) 0 j d.cells (by omega)
        simp only [Nat.zero_add] at hu hsm
        have hl := rlast_eq (fu := fu) (cs := upd (fun _ c => fenceC c) 0 j d.cells) (w := d.cells[j].sent) (pl := d.plan.list) (s := s) (le := if d.armed = true then d.left else -1) (st := d.steps) hlt
        rw [hnx] at hl
        have e1 : ix ((upd (fun _ c => fenceC c) 0 j d.cells).map fun c => c.flushed) (j : Int) = d.cells[j].flushed := by rw [ix_map' (fun c : Cell => c.flushed) _ _ hlt, hnx]
        have e2 : ix ((upd (fun _ c => fenceC c) 0 j d.cells).map fun c => c.sent) (j : Int) = d.cells[j].sent := by rw [ix_map' _ _ _ hlt, hnx]
        unfold rickyardref05_Device_Fence.s1 tupM
        rw [with_toM, with_toM]
        generalize hU : upd (fun _ c => fenceC c) 0 j d.cells = U at *
        have hUl : U.length = d.cells.length := by rw [← hU, upd_len]
        simp only [List.length_map, e1, e2, hUl]
        rw [decide_eq_true (show (j : Int) < (d.cells.length : Int) by omega), if_pos rfl, if_pos (by omega), next64 hj (by omega)]
        cases hfl : d.cells[j].flushed
        · have : fenceC d.cells[j] = d.cells[j] := by simp [fenceC, hfl]
          rw [← hsm this]
          simp only [Bool.false_eq_true, if_false, Option.bind_some]
        · have : fenceC d.cells[j] = keepC d.cells[j] d.cells[j].sent := by simp [fenceC, hfl]
          rw [this] at hu
          rw [if_pos rfl, if_pos (by omega), hl, ← hu]
          rfl
      · unfold rickyardref05_Device_Fence.s1 tupM
        have hLL : (toM (withC d (upd (fun _ c => fenceC c) 0 d.cells.length d.cells)) s).Lasts.length = d.cells.length := by simp [toM, lastsD, withC, upd_len]
        simp only [hLL]
        rw [decide_eq_false (show ¬ ((d.cells.length : Int) < (d.cells.length : Int)) by omega), if_neg (by decide), upd_all]
        have : (d.cells.mapIdx fun _ c => fenceC c) = d.cells.map fenceC := by
          apply List.ext_getElem (by simp)
          intro i h1 h2
          simp
        rw [this]
    unfold tupM at loop
    rw [decide_eq_true rfl, if_pos rfl, loop]
    have hok : DevOk n B (withC d (d.cells.map fenceC)) := with_ok h (by simp [h.len]) (fun c hc => by
        obtain ⟨x, hx, rfl⟩ := List.mem_map.1 hc
        exact fence_okC (h.val x hx))
    simp only [Option.bind_some, eta8]
    rw [rdstep_eq hok hB hs hS ho]
    rfl
  · have e : mayI true 0 1 = 3 := by decide
    rw [e]
    rfl
theorem rarm_eq {fu n : Nat} {B s k : Int} {d : Dev} (h : DevOk n B d) : rickyardref05_Device_Arm.f fu (toM d s) k = some (toM (armD d k) s) := by
  unfold rickyardref05_Device_Arm.f
  have hl : (toM d s).Left = 0 ↔ d.off = true := by
    show (if d.armed = true then d.left else -1) = 0 ↔ _
    cases ha : d.armed
    · have := h.una ha
      simp [this]
    · have := (h.arm ha).2.2
      rw [this]
      simp
  unfold armD
  by_cases e : d.off = true
  · rw [decide_eq_true (hl.2 e), if_neg (by decide), if_pos e]
    rfl
  · rw [decide_eq_false (fun q => e (hl.1 q)), if_pos (by decide), if_neg e]
    have hm : mxI k (-1) = if decide (k ≥ 0) = true then k else -1 := by
      unfold mxI
      by_cases hk : k ≥ 0
      · rw [decide_eq_true hk]
        split <;> simp <;> omega
      · rw [decide_eq_false hk]
        split <;> simp <;> omega
    rw [hm]
    rfl
theorem rlay_eq' {fu : Nat} {s : Int} {d : Dev} {l : List Int} (hl : l.length ≤ 1000000) : rickyardref05_Device_Lay.f fu (toM d s) l = some (toM (planD d l) 0) := by
  unfold rickyardref05_Device_Lay.f
  rw [if_pos (by rw [List.length_nil]; exact Nat.le_trans (by omega : _ ≤ 1000000) (by decide))]
  rfl
theorem rfates_eq {fu n : Nat} {B s : Int} {d : Dev} (h : DevOk n B d) (hn : n ≤ 100000) (hf : n < fu) : rickyardref05_Device_Fates.f fu (toM d s) = some (fatesD d) := by
  unfold rickyardref05_Device_Fates.f
  have hl := h.len
  have hl1 : (toM d s).Lasts.length = d.cells.length := by simp [toM, lastsD]
  have hl2 : (toM d s).Stored.length = d.cells.length := by simp [toM, storedD]
  have hl3 : (toM d s).Sent.length = d.cells.length := by simp [toM, sentD]
  have hl4 : (toM d s).Flushed.length = d.cells.length := by simp [toM, flushedD]
  have : loopM (rickyardref05_Device_Fates.s0 fu (toM d s)) fu ([], 0) = some (fatesD d) := by
    refine loopM_run (S := fun j => (fatesU d j, (j : Int))) d.cells.length (by simp [fatesU]) ?_ ?_ (by omega)
    · intro j hj
      unfold rickyardref05_Device_Fates.s0
      have w3 : IntKind.i64.wrap ((j : Int) + 1) = ((j + 1 : Nat) : Int) := next64 hj (by omega)
      have c1 : 0 ≤ (j : Int) ∧ (j : Int) < (d.cells.length : Int) := by omega
      have hle := fatesU_le d j
      have a1 : ix (toM d s).Lasts (j : Int) = (ix d.cells (j : Int)).lasts := ix_map' _ _ _ hj
      have a2 : ix (toM d s).Stored (j : Int) = (ix d.cells (j : Int)).stored := ix_map' _ _ _ hj
      have a3 : ix (toM d s).Sent (j : Int) = (ix d.cells (j : Int)).sent := ix_map' _ _ _ hj
      have a4 : ix (toM d s).Flushed (j : Int) = (ix d.cells (j : Int)).flushed := ix_map' (fun c : Cell => c.flushed) _ _ hj
      simp only [w3, hl1, hl2, hl3, hl4, a1, a2, a3, a4]
      rw [decide_eq_true c1.2, if_pos rfl, if_pos c1, if_pos c1, if_pos c1, if_pos c1, if_pos c1, if_pos c1, if_pos c1, fatesU_succ]
      have hx : (if (ix d.cells (j : Int)).flushed = true then some true else some (!decide ((ix d.cells (j : Int)).stored = (ix d.cells (j : Int)).lasts))) = some (openC (ix d.cells (j : Int))) := by
        unfold openC
        cases (ix d.cells (j : Int)).flushed <;> rfl
      rw [hx]
      simp only [Option.bind_some]
      cases ho : openC (ix d.cells (j : Int))
      · simp
      · have hlim : (fatesU d j).length + List.length [(⟨(j : Int), (ix d.cells (j : Int)).lasts, (ix d.cells (j : Int)).flushed, (ix d.cells (j : Int)).sent, (ix d.cells (j : Int)).stored⟩ : S_api_Fate)] ≤ LIM := by
          simp only [List.length_cons, List.length_nil]
          exact Nat.le_trans (by omega : _ ≤ 100001) (by decide)
        rw [if_pos rfl, if_pos hlim]
        rfl
    · unfold rickyardref05_Device_Fates.s0
      simp only [hl1]
      rw [decide_eq_false (show ¬ ((d.cells.length : Int) < (d.cells.length : Int)) by omega), if_neg (by decide)]
      rfl
  rw [this]
  rfl
theorem rcrash_eq {fu n : Nat} {B s : Int} {d : Dev} {l : List Int} (h : DevOk n B d) (hn : n ≤ 100000) (hli : ∀ x ∈ l, I64 x) (hf : n < fu) : rickyardref05_Device_Crash.f fu (toM d s) l = some (toM (crashD d l) 0) := by
  unfold rickyardref05_Device_Crash.f
  have hl := h.len
  rw [rfates_eq h hn hf]
  have hfl : (fatesD d).length ≤ n := by
    have := fatesU_le d d.cells.length
    unfold fatesD
    omega
  simp only [Option.bind_some]
  have loop : ∃ e, loopM (rickyardref05_Device_Crash.s0 fu l (fatesD d)) fu (tupM 0 (toM d s)) = some e ∧ ∃ cs : List Cell, e = ((toM (withC d cs) s).Lasts, (toM (withC d cs) s).Stored, (toM (withC d cs) s).Sent, (toM (withC d cs) s).Flushed, (toM (withC d cs) s).Plan, (toM (withC d cs) s).Since, (toM (withC d cs) s).Left, (toM (withC d cs) s).Steps) ∧ cs.length = d.cells.length ∧ ∀ p : Nat, p < d.cells.length → ix cs (p : Int) = if openC (ix d.cells (p : Int)) = true then keepC (ix d.cells (p : Int)) (fateC (ix d.cells (p : Int)) (l.getD (opens d.cells p) 0)) else ix d.cells (p : Int) := by
    refine loopM_inv (fun j z => ∃ cs : List Cell, z = tupM (j : Int) (toM (withC d cs) s) ∧ cs.length = d.cells.length ∧ ∀ p : Nat, p < d.cells.length → ix cs (p : Int) = if openC (ix d.cells (p : Int)) = true ∧ opens d.cells p < j then keepC (ix d.cells (p : Int)) (fateC (ix d.cells (p : Int)) (l.getD (opens d.cells p) 0)) else ix d.cells (p : Int)) (fatesD d).length _ ?_ ?_ (j := 0) ⟨d.cells, rfl, rfl, fun p hp => ?_⟩ (by omega) (by omega)
    · rintro j _ hj ⟨cs, rfl, hcl, hcp⟩
      obtain ⟨p, hp, ho, hop, hfa⟩ := fates_at d d.cells.length (Nat.le_refl _) j hj
      have hfa' : ix (fatesD d) (j : Int) = fateD d p := hfa
      have c1 : 0 ≤ (j : Int) ∧ (j : Int) < ((fatesD d).length : Int) := by omega
      have hx : (if (decide ((j : Int) < (List.length l : Int))) = true then (if 0 ≤ (j : Int) ∧ (j : Int) < (List.length l : Int) then some ((ix l (j : Int))) else none) else some (0)) = some (l.getD j 0) := by
        by_cases hjl : j < l.length
        · rw [decide_eq_true (show (j : Int) < (l.length : Int) by omega), if_pos rfl, if_pos ⟨by omega, by omega⟩, ix_nat hjl, getD_of _ _ _ hjl]
        · rw [decide_eq_false (show ¬ (j : Int) < (l.length : Int) by omega), if_neg (by decide), List.getD_eq_getElem?_getD, List.getElem?_eq_none (by omega)]
          rfl
      have hval : rickyardref05_Value.f fu (fateD d p) (l.getD j 0) = some (fateC (ix d.cells (p : Int)) (l.getD j 0)) := value_fate (getD_I64 hli j)
      have hlast := rlast_eq (fu := fu) (cs := cs) (k := p) (w := fateC (ix d.cells (p : Int)) (l.getD j 0)) (pl := d.plan.list) (s := s) (le := if d.armed = true then d.left else -1) (st := d.steps) (by omega)
      have hcp' : ix cs (p : Int) = ix d.cells (p : Int) := by rw [hcp p hp, if_neg (fun q => by omega)]
      have a1 : (fateD d p).At = (p : Int) := rfl
      rw [hcp'] at hlast
      unfold rickyardref05_Device_Crash.s0 tupM
      simp only [hx, hfa', a1, eta8]
      rw [decide_eq_true c1.2, if_pos rfl]
      simp only [Option.bind_some]
      rw [if_pos c1, if_pos c1, hval]
      simp only [Option.bind_some]
      rw [with_toM, hlast, next64 hj (by omega)]
      refine ⟨_, rfl, cs.set p (keepC (ix d.cells (p : Int)) (fateC (ix d.cells (p : Int)) (l.getD j 0))), rfl, by rw [List.length_set]; exact hcl, fun q hq => ?_⟩
      by_cases e : q = p
      · subst e
        rw [ix_nat (by rw [List.length_set]; omega), List.getElem_set_self, if_pos ⟨ho, by omega⟩, hop]
      · rw [ix_nat (by rw [List.length_set]; omega), List.getElem_set_ne (fun z => e z.symm), ← ix_nat (l := cs) (by omega), hcp q hq]
        by_cases hoq : openC (ix d.cells (q : Int)) = true
        · have : opens d.cells q ≠ j := fun z => e (opens_inj hq hp hoq ho (by omega))
          by_cases hlt : opens d.cells q < j
          · rw [if_pos ⟨hoq, hlt⟩, if_pos ⟨hoq, by omega⟩]
          · rw [if_neg fun z => hlt z.2, if_neg fun z => by omega]
        · rw [if_neg fun z => hoq z.1, if_neg fun z => hoq z.1]
    · rintro _ ⟨cs, rfl, hcl, hcp⟩
      unfold rickyardref05_Device_Crash.s0 tupM
      rw [decide_eq_false (show ¬ (((fatesD d).length : Int) < ((fatesD d).length : Int)) by omega), if_neg (by decide)]
      refine ⟨_, rfl, cs, rfl, hcl, fun p hp => ?_⟩
      rw [hcp p hp]
      cases hoq : openC (ix d.cells (p : Int))
      · simp
      · have hlt := opens_lt (cs := d.cells) (p := p) (q := d.cells.length) (by omega) (Nat.le_refl _) hoq
        have hfl2 : (fatesD d).length = opens d.cells d.cells.length := fates_len d _ (Nat.le_refl _)
        rw [if_pos ⟨rfl, by omega⟩, if_pos rfl]
    · rw [if_neg fun z => by omega]
  obtain ⟨e, h1, cs, rfl, hcl, hcp⟩ := loop
  unfold tupM at h1
  rw [h1]
  simp only [Option.bind_some]
  have loop2 : loopM (rickyardref05_Device_Crash.s1 fu ((toM (withC d cs) s).Lasts, (toM (withC d cs) s).Stored, (toM (withC d cs) s).Sent, (toM (withC d cs) s).Flushed, (toM (withC d cs) s).Plan, (toM (withC d cs) s).Since, (toM (withC d cs) s).Left, (toM (withC d cs) s).Steps)) fu (0, (toM (withC d cs) s).Stored) = some (toM (withC d cs) s).Lasts := by
    have q1 : (toM (withC d cs) s).Lasts.length = d.cells.length := by simp [toM, lastsD, withC, hcl]
    have q2 : (toM (withC d cs) s).Stored.length = d.cells.length := by simp [toM, storedD, withC, hcl]
    generalize (toM (withC d cs) s).Lasts = LA at *
    generalize (toM (withC d cs) s).Stored = SA at *
    refine loopM_run (S := fun j => ((j : Int), upd (fun i _ => ix LA (i : Int)) 0 j SA)) d.cells.length (by rw [upd_zero]; rfl) ?_ ?_ (by omega)
    · intro j hj
      unfold rickyardref05_Device_Crash.s1
      have hu := upd_set (fun i _ => ix LA (i : Int)) 0 j SA (by omega)
      simp only [Nat.zero_add] at hu
      simp only [q1, upd_len, q2]
      rw [decide_eq_true (show (j : Int) < (d.cells.length : Int) by omega), if_pos rfl, if_pos (by omega), if_pos (by omega), next64 hj (by omega), Int.toNat_natCast, hu]
    · unfold rickyardref05_Device_Crash.s1
      simp only [q1]
      rw [decide_eq_false (show ¬ ((d.cells.length : Int) < (d.cells.length : Int)) by omega), if_neg (by decide)]
      refine congrArg (fun z => some (Sum.inl z)) ?_
      apply List.ext_getElem (by rw [upd_len]; omega)
      intro i h1 h2
      rw [upd_get, if_pos (by omega), ix_nat h2]
  rw [loop2]
  simp only [Option.bind_some]
  have hc : ∀ p (h1 : p < (crashD d l).cells.length), (crashD d l).cells[p] = crashC (ix d.cells (p : Int)) (l.getD (opens d.cells p) 0) := by
    intro p h1
    have hp : p < d.cells.length := by simpa [crashD, crashL] using h1
    rw [← ix_nat h1, crash_get hp]
  have hcl2 : (crashD d l).cells.length = d.cells.length := by simp [crashD, crashL]
  have x1 : cs.map (fun c => c.lasts) = lastsD (crashD d l) := by
    unfold lastsD
    apply List.ext_getElem (by simp [hcl, hcl2])
    intro p h1 h2
    have hp : p < d.cells.length := by simpa [hcl] using h1
    rw [List.getElem_map, List.getElem_map, ← ix_nat (l := cs) (by omega), hcp p hp, hc]
    unfold crashC
    split <;> rfl
  have x2 : cs.map (fun c => c.sent) = sentD (crashD d l) := by
    unfold sentD
    apply List.ext_getElem (by simp [hcl, hcl2])
    intro p h1 h2
    have hp : p < d.cells.length := by simpa [hcl] using h1
    rw [List.getElem_map, List.getElem_map, ← ix_nat (l := cs) (by omega), hcp p hp, hc]
    unfold crashC
    split <;> rfl
  have x3 : cs.map (fun c => c.flushed) = flushedD (crashD d l) := by
    unfold flushedD
    apply List.ext_getElem (by simp [hcl, hcl2])
    intro p h1 h2
    have hp : p < d.cells.length := by simpa [hcl] using h1
    rw [List.getElem_map, List.getElem_map, ← ix_nat (l := cs) (by omega), hcp p hp, hc]
    unfold crashC
    split <;> rfl
  rw [with_toM]
  simp only []
  rw [x1, x2, x3]
  show some (⟨lastsD (crashD d l), lastsD (crashD d l), sentD (crashD d l), flushedD (crashD d l), [], 0, -1, d.steps⟩ : Ref) = some ⟨lastsD (crashD d l), storedD (crashD d l), sentD (crashD d l), flushedD (crashD d l), [], 0, -1, d.steps⟩
  rw [crash_view]
/-- How many steps there were since the plan was laid, behind an act. -/
def since (d : Dev) (a : S_rickyardlaw05_Act) (s : Int) : Int :=
  if a.Kind % 7 = 0 then inc (mayI d.off a.At (d.cells.length : Int) = 0) s
  else if a.Kind % 7 = 2 then inc (mayI d.off a.At ((d.cells.length / 8 : Nat) : Int) = 0) s
  else if a.Kind % 7 = 3 then inc (d.off = false) s
  else if a.Kind % 7 = 5 ∨ a.Kind % 7 = 6 then 0
  else s
theorem refs_eq {fu n : Nat} {B s : Int} {d : Dev} {a : S_rickyardlaw05_Act} (h : DevOk n B d) (hB : B < 9223372036854775807) (hn : n ≤ 100000) (ha : okA a) (hf : n + 8 < fu) (hs : 0 ≤ s ∧ s < 9223372036854775807) (hS : Since d s) : rickyardlaw05_Refs.f fu (toM d s) a = some ((doD d a).1.1, (doD d a).1.2, toM (doD d a).2 (since d a s)) := by
  obtain ⟨hk, hat, hw, hL, hl⟩ := ha
  unfold rickyardlaw05_Refs.f doD since
  rw [rest7_eq hk (by decide), rstore_eq h hB hs hS hw, rload_eq h, rflush_eq h hB hn (by omega) hs hS, rfence_eq h hB hn (by omega) hs hS, rarm_eq h, rlay_eq' (by omega), rcrash_eq h hn hL (by omega)]
  simp only [Option.bind_some]
  have hr : 0 ≤ a.Kind % 7 ∧ a.Kind % 7 < 7 := by omega
  generalize a.Kind % 7 = r at *
  have : r = 0 ∨ r = 1 ∨ r = 2 ∨ r = 3 ∨ r = 4 ∨ r = 5 ∨ r = 6 := by omega
  rcases this with rfl | rfl | rfl | rfl | rfl | rfl | rfl
  · rfl
  · rfl
  · rfl
  · rfl
  · have e1 : (armD d a.At).cells = d.cells ∧ (armD d a.At).plan = d.plan := by
      unfold armD
      split <;> exact ⟨rfl, rfl⟩
    simp [toM, lastsD, storedD, sentD, flushedD, e1.1, e1.2]
  · rfl
  · rfl
end Go.Proofs.Ytklhbaghbmndeaa.Pure

/- The document's device: where the plan stands; lists of fates that are alike. -/
set_option linter.unusedVariables false
set_option linter.unusedSimpArgs false
namespace Go.Proofs.Ytklhbaghbmndeaa.Pure
open Go Go.Xw
theorem since_tick {d : Dev} {cs : List Cell} {s : Int} (h : Since d s) : Since (tick (withC d cs)) (s + 1) := by
  have hl : (tick (withC d cs)).plan.list = d.plan.list := by
    show (nextP d.plan).list = _
    unfold nextP
    split <;> rfl
  intro e
  rw [hl] at e
  rw [hl]
  show (nextP d.plan).at_ = _
  unfold nextP
  rw [if_neg e]
  show (d.plan.at_ + 1) % (d.plan.list.length : Int) = _
  rw [h e]
  exact Int.emod_add_emod _ _ _
theorem since_do {d : Dev} {a : S_rickyardlaw05_Act} {s : Int} (h : Since d s) : Since (doD d a).2 (since d a s) := by
  have hr : 0 ≤ a.Kind % 7 ∧ a.Kind % 7 < 7 := by omega
  unfold doD since
  generalize a.Kind % 7 = r at *
  have : r = 0 ∨ r = 1 ∨ r = 2 ∨ r = 3 ∨ r = 4 ∨ r = 5 ∨ r = 6 := by omega
  rcases this with rfl | rfl | rfl | rfl | rfl | rfl | rfl
  · show Since (storeD d a.At a.W).2 (inc (mayI d.off a.At (d.cells.length : Int) = 0) s)
    unfold storeD inc
    split
    · exact since_tick h
    · exact h
  · exact h
  · show Since (flushD d a.At).2 (inc (mayI d.off a.At ((d.cells.length / 8 : Nat) : Int) = 0) s)
    unfold flushD inc
    split
    · exact since_tick h
    · exact h
  · show Since (fenceD d).2 (inc (d.off = false) s)
    unfold fenceD inc
    cases ho : d.off
    · exact since_tick h
    · exact h
  · show Since (armD d a.At) s
    unfold armD
    split
    · exact h
    · exact h
  · show Since (planD d a.L) 0
    intro _
    show (0 : Int) = 0 % _
    simp
  · show Since (crashD d a.L) 0
    intro e
    exact absurd rfl e
theorem since_le {d : Dev} {a : S_rickyardlaw05_Act} {s : Int} (h : 0 ≤ s) : 0 ≤ since d a s ∧ since d a s ≤ s + 1 := by
  have hi : ∀ (b : Prop) [Decidable b], 0 ≤ inc b s ∧ inc b s ≤ s + 1 := by
    intro b _
    unfold inc
    split <;> omega
  unfold since
  split
  · exact hi _
  split
  · exact hi _
  split
  · exact hi _
  split <;> omega
theorem rnew_eq {fu : Nat} {k : Nat} (hk : k ≤ 4096) : rickyardref05_New.f fu (k : Int) = some (toM (newD (8 * k)) 0) := by
  unfold rickyardref05_New.f
  have w : IntKind.i64.wrap (8 * (k : Int)) = ((8 * k : Nat) : Int) := by rw [w64 (by omega) (by omega)]; omega
  have c : 0 ≤ ((8 * k : Nat) : Int) ∧ 8 * k ≤ LIM := ⟨by omega, Nat.le_trans (by omega : _ ≤ 100000) (by decide)⟩
  rw [w, Int.toNat_natCast, if_pos c, if_pos c, if_pos c, if_pos c]
  simp [toM, newD, lastsD, storedD, sentD, flushedD]
theorem same_eq {fu : Nat} {l : List S_api_Fate} (hl : l.length ≤ 100000) (hf : l.length < fu) : rickyardref05_Same.f fu l l = some true := by
  unfold rickyardref05_Same.f
  rw [decide_eq_true rfl, if_neg (by decide)]
  have : loopM (rickyardref05_Same.s0 fu l l) fu 0 = some (.inr ()) := by
    refine loopM_run (S := fun j => (j : Int)) l.length rfl (fun j hj => ?_) ?_ hf
    · unfold rickyardref05_Same.s0
      rw [decide_eq_true (show (j : Int) < (l.length : Int) by omega), if_pos rfl, if_pos (by omega), if_pos (by omega), decide_eq_true rfl, if_neg (by decide), next64 hj hl]
    · unfold rickyardref05_Same.s0
      rw [decide_eq_false (show ¬ ((l.length : Int) < (l.length : Int)) by omega), if_neg (by decide)]
  rw [this]
  rfl
end Go.Proofs.Ytklhbaghbmndeaa.Pure
