/- PressActs: texts merged, part 8 of 8. The last part proves that the law PressActs holds for every input. -/
import Derived.Test.YtklhbaghbmndeaaPkPressActs7
set_option linter.unusedVariables false
set_option linter.unusedSimpArgs false
namespace Go.Proofs.Ytklhbaghbmndeaa.Pure
open Go Go.Xw
def lay (v n : Nat) : List Int := (List.range n).map fun i => ((v / 256 ^ i % 256 : Nat) : Int)
theorem lay_len (v n : Nat) : (lay v n).length = n := by simp [lay]
theorem lay_succ (v n : Nat) : lay v (n + 1) = lay v n ++ [((v / 256 ^ n % 256 : Nat) : Int)] := by
  simp [lay, List.range_succ]
theorem wu8_mod {n : Nat} : IntKind.u8.wrap (n : Int) = ((n % 256 : Nat) : Int) := by
  unfold IntKind.wrap
  simp only [IntKind.signed, IntKind.bits]
  simp
theorem shr64 (n : Nat) : shR .u64 (n : Int) 8 = ((n / 256 : Nat) : Int) := by
  unfold shR
  show Int.fdiv (n : Int) (2 ^ min ((8 : Int).toNat) 64) = _
  rw [show (2 : Int) ^ min ((8 : Int).toNat) 64 = 256 from by decide, Int.fdiv_eq_ediv_of_nonneg _ (by decide)]
  omega
theorem wn64 (q : Nat) (h : q < 18446744073709551616) : IntKind.u64.wrap (q : Int) = (q : Int) := wu64 (by omega) (by omega)
theorem tdn (q : Nat) : Int.tdiv (q : Int) 256 = ((q / 256 : Nat) : Int) := by
  rw [Int.tdiv_eq_ediv_of_nonneg (by omega)]
  omega
theorem tmn (q : Nat) : Int.tmod (q : Int) 256 = ((q % 256 : Nat) : Int) := by
  rw [Int.tmod_eq_emod_of_nonneg (by omega)]
  omega
theorem wn8 (q : Nat) : IntKind.u8.wrap ((q % 256 : Nat) : Int) = ((q % 256 : Nat) : Int) := wu8 (by omega) (by omega)
theorem olay_eq {fu v n : Nat} (hn : n ≤ 8) (hf : n < fu) : octet_Lay.f fu (v : Int) (n : Int) = some (lay v n) := by
  unfold octet_Lay.f
  have h0 : ¬ ((n : Int) < 0) := by omega
  have h8 : ¬ ((n : Int) > 8) := by omega
  have hL : Int.toNat (n : Int) ≤ LIM := by
    have : (8 : Nat) ≤ LIM := by decide
    omega
  simp only [h0, h8, decide_false, Bool.false_eq_true, if_false]
  rw [if_pos ⟨by omega, hL⟩]
  have : loopM (octet_Lay.s0 fu (n : Int)) fu ((v : Int), 0, List.replicate (Int.toNat (n : Int)) (0 : Int)) = some (lay v n) := by
    refine loopM_run (S := fun j => (((v / 256 ^ j : Nat) : Int), (j : Int), lay v j ++ List.replicate (n - j) (0 : Int))) n (by simp [lay]) ?_ ?_ hf
    · intro j hj
      unfold octet_Lay.s0
      have w3 : IntKind.i64.wrap ((j : Int) + 1) = ((j + 1 : Nat) : Int) := by rw [w64 (by omega) (by omega)]; omega
      have e1 : (List.replicate (Int.toNat (n : Int)) (0 : Int)).length = n := by simp
      have e2 : (lay v j ++ List.replicate (n - j) (0 : Int)).length = n := by rw [List.length_append, lay_len, List.length_replicate]; omega
      have e3 : List.set (lay v j ++ List.replicate (n - j) (0 : Int)) (Int.toNat (j : Int)) (IntKind.u8.wrap ((v / 256 ^ j : Nat) : Int)) = lay v (j + 1) ++ List.replicate (n - (j + 1)) (0 : Int) := by
        rw [Int.toNat_natCast, List.set_append, if_neg (by rw [lay_len]; omega), lay_len, Nat.sub_self, wu8_mod, lay_succ, show n - j = n - (j + 1) + 1 from by omega, List.replicate_succ]
        simp
      have e4 : shR .u64 ((v / 256 ^ j : Nat) : Int) 8 = ((v / 256 ^ (j + 1) : Nat) : Int) := by
        rw [shr64, Nat.div_div_eq_div_mul, Nat.pow_succ]
      have h1 : (j : Int) < (n : Int) := by omega
      simp only [e1, e2, e3, e4, w3, h1, decide_true, if_true]
      rw [if_pos ⟨by omega, trivial⟩]
    · unfold octet_Lay.s0
      simp
  rw [this]
  rfl
theorem roctet_eq {fu v i : Nat} (hv : v < 18446744073709551616) (hi : i ≤ 1000) (hf : i < fu) : rickyardref01_Octet.f fu (v : Int) (i : Int) = some ((v / 256 ^ i % 256 : Nat) : Int) := by
  unfold rickyardref01_Octet.f
  have : loopM (rickyardref01_Octet.s0 fu (i : Int)) fu ((v : Int), 0) = some ((v / 256 ^ i : Nat) : Int) := by
    refine loopM_run (S := fun j => (((v / 256 ^ j : Nat) : Int), (j : Int))) i (by simp) ?_ ?_ hf
    · intro j hj
      unfold rickyardref01_Octet.s0
      have w3 : IntKind.i64.wrap ((j : Int) + 1) = ((j + 1 : Nat) : Int) := by rw [w64 (by omega) (by omega)]; omega
      have h1 : (j : Int) < (i : Int) := by omega
      have hle : v / 256 ^ j ≤ v := Nat.div_le_self _ _
      have e1 : Int.tdiv ((v / 256 ^ j : Nat) : Int) 256 = ((v / 256 ^ (j + 1) : Nat) : Int) := by
        rw [tdn, Nat.pow_succ, ← Nat.div_div_eq_div_mul]
      have hle2 : v / 256 ^ (j + 1) ≤ v := Nat.div_le_self _ _
      have e2 : IntKind.u64.wrap ((v / 256 ^ (j + 1) : Nat) : Int) = ((v / 256 ^ (j + 1) : Nat) : Int) := wn64 _ (Nat.lt_of_le_of_lt hle2 hv)
      simp only [h1, decide_true, if_true, e1, e2, w3]
    · unfold rickyardref01_Octet.s0
      simp
  rw [this]
  simp only [Option.bind_some, tmn, wn8]
theorem rlay_eq {fu v n : Nat} (hv : v < 18446744073709551616) (hn : n ≤ 8) (hf : n < fu) : rickyardref01_Lay.f fu (v : Int) (n : Int) = some ((lay v n).map toB) := by
  unfold rickyardref01_Lay.f
  have : loopM (rickyardref01_Lay.s0 fu (v : Int) (n : Int)) fu ([], 0) = some ((lay v n).map toB) := by
    refine loopM_run (S := fun j => ((lay v j).map toB, (j : Int))) n (by simp [lay]) ?_ ?_ hf
    · intro j hj
      unfold rickyardref01_Lay.s0
      have w3 : IntKind.i64.wrap ((j : Int) + 1) = ((j + 1 : Nat) : Int) := by rw [w64 (by omega) (by omega)]; omega
      have h1 : (j : Int) < (n : Int) := by omega
      have hlim : ((lay v j).map toB).length + ([((v / 256 ^ j % 256 : Nat) : Int)].map toB).length ≤ LIM := by
        have : (9 : Nat) ≤ LIM := by decide
        simp only [List.length_map, lay_len, List.length_cons, List.length_nil]
        omega
      simp only [h1, decide_true, if_true, roctet_eq (fu := fu) hv (by omega : j ≤ 1000) (by omega), Option.bind_some, w3]
      rw [if_pos hlim, lay_succ, List.map_append]
    · unfold rickyardref01_Lay.s0
      simp
  rw [this]
  rfl
def num : List Int → Nat
  | [] => 0
  | c :: l => c.toNat + 256 * num l
theorem num_append : ∀ (a b : List Int), num (a ++ b) = num a + 256 ^ a.length * num b
  | [], b => by simp [num]
  | c :: a, b => by
    simp only [List.cons_append, num, num_append a b, List.length_cons, Nat.pow_succ]
    rw [Nat.mul_add, Nat.add_assoc, ← Nat.mul_assoc, Nat.mul_comm 256 (256 ^ a.length)]
theorem num_lt : ∀ {l : List Int}, Bytes l → num l < 256 ^ l.length
  | [], _ => by simp [num]
  | c :: l, h => by
    have h1 := h c (by simp)
    have h2 := num_lt (l := l) fun x hx => h x (by simp [hx])
    simp only [num, List.length_cons, Nat.pow_succ]
    omega
theorem or_add (a c j : Nat) (ha : a < 256 ^ j) : a ||| c * 256 ^ j = a + 256 ^ j * c := by
  have e : 256 ^ j = 2 ^ (8 * j) := by rw [Nat.pow_mul]
  rw [e] at ha ⊢
  rw [Nat.mul_comm c, Nat.or_comm, ← Nat.two_pow_add_eq_or_of_lt ha, Nat.add_comm]
theorem read_eq {fu : Nat} {l : List Int} (hb : Bytes l) (hl : l.length ≤ 8) (hf : l.length < fu) : octet_Read.f fu l = some ((num l : Nat) : Int) := by
  unfold octet_Read.f
  have hm : mnI (l.length : Int) 8 = (l.length : Int) := by
    unfold mnI
    split <;> omega
  have hc : cut l 0 (l.length : Int) = l := by
    unfold cut
    simp
  rw [hm, if_pos ⟨by omega, Int.le_refl _⟩]
  have : loopM (octet_Read.s0 fu l) fu (0, 0) = some ((num l : Nat) : Int) := by
    refine loopM_run (S := fun j => (((num (l.take j) : Nat) : Int), (j : Int))) l.length (by simp [num]) ?_ ?_ hf
    · intro j hj
      unfold octet_Read.s0
      rw [hm, hc]
      have h1 : (j : Int) < (l.length : Int) := by omega
      have w3 : IntKind.i64.wrap ((j : Int) + 1) = ((j + 1 : Nat) : Int) := by rw [w64 (by omega) (by omega)]; omega
      have w4 : IntKind.i64.wrap (8 * (j : Int)) = ((8 * j : Nat) : Int) := by rw [w64 (by omega) (by omega)]; omega
      have hcb := hb _ (List.getElem_mem hj)
      obtain ⟨c, hc'⟩ : ∃ c : Nat, l[j] = (c : Int) := ⟨l[j].toNat, by omega⟩
      have hlt : num (l.take j) < 256 ^ j := by
        have := num_lt (l := l.take j) fun x hx => hb x (List.mem_of_mem_take hx)
        rwa [List.length_take, Nat.min_eq_left (by omega)] at this
      have e256 : (256 : Nat) ^ j * 256 ≤ 256 ^ 8 := by
        rw [← Nat.pow_succ]
        exact Nat.pow_le_pow_right (by decide) (by omega)
      have e8 : (256 : Nat) ^ 8 = 18446744073709551616 := by decide
      have hcj : c * 256 ^ j < 18446744073709551616 := by
        have : c * 256 ^ j ≤ 255 * 256 ^ j := Nat.mul_le_mul_right _ (by omega)
        have : 0 < 256 ^ j := Nat.pow_pos (by decide)
        omega
      have e1 : shL .u64 (IntKind.u64.wrap (ix l (j : Int))) ((8 * j : Nat) : Int) = ((c * 256 ^ j : Nat) : Int) := by
        rw [ix_nat hj, hc', wu64 (by omega) (by omega)]
        unfold shL
        rw [Int.toNat_natCast, Nat.min_eq_left (by show 8 * j ≤ 64; omega)]
        have : (c : Int) * 2 ^ (8 * j) = ((c * 256 ^ j : Nat) : Int) := by
          have h256 : ((256 ^ j : Nat) : Int) = 2 ^ (8 * j) := by
            rw [Int.natCast_pow, Int.pow_mul]
            exact congrArg (fun z : Int => z ^ j) (by decide : ((256 : Nat) : Int) = 2 ^ 8)
          rw [Int.natCast_mul, h256]
        rw [this, wu64 (by omega) (by omega)]
      have e2 : bOr .u64 ((num (l.take j) : Nat) : Int) ((c * 256 ^ j : Nat) : Int) = ((num (l.take (j + 1)) : Nat) : Int) := by
        unfold bOr
        show IntKind.u64.wrap (((BitVec.ofInt 64 ((num (l.take j) : Nat) : Int) ||| BitVec.ofInt 64 ((c * 256 ^ j : Nat) : Int)).toNat : Nat) : Int) = _
        rw [BitVec.ofInt_natCast, BitVec.ofInt_natCast, BitVec.toNat_or, BitVec.toNat_ofNat, BitVec.toNat_ofNat, Nat.mod_eq_of_lt (by omega), Nat.mod_eq_of_lt (by omega), or_add _ _ _ hlt, take_next hj, num_append]
        have hs : num (l.take j) + 256 ^ j * c < 18446744073709551616 := by
          rw [Nat.mul_comm]
          have : c * 256 ^ j ≤ 255 * 256 ^ j := Nat.mul_le_mul_right _ (by omega)
          omega
        rw [wu64 (by omega) (by omega)]
        simp only [num, hc', Int.toNat_natCast, List.length_take, Nat.min_eq_left (by omega : j ≤ l.length), Nat.mul_zero, Nat.add_zero]
      simp only [h1, decide_true, if_true, w4, e1, e2, w3]
      rw [if_pos ⟨by omega, trivial⟩, if_pos (by omega)]
    · unfold octet_Read.s0
      rw [hm, hc]
      simp
  rw [this]
  rfl
abbrev Cell := S_pmem_cell
abbrev Dev := S_pmem_Device
def keepC (c : Cell) (w : Int) : Cell := ⟨w, c.stored, 0, false⟩
def openC (c : Cell) : Bool := c.flushed || !decide (c.stored = c.lasts)
def evict (p : Int) (cs : List Cell) : List Cell := cs.mapIdx fun i c => if 0 ≤ p ∧ (i : Int) = p % (cs.length : Int) then keepC c c.stored else c
def pick (p : S_pmem_plan) : Int := if p.list.length = 0 then -1 else ix p.list p.at_
def nextP (p : S_pmem_plan) : S_pmem_plan := if p.list.length = 0 then p else ⟨p.list, (p.at_ + 1) % (p.list.length : Int)⟩
def tick (d : Dev) : Dev := ⟨evict (pick d.plan) d.cells, nextP d.plan, if d.armed then decide (d.left - 1 = 0) else d.off, d.armed, if d.armed then d.left - 1 else d.left, d.steps + 1⟩
def mayI (off : Bool) (k n : Int) : Int := if off = true then 3 else if k < 0 ∨ k ≥ n then 2 else 0
def putC (k w : Int) (cs : List Cell) : List Cell := cs.mapIdx fun i c => if (i : Int) = k then ⟨c.lasts, w, c.sent, c.flushed⟩ else c
def sendC (c : Cell) : Cell := ⟨c.lasts, c.stored, c.stored, true⟩
def sendL (k : Int) (cs : List Cell) : List Cell := cs.mapIdx fun i c => if 8 * k ≤ (i : Int) ∧ (i : Int) < 8 * k + 8 then sendC c else c
def fenceC (c : Cell) : Cell := if c.flushed = true then keepC c c.sent else c
def withC (d : Dev) (cs : List Cell) : Dev := ⟨cs, d.plan, d.off, d.armed, d.left, d.steps⟩
def storeD (d : Dev) (k w : Int) : Int × Dev := if mayI d.off k (d.cells.length : Int) = 0 then (0, tick (withC d (putC k w d.cells))) else (mayI d.off k (d.cells.length : Int), d)
def loadD (d : Dev) (k : Int) : Int × Int := if mayI d.off k (d.cells.length : Int) = 0 then ((ix d.cells k).stored, 0) else (0, mayI d.off k (d.cells.length : Int))
def flushD (d : Dev) (k : Int) : Int × Dev := if mayI d.off k ((d.cells.length / 8 : Nat) : Int) = 0 then (0, tick (withC d (sendL k d.cells))) else (mayI d.off k ((d.cells.length / 8 : Nat) : Int), d)
def fenceD (d : Dev) : Int × Dev := if d.off = true then (3, d) else (0, tick (withC d (d.cells.map fenceC)))
def armD (d : Dev) (n : Int) : Dev := if d.off = true then d else ⟨d.cells, d.plan, decide (n = 0), decide (n ≥ 0), n, d.steps⟩
def planD (d : Dev) (l : List Int) : Dev := ⟨d.cells, ⟨l, 0⟩, d.off, d.armed, d.left, d.steps⟩
def fateC (c : Cell) (n : Int) : Int := if n % 3 = 2 then c.stored else if n % 3 = 1 ∧ c.flushed = true then c.sent else c.lasts
def opens (cs : List Cell) (i : Nat) : Nat := ((cs.take i).filter openC).length
def crashC (c : Cell) (n : Int) : Cell := if openC c = true then ⟨fateC c n, fateC c n, 0, false⟩ else ⟨c.lasts, c.lasts, c.sent, c.flushed⟩
def crashL (l : List Int) (cs : List Cell) : List Cell := cs.mapIdx fun i c => crashC c (l.getD (opens cs i) 0)
def crashD (d : Dev) (l : List Int) : Dev := ⟨crashL l d.cells, ⟨[], 0⟩, false, false, 0, d.steps⟩
def doD (d : Dev) (a : S_rickyardlaw05_Act) : (Int × Int) × Dev :=
  if a.Kind % 7 = 0 then ((0, (storeD d a.At a.W).1), (storeD d a.At a.W).2)
  else if a.Kind % 7 = 1 then (loadD d a.At, d)
  else if a.Kind % 7 = 2 then ((0, (flushD d a.At).1), (flushD d a.At).2)
  else if a.Kind % 7 = 3 then ((0, (fenceD d).1), (fenceD d).2)
  else if a.Kind % 7 = 4 then ((0, 0), armD d a.At)
  else if a.Kind % 7 = 5 then ((0, 0), planD d a.L)
  else ((0, 0), crashD d a.L)
def I64 (x : Int) : Prop := -9223372036854775808 ≤ x ∧ x ≤ 9223372036854775807
def U64 (x : Int) : Prop := 0 ≤ x ∧ x ≤ 18446744073709551615
def okC (c : Cell) : Prop := U64 c.lasts ∧ U64 c.stored ∧ U64 c.sent
/-- A device of `n` words that is as it should be, behind at most `B` steps. -/
structure DevOk (n : Nat) (B : Int) (d : Dev) : Prop where
  len : d.cells.length = n
  val : ∀ c ∈ d.cells, okC c
  at0 : d.plan.list.length ≠ 0 → 0 ≤ d.plan.at_ ∧ d.plan.at_ < (d.plan.list.length : Int)
  pl : d.plan.list.length ≤ 1000
  arm : d.armed = true → 0 ≤ d.left ∧ d.left ≤ 9223372036854775807 ∧ d.off = decide (d.left = 0)
  una : d.armed = false → d.off = false
  st : 0 ≤ d.steps ∧ d.steps ≤ B
theorem pnext_eq {fu : Nat} {p : S_pmem_plan} (h0 : p.list.length ≠ 0 → 0 ≤ p.at_ ∧ p.at_ < (p.list.length : Int)) (hl : p.list.length ≤ 1000) : pmem_plan_next__i0.f fu p = some (pick p, nextP p) := by
  unfold pmem_plan_next__i0.f pick nextP
  by_cases e : p.list.length = 0
  · have e' : (p.list.length : Int) = 0 := by omega
    rw [decide_eq_true e', if_pos rfl, if_pos e, if_pos e]
  · have e' : ¬ (p.list.length : Int) = 0 := by omega
    have h := h0 e
    rw [decide_eq_false e', if_neg (by decide), if_pos h, if_pos e', if_neg e, if_neg e, w64 (by omega) (by omega), Int.tmod_eq_emod_of_nonneg (by omega)]
theorem set_upd {cs : List Cell} {k : Nat} (g : Cell → Cell) (hk : k < cs.length) : cs.set k (g (ix cs (k : Int))) = cs.mapIdx fun i c => if i = k then g c else c := by
  rw [ix_nat hk]
  apply List.ext_getElem (by simp)
  intro i h1 h2
  rw [List.getElem_set, List.getElem_mapIdx]
  by_cases e : k = i
  · subst e
    simp
  · rw [if_neg e, if_neg (fun q => e q.symm)]
theorem evict_no {p : Int} (cs : List Cell) (h : ¬ 0 ≤ p) : evict p cs = cs := by
  apply List.ext_getElem (by simp [evict])
  intro i h1 h2
  simp only [evict, List.getElem_mapIdx]
  rw [if_neg fun q => h q.1]
theorem evict_nil {p : Int} : evict p [] = [] := by simp [evict]
theorem dstep_eq {fu n : Nat} {B : Int} {d : Dev} (h : DevOk n B d) (hB : B < 9223372036854775807) (ho : d.off = false) : pmem_Device_step.f fu d = some (tick d) := by
  unfold pmem_Device_step.f
  rw [pnext_eq h.at0 h.pl]
  have hs := h.st
  have w1 : IntKind.i64.wrap (d.steps + 1) = d.steps + 1 := w64 (by omega) (by omega)
  have hc : ∀ q, q = pick d.plan → ((if (if (decide (q ≥ 0)) = true then (decide ((List.length d.cells : Int) > 0)) else false) = true then (if (List.length d.cells : Int) ≠ 0 then (if 0 ≤ (Int.tmod q (List.length d.cells : Int)) ∧ (Int.tmod q (List.length d.cells : Int)) < (List.length d.cells : Int) then ((pmem_cell_keep__i0.f fu (ix d.cells (Int.tmod q (List.length d.cells : Int))) ((ix d.cells (Int.tmod q (List.length d.cells : Int))).stored) : Option S_pmem_cell).bind fun t35 => some ((List.set d.cells (Int.toNat (Int.tmod q (List.length d.cells : Int))) t35))) else none) else none) else some (d.cells)) : Option (List S_pmem_cell)) = some (evict q d.cells) := by
    intro q _
    by_cases hq : q ≥ 0
    · rw [decide_eq_true hq]
      by_cases hl : (List.length d.cells : Int) > 0
      · rw [decide_eq_true hl, Int.tmod_eq_emod_of_nonneg hq]
        have hm0 := Int.emod_nonneg q (show (List.length d.cells : Int) ≠ 0 by omega)
        have hm1 := Int.emod_lt_of_pos q hl
        have e1 : (List.length d.cells : Int) ≠ 0 := by omega
        simp only [if_true, e1, ne_eq, not_false_eq_true, hm0, hm1, and_self, pmem_cell_keep__i0.f, Option.bind_some]
        obtain ⟨k, hk⟩ : ∃ k : Nat, q % (List.length d.cells : Int) = (k : Int) := ⟨(q % (List.length d.cells : Int)).toNat, by omega⟩
        have hkl : k < d.cells.length := by omega
        rw [hk, Int.toNat_natCast]
        refine congrArg some ((set_upd (fun c => keepC c c.stored) hkl).trans ?_)
        apply List.ext_getElem (by simp [evict])
        intro i h1 h2
        simp only [evict, List.getElem_mapIdx, hk]
        by_cases e : i = k
        · rw [if_pos e, if_pos ⟨hq, by omega⟩]
        · rw [if_neg e, if_neg fun z => e (by omega)]
      · have : d.cells = [] := List.length_eq_zero_iff.1 (by omega)
        rw [this]
        simp [evict]
    · rw [evict_no _ hq, decide_eq_false hq]
      simp
  have hd : ∀ (r : List Cell), ((((if d.armed = true then some ((decide ((IntKind.i64.wrap (d.left - 1)) = 0)), (IntKind.i64.wrap (d.left - 1))) else some (d.off, d.left)) : Option (Bool × Int)).bind fun x45 => some ((⟨r, (⟨d.plan.list, (nextP d.plan).at_⟩ : S_pmem_plan), x45.1, d.armed, x45.2, (IntKind.i64.wrap (d.steps + 1))⟩ : S_pmem_Device))) : Option Dev) = some ⟨r, nextP d.plan, if d.armed then decide (d.left - 1 = 0) else d.off, d.armed, if d.armed then d.left - 1 else d.left, d.steps + 1⟩ := by
    intro r
    have hp : (⟨d.plan.list, (nextP d.plan).at_⟩ : S_pmem_plan) = nextP d.plan := by
      unfold nextP
      split <;> rfl
    rw [w1, hp]
    cases ha : d.armed
    · simp
    · have := h.arm ha
      rw [ho] at this
      have : d.left ≠ 0 := by
        intro e
        rw [e] at this
        exact absurd this.2.2 (by decide)
      rw [w64 (by omega) (by omega)]
      simp
  simp only [Option.bind_some]
  rw [hc _ rfl]
  exact hd _
theorem evict_len (p : Int) (cs : List Cell) : (evict p cs).length = cs.length := by simp [evict]
theorem keep_ok {c : Cell} {w : Int} (h : okC c) (hw : U64 w) : okC (keepC c w) := ⟨hw, h.2.1, by unfold U64; simp [keepC]⟩
theorem mapIdx_ok {cs : List Cell} {g : Nat → Cell → Cell} (h : ∀ c ∈ cs, okC c) (hg : ∀ i c, okC c → okC (g i c)) : ∀ c ∈ cs.mapIdx g, okC c := by
  intro c hc
  obtain ⟨i, hi, rfl⟩ := List.getElem_of_mem hc
  rw [List.getElem_mapIdx]
  exact hg _ _ (h _ (List.getElem_mem _))
theorem evict_ok {p : Int} {cs : List Cell} (h : ∀ c ∈ cs, okC c) : ∀ c ∈ evict p cs, okC c := by
  refine mapIdx_ok h fun i c hc => ?_
  split
  · exact keep_ok hc hc.2.1
  · exact hc
theorem tick_ok {n : Nat} {B : Int} {d : Dev} (h : DevOk n B d) (ho : d.off = false) : DevOk n (B + 1) (tick d) := by
  refine ⟨?_, ?_, ?_, ?_, ?_, ?_, ?_⟩
  · exact (evict_len _ _).trans h.len
  · exact evict_ok h.val
  · intro e
    by_cases z : d.plan.list.length = 0
    · exact absurd (by simp [tick, nextP, z]) e
    · have : (tick d).plan = ⟨d.plan.list, (d.plan.at_ + 1) % (d.plan.list.length : Int)⟩ := by simp [tick, nextP, z]
      rw [this]
      exact ⟨Int.emod_nonneg _ (by omega), Int.emod_lt_of_pos _ (by omega)⟩
  · by_cases z : d.plan.list.length = 0
    · simp [tick, nextP, z]
    · simp only [tick, nextP, z, if_false]
      exact h.pl
  · intro ha
    have ha' : d.armed = true := ha
    have := h.arm ha'
    have hl : d.left ≠ 0 := by
      intro e
      rw [e, ho] at this
      exact absurd this.2.2 (by decide)
    simp only [tick, ha', if_true]
    exact ⟨by omega, by omega, trivial⟩
  · intro ha
    have ha' : d.armed = false := ha
    simp only [tick, ha', Bool.false_eq_true, if_false]
    exact h.una ha'
  · have := h.st
    simp only [tick]
    omega
theorem DevOk.up {n : Nat} {B C : Int} {d : Dev} (h : DevOk n B d) (hc : B ≤ C) : DevOk n C d := ⟨h.len, h.val, h.at0, h.pl, h.arm, h.una, ⟨h.st.1, by have := h.st; omega⟩⟩
theorem with_ok {n : Nat} {B : Int} {d : Dev} (h : DevOk n B d) {cs : List Cell} (hl : cs.length = n) (hv : ∀ c ∈ cs, okC c) : DevOk n B (withC d cs) := ⟨hl, hv, h.at0, h.pl, h.arm, h.una, h.st⟩
theorem may_eq {fu : Nat} {d : Dev} {k m : Int} : pmem_Device_may.f fu d k m = some (mayI d.off k m) := by
  unfold pmem_Device_may.f mayI
  cases d.off
  · simp only [Bool.false_eq_true, if_false]
    by_cases h1 : k < 0
    · simp [h1]
    · by_cases h2 : k ≥ m <;> simp [h1, h2]
  · simp
theorem may_zero {b : Bool} {k m : Int} : mayI b k m = 0 ↔ b = false ∧ 0 ≤ k ∧ k < m := by
  unfold mayI
  cases b
  · simp only [Bool.false_eq_true, if_false]
    split <;> simp <;> omega
  · simp
theorem ix_set {α : Type} [Inhabited α] {l : List α} {k : Nat} {v : α} (h : k < l.length) : ix (l.set k v) (k : Int) = v := by
  rw [ix_nat (by simpa using h)]
  simp
theorem store_eq {fu n : Nat} {B k w : Int} {d : Dev} (h : DevOk n B d) (hB : B < 9223372036854775807) (hw : U64 w) : pmem_Device_Store.f fu d k w = some (storeD d k w) := by
  unfold pmem_Device_Store.f storeD
  rw [may_eq]
  simp only [Option.bind_some]
  by_cases e : mayI d.off k (d.cells.length : Int) = 0
  · obtain ⟨ho, h0, h1⟩ := may_zero.1 e
    rw [decide_eq_true e, if_pos e, if_neg (by decide), if_pos ⟨h0, h1⟩]
    obtain ⟨j, rfl⟩ : ∃ j : Nat, k = (j : Int) := ⟨k.toNat, by omega⟩
    have e1 : List.set d.cells (Int.toNat (j : Int)) (⟨(ix d.cells (j : Int)).lasts, w, (ix d.cells (j : Int)).sent, (ix d.cells (j : Int)).flushed⟩ : S_pmem_cell) = putC (j : Int) w d.cells := by
      rw [Int.toNat_natCast]
      refine (set_upd (fun c => ⟨c.lasts, w, c.sent, c.flushed⟩) (by omega)).trans ?_
      apply List.ext_getElem (by simp [putC])
      intro i h1 h2
      simp only [putC, List.getElem_mapIdx, Int.natCast_inj]
    have e2 : pmem_Device_step.f fu (⟨putC (j : Int) w d.cells, d.plan, d.off, d.armed, d.left, d.steps⟩ : S_pmem_Device) = some (tick (withC d (putC (j : Int) w d.cells))) := by
      refine dstep_eq (with_ok h (by simp [putC, h.len]) (mapIdx_ok h.val fun i c hc => ?_)) hB ho
      split
      · exact ⟨hc.1, hw, hc.2.2⟩
      · exact hc
    rw [e1, e2]
    rfl
  · rw [decide_eq_false e, if_neg e, if_pos (by decide)]
theorem load_eq {fu : Nat} {k : Int} {d : Dev} : pmem_Device_Load.f fu d k = some (loadD d k) := by
  unfold pmem_Device_Load.f loadD
  rw [may_eq]
  simp only [Option.bind_some]
  by_cases e : mayI d.off k (d.cells.length : Int) = 0
  · obtain ⟨ho, h0, h1⟩ := may_zero.1 e
    rw [decide_eq_true e, if_pos e, if_neg (by decide), if_pos ⟨h0, h1⟩]
  · rw [decide_eq_false e, if_neg e, if_pos (by decide)]
theorem lines_eq {fu : Nat} {d : Dev} (h : d.cells.length ≤ 1000000) : pmem_Device_Lines.f fu d = some ((d.cells.length / 8 : Nat) : Int) := by
  unfold pmem_Device_Lines.f
  rw [Int.tdiv_eq_ediv_of_nonneg (by omega), w64 (by omega) (by omega)]
  congr 1
theorem send_loop {fu : Nat} {cs : List Cell} {k : Nat} (h : 8 * k + 8 ≤ cs.length) (hl : cs.length ≤ 1000000) (hf : 8 < fu) : loopM (pmem_Device_Flush.s0 fu (k : Int)) fu (0, cs) = some (sendL (k : Int) cs) := by
  refine loopM_run (S := fun j => ((j : Int), upd (fun _ c => sendC c) (8 * k) j cs)) 8 (by rw [upd_zero]; rfl) ?_ ?_ hf
  · intro j hj
    unfold pmem_Device_Flush.s0
    have w1 : IntKind.i64.wrap ((k : Int) * 8) = ((8 * k : Nat) : Int) := by rw [w64 (by omega) (by omega)]; omega
    have w2 : IntKind.i64.wrap (((8 * k : Nat) : Int) + (j : Int)) = ((8 * k + j : Nat) : Int) := by rw [w64 (by omega) (by omega)]; omega
    have w3 : IntKind.i64.wrap ((j : Int) + 1) = ((j + 1 : Nat) : Int) := by rw [w64 (by omega) (by omega)]; omega
    have hlt : 8 * k + j < (upd (fun _ c => sendC c) (8 * k) j cs).length := by rw [upd_len]; omega
    have c1 : 0 ≤ ((8 * k + j : Nat) : Int) ∧ ((8 * k + j : Nat) : Int) < ((upd (fun _ c => sendC c) (8 * k) j cs).length : Int) := by omega
    have c2 : (j : Int) < 8 := by omega
    simp only [w1, w2, w3]
    rw [decide_eq_true c2, if_pos rfl, if_pos c1, Int.toNat_natCast, ix_set hlt, List.set_set, ix_nat hlt, upd_next _ _ _ _ (by omega)]
    refine congrArg (fun z => some (Sum.inr (((j + 1 : Nat) : Int), z))) ?_
    exact upd_set (fun _ c => sendC c) (8 * k) j cs (by omega)
  · unfold pmem_Device_Flush.s0
    rw [decide_eq_false (show ¬ (((8 : Nat) : Int) < 8) by decide), if_neg (by decide)]
    refine congrArg (fun z => some (Sum.inl z)) ?_
    apply List.ext_getElem (by simp [upd, sendL])
    intro i h1 h2
    simp only [upd, sendL, List.getElem_mapIdx]
    by_cases c : 8 * k ≤ i ∧ i < 8 * k + 8
    · rw [if_pos c, if_pos (by omega)]
    · rw [if_neg c, if_neg (by omega)]
theorem sendL_ok {cs : List Cell} {k : Int} (h : ∀ c ∈ cs, okC c) : ∀ c ∈ sendL k cs, okC c := by
  refine mapIdx_ok h fun i c hc => ?_
  split
  · exact ⟨hc.1, hc.2.1, hc.2.1⟩
  · exact hc
theorem flush_eq {fu n : Nat} {B k : Int} {d : Dev} (h : DevOk n B d) (hB : B < 9223372036854775807) (hn : n ≤ 1000000) (hf : 8 < fu) : pmem_Device_Flush.f fu d k = some (flushD d k) := by
  unfold pmem_Device_Flush.f flushD
  have hl : d.cells.length ≤ 1000000 := by rw [h.len]; exact hn
  rw [lines_eq hl]
  simp only [Option.bind_some]
  rw [may_eq]
  simp only [Option.bind_some]
  by_cases e : mayI d.off k ((d.cells.length / 8 : Nat) : Int) = 0
  · obtain ⟨ho, h0, h1⟩ := may_zero.1 e
    rw [decide_eq_true e, if_pos e, if_neg (by decide)]
    obtain ⟨j, rfl⟩ : ∃ j : Nat, k = (j : Int) := ⟨k.toNat, by omega⟩
    rw [send_loop (by omega) hl hf]
    have e2 : pmem_Device_step.f fu (⟨sendL (j : Int) d.cells, d.plan, d.off, d.armed, d.left, d.steps⟩ : S_pmem_Device) = some (tick (withC d (sendL (j : Int) d.cells))) :=
      dstep_eq (with_ok h (by simp [sendL, h.len]) (sendL_ok h.val)) hB ho
    simp only [Option.bind_some]
    rw [e2]
    rfl
  · rw [decide_eq_false e, if_neg e, if_pos (by decide)]
theorem fence_loop {fu : Nat} {d : Dev} (hl : d.cells.length ≤ 1000000) (hf : d.cells.length < fu) : loopM (pmem_Device_Fence.s0 fu d) fu (0, d.cells) = some (d.cells.map fenceC) := by
  refine loopM_run (S := fun j => ((j : Int), upd (fun _ c => fenceC c) 0 j d.cells)) d.cells.length (by rw [upd_zero]; rfl) ?_ ?_ hf
  · intro j hj
    unfold pmem_Device_Fence.s0
    have w3 : IntKind.i64.wrap ((j : Int) + 1) = ((j + 1 : Nat) : Int) := by rw [w64 (by omega) (by omega)]; omega
    have hlt : j < (upd (fun _ c => fenceC c) 0 j d.cells).length := by rw [upd_len]; omega
    have hnx : (upd (fun _ c => fenceC c) 0 j d.cells)[j] = d.cells[j] := by
      rw [upd_get, if_neg (by omega)]
    have c1 : 0 ≤ (j : Int) ∧ (j : Int) < ((upd (fun _ c => fenceC c) 0 j d.cells).length : Int) := by omega
    have c2 : (j : Int) < (d.cells.length : Int) := by omega
    simp only [w3]
    rw [decide_eq_true c2, if_pos rfl, if_pos c1, Int.toNat_natCast, ix_nat hlt, hnx]
    have hs := upd_set (fun _ c => fenceC c) 0 j d.cells (by omega)
    simp only [Nat.zero_add] at hs
    cases hfl : d.cells[j].flushed
    · have : fenceC d.cells[j] = d.cells[j] := by simp [fenceC, hfl]
      have := upd_same (fun _ c => fenceC c) 0 j d.cells (by omega) (by simpa using this)
      simp only [Bool.false_eq_true, if_false, Option.bind_some]
      rw [this]
    · have : fenceC d.cells[j] = keepC d.cells[j] d.cells[j].sent := by simp [fenceC, hfl]
      rw [this] at hs
      simp only [if_true, pmem_cell_keep__i0.f, Option.bind_some]
      refine congrArg (fun z => some (Sum.inr (((j + 1 : Nat) : Int), z))) hs
  · unfold pmem_Device_Fence.s0
    rw [decide_eq_false (by omega), if_neg (by decide)]
    refine congrArg (fun z => some (Sum.inl z)) ?_
    show upd (fun _ c => fenceC c) 0 d.cells.length d.cells = _
    rw [upd_all]
    apply List.ext_getElem (by simp)
    intro i h1 h2
    simp
theorem fence_okC {c : Cell} (h : okC c) : okC (fenceC c) := by
  unfold fenceC
  split
  · exact keep_ok h h.2.2
  · exact h
theorem fence_eq {fu n : Nat} {B : Int} {d : Dev} (h : DevOk n B d) (hB : B < 9223372036854775807) (hn : n ≤ 1000000) (hf : n < fu) : pmem_Device_Fence.f fu d = some (fenceD d) := by
  unfold pmem_Device_Fence.f fenceD
  rw [may_eq]
  simp only [Option.bind_some]
  cases ho : d.off
  · have e : mayI false 0 1 = 0 := by decide
    rw [e, if_neg (by decide), if_neg (by decide), fence_loop (by rw [h.len]; exact hn) (by rw [h.len]; exact hf)]
    have e2 : pmem_Device_step.f fu (⟨d.cells.map fenceC, d.plan, d.off, d.armed, d.left, d.steps⟩ : S_pmem_Device) = some (tick (withC d (d.cells.map fenceC))) :=
      dstep_eq (with_ok h (by simp [h.len]) (fun c hc => by
        obtain ⟨x, hx, rfl⟩ := List.mem_map.1 hc
        exact fence_okC (h.val x hx))) hB ho
    rw [ho] at e2
    simp only [Option.bind_some]
    rw [e2]
    rfl
  · have e : mayI true 0 1 = 3 := by decide
    rw [e]
    rfl
theorem arm_eq {fu : Nat} {d : Dev} {k : Int} : pmem_Device_Arm.f fu d k = some (armD d k) := by
  unfold pmem_Device_Arm.f armD
  split <;> rfl
theorem plan_eq {fu : Nat} {d : Dev} {l : List Int} (hl : l.length ≤ 1000000) : pmem_Device_Plan.f fu d l = some (planD d l) := by
  unfold pmem_Device_Plan.f slices_Clone_1.f planD
  rw [if_pos (Nat.le_trans hl (by decide))]
  rfl
theorem openr_eq {fu : Nat} {c : Cell} : pmem_cell_open__r0.f fu c = some (openC c) := by
  unfold pmem_cell_open__r0.f openC
  cases c.flushed <;> rfl
theorem fater_eq {fu : Nat} {c : Cell} {n : Int} (hn : I64 n) : pmem_cell_fate__r0.f fu c n = some (fateC c n) := by
  unfold pmem_cell_fate__r0.f fateC
  have hr : Int.tmod n 3 = n % 3 ∧ 0 ≤ n ∨ Int.tmod n 3 = n % 3 - 3 ∧ n < 0 ∧ n % 3 ≠ 0 ∨ Int.tmod n 3 = 0 ∧ n % 3 = 0 := by
    rcases Int.lt_or_le n 0 with h | h
    · have e1 : Int.tmod n 3 = -(Int.tmod (-n) 3) := by rw [Int.neg_tmod, Int.neg_neg]
      have e2 : Int.tmod (-n) 3 = (-n) % 3 := Int.tmod_eq_emod_of_nonneg (by omega)
      omega
    · exact .inl ⟨Int.tmod_eq_emod_of_nonneg h, h⟩
  generalize Int.tmod n 3 = t at *
  generalize hq : n % 3 = q at *
  have hq3 : 0 ≤ q ∧ q < 3 := by omega
  have : q = 0 ∧ t = 0 ∨ q = 1 ∧ (t = 1 ∨ t = -2) ∨ q = 2 ∧ (t = 2 ∨ t = -1) := by omega
  rcases this with ⟨rfl, rfl⟩ | ⟨rfl, rfl | rfl⟩ | ⟨rfl, rfl | rfl⟩ <;> cases c.flushed <;> rfl
theorem opens_succ {cs : List Cell} {j : Nat} (h : j < cs.length) : opens cs (j + 1) = opens cs j + (if openC cs[j] = true then 1 else 0) := by
  unfold opens
  rw [take_next h, List.filter_append, List.length_append]
  cases hc : openC cs[j] <;> simp [hc]
theorem crash_loop {fu : Nat} {d : Dev} {l : List Int} (hl : d.cells.length ≤ 1000000) (hi : ∀ x ∈ l, I64 x) (hf : d.cells.length < fu) : loopM (pmem_Device_Crash.s0 fu d) fu (l, 0, d.cells) = some (crashL l d.cells) := by
  refine loopM_run (S := fun j => (l.drop (opens d.cells j), (j : Int), upd (fun i c => crashC c (l.getD (opens d.cells i) 0)) 0 j d.cells)) d.cells.length (by rw [upd_zero]; simp [opens]) ?_ ?_ hf
  · intro j hj
    unfold pmem_Device_Crash.s0
    have w3 : IntKind.i64.wrap ((j : Int) + 1) = ((j + 1 : Nat) : Int) := by rw [w64 (by omega) (by omega)]; omega
    have hlt : j < (upd (fun i c => crashC c (l.getD (opens d.cells i) 0)) 0 j d.cells).length := by rw [upd_len]; omega
    have hnx : (upd (fun i c => crashC c (l.getD (opens d.cells i) 0)) 0 j d.cells)[j] = d.cells[j] := by
      rw [upd_get, if_neg (by omega)]
    have hs := upd_set (fun i c => crashC c (l.getD (opens d.cells i) 0)) 0 j d.cells (by omega)
    simp only [Nat.zero_add] at hs
    rw [opens_succ hj]
    have c1 : 0 ≤ (j : Int) ∧ (j : Int) < ((upd (fun i c => crashC c (l.getD (opens d.cells i) 0)) 0 j d.cells).length : Int) := by omega
    have c2 : (j : Int) < (d.cells.length : Int) := by omega
    simp only [w3]
    rw [decide_eq_true c2, if_pos rfl, if_pos c1, Int.toNat_natCast, ix_nat hlt, hnx, openr_eq]
    generalize hU : upd (fun i c => crashC c (l.getD (opens d.cells i) 0)) 0 j d.cells = U at *
    simp only [Option.bind_some]
    cases ho : openC d.cells[j]
    · have : crashC d.cells[j] (l.getD (opens d.cells j) 0) = ⟨d.cells[j].lasts, d.cells[j].lasts, d.cells[j].sent, d.cells[j].flushed⟩ := by simp [crashC, ho]
      rw [this] at hs
      simp only [Bool.false_eq_true, if_false, Option.bind_some, ix_nat hlt, hnx, hlt, Int.ofNat_lt, if_true, Nat.add_zero]
      rw [hs]
    · have hx : ∀ v, ix (U.set j (keepC d.cells[j] v)) (j : Int) = keepC d.cells[j] v := fun v => ix_set hlt
      have key : ∀ v, v = l.getD (opens d.cells j) 0 → (U.set j (keepC d.cells[j] (fateC d.cells[j] v))).set j (⟨fateC d.cells[j] v, fateC d.cells[j] v, 0, false⟩ : S_pmem_cell) = upd (fun i c => crashC c (l.getD (opens d.cells i) 0)) 0 (j + 1) d.cells := by
        intro v hv
        rw [List.set_set, hv, ← hs]
        simp [crashC, ho]
      have hlt2 : ∀ v, (j : Int) < (((U.set j v)).length : Int) := fun v => by rw [List.length_set]; omega
      simp only [if_true]
      by_cases hd : opens d.cells j < l.length
      · have e0 : (List.length (l.drop (opens d.cells j)) : Int) > 0 := by rw [List.length_drop]; omega
        have e1 : (1 : Int) ≤ (List.length (l.drop (opens d.cells j)) : Int) := by omega
        have e2 : ix (l.drop (opens d.cells j)) 0 = l.getD (opens d.cells j) 0 := by
          rw [show (0 : Int) = ((0 : Nat) : Int) from rfl, ix_nat (by omega)]
          simp [List.getD_eq_getElem?_getD, List.getElem?_eq_getElem hd]
        have e3 : cut (l.drop (opens d.cells j)) 1 (List.length (l.drop (opens d.cells j)) : Int) = l.drop (opens d.cells j + 1) := by
          unfold cut
          rw [Int.toNat_natCast, List.take_length, show Int.toNat 1 = 1 from rfl, List.drop_drop]
        have e4 : I64 (l.getD (opens d.cells j) 0) := by
          rw [getD_of _ _ _ hd]
          exact hi _ (List.getElem_mem hd)
        rw [decide_eq_true e0, if_pos rfl, if_pos e0, if_pos e1, e2, e3]
        simp only [Option.bind_some]
        rw [fater_eq e4]
        simp only [Option.bind_some, pmem_cell_keep__i0.f]
        rw [if_pos (hlt2 _), if_pos (hlt2 _)]
        have := key _ rfl
        simp only [keepC] at this hx ⊢
        rw [hx]
        rw [this]
      · have e0 : ¬ (List.length (l.drop (opens d.cells j)) : Int) > 0 := by rw [List.length_drop]; omega
        have e2 : l.getD (opens d.cells j) 0 = 0 := by
          rw [List.getD_eq_getElem?_getD, List.getElem?_eq_none (by omega)]
          rfl
        have e3 : l.drop (opens d.cells j) = l.drop (opens d.cells j + 1) := by
          rw [List.drop_eq_nil_of_le (by omega), List.drop_eq_nil_of_le (by omega)]
        rw [decide_eq_false e0, if_neg (by decide)]
        simp only [Option.bind_some]
        rw [fater_eq (show I64 0 by unfold I64; omega)]
        simp only [Option.bind_some, pmem_cell_keep__i0.f]
        rw [if_pos (hlt2 _), if_pos (hlt2 _)]
        have := key 0 e2.symm
        simp only [keepC] at this hx ⊢
        rw [hx, this, e3]
  · unfold pmem_Device_Crash.s0
    rw [decide_eq_false (show ¬ ((d.cells.length : Int) < (d.cells.length : Int)) by omega), if_neg (by decide)]
    refine congrArg (fun z => some (Sum.inl z)) ?_
    exact upd_all _ _
theorem crash_eq {fu n : Nat} {B : Int} {d : Dev} {l : List Int} (h : DevOk n B d) (hn : n ≤ 1000000) (hi : ∀ x ∈ l, I64 x) (hf : n < fu) : pmem_Device_Crash.f fu d l = some (crashD d l) := by
  unfold pmem_Device_Crash.f crashD
  rw [crash_loop (by rw [h.len]; exact hn) hi (by rw [h.len]; exact hf)]
  rfl
end Go.Proofs.Ytklhbaghbmndeaa.Pure
namespace Go.Proofs.Ytklhbaghbmndeaa
open Go Go.Xw
end Go.Proofs.Ytklhbaghbmndeaa
namespace Go.Proofs.Ytklhbaghbmndeaa.Pure
open Go Go.Xw
def octs (ws : List Int) : List Int := ws.flatMap fun w => lay w.toNat 8
theorem octs_len : ∀ ws : List Int, (octs ws).length = 8 * ws.length
  | [] => rfl
  | w :: ws => by
    have := octs_len ws
    simp only [octs, List.flatMap_cons, List.length_append, lay_len, List.length_cons] at *
    omega
theorem octs_append (a b : List Int) : octs (a ++ b) = octs a ++ octs b := by simp [octs]
theorem octs_one (w : Int) : octs [w] = lay w.toNat 8 := by simp [octs]
theorem octets_eq {fu : Nat} {ws : List Int} (hv : ∀ w ∈ ws, U64 w) (hl : ws.length ≤ 100000) (hf : ws.length + 8 < fu) : octet_Octets.f fu ws = some (octs ws) := by
  unfold octet_Octets.f
  have : loopM (octet_Octets.s0 fu ws) fu ([], 0) = some (octs ws) := by
    refine loopM_run (S := fun j => (octs (ws.take j), (j : Int))) ws.length (by simp [octs]) ?_ ?_ (by omega)
    · intro j hj
      unfold octet_Octets.s0
      have w3 : IntKind.i64.wrap ((j : Int) + 1) = ((j + 1 : Nat) : Int) := by rw [w64 (by omega) (by omega)]; omega
      have c1 : 0 ≤ (j : Int) ∧ (j : Int) < (ws.length : Int) := by omega
      have hu := hv _ (List.getElem_mem hj)
      obtain ⟨v, hv'⟩ : ∃ v : Nat, ws[j] = (v : Int) := ⟨ws[j].toNat, by unfold U64 at hu; omega⟩
      simp only [w3]
      rw [decide_eq_true c1.2, if_pos rfl, if_pos c1, ix_nat hj, hv', show octet_Lay.f fu (v : Int) 8 = some (lay v 8) from olay_eq (n := 8) (by omega) (by omega)]
      simp only [Option.bind_some]
      rw [if_pos (by rw [octs_len, lay_len, List.length_take]; exact Nat.le_trans (by omega : _ ≤ 1000008) (by decide)), take_next hj, octs_append, octs_one, hv', Int.toNat_natCast]
    · unfold octet_Octets.s0
      rw [decide_eq_false (show ¬ ((ws.length : Int) < (ws.length : Int)) by omega), if_neg (by decide), List.take_length]
  rw [this]
  rfl
theorem set_next {l : List Int} {n j : Nat} {v : Int} (h : j < n) (hl : l.length = j) : (l ++ List.replicate (n - j) (0 : Int)).set j v = (l ++ [v]) ++ List.replicate (n - (j + 1)) (0 : Int) := by
  rw [List.set_append, if_neg (by omega), hl, Nat.sub_self, show n - j = n - (j + 1) + 1 from by omega, List.replicate_succ]
  simp
def lastsD (d : Dev) : List Int := d.cells.map fun c => c.lasts
def storedD (d : Dev) : List Int := d.cells.map fun c => c.stored
theorem image_eq {fu n : Nat} {B : Int} {d : Dev} (h : DevOk n B d) (hn : n ≤ 100000) (hf : n + 8 < fu) : pmem_Device_Image.f fu d = some (octs (lastsD d)) := by
  unfold pmem_Device_Image.f pmem_Device_octets__pmem_Device_Image_1.f
  have hl := h.len
  rw [if_pos ⟨by omega, Nat.le_trans (by omega : _ ≤ 100000) (by decide)⟩]
  have : loopM (pmem_Device_octets__pmem_Device_Image_1.s0 fu d) fu (0, (List.replicate (Int.toNat (List.length d.cells : Int)) (0 : Int))) = some (lastsD d) := by
    refine loopM_run (S := fun j => ((j : Int), (lastsD d).take j ++ List.replicate (d.cells.length - j) (0 : Int))) d.cells.length (by simp) ?_ ?_ (by omega)
    · intro j hj
      unfold pmem_Device_octets__pmem_Device_Image_1.s0
      have w3 : IntKind.i64.wrap ((j : Int) + 1) = ((j + 1 : Nat) : Int) := by rw [w64 (by omega) (by omega)]; omega
      have hjl : j < (lastsD d).length := by simpa [lastsD] using hj
      have ht : ((lastsD d).take j).length = j := by rw [List.length_take]; omega
      have c1 : 0 ≤ (j : Int) ∧ (j : Int) < (d.cells.length : Int) := by omega
      have c2 : 0 ≤ (j : Int) ∧ (j : Int) < (((lastsD d).take j ++ List.replicate (d.cells.length - j) (0 : Int)).length : Int) := by
        rw [List.length_append, ht, List.length_replicate]
        omega
      simp only [w3]
      rw [decide_eq_true c1.2, if_pos rfl, if_pos c1, ix_nat hj]
      simp only [pmem_Device_Image_1__r0.f, Option.bind_some]
      rw [if_pos c2, Int.toNat_natCast, set_next hj ht, take_next hjl]
      simp [lastsD]
    · unfold pmem_Device_octets__pmem_Device_Image_1.s0
      rw [decide_eq_false (show ¬ ((d.cells.length : Int) < (d.cells.length : Int)) by omega), if_neg (by decide), Nat.sub_self, List.take_of_length_le (by simp [lastsD])]
      simp
  rw [this]
  simp only [Option.bind_some]
  rw [octets_eq (fun w hw => by
    obtain ⟨c, hc, rfl⟩ := List.mem_map.1 hw
    exact (h.val c hc).1) (by simp [lastsD, hl, hn]) (by simp only [lastsD, List.length_map]; omega)]
  rfl
theorem view_eq {fu n : Nat} {B : Int} {d : Dev} (h : DevOk n B d) (hn : n ≤ 100000) (hf : n + 8 < fu) : pmem_Device_View.f fu d = some (octs (storedD d)) := by
  unfold pmem_Device_View.f pmem_Device_octets__pmem_Device_View_1.f
  have hl := h.len
  rw [if_pos ⟨by omega, Nat.le_trans (by omega : _ ≤ 100000) (by decide)⟩]
  have : loopM (pmem_Device_octets__pmem_Device_View_1.s0 fu d) fu (0, (List.replicate (Int.toNat (List.length d.cells : Int)) (0 : Int))) = some (storedD d) := by
    refine loopM_run (S := fun j => ((j : Int), (storedD d).take j ++ List.replicate (d.cells.length - j) (0 : Int))) d.cells.length (by simp) ?_ ?_ (by omega)
    · intro j hj
      unfold pmem_Device_octets__pmem_Device_View_1.s0
      have w3 : IntKind.i64.wrap ((j : Int) + 1) = ((j + 1 : Nat) : Int) := by rw [w64 (by omega) (by omega)]; omega
      have hjl : j < (storedD d).length := by simpa [storedD] using hj
      have ht : ((storedD d).take j).length = j := by rw [List.length_take]; omega
      have c1 : 0 ≤ (j : Int) ∧ (j : Int) < (d.cells.length : Int) := by omega
      have c2 : 0 ≤ (j : Int) ∧ (j : Int) < (((storedD d).take j ++ List.replicate (d.cells.length - j) (0 : Int)).length : Int) := by
        rw [List.length_append, ht, List.length_replicate]
        omega
      simp only [w3]
      rw [decide_eq_true c1.2, if_pos rfl, if_pos c1, ix_nat hj]
      simp only [pmem_Device_View_1__r0.f, Option.bind_some]
      rw [if_pos c2, Int.toNat_natCast, set_next hj ht, take_next hjl]
      simp [storedD]
    · unfold pmem_Device_octets__pmem_Device_View_1.s0
      rw [decide_eq_false (show ¬ ((d.cells.length : Int) < (d.cells.length : Int)) by omega), if_neg (by decide), Nat.sub_self, List.take_of_length_le (by simp [storedD])]
      simp
  rw [this]
  simp only [Option.bind_some]
  rw [octets_eq (fun w hw => by
    obtain ⟨c, hc, rfl⟩ := List.mem_map.1 hw
    exact (h.val c hc).2.1) (by simp [storedD, hl, hn]) (by simp only [storedD, List.length_map]; omega)]
  rfl
def fateD (d : Dev) (i : Nat) : S_api_Fate := ⟨(i : Int), (ix d.cells (i : Int)).lasts, (ix d.cells (i : Int)).flushed, (ix d.cells (i : Int)).sent, (ix d.cells (i : Int)).stored⟩
def fatesU (d : Dev) (j : Nat) : List S_api_Fate := ((List.range j).filter fun (i : Nat) => openC (ix d.cells (i : Int))).map (fateD d)
def fatesD (d : Dev) : List S_api_Fate := fatesU d d.cells.length
theorem fatesU_succ (d : Dev) (j : Nat) : fatesU d (j + 1) = fatesU d j ++ (if openC (ix d.cells (j : Int)) = true then [fateD d j] else []) := by
  unfold fatesU
  rw [List.range_succ, List.filter_append, List.map_append]
  cases h : openC (ix d.cells (j : Int)) <;> simp [h]
theorem fatesU_le (d : Dev) (j : Nat) : (fatesU d j).length ≤ j := by
  unfold fatesU
  rw [List.length_map]
  exact Nat.le_trans (List.length_filter_le _ _) (by simp)
theorem fates_eq {fu n : Nat} {B : Int} {d : Dev} (h : DevOk n B d) (hn : n ≤ 100000) (hf : n < fu) : pmem_Device_Fates.f fu d = some (fatesD d) := by
  unfold pmem_Device_Fates.f
  have hl := h.len
  have : loopM (pmem_Device_Fates.s0 fu d) fu ([], 0) = some (fatesD d) := by
    refine loopM_run (S := fun j => (fatesU d j, (j : Int))) d.cells.length (by simp [fatesU]) ?_ ?_ (by omega)
    · intro j hj
      unfold pmem_Device_Fates.s0
      have w3 : IntKind.i64.wrap ((j : Int) + 1) = ((j + 1 : Nat) : Int) := by rw [w64 (by omega) (by omega)]; omega
      have c1 : 0 ≤ (j : Int) ∧ (j : Int) < (d.cells.length : Int) := by omega
      have hle := fatesU_le d j
      simp only [w3]
      rw [decide_eq_true c1.2, if_pos rfl, if_pos c1, openr_eq, fatesU_succ]
      simp only [Option.bind_some]
      cases ho : openC (ix d.cells (j : Int))
      · simp
      · have hlim : (fatesU d j).length + List.length [(⟨(j : Int), (ix d.cells (j : Int)).lasts, (ix d.cells (j : Int)).flushed, (ix d.cells (j : Int)).sent, (ix d.cells (j : Int)).stored⟩ : S_api_Fate)] ≤ LIM := by
          simp only [List.length_cons, List.length_nil]
          exact Nat.le_trans (by omega : _ ≤ 100001) (by decide)
        rw [if_pos rfl, if_pos hlim]
        rfl
    · unfold pmem_Device_Fates.s0
      rw [decide_eq_false (show ¬ ((d.cells.length : Int) < (d.cells.length : Int)) by omega), if_neg (by decide)]
      rfl
  rw [this]
  rfl
def newD (n : Nat) : Dev := ⟨List.replicate n ⟨0, 0, 0, false⟩, ⟨[], 0⟩, false, false, 0, 0⟩
theorem new_eq {fu : Nat} {k : Nat} (hk : k ≤ 4096) : pmem_New.f fu (k : Int) = some (some (newD (8 * k)), 0) := by
  unfold pmem_New.f
  have h1 : ¬ (k : Int) < 0 := by omega
  have h2 : ¬ (k : Int) > 4096 := by omega
  have w : IntKind.i64.wrap ((k : Int) * 8) = ((8 * k : Nat) : Int) := by rw [w64 (by omega) (by omega)]; omega
  rw [decide_eq_false h1, decide_eq_false h2, if_neg (by decide), w, Int.toNat_natCast, if_pos ⟨by omega, Nat.le_trans (by omega : _ ≤ 100000) (by decide)⟩]
  rfl
theorem newD_ok (n : Nat) : DevOk n 0 (newD n) := by
  refine ⟨by simp [newD], fun c hc => ?_, fun h => absurd rfl h, by simp [newD], fun h => (by cases h), fun _ => rfl, by simp [newD]⟩
  rw [List.eq_of_mem_replicate hc]
  unfold okC U64
  simp
theorem arm_ok {n : Nat} {B k : Int} {d : Dev} (h : DevOk n B d) (hk : I64 k) : DevOk n B (armD d k) := by
  unfold armD
  cases ho : d.off
  · rw [if_neg (by decide)]
    refine ⟨h.len, h.val, h.at0, h.pl, fun ha => ?_, fun ha => ?_, h.st⟩
    · have : k ≥ 0 := by simpa using ha
      exact ⟨this, hk.2, rfl⟩
    · have : ¬ k ≥ 0 := by simpa using ha
      exact decide_eq_false (by omega)
  · rw [if_pos rfl]
    exact h
theorem plan_ok {n : Nat} {B : Int} {d : Dev} {l : List Int} (h : DevOk n B d) (hl : l.length ≤ 1000) : DevOk n B (planD d l) :=
  ⟨h.len, h.val, fun e => ⟨by simp [planD], by simp only [planD] at e ⊢; omega⟩, hl, h.arm, h.una, h.st⟩
theorem fateC_ok {c : Cell} {n : Int} (h : okC c) : U64 (fateC c n) := by
  unfold fateC
  split
  · exact h.2.1
  · split
    · exact h.2.2
    · exact h.1
theorem crashC_ok {c : Cell} {n : Int} (h : okC c) : okC (crashC c n) := by
  unfold crashC
  split
  · exact ⟨fateC_ok h, fateC_ok h, by unfold U64; simp⟩
  · exact ⟨h.1, h.1, h.2.2⟩
theorem crash_ok {n : Nat} {B : Int} {d : Dev} {l : List Int} (h : DevOk n B d) : DevOk n B (crashD d l) :=
  ⟨by simp [crashD, crashL, h.len], mapIdx_ok h.val fun i c hc => crashC_ok hc, fun e => absurd rfl e, by simp [crashD], fun e => (by cases e), fun _ => rfl, h.st⟩
theorem store_ok {n : Nat} {B k w : Int} {d : Dev} (h : DevOk n B d) (hw : U64 w) : DevOk n (B + 1) (storeD d k w).2 := by
  unfold storeD
  split
  · rename_i e
    refine tick_ok (with_ok h (by simp [putC, h.len]) (mapIdx_ok h.val fun i c hc => ?_)) (may_zero.1 e).1
    split
    · exact ⟨hc.1, hw, hc.2.2⟩
    · exact hc
  · exact h.up (by omega)
theorem flush_ok {n : Nat} {B k : Int} {d : Dev} (h : DevOk n B d) : DevOk n (B + 1) (flushD d k).2 := by
  unfold flushD
  split
  · rename_i e
    exact tick_ok (with_ok h (by simp [sendL, h.len]) (sendL_ok h.val)) (may_zero.1 e).1
  · exact h.up (by omega)
theorem fence_ok {n : Nat} {B : Int} {d : Dev} (h : DevOk n B d) : DevOk n (B + 1) (fenceD d).2 := by
  unfold fenceD
  cases ho : d.off
  · rw [if_neg (by decide)]
    exact tick_ok (with_ok h (by simp [h.len]) (fun c hc => by
        obtain ⟨x, hx, rfl⟩ := List.mem_map.1 hc
        exact fence_okC (h.val x hx))) ho
  · rw [if_pos rfl]
    exact h.up (by omega)
/-- An act whose parts fit. -/
def okA (a : S_rickyardlaw05_Act) : Prop := I64 a.Kind ∧ I64 a.At ∧ U64 a.W ∧ (∀ x ∈ a.L, I64 x) ∧ a.L.length ≤ 1000
theorem do_ok {n : Nat} {B : Int} {d : Dev} {a : S_rickyardlaw05_Act} (h : DevOk n B d) (ha : okA a) : DevOk n (B + 1) (doD d a).2 := by
  unfold doD
  split
  · exact store_ok h ha.2.2.1
  split
  · exact h.up (by omega)
  split
  · exact flush_ok h
  split
  · exact fence_ok h
  split
  · exact (arm_ok h ha.2.1).up (by omega)
  split
  · exact (plan_ok h ha.2.2.2.2).up (by omega)
  · exact (crash_ok h).up (by omega)
theorem rest7_eq {fu : Nat} {k m : Int} (hk : I64 k) (hm : 0 < m ∧ m ≤ 1000) : rickyardref01_Rest.f fu k m = some (k % m) := by
  unfold rickyardref01_Rest.f
  have h0 : m ≠ 0 := by omega
  rw [if_pos h0, if_pos h0]
  have h1 := Int.emod_nonneg k h0
  have h2 := Int.emod_lt_of_pos k hm.1
  have e : Int.tmod k m = k % m ∨ Int.tmod k m = k % m - m := by
    rcases Int.lt_or_le k 0 with h | h
    · rw [Int.tmod_eq_emod]
      split
      · exact .inl (by omega)
      · right
        have : (m.natAbs : Int) = m := by omega
        omega
    · exact .inl (Int.tmod_eq_emod_of_nonneg h)
  congr 1
  rcases e with e | e
  · rw [e, w64 (by omega) (by omega), Int.tmod_eq_emod_of_nonneg (by omega), Int.add_emod_right, Int.emod_emod]
  · rw [e, show k % m - m + m = k % m from by omega, w64 (by omega) (by omega), Int.tmod_eq_emod_of_nonneg (by omega), Int.emod_emod]
theorem do_eq {fu n : Nat} {B : Int} {d : Dev} {a : S_rickyardlaw05_Act} (h : DevOk n B d) (hB : B < 9223372036854775807) (hn : n ≤ 100000) (ha : okA a) (hf : n + 8 < fu) : rickyardlaw05_Do.f fu d a = some ((doD d a).1.1, (doD d a).1.2, (doD d a).2) := by
  obtain ⟨hk, hat, hw, hL, hl⟩ := ha
  unfold rickyardlaw05_Do.f doD
  rw [rest7_eq hk (by decide), store_eq h hB hw, load_eq, flush_eq h hB (by omega) (by omega), fence_eq h hB (by omega) (by omega), arm_eq, plan_eq (by omega), crash_eq h (by omega) hL (by omega)]
  simp only [Option.bind_some]
  have hr : 0 ≤ a.Kind % 7 ∧ a.Kind % 7 < 7 := by omega
  generalize a.Kind % 7 = r at *
  have : r = 0 ∨ r = 1 ∨ r = 2 ∨ r = 3 ∨ r = 4 ∨ r = 5 ∨ r = 6 := by omega
  rcases this with rfl | rfl | rfl | rfl | rfl | rfl | rfl
  · rfl
  · rfl
  · rfl
  · rfl
  · have : (armD d a.At).cells = d.cells ∧ (armD d a.At).plan.list = d.plan.list := by
      unfold armD
      split <;> exact ⟨rfl, rfl⟩
    simp [← this.1, ← this.2]
  · rfl
  · rfl
end Go.Proofs.Ytklhbaghbmndeaa.Pure
namespace Go.Proofs.Ytklhbaghbmndeaa
open Go Go.Xw
end Go.Proofs.Ytklhbaghbmndeaa
namespace Go.Proofs.Ytklhbaghbmndeaa.Pure
open Go Go.Xw
theorem loopM_inv {σ ε : Type} {step : σ → Option (Sum ε σ)} (P : Nat → σ → Prop) (n : Nat) (Q : ε → Prop) (h : ∀ j s, j < n → P j s → ∃ s', step s = some (.inr s') ∧ P (j + 1) s') (he : ∀ s, P n s → ∃ e, step s = some (.inl e) ∧ Q e) : ∀ {k j : Nat} {s : σ}, P j s → j ≤ n → n - j < k → ∃ e, loopM step k s = some e ∧ Q e
  | 0, j, s, _, _, hk => by omega
  | k + 1, j, s, hp, hj, hk => by
    unfold loopM
    by_cases e1 : j = n
    · subst e1
      obtain ⟨e, h1, h2⟩ := he s hp
      rw [h1]
      exact ⟨e, rfl, h2⟩
    · obtain ⟨s', h1, h2⟩ := h j s (by omega) hp
      rw [h1]
      exact loopM_inv P n Q h he h2 (by omega) (by omega)
theorem okA_of {a : S_rickyardlaw05_Act} (h : ok_rickyardlaw05_Act a) (hl : a.L.length ≤ 40) : okA a := by
  obtain ⟨h1, h2, h3, h4, _⟩ := h
  exact ⟨wf64.1 h1, wf64.1 h2, wfu64.1 h3, fun x hx => wf64.1 (h4 x hx), by omega⟩
def Small (acts : List S_rickyardlaw05_Act) (m : Nat) : Prop := acts.length ≤ m ∧ ∀ a ∈ acts, a.L.length ≤ 40
instance (acts : List S_rickyardlaw05_Act) (m : Nat) : Decidable (Small acts m) := inferInstanceAs (Decidable (_ ∧ _))
/-- The fuel. -/
abbrev FU : Nat := 200000
theorem steps_eq {fu : Nat} {d : Dev} : pmem_Device_Steps.f fu d = some d.steps := rfl
theorem eta {d : Dev} : (⟨d.cells, ⟨d.plan.list, d.plan.at_⟩, d.off, d.armed, d.left, d.steps⟩ : S_pmem_Device) = d := rfl
def tup (i : Int) (d : Dev) : Int × (List S_pmem_cell) × (List Int) × Int × Bool × Bool × Int × Int := (i, d.cells, d.plan.list, d.plan.at_, d.off, d.armed, d.left, d.steps)
theorem next64 {j n : Nat} (h : j < n) (hn : n ≤ 100000) : IntKind.i64.wrap ((j : Int) + 1) = ((j + 1 : Nat) : Int) := by rw [w64 (by omega) (by omega)]; omega
theorem shr_pow (n j : Nat) (hj : j < 8) : shR .u64 (n : Int) ((8 * j : Nat) : Int) = ((n / 256 ^ j : Nat) : Int) := by
  unfold shR
  rw [Int.toNat_natCast]
  have e : min (8 * j) IntKind.u64.bits = 8 * j := Nat.min_eq_left (by show 8 * j ≤ 64; omega)
  rw [e, show (256 : Nat) = 2 ^ 8 from rfl, ← Nat.pow_mul]
  have : ((2 : Int) ^ (8 * j)) = ((2 ^ (8 * j) : Nat) : Int) := by simp
  rw [this, Int.fdiv_eq_ediv_of_nonneg _ (Int.natCast_nonneg _)]
  simp
theorem text_eq {fu : Nat} {ws : List Int} (hv : ∀ w ∈ ws, U64 w) (hl : ws.length ≤ 100000) (hf : ws.length + 8 < fu) : rickyardref05_Text.f fu ws = some ((octs ws).map toB) := by
  unfold rickyardref05_Text.f
  have : loopM (rickyardref05_Text.s1 fu ws) fu ([], 0) = some (octs ws) := by
    refine loopM_run (S := fun j => (octs (ws.take j), (j : Int))) ws.length (by simp [octs]) ?_ ?_ (by omega)
    · intro j hj
      unfold rickyardref05_Text.s1
      have w3 : IntKind.i64.wrap ((j : Int) + 1) = ((j + 1 : Nat) : Int) := next64 hj hl
      have c1 : 0 ≤ (j : Int) ∧ (j : Int) < (ws.length : Int) := by omega
      have hu := hv _ (List.getElem_mem hj)
      obtain ⟨v, hv'⟩ : ∃ v : Nat, ws[j] = (v : Int) := ⟨ws[j].toNat, by unfold U64 at hu; omega⟩
      have inner : loopM (rickyardref05_Text.s2 fu ws (octs (ws.take j), (j : Int))) fu (octs (ws.take j), 0) = some (octs (ws.take j) ++ lay v 8) := by
        refine loopM_run (S := fun i => (octs (ws.take j) ++ lay v i, (i : Int))) 8 (by simp [lay]) ?_ ?_ (by omega)
        · intro i hi
          unfold rickyardref05_Text.s2
          have c2 : (i : Int) < 8 := by omega
          have w4 : IntKind.i64.wrap (8 * (i : Int)) = ((8 * i : Nat) : Int) := by rw [w64 (by omega) (by omega)]; omega
          have w5 : IntKind.i64.wrap ((i : Int) + 1) = ((i + 1 : Nat) : Int) := by rw [w64 (by omega) (by omega)]; omega
          simp only [w4, w5]
          have hlim : List.length (octs (ws.take j) ++ lay v i) + List.length [((v / 256 ^ i % 256 : Nat) : Int)] ≤ LIM := by
            rw [List.length_append, octs_len, lay_len, List.length_take]
            exact Nat.le_trans (by simp only [List.length_cons, List.length_nil]; omega : _ ≤ 1000000) (by decide)
          rw [decide_eq_true c2, if_pos rfl, if_pos c1, if_pos (by omega), ix_nat hj, hv', shr_pow _ _ hi, wu8_mod, if_pos hlim, lay_succ, List.append_assoc]
        · unfold rickyardref05_Text.s2
          rw [decide_eq_false (show ¬ (((8 : Nat) : Int) < 8) by decide), if_neg (by decide)]
      simp only [w3]
      rw [decide_eq_true c1.2, if_pos rfl, inner, take_next hj, octs_append, octs_one, hv', Int.toNat_natCast]
      rfl
    · unfold rickyardref05_Text.s1
      rw [decide_eq_false (show ¬ ((ws.length : Int) < (ws.length : Int)) by omega), if_neg (by decide), List.take_length]
  rw [this]
  rfl
theorem octs_take (ws : List Int) (i : Nat) : (octs ws).take (8 * i) = octs (ws.take i) := by
  by_cases h : i ≤ ws.length
  · have e : octs ws = octs (ws.take i) ++ octs (ws.drop i) := by rw [← octs_append, List.take_append_drop]
    rw [e, List.take_append_of_le_length (by rw [octs_len, List.length_take]; omega), List.take_of_length_le (by rw [octs_len, List.length_take]; omega)]
  · rw [List.take_of_length_le (by rw [octs_len]; omega), List.take_of_length_le (by omega)]
theorem octs_drop (ws : List Int) (i : Nat) : (octs ws).drop (8 * i) = octs (ws.drop i) := by
  by_cases h : i ≤ ws.length
  · have e : octs ws = octs (ws.take i) ++ octs (ws.drop i) := by rw [← octs_append, List.take_append_drop]
    have hl : (octs (ws.take i)).length = 8 * i := by rw [octs_len, List.length_take]; omega
    rw [e, ← hl, List.drop_left]
  · rw [List.drop_of_length_le (by rw [octs_len]; omega), List.drop_of_length_le (by omega)]
    rfl
theorem octs_cut (ws : List Int) (i j : Nat) : cut (octs ws) ((8 * i : Nat) : Int) ((8 * j : Nat) : Int) = octs (cut ws (i : Int) (j : Int)) := by
  unfold cut
  rw [Int.toNat_natCast, Int.toNat_natCast, Int.toNat_natCast, Int.toNat_natCast, octs_take, octs_drop]
theorem ix_mapIdx {α : Type} [Inhabited α] {cs : List α} {g : Nat → α → α} {i : Nat} (hi : i < cs.length) : ix (cs.mapIdx g) (i : Int) = g i (ix cs (i : Int)) := by
  rw [ix_nat (by simpa using hi), ix_nat hi, List.getElem_mapIdx]
theorem cut_get {α : Type} {l : List α} {a b i : Nat} (h : i < (cut l (a : Int) (b : Int)).length) (h2 : a + i < l.length) : (cut l (a : Int) (b : Int))[i] = l[a + i] := by
  simp only [cut, Int.toNat_natCast, List.getElem_drop, List.getElem_take]
theorem cut_len' {α : Type} {l : List α} {a b : Nat} (h : b ≤ l.length) : (cut l (a : Int) (b : Int)).length = b - a := by
  simp only [cut, Int.toNat_natCast, List.length_drop, List.length_take]
  omega
theorem of_toB {l : List Int} (h : Bytes l) : (l.map toB).map ofB = l := by
  rw [List.map_map]
  conv => rhs; rw [← List.map_id l]
  apply List.map_congr_left
  intro x hx
  have := h x hx
  simp only [Function.comp, ofB, toB, UInt8.toNat_ofNat', id]
  omega
theorem Bytes.drop {l : List Int} (h : Bytes l) (n : Nat) : Bytes (l.drop n) := fun x hx => h x (List.mem_of_mem_drop hx)
theorem Bytes.take {l : List Int} (h : Bytes l) (n : Nat) : Bytes (l.take n) := fun x hx => h x (List.mem_of_mem_take hx)
theorem getD_toB {l : List Int} (hb : Bytes l) {i : Nat} (h : i < l.length) : ofB (List.getD (l.map toB) (Int.toNat (i : Int)) 0) = ix l (i : Int) := by
  rw [Int.toNat_natCast, List.getD_eq_getElem?_getD, List.getElem?_map, List.getElem?_eq_getElem h, ix_nat h]
  have := of_toB (l := [l[i]]) (by intro x hx; obtain rfl := List.mem_singleton.1 hx; exact hb _ (List.getElem_mem h))
  simpa using this
theorem num_lt8 {l : List Int} (hb : Bytes l) (hl : l.length ≤ 8) : num l < 18446744073709551616 := by
  have h1 := num_lt hb
  have h2 : (256 : Nat) ^ l.length ≤ 256 ^ 8 := Nat.pow_le_pow_right (by decide) hl
  have h3 : (256 : Nat) ^ 8 = 18446744073709551616 := by decide
  omega
theorem rnumber_eq {fu : Nat} {l : List Int} (hb : Bytes l) (hl : l.length ≤ 8) (hf : l.length < fu) : rickyardref01_Number.f fu (l.map toB) = some ((num l : Nat) : Int) := by
  unfold rickyardref01_Number.f
  have w0 : IntKind.i64.wrap (((l.map toB).length : Int) - 1) = (l.length : Int) - 1 := by rw [List.length_map, w64 (by omega) (by omega)]
  rw [w0]
  have : loopM (rickyardref01_Number.s0 fu (l.map toB)) fu (0, (l.length : Int) - 1) = some ((num l : Nat) : Int) := by
    refine loopM_run (S := fun j => (((num (l.drop (l.length - j)) : Nat) : Int), (l.length : Int) - 1 - (j : Int))) l.length (by simp [num]) ?_ ?_ hf
    · intro j hj
      unfold rickyardref01_Number.s0
      obtain ⟨i, hi⟩ : ∃ i : Nat, l.length - j = i + 1 := ⟨l.length - j - 1, by omega⟩
      have e1 : (l.length : Int) - 1 - (j : Int) = (i : Int) := by omega
      have hil : i < l.length := by omega
      have e2 : l.length - (j + 1) = i := by omega
      have c1 : (i : Int) ≥ 0 := by omega
      have c2 : (i : Int) < 8 := by omega
      have c3 : True ∧ (i : Int) < ((l.map toB).length : Int) := ⟨trivial, by rw [List.length_map]; omega⟩
      have w1 : IntKind.i64.wrap ((i : Int) - 1) = (l.length : Int) - 1 - ((j + 1 : Nat) : Int) := by rw [w64 (by omega) (by omega)]; omega
      have hcb := hb _ (List.getElem_mem hil)
      obtain ⟨c, hc⟩ : ∃ c : Nat, l[i] = (c : Int) := ⟨l[i].toNat, by omega⟩
      have hd : l.drop i = l[i] :: l.drop (i + 1) := List.drop_eq_getElem_cons hil
      have hn : num (l.drop i) = c + 256 * num (l.drop (i + 1)) := by rw [hd, num, hc, Int.toNat_natCast]
      have hlt := num_lt8 (hb.drop i) (by rw [List.length_drop]; omega)
      rw [hn] at hlt
      have w2 : IntKind.u64.wrap (((num (l.drop (i + 1)) : Nat) : Int) * 256) = ((num (l.drop (i + 1)) : Nat) : Int) * 256 := wu64 (by omega) (by omega)
      have w3 : IntKind.u64.wrap (ix l (i : Int)) = (c : Int) := by rw [ix_nat hil, hc, wu64 (by omega) (by omega)]
      have w4 : IntKind.u64.wrap (((num (l.drop (i + 1)) : Nat) : Int) * 256 + (c : Int)) = ((num (l.drop i) : Nat) : Int) := by rw [wu64 (by omega) (by omega), hn]; omega
      simp only [e1, hi, e2, getD_toB hb hil, w1, w2, w3, w4, c1, c2, decide_true, if_true]
      rw [if_pos c3]
      rfl
    · unfold rickyardref01_Number.s0
      have : ¬ (l.length : Int) - 1 - (l.length : Int) ≥ 0 := by omega
      simp only [this]
      simp
  rw [this]
  rfl
theorem read_long {fu : Nat} {l : List Int} (h : 8 ≤ l.length) : octet_Read.f fu l = octet_Read.f fu (l.take 8) := by
  have h8 : (l.take 8).length = 8 := by rw [List.length_take]; omega
  have e1 : mnI (l.length : Int) 8 = 8 := by unfold mnI; split <;> omega
  have e2 : mnI ((l.take 8).length : Int) 8 = 8 := by rw [h8]; rfl
  have e3 : cut l 0 8 = l.take 8 := rfl
  have e4 : cut (l.take 8) 0 8 = l.take 8 := by
    unfold cut
    rw [List.take_of_length_le (by rw [h8]; decide)]
    rfl
  have es : octet_Read.s0 fu l = octet_Read.s0 fu (l.take 8) := by
    unfold octet_Read.s0
    rw [e1, e2, e3, e4]
  unfold octet_Read.f
  rw [e1, e2, es, if_pos (by omega), if_pos (by rw [h8]; decide)]
def wordsU (l : List Int) (j : Nat) : List Int := (List.range j).map fun i => ((num ((l.drop (8 * i)).take 8) : Nat) : Int)
theorem wordsU_succ (l : List Int) (j : Nat) : wordsU l (j + 1) = wordsU l j ++ [((num ((l.drop (8 * j)).take 8) : Nat) : Int)] := by
  simp [wordsU, List.range_succ]
theorem wordsU_len (l : List Int) (j : Nat) : (wordsU l j).length = j := by simp [wordsU]
theorem chunk_len {l : List Int} {j : Nat} (h : 8 * j + 8 ≤ l.length) : ((l.drop (8 * j)).take 8).length = 8 := by
  rw [List.length_take, List.length_drop]
  omega
theorem words_U64 {l : List Int} (hb : Bytes l) {n : Nat} : ∀ w ∈ wordsU l n, U64 w := by
  intro w hw
  obtain ⟨i, _, rfl⟩ := List.mem_map.1 hw
  have := num_lt8 ((hb.drop (8 * i)).take 8) (by rw [List.length_take]; omega)
  unfold U64
  omega
theorem words_eq {fu n : Nat} {l : List Int} (hb : Bytes l) (hl : l.length = 8 * n) (hn : n ≤ 100000) (hf : n + 8 < fu) : octet_Words.f fu l = some (wordsU l n) := by
  unfold octet_Words.f
  have : loopM (octet_Words.s0 fu) fu (l, []) = some (wordsU l n) := by
    refine loopM_run (S := fun j => (l.drop (8 * j), wordsU l j)) n (by simp [wordsU]) ?_ ?_ (by omega)
    · intro j hj
      unfold octet_Words.s0
      have hdl : (l.drop (8 * j)).length = 8 * n - 8 * j := by rw [List.length_drop, hl]
      have c1 : ((l.drop (8 * j)).length : Int) ≥ 8 := by omega
      have hc : ((l.drop (8 * j)).take 8).length = 8 := chunk_len (by omega)
      have hr : octet_Read.f fu (l.drop (8 * j)) = some ((num ((l.drop (8 * j)).take 8) : Nat) : Int) := by
        rw [read_long (by omega)]
        exact read_eq ((hb.drop _).take _) (by omega) (by omega)
      have e1 : cut (l.drop (8 * j)) 8 ((l.drop (8 * j)).length : Int) = l.drop (8 * (j + 1)) := by
        unfold cut
        rw [Int.toNat_natCast, List.take_length, show Int.toNat 8 = 8 from rfl, List.drop_drop]
        congr 1
      simp only [e1]
      rw [decide_eq_true c1, if_pos rfl, hr]
      simp only [Option.bind_some]
      rw [if_pos (by rw [wordsU_len]; exact Nat.le_trans (by simp only [List.length_cons, List.length_nil]; omega : _ ≤ 100001) (by decide)), if_pos c1, wordsU_succ]
    · unfold octet_Words.s0
      have : ¬ (((l.drop (8 * n)).length : Int) ≥ 8) := by rw [List.length_drop]; omega
      simp only [this, decide_false, Bool.false_eq_true, if_false]
  rw [this]
  rfl
/-- Words are stored one behind the other, till one is refused. -/
def putAll : Dev → Int → List Int → Int × Dev
  | d, _, [] => (0, d)
  | d, k, w :: ws => if (storeD d k w).1 = 0 then putAll (storeD d k w).2 (k + 1) ws else storeD d k w
def sendD (d : Dev) (line first : Int) (ws : List Int) : Int × Dev := if (putAll d (8 * line + first) ws).1 = 0 then flushD (putAll d (8 * line + first) ws).2 line else putAll d (8 * line + first) ws
def inL (d : Dev) (line : Int) : Prop := 0 ≤ line ∧ line < ((d.cells.length / 8 : Nat) : Int)
instance (d : Dev) (line : Int) : Decidable (inL d line) := inferInstanceAs (Decidable (_ ∧ _))
def writeD (d : Dev) (line : Int) (b : List Int) : Int × Dev := if inL d line ∧ b.length = 64 then sendD d line 0 (wordsU b 8) else (2, d)
def wordD (d : Dev) (line i w : Int) : Int × Dev := if inL d line ∧ 0 ≤ i ∧ i < 8 then sendD d line i [w] else (2, d)
def lineC (d : Dev) (line : Int) : List Int := (List.range 8).map fun (i : Nat) => (ix d.cells (8 * line + (i : Int))).stored
def lineL (d : Dev) (line : Int) : List Int := (List.range 8).map fun (i : Nat) => (ix d.cells (8 * line + (i : Int))).lasts
def readD (d : Dev) (line : Int) : List Int × Int := if inL d line then if d.off = true then ([], 3) else (octs (lineC d line), 0) else ([], 2)
theorem put_ok {n : Nat} : ∀ {ws : List Int} {B k : Int} {d : Dev} (h : DevOk n B d) (hw : ∀ w ∈ ws, U64 w), DevOk n (B + (ws.length : Int)) (putAll d k ws).2
  | [], B, k, d, h, _ => h.up (by simp)
  | w :: ws, B, k, d, h, hw => by
    have h1 := store_ok (k := k) h (hw w (by simp))
    unfold putAll
    split
    · exact (put_ok h1 fun x hx => hw x (by simp [hx])).up (by simp only [List.length_cons]; omega)
    · exact h1.up (by simp only [List.length_cons]; omega)
theorem store_loop {fu n : Nat} {line first : Int} {ws : List Int} (hn : n ≤ 100000) (hw : ∀ w ∈ ws, U64 w) (hl : ws.length ≤ 1000) (hline : 0 ≤ line ∧ line ≤ 100000) (hfirst : 0 ≤ first ∧ first ≤ 1000) : ∀ (r j : Nat) (B : Int) (d : Dev) (k : Nat), j + r = ws.length → DevOk n B d → B + (r : Int) < 9223372036854775807 → r < k →
    loopM (press_store.s0 fu line first ws) k (tup (j : Int) d) = some (if (putAll d (8 * line + first + (j : Int)) (ws.drop j)).1 = 0 then .inr ((putAll d (8 * line + first + (j : Int)) (ws.drop j)).2.cells, (putAll d (8 * line + first + (j : Int)) (ws.drop j)).2.plan.list, (putAll d (8 * line + first + (j : Int)) (ws.drop j)).2.plan.at_, (putAll d (8 * line + first + (j : Int)) (ws.drop j)).2.off, (putAll d (8 * line + first + (j : Int)) (ws.drop j)).2.armed, (putAll d (8 * line + first + (j : Int)) (ws.drop j)).2.left, (putAll d (8 * line + first + (j : Int)) (ws.drop j)).2.steps) else .inl (putAll d (8 * line + first + (j : Int)) (ws.drop j)))
  | r, j, B, d, 0, hj, h, hB, hk => by omega
  | 0, j, B, d, k + 1, hj, h, hB, hk => by
    unfold loopM
    have : j = ws.length := by omega
    subst this
    unfold press_store.s0 tup
    rw [decide_eq_false (show ¬ ((ws.length : Int) < (ws.length : Int)) by omega), if_neg (by decide), List.drop_of_length_le (Nat.le_refl _)]
    rfl
  | r + 1, j, B, d, k + 1, hj, h, hB, hk => by
    have hjl : j < ws.length := by omega
    have hu := hw _ (List.getElem_mem hjl)
    have hst : pmem_Device_Store.f fu d (8 * line + first + (j : Int)) ws[j] = some (storeD d (8 * line + first + (j : Int)) ws[j]) := store_eq h (by omega) hu
    have w1 : IntKind.i64.wrap (line * 8) = 8 * line := by rw [w64 (by omega) (by omega)]; omega
    have w2 : IntKind.i64.wrap (8 * line + first) = 8 * line + first := w64 (by omega) (by omega)
    have w3 : IntKind.i64.wrap (8 * line + first + (j : Int)) = 8 * line + first + (j : Int) := w64 (by omega) (by omega)
    have hd : ws.drop j = ws[j] :: ws.drop (j + 1) := List.drop_eq_getElem_cons hjl
    unfold loopM
    have hs : press_store.s0 fu line first ws (tup (j : Int) d) = some (if (storeD d (8 * line + first + (j : Int)) ws[j]).1 = 0 then .inr (tup ((j + 1 : Nat) : Int) (storeD d (8 * line + first + (j : Int)) ws[j]).2) else .inl (.inl (storeD d (8 * line + first + (j : Int)) ws[j]))) := by
      unfold press_store.s0 tup
      simp only [eta, w1, w2, w3]
      rw [decide_eq_true (show (j : Int) < (ws.length : Int) by omega), if_pos rfl, if_pos (by omega), ix_nat hjl, hst, next64 hjl (by omega)]
      simp only [Option.bind_some]
      by_cases e : (storeD d (8 * line + first + (j : Int)) ws[j]).1 = 0
      · rw [decide_eq_true e, if_neg (by decide), if_pos e]
      · rw [decide_eq_false e, if_pos (by decide), if_neg e]
    rw [hs, hd]
    unfold putAll
    by_cases e : (storeD d (8 * line + first + (j : Int)) ws[j]).1 = 0
    · have ih := store_loop (fu := fu) (n := n) (line := line) (first := first) hn hw hl hline hfirst r (j + 1) (B + 1) (storeD d (8 * line + first + (j : Int)) ws[j]).2 k (by omega) (store_ok h hu) (by omega) (by omega)
      rw [show 8 * line + first + ((j + 1 : Nat) : Int) = 8 * line + first + (j : Int) + 1 from by omega] at ih
      rw [if_pos e, if_pos e]
      exact ih
    · rw [if_neg e, if_neg e]
      simp only [e, if_false]
theorem send_eq {fu n : Nat} {B line first : Int} {ws : List Int} {d : Dev} (h : DevOk n B d) (hB : B + (ws.length : Int) + 1 < 9223372036854775807) (hn : n ≤ 100000) (hw : ∀ w ∈ ws, U64 w) (hl : ws.length ≤ 1000) (hline : 0 ≤ line ∧ line ≤ 100000) (hfirst : 0 ≤ first ∧ first ≤ 1000) (hf : 2000 < fu) : press_store.f fu d line first ws = some (sendD d line first ws) := by
  unfold press_store.f sendD
  have h1 := store_loop (fu := fu) hn hw hl hline hfirst ws.length 0 B d fu (by omega) h (by omega) (by omega)
  unfold tup at h1
  simp only [List.drop_zero, Int.natCast_zero, Int.add_zero] at h1
  have h2 := put_ok (k := 8 * line + first) h hw
  rw [h1]
  by_cases e : (putAll d (8 * line + first) ws).1 = 0
  · rw [if_pos e, if_pos e]
    simp only [Option.bind_some, eta]
    rw [flush_eq h2 (by omega) (by omega) (by omega)]
    rfl
  · rw [if_neg e, if_neg e]
    rfl
theorem pmay_eq {fu : Nat} {d : Dev} {k : Int} (hl : d.cells.length ≤ 1000000) : press_may.f fu d k = some (if inL d k then 0 else 2) := by
  unfold press_may.f
  rw [lines_eq hl]
  by_cases h1 : k < 0
  · rw [decide_eq_true h1, if_neg (show ¬ inL d k from fun q => by have := q.1; omega)]
    rfl
  · rw [decide_eq_false h1, if_neg (by decide)]
    simp only [Option.bind_some]
    by_cases h2 : k ≥ ((d.cells.length / 8 : Nat) : Int)
    · rw [decide_eq_true h2, if_neg (show ¬ inL d k from fun q => by have := q.2; omega)]
      rfl
    · rw [decide_eq_false h2, if_pos (show inL d k from ⟨by omega, by omega⟩)]
      rfl
theorem write_eq {fu n : Nat} {B line : Int} {b : List Int} {d : Dev} (h : DevOk n B d) (hB : B + 9 < 9223372036854775807) (hn : n ≤ 100000) (hb : Bytes b) (hf : 2000 < fu) : press_Write.f fu d line b = some (writeD d line b) := by
  unfold press_Write.f writeD
  have hlen := h.len
  rw [pmay_eq (by omega)]
  simp only [Option.bind_some]
  by_cases hi : inL d line
  · rw [if_pos hi, if_neg (by decide)]
    by_cases hl : b.length = 64
    · have hw := words_U64 (n := 8) hb
      unfold inL at hi
      rw [decide_eq_true (show (b.length : Int) = 64 by omega), if_neg (by decide), if_pos ⟨hi, hl⟩, words_eq (n := 8) hb (by omega) (by decide) (by omega)]
      simp only [Option.bind_some]
      rw [send_eq h (by rw [wordsU_len]; omega) hn hw (by rw [wordsU_len]; decide) (by omega) (by decide) hf]
      rfl
    · rw [decide_eq_false (show ¬ (b.length : Int) = 64 by omega), if_pos (by decide), if_neg (fun q => hl q.2)]
  · rw [if_neg hi, if_pos (by decide), if_neg (fun q => hi q.1)]
theorem word_eq {fu n : Nat} {B line i w : Int} {d : Dev} (h : DevOk n B d) (hB : B + 9 < 9223372036854775807) (hn : n ≤ 100000) (hw : U64 w) (hf : 2000 < fu) : press_Word.f fu d line i w = some (wordD d line i w) := by
  unfold press_Word.f wordD
  have hlen := h.len
  rw [pmay_eq (by omega)]
  simp only [Option.bind_some]
  by_cases hi : inL d line
  · rw [if_pos hi, if_neg (by decide)]
    by_cases hl : 0 ≤ i ∧ i < 8
    · have hw1 : ∀ x ∈ [w], U64 x := fun x hx => by rw [List.mem_singleton.1 hx]; exact hw
      rw [decide_eq_false (show ¬ i < 0 by omega), decide_eq_false (show ¬ i ≥ 8 by omega), if_neg (by decide), if_pos ⟨hi, hl⟩]
      unfold inL at hi
      rw [send_eq h (by simp only [List.length_cons, List.length_nil]; omega) hn hw1 (by simp) (by omega) (by omega) hf]
      rfl
    · have : (if (decide (i < 0)) = true then true else (decide (i ≥ 8))) = true := by
        by_cases h1 : i < 0
        · rw [decide_eq_true h1, if_pos rfl]
        · rw [decide_eq_false h1, if_neg (by decide), decide_eq_true (by omega)]
      rw [if_pos this, if_neg (fun q => hl q.2)]
  · rw [if_neg hi, if_pos (by decide), if_neg (fun q => hi q.1)]
theorem sure_eq {fu n : Nat} {B : Int} {d : Dev} (h : DevOk n B d) (hB : B < 9223372036854775807) (hn : n ≤ 100000) (hf : n < fu) : press_Sure.f fu d = some (fenceD d) := by
  unfold press_Sure.f
  rw [fence_eq h hB (by omega) hf]
  rfl
theorem arr_set8 (a : Arr 8 Int) (j : Nat) (v : Int) (hj : j < 8) (f : Nat → Int) (hf : ∀ i, i < j → ix a.l (i : Int) = f i) (hv : v = f j) : ∀ i, i < j + 1 → ix (Arr.set a (j : Int) v).l (i : Int) = f i := by
  intro i hi
  have hl := a.h
  have e : (Arr.set a (j : Int) v).l = a.l.set j v := by simp [Arr.set]
  rw [e, ix_nat (by rw [List.length_set]; omega), List.getElem_set]
  by_cases h : j = i
  · subst h
    rw [if_pos rfl, hv]
  · rw [if_neg h, ← ix_nat (by omega)]
    exact hf i (by omega)
theorem read_dev {fu n : Nat} {B line : Int} {d : Dev} (h : DevOk n B d) (hn : n ≤ 100000) (hf : 2000 < fu) : press_Read.f fu d line = some (readD d line) := by
  unfold press_Read.f readD
  have hlen := h.len
  rw [pmay_eq (by omega)]
  simp only [Option.bind_some]
  by_cases hi : inL d line
  · rw [if_pos hi, if_neg (by decide), if_pos hi]
    have hin := hi
    unfold inL at hin
    have w1 : IntKind.i64.wrap (line * 8) = 8 * line := by rw [w64 (by omega) (by omega)]; omega
    have hld : ∀ j : Nat, j < 8 → pmem_Device_Load.f fu d (8 * line + (j : Int)) = some (if d.off = true then (0, 3) else ((ix d.cells (8 * line + (j : Int))).stored, 0)) := by
      intro j hj
      rw [load_eq]
      unfold loadD
      cases ho : d.off
      · rw [if_pos (may_zero.2 ⟨rfl, by omega, by omega⟩), if_neg (by decide)]
      · have : mayI true (8 * line + (j : Int)) (d.cells.length : Int) = 3 := rfl
        rw [this, if_neg (by decide), if_pos rfl]
    cases ho : d.off
    · rw [if_neg (by decide)]
      have loop : ∃ e, loopM (press_Read.s0 fu d line) fu (0, Arr.rep 8 (0 : Int)) = some e ∧ ∃ a : Arr 8 Int, e = .inr a ∧ ∀ i : Nat, i < 8 → ix a.l (i : Int) = (ix d.cells (8 * line + (i : Int))).stored := by
        refine loopM_inv (fun j s => ∃ a : Arr 8 Int, s = ((j : Int), a) ∧ ∀ i : Nat, i < j → ix a.l (i : Int) = (ix d.cells (8 * line + (i : Int))).stored) 8 _ ?_ ?_ (j := 0) ⟨_, rfl, fun i hi => by omega⟩ (by omega) (by omega)
        · rintro j _ hj ⟨a, rfl, ha⟩
          unfold press_Read.s0
          have w3 : IntKind.i64.wrap (8 * line + (j : Int)) = 8 * line + (j : Int) := w64 (by omega) (by omega)
          simp only [w1, w3]
          rw [decide_eq_true (show (j : Int) < 8 by omega), if_pos rfl, hld j hj, ho, if_neg (by decide), next64 hj (by decide)]
          simp only [Option.bind_some, decide_true, Bool.not_true, Bool.false_eq_true, if_false]
          rw [if_pos (by omega)]
          exact ⟨_, rfl, _, rfl, arr_set8 a j _ hj (fun i => (ix d.cells (8 * line + (i : Int))).stored) ha rfl⟩
        · rintro _ ⟨a, rfl, ha⟩
          unfold press_Read.s0
          rw [decide_eq_false (show ¬ (((8 : Nat) : Int) < 8) by decide), if_neg (by decide)]
          exact ⟨_, rfl, a, rfl, ha⟩
      obtain ⟨e, h1, a, rfl, ha⟩ := loop
      have hal : a.l = lineC d line := by
        apply List.ext_getElem (by rw [a.h]; simp [lineC])
        intro i h1 h2
        have : i < 8 := by rw [a.h] at h1; exact h1
        rw [← ix_nat h1, ha i this]
        simp [lineC]
      have hu : ∀ w ∈ lineC d line, U64 w := by
        intro w hw
        obtain ⟨i, hi8, rfl⟩ := List.mem_map.1 hw
        have := List.mem_range.1 hi8
        obtain ⟨p, hp⟩ : ∃ p : Nat, 8 * line + (i : Int) = (p : Int) := ⟨(8 * line + (i : Int)).toNat, by omega⟩
        rw [hp, ix_nat (by omega)]
        exact (h.val _ (List.getElem_mem _)).2.1
      rw [h1]
      simp only [Option.bind_some]
      rw [hal, octets_eq hu (by simp [lineC]) (by simp [lineC]; omega)]
      rfl
    · rw [if_pos rfl]
      have loop : loopM (press_Read.s0 fu d line) fu (0, Arr.rep 8 (0 : Int)) = some (.inl ([], 3)) := by
        obtain ⟨k, rfl⟩ : ∃ k, fu = k + 1 := ⟨fu - 1, by omega⟩
        unfold loopM
        have := hld 0 (by decide)
        rw [ho, if_pos rfl] at this
        unfold press_Read.s0
        have w3 : IntKind.i64.wrap (8 * line + 0) = 8 * line + ((0 : Nat) : Int) := by rw [w64 (by omega) (by omega)]; rfl
        simp only [w1, w3]
        rw [this]
        rfl
      rw [loop]
      rfl
  · rw [if_neg hi, if_pos (by decide), if_neg hi]
theorem lineL_cut {d : Dev} {k : Nat} (h : 8 * k + 8 ≤ d.cells.length) : cut (lastsD d) ((8 * k : Nat) : Int) ((8 * k + 8 : Nat) : Int) = lineL d (k : Int) := by
  have hl : (lastsD d).length = d.cells.length := by simp [lastsD]
  apply List.ext_getElem
  · rw [cut_len' (by omega)]
    simp [lineL]
  · intro i h1 h2
    have hi : i < 8 := by simpa [lineL] using h2
    rw [cut_get h1 (by omega)]
    simp only [lastsD, lineL, List.getElem_map, List.getElem_range]
    rw [show 8 * (k : Int) + (i : Int) = ((8 * k + i : Nat) : Int) from by omega, ix_nat (by omega)]
theorem plasts_eq {fu n : Nat} {B line : Int} {d : Dev} (h : DevOk n B d) (hn : n ≤ 100000) (hf : n + 2000 < fu) : press_Lasts.f fu d line = some (if inL d line then (octs (lineL d line), true) else ([], false)) := by
  unfold press_Lasts.f
  have hlen := h.len
  rw [pmay_eq (by omega)]
  simp only [Option.bind_some]
  by_cases hi : inL d line
  · rw [if_pos hi, if_neg (by decide), if_pos hi]
    have hin := hi
    unfold inL at hin
    obtain ⟨k, rfl⟩ : ∃ k : Nat, line = (k : Int) := ⟨line.toNat, by omega⟩
    have hk : 8 * k + 8 ≤ d.cells.length := by omega
    have w1 : IntKind.i64.wrap ((k : Int) * 64) = ((8 * (8 * k) : Nat) : Int) := by rw [w64 (by omega) (by omega)]; omega
    have hol : (octs (lastsD d)).length = 8 * d.cells.length := by rw [octs_len, lastsD, List.length_map]
    rw [image_eq h hn (by omega)]
    simp only [Option.bind_some, w1]
    rw [if_pos (by omega)]
    have e1 : List.take (List.length (List.replicate (Int.toNat 64) (0 : Int))) (cut (octs (lastsD d)) ((8 * (8 * k) : Nat) : Int) ((octs (lastsD d)).length : Int)) = octs (lineL d (k : Int)) := by
      rw [← lineL_cut hk, ← octs_cut, List.length_replicate]
      unfold cut
      rw [Int.toNat_natCast, Int.toNat_natCast, Int.toNat_natCast, List.take_length, List.drop_take]
      congr 1
      show 64 = _
      omega
    have e2 : splL (List.replicate (Int.toNat 64) (0 : Int)) 0 (octs (lineL d (k : Int))) = octs (lineL d (k : Int)) := by
      unfold splL
      have : (octs (lineL d (k : Int))).length = 64 := by rw [octs_len]; simp [lineL]
      rw [this]
      simp
    rw [e1, e2]
  · rw [if_neg hi, if_pos (by decide), if_neg hi]
theorem fates_len (d : Dev) : ∀ j, j ≤ d.cells.length → (fatesU d j).length = opens d.cells j
  | 0, _ => by simp [fatesU, opens]
  | j + 1, h => by
    have hj : j < d.cells.length := by omega
    rw [fatesU_succ, opens_succ hj, List.length_append, fates_len d j (by omega), ix_nat hj]
    split <;> rfl
theorem opens_mono {cs : List Cell} {p : Nat} : ∀ {q : Nat}, p ≤ q → q ≤ cs.length → opens cs p ≤ opens cs q
  | 0, h, _ => by
    have : p = 0 := by omega
    rw [this]
    exact Nat.le_refl _
  | q + 1, h, hq => by
    by_cases e : p = q + 1
    · rw [e]
      exact Nat.le_refl _
    · have := opens_mono (cs := cs) (p := p) (q := q) (by omega) (by omega)
      rw [opens_succ (by omega)]
      omega
theorem opens_lt {cs : List Cell} {p q : Nat} (h : p < q) (hq : q ≤ cs.length) (ho : openC (ix cs (p : Int)) = true) : opens cs p < opens cs q := by
  have h1 := opens_mono (cs := cs) (p := p + 1) (q := q) (by omega) hq
  rw [opens_succ (show p < cs.length by omega), ← ix_nat (l := cs) (show p < cs.length by omega), ho, if_pos rfl] at h1
  omega
theorem opens_inj {cs : List Cell} {p q : Nat} (hp : p < cs.length) (hq : q < cs.length) (op : openC (ix cs (p : Int)) = true) (oq : openC (ix cs (q : Int)) = true) (e : opens cs p = opens cs q) : p = q := by
  rcases Nat.lt_trichotomy p q with h | h | h
  · have := opens_lt h (by omega) op
    omega
  · exact h
  · have := opens_lt h (by omega) oq
    omega
/-- The i-th fate is that of the i-th open word. -/
theorem fates_at (d : Dev) : ∀ j, j ≤ d.cells.length → ∀ i, i < (fatesU d j).length → ∃ p : Nat, p < j ∧ openC (ix d.cells (p : Int)) = true ∧ opens d.cells p = i ∧ ix (fatesU d j) (i : Int) = fateD d p
  | 0, _, i, h => by simp [fatesU] at h
  | j + 1, hj, i, h => by
    have hjl : j < d.cells.length := by omega
    have hl := fates_len d j (by omega)
    have e := fatesU_succ d j
    by_cases hi : i < (fatesU d j).length
    · obtain ⟨p, h1, h2, h3, h4⟩ := fates_at d j (by omega) i hi
      refine ⟨p, by omega, h2, h3, ?_⟩
      rw [← h4, ix_nat h, ix_nat hi]
      simp only [e]
      rw [List.getElem_append_left hi]
    · cases ho : openC (ix d.cells (j : Int))
      · rw [e, ho] at h
        simp at h
        omega
      · have h' := h
        rw [e, ho, if_pos rfl, List.length_append] at h'
        simp only [List.length_cons, List.length_nil] at h'
        have hi2 : i = (fatesU d j).length := by omega
        refine ⟨j, by omega, ho, by omega, ?_⟩
        rw [ix_nat h]
        simp only [e, ho, if_true]
        rw [List.getElem_append_right (by omega)]
        simp [hi2]
theorem value_eq {fu : Nat} {f : S_api_Fate} {n : Int} (hn : I64 n) : rickyardref05_Value.f fu f n = some (if n % 3 = 2 then f.Stored else if n % 3 = 1 ∧ f.Flushed = true then f.Sent else f.Lasts) := by
  unfold rickyardref05_Value.f
  rw [rest7_eq hn (by decide)]
  simp only [Option.bind_some]
  by_cases h2 : n % 3 = 2
  · rw [decide_eq_true h2, if_pos rfl, if_pos h2]
  · rw [decide_eq_false h2, if_neg (by decide), if_neg h2]
    by_cases h1 : n % 3 = 1
    · rw [decide_eq_true h1]
      cases f.Flushed <;> simp [h1]
    · rw [decide_eq_false h1]
      simp [h1]
theorem value_fate {fu : Nat} {d : Dev} {p : Nat} {n : Int} (hn : I64 n) : rickyardref05_Value.f fu (fateD d p) n = some (fateC (ix d.cells (p : Int)) n) := value_eq hn
theorem crash_get {d : Dev} {l : List Int} {p : Nat} (hp : p < d.cells.length) : ix (crashD d l).cells (p : Int) = crashC (ix d.cells (p : Int)) (l.getD (opens d.cells p) 0) := ix_mapIdx (g := fun i c => crashC c (l.getD (opens d.cells i) 0)) hp
theorem getD_I64 {l : List Int} (h : ∀ x ∈ l, I64 x) (i : Nat) : I64 (l.getD i 0) := by
  by_cases hi : i < l.length
  · rw [getD_of _ _ _ hi]
    exact h _ (List.getElem_mem hi)
  · rw [List.getD_eq_getElem?_getD, List.getElem?_eq_none (by omega)]
    unfold I64
    simp
/-- Behind a crash no word is open. -/
theorem crash_shut {d : Dev} {l : List Int} {p : Nat} (hp : p < d.cells.length) : openC (ix (crashD d l).cells (p : Int)) = false ∧ (ix (crashD d l).cells (p : Int)).stored = (ix (crashD d l).cells (p : Int)).lasts := by
  rw [crash_get hp]
  unfold crashC
  cases ho : openC (ix d.cells (p : Int))
  · rw [if_neg (by decide)]
    have : (ix d.cells (p : Int)).flushed = false := by
      unfold openC at ho
      cases hf : (ix d.cells (p : Int)).flushed
      · rfl
      · rw [hf] at ho
        cases ho
    refine ⟨?_, rfl⟩
    unfold openC
    simp [this]
  · rw [if_pos rfl]
    refine ⟨?_, rfl⟩
    unfold openC
    simp
theorem crash_view {d : Dev} {l : List Int} : storedD (crashD d l) = lastsD (crashD d l) := by
  unfold storedD lastsD
  apply List.ext_getElem (by simp)
  intro p h1 h2
  have hp : p < d.cells.length := by simpa [crashD, crashL] using h1
  have hp2 : p < (crashD d l).cells.length := by simpa using h1
  rw [List.getElem_map, List.getElem_map, ← ix_nat hp2]
  exact (crash_shut hp).2
abbrev Ref := S_rickyardref05_Device
def sentD (d : Dev) : List Int := d.cells.map fun c => c.sent
def flushedD (d : Dev) : List Bool := d.cells.map fun c => c.flushed
/-- The document's device of the same state; s: how many steps there were since the plan was laid. -/
def toM (d : Dev) (s : Int) : Ref := ⟨lastsD d, storedD d, sentD d, flushedD d, d.plan.list, s, if d.armed = true then d.left else -1, d.steps⟩
/-- Where the plan stands. -/
def Since (d : Dev) (s : Int) : Prop := d.plan.list.length ≠ 0 → d.plan.at_ = s % (d.plan.list.length : Int)
theorem set_same {α : Type} [Inhabited α] (l : List α) (k : Nat) (h : k < l.length) : l.set k (ix l (k : Int)) = l := by
  rw [ix_nat h]
  exact List.set_getElem_self h
theorem ix_map' {α β : Type} [Inhabited α] [Inhabited β] (f : α → β) (cs : List α) (k : Nat) (h : k < cs.length) : ix (cs.map f) (k : Int) = f (ix cs (k : Int)) := by
  rw [ix_nat (by simpa using h), ix_nat h, List.getElem_map]
theorem evict_set {cs : List Cell} {p : Int} {k : Nat} (hp : 0 ≤ p) (hk : p % (cs.length : Int) = (k : Int)) (hl : k < cs.length) : evict p cs = cs.set k (keepC (ix cs (k : Int)) (ix cs (k : Int)).stored) := by
  rw [set_upd (fun c => keepC c c.stored) hl]
  apply List.ext_getElem (by simp [evict])
  intro i h1 h2
  simp only [evict, List.getElem_mapIdx, hk]
  by_cases e : i = k
  · rw [if_pos e, if_pos ⟨hp, by omega⟩]
  · rw [if_neg e, if_neg fun z => e (by omega)]
theorem stored_keep {cs : List Cell} {k : Nat} {w : Int} (hl : k < cs.length) : (cs.set k (keepC (ix cs (k : Int)) w)).map (fun c => c.stored) = cs.map fun c => c.stored := by
  rw [List.map_set]
  have : (keepC (ix cs (k : Int)) w).stored = ix (cs.map fun c => c.stored) (k : Int) := by rw [ix_map' _ _ _ hl]; rfl
  rw [this, set_same _ _ (by simpa using hl)]
/-- One value lasts. -/
theorem rlast_eq {fu : Nat} {cs : List Cell} {k : Nat} {w : Int} {pl : List Int} {s le st : Int} (hl : k < cs.length) :
    rickyardref05_Device_last.f fu (⟨cs.map (fun c => c.lasts), cs.map (fun c => c.stored), cs.map (fun c => c.sent), cs.map (fun c => c.flushed), pl, s, le, st⟩ : Ref) (k : Int) w = some (⟨(cs.set k (keepC (ix cs (k : Int)) w)).map (fun c => c.lasts), (cs.set k (keepC (ix cs (k : Int)) w)).map (fun c => c.stored), (cs.set k (keepC (ix cs (k : Int)) w)).map (fun c => c.sent), (cs.set k (keepC (ix cs (k : Int)) w)).map (fun c => c.flushed), pl, s, le, st⟩ : Ref) := by
  unfold rickyardref05_Device_last.f
  simp only [List.length_map]
  rw [if_pos (by omega), if_pos (by omega), if_pos (by omega), Int.toNat_natCast, stored_keep hl, List.map_set, List.map_set, List.map_set]
  rfl
theorem rdstep_eq {fu n : Nat} {B s : Int} {d : Dev} (h : DevOk n B d) (hB : B < 9223372036854775807) (hs : 0 ≤ s ∧ s < 9223372036854775807) (hS : Since d s) (ho : d.off = false) : rickyardref05_Device_step.f fu (toM d s) = some (toM (tick d) (s + 1)) := by
  unfold rickyardref05_Device_step.f toM
  simp only []
  have hst := h.st
  have w1 : IntKind.i64.wrap (d.steps + 1) = d.steps + 1 := w64 (by omega) (by omega)
  have w2 : IntKind.i64.wrap (s + 1) = s + 1 := w64 (by omega) (by omega)
  have hll : (lastsD d).length = d.cells.length := by simp [lastsD]
  have hsl : (storedD d).length = d.cells.length := by simp [storedD]
  -- what is evicted
  have hA : ∀ (E : List Cell), E = evict (pick d.plan) d.cells →
      ((if (if (decide ((List.length d.plan.list : Int) > 0)) = true then (decide ((List.length (lastsD d) : Int) > 0)) else false) = true then (if (List.length d.plan.list : Int) ≠ 0 then (if 0 ≤ (Int.tmod s (List.length d.plan.list : Int)) ∧ (Int.tmod s (List.length d.plan.list : Int)) < (List.length d.plan.list : Int) then (((if (decide ((ix d.plan.list (Int.tmod s (List.length d.plan.list : Int))) ≥ 0)) = true then (if (List.length (lastsD d) : Int) ≠ 0 then (if (List.length (lastsD d) : Int) ≠ 0 then (if 0 ≤ (Int.tmod (ix d.plan.list (Int.tmod s (List.length d.plan.list : Int))) (List.length (lastsD d) : Int)) ∧ (Int.tmod (ix d.plan.list (Int.tmod s (List.length d.plan.list : Int))) (List.length (lastsD d) : Int)) < (List.length (storedD d) : Int) then ((rickyardref05_Device_last.f fu (⟨lastsD d, storedD d, sentD d, flushedD d, d.plan.list, s, if d.armed = true then d.left else -1, d.steps⟩ : Ref) (Int.tmod (ix d.plan.list (Int.tmod s (List.length d.plan.list : Int))) (List.length (lastsD d) : Int)) (ix (storedD d) (Int.tmod (ix d.plan.list (Int.tmod s (List.length d.plan.list : Int))) (List.length (lastsD d) : Int))) : Option S_rickyardref05_Device).bind fun t86 => some (t86.Lasts, t86.Stored, t86.Sent, t86.Flushed, t86.Plan, t86.Since, t86.Left, t86.Steps)) else none) else none) else none) else some (lastsD d, storedD d, sentD d, flushedD d, d.plan.list, s, (if d.armed = true then d.left else -1), d.steps)) : Option ((List Int) × (List Int) × (List Int) × (List Bool) × (List Int) × Int × Int × Int)).bind fun x53 => some (x53.1, x53.2.1, x53.2.2.1, x53.2.2.2.1, x53.2.2.2.2.1, x53.2.2.2.2.2.1, x53.2.2.2.2.2.2.1, x53.2.2.2.2.2.2.2)) else none) else none) else some (lastsD d, storedD d, sentD d, flushedD d, d.plan.list, s, (if d.armed = true then d.left else -1), d.steps)) : Option ((List Int) × (List Int) × (List Int) × (List Bool) × (List Int) × Int × Int × Int))
      = some (E.map (fun c => c.lasts), E.map (fun c => c.stored), E.map (fun c => c.sent), E.map (fun c => c.flushed), d.plan.list, s, (if d.armed = true then d.left else -1), d.steps) := by
    rintro E rfl
    by_cases z : d.plan.list.length = 0
    · have z' : ¬ ((List.length d.plan.list : Int) > 0) := by omega
      rw [decide_eq_false z', if_neg (by simp)]
      have : pick d.plan = -1 := by unfold pick; rw [if_pos z]
      rw [this, evict_no _ (by decide)]
      rfl
    · have z' : (List.length d.plan.list : Int) > 0 := by omega
      have z2 : (List.length d.plan.list : Int) ≠ 0 := by omega
      rw [decide_eq_true z', if_pos rfl]
      by_cases zc : d.cells = []
      · have : ¬ ((List.length (lastsD d) : Int) > 0) := by rw [hll, zc]; decide
        rw [decide_eq_false this, if_neg (by simp), zc, evict_nil]
        simp [lastsD, storedD, sentD, flushedD, zc]
      · have hc0 : 0 < d.cells.length := List.length_pos_iff.2 zc
        have c1 : (List.length (lastsD d) : Int) > 0 := by rw [hll]; omega
        rw [decide_eq_true c1, if_pos rfl, if_pos z2, Int.tmod_eq_emod_of_nonneg hs.1]
        have m0 := Int.emod_nonneg s z2
        have m1 := Int.emod_lt_of_pos s z'
        rw [if_pos ⟨m0, m1⟩]
        have hpk : pick d.plan = ix d.plan.list (s % (d.plan.list.length : Int)) := by
          unfold pick
          rw [if_neg z, hS z]
        rw [← hpk]
        by_cases hp : pick d.plan ≥ 0
        · rw [decide_eq_true hp, if_pos rfl, Int.tmod_eq_emod_of_nonneg hp]
          have c2 : (List.length (lastsD d) : Int) ≠ 0 := by omega
          rw [if_pos c2, if_pos c2, hll, hsl]
          have n0 := Int.emod_nonneg (pick d.plan) (show (d.cells.length : Int) ≠ 0 by omega)
          have n1 := Int.emod_lt_of_pos (pick d.plan) (show (d.cells.length : Int) > 0 by omega)
          rw [if_pos ⟨n0, n1⟩]
          obtain ⟨k, hk⟩ : ∃ k : Nat, pick d.plan % (d.cells.length : Int) = (k : Int) := ⟨(pick d.plan % (d.cells.length : Int)).toNat, by omega⟩
          have hkl : k < d.cells.length := by omega
          have e1 : ix (storedD d) (k : Int) = (ix d.cells (k : Int)).stored := ix_map' _ _ _ hkl
          rw [hk, e1, evict_set hp hk hkl]
          have := rlast_eq (fu := fu) (cs := d.cells) (w := (ix d.cells (k : Int)).stored) (pl := d.plan.list) (s := s) (le := if d.armed = true then d.left else -1) (st := d.steps) hkl
          unfold lastsD storedD sentD flushedD
          rw [this]
          rfl
        · rw [decide_eq_false hp, if_neg (by decide), evict_no _ hp]
          rfl
  rw [hA _ rfl]
  simp only [Option.bind_some, w1, w2]
  have hl : (if d.armed = true then d.left else -1) > 0 ↔ d.armed = true := by
    cases ha : d.armed
    · simp
    · have := h.arm ha
      rw [ho] at this
      have : d.left ≠ 0 := of_decide_eq_false this.2.2.symm
      simp
      omega
  have np : (nextP d.plan).list = d.plan.list := by unfold nextP; split <;> rfl
  cases ha : d.armed
  · simp [tick, lastsD, storedD, sentD, flushedD, ha, np]
  · have h3 := h.arm ha
    have : d.left > 0 := by
      have := hl.2 ha
      rwa [ha, if_pos rfl] at this
    rw [if_pos rfl, decide_eq_true this, if_pos rfl, w64 (by omega) (by omega)]
    simp [tick, lastsD, storedD, sentD, flushedD, ha, np]
theorem rerror_eq {fu n : Nat} {B s k m : Int} {d : Dev} (h : DevOk n B d) : rickyardref05_Device_error.f fu (toM d s) k m = some (mayI d.off k m) := by
  unfold rickyardref05_Device_error.f mayI toM
  have hl : (if d.armed = true then d.left else -1) = 0 ↔ d.off = true := by
    cases ha : d.armed
    · have := h.una ha
      simp [this]
    · have := (h.arm ha).2.2
      rw [this]
      simp
  simp only []
  by_cases e : d.off = true
  · rw [decide_eq_true (hl.2 e), if_pos rfl, if_pos e]
  · rw [decide_eq_false (fun q => e (hl.1 q)), if_neg (by decide), if_neg e]
    by_cases h1 : k < 0
    · simp [h1]
    · by_cases h2 : k ≥ m <;> simp [h1, h2]
theorem eta8 {m : Ref} : (⟨m.Lasts, m.Stored, m.Sent, m.Flushed, m.Plan, m.Since, m.Left, m.Steps⟩ : Ref) = m := rfl
/-- How many steps there were since the plan was laid, behind a call. -/
def inc (b : Prop) [Decidable b] (s : Int) : Int := if b then s + 1 else s
theorem with_toM (d : Dev) (cs : List Cell) (s : Int) : toM (withC d cs) s = ⟨cs.map (fun c => c.lasts), cs.map (fun c => c.stored), cs.map (fun c => c.sent), cs.map (fun c => c.flushed), d.plan.list, s, if d.armed = true then d.left else -1, d.steps⟩ := rfl
theorem rstore_eq {fu n : Nat} {B s k w : Int} {d : Dev} (h : DevOk n B d) (hB : B < 9223372036854775807) (hs : 0 ≤ s ∧ s < 9223372036854775807) (hS : Since d s) (hw : U64 w) : rickyardref05_Device_Store.f fu (toM d s) k w = some ((storeD d k w).1, toM (storeD d k w).2 (inc (mayI d.off k (d.cells.length : Int) = 0) s)) := by
  unfold rickyardref05_Device_Store.f storeD inc
  have hll : (toM d s).Lasts.length = d.cells.length := by simp [toM, lastsD]
  rw [hll, rerror_eq h]
  simp only [Option.bind_some]
  by_cases e : mayI d.off k (d.cells.length : Int) = 0
  · obtain ⟨ho, h0, h1⟩ := may_zero.1 e
    have hsl : (toM d s).Stored.length = d.cells.length := by simp [toM, storedD]
    rw [decide_eq_true e, if_pos rfl, hsl, if_pos ⟨h0, h1⟩, if_pos e, if_pos e]
    obtain ⟨j, rfl⟩ : ∃ j : Nat, k = (j : Int) := ⟨k.toNat, by omega⟩
    have hj : j < d.cells.length := by omega
    have hput : putC (j : Int) w d.cells = d.cells.set j ⟨(ix d.cells (j : Int)).lasts, w, (ix d.cells (j : Int)).sent, (ix d.cells (j : Int)).flushed⟩ := by
      rw [set_upd (fun c => ⟨c.lasts, w, c.sent, c.flushed⟩) hj]
      apply List.ext_getElem (by simp [putC])
      intro i h1 h2
      simp only [putC, List.getElem_mapIdx, Int.natCast_inj]
    have e1 : (⟨(toM d s).Lasts, (List.set (toM d s).Stored (Int.toNat (j : Int)) w), (toM d s).Sent, (toM d s).Flushed, (toM d s).Plan, (toM d s).Since, (toM d s).Left, (toM d s).Steps⟩ : Ref) = toM (withC d (putC (j : Int) w d.cells)) s := by
      rw [with_toM, hput, List.map_set, List.map_set, List.map_set, List.map_set]
      have a1 : (ix d.cells (j : Int)).lasts = ix (d.cells.map fun c => c.lasts) (j : Int) := (ix_map' _ _ _ hj).symm
      have a2 : (ix d.cells (j : Int)).sent = ix (d.cells.map fun c => c.sent) (j : Int) := (ix_map' _ _ _ hj).symm
      have a3 : (ix d.cells (j : Int)).flushed = ix (d.cells.map fun c => c.flushed) (j : Int) := (ix_map' (fun c : Cell => c.flushed) _ _ hj).symm
      simp only []
      rw [a1, a2, a3, set_same _ _ (by simpa using hj), set_same _ _ (by simpa using hj), set_same _ _ (by simpa using hj)]
      rfl
    have hok : DevOk n B (withC d (putC (j : Int) w d.cells)) := with_ok h (by simp [putC, h.len]) (mapIdx_ok h.val fun i c hc => by
      split
      · exact ⟨hc.1, hw, hc.2.2⟩
      · exact hc)
    rw [e1, rdstep_eq hok hB hs hS ho]
    simp only [Option.bind_some, e]
  · rw [decide_eq_false e, if_neg (by decide), if_neg e, if_neg e]
    rfl
theorem rload_eq {fu n : Nat} {B s k : Int} {d : Dev} (h : DevOk n B d) : rickyardref05_Device_Load.f fu (toM d s) k = some (loadD d k) := by
  unfold rickyardref05_Device_Load.f loadD
  have hll : (toM d s).Lasts.length = d.cells.length := by simp [toM, lastsD]
  have hsl : (toM d s).Stored.length = d.cells.length := by simp [toM, storedD]
  rw [hll, hsl, rerror_eq h]
  simp only [Option.bind_some]
  by_cases e : mayI d.off k (d.cells.length : Int) = 0
  · obtain ⟨ho, h0, h1⟩ := may_zero.1 e
    rw [decide_eq_true e, if_pos e, if_neg (by decide), if_pos ⟨h0, h1⟩]
    obtain ⟨j, rfl⟩ : ∃ j : Nat, k = (j : Int) := ⟨k.toNat, by omega⟩
    have : ix (toM d s).Stored (j : Int) = (ix d.cells (j : Int)).stored := ix_map' _ _ _ (by omega)
    rw [this]
  · rw [decide_eq_false e, if_neg e, if_pos (by decide)]
theorem sendL_lasts (k : Int) (cs : List Cell) : (sendL k cs).map (fun c => c.lasts) = cs.map fun c => c.lasts := by
  apply List.ext_getElem (by simp [sendL])
  intro i h1 h2
  simp only [sendL, List.getElem_map, List.getElem_mapIdx]
  split <;> rfl
theorem sendL_stored (k : Int) (cs : List Cell) : (sendL k cs).map (fun c => c.stored) = cs.map fun c => c.stored := by
  apply List.ext_getElem (by simp [sendL])
  intro i h1 h2
  simp only [sendL, List.getElem_map, List.getElem_mapIdx]
  split <;> rfl
theorem upd_sendL {cs : List Cell} {k : Nat} : upd (fun _ c => sendC c) (8 * k) 8 cs = sendL (k : Int) cs := by
  apply List.ext_getElem (by simp [upd, sendL])
  intro i h1 h2
  simp only [upd, sendL, List.getElem_mapIdx]
  by_cases c : 8 * k ≤ i ∧ i < 8 * k + 8
  · rw [if_pos c, if_pos (by omega)]
  · rw [if_neg c, if_neg (by omega)]
theorem rflush_eq {fu n : Nat} {B s k : Int} {d : Dev} (h : DevOk n B d) (hB : B < 9223372036854775807) (hn : n ≤ 100000) (hf : 8 < fu) (hs : 0 ≤ s ∧ s < 9223372036854775807) (hS : Since d s) : rickyardref05_Device_Flush.f fu (toM d s) k = some ((flushD d k).1, toM (flushD d k).2 (inc (mayI d.off k ((d.cells.length / 8 : Nat) : Int) = 0) s)) := by
  unfold rickyardref05_Device_Flush.f flushD inc
  have hlen := h.len
  have hll : (toM d s).Lasts.length = d.cells.length := by simp [toM, lastsD]
  have e0 : IntKind.i64.wrap (Int.tdiv (d.cells.length : Int) 8) = ((d.cells.length / 8 : Nat) : Int) := by
    rw [Int.tdiv_eq_ediv_of_nonneg (by omega), w64 (by omega) (by omega)]
    omega
  rw [hll, e0, rerror_eq h]
  simp only [Option.bind_some]
  by_cases e : mayI d.off k ((d.cells.length / 8 : Nat) : Int) = 0
  · obtain ⟨ho, h0, h1⟩ := may_zero.1 e
    rw [decide_eq_true e, if_pos rfl, if_pos e, if_pos e]
    obtain ⟨j, rfl⟩ : ∃ j : Nat, k = (j : Int) := ⟨k.toNat, by omega⟩
    have w1 : IntKind.i64.wrap (8 * (j : Int)) = ((8 * j : Nat) : Int) := by rw [w64 (by omega) (by omega)]; omega
    have w2 : IntKind.i64.wrap (((8 * j : Nat) : Int) + 8) = ((8 * j + 8 : Nat) : Int) := by rw [w64 (by omega) (by omega)]; omega
    have loop : loopM (rickyardref05_Device_Flush.s1 fu (toM d s) (j : Int)) fu (((8 * j : Nat) : Int), (toM d s).Sent, (toM d s).Flushed) = some ((sendL (j : Int) d.cells).map (fun c => c.sent), (sendL (j : Int) d.cells).map (fun c => c.flushed)) := by
      refine loopM_run (S := fun i => (((8 * j + i : Nat) : Int), (upd (fun _ c => sendC c) (8 * j) i d.cells).map (fun c => c.sent), (upd (fun _ c => sendC c) (8 * j) i d.cells).map (fun c => c.flushed))) 8 (by rw [upd_zero]; rfl) ?_ ?_ hf
      · intro i hi
        unfold rickyardref05_Device_Flush.s1
        have w3 : IntKind.i64.wrap (((8 * j + i : Nat) : Int) + 1) = ((8 * j + (i + 1) : Nat) : Int) := by rw [w64 (by omega) (by omega)]; omega
        have hsl : (toM d s).Stored.length = d.cells.length := by simp [toM, storedD]
        have e1 : ix (toM d s).Stored ((8 * j + i : Nat) : Int) = (ix d.cells ((8 * j + i : Nat) : Int)).stored := ix_map' _ _ _ (by omega)
        have hu := upd_set (fun _ c => sendC c) (8 * j) i d.cells (by omega)
        simp only [w1, w2, w3, List.length_map, upd_len, hsl, e1]
        rw [decide_eq_true (show ((8 * j + i : Nat) : Int) < ((8 * j + 8 : Nat) : Int) by omega), if_pos rfl, if_pos (by omega), if_pos (by omega), if_pos (by omega), Int.toNat_natCast, ← hu, List.map_set, List.map_set, ix_nat (by omega)]
        rfl
      · unfold rickyardref05_Device_Flush.s1
        simp only [w1, w2]
        rw [decide_eq_false (show ¬ ((8 * j + 8 : Nat) : Int) < ((8 * j + 8 : Nat) : Int) by omega), if_neg (by decide), upd_sendL]
    rw [w1, loop]
    have hok : DevOk n B (withC d (sendL (j : Int) d.cells)) := with_ok h (by simp [sendL, h.len]) (sendL_ok h.val)
    have e1 : (⟨(toM d s).Lasts, (toM d s).Stored, (sendL (j : Int) d.cells).map (fun c => c.sent), (sendL (j : Int) d.cells).map (fun c => c.flushed), (toM d s).Plan, (toM d s).Since, (toM d s).Left, (toM d s).Steps⟩ : Ref) = toM (withC d (sendL (j : Int) d.cells)) s := by
      rw [with_toM, sendL_lasts, sendL_stored]
      rfl
    simp only [Option.bind_some]
    rw [e1, rdstep_eq hok hB hs hS ho]
    simp only [Option.bind_some, e]
  · rw [decide_eq_false e, if_neg (by decide), if_neg e, if_neg e]
    rfl
def tupM (i : Int) (m : Ref) := (i, m.Lasts, m.Stored, m.Sent, m.Flushed, m.Plan, m.Since, m.Left, m.Steps)
theorem rfence_eq {fu n : Nat} {B s : Int} {d : Dev} (h : DevOk n B d) (hB : B < 9223372036854775807) (hn : n ≤ 100000) (hf : n < fu) (hs : 0 ≤ s ∧ s < 9223372036854775807) (hS : Since d s) : rickyardref05_Device_Fence.f fu (toM d s) = some ((fenceD d).1, toM (fenceD d).2 (inc (d.off = false) s)) := by
  unfold rickyardref05_Device_Fence.f fenceD inc
  have hlen := h.len
  rw [rerror_eq h]
  simp only [Option.bind_some]
  cases ho : d.off
  · have e : mayI false 0 1 = 0 := by decide
    rw [e]
    have loop : loopM (rickyardref05_Device_Fence.s1 fu) fu (tupM 0 (toM d s)) = some ((toM (withC d (d.cells.map fenceC)) s).Lasts, (toM (withC d (d.cells.map fenceC)) s).Stored, (toM (withC d (d.cells.map fenceC)) s).Sent, (toM (withC d (d.cells.map fenceC)) s).Flushed, (toM (withC d (d.cells.map fenceC)) s).Plan, (toM (withC d (d.cells.map fenceC)) s).Since, (toM (withC d (d.cells.map fenceC)) s).Left, (toM (withC d (d.cells.map fenceC)) s).Steps) := by
      refine loopM_run (S := fun i => tupM (i : Int) (toM (withC d (upd (fun _ c => fenceC c) 0 i d.cells)) s)) d.cells.length (by rw [upd_zero]; rfl) ?_ ?_ (by omega)
      · intro j hj
        have hlt : j < (upd (fun _ c => fenceC c) 0 j d.cells).length := by rw [upd_len]; omega
        have hnx : ix (upd (fun _ c => fenceC c) 0 j d.cells) (j : Int) = d.cells[j] := by
          rw [ix_nat hlt, upd_get, if_neg (by omega)]
        have hu := upd_set (fun _ c => fenceC c) 0 j d.cells (by omega)
        have hsm := upd_same (fun _ c => fenceC c) 0 j d.cells (by omega)
        simp only [Nat.zero_add] at hu hsm
        have hl := rlast_eq (fu := fu) (cs := upd (fun _ c => fenceC c) 0 j d.cells) (w := d.cells[j].sent) (pl := d.plan.list) (s := s) (le := if d.armed = true then d.left else -1) (st := d.steps) hlt
        rw [hnx] at hl
        have e1 : ix ((upd (fun _ c => fenceC c) 0 j d.cells).map fun c => c.flushed) (j : Int) = d.cells[j].flushed := by rw [ix_map' (fun c : Cell => c.flushed) _ _ hlt, hnx]
        have e2 : ix ((upd (fun _ c => fenceC c) 0 j d.cells).map fun c => c.sent) (j : Int) = d.cells[j].sent := by rw [ix_map' _ _ _ hlt, hnx]
        unfold rickyardref05_Device_Fence.s1 tupM
        rw [with_toM, with_toM]
        generalize hU : upd (fun _ c => fenceC c) 0 j d.cells = U at *
        have hUl : U.length = d.cells.length := by rw [← hU, upd_len]
        simp only [List.length_map, e1, e2, hUl]
        rw [decide_eq_true (show (j : Int) < (d.cells.length : Int) by omega), if_pos rfl, if_pos (by omega), next64 hj (by omega)]
        cases hfl : d.cells[j].flushed
        · have : fenceC d.cells[j] = d.cells[j] := by simp [fenceC, hfl]
          rw [← hsm this]
          simp only [Bool.false_eq_true, if_false, Option.bind_some]
        · have : fenceC d.cells[j] = keepC d.cells[j] d.cells[j].sent := by simp [fenceC, hfl]
          rw [this] at hu
          rw [if_pos rfl, if_pos (by omega), hl, ← hu]
          rfl
      · unfold rickyardref05_Device_Fence.s1 tupM
        have hLL : (toM (withC d (upd (fun _ c => fenceC c) 0 d.cells.length d.cells)) s).Lasts.length = d.cells.length := by simp [toM, lastsD, withC, upd_len]
        simp only [hLL]
        rw [decide_eq_false (show ¬ ((d.cells.length : Int) < (d.cells.length : Int)) by omega), if_neg (by decide), upd_all]
        have : (d.cells.mapIdx fun _ c => fenceC c) = d.cells.map fenceC := by
          apply List.ext_getElem (by simp)
          intro i h1 h2
          simp
        rw [this]
    unfold tupM at loop
    rw [decide_eq_true rfl, if_pos rfl, loop]
    have hok : DevOk n B (withC d (d.cells.map fenceC)) := with_ok h (by simp [h.len]) (fun c hc => by
        obtain ⟨x, hx, rfl⟩ := List.mem_map.1 hc
        exact fence_okC (h.val x hx))
    simp only [Option.bind_some, eta8]
    rw [rdstep_eq hok hB hs hS ho]
    rfl
  · have e : mayI true 0 1 = 3 := by decide
    rw [e]
    rfl
theorem rarm_eq {fu n : Nat} {B s k : Int} {d : Dev} (h : DevOk n B d) : rickyardref05_Device_Arm.f fu (toM d s) k = some (toM (armD d k) s) := by
  unfold rickyardref05_Device_Arm.f
  have hl : (toM d s).Left = 0 ↔ d.off = true := by
    show (if d.armed = true then d.left else -1) = 0 ↔ _
    cases ha : d.armed
    · have := h.una ha
      simp [this]
    · have := (h.arm ha).2.2
      rw [this]
      simp
  unfold armD
  by_cases e : d.off = true
  · rw [decide_eq_true (hl.2 e), if_neg (by decide), if_pos e]
    rfl
  · rw [decide_eq_false (fun q => e (hl.1 q)), if_pos (by decide), if_neg e]
    have hm : mxI k (-1) = if decide (k ≥ 0) = true then k else -1 := by
      unfold mxI
      by_cases hk : k ≥ 0
      · rw [decide_eq_true hk]
        split <;> simp <;> omega
      · rw [decide_eq_false hk]
        split <;> simp <;> omega
    rw [hm]
    rfl
theorem rlay_eq' {fu : Nat} {s : Int} {d : Dev} {l : List Int} (hl : l.length ≤ 1000000) : rickyardref05_Device_Lay.f fu (toM d s) l = some (toM (planD d l) 0) := by
  unfold rickyardref05_Device_Lay.f
  rw [if_pos (by rw [List.length_nil]; exact Nat.le_trans (by omega : _ ≤ 1000000) (by decide))]
  rfl
theorem rfates_eq {fu n : Nat} {B s : Int} {d : Dev} (h : DevOk n B d) (hn : n ≤ 100000) (hf : n < fu) : rickyardref05_Device_Fates.f fu (toM d s) = some (fatesD d) := by
  unfold rickyardref05_Device_Fates.f
  have hl := h.len
  have hl1 : (toM d s).Lasts.length = d.cells.length := by simp [toM, lastsD]
  have hl2 : (toM d s).Stored.length = d.cells.length := by simp [toM, storedD]
  have hl3 : (toM d s).Sent.length = d.cells.length := by simp [toM, sentD]
  have hl4 : (toM d s).Flushed.length = d.cells.length := by simp [toM, flushedD]
  have : loopM (rickyardref05_Device_Fates.s0 fu (toM d s)) fu ([], 0) = some (fatesD d) := by
    refine loopM_run (S := fun j => (fatesU d j, (j : Int))) d.cells.length (by simp [fatesU]) ?_ ?_ (by omega)
    · intro j hj
      unfold rickyardref05_Device_Fates.s0
      have w3 : IntKind.i64.wrap ((j : Int) + 1) = ((j + 1 : Nat) : Int) := next64 hj (by omega)
      have c1 : 0 ≤ (j : Int) ∧ (j : Int) < (d.cells.length : Int) := by omega
      have hle := fatesU_le d j
      have a1 : ix (toM d s).Lasts (j : Int) = (ix d.cells (j : Int)).lasts := ix_map' _ _ _ hj
      have a2 : ix (toM d s).Stored (j : Int) = (ix d.cells (j : Int)).stored := ix_map' _ _ _ hj
      have a3 : ix (toM d s).Sent (j : Int) = (ix d.cells (j : Int)).sent := ix_map' _ _ _ hj
      have a4 : ix (toM d s).Flushed (j : Int) = (ix d.cells (j : Int)).flushed := ix_map' (fun c : Cell => c.flushed) _ _ hj
      simp only [w3, hl1, hl2, hl3, hl4, a1, a2, a3, a4]
      rw [decide_eq_true c1.2, if_pos rfl, if_pos c1, if_pos c1, if_pos c1, if_pos c1, if_pos c1, if_pos c1, if_pos c1, fatesU_succ]
      have hx : (if (ix d.cells (j : Int)).flushed = true then some true else some (!decide ((ix d.cells (j : Int)).stored = (ix d.cells (j : Int)).lasts))) = some (openC (ix d.cells (j : Int))) := by
        unfold openC
        cases (ix d.cells (j : Int)).flushed <;> rfl
      rw [hx]
      simp only [Option.bind_some]
      cases ho : openC (ix d.cells (j : Int))
      · simp
      · have hlim : (fatesU d j).length + List.length [(⟨(j : Int), (ix d.cells (j : Int)).lasts, (ix d.cells (j : Int)).flushed, (ix d.cells (j : Int)).sent, (ix d.cells (j : Int)).stored⟩ : S_api_Fate)] ≤ LIM := by
          simp only [List.length_cons, List.length_nil]
          exact Nat.le_trans (by omega : _ ≤ 100001) (by decide)
        rw [if_pos rfl, if_pos hlim]
        rfl
    · unfold rickyardref05_Device_Fates.s0
      simp only [hl1]
      rw [decide_eq_false (show ¬ ((d.cells.length : Int) < (d.cells.length : Int)) by omega), if_neg (by decide)]
      rfl
  rw [this]
  rfl
theorem rcrash_eq {fu n : Nat} {B s : Int} {d : Dev} {l : List Int} (h : DevOk n B d) (hn : n ≤ 100000) (hli : ∀ x ∈ l, I64 x) (hf : n < fu) : rickyardref05_Device_Crash.f fu (toM d s) l = some (toM (crashD d l) 0) := by
  unfold rickyardref05_Device_Crash.f
  have hl := h.len
  rw [rfates_eq h hn hf]
  have hfl : (fatesD d).length ≤ n := by
    have := fatesU_le d d.cells.length
    unfold fatesD
    omega
  simp only [Option.bind_some]
  have loop : ∃ e, loopM (rickyardref05_Device_Crash.s0 fu l (fatesD d)) fu (tupM 0 (toM d s)) = some e ∧ ∃ cs : List Cell, e = ((toM (withC d cs) s).Lasts, (toM (withC d cs) s).Stored, (toM (withC d cs) s).Sent, (toM (withC d cs) s).Flushed, (toM (withC d cs) s).Plan, (toM (withC d cs) s).Since, (toM (withC d cs) s).Left, (toM (withC d cs) s).Steps) ∧ cs.length = d.cells.length ∧ ∀ p : Nat, p < d.cells.length → ix cs (p : Int) = if openC (ix d.cells (p : Int)) = true then keepC (ix d.cells (p : Int)) (fateC (ix d.cells (p : Int)) (l.getD (opens d.cells p) 0)) else ix d.cells (p : Int) := by
    refine loopM_inv (fun j z => ∃ cs : List Cell, z = tupM (j : Int) (toM (withC d cs) s) ∧ cs.length = d.cells.length ∧ ∀ p : Nat, p < d.cells.length → ix cs (p : Int) = if openC (ix d.cells (p : Int)) = true ∧ opens d.cells p < j then keepC (ix d.cells (p : Int)) (fateC (ix d.cells (p : Int)) (l.getD (opens d.cells p) 0)) else ix d.cells (p : Int)) (fatesD d).length _ ?_ ?_ (j := 0) ⟨d.cells, rfl, rfl, fun p hp => ?_⟩ (by omega) (by omega)
    · rintro j _ hj ⟨cs, rfl, hcl, hcp⟩
      obtain ⟨p, hp, ho, hop, hfa⟩ := fates_at d d.cells.length (Nat.le_refl _) j hj
      have hfa' : ix (fatesD d) (j : Int) = fateD d p := hfa
      have c1 : 0 ≤ (j : Int) ∧ (j : Int) < ((fatesD d).length : Int) := by omega
      have hx : (if (decide ((j : Int) < (List.length l : Int))) = true then (if 0 ≤ (j : Int) ∧ (j : Int) < (List.length l : Int) then some ((ix l (j : Int))) else none) else some (0)) = some (l.getD j 0) := by
        by_cases hjl : j < l.length
        · rw [decide_eq_true (show (j : Int) < (l.length : Int) by omega), if_pos rfl, if_pos ⟨by omega, by omega⟩, ix_nat hjl, getD_of _ _ _ hjl]
        · rw [decide_eq_false (show ¬ (j : Int) < (l.length : Int) by omega), if_neg (by decide), List.getD_eq_getElem?_getD, List.getElem?_eq_none (by omega)]
          rfl
      have hval : rickyardref05_Value.f fu (fateD d p) (l.getD j 0) = some (fateC (ix d.cells (p : Int)) (l.getD j 0)) := value_fate (getD_I64 hli j)
      have hlast := rlast_eq (fu := fu) (cs := cs) (k := p) (w := fateC (ix d.cells (p : Int)) (l.getD j 0)) (pl := d.plan.list) (s := s) (le := if d.armed = true then d.left else -1) (st := d.steps) (by omega)
      have hcp' : ix cs (p : Int) = ix d.cells (p : Int) := by rw [hcp p hp, if_neg (fun q => by omega)]
      have a1 : (fateD d p).At = (p : Int) := rfl
      rw [hcp'] at hlast
      unfold rickyardref05_Device_Crash.s0 tupM
      simp only [hx, hfa', a1, eta8]
      rw [decide_eq_true c1.2, if_pos rfl]
      simp only [Option.bind_some]
      rw [if_pos c1, if_pos c1, hval]
      simp only [Option.bind_some]
      rw [with_toM, hlast, next64 hj (by omega)]
      refine ⟨_, rfl, cs.set p (keepC (ix d.cells (p : Int)) (fateC (ix d.cells (p : Int)) (l.getD j 0))), rfl, by rw [List.length_set]; exact hcl, fun q hq => ?_⟩
      by_cases e : q = p
      · subst e
        rw [ix_nat (by rw [List.length_set]; omega), List.getElem_set_self, if_pos ⟨ho, by omega⟩, hop]
      · rw [ix_nat (by rw [List.length_set]; omega), List.getElem_set_ne (fun z => e z.symm), ← ix_nat (l := cs) (by omega), hcp q hq]
        by_cases hoq : openC (ix d.cells (q : Int)) = true
        · have : opens d.cells q ≠ j := fun z => e (opens_inj hq hp hoq ho (by omega))
          by_cases hlt : opens d.cells q < j
          · rw [if_pos ⟨hoq, hlt⟩, if_pos ⟨hoq, by omega⟩]
          · rw [if_neg fun z => hlt z.2, if_neg fun z => by omega]
        · rw [if_neg fun z => hoq z.1, if_neg fun z => hoq z.1]
    · rintro _ ⟨cs, rfl, hcl, hcp⟩
      unfold rickyardref05_Device_Crash.s0 tupM
      rw [decide_eq_false (show ¬ (((fatesD d).length : Int) < ((fatesD d).length : Int)) by omega), if_neg (by decide)]
      refine ⟨_, rfl, cs, rfl, hcl, fun p hp => ?_⟩
      rw [hcp p hp]
      cases hoq : openC (ix d.cells (p : Int))
      · simp
      · have hlt := opens_lt (cs := d.cells) (p := p) (q := d.cells.length) (by omega) (Nat.le_refl _) hoq
        have hfl2 : (fatesD d).length = opens d.cells d.cells.length := fates_len d _ (Nat.le_refl _)
        rw [if_pos ⟨rfl, by omega⟩, if_pos rfl]
    · rw [if_neg fun z => by omega]
  obtain ⟨e, h1, cs, rfl, hcl, hcp⟩ := loop
  unfold tupM at h1
  rw [h1]
  simp only [Option.bind_some]
  have loop2 : loopM (rickyardref05_Device_Crash.s1 fu ((toM (withC d cs) s).Lasts, (toM (withC d cs) s).Stored, (toM (withC d cs) s).Sent, (toM (withC d cs) s).Flushed, (toM (withC d cs) s).Plan, (toM (withC d cs) s).Since, (toM (withC d cs) s).Left, (toM (withC d cs) s).Steps)) fu (0, (toM (withC d cs) s).Stored) = some (toM (withC d cs) s).Lasts := by
    have q1 : (toM (withC d cs) s).Lasts.length = d.cells.length := by simp [toM, lastsD, withC, hcl]
    have q2 : (toM (withC d cs) s).Stored.length = d.cells.length := by simp [toM, storedD, withC, hcl]
    generalize (toM (withC d cs) s).Lasts = LA at *
    generalize (toM (withC d cs) s).Stored = SA at *
    refine loopM_run (S := fun j => ((j : Int), upd (fun i _ => ix LA (i : Int)) 0 j SA)) d.cells.length (by rw [upd_zero]; rfl) ?_ ?_ (by omega)
    · intro j hj
      unfold rickyardref05_Device_Crash.s1
      have hu := upd_set (fun i _ => ix LA (i : Int)) 0 j SA (by omega)
      simp only [Nat.zero_add] at hu
      simp only [q1, upd_len, q2]
      rw [decide_eq_true (show (j : Int) < (d.cells.length : Int) by omega), if_pos rfl, if_pos (by omega), if_pos (by omega), next64 hj (by omega), Int.toNat_natCast, hu]
    · unfold rickyardref05_Device_Crash.s1
      simp only [q1]
      rw [decide_eq_false (show ¬ ((d.cells.length : Int) < (d.cells.length : Int)) by omega), if_neg (by decide)]
      refine congrArg (fun z => some (Sum.inl z)) ?_
      apply List.ext_getElem (by rw [upd_len]; omega)
      intro i h1 h2
      rw [upd_get, if_pos (by omega), ix_nat h2]
  rw [loop2]
  simp only [Option.bind_some]
  have hc : ∀ p (h1 : p < (crashD d l).cells.length), (crashD d l).cells[p] = crashC (ix d.cells (p : Int)) (l.getD (opens d.cells p) 0) := by
    intro p h1
    have hp : p < d.cells.length := by simpa [crashD, crashL] using h1
    rw [← ix_nat h1, crash_get hp]
  have hcl2 : (crashD d l).cells.length = d.cells.length := by simp [crashD, crashL]
  have x1 : cs.map (fun c => c.lasts) = lastsD (crashD d l) := by
    unfold lastsD
    apply List.ext_getElem (by simp [hcl, hcl2])
    intro p h1 h2
    have hp : p < d.cells.length := by simpa [hcl] using h1
    rw [List.getElem_map, List.getElem_map, ← ix_nat (l := cs) (by omega), hcp p hp, hc]
    unfold crashC
    split <;> rfl
  have x2 : cs.map (fun c => c.sent) = sentD (crashD d l) := by
    unfold sentD
    apply List.ext_getElem (by simp [hcl, hcl2])
    intro p h1 h2
    have hp : p < d.cells.length := by simpa [hcl] using h1
    rw [List.getElem_map, List.getElem_map, ← ix_nat (l := cs) (by omega), hcp p hp, hc]
    unfold crashC
    split <;> rfl
  have x3 : cs.map (fun c => c.flushed) = flushedD (crashD d l) := by
    unfold flushedD
    apply List.ext_getElem (by simp [hcl, hcl2])
    intro p h1 h2
    have hp : p < d.cells.length := by simpa [hcl] using h1
    rw [List.getElem_map, List.getElem_map, ← ix_nat (l := cs) (by omega), hcp p hp, hc]
    unfold crashC
    split <;> rfl
  rw [with_toM]
  simp only []
  rw [x1, x2, x3]
  show some (⟨lastsD (crashD d l), lastsD (crashD d l), sentD (crashD d l), flushedD (crashD d l), [], 0, -1, d.steps⟩ : Ref) = some ⟨lastsD (crashD d l), storedD (crashD d l), sentD (crashD d l), flushedD (crashD d l), [], 0, -1, d.steps⟩
  rw [crash_view]
/-- How many steps there were since the plan was laid, behind an act. -/
def since (d : Dev) (a : S_rickyardlaw05_Act) (s : Int) : Int :=
  if a.Kind % 7 = 0 then inc (mayI d.off a.At (d.cells.length : Int) = 0) s
  else if a.Kind % 7 = 2 then inc (mayI d.off a.At ((d.cells.length / 8 : Nat) : Int) = 0) s
  else if a.Kind % 7 = 3 then inc (d.off = false) s
  else if a.Kind % 7 = 5 ∨ a.Kind % 7 = 6 then 0
  else s
theorem refs_eq {fu n : Nat} {B s : Int} {d : Dev} {a : S_rickyardlaw05_Act} (h : DevOk n B d) (hB : B < 9223372036854775807) (hn : n ≤ 100000) (ha : okA a) (hf : n + 8 < fu) (hs : 0 ≤ s ∧ s < 9223372036854775807) (hS : Since d s) : rickyardlaw05_Refs.f fu (toM d s) a = some ((doD d a).1.1, (doD d a).1.2, toM (doD d a).2 (since d a s)) := by
  obtain ⟨hk, hat, hw, hL, hl⟩ := ha
  unfold rickyardlaw05_Refs.f doD since
  rw [rest7_eq hk (by decide), rstore_eq h hB hs hS hw, rload_eq h, rflush_eq h hB hn (by omega) hs hS, rfence_eq h hB hn (by omega) hs hS, rarm_eq h, rlay_eq' (by omega), rcrash_eq h hn hL (by omega)]
  simp only [Option.bind_some]
  have hr : 0 ≤ a.Kind % 7 ∧ a.Kind % 7 < 7 := by omega
  generalize a.Kind % 7 = r at *
  have : r = 0 ∨ r = 1 ∨ r = 2 ∨ r = 3 ∨ r = 4 ∨ r = 5 ∨ r = 6 := by omega
  rcases this with rfl | rfl | rfl | rfl | rfl | rfl | rfl
  · rfl
  · rfl
  · rfl
  · rfl
  · have e1 : (armD d a.At).cells = d.cells ∧ (armD d a.At).plan = d.plan := by
      unfold armD
      split <;> exact ⟨rfl, rfl⟩
    simp [toM, lastsD, storedD, sentD, flushedD, e1.1, e1.2]
  · rfl
  · rfl
theorem since_tick {d : Dev} {cs : List Cell} {s : Int} (h : Since d s) : Since (tick (withC d cs)) (s + 1) := by
  have hl : (tick (withC d cs)).plan.list = d.plan.list := by
    show (nextP d.plan).list = _
    unfold nextP
    split <;> rfl
  intro e
  rw [hl] at e
  rw [hl]
  show (nextP d.plan).at_ = _
  unfold nextP
  rw [if_neg e]
  show (d.plan.at_ + 1) % (d.plan.list.length : Int) = _
  rw [h e]
  exact Int.emod_add_emod _ _ _
theorem since_do {d : Dev} {a : S_rickyardlaw05_Act} {s : Int} (h : Since d s) : Since (doD d a).2 (since d a s) := by
  have hr : 0 ≤ a.Kind % 7 ∧ a.Kind % 7 < 7 := by omega
  unfold doD since
  generalize a.Kind % 7 = r at *
  have : r = 0 ∨ r = 1 ∨ r = 2 ∨ r = 3 ∨ r = 4 ∨ r = 5 ∨ r = 6 := by omega
  rcases this with rfl | rfl | rfl | rfl | rfl | rfl | rfl
  · show Since (storeD d a.At a.W).2 (inc (mayI d.off a.At (d.cells.length : Int) = 0) s)
    unfold storeD inc
    split
    · exact since_tick h
    · exact h
  · exact h
  · show Since (flushD d a.At).2 (inc (mayI d.off a.At ((d.cells.length / 8 : Nat) : Int) = 0) s)
    unfold flushD inc
    split
    · exact since_tick h
    · exact h
  · show Since (fenceD d).2 (inc (d.off = false) s)
    unfold fenceD inc
    cases ho : d.off
    · exact since_tick h
    · exact h
  · show Since (armD d a.At) s
    unfold armD
    split
    · exact h
    · exact h
  · show Since (planD d a.L) 0
    intro _
    show (0 : Int) = 0 % _
    simp
  · show Since (crashD d a.L) 0
    intro e
    exact absurd rfl e
theorem since_le {d : Dev} {a : S_rickyardlaw05_Act} {s : Int} (h : 0 ≤ s) : 0 ≤ since d a s ∧ since d a s ≤ s + 1 := by
  have hi : ∀ (b : Prop) [Decidable b], 0 ≤ inc b s ∧ inc b s ≤ s + 1 := by
    intro b _
    unfold inc
    split <;> omega
  unfold since
  split
  · exact hi _
  split
  · exact hi _
  split
  · exact hi _
  split <;> omega
theorem rnew_eq {fu : Nat} {k : Nat} (hk : k ≤ 4096) : rickyardref05_New.f fu (k : Int) = some (toM (newD (8 * k)) 0) := by
  unfold rickyardref05_New.f
  have w : IntKind.i64.wrap (8 * (k : Int)) = ((8 * k : Nat) : Int) := by rw [w64 (by omega) (by omega)]; omega
  have c : 0 ≤ ((8 * k : Nat) : Int) ∧ 8 * k ≤ LIM := ⟨by omega, Nat.le_trans (by omega : _ ≤ 100000) (by decide)⟩
  rw [w, Int.toNat_natCast, if_pos c, if_pos c, if_pos c, if_pos c]
  simp [toM, newD, lastsD, storedD, sentD, flushedD]
theorem same_eq {fu : Nat} {l : List S_api_Fate} (hl : l.length ≤ 100000) (hf : l.length < fu) : rickyardref05_Same.f fu l l = some true := by
  unfold rickyardref05_Same.f
  rw [decide_eq_true rfl, if_neg (by decide)]
  have : loopM (rickyardref05_Same.s0 fu l l) fu 0 = some (.inr ()) := by
    refine loopM_run (S := fun j => (j : Int)) l.length rfl (fun j hj => ?_) ?_ hf
    · unfold rickyardref05_Same.s0
      rw [decide_eq_true (show (j : Int) < (l.length : Int) by omega), if_pos rfl, if_pos (by omega), if_pos (by omega), decide_eq_true rfl, if_neg (by decide), next64 hj hl]
    · unfold rickyardref05_Same.s0
      rw [decide_eq_false (show ¬ ((l.length : Int) < (l.length : Int)) by omega), if_neg (by decide)]
  rw [this]
  rfl
/-- The document's device, where the plan was laid behind b steps. -/
def refD (d : Dev) (b : Int) : Ref := toM d (d.steps - b)
structure RefOk (n : Nat) (B : Int) (d : Dev) (b : Int) : Prop where
  ok : DevOk n B d
  b0 : 0 ≤ b
  b1 : b ≤ d.steps
  si : Since d (d.steps - b)
theorem RefOk.up {n : Nat} {B C b : Int} {d : Dev} (h : RefOk n B d b) (hc : B ≤ C) : RefOk n C d b := ⟨h.ok.up hc, h.b0, h.b1, h.si⟩
theorem RefOk.since0 {n : Nat} {B b : Int} {d : Dev} (h : RefOk n B d b) (hB : B < 9223372036854775807) : 0 ≤ d.steps - b ∧ d.steps - b < 9223372036854775807 := by
  have := h.ok.st
  have := h.b0
  have := h.b1
  omega
theorem newR_ok (n : Nat) : RefOk n 0 (newD n) 0 := ⟨newD_ok n, by decide, by simp [newD], fun h => absurd rfl h⟩
theorem storeR {fu n : Nat} {B b k w : Int} {d : Dev} (h : RefOk n B d b) (hB : B < 9223372036854775807) (hw : U64 w) : rickyardref05_Device_Store.f fu (refD d b) k w = some ((storeD d k w).1, refD (storeD d k w).2 b) ∧ RefOk n (B + 1) (storeD d k w).2 b := by
  have e : inc (mayI d.off k (d.cells.length : Int) = 0) (d.steps - b) = (storeD d k w).2.steps - b := by
    unfold inc storeD
    split
    · show d.steps - b + 1 = d.steps + 1 - b
      omega
    · rfl
  have hs := h.since0 hB
  refine ⟨?_, store_ok h.ok hw, h.b0, ?_, ?_⟩
  · unfold refD
    rw [rstore_eq h.ok hB hs h.si hw, e]
  · have := h.b1
    unfold storeD
    split
    · show b ≤ d.steps + 1
      omega
    · exact this
  · rw [← e]
    unfold storeD inc
    split
    · exact since_tick h.si
    · exact h.si
theorem flushR {fu n : Nat} {B b k : Int} {d : Dev} (h : RefOk n B d b) (hB : B < 9223372036854775807) (hn : n ≤ 100000) (hf : 8 < fu) : rickyardref05_Device_Flush.f fu (refD d b) k = some ((flushD d k).1, refD (flushD d k).2 b) ∧ RefOk n (B + 1) (flushD d k).2 b := by
  have e : inc (mayI d.off k ((d.cells.length / 8 : Nat) : Int) = 0) (d.steps - b) = (flushD d k).2.steps - b := by
    unfold inc flushD
    split
    · show d.steps - b + 1 = d.steps + 1 - b
      omega
    · rfl
  have hs := h.since0 hB
  refine ⟨?_, flush_ok h.ok, h.b0, ?_, ?_⟩
  · unfold refD
    rw [rflush_eq h.ok hB hn hf hs h.si, e]
  · have := h.b1
    unfold flushD
    split
    · show b ≤ d.steps + 1
      omega
    · exact this
  · rw [← e]
    unfold flushD inc
    split
    · exact since_tick h.si
    · exact h.si
theorem fenceR {fu n : Nat} {B b : Int} {d : Dev} (h : RefOk n B d b) (hB : B < 9223372036854775807) (hn : n ≤ 100000) (hf : n < fu) : rickyardref05_Device_Fence.f fu (refD d b) = some ((fenceD d).1, refD (fenceD d).2 b) ∧ RefOk n (B + 1) (fenceD d).2 b := by
  have e : inc (d.off = false) (d.steps - b) = (fenceD d).2.steps - b := by
    unfold inc fenceD
    cases ho : d.off
    · show d.steps - b + 1 = d.steps + 1 - b
      omega
    · rfl
  have hs := h.since0 hB
  refine ⟨?_, fence_ok h.ok, h.b0, ?_, ?_⟩
  · unfold refD
    rw [rfence_eq h.ok hB hn hf hs h.si, e]
  · have := h.b1
    unfold fenceD
    split
    · exact this
    · show b ≤ d.steps + 1
      omega
  · rw [← e]
    unfold fenceD inc
    cases ho : d.off
    · exact since_tick h.si
    · exact h.si
/-- The base behind an act. -/
def baseA (d : Dev) (a : S_rickyardlaw05_Act) (b : Int) : Int := if a.Kind % 7 = 5 ∨ a.Kind % 7 = 6 then (doD d a).2.steps else b
theorem doR {fu n : Nat} {B b : Int} {d : Dev} {a : S_rickyardlaw05_Act} (h : RefOk n B d b) (hB : B < 9223372036854775807) (hn : n ≤ 100000) (ha : okA a) (hf : n + 8 < fu) : rickyardlaw05_Refs.f fu (refD d b) a = some ((doD d a).1.1, (doD d a).1.2, refD (doD d a).2 (baseA d a b)) ∧ RefOk n (B + 1) (doD d a).2 (baseA d a b) := by
  have hs := h.since0 hB
  have e : since d a (d.steps - b) = (doD d a).2.steps - baseA d a b := by
    have hr : 0 ≤ a.Kind % 7 ∧ a.Kind % 7 < 7 := by omega
    unfold since baseA doD
    generalize a.Kind % 7 = r at *
    have : r = 0 ∨ r = 1 ∨ r = 2 ∨ r = 3 ∨ r = 4 ∨ r = 5 ∨ r = 6 := by omega
    rcases this with rfl | rfl | rfl | rfl | rfl | rfl | rfl
    · show inc (mayI d.off a.At (d.cells.length : Int) = 0) (d.steps - b) = (storeD d a.At a.W).2.steps - b
      unfold inc storeD
      split
      · show d.steps - b + 1 = d.steps + 1 - b
        omega
      · rfl
    · rfl
    · show inc (mayI d.off a.At ((d.cells.length / 8 : Nat) : Int) = 0) (d.steps - b) = (flushD d a.At).2.steps - b
      unfold inc flushD
      split
      · show d.steps - b + 1 = d.steps + 1 - b
        omega
      · rfl
    · show inc (d.off = false) (d.steps - b) = (fenceD d).2.steps - b
      unfold inc fenceD
      cases ho : d.off
      · show d.steps - b + 1 = d.steps + 1 - b
        omega
      · rfl
    · show d.steps - b = (armD d a.At).steps - b
      unfold armD
      split <;> rfl
    · show (0 : Int) = (planD d a.L).steps - (planD d a.L).steps
      omega
    · show (0 : Int) = (crashD d a.L).steps - (crashD d a.L).steps
      omega
  have hst := since_do (a := a) h.si
  rw [e] at hst
  have hle : 0 ≤ baseA d a b ∧ baseA d a b ≤ (doD d a).2.steps := by
    have hdo := do_ok h.ok ha
    have h0 := hdo.st
    have h1 : 0 ≤ since d a (d.steps - b) := (since_le hs.1).1
    rw [e] at h1
    refine ⟨?_, by omega⟩
    unfold baseA
    split
    · exact h0.1
    · exact h.b0
  refine ⟨?_, do_ok h.ok ha, hle.1, hle.2, hst⟩
  unfold refD
  rw [refs_eq h.ok hB hn ha hf hs h.si, e]
theorem awake15' : rickyardlaw15_awake.f FU = some true := by decide +kernel
theorem putR {n : Nat} {b : Int} : ∀ {ws : List Int} {B k : Int} {d : Dev} (h : RefOk n B d b) (hB : B + (ws.length : Int) < 9223372036854775807) (hw : ∀ w ∈ ws, U64 w), RefOk n (B + (ws.length : Int)) (putAll d k ws).2 b
  | [], B, k, d, h, _, _ => h.up (by simp)
  | w :: ws, B, k, d, h, hB, hw => by
    simp only [List.length_cons] at hB
    have h1 := (storeR (fu := 0) (k := k) h (by omega) (hw w (by simp))).2
    unfold putAll
    split
    · exact (putR h1 (by omega) fun x hx => hw x (by simp [hx])).up (by simp only [List.length_cons]; omega)
    · exact h1.up (by simp only [List.length_cons]; omega)
theorem sendR {n : Nat} {b : Int} {ws : List Int} {B k i : Int} {d : Dev} (h : RefOk n B d b) (hB : B + (ws.length : Int) + 1 < 9223372036854775807) (hn : n ≤ 100000) (hw : ∀ w ∈ ws, U64 w) : RefOk n (B + (ws.length : Int) + 1) (sendD d k i ws).2 b := by
  have h1 := putR (k := 8 * k + i) h (by omega) hw
  unfold sendD
  split
  · exact (flushR (fu := 100) h1 (by omega) hn (by decide)).2
  · exact h1.up (by omega)
theorem rlines_eq {fu : Nat} {d : Dev} {b : Int} (hl : d.cells.length ≤ 1000000) : rickyardref15_Lines.f fu (refD d b) = some ((d.cells.length / 8 : Nat) : Int) := by
  unfold rickyardref15_Lines.f
  have : (refD d b).Lasts.length = d.cells.length := by simp [refD, toM, lastsD]
  rw [this, Int.tdiv_eq_ediv_of_nonneg (by omega), w64 (by omega) (by omega)]
  congr 1
theorem rwrite_loop {fu n : Nat} {line b : Int} {bs : List Int} (hn : n ≤ 100000) (hbs : Bytes bs) (hl : bs.length = 64) (hline : 0 ≤ line ∧ line ≤ 100000) (hf : 2000 < fu) : ∀ (r j : Nat) (B : Int) (d : Dev) (k : Nat), j + r = 8 → RefOk n B d b → B + (r : Int) < 9223372036854775807 → r < k →
    loopM (rickyardref15_Write.s0 fu line bs) k (tupM (j : Int) (refD d b)) = some (if (putAll d (8 * line + (j : Int)) ((wordsU bs 8).drop j)).1 = 0 then .inr ((refD (putAll d (8 * line + (j : Int)) ((wordsU bs 8).drop j)).2 b).Lasts, (refD (putAll d (8 * line + (j : Int)) ((wordsU bs 8).drop j)).2 b).Stored, (refD (putAll d (8 * line + (j : Int)) ((wordsU bs 8).drop j)).2 b).Sent, (refD (putAll d (8 * line + (j : Int)) ((wordsU bs 8).drop j)).2 b).Flushed, (refD (putAll d (8 * line + (j : Int)) ((wordsU bs 8).drop j)).2 b).Plan, (refD (putAll d (8 * line + (j : Int)) ((wordsU bs 8).drop j)).2 b).Since, (refD (putAll d (8 * line + (j : Int)) ((wordsU bs 8).drop j)).2 b).Left, (refD (putAll d (8 * line + (j : Int)) ((wordsU bs 8).drop j)).2 b).Steps) else .inl ((putAll d (8 * line + (j : Int)) ((wordsU bs 8).drop j)).1, refD (putAll d (8 * line + (j : Int)) ((wordsU bs 8).drop j)).2 b))
  | r, j, B, d, 0, hj, h, hB, hk => by omega
  | 0, j, B, d, k + 1, hj, h, hB, hk => by
    unfold loopM
    have : j = 8 := by omega
    subst this
    unfold rickyardref15_Write.s0 tupM
    rw [decide_eq_false (show ¬ (((8 : Nat) : Int) < 8) by decide), if_neg (by decide), List.drop_of_length_le (by rw [wordsU_len]; exact Nat.le_refl _)]
    rfl
  | r + 1, j, B, d, k + 1, hj, h, hB, hk => by
    have hjl : j < 8 := by omega
    have hwl : (wordsU bs 8).length = 8 := wordsU_len _ _
    have hu := words_U64 (n := 8) hbs _ (List.getElem_mem (show j < (wordsU bs 8).length by omega))
    have hval : (wordsU bs 8)[j]'(by omega) = ((num ((bs.drop (8 * j)).take 8) : Nat) : Int) := by simp [wordsU]
    have hst := storeR (fu := fu) (k := 8 * line + (j : Int)) h (by omega) hu
    have w1 : IntKind.i64.wrap (8 * (j : Int)) = ((8 * j : Nat) : Int) := by rw [w64 (by omega) (by omega)]; omega
    have w2 : IntKind.i64.wrap (((8 * j : Nat) : Int) + 8) = ((8 * j + 8 : Nat) : Int) := by rw [w64 (by omega) (by omega)]; omega
    have w3 : IntKind.i64.wrap (8 * line) = 8 * line := w64 (by omega) (by omega)
    have w4 : IntKind.i64.wrap (8 * line + (j : Int)) = 8 * line + (j : Int) := w64 (by omega) (by omega)
    have hd : (wordsU bs 8).drop j = (wordsU bs 8)[j]'(by omega) :: (wordsU bs 8).drop (j + 1) := List.drop_eq_getElem_cons (by omega)
    have hcut : cut bs ((8 * j : Nat) : Int) ((8 * j + 8 : Nat) : Int) = (bs.drop (8 * j)).take 8 := by
      unfold cut
      rw [Int.toNat_natCast, Int.toNat_natCast, List.drop_take]
      congr 1
      omega
    have hnum : rickyardref01_Number.f fu (List.map toB (cut bs ((8 * j : Nat) : Int) ((8 * j + 8 : Nat) : Int))) = some ((wordsU bs 8)[j]'(by omega)) := by
      rw [hcut, rnumber_eq ((hbs.drop _).take _) (by rw [List.length_take]; omega) (by rw [List.length_take]; omega), hval]
    unfold loopM
    have hs : rickyardref15_Write.s0 fu line bs (tupM (j : Int) (refD d b)) = some (if (storeD d (8 * line + (j : Int)) ((wordsU bs 8)[j]'(by omega))).1 = 0 then .inr (tupM ((j + 1 : Nat) : Int) (refD (storeD d (8 * line + (j : Int)) ((wordsU bs 8)[j]'(by omega))).2 b)) else .inl (.inl ((storeD d (8 * line + (j : Int)) ((wordsU bs 8)[j]'(by omega))).1, refD (storeD d (8 * line + (j : Int)) ((wordsU bs 8)[j]'(by omega))).2 b))) := by
      unfold rickyardref15_Write.s0 tupM
      simp only [eta8, w1, w2, w3, w4]
      rw [decide_eq_true (show (j : Int) < 8 by omega), if_pos rfl, if_pos (by omega), hnum, next64 hjl (by decide)]
      simp only [Option.bind_some]
      rw [hst.1]
      simp only [Option.bind_some]
      by_cases e : (storeD d (8 * line + (j : Int)) ((wordsU bs 8)[j]'(by omega))).1 = 0
      · rw [decide_eq_true e, if_neg (by decide), if_pos e]
      · rw [decide_eq_false e, if_pos (by decide), if_neg e]
    rw [hs, hd]
    unfold putAll
    by_cases e : (storeD d (8 * line + (j : Int)) ((wordsU bs 8)[j]'(by omega))).1 = 0
    · have ih := rwrite_loop (fu := fu) (n := n) (line := line) (b := b) hn hbs hl hline hf r (j + 1) (B + 1) (storeD d (8 * line + (j : Int)) ((wordsU bs 8)[j]'(by omega))).2 k (by omega) hst.2 (by omega) (by omega)
      rw [show 8 * line + ((j + 1 : Nat) : Int) = 8 * line + (j : Int) + 1 from by omega] at ih
      rw [if_pos e, if_pos e]
      exact ih
    · rw [if_neg e, if_neg e]
      simp only [e, if_false]
theorem rwrite_eq {fu n : Nat} {B line b : Int} {bs : List Int} {d : Dev} (h : RefOk n B d b) (hB : B + 9 < 9223372036854775807) (hn : n ≤ 100000) (hb : Bytes bs) (hf : 2000 < fu) : rickyardref15_Write.f fu (refD d b) line bs = some ((writeD d line bs).1, refD (writeD d line bs).2 b) ∧ RefOk n (B + 9) (writeD d line bs).2 b := by
  have hlen := h.ok.len
  have hc : (if (decide (line < 0)) = true then some (true) else ((rickyardref15_Lines.f fu (refD d b) : Option Int).bind fun t22 => (if (decide (line ≥ t22)) = true then some (true) else some ((!decide ((List.length bs : Int) = 64)))))) = some (decide (¬ (inL d line ∧ bs.length = 64))) := by
    rw [rlines_eq (by omega)]
    by_cases h1 : line < 0
    · rw [decide_eq_true h1, if_pos rfl, decide_eq_true (show ¬ (inL d line ∧ bs.length = 64) from fun q => by have q1 := q.1.1; have q2 := q.1.2; have q3 := q.2; omega)]
    · rw [decide_eq_false h1, if_neg (by decide)]
      simp only [Option.bind_some]
      by_cases h2 : line ≥ ((d.cells.length / 8 : Nat) : Int)
      · rw [decide_eq_true h2, if_pos rfl, decide_eq_true (show ¬ (inL d line ∧ bs.length = 64) from fun q => by have q1 := q.1.1; have q2 := q.1.2; have q3 := q.2; omega)]
      · rw [decide_eq_false h2, if_neg (by decide)]
        by_cases h3 : bs.length = 64
        · rw [decide_eq_true (show (bs.length : Int) = 64 by omega), decide_eq_false (show ¬ ¬ (inL d line ∧ bs.length = 64) from fun q => q ⟨⟨by omega, by omega⟩, by omega⟩)]
          rfl
        · rw [decide_eq_false (show ¬ (bs.length : Int) = 64 by omega), decide_eq_true (show ¬ (inL d line ∧ bs.length = 64) from fun q => by have q1 := q.1.1; have q2 := q.1.2; have q3 := q.2; omega)]
          rfl
  unfold rickyardref15_Write.f writeD
  rw [hc]
  simp only [Option.bind_some]
  by_cases hi : inL d line ∧ bs.length = 64
  · rw [decide_eq_false (fun q => q hi), if_neg (by decide), if_pos hi]
    have hin := hi.1
    unfold inL at hin
    have h1 := rwrite_loop (fu := fu) (line := line) (b := b) hn hb hi.2 (by omega) hf 8 0 B d fu rfl h (by omega) (by omega)
    simp only [List.drop_zero] at h1
    rw [show (8 * line + ((0 : Nat) : Int)) = 8 * line + 0 from rfl] at h1
    have h2 := putR (k := 8 * line + 0) (ws := wordsU bs 8) h (by rw [wordsU_len]; omega) (words_U64 hb)
    rw [wordsU_len] at h2
    have h3 := flushR (fu := fu) (k := line) h2 (by omega) hn (by omega)
    have h4 := sendR (k := line) (i := 0) (ws := wordsU bs 8) h (by rw [wordsU_len]; omega) hn (words_U64 hb)
    rw [wordsU_len] at h4
    refine ⟨?_, h4.up (by omega)⟩
    unfold tupM at h1
    rw [show (((0 : Nat) : Int)) = 0 from rfl] at h1
    rw [h1]
    unfold sendD
    by_cases e : (putAll d (8 * line + 0) (wordsU bs 8)).1 = 0
    · rw [if_pos e, if_pos e]
      simp only [Option.bind_some, eta8]
      rw [h3.1]
      rfl
    · rw [if_neg e, if_neg e]
      rfl
  · rw [decide_eq_true hi, if_pos rfl, if_neg hi]
    exact ⟨rfl, h.up (by omega)⟩
theorem rword_eq {fu n : Nat} {B line b i w : Int} {d : Dev} (h : RefOk n B d b) (hB : B + 9 < 9223372036854775807) (hn : n ≤ 100000) (hw : U64 w) (hf : 2000 < fu) : rickyardref15_Word.f fu (refD d b) line i w = some ((wordD d line i w).1, refD (wordD d line i w).2 b) ∧ RefOk n (B + 9) (wordD d line i w).2 b := by
  have hlen := h.ok.len
  have hc : (if (decide (line < 0)) = true then some (true) else ((rickyardref15_Lines.f fu (refD d b) : Option Int).bind fun t22 => (if (decide (line ≥ t22)) = true then some (true) else (if (decide (i < 0)) = true then some (true) else some ((decide (i > 7))))))) = some (decide (¬ (inL d line ∧ 0 ≤ i ∧ i < 8))) := by
    rw [rlines_eq (by omega)]
    by_cases h1 : line < 0
    · rw [decide_eq_true h1, if_pos rfl, decide_eq_true (show ¬ (inL d line ∧ 0 ≤ i ∧ i < 8) from fun q => by have q1 := q.1.1; have q2 := q.1.2; have q3 := q.2; omega)]
    · rw [decide_eq_false h1, if_neg (by decide)]
      simp only [Option.bind_some]
      by_cases h2 : line ≥ ((d.cells.length / 8 : Nat) : Int)
      · rw [decide_eq_true h2, if_pos rfl, decide_eq_true (show ¬ (inL d line ∧ 0 ≤ i ∧ i < 8) from fun q => by have q1 := q.1.1; have q2 := q.1.2; have q3 := q.2; omega)]
      · rw [decide_eq_false h2, if_neg (by decide)]
        by_cases h3 : i < 0
        · rw [decide_eq_true h3, if_pos rfl, decide_eq_true (show ¬ (inL d line ∧ 0 ≤ i ∧ i < 8) from fun q => by have q1 := q.1.1; have q2 := q.1.2; have q3 := q.2; omega)]
        · rw [decide_eq_false h3, if_neg (by decide)]
          by_cases h4 : i > 7
          · rw [decide_eq_true h4, decide_eq_true (show ¬ (inL d line ∧ 0 ≤ i ∧ i < 8) from fun q => by have q1 := q.1.1; have q2 := q.1.2; have q3 := q.2; omega)]
          · rw [decide_eq_false h4, decide_eq_false (show ¬ ¬ (inL d line ∧ 0 ≤ i ∧ i < 8) from fun q => q ⟨⟨by omega, by omega⟩, by omega⟩)]
  unfold rickyardref15_Word.f wordD
  rw [hc]
  simp only [Option.bind_some]
  by_cases hi : inL d line ∧ 0 ≤ i ∧ i < 8
  · rw [decide_eq_false (fun q => q hi), if_neg (by decide), if_pos hi]
    have hin := hi.1
    unfold inL at hin
    have w1 : IntKind.i64.wrap (8 * line) = 8 * line := w64 (by omega) (by omega)
    have w2 : IntKind.i64.wrap (8 * line + i) = 8 * line + i := w64 (by omega) (by omega)
    have h1 := storeR (fu := fu) (k := 8 * line + i) h (by omega) hw
    have h2 := flushR (fu := fu) (k := line) h1.2 (by omega) hn (by omega)
    rw [w1, w2, h1.1]
    unfold sendD putAll putAll
    simp only [Option.bind_some]
    by_cases e : (storeD d (8 * line + i) w).1 = 0
    · rw [decide_eq_true e, if_neg (by decide), if_pos e, if_pos rfl, h2.1]
      exact ⟨rfl, h2.2.up (by omega)⟩
    · rw [decide_eq_false e, if_pos (by decide), if_neg e, if_neg e]
      exact ⟨rfl, h1.2.up (by omega)⟩
  · rw [decide_eq_true hi, if_pos rfl, if_neg hi]
    exact ⟨rfl, h.up (by omega)⟩
theorem rread_eq {fu n : Nat} {B line b : Int} {d : Dev} (h : RefOk n B d b) (hn : n ≤ 100000) (hf : 2000 < fu) : rickyardref15_Read.f fu (refD d b) line = some ((readD d line).1.map toB, (readD d line).2) := by
  have hlen := h.ok.len
  have hc : (if (decide (line < 0)) = true then some (true) else ((rickyardref15_Lines.f fu (refD d b) : Option Int).bind fun t4 => some ((decide (line ≥ t4))))) = some (decide (¬ inL d line)) := by
    rw [rlines_eq (by omega)]
    by_cases h1 : line < 0
    · rw [decide_eq_true h1, if_pos rfl, decide_eq_true (show ¬ inL d line from fun q => by have q1 := q.1; have q2 := q.2; omega)]
    · rw [decide_eq_false h1, if_neg (by decide)]
      simp only [Option.bind_some]
      by_cases h2 : line ≥ ((d.cells.length / 8 : Nat) : Int)
      · rw [decide_eq_true h2, decide_eq_true (show ¬ inL d line from fun q => by have q1 := q.1; have q2 := q.2; omega)]
      · rw [decide_eq_false h2, decide_eq_false (show ¬ ¬ inL d line from fun q => q ⟨by omega, by omega⟩)]
  unfold rickyardref15_Read.f readD
  rw [hc]
  simp only [Option.bind_some]
  by_cases hi : inL d line
  · rw [decide_eq_false (fun q => q hi), if_neg (by decide), if_pos hi]
    have hin := hi
    unfold inL at hin
    have w1 : IntKind.i64.wrap (8 * line) = 8 * line := w64 (by omega) (by omega)
    have hld : ∀ j : Nat, j < 8 → rickyardref05_Device_Load.f fu (refD d b) (8 * line + (j : Int)) = some (if d.off = true then (0, 3) else ((ix d.cells (8 * line + (j : Int))).stored, 0)) := by
      intro j hj
      unfold refD
      rw [rload_eq h.ok]
      unfold loadD
      cases ho : d.off
      · rw [if_pos (may_zero.2 ⟨rfl, by omega, by omega⟩), if_neg (by decide)]
      · have : mayI true (8 * line + (j : Int)) (d.cells.length : Int) = 3 := rfl
        rw [this, if_neg (by decide), if_pos rfl]
    cases ho : d.off
    · rw [if_neg (by decide)]
      have hcl : (lineC d line).length = 8 := by simp [lineC]
      have loop : loopM (rickyardref15_Read.s0 fu (refD d b) line) fu ([], 0) = some (.inr ((octs (lineC d line)).map toB)) := by
        refine loopM_run (S := fun j => ((octs ((lineC d line).take j)).map toB, (j : Int))) 8 (by simp [octs]) ?_ ?_ (by omega)
        · intro j hj
          unfold rickyardref15_Read.s0
          have w3 : IntKind.i64.wrap (8 * line + (j : Int)) = 8 * line + (j : Int) := w64 (by omega) (by omega)
          obtain ⟨p, hp⟩ : ∃ p : Nat, 8 * line + (j : Int) = (p : Int) := ⟨(8 * line + (j : Int)).toNat, by omega⟩
          have hu : U64 (ix d.cells (8 * line + (j : Int))).stored := by
            rw [hp, ix_nat (by omega)]
            exact (h.ok.val _ (List.getElem_mem _)).2.1
          obtain ⟨v, hv⟩ : ∃ v : Nat, (ix d.cells (8 * line + (j : Int))).stored = (v : Int) := ⟨_, (Int.toNat_of_nonneg hu.1).symm⟩
          have hly : rickyardref01_Lay.f fu (v : Int) 8 = some ((lay v 8).map toB) := rlay_eq (n := 8) (by unfold U64 at hu; omega) (by decide) (by omega)
          have hnext : (lineC d line).take (j + 1) = (lineC d line).take j ++ [(v : Int)] := by
            rw [take_next (by omega), ← hv]
            simp [lineC]
          simp only [w1, w3]
          rw [decide_eq_true (show (j : Int) < 8 by omega), if_pos rfl, hld j hj, ho, if_neg (by decide), next64 hj (by decide), hv]
          simp only [Option.bind_some, decide_true, Bool.not_true, Bool.false_eq_true, if_false]
          rw [hly]
          simp only [Option.bind_some]
          rw [if_pos (by rw [List.length_map, List.length_map, octs_len, lay_len, List.length_take]; exact Nat.le_trans (by omega : _ ≤ 100) (by decide)), hnext, octs_append, octs_one, List.map_append, Int.toNat_natCast]
        · unfold rickyardref15_Read.s0
          rw [decide_eq_false (show ¬ (((8 : Nat) : Int) < 8) by decide), if_neg (by decide), List.take_of_length_le (by omega)]
      rw [loop]
      rfl
    · rw [if_pos rfl]
      have loop : loopM (rickyardref15_Read.s0 fu (refD d b) line) fu ([], 0) = some (.inl ([], 3)) := by
        obtain ⟨k, rfl⟩ : ∃ k, fu = k + 1 := ⟨fu - 1, by omega⟩
        unfold loopM
        have := hld 0 (by decide)
        rw [ho, if_pos rfl] at this
        unfold rickyardref15_Read.s0
        have w3 : IntKind.i64.wrap (8 * line + 0) = 8 * line + ((0 : Nat) : Int) := by rw [w64 (by omega) (by omega)]; rfl
        simp only [w1, w3]
        rw [this]
        rfl
      rw [loop]
      rfl
  · rw [decide_eq_true hi, if_pos rfl, if_neg hi]
    rfl
def doP (d : Dev) (a : S_rickyardlaw15_Act) : Dev :=
  if a.Kind = 0 then (writeD d a.At a.B).2 else if a.Kind = 1 then (wordD d a.At a.I a.A.W).2 else if a.Kind = 2 then (fenceD d).2 else if a.Kind = 3 then d else (doD d a.A).2
def baseP (d : Dev) (a : S_rickyardlaw15_Act) (b : Int) : Int := if a.Kind = 0 ∨ a.Kind = 1 ∨ a.Kind = 2 ∨ a.Kind = 3 then b else baseA d a.A b
def okP (a : S_rickyardlaw15_Act) : Prop := okA a.A ∧ Bytes a.B
theorem doP_eq {fu n : Nat} {B b : Int} {d : Dev} {a : S_rickyardlaw15_Act} (h : RefOk n B d b) (hB : B + 9 < 9223372036854775807) (hn : n ≤ 100000) (ha : okP a) (hf : n + 2000 < fu) : rickyardlaw15_do.f fu d (refD d b) a = some (true, doP d a, refD (doP d a) (baseP d a b)) ∧ RefOk n (B + 9) (doP d a) (baseP d a b) := by
  unfold rickyardlaw15_do.f doP baseP
  by_cases k0 : a.Kind = 0
  · have h1 := rwrite_eq (fu := fu) (line := a.At) h hB hn ha.2 (by omega)
    rw [decide_eq_true k0, if_pos rfl, if_pos k0, if_pos (.inl k0), write_eq h.ok (by omega) hn ha.2 (by omega), h1.1]
    simp only [Option.bind_some, decide_true]
    exact ⟨trivial, h1.2⟩
  rw [decide_eq_false k0, if_neg (by decide), if_neg k0]
  by_cases k1 : a.Kind = 1
  · have h1 := rword_eq (fu := fu) (line := a.At) (i := a.I) h hB hn ha.1.2.2.1 (by omega)
    rw [decide_eq_true k1, if_pos rfl, if_pos k1, if_pos (.inr (.inl k1)), word_eq h.ok (by omega) hn ha.1.2.2.1 (by omega), h1.1]
    simp only [Option.bind_some, decide_true]
    exact ⟨trivial, h1.2⟩
  rw [decide_eq_false k1, if_neg (by decide), if_neg k1]
  by_cases k2 : a.Kind = 2
  · have h1 := fenceR (fu := fu) h (by omega) hn (by omega)
    rw [decide_eq_true k2, if_pos rfl, if_pos k2, if_pos (.inr (.inr (.inl k2))), sure_eq h.ok (by omega) hn (by omega), h1.1]
    simp only [Option.bind_some, decide_true]
    exact ⟨trivial, h1.2.up (by omega)⟩
  rw [decide_eq_false k2, if_neg (by decide), if_neg k2]
  by_cases k3 : a.Kind = 3
  · rw [decide_eq_true k3, if_pos rfl, if_pos k3, if_pos (.inr (.inr (.inr k3))), read_dev h.ok hn (by omega), rread_eq h hn (by omega)]
    simp only [Option.bind_some, decide_true, if_true]
    exact ⟨trivial, h.up (by omega)⟩
  rw [decide_eq_false k3, if_neg (by decide), if_neg k3, if_neg (by omega)]
  have h1 := doR (fu := fu) h (by omega) hn ha.1 (by omega)
  rw [do_eq h.ok (by omega) hn ha.1 (by omega), h1.1]
  simp only [Option.bind_some]
  exact ⟨trivial, h1.2.up (by omega)⟩
/-- Acts that aren't too great. -/
def SmallP (acts : List S_rickyardlaw15_Act) (m : Nat) : Prop := acts.length ≤ m ∧ ∀ a ∈ acts, a.B.length ≤ 200 ∧ a.A.L.length ≤ 40
instance (acts : List S_rickyardlaw15_Act) (m : Nat) : Decidable (SmallP acts m) := inferInstanceAs (Decidable (_ ∧ _))
theorem smallP_eq {fu m : Nat} {acts : List S_rickyardlaw15_Act} (hm : m ≤ 1000) (hf : m < fu) : rickyardlaw15_small.f fu acts (m : Int) = some (decide (SmallP acts m)) := by
  unfold rickyardlaw15_small.f
  by_cases h1 : acts.length ≤ m
  · have c : ¬ (acts.length : Int) > (m : Int) := by omega
    rw [decide_eq_false c, if_neg (by decide)]
    have hs : ∀ j : Nat, j < acts.length → rickyardlaw15_small.s0 fu acts (j : Int) = some (if (ix acts (j : Int)).B.length ≤ 200 ∧ (ix acts (j : Int)).A.L.length ≤ 40 then .inr ((j + 1 : Nat) : Int) else .inl (.inl false)) := by
      intro j hj
      unfold rickyardlaw15_small.s0
      have c1 : 0 ≤ (j : Int) ∧ (j : Int) < (acts.length : Int) := by omega
      rw [decide_eq_true c1.2, if_pos rfl, if_pos c1, if_pos c1, next64 hj (by omega)]
      by_cases e1 : (ix acts (j : Int)).B.length ≤ 200
      · rw [decide_eq_false (show ¬ ((ix acts (j : Int)).B.length : Int) > 200 by omega), if_neg (by decide)]
        by_cases e : (ix acts (j : Int)).A.L.length ≤ 40
        · rw [decide_eq_false (show ¬ ((ix acts (j : Int)).A.L.length : Int) > 40 by omega), if_pos ⟨e1, e⟩]
          rfl
        · rw [decide_eq_true (show ((ix acts (j : Int)).A.L.length : Int) > 40 by omega), if_neg (fun q => e q.2)]
          rfl
      · rw [decide_eq_true (show ((ix acts (j : Int)).B.length : Int) > 200 by omega), if_pos rfl, if_neg (fun q => e1 q.1)]
        rfl
    by_cases h2 : ∀ a ∈ acts, a.B.length ≤ 200 ∧ a.A.L.length ≤ 40
    · have : loopM (rickyardlaw15_small.s0 fu acts) fu 0 = some (.inr ()) := by
        refine loopM_run (S := fun j => (j : Int)) acts.length rfl (fun j hj => by rw [hs j hj, ix_nat hj, if_pos (h2 _ (List.getElem_mem hj))]) ?_ (by omega)
        unfold rickyardlaw15_small.s0
        rw [decide_eq_false (show ¬ ((acts.length : Int) < (acts.length : Int)) by omega), if_neg (by decide)]
      rw [this, decide_eq_true (show SmallP acts m from ⟨h1, h2⟩)]
      rfl
    · have : loopM (rickyardlaw15_small.s0 fu acts) fu 0 = some (.inl false) := by
        refine loopM_bad (S := fun j => (j : Int)) acts.length (fun j => (ix acts (j : Int)).B.length ≤ 200 ∧ (ix acts (j : Int)).A.L.length ≤ 40) rfl ?_ (fun j hj _ hg => by rw [hs j hj, if_pos hg]) (fun j hj _ hg => by rw [hs j hj, if_neg hg]) (by omega)
        apply Classical.byContradiction
        intro hx
        refine h2 fun a ha => ?_
        obtain ⟨i, hi, rfl⟩ := List.getElem_of_mem ha
        refine Classical.byContradiction fun hg => hx ⟨i, hi, ?_⟩
        rw [ix_nat hi]
        exact hg
      rw [this, decide_eq_false (show ¬ SmallP acts m from fun q => h2 q.2)]
      rfl
  · have c : (acts.length : Int) > (m : Int) := by omega
    rw [decide_eq_true c, if_pos rfl, decide_eq_false (show ¬ SmallP acts m from fun q => h1 q.1)]
theorem okP_of {a : S_rickyardlaw15_Act} (h : ok_rickyardlaw15_Act a) (hl : a.A.L.length ≤ 40) : okP a := by
  obtain ⟨_, _, _, hB, hA⟩ := h
  exact ⟨okA_of hA hl, fun x hx => wf8.1 (hB.1 x hx)⟩
def tupR (i : Int) (d : Dev) (m : Ref) := (i, d.cells, d.plan.list, d.plan.at_, d.off, d.armed, d.left, d.steps, m.Lasts, m.Stored, m.Sent, m.Flushed, m.Plan, m.Since, m.Left, m.Steps)
theorem PressActs : ∀ (a0 : Int) (a1 : List S_rickyardlaw15_Act), (Lit.int .u8 a0).wf = true → ((∀ x ∈ a1, ok_rickyardlaw15_Act x) ∧ List.length a1 ≤ maxLen) → ∃ fu, rickyardlaw15_PressActs.f fu a0 a1 = some true := by
  intro n0 acts hn hacts
  refine ⟨FU, ?_⟩
  unfold rickyardlaw15_PressActs.f
  have hsm : rickyardlaw15_small.f FU acts 30 = some (decide (SmallP acts 30)) := smallP_eq (m := 30) (by decide) (by decide)
  rw [awake15', hsm]
  simp only [Option.bind_some, Bool.not_true, Bool.false_eq_true, if_false]
  by_cases hS : SmallP acts 30
  rotate_left
  · rw [decide_eq_false hS]
    rfl
  rw [decide_eq_true hS]
  have h8 := wf8.1 hn
  have hw : Int.tmod (IntKind.i64.wrap n0) 5 = ((n0 % 5).toNat : Int) := by
    rw [w64 (by omega) (by omega), Int.tmod_eq_emod_of_nonneg h8.1]
    omega
  have hk : (n0 % 5).toNat ≤ 4 := by omega
  simp only [Bool.not_true, Bool.false_eq_true, if_false]
  have hstep : ∀ (k : Nat), Int.tmod (IntKind.i64.wrap n0) 5 = (k : Int) → k ≤ 4 → ((pmem_New.f FU (Int.tmod (IntKind.i64.wrap n0) 5) : Option ((Option S_pmem_Device) × Int)).bind fun t20 => (Option.elim t20.1 (some (false)) (fun m27 => ((rickyardref05_New.f FU (Int.tmod (IntKind.i64.wrap n0) 5) : Option S_rickyardref05_Device).bind fun t38 => ((loopM (rickyardlaw15_PressActs.s0 FU n0 acts) FU (0, m27.cells, m27.plan.list, m27.plan.at_, m27.off, m27.armed, m27.left, m27.steps, t38.Lasts, t38.Stored, t38.Sent, t38.Flushed, t38.Plan, t38.Since, t38.Left, t38.Steps)).bind fun e69 => match e69 with | Sum.inl p => some p | Sum.inr x72 => some (true)))))) = some true := by
    intro k hkk hk4
    have hnew : pmem_New.f FU (k : Int) = some (some (newD (8 * k)), 0) := new_eq (by omega)
    have hrn : rickyardref05_New.f FU (k : Int) = some (refD (newD (8 * k)) 0) := rnew_eq (by omega)
    rw [hkk, hnew, hrn]
    simp only [Option.bind_some, Option.elim_some]
    have hokA : ∀ a ∈ acts, okP a := fun a h => okP_of (hacts.1 a h) (hS.2 a h).2
    have loop : ∃ e, loopM (rickyardlaw15_PressActs.s0 FU n0 acts) FU (tupR 0 (newD (8 * k)) (refD (newD (8 * k)) 0)) = some e ∧ ∃ z, e = .inr z := by
      refine loopM_inv (fun j z => ∃ (d : Dev) (b : Int), z = tupR (j : Int) d (refD d b) ∧ RefOk (8 * k) (9 * (j : Int)) d b) acts.length _ ?_ ?_ (j := 0) ⟨_, 0, rfl, newR_ok _⟩ (by omega) (by have := hS.1; show _ < 200000; omega)
      · rintro j _ hj ⟨d, b, rfl, hd⟩
        have hS1 := hS.1
        have c1 : 0 ≤ (j : Int) ∧ (j : Int) < (acts.length : Int) := by omega
        have hoa := hokA _ (List.getElem_mem hj)
        have hdo := doP_eq (fu := FU) hd (by omega) (by omega) hoa (by show _ < 200000; omega)
        have hat : I64 (ix acts (j : Int)).At := by
          rw [ix_nat hj]
          exact wf64.1 (hacts.1 _ (List.getElem_mem hj)).2.1
        unfold rickyardlaw15_PressActs.s0 tupR
        have hrec : (⟨(ix acts (j : Int)).Kind, (ix acts (j : Int)).At, (ix acts (j : Int)).I, (ix acts (j : Int)).B, (ix acts (j : Int)).A⟩ : S_rickyardlaw15_Act) = acts[j] := by
          rw [ix_nat hj]
        simp only [eta, eta8, hrec, hkk]
        rw [decide_eq_true c1.2, if_pos rfl, if_pos c1, next64 hj (by omega), hdo.1]
        generalize hD : doP d acts[j] = D at *
        generalize hbb : baseP d acts[j] b = b' at *
        obtain ⟨_, hd3⟩ := hdo
        generalize hA : (ix acts (j : Int)).At = A at *
        have hlen := hd3.ok.len
        have i1 : pmem_Device_Image.f FU D = some (octs (lastsD D)) := image_eq hd3.ok (by omega) (by show _ < 200000; omega)
        have i2 : pmem_Device_View.f FU D = some (octs (storedD D)) := view_eq hd3.ok (by omega) (by show _ < 200000; omega)
        have i3 : pmem_Device_Fates.f FU D = some (fatesD D) := fates_eq hd3.ok (by omega) (by show _ < 200000; omega)
        have i4 : rickyardref05_Device_Fates.f FU (refD D b') = some (fatesD D) := rfates_eq hd3.ok (by omega) (by show _ < 200000; omega)
        have hfl : (fatesD D).length ≤ 8 * k := by
          have := fatesU_le D D.cells.length
          unfold fatesD
          omega
        have i5 : rickyardref05_Same.f FU (fatesD D) (fatesD D) = some true := same_eq (by omega) (by show _ < 200000; omega)
        have hLu : ∀ w ∈ lastsD D, U64 w := fun w hw => by
          obtain ⟨c, hc, rfl⟩ := List.mem_map.1 hw
          exact (hd3.ok.val c hc).1
        have hll : (lastsD D).length = 8 * k := by simp [lastsD, hlen]
        have i6 : rickyardref05_Text.f FU (refD D b').Lasts = some ((octs (lastsD D)).map toB) := text_eq hLu (by show (lastsD D).length ≤ _; omega) (by show (lastsD D).length + 8 < 200000; omega)
        have i7 : rickyardref05_Text.f FU (refD D b').Stored = some ((octs (storedD D)).map toB) := text_eq (fun w hw => by
          obtain ⟨c, hc, rfl⟩ := List.mem_map.1 hw
          exact (hd3.ok.val c hc).2.1) (by simp [refD, toM, storedD, hlen]; omega) (by simp only [refD, toM, storedD, List.length_map, hlen]; show _ < 200000; omega)
        have i9 : (refD D b').Steps = D.steps := rfl
        have i10 : (refD D b').Lasts = lastsD D := rfl
        have i11 : press_Lasts.f FU D A = some (if inL D A then (octs (lineL D A), true) else ([], false)) := plasts_eq hd3.ok (by omega) (by show _ < 200000; omega)
        have hinl : inL D A ↔ A ≥ 0 ∧ A < (k : Int) := by
          unfold inL
          rw [hlen]
          omega
        simp only [Option.bind_some, Bool.not_true, Bool.false_eq_true, if_false]
        rw [steps_eq, i1, i2, i3, i4, i6, i7, i9]
        simp only [Option.bind_some, decide_true, Bool.not_true, Bool.false_eq_true, if_false]
        rw [i5]
        simp only [Option.bind_some, decide_true, Bool.not_true, Bool.false_eq_true, if_false]
        rw [if_pos c1, i11]
        simp only [Option.bind_some, if_pos c1, i10]
        refine ⟨tupR ((j + 1 : Nat) : Int) D (refD D b'), ?_, D, b', rfl, hd3.up (by omega)⟩
        by_cases hi : inL D A
        · have hA2 := hinl.1 hi
          obtain ⟨q, rfl⟩ : ∃ q : Nat, A = (q : Int) := ⟨A.toNat, by omega⟩
          have w1 : IntKind.i64.wrap (8 * (q : Int)) = ((8 * q : Nat) : Int) := by rw [w64 (by omega) (by omega)]; omega
          have w2 : IntKind.i64.wrap (((8 * q : Nat) : Int) + 8) = ((8 * q + 8 : Nat) : Int) := by rw [w64 (by omega) (by omega)]; omega
          have hcut := lineL_cut (d := D) (k := q) (by omega)
          have hLLu : ∀ w ∈ lineL D (q : Int), U64 w := by
            intro w hw
            rw [← hcut] at hw
            exact hLu w (List.mem_of_mem_take (List.mem_of_mem_drop hw))
          have htx : rickyardref05_Text.f FU (cut (lastsD D) ((8 * q : Nat) : Int) ((8 * q + 8 : Nat) : Int)) = some ((octs (lineL D (q : Int))).map toB) := by
            rw [hcut]
            exact text_eq hLLu (by simp [lineL]) (by show _ < 200000; simp [lineL])
          rw [if_pos hi, w1, w2, decide_eq_true hA2.1, decide_eq_true hA2.2, htx, hll]
          simp only [Option.bind_some, decide_true, Bool.not_true, Bool.false_eq_true, if_false, if_true]
          rw [if_pos (by omega)]
          rfl
        · rw [if_neg hi]
          have hA2 : ¬ (A ≥ 0 ∧ A < (k : Int)) := fun q => hi (hinl.2 q)
          by_cases h0 : A ≥ 0
          · rw [decide_eq_true h0, decide_eq_false (show ¬ A < (k : Int) from fun q => hA2 ⟨h0, q⟩)]
            rfl
          · rw [decide_eq_false h0]
            rfl
      · rintro _ ⟨d, b, rfl, _⟩
        unfold rickyardlaw15_PressActs.s0 tupR
        rw [decide_eq_false (show ¬ ((acts.length : Int) < (acts.length : Int)) by omega), if_neg (by decide)]
        exact ⟨_, rfl, _, rfl⟩
    obtain ⟨e, h1, z, rfl⟩ := loop
    unfold tupR at h1
    rw [h1]
    rfl
  exact hstep _ hw hk
end Go.Proofs.Ytklhbaghbmndeaa.Pure
namespace Go.Proofs.Ytklhbaghbmndeaa.pressActs
open Go.ChangeShapes Go.WideShapes Go.ChangeAt Go.RowKit
open Go.ChangeMaps (open_string shut_string)
open Go Go.Xw
theorem own : ownKnob Try.prog.godebug = none := Facts.own
theorem laidOut : laidOutB Try.prog = true := Facts.laid
theorem closed : joinedFacts Try.pinned.checked.prog 13 Try.f13 Rows.pressActsSpec Rows.pressActsRow = true := by
  unfold joinedFacts
  rw [Facts.enter, Facts.lifts, Facts.make, Facts.laid, Facts.rowed, Facts.plain, Facts.heard]
  kernel_rfl
theorem enc_seg {α : Type} (K : Kd α) (a : α) : K.enc a = cellsOf [Kd.seg K a] := by simp [cellsOf, Kd.seg]
def start : Input := ⟨#[], #[.int .u8 0, .slice none 0 0], []⟩
set_option maxRecDepth 100000 in
set_option maxHeartbeats 1000000 in
theorem lifted (os : Os) (started : os.Started) (H : Type) (enc : TypeId × Value → H) :
    ReturnsInHanded {} Try.checked os 13 .any (Rows.pressActsSpec.pre6 enc Try.prog Try.f13 Rows.pressActsRow.domain false) (Rows.pressActsSpec.post enc Try.prog Try.f13 false true false false) := by
  refine returnsInHanded_of_change_sized (C := Try.checked) own started (by kernel_rfl) Try.func13
    (ChangeSpec.witness6 (enc := enc) (C := Try.checked) false start 8 (by kernel_rfl) (by kernel_rfl) (by kernel_rfl) (by kernel_rfl)) ?_
  intro W base args ds gs before hval0 hW hcnd hsz0 _
  have hval : ∀ (j : Nat) t v, Try.f13.params[j]? = some t → args[j]? = some v → Value.okWide Try.prog W .any base t v := hval0
  have hW' := hW
  obtain ⟨p, q, hA0, hV, rfl, hfz, hnd⟩ := hW
  have hA : DataW.TrodAll enc Try.prog W 0 (fun _ => true) true Try.f13.params.toList args.toList ds p := hA0
  rw [Try.params13] at hA hval
  obtain ⟨v0, vs0, d0, ds0, p0, q0, hargs, rfl, rfl, h0, r0⟩ := trodAll_cons hA
  obtain ⟨v1, vs1, d1, ds1, p1, q1, rfl, rfl, rfl, h1, r1⟩ := trodAll_cons r0
  obtain ⟨rfl, rfl, rfl⟩ := trodAll_nil r1
  obtain rfl : args = #[v0, v1] := by cases args; simp_all
  obtain ⟨rfl, rfl⟩ := trodVars_none hV
  obtain ⟨a0, rfl, rfl, rfl, w0⟩ := open_int Try.underlying5 (hval 0 5 v0 rfl rfl) h0
  have k1 := h1
  have lt1 : ∀ x ∈ p1, x.block < W.heap.size := by obtain ⟨m, hm⟩ := k1; exact DataW.trod_lt m _ _ _ hm
  obtain ⟨fu1, hf1⟩ := h1
  obtain ⟨aa1, len1, cap1, rfl⟩ := okWide_slice Try.underlying82 (hval 1 82 v1 rfl rfl)
  obtain ⟨a1, V1_0, e1, R1_0, o1, l1, _⟩ := (opn_sliceN (n := 8) (D := D_rickyardlaw15_Act) (ok := ok_rickyardlaw15_Act) (w := W) Try.underlying82 (by kernel_rfl) (by decide) (fun enc base sp held fuel cs x h => by obtain ⟨a, V0, V1, R0, R1, e, o⟩ := opn_rickyardlaw15_Act enc base sp held fuel cs x h; exact ⟨a, ⟨V0, R0, V1, R1, e⟩, o, by rw [e, len_cellsOf]; rfl, by rw [e]; exact one_cellsOf _⟩)) enc _ _ _ _ _ _ hf1
  obtain rfl : Value.slice aa1 len1 cap1 = V1_0 := by simpa [Value.cells] using e1
  obtain ⟨fu, hfu⟩ := Pure.PressActs a0 a1 w0 ⟨o1, l1⟩
  refine Calls.mono (rickyardlaw15_PressActs.ok fu W a0 a1 _ R1_0 true hfu) fun e W' hr => ?_
  obtain ⟨v, rfl, rfl, gr⟩ := hr
  have bel := Fr.below gr
  exact ⟨_, rfl, _, _, _, [], _, [], hW', trodAll_mk1 (shut_bool Try.underlying4 _), (trodAll_cons_mk (shut_int Try.underlying5 w0) (trodAll_cons_mk (Below.trod laidOut (by kernel_rfl) (of_decide_eq_true (by kernel_rfl)) k1 bel lt1) trodAll_mk0)), rfl, bel.frame _, fun h => by cases h⟩
theorem over : Rows.pressActsRow.holds Try.pinned (OpenSpec.ofChange Rows.pressActsSpec) :=
  OpenClaim.holds_of_wide 13 Try.f13 rfl rfl rfl rfl rfl rfl rfl ⟨rfl, rfl, rfl, rfl, rfl⟩ rfl rfl rfl rfl rfl (by kernel_rfl) Try.func13 closed
    (of_decide_eq_true (by kernel_rfl)) (by unfold Func.isWrapper; first | (rw [if_pos (by decide +kernel)]; kernel_rfl) | (rw [if_neg (by decide +kernel)]; exact ⟨rfl, rfl⟩))
    (fun os started H enc _ => lifted os started H enc)
theorem proved : Rows.PressActsSaid := over
end Go.Proofs.Ytklhbaghbmndeaa.pressActs
namespace Go.Proofs.Ytklhbaghbmndeaa
/-- The law holds. -/
theorem pressActs_holds : Rows.PressActsSaid := pressActs.proved
#print axioms pressActs_holds
end Go.Proofs.Ytklhbaghbmndeaa
