/- FateCrashes: texts merged, part 6 of 6. The last part proves that the law FateCrashes holds for every input. -/
import Derived.Test.YtklhbaghbmndeaaPkFateCrashes5
set_option maxRecDepth 100000
set_option maxHeartbeats 4000000
set_option linter.unusedVariables false
set_option linter.unusedSimpArgs false
namespace Go.Proofs.Ytklhbaghbmndeaa.Pure
open Go Go.Xw
def lay (v n : Nat) : List Int := (List.range n).map fun i => ((v / 256 ^ i % 256 : Nat) : Int)
theorem lay_len (v n : Nat) : (lay v n).length = n := by simp [lay]
theorem lay_succ (v n : Nat) : lay v (n + 1) = lay v n ++ [((v / 256 ^ n % 256 : Nat) : Int)] := by
  simp [lay, List.range_succ]
theorem lay_bytes (v n : Nat) : Bytes (lay v n) := by
  intro x hx
  simp only [lay, List.mem_map] at hx
  obtain ⟨i, _, rfl⟩ := hx
  omega
theorem wu8_mod {n : Nat} : IntKind.u8.wrap (n : Int) = ((n % 256 : Nat) : Int) := by
  unfold IntKind.wrap
  simp only [IntKind.signed, IntKind.bits]
  simp
theorem shr64 (n : Nat) : shR .u64 (n : Int) 8 = ((n / 256 : Nat) : Int) := by
  unfold shR
  show Int.fdiv (n : Int) (2 ^ min ((8 : Int).toNat) 64) = _
  rw [show (2 : Int) ^ min ((8 : Int).toNat) 64 = 256 from by decide, Int.fdiv_eq_ediv_of_nonneg _ (by decide)]
  omega
theorem olay_eq {fu v n : Nat} (hn : n ≤ 8) (hf : n < fu) : octet_Lay.f fu (v : Int) (n : Int) = some (lay v n) := by
  unfold octet_Lay.f
  have h0 : ¬ ((n : Int) < 0) := by omega
  have h8 : ¬ ((n : Int) > 8) := by omega
  have hL : Int.toNat (n : Int) ≤ LIM := by
    have : (8 : Nat) ≤ LIM := by decide
    omega
  simp only [h0, h8, decide_false, Bool.false_eq_true, if_false]
  rw [if_pos ⟨by omega, hL⟩]
  have : loopM (octet_Lay.s0 fu (n : Int)) fu ((v : Int), 0, List.replicate (Int.toNat (n : Int)) (0 : Int)) = some (lay v n) := by
    refine loopM_run (S := fun j => (((v / 256 ^ j : Nat) : Int), (j : Int), lay v j ++ List.replicate (n - j) (0 : Int))) n (by simp [lay]) ?_ ?_ hf
    · intro j hj
      unfold octet_Lay.s0
      have w3 : IntKind.i64.wrap ((j : Int) + 1) = ((j + 1 : Nat) : Int) := by rw [w64 (by omega) (by omega)]; omega
      have e1 : (List.replicate (Int.toNat (n : Int)) (0 : Int)).length = n := by simp
      have e2 : (lay v j ++ List.replicate (n - j) (0 : Int)).length = n := by rw [List.length_append, lay_len, List.length_replicate]; omega
      have e3 : List.set (lay v j ++ List.replicate (n - j) (0 : Int)) (Int.toNat (j : Int)) (IntKind.u8.wrap ((v / 256 ^ j : Nat) : Int)) = lay v (j + 1) ++ List.replicate (n - (j + 1)) (0 : Int) := by
        rw [Int.toNat_natCast, List.set_append, if_neg (by rw [lay_len]; omega), lay_len, Nat.sub_self, wu8_mod, lay_succ, show n - j = n - (j + 1) + 1 from by omega, List.replicate_succ]
        simp
      have e4 : shR .u64 ((v / 256 ^ j : Nat) : Int) 8 = ((v / 256 ^ (j + 1) : Nat) : Int) := by
        rw [shr64, Nat.div_div_eq_div_mul, Nat.pow_succ]
      have h1 : (j : Int) < (n : Int) := by omega
      simp only [e1, e2, e3, e4, w3, h1, decide_true, if_true]
      rw [if_pos ⟨by omega, trivial⟩]
    · unfold octet_Lay.s0
      simp
  rw [this]
  rfl
def num : List Int → Nat
  | [] => 0
  | c :: l => c.toNat + 256 * num l
theorem num_append : ∀ (a b : List Int), num (a ++ b) = num a + 256 ^ a.length * num b
  | [], b => by simp [num]
  | c :: a, b => by
    simp only [List.cons_append, num, num_append a b, List.length_cons, Nat.pow_succ]
    rw [Nat.mul_add, Nat.add_assoc, ← Nat.mul_assoc, Nat.mul_comm 256 (256 ^ a.length)]
theorem num_lt : ∀ {l : List Int}, Bytes l → num l < 256 ^ l.length
  | [], _ => by simp [num]
  | c :: l, h => by
    have h1 := h c (by simp)
    have h2 := num_lt (l := l) fun x hx => h x (by simp [hx])
    simp only [num, List.length_cons, Nat.pow_succ]
    omega
theorem lay_num : ∀ {l : List Int}, Bytes l → lay (num l) l.length = l
  | [], _ => rfl
  | c :: l, h => by
    have h1 := h c (by simp)
    have h2 := lay_num (l := l) fun x hx => h x (by simp [hx])
    have e : lay (num (c :: l)) (l.length + 1) = c :: lay (num l) l.length := by
      unfold lay
      rw [List.range_succ_eq_map, List.map_cons, List.map_map]
      congr 1
      · simp only [num, Nat.pow_zero, Nat.div_one]
        omega
      · apply List.map_congr_left
        intro i hi
        simp only [Function.comp, num, Nat.succ_eq_add_one, Nat.pow_succ]
        rw [Nat.mul_comm (256 ^ i) 256, ← Nat.div_div_eq_div_mul, show (c.toNat + 256 * num l) / 256 = num l from by omega]
    rw [List.length_cons, e, h2]
theorem num_lay (v : Nat) : ∀ n, num (lay v n) = v % 256 ^ n
  | 0 => by simp [lay, num, Nat.mod_one]
  | n + 1 => by
    rw [lay_succ, num_append, num_lay v n, lay_len]
    simp only [num]
    rw [Int.toNat_natCast, Nat.mul_zero, Nat.add_zero, Nat.pow_succ, Nat.mod_mul]
theorem or_add (a c j : Nat) (ha : a < 256 ^ j) : a ||| c * 256 ^ j = a + 256 ^ j * c := by
  have e : 256 ^ j = 2 ^ (8 * j) := by rw [Nat.pow_mul]
  rw [e] at ha ⊢
  rw [Nat.mul_comm c, Nat.or_comm, ← Nat.two_pow_add_eq_or_of_lt ha, Nat.add_comm]
theorem read_eq {fu : Nat} {l : List Int} (hb : Bytes l) (hl : l.length ≤ 8) (hf : l.length < fu) : octet_Read.f fu l = some ((num l : Nat) : Int) := by
  unfold octet_Read.f
  have hm : mnI (l.length : Int) 8 = (l.length : Int) := by
    unfold mnI
    split <;> omega
  have hc : cut l 0 (l.length : Int) = l := by
    unfold cut
    simp
  rw [hm, if_pos ⟨by omega, Int.le_refl _⟩]
  have : loopM (octet_Read.s0 fu l) fu (0, 0) = some ((num l : Nat) : Int) := by
    refine loopM_run (S := fun j => (((num (l.take j) : Nat) : Int), (j : Int))) l.length (by simp [num]) ?_ ?_ hf
    · intro j hj
      unfold octet_Read.s0
      rw [hm, hc]
      have h1 : (j : Int) < (l.length : Int) := by omega
      have w3 : IntKind.i64.wrap ((j : Int) + 1) = ((j + 1 : Nat) : Int) := by rw [w64 (by omega) (by omega)]; omega
      have w4 : IntKind.i64.wrap (8 * (j : Int)) = ((8 * j : Nat) : Int) := by rw [w64 (by omega) (by omega)]; omega
      have hcb := hb _ (List.getElem_mem hj)
      obtain ⟨c, hc'⟩ : ∃ c : Nat, l[j] = (c : Int) := ⟨l[j].toNat, by omega⟩
      have hlt : num (l.take j) < 256 ^ j := by
        have := num_lt (l := l.take j) fun x hx => hb x (List.mem_of_mem_take hx)
        rwa [List.length_take, Nat.min_eq_left (by omega)] at this
      have e256 : (256 : Nat) ^ j * 256 ≤ 256 ^ 8 := by
        rw [← Nat.pow_succ]
        exact Nat.pow_le_pow_right (by decide) (by omega)
      have e8 : (256 : Nat) ^ 8 = 18446744073709551616 := by decide
      have hcj : c * 256 ^ j < 18446744073709551616 := by
        have : c * 256 ^ j ≤ 255 * 256 ^ j := Nat.mul_le_mul_right _ (by omega)
        have : 0 < 256 ^ j := Nat.pow_pos (by decide)
        omega
      have e1 : shL .u64 (IntKind.u64.wrap (ix l (j : Int))) ((8 * j : Nat) : Int) = ((c * 256 ^ j : Nat) : Int) := by
        rw [ix_nat hj, hc', wu64 (by omega) (by omega)]
        unfold shL
        rw [Int.toNat_natCast, Nat.min_eq_left (by show 8 * j ≤ 64; omega)]
        have : (c : Int) * 2 ^ (8 * j) = ((c * 256 ^ j : Nat) : Int) := by
          have h256 : ((256 ^ j : Nat) : Int) = 2 ^ (8 * j) := by
            rw [Int.natCast_pow, Int.pow_mul]
            exact congrArg (fun z : Int => z ^ j) (by decide : ((256 : Nat) : Int) = 2 ^ 8)
          rw [Int.natCast_mul, h256]
        rw [this, wu64 (by omega) (by omega)]
      have e2 : bOr .u64 ((num (l.take j) : Nat) : Int) ((c * 256 ^ j : Nat) : Int) = ((num (l.take (j + 1)) : Nat) : Int) := by
        unfold bOr
        show IntKind.u64.wrap (((BitVec.ofInt 64 ((num (l.take j) : Nat) : Int) ||| BitVec.ofInt 64 ((c * 256 ^ j : Nat) : Int)).toNat : Nat) : Int) = _
        rw [BitVec.ofInt_natCast, BitVec.ofInt_natCast, BitVec.toNat_or, BitVec.toNat_ofNat, BitVec.toNat_ofNat, Nat.mod_eq_of_lt (by omega), Nat.mod_eq_of_lt (by omega), or_add _ _ _ hlt, take_next hj, num_append]
        have hs : num (l.take j) + 256 ^ j * c < 18446744073709551616 := by
          rw [Nat.mul_comm]
          have : c * 256 ^ j ≤ 255 * 256 ^ j := Nat.mul_le_mul_right _ (by omega)
          omega
        rw [wu64 (by omega) (by omega)]
        simp only [num, hc', Int.toNat_natCast, List.length_take, Nat.min_eq_left (by omega : j ≤ l.length), Nat.mul_zero, Nat.add_zero]
      simp only [h1, decide_true, if_true, w4, e1, e2, w3]
      rw [if_pos ⟨by omega, trivial⟩, if_pos (by omega)]
    · unfold octet_Read.s0
      rw [hm, hc]
      simp
  rw [this]
  rfl
abbrev Cell := S_pmem_cell
abbrev Dev := S_pmem_Device
def keepC (c : Cell) (w : Int) : Cell := ⟨w, c.stored, 0, false⟩
def openC (c : Cell) : Bool := c.flushed || !decide (c.stored = c.lasts)
def evict (p : Int) (cs : List Cell) : List Cell := cs.mapIdx fun i c => if 0 ≤ p ∧ (i : Int) = p % (cs.length : Int) then keepC c c.stored else c
def pick (p : S_pmem_plan) : Int := if p.list.length = 0 then -1 else ix p.list p.at_
def nextP (p : S_pmem_plan) : S_pmem_plan := if p.list.length = 0 then p else ⟨p.list, (p.at_ + 1) % (p.list.length : Int)⟩
def tick (d : Dev) : Dev := ⟨evict (pick d.plan) d.cells, nextP d.plan, if d.armed then decide (d.left - 1 = 0) else d.off, d.armed, if d.armed then d.left - 1 else d.left, d.steps + 1⟩
def mayI (off : Bool) (k n : Int) : Int := if off = true then 3 else if k < 0 ∨ k ≥ n then 2 else 0
def putC (k w : Int) (cs : List Cell) : List Cell := cs.mapIdx fun i c => if (i : Int) = k then ⟨c.lasts, w, c.sent, c.flushed⟩ else c
def sendC (c : Cell) : Cell := ⟨c.lasts, c.stored, c.stored, true⟩
def sendL (k : Int) (cs : List Cell) : List Cell := cs.mapIdx fun i c => if 8 * k ≤ (i : Int) ∧ (i : Int) < 8 * k + 8 then sendC c else c
def fenceC (c : Cell) : Cell := if c.flushed = true then keepC c c.sent else c
def withC (d : Dev) (cs : List Cell) : Dev := ⟨cs, d.plan, d.off, d.armed, d.left, d.steps⟩
def storeD (d : Dev) (k w : Int) : Int × Dev := if mayI d.off k (d.cells.length : Int) = 0 then (0, tick (withC d (putC k w d.cells))) else (mayI d.off k (d.cells.length : Int), d)
def loadD (d : Dev) (k : Int) : Int × Int := if mayI d.off k (d.cells.length : Int) = 0 then ((ix d.cells k).stored, 0) else (0, mayI d.off k (d.cells.length : Int))
def flushD (d : Dev) (k : Int) : Int × Dev := if mayI d.off k ((d.cells.length / 8 : Nat) : Int) = 0 then (0, tick (withC d (sendL k d.cells))) else (mayI d.off k ((d.cells.length / 8 : Nat) : Int), d)
def fenceD (d : Dev) : Int × Dev := if d.off = true then (3, d) else (0, tick (withC d (d.cells.map fenceC)))
def armD (d : Dev) (n : Int) : Dev := if d.off = true then d else ⟨d.cells, d.plan, decide (n = 0), decide (n ≥ 0), n, d.steps⟩
def planD (d : Dev) (l : List Int) : Dev := ⟨d.cells, ⟨l, 0⟩, d.off, d.armed, d.left, d.steps⟩
def fateC (c : Cell) (n : Int) : Int := if n % 3 = 2 then c.stored else if n % 3 = 1 ∧ c.flushed = true then c.sent else c.lasts
def opens (cs : List Cell) (i : Nat) : Nat := ((cs.take i).filter openC).length
def crashC (c : Cell) (n : Int) : Cell := if openC c = true then ⟨fateC c n, fateC c n, 0, false⟩ else ⟨c.lasts, c.lasts, c.sent, c.flushed⟩
def crashL (l : List Int) (cs : List Cell) : List Cell := cs.mapIdx fun i c => crashC c (l.getD (opens cs i) 0)
def crashD (d : Dev) (l : List Int) : Dev := ⟨crashL l d.cells, ⟨[], 0⟩, false, false, 0, d.steps⟩
def doD (d : Dev) (a : S_rickyardlaw05_Act) : (Int × Int) × Dev :=
  if a.Kind % 7 = 0 then ((0, (storeD d a.At a.W).1), (storeD d a.At a.W).2)
  else if a.Kind % 7 = 1 then (loadD d a.At, d)
  else if a.Kind % 7 = 2 then ((0, (flushD d a.At).1), (flushD d a.At).2)
  else if a.Kind % 7 = 3 then ((0, (fenceD d).1), (fenceD d).2)
  else if a.Kind % 7 = 4 then ((0, 0), armD d a.At)
  else if a.Kind % 7 = 5 then ((0, 0), planD d a.L)
  else ((0, 0), crashD d a.L)
def I64 (x : Int) : Prop := -9223372036854775808 ≤ x ∧ x ≤ 9223372036854775807
def U64 (x : Int) : Prop := 0 ≤ x ∧ x ≤ 18446744073709551615
def okC (c : Cell) : Prop := U64 c.lasts ∧ U64 c.stored ∧ U64 c.sent
structure DevOk (n : Nat) (B : Int) (d : Dev) : Prop where
  len : d.cells.length = n
  val : ∀ c ∈ d.cells, okC c
  at0 : d.plan.list.length ≠ 0 → 0 ≤ d.plan.at_ ∧ d.plan.at_ < (d.plan.list.length : Int)
  pl : d.plan.list.length ≤ 1000
  arm : d.armed = true → 0 ≤ d.left ∧ d.left ≤ 9223372036854775807 ∧ d.off = decide (d.left = 0)
  una : d.armed = false → d.off = false
  st : 0 ≤ d.steps ∧ d.steps ≤ B
theorem pnext_eq {fu : Nat} {p : S_pmem_plan} (h0 : p.list.length ≠ 0 → 0 ≤ p.at_ ∧ p.at_ < (p.list.length : Int)) (hl : p.list.length ≤ 1000) : pmem_plan_next__i0.f fu p = some (pick p, nextP p) := by
  unfold pmem_plan_next__i0.f pick nextP
  by_cases e : p.list.length = 0
  · have e' : (p.list.length : Int) = 0 := by omega
    rw [decide_eq_true e', if_pos rfl, if_pos e, if_pos e]
  · have e' : ¬ (p.list.length : Int) = 0 := by omega
    have h := h0 e
    rw [decide_eq_false e', if_neg (by decide), if_pos h, if_pos e', if_neg e, if_neg e, w64 (by omega) (by omega), Int.tmod_eq_emod_of_nonneg (by omega)]
theorem set_upd {cs : List Cell} {k : Nat} (g : Cell → Cell) (hk : k < cs.length) : cs.set k (g (ix cs (k : Int))) = cs.mapIdx fun i c => if i = k then g c else c := by
  rw [ix_nat hk]
  apply List.ext_getElem (by simp)
  intro i h1 h2
  rw [List.getElem_set, List.getElem_mapIdx]
  by_cases e : k = i
  · subst e
    simp
  · rw [if_neg e, if_neg (fun q => e q.symm)]
theorem evict_no {p : Int} (cs : List Cell) (h : ¬ 0 ≤ p) : evict p cs = cs := by
  apply List.ext_getElem (by simp [evict])
  intro i h1 h2
  simp only [evict, List.getElem_mapIdx]
  rw [if_neg fun q => h q.1]
theorem evict_nil {p : Int} : evict p [] = [] := by simp [evict]
theorem dstep_eq {fu n : Nat} {B : Int} {d : Dev} (h : DevOk n B d) (hB : B < 9223372036854775807) (ho : d.off = false) : pmem_Device_step.f fu d = some (tick d) := by
  unfold pmem_Device_step.f
  rw [pnext_eq h.at0 h.pl]
  have hs := h.st
  have w1 : IntKind.i64.wrap (d.steps + 1) = d.steps + 1 := w64 (by omega) (by omega)
  have hc : ∀ q, q = pick d.plan → ((if (if (decide (q ≥ 0)) = true then (decide ((List.length d.cells : Int) > 0)) else false) = true then (if (List.length d.cells : Int) ≠ 0 then (if 0 ≤ (Int.tmod q (List.length d.cells : Int)) ∧ (Int.tmod q (List.length d.cells : Int)) < (List.length d.cells : Int) then ((pmem_cell_keep__i0.f fu (ix d.cells (Int.tmod q (List.length d.cells : Int))) ((ix d.cells (Int.tmod q (List.length d.cells : Int))).stored) : Option S_pmem_cell).bind fun t35 => some ((List.set d.cells (Int.toNat (Int.tmod q (List.length d.cells : Int))) t35))) else none) else none) else some (d.cells)) : Option (List S_pmem_cell)) = some (evict q d.cells) := by
    intro q _
    by_cases hq : q ≥ 0
    · rw [decide_eq_true hq]
      by_cases hl : (List.length d.cells : Int) > 0
      · rw [decide_eq_true hl, Int.tmod_eq_emod_of_nonneg hq]
        have hm0 := Int.emod_nonneg q (show (List.length d.cells : Int) ≠ 0 by omega)
        have hm1 := Int.emod_lt_of_pos q hl
        have e1 : (List.length d.cells : Int) ≠ 0 := by omega
        simp only [if_true, e1, ne_eq, not_false_eq_true, hm0, hm1, and_self, pmem_cell_keep__i0.f, Option.bind_some]
        obtain ⟨k, hk⟩ : ∃ k : Nat, q % (List.length d.cells : Int) = (k : Int) := ⟨(q % (List.length d.cells : Int)).toNat, by omega⟩
        have hkl : k < d.cells.length := by omega
        rw [hk, Int.toNat_natCast]
        refine congrArg some ((set_upd (fun c => keepC c c.stored) hkl).trans ?_)
        apply List.ext_getElem (by simp [evict])
        intro i h1 h2
        simp only [evict, List.getElem_mapIdx, hk]
        by_cases e : i = k
        · rw [if_pos e, if_pos ⟨hq, by omega⟩]
        · rw [if_neg e, if_neg fun z => e (by omega)]
      · have : d.cells = [] := List.length_eq_zero_iff.1 (by omega)
        rw [this]
        simp [evict]
    · rw [evict_no _ hq, decide_eq_false hq]
      simp
  have hd : ∀ (r : List Cell), ((((if d.armed = true then some ((decide ((IntKind.i64.wrap (d.left - 1)) = 0)), (IntKind.i64.wrap (d.left - 1))) else some (d.off, d.left)) : Option (Bool × Int)).bind fun x45 => some ((⟨r, (⟨d.plan.list, (nextP d.plan).at_⟩ : S_pmem_plan), x45.1, d.armed, x45.2, (IntKind.i64.wrap (d.steps + 1))⟩ : S_pmem_Device))) : Option Dev) = some ⟨r, nextP d.plan, if d.armed then decide (d.left - 1 = 0) else d.off, d.armed, if d.armed then d.left - 1 else d.left, d.steps + 1⟩ := by
    intro r
    have hp : (⟨d.plan.list, (nextP d.plan).at_⟩ : S_pmem_plan) = nextP d.plan := by
      unfold nextP
      split <;> rfl
    rw [w1, hp]
    cases ha : d.armed
    · simp
    · have := h.arm ha
      rw [ho] at this
      have : d.left ≠ 0 := by
        intro e
        rw [e] at this
        exact absurd this.2.2 (by decide)
      rw [w64 (by omega) (by omega)]
      simp
  simp only [Option.bind_some]
  rw [hc _ rfl]
  exact hd _
theorem evict_len (p : Int) (cs : List Cell) : (evict p cs).length = cs.length := by simp [evict]
theorem keep_ok {c : Cell} {w : Int} (h : okC c) (hw : U64 w) : okC (keepC c w) := ⟨hw, h.2.1, by unfold U64; simp [keepC]⟩
theorem mapIdx_ok {cs : List Cell} {g : Nat → Cell → Cell} (h : ∀ c ∈ cs, okC c) (hg : ∀ i c, okC c → okC (g i c)) : ∀ c ∈ cs.mapIdx g, okC c := by
  intro c hc
  obtain ⟨i, hi, rfl⟩ := List.getElem_of_mem hc
  rw [List.getElem_mapIdx]
  exact hg _ _ (h _ (List.getElem_mem _))
theorem evict_ok {p : Int} {cs : List Cell} (h : ∀ c ∈ cs, okC c) : ∀ c ∈ evict p cs, okC c := by
  refine mapIdx_ok h fun i c hc => ?_
  split
  · exact keep_ok hc hc.2.1
  · exact hc
theorem tick_ok {n : Nat} {B : Int} {d : Dev} (h : DevOk n B d) (ho : d.off = false) : DevOk n (B + 1) (tick d) := by
  refine ⟨?_, ?_, ?_, ?_, ?_, ?_, ?_⟩
  · exact (evict_len _ _).trans h.len
  · exact evict_ok h.val
  · intro e
    by_cases z : d.plan.list.length = 0
    · exact absurd (by simp [tick, nextP, z]) e
    · have : (tick d).plan = ⟨d.plan.list, (d.plan.at_ + 1) % (d.plan.list.length : Int)⟩ := by simp [tick, nextP, z]
      rw [this]
      exact ⟨Int.emod_nonneg _ (by omega), Int.emod_lt_of_pos _ (by omega)⟩
  · by_cases z : d.plan.list.length = 0
    · simp [tick, nextP, z]
    · simp only [tick, nextP, z, if_false]
      exact h.pl
  · intro ha
    have ha' : d.armed = true := ha
    have := h.arm ha'
    have hl : d.left ≠ 0 := by
      intro e
      rw [e, ho] at this
      exact absurd this.2.2 (by decide)
    simp only [tick, ha', if_true]
    exact ⟨by omega, by omega, trivial⟩
  · intro ha
    have ha' : d.armed = false := ha
    simp only [tick, ha', Bool.false_eq_true, if_false]
    exact h.una ha'
  · have := h.st
    simp only [tick]
    omega
theorem DevOk.up {n : Nat} {B C : Int} {d : Dev} (h : DevOk n B d) (hc : B ≤ C) : DevOk n C d := ⟨h.len, h.val, h.at0, h.pl, h.arm, h.una, ⟨h.st.1, by have := h.st; omega⟩⟩
theorem with_ok {n : Nat} {B : Int} {d : Dev} (h : DevOk n B d) {cs : List Cell} (hl : cs.length = n) (hv : ∀ c ∈ cs, okC c) : DevOk n B (withC d cs) := ⟨hl, hv, h.at0, h.pl, h.arm, h.una, h.st⟩
theorem may_eq {fu : Nat} {d : Dev} {k m : Int} : pmem_Device_may.f fu d k m = some (mayI d.off k m) := by
  unfold pmem_Device_may.f mayI
  cases d.off
  · simp only [Bool.false_eq_true, if_false]
    by_cases h1 : k < 0
    · simp [h1]
    · by_cases h2 : k ≥ m <;> simp [h1, h2]
  · simp
theorem may_zero {b : Bool} {k m : Int} : mayI b k m = 0 ↔ b = false ∧ 0 ≤ k ∧ k < m := by
  unfold mayI
  cases b
  · simp only [Bool.false_eq_true, if_false]
    split <;> simp <;> omega
  · simp
theorem ix_set {α : Type} [Inhabited α] {l : List α} {k : Nat} {v : α} (h : k < l.length) : ix (l.set k v) (k : Int) = v := by
  rw [ix_nat (by simpa using h)]
  simp
theorem store_eq {fu n : Nat} {B k w : Int} {d : Dev} (h : DevOk n B d) (hB : B < 9223372036854775807) (hw : U64 w) : pmem_Device_Store.f fu d k w = some (storeD d k w) := by
  unfold pmem_Device_Store.f storeD
  rw [may_eq]
  simp only [Option.bind_some]
  by_cases e : mayI d.off k (d.cells.length : Int) = 0
  · obtain ⟨ho, h0, h1⟩ := may_zero.1 e
    rw [decide_eq_true e, if_pos e, if_neg (by decide), if_pos ⟨h0, h1⟩]
    obtain ⟨j, rfl⟩ : ∃ j : Nat, k = (j : Int) := ⟨k.toNat, by omega⟩
    have e1 : List.set d.cells (Int.toNat (j : Int)) (⟨(ix d.cells (j : Int)).lasts, w, (ix d.cells (j : Int)).sent, (ix d.cells (j : Int)).flushed⟩ : S_pmem_cell) = putC (j : Int) w d.cells := by
      rw [Int.toNat_natCast]
      refine (set_upd (fun c => ⟨c.lasts, w, c.sent, c.flushed⟩) (by omega)).trans ?_
      apply List.ext_getElem (by simp [putC])
      intro i h1 h2
      simp only [putC, List.getElem_mapIdx, Int.natCast_inj]
    have e2 : pmem_Device_step.f fu (⟨putC (j : Int) w d.cells, d.plan, d.off, d.armed, d.left, d.steps⟩ : S_pmem_Device) = some (tick (withC d (putC (j : Int) w d.cells))) := by
      refine dstep_eq (with_ok h (by simp [putC, h.len]) (mapIdx_ok h.val fun i c hc => ?_)) hB ho
      split
      · exact ⟨hc.1, hw, hc.2.2⟩
      · exact hc
    rw [e1, e2]
    rfl
  · rw [decide_eq_false e, if_neg e, if_pos (by decide)]
theorem load_eq {fu : Nat} {k : Int} {d : Dev} : pmem_Device_Load.f fu d k = some (loadD d k) := by
  unfold pmem_Device_Load.f loadD
  rw [may_eq]
  simp only [Option.bind_some]
  by_cases e : mayI d.off k (d.cells.length : Int) = 0
  · obtain ⟨ho, h0, h1⟩ := may_zero.1 e
    rw [decide_eq_true e, if_pos e, if_neg (by decide), if_pos ⟨h0, h1⟩]
  · rw [decide_eq_false e, if_neg e, if_pos (by decide)]
theorem lines_eq {fu : Nat} {d : Dev} (h : d.cells.length ≤ 1000000) : pmem_Device_Lines.f fu d = some ((d.cells.length / 8 : Nat) : Int) := by
  unfold pmem_Device_Lines.f
  rw [Int.tdiv_eq_ediv_of_nonneg (by omega), w64 (by omega) (by omega)]
  congr 1
theorem send_loop {fu : Nat} {cs : List Cell} {k : Nat} (h : 8 * k + 8 ≤ cs.length) (hl : cs.length ≤ 1000000) (hf : 8 < fu) : loopM (pmem_Device_Flush.s0 fu (k : Int)) fu (0, cs) = some (sendL (k : Int) cs) := by
  refine loopM_run (S := fun j => ((j : Int), upd (fun _ c => sendC c) (8 * k) j cs)) 8 (by rw [upd_zero]; rfl) ?_ ?_ hf
  · intro j hj
    unfold pmem_Device_Flush.s0
    have w1 : IntKind.i64.wrap ((k : Int) * 8) = ((8 * k : Nat) : Int) := by rw [w64 (by omega) (by omega)]; omega
    have w2 : IntKind.i64.wrap (((8 * k : Nat) : Int) + (j : Int)) = ((8 * k + j : Nat) : Int) := by rw [w64 (by omega) (by omega)]; omega
    have w3 : IntKind.i64.wrap ((j : Int) + 1) = ((j + 1 : Nat) : Int) := by rw [w64 (by omega) (by omega)]; omega
    have hlt : 8 * k + j < (upd (fun _ c => sendC c) (8 * k) j cs).length := by rw [upd_len]; omega
    have c1 : 0 ≤ ((8 * k + j : Nat) : Int) ∧ ((8 * k + j : Nat) : Int) < ((upd (fun _ c => sendC c) (8 * k) j cs).length : Int) := by omega
    have c2 : (j : Int) < 8 := by omega
    simp only [w1, w2, w3]
    rw [decide_eq_true c2, if_pos rfl, if_pos c1, Int.toNat_natCast, ix_set hlt, List.set_set, ix_nat hlt, upd_next _ _ _ _ (by omega)]
    refine congrArg (fun z => some (Sum.inr (((j + 1 : Nat) : Int), z))) ?_
    exact upd_set (fun _ c => sendC c) (8 * k) j cs (by omega)
  · unfold pmem_Device_Flush.s0
    rw [decide_eq_false (show ¬ (((8 : Nat) : Int) < 8) by decide), if_neg (by decide)]
    refine congrArg (fun z => some (Sum.inl z)) ?_
    apply List.ext_getElem (by simp [upd, sendL])
    intro i h1 h2
    simp only [upd, sendL, List.getElem_mapIdx]
    by_cases c : 8 * k ≤ i ∧ i < 8 * k + 8
    · rw [if_pos c, if_pos (by omega)]
    · rw [if_neg c, if_neg (by omega)]
theorem sendL_ok {cs : List Cell} {k : Int} (h : ∀ c ∈ cs, okC c) : ∀ c ∈ sendL k cs, okC c := by
  refine mapIdx_ok h fun i c hc => ?_
  split
  · exact ⟨hc.1, hc.2.1, hc.2.1⟩
  · exact hc
theorem flush_eq {fu n : Nat} {B k : Int} {d : Dev} (h : DevOk n B d) (hB : B < 9223372036854775807) (hn : n ≤ 1000000) (hf : 8 < fu) : pmem_Device_Flush.f fu d k = some (flushD d k) := by
  unfold pmem_Device_Flush.f flushD
  have hl : d.cells.length ≤ 1000000 := by rw [h.len]; exact hn
  rw [lines_eq hl]
  simp only [Option.bind_some]
  rw [may_eq]
  simp only [Option.bind_some]
  by_cases e : mayI d.off k ((d.cells.length / 8 : Nat) : Int) = 0
  · obtain ⟨ho, h0, h1⟩ := may_zero.1 e
    rw [decide_eq_true e, if_pos e, if_neg (by decide)]
    obtain ⟨j, rfl⟩ : ∃ j : Nat, k = (j : Int) := ⟨k.toNat, by omega⟩
    rw [send_loop (by omega) hl hf]
    have e2 : pmem_Device_step.f fu (⟨sendL (j : Int) d.cells, d.plan, d.off, d.armed, d.left, d.steps⟩ : S_pmem_Device) = some (tick (withC d (sendL (j : Int) d.cells))) :=
      dstep_eq (with_ok h (by simp [sendL, h.len]) (sendL_ok h.val)) hB ho
    simp only [Option.bind_some]
    rw [e2]
    rfl
  · rw [decide_eq_false e, if_neg e, if_pos (by decide)]
theorem fence_loop {fu : Nat} {d : Dev} (hl : d.cells.length ≤ 1000000) (hf : d.cells.length < fu) : loopM (pmem_Device_Fence.s0 fu d) fu (0, d.cells) = some (d.cells.map fenceC) := by
  refine loopM_run (S := fun j => ((j : Int), upd (fun _ c => fenceC c) 0 j d.cells)) d.cells.length (by rw [upd_zero]; rfl) ?_ ?_ hf
  · intro j hj
    unfold pmem_Device_Fence.s0
    have w3 : IntKind.i64.wrap ((j : Int) + 1) = ((j + 1 : Nat) : Int) := by rw [w64 (by omega) (by omega)]; omega
    have hlt : j < (upd (fun _ c => fenceC c) 0 j d.cells).length := by rw [upd_len]; omega
    have hnx : (upd (fun _ c => fenceC c) 0 j d.cells)[j] = d.cells[j] := by
      rw [upd_get, if_neg (by omega)]
    have c1 : 0 ≤ (j : Int) ∧ (j : Int) < ((upd (fun _ c => fenceC c) 0 j d.cells).length : Int) := by omega
    have c2 : (j : Int) < (d.cells.length : Int) := by omega
    simp only [w3]
    rw [decide_eq_true c2, if_pos rfl, if_pos c1, Int.toNat_natCast, ix_nat hlt, hnx]
    have hs := upd_set (fun _ c => fenceC c) 0 j d.cells (by omega)
    simp only [Nat.zero_add] at hs
    cases hfl : d.cells[j].flushed
    · have : fenceC d.cells[j] = d.cells[j] := by simp [fenceC, hfl]
      have := upd_same (fun _ c => fenceC c) 0 j d.cells (by omega) (by simpa using this)
      simp only [Bool.false_eq_true, if_false, Option.bind_some]
      rw [this]
    · have : fenceC d.cells[j] = keepC d.cells[j] d.cells[j].sent := by simp [fenceC, hfl]
      rw [this] at hs
      simp only [if_true, pmem_cell_keep__i0.f, Option.bind_some]
      refine congrArg (fun z => some (Sum.inr (((j + 1 : Nat) : Int), z))) hs
  · unfold pmem_Device_Fence.s0
    rw [decide_eq_false (by omega), if_neg (by decide)]
    refine congrArg (fun z => some (Sum.inl z)) ?_
    show upd (fun _ c => fenceC c) 0 d.cells.length d.cells = _
    rw [upd_all]
    apply List.ext_getElem (by simp)
    intro i h1 h2
    simp
theorem fence_okC {c : Cell} (h : okC c) : okC (fenceC c) := by
  unfold fenceC
  split
  · exact keep_ok h h.2.2
  · exact h
theorem fence_eq {fu n : Nat} {B : Int} {d : Dev} (h : DevOk n B d) (hB : B < 9223372036854775807) (hn : n ≤ 1000000) (hf : n < fu) : pmem_Device_Fence.f fu d = some (fenceD d) := by
  unfold pmem_Device_Fence.f fenceD
  rw [may_eq]
  simp only [Option.bind_some]
  cases ho : d.off
  · have e : mayI false 0 1 = 0 := by decide
    rw [e, if_neg (by decide), if_neg (by decide), fence_loop (by rw [h.len]; exact hn) (by rw [h.len]; exact hf)]
    have e2 : pmem_Device_step.f fu (⟨d.cells.map fenceC, d.plan, d.off, d.armed, d.left, d.steps⟩ : S_pmem_Device) = some (tick (withC d (d.cells.map fenceC))) :=
      dstep_eq (with_ok h (by simp [h.len]) (fun c hc => by
        obtain ⟨x, hx, rfl⟩ := List.mem_map.1 hc
        exact fence_okC (h.val x hx))) hB ho
    rw [ho] at e2
    simp only [Option.bind_some]
    rw [e2]
    rfl
  · have e : mayI true 0 1 = 3 := by decide
    rw [e]
    rfl
theorem arm_eq {fu : Nat} {d : Dev} {k : Int} : pmem_Device_Arm.f fu d k = some (armD d k) := by
  unfold pmem_Device_Arm.f armD
  split <;> rfl
theorem plan_eq {fu : Nat} {d : Dev} {l : List Int} (hl : l.length ≤ 1000000) : pmem_Device_Plan.f fu d l = some (planD d l) := by
  unfold pmem_Device_Plan.f slices_Clone_1.f planD
  rw [if_pos (Nat.le_trans hl (by decide))]
  rfl
theorem openr_eq {fu : Nat} {c : Cell} : pmem_cell_open__r0.f fu c = some (openC c) := by
  unfold pmem_cell_open__r0.f openC
  cases c.flushed <;> rfl
theorem fater_eq {fu : Nat} {c : Cell} {n : Int} (hn : I64 n) : pmem_cell_fate__r0.f fu c n = some (fateC c n) := by
  unfold pmem_cell_fate__r0.f fateC
  have hr : Int.tmod n 3 = n % 3 ∧ 0 ≤ n ∨ Int.tmod n 3 = n % 3 - 3 ∧ n < 0 ∧ n % 3 ≠ 0 ∨ Int.tmod n 3 = 0 ∧ n % 3 = 0 := by
    rcases Int.lt_or_le n 0 with h | h
    · have e1 : Int.tmod n 3 = -(Int.tmod (-n) 3) := by rw [Int.neg_tmod, Int.neg_neg]
      have e2 : Int.tmod (-n) 3 = (-n) % 3 := Int.tmod_eq_emod_of_nonneg (by omega)
      omega
    · exact .inl ⟨Int.tmod_eq_emod_of_nonneg h, h⟩
  generalize Int.tmod n 3 = t at *
  generalize hq : n % 3 = q at *
  have hq3 : 0 ≤ q ∧ q < 3 := by omega
  have : q = 0 ∧ t = 0 ∨ q = 1 ∧ (t = 1 ∨ t = -2) ∨ q = 2 ∧ (t = 2 ∨ t = -1) := by omega
  rcases this with ⟨rfl, rfl⟩ | ⟨rfl, rfl | rfl⟩ | ⟨rfl, rfl | rfl⟩ <;> cases c.flushed <;> rfl
theorem opens_succ {cs : List Cell} {j : Nat} (h : j < cs.length) : opens cs (j + 1) = opens cs j + (if openC cs[j] = true then 1 else 0) := by
  unfold opens
  rw [take_next h, List.filter_append, List.length_append]
  cases hc : openC cs[j] <;> simp [hc]
theorem crash_loop {fu : Nat} {d : Dev} {l : List Int} (hl : d.cells.length ≤ 1000000) (hi : ∀ x ∈ l, I64 x) (hf : d.cells.length < fu) : loopM (pmem_Device_Crash.s0 fu d) fu (l, 0, d.cells) = some (crashL l d.cells) := by
  refine loopM_run (S := fun j => (l.drop (opens d.cells j), (j : Int), upd (fun i c => crashC c (l.getD (opens d.cells i) 0)) 0 j d.cells)) d.cells.length (by rw [upd_zero]; simp [opens]) ?_ ?_ hf
  · intro j hj
    unfold pmem_Device_Crash.s0
    have w3 : IntKind.i64.wrap ((j : Int) + 1) = ((j + 1 : Nat) : Int) := by rw [w64 (by omega) (by omega)]; omega
    have hlt : j < (upd (fun i c => crashC c (l.getD (opens d.cells i) 0)) 0 j d.cells).length := by rw [upd_len]; omega
    have hnx : (upd (fun i c => crashC c (l.getD (opens d.cells i) 0)) 0 j d.cells)[j] = d.cells[j] := by
      rw [upd_get, if_neg (by omega)]
    have hs := upd_set (fun i c => crashC c (l.getD (opens d.cells i) 0)) 0 j d.cells (by omega)
    simp only [Nat.zero_add] at hs
    rw [opens_succ hj]
    have c1 : 0 ≤ (j : Int) ∧ (j : Int) < ((upd (fun i c => crashC c (l.getD (opens d.cells i) 0)) 0 j d.cells).length : Int) := by omega
    have c2 : (j : Int) < (d.cells.length : Int) := by omega
    simp only [w3]
    rw [decide_eq_true c2, if_pos rfl, if_pos c1, Int.toNat_natCast, ix_nat hlt, hnx, openr_eq]
    generalize hU : upd (fun i c => crashC c (l.getD (opens d.cells i) 0)) 0 j d.cells = U at *
    simp only [Option.bind_some]
    cases ho : openC d.cells[j]
    · have : crashC d.cells[j] (l.getD (opens d.cells j) 0) = ⟨d.cells[j].lasts, d.cells[j].lasts, d.cells[j].sent, d.cells[j].flushed⟩ := by simp [crashC, ho]
      rw [this] at hs
      simp only [Bool.false_eq_true, if_false, Option.bind_some, ix_nat hlt, hnx, hlt, Int.ofNat_lt, if_true, Nat.add_zero]
      rw [hs]
    · have hx : ∀ v, ix (U.set j (keepC d.cells[j] v)) (j : Int) = keepC d.cells[j] v := fun v => ix_set hlt
      have key : ∀ v, v = l.getD (opens d.cells j) 0 → (U.set j (keepC d.cells[j] (fateC d.cells[j] v))).set j (⟨fateC d.cells[j] v, fateC d.cells[j] v, 0, false⟩ : S_pmem_cell) = upd (fun i c => crashC c (l.getD (opens d.cells i) 0)) 0 (j + 1) d.cells := by
        intro v hv
        rw [List.set_set, hv, ← hs]
        simp [crashC, ho]
      have hlt2 : ∀ v, (j : Int) < (((U.set j v)).length : Int) := fun v => by rw [List.length_set]; omega
      simp only [if_true]
      by_cases hd : opens d.cells j < l.length
      · have e0 : (List.length (l.drop (opens d.cells j)) : Int) > 0 := by rw [List.length_drop]; omega
        have e1 : (1 : Int) ≤ (List.length (l.drop (opens d.cells j)) : Int) := by omega
        have e2 : ix (l.drop (opens d.cells j)) 0 = l.getD (opens d.cells j) 0 := by
          rw [show (0 : Int) = ((0 : Nat) : Int) from rfl, ix_nat (by omega)]
          simp [List.getD_eq_getElem?_getD, List.getElem?_eq_getElem hd]
        have e3 : cut (l.drop (opens d.cells j)) 1 (List.length (l.drop (opens d.cells j)) : Int) = l.drop (opens d.cells j + 1) := by
          unfold cut
          rw [Int.toNat_natCast, List.take_length, show Int.toNat 1 = 1 from rfl, List.drop_drop]
        have e4 : I64 (l.getD (opens d.cells j) 0) := by
          rw [getD_of _ _ _ hd]
          exact hi _ (List.getElem_mem hd)
        rw [decide_eq_true e0, if_pos rfl, if_pos e0, if_pos e1, e2, e3]
        simp only [Option.bind_some]
        rw [fater_eq e4]
        simp only [Option.bind_some, pmem_cell_keep__i0.f]
        rw [if_pos (hlt2 _), if_pos (hlt2 _)]
        have := key _ rfl
        simp only [keepC] at this hx ⊢
        rw [hx]
        rw [this]
      · have e0 : ¬ (List.length (l.drop (opens d.cells j)) : Int) > 0 := by rw [List.length_drop]; omega
        have e2 : l.getD (opens d.cells j) 0 = 0 := by
          rw [List.getD_eq_getElem?_getD, List.getElem?_eq_none (by omega)]
          rfl
        have e3 : l.drop (opens d.cells j) = l.drop (opens d.cells j + 1) := by
          rw [List.drop_eq_nil_of_le (by omega), List.drop_eq_nil_of_le (by omega)]
        rw [decide_eq_false e0, if_neg (by decide)]
        simp only [Option.bind_some]
        rw [fater_eq (show I64 0 by unfold I64; omega)]
        simp only [Option.bind_some, pmem_cell_keep__i0.f]
        rw [if_pos (hlt2 _), if_pos (hlt2 _)]
        have := key 0 e2.symm
        simp only [keepC] at this hx ⊢
        rw [hx, this, e3]
  · unfold pmem_Device_Crash.s0
    rw [decide_eq_false (show ¬ ((d.cells.length : Int) < (d.cells.length : Int)) by omega), if_neg (by decide)]
    refine congrArg (fun z => some (Sum.inl z)) ?_
    exact upd_all _ _
theorem crash_eq {fu n : Nat} {B : Int} {d : Dev} {l : List Int} (h : DevOk n B d) (hn : n ≤ 1000000) (hi : ∀ x ∈ l, I64 x) (hf : n < fu) : pmem_Device_Crash.f fu d l = some (crashD d l) := by
  unfold pmem_Device_Crash.f crashD
  rw [crash_loop (by rw [h.len]; exact hn) hi (by rw [h.len]; exact hf)]
  rfl
end Go.Proofs.Ytklhbaghbmndeaa.Pure
namespace Go.Proofs.Ytklhbaghbmndeaa
open Go Go.Xw
def rickyardref05_Text.s2 (fu : Nat) (a0 : List Int) (s1 : (List Int) × Int) : ((List Int) × Int) → Option (Sum (List Int) ((List Int) × Int)) := fun s15 => (if (decide (s15.2 < 8)) = true then (if 0 ≤ s1.2 ∧ s1.2 < (List.length a0 : Int) then (if 0 ≤ (IntKind.i64.wrap (8 * s15.2)) then (if List.length s15.1 + List.length [(IntKind.u8.wrap (shR .u64 (ix a0 s1.2) (IntKind.i64.wrap (8 * s15.2))))] ≤ LIM then some (Sum.inr ((s15.1 ++ [(IntKind.u8.wrap (shR .u64 (ix a0 s1.2) (IntKind.i64.wrap (8 * s15.2))))]), (IntKind.i64.wrap (s15.2 + 1)))) else none) else none) else none) else some (Sum.inl (s15.1)))
def rickyardref05_Text.s1 (fu : Nat) (a0 : List Int) : ((List Int) × Int) → Option (Sum (List Int) ((List Int) × Int)) := fun s1 => (if (decide (s1.2 < (List.length a0 : Int))) = true then ((loopM (rickyardref05_Text.s2 fu a0 s1) fu (s1.1, 0)).bind fun e16 => some (Sum.inr (e16, (IntKind.i64.wrap (s1.2 + 1))))) else some (Sum.inl (s1.1)))
def rickyardref05_Text.f (fu : Nat) (a0 : List Int) : Option (List UInt8) := ((loopM (rickyardref05_Text.s1 fu a0) fu ([], 0)).bind fun e2 => some ((List.map toB e2)))
end Go.Proofs.Ytklhbaghbmndeaa
namespace Go.Proofs.Ytklhbaghbmndeaa.Pure
open Go Go.Xw
def octs (ws : List Int) : List Int := ws.flatMap fun w => lay w.toNat 8
theorem octs_len : ∀ ws : List Int, (octs ws).length = 8 * ws.length
  | [] => rfl
  | w :: ws => by
    have := octs_len ws
    simp only [octs, List.flatMap_cons, List.length_append, lay_len, List.length_cons] at *
    omega
theorem octs_append (a b : List Int) : octs (a ++ b) = octs a ++ octs b := by simp [octs]
theorem octs_one (w : Int) : octs [w] = lay w.toNat 8 := by simp [octs]
theorem octsB (ws : List Int) : Bytes (octs ws) := by
  intro x hx
  obtain ⟨w, _, h⟩ := List.mem_flatMap.1 hx
  exact lay_bytes _ _ x h
theorem octets_eq {fu : Nat} {ws : List Int} (hv : ∀ w ∈ ws, U64 w) (hl : ws.length ≤ 100000) (hf : ws.length + 8 < fu) : octet_Octets.f fu ws = some (octs ws) := by
  unfold octet_Octets.f
  have : loopM (octet_Octets.s0 fu ws) fu ([], 0) = some (octs ws) := by
    refine loopM_run (S := fun j => (octs (ws.take j), (j : Int))) ws.length (by simp [octs]) ?_ ?_ (by omega)
    · intro j hj
      unfold octet_Octets.s0
      have w3 : IntKind.i64.wrap ((j : Int) + 1) = ((j + 1 : Nat) : Int) := by rw [w64 (by omega) (by omega)]; omega
      have c1 : 0 ≤ (j : Int) ∧ (j : Int) < (ws.length : Int) := by omega
      have hu := hv _ (List.getElem_mem hj)
      obtain ⟨v, hv'⟩ : ∃ v : Nat, ws[j] = (v : Int) := ⟨ws[j].toNat, by unfold U64 at hu; omega⟩
      simp only [w3]
      rw [decide_eq_true c1.2, if_pos rfl, if_pos c1, ix_nat hj, hv', show octet_Lay.f fu (v : Int) 8 = some (lay v 8) from olay_eq (n := 8) (by omega) (by omega)]
      simp only [Option.bind_some]
      rw [if_pos (by rw [octs_len, lay_len, List.length_take]; exact Nat.le_trans (by omega : _ ≤ 1000008) (by decide)), take_next hj, octs_append, octs_one, hv', Int.toNat_natCast]
    · unfold octet_Octets.s0
      rw [decide_eq_false (show ¬ ((ws.length : Int) < (ws.length : Int)) by omega), if_neg (by decide), List.take_length]
  rw [this]
  rfl
theorem set_next {l : List Int} {n j : Nat} {v : Int} (h : j < n) (hl : l.length = j) : (l ++ List.replicate (n - j) (0 : Int)).set j v = (l ++ [v]) ++ List.replicate (n - (j + 1)) (0 : Int) := by
  rw [List.set_append, if_neg (by omega), hl, Nat.sub_self, show n - j = n - (j + 1) + 1 from by omega, List.replicate_succ]
  simp
def lastsD (d : Dev) : List Int := d.cells.map fun c => c.lasts
def storedD (d : Dev) : List Int := d.cells.map fun c => c.stored
theorem image_eq {fu n : Nat} {B : Int} {d : Dev} (h : DevOk n B d) (hn : n ≤ 100000) (hf : n + 8 < fu) : pmem_Device_Image.f fu d = some (octs (lastsD d)) := by
  unfold pmem_Device_Image.f pmem_Device_octets__pmem_Device_Image_1.f
  have hl := h.len
  rw [if_pos ⟨by omega, Nat.le_trans (by omega : _ ≤ 100000) (by decide)⟩]
  have : loopM (pmem_Device_octets__pmem_Device_Image_1.s0 fu d) fu (0, (List.replicate (Int.toNat (List.length d.cells : Int)) (0 : Int))) = some (lastsD d) := by
    refine loopM_run (S := fun j => ((j : Int), (lastsD d).take j ++ List.replicate (d.cells.length - j) (0 : Int))) d.cells.length (by simp) ?_ ?_ (by omega)
    · intro j hj
      unfold pmem_Device_octets__pmem_Device_Image_1.s0
      have w3 : IntKind.i64.wrap ((j : Int) + 1) = ((j + 1 : Nat) : Int) := by rw [w64 (by omega) (by omega)]; omega
      have hjl : j < (lastsD d).length := by simpa [lastsD] using hj
      have ht : ((lastsD d).take j).length = j := by rw [List.length_take]; omega
      have c1 : 0 ≤ (j : Int) ∧ (j : Int) < (d.cells.length : Int) := by omega
      have c2 : 0 ≤ (j : Int) ∧ (j : Int) < (((lastsD d).take j ++ List.replicate (d.cells.length - j) (0 : Int)).length : Int) := by
        rw [List.length_append, ht, List.length_replicate]
        omega
      simp only [w3]
      rw [decide_eq_true c1.2, if_pos rfl, if_pos c1, ix_nat hj]
      simp only [pmem_Device_Image_1__r0.f, Option.bind_some]
      rw [if_pos c2, Int.toNat_natCast, set_next hj ht, take_next hjl]
      simp [lastsD]
    · unfold pmem_Device_octets__pmem_Device_Image_1.s0
      rw [decide_eq_false (show ¬ ((d.cells.length : Int) < (d.cells.length : Int)) by omega), if_neg (by decide), Nat.sub_self, List.take_of_length_le (by simp [lastsD])]
      simp
  rw [this]
  simp only [Option.bind_some]
  rw [octets_eq (fun w hw => by
    obtain ⟨c, hc, rfl⟩ := List.mem_map.1 hw
    exact (h.val c hc).1) (by simp [lastsD, hl, hn]) (by simp only [lastsD, List.length_map]; omega)]
  rfl
def fateD (d : Dev) (i : Nat) : S_api_Fate := ⟨(i : Int), (ix d.cells (i : Int)).lasts, (ix d.cells (i : Int)).flushed, (ix d.cells (i : Int)).sent, (ix d.cells (i : Int)).stored⟩
def fatesU (d : Dev) (j : Nat) : List S_api_Fate := ((List.range j).filter fun (i : Nat) => openC (ix d.cells (i : Int))).map (fateD d)
def fatesD (d : Dev) : List S_api_Fate := fatesU d d.cells.length
theorem fatesU_succ (d : Dev) (j : Nat) : fatesU d (j + 1) = fatesU d j ++ (if openC (ix d.cells (j : Int)) = true then [fateD d j] else []) := by
  unfold fatesU
  rw [List.range_succ, List.filter_append, List.map_append]
  cases h : openC (ix d.cells (j : Int)) <;> simp [h]
theorem fatesU_le (d : Dev) (j : Nat) : (fatesU d j).length ≤ j := by
  unfold fatesU
  rw [List.length_map]
  exact Nat.le_trans (List.length_filter_le _ _) (by simp)
theorem fates_eq {fu n : Nat} {B : Int} {d : Dev} (h : DevOk n B d) (hn : n ≤ 100000) (hf : n < fu) : pmem_Device_Fates.f fu d = some (fatesD d) := by
  unfold pmem_Device_Fates.f
  have hl := h.len
  have : loopM (pmem_Device_Fates.s0 fu d) fu ([], 0) = some (fatesD d) := by
    refine loopM_run (S := fun j => (fatesU d j, (j : Int))) d.cells.length (by simp [fatesU]) ?_ ?_ (by omega)
    · intro j hj
      unfold pmem_Device_Fates.s0
      have w3 : IntKind.i64.wrap ((j : Int) + 1) = ((j + 1 : Nat) : Int) := by rw [w64 (by omega) (by omega)]; omega
      have c1 : 0 ≤ (j : Int) ∧ (j : Int) < (d.cells.length : Int) := by omega
      have hle := fatesU_le d j
      simp only [w3]
      rw [decide_eq_true c1.2, if_pos rfl, if_pos c1, openr_eq, fatesU_succ]
      simp only [Option.bind_some]
      cases ho : openC (ix d.cells (j : Int))
      · simp
      · have hlim : (fatesU d j).length + List.length [(⟨(j : Int), (ix d.cells (j : Int)).lasts, (ix d.cells (j : Int)).flushed, (ix d.cells (j : Int)).sent, (ix d.cells (j : Int)).stored⟩ : S_api_Fate)] ≤ LIM := by
          simp only [List.length_cons, List.length_nil]
          exact Nat.le_trans (by omega : _ ≤ 100001) (by decide)
        rw [if_pos rfl, if_pos hlim]
        rfl
    · unfold pmem_Device_Fates.s0
      rw [decide_eq_false (show ¬ ((d.cells.length : Int) < (d.cells.length : Int)) by omega), if_neg (by decide)]
      rfl
  rw [this]
  rfl
def newD (n : Nat) : Dev := ⟨List.replicate n ⟨0, 0, 0, false⟩, ⟨[], 0⟩, false, false, 0, 0⟩
theorem new_eq {fu : Nat} {k : Nat} (hk : k ≤ 4096) : pmem_New.f fu (k : Int) = some (some (newD (8 * k)), 0) := by
  unfold pmem_New.f
  have h1 : ¬ (k : Int) < 0 := by omega
  have h2 : ¬ (k : Int) > 4096 := by omega
  have w : IntKind.i64.wrap ((k : Int) * 8) = ((8 * k : Nat) : Int) := by rw [w64 (by omega) (by omega)]; omega
  rw [decide_eq_false h1, decide_eq_false h2, if_neg (by decide), w, Int.toNat_natCast, if_pos ⟨by omega, Nat.le_trans (by omega : _ ≤ 100000) (by decide)⟩]
  rfl
theorem newD_ok (n : Nat) : DevOk n 0 (newD n) := by
  refine ⟨by simp [newD], fun c hc => ?_, fun h => absurd rfl h, by simp [newD], fun h => (by cases h), fun _ => rfl, by simp [newD]⟩
  rw [List.eq_of_mem_replicate hc]
  unfold okC U64
  simp
theorem arm_ok {n : Nat} {B k : Int} {d : Dev} (h : DevOk n B d) (hk : I64 k) : DevOk n B (armD d k) := by
  unfold armD
  cases ho : d.off
  · rw [if_neg (by decide)]
    refine ⟨h.len, h.val, h.at0, h.pl, fun ha => ?_, fun ha => ?_, h.st⟩
    · have : k ≥ 0 := by simpa using ha
      exact ⟨this, hk.2, rfl⟩
    · have : ¬ k ≥ 0 := by simpa using ha
      exact decide_eq_false (by omega)
  · rw [if_pos rfl]
    exact h
theorem plan_ok {n : Nat} {B : Int} {d : Dev} {l : List Int} (h : DevOk n B d) (hl : l.length ≤ 1000) : DevOk n B (planD d l) :=
  ⟨h.len, h.val, fun e => ⟨by simp [planD], by simp only [planD] at e ⊢; omega⟩, hl, h.arm, h.una, h.st⟩
theorem fateC_ok {c : Cell} {n : Int} (h : okC c) : U64 (fateC c n) := by
  unfold fateC
  split
  · exact h.2.1
  · split
    · exact h.2.2
    · exact h.1
theorem crashC_ok {c : Cell} {n : Int} (h : okC c) : okC (crashC c n) := by
  unfold crashC
  split
  · exact ⟨fateC_ok h, fateC_ok h, by unfold U64; simp⟩
  · exact ⟨h.1, h.1, h.2.2⟩
theorem crash_ok {n : Nat} {B : Int} {d : Dev} {l : List Int} (h : DevOk n B d) : DevOk n B (crashD d l) :=
  ⟨by simp [crashD, crashL, h.len], mapIdx_ok h.val fun i c hc => crashC_ok hc, fun e => absurd rfl e, by simp [crashD], fun e => (by cases e), fun _ => rfl, h.st⟩
theorem store_ok {n : Nat} {B k w : Int} {d : Dev} (h : DevOk n B d) (hw : U64 w) : DevOk n (B + 1) (storeD d k w).2 := by
  unfold storeD
  split
  · rename_i e
    refine tick_ok (with_ok h (by simp [putC, h.len]) (mapIdx_ok h.val fun i c hc => ?_)) (may_zero.1 e).1
    split
    · exact ⟨hc.1, hw, hc.2.2⟩
    · exact hc
  · exact h.up (by omega)
theorem flush_ok {n : Nat} {B k : Int} {d : Dev} (h : DevOk n B d) : DevOk n (B + 1) (flushD d k).2 := by
  unfold flushD
  split
  · rename_i e
    exact tick_ok (with_ok h (by simp [sendL, h.len]) (sendL_ok h.val)) (may_zero.1 e).1
  · exact h.up (by omega)
theorem fence_ok {n : Nat} {B : Int} {d : Dev} (h : DevOk n B d) : DevOk n (B + 1) (fenceD d).2 := by
  unfold fenceD
  cases ho : d.off
  · rw [if_neg (by decide)]
    exact tick_ok (with_ok h (by simp [h.len]) (fun c hc => by
        obtain ⟨x, hx, rfl⟩ := List.mem_map.1 hc
        exact fence_okC (h.val x hx))) ho
  · rw [if_pos rfl]
    exact h.up (by omega)
def okA (a : S_rickyardlaw05_Act) : Prop := I64 a.Kind ∧ I64 a.At ∧ U64 a.W ∧ (∀ x ∈ a.L, I64 x) ∧ a.L.length ≤ 1000
theorem do_ok {n : Nat} {B : Int} {d : Dev} {a : S_rickyardlaw05_Act} (h : DevOk n B d) (ha : okA a) : DevOk n (B + 1) (doD d a).2 := by
  unfold doD
  split
  · exact store_ok h ha.2.2.1
  split
  · exact h.up (by omega)
  split
  · exact flush_ok h
  split
  · exact fence_ok h
  split
  · exact (arm_ok h ha.2.1).up (by omega)
  split
  · exact (plan_ok h ha.2.2.2.2).up (by omega)
  · exact (crash_ok h).up (by omega)
theorem rest7_eq {fu : Nat} {k m : Int} (hk : I64 k) (hm : 0 < m ∧ m ≤ 1000) : rickyardref01_Rest.f fu k m = some (k % m) := by
  unfold rickyardref01_Rest.f
  have h0 : m ≠ 0 := by omega
  rw [if_pos h0, if_pos h0]
  have h1 := Int.emod_nonneg k h0
  have h2 := Int.emod_lt_of_pos k hm.1
  have e : Int.tmod k m = k % m ∨ Int.tmod k m = k % m - m := by
    rcases Int.lt_or_le k 0 with h | h
    · rw [Int.tmod_eq_emod]
      split
      · exact .inl (by omega)
      · right
        have : (m.natAbs : Int) = m := by omega
        omega
    · exact .inl (Int.tmod_eq_emod_of_nonneg h)
  congr 1
  rcases e with e | e
  · rw [e, w64 (by omega) (by omega), Int.tmod_eq_emod_of_nonneg (by omega), Int.add_emod_right, Int.emod_emod]
  · rw [e, show k % m - m + m = k % m from by omega, w64 (by omega) (by omega), Int.tmod_eq_emod_of_nonneg (by omega), Int.emod_emod]
theorem do_eq {fu n : Nat} {B : Int} {d : Dev} {a : S_rickyardlaw05_Act} (h : DevOk n B d) (hB : B < 9223372036854775807) (hn : n ≤ 100000) (ha : okA a) (hf : n + 8 < fu) : rickyardlaw05_Do.f fu d a = some ((doD d a).1.1, (doD d a).1.2, (doD d a).2) := by
  obtain ⟨hk, hat, hw, hL, hl⟩ := ha
  unfold rickyardlaw05_Do.f doD
  rw [rest7_eq hk (by decide), store_eq h hB hw, load_eq, flush_eq h hB (by omega) (by omega), fence_eq h hB (by omega) (by omega), arm_eq, plan_eq (by omega), crash_eq h (by omega) hL (by omega)]
  simp only [Option.bind_some]
  have hr : 0 ≤ a.Kind % 7 ∧ a.Kind % 7 < 7 := by omega
  generalize a.Kind % 7 = r at *
  have : r = 0 ∨ r = 1 ∨ r = 2 ∨ r = 3 ∨ r = 4 ∨ r = 5 ∨ r = 6 := by omega
  rcases this with rfl | rfl | rfl | rfl | rfl | rfl | rfl
  · rfl
  · rfl
  · rfl
  · rfl
  · have : (armD d a.At).cells = d.cells ∧ (armD d a.At).plan.list = d.plan.list := by
      unfold armD
      split <;> exact ⟨rfl, rfl⟩
    simp [← this.1, ← this.2]
  · rfl
  · rfl
end Go.Proofs.Ytklhbaghbmndeaa.Pure
namespace Go.Proofs.Ytklhbaghbmndeaa
open Go Go.Xw
end Go.Proofs.Ytklhbaghbmndeaa
namespace Go.Proofs.Ytklhbaghbmndeaa.Pure
open Go Go.Xw
theorem loopM_inv {σ ε : Type} {step : σ → Option (Sum ε σ)} (P : Nat → σ → Prop) (n : Nat) (Q : ε → Prop) (h : ∀ j s, j < n → P j s → ∃ s', step s = some (.inr s') ∧ P (j + 1) s') (he : ∀ s, P n s → ∃ e, step s = some (.inl e) ∧ Q e) : ∀ {k j : Nat} {s : σ}, P j s → j ≤ n → n - j < k → ∃ e, loopM step k s = some e ∧ Q e
  | 0, j, s, _, _, hk => by omega
  | k + 1, j, s, hp, hj, hk => by
    unfold loopM
    by_cases e1 : j = n
    · subst e1
      obtain ⟨e, h1, h2⟩ := he s hp
      rw [h1]
      exact ⟨e, rfl, h2⟩
    · obtain ⟨s', h1, h2⟩ := h j s (by omega) hp
      rw [h1]
      exact loopM_inv P n Q h he h2 (by omega) (by omega)
theorem okA_of {a : S_rickyardlaw05_Act} (h : ok_rickyardlaw05_Act a) (hl : a.L.length ≤ 40) : okA a := by
  obtain ⟨h1, h2, h3, h4, _⟩ := h
  exact ⟨wf64.1 h1, wf64.1 h2, wfu64.1 h3, fun x hx => wf64.1 (h4 x hx), by omega⟩
def Small (acts : List S_rickyardlaw05_Act) (m : Nat) : Prop := acts.length ≤ m ∧ ∀ a ∈ acts, a.L.length ≤ 40
instance (acts : List S_rickyardlaw05_Act) (m : Nat) : Decidable (Small acts m) := inferInstanceAs (Decidable (_ ∧ _))
theorem small_eq {fu m : Nat} {acts : List S_rickyardlaw05_Act} (hm : m ≤ 1000) (hf : m < fu) : rickyardlaw05_Small.f fu acts (m : Int) = some (decide (Small acts m)) := by
  unfold rickyardlaw05_Small.f
  by_cases h1 : acts.length ≤ m
  · have c : ¬ (acts.length : Int) > (m : Int) := by omega
    rw [decide_eq_false c, if_neg (by decide)]
    have hs : ∀ j : Nat, j < acts.length → rickyardlaw05_Small.s0 fu acts (j : Int) = some (if (ix acts (j : Int)).L.length ≤ 40 then .inr ((j + 1 : Nat) : Int) else .inl (.inl false)) := by
      intro j hj
      unfold rickyardlaw05_Small.s0
      have w3 : IntKind.i64.wrap ((j : Int) + 1) = ((j + 1 : Nat) : Int) := by rw [w64 (by omega) (by omega)]; omega
      have c1 : 0 ≤ (j : Int) ∧ (j : Int) < (acts.length : Int) := by omega
      rw [decide_eq_true c1.2, if_pos rfl, if_pos c1, w3]
      by_cases e : (ix acts (j : Int)).L.length ≤ 40
      · rw [decide_eq_false (by omega), if_neg (by decide), if_pos e]
      · rw [decide_eq_true (by omega), if_pos rfl, if_neg e]
    by_cases h2 : ∀ a ∈ acts, a.L.length ≤ 40
    · have : loopM (rickyardlaw05_Small.s0 fu acts) fu 0 = some (.inr ()) := by
        refine loopM_run (S := fun j => (j : Int)) acts.length rfl (fun j hj => by rw [hs j hj, ix_nat hj, if_pos (h2 _ (List.getElem_mem hj))]) ?_ (by omega)
        unfold rickyardlaw05_Small.s0
        rw [decide_eq_false (show ¬ ((acts.length : Int) < (acts.length : Int)) by omega), if_neg (by decide)]
      rw [this, decide_eq_true (show Small acts m from ⟨h1, h2⟩)]
      rfl
    · have : loopM (rickyardlaw05_Small.s0 fu acts) fu 0 = some (.inl false) := by
        refine loopM_bad (S := fun j => (j : Int)) acts.length (fun j => (ix acts (j : Int)).L.length ≤ 40) rfl ?_ (fun j hj _ hg => by rw [hs j hj, if_pos hg]) (fun j hj _ hg => by rw [hs j hj, if_neg hg]) (by omega)
        apply Classical.byContradiction
        intro hx
        refine h2 fun a ha => ?_
        obtain ⟨i, hi, rfl⟩ := List.getElem_of_mem ha
        refine Classical.byContradiction fun hg => hx ⟨i, hi, ?_⟩
        rw [ix_nat hi]
        exact hg
      rw [this, decide_eq_false (show ¬ Small acts m from fun q => h2 q.2)]
      rfl
  · have c : (acts.length : Int) > (m : Int) := by omega
    rw [decide_eq_true c, if_pos rfl, decide_eq_false (show ¬ Small acts m from fun q => h1 q.1)]
abbrev FU : Nat := 200000
theorem eta {d : Dev} : (⟨d.cells, ⟨d.plan.list, d.plan.at_⟩, d.off, d.armed, d.left, d.steps⟩ : S_pmem_Device) = d := rfl
theorem next64 {j n : Nat} (h : j < n) (hn : n ≤ 100000) : IntKind.i64.wrap ((j : Int) + 1) = ((j + 1 : Nat) : Int) := by rw [w64 (by omega) (by omega)]; omega
theorem shr_pow (n j : Nat) (hj : j < 8) : shR .u64 (n : Int) ((8 * j : Nat) : Int) = ((n / 256 ^ j : Nat) : Int) := by
  unfold shR
  rw [Int.toNat_natCast]
  have e : min (8 * j) IntKind.u64.bits = 8 * j := Nat.min_eq_left (by show 8 * j ≤ 64; omega)
  rw [e, show (256 : Nat) = 2 ^ 8 from rfl, ← Nat.pow_mul]
  have : ((2 : Int) ^ (8 * j)) = ((2 ^ (8 * j) : Nat) : Int) := by simp
  rw [this, Int.fdiv_eq_ediv_of_nonneg _ (Int.natCast_nonneg _)]
  simp
theorem text_eq {fu : Nat} {ws : List Int} (hv : ∀ w ∈ ws, U64 w) (hl : ws.length ≤ 100000) (hf : ws.length + 8 < fu) : rickyardref05_Text.f fu ws = some ((octs ws).map toB) := by
  unfold rickyardref05_Text.f
  have : loopM (rickyardref05_Text.s1 fu ws) fu ([], 0) = some (octs ws) := by
    refine loopM_run (S := fun j => (octs (ws.take j), (j : Int))) ws.length (by simp [octs]) ?_ ?_ (by omega)
    · intro j hj
      unfold rickyardref05_Text.s1
      have w3 : IntKind.i64.wrap ((j : Int) + 1) = ((j + 1 : Nat) : Int) := next64 hj hl
      have c1 : 0 ≤ (j : Int) ∧ (j : Int) < (ws.length : Int) := by omega
      have hu := hv _ (List.getElem_mem hj)
      obtain ⟨v, hv'⟩ : ∃ v : Nat, ws[j] = (v : Int) := ⟨ws[j].toNat, by unfold U64 at hu; omega⟩
      have inner : loopM (rickyardref05_Text.s2 fu ws (octs (ws.take j), (j : Int))) fu (octs (ws.take j), 0) = some (octs (ws.take j) ++ lay v 8) := by
        refine loopM_run (S := fun i => (octs (ws.take j) ++ lay v i, (i : Int))) 8 (by simp [lay]) ?_ ?_ (by omega)
        · intro i hi
          unfold rickyardref05_Text.s2
          have c2 : (i : Int) < 8 := by omega
          have w4 : IntKind.i64.wrap (8 * (i : Int)) = ((8 * i : Nat) : Int) := by rw [w64 (by omega) (by omega)]; omega
          have w5 : IntKind.i64.wrap ((i : Int) + 1) = ((i + 1 : Nat) : Int) := by rw [w64 (by omega) (by omega)]; omega
          simp only [w4, w5]
          have hlim : List.length (octs (ws.take j) ++ lay v i) + List.length [((v / 256 ^ i % 256 : Nat) : Int)] ≤ LIM := by
            rw [List.length_append, octs_len, lay_len, List.length_take]
            exact Nat.le_trans (by simp only [List.length_cons, List.length_nil]; omega : _ ≤ 1000000) (by decide)
          rw [decide_eq_true c2, if_pos rfl, if_pos c1, if_pos (by omega), ix_nat hj, hv', shr_pow _ _ hi, wu8_mod, if_pos hlim, lay_succ, List.append_assoc]
        · unfold rickyardref05_Text.s2
          rw [decide_eq_false (show ¬ (((8 : Nat) : Int) < 8) by decide), if_neg (by decide)]
      simp only [w3]
      rw [decide_eq_true c1.2, if_pos rfl, inner, take_next hj, octs_append, octs_one, hv', Int.toNat_natCast]
      rfl
    · unfold rickyardref05_Text.s1
      rw [decide_eq_false (show ¬ ((ws.length : Int) < (ws.length : Int)) by omega), if_neg (by decide), List.take_length]
  rw [this]
  rfl
theorem octs_take (ws : List Int) (i : Nat) : (octs ws).take (8 * i) = octs (ws.take i) := by
  by_cases h : i ≤ ws.length
  · have e : octs ws = octs (ws.take i) ++ octs (ws.drop i) := by rw [← octs_append, List.take_append_drop]
    rw [e, List.take_append_of_le_length (by rw [octs_len, List.length_take]; omega), List.take_of_length_le (by rw [octs_len, List.length_take]; omega)]
  · rw [List.take_of_length_le (by rw [octs_len]; omega), List.take_of_length_le (by omega)]
theorem octs_drop (ws : List Int) (i : Nat) : (octs ws).drop (8 * i) = octs (ws.drop i) := by
  by_cases h : i ≤ ws.length
  · have e : octs ws = octs (ws.take i) ++ octs (ws.drop i) := by rw [← octs_append, List.take_append_drop]
    have hl : (octs (ws.take i)).length = 8 * i := by rw [octs_len, List.length_take]; omega
    rw [e, ← hl, List.drop_left]
  · rw [List.drop_of_length_le (by rw [octs_len]; omega), List.drop_of_length_le (by omega)]
    rfl
theorem octs_cut (ws : List Int) (i j : Nat) : cut (octs ws) ((8 * i : Nat) : Int) ((8 * j : Nat) : Int) = octs (cut ws (i : Int) (j : Int)) := by
  unfold cut
  rw [Int.toNat_natCast, Int.toNat_natCast, Int.toNat_natCast, Int.toNat_natCast, octs_take, octs_drop]
theorem ix_mapIdx {α : Type} [Inhabited α] {cs : List α} {g : Nat → α → α} {i : Nat} (hi : i < cs.length) : ix (cs.mapIdx g) (i : Int) = g i (ix cs (i : Int)) := by
  rw [ix_nat (by simpa using hi), ix_nat hi, List.getElem_mapIdx]
theorem cut_map {α β : Type} (f : α → β) (l : List α) (i j : Int) : cut (l.map f) i j = (cut l i j).map f := by
  unfold cut
  rw [← List.map_take, ← List.map_drop]
theorem mapB_inj {l m : List Int} (hl : Bytes l) (hm : Bytes m) (h : l.map toB = m.map toB) : l = m := by
  apply List.ext_getElem
  · have := congrArg List.length h
    simpa using this
  · intro i h1 h2
    have e := congrArg (fun x => x[i]?) h
    simp only [List.getElem?_map, List.getElem?_eq_getElem h1, List.getElem?_eq_getElem h2, Option.map_some, Option.some.injEq] at e
    have b1 := hl _ (List.getElem_mem h1)
    have b2 := hm _ (List.getElem_mem h2)
    unfold toB at e
    have := congrArg UInt8.toNat e
    simp only [UInt8.toNat_ofNat'] at this
    omega
end Go.Proofs.Ytklhbaghbmndeaa.Pure
namespace Go.Proofs.Ytklhbaghbmndeaa
open Go Go.Xw
end Go.Proofs.Ytklhbaghbmndeaa
namespace Go.Proofs.Ytklhbaghbmndeaa.Pure
open Go Go.Xw
theorem Bytes.drop {l : List Int} (h : Bytes l) (n : Nat) : Bytes (l.drop n) := fun x hx => h x (List.mem_of_mem_drop hx)
theorem Bytes.take {l : List Int} (h : Bytes l) (n : Nat) : Bytes (l.take n) := fun x hx => h x (List.mem_of_mem_take hx)
theorem num_lt8 {l : List Int} (hb : Bytes l) (hl : l.length ≤ 8) : num l < 18446744073709551616 := by
  have h1 := num_lt hb
  have h2 : (256 : Nat) ^ l.length ≤ 256 ^ 8 := Nat.pow_le_pow_right (by decide) hl
  have h3 : (256 : Nat) ^ 8 = 18446744073709551616 := by decide
  omega
theorem fates_len (d : Dev) : ∀ j, j ≤ d.cells.length → (fatesU d j).length = opens d.cells j
  | 0, _ => by simp [fatesU, opens]
  | j + 1, h => by
    have hj : j < d.cells.length := by omega
    rw [fatesU_succ, opens_succ hj, List.length_append, fates_len d j (by omega), ix_nat hj]
    split <;> rfl
theorem opens_mono {cs : List Cell} {p : Nat} : ∀ {q : Nat}, p ≤ q → q ≤ cs.length → opens cs p ≤ opens cs q
  | 0, h, _ => by
    have : p = 0 := by omega
    rw [this]
    exact Nat.le_refl _
  | q + 1, h, hq => by
    by_cases e : p = q + 1
    · rw [e]
      exact Nat.le_refl _
    · have := opens_mono (cs := cs) (p := p) (q := q) (by omega) (by omega)
      rw [opens_succ (by omega)]
      omega
theorem opens_lt {cs : List Cell} {p q : Nat} (h : p < q) (hq : q ≤ cs.length) (ho : openC (ix cs (p : Int)) = true) : opens cs p < opens cs q := by
  have h1 := opens_mono (cs := cs) (p := p + 1) (q := q) (by omega) hq
  rw [opens_succ (show p < cs.length by omega), ← ix_nat (l := cs) (show p < cs.length by omega), ho, if_pos rfl] at h1
  omega
theorem opens_inj {cs : List Cell} {p q : Nat} (hp : p < cs.length) (hq : q < cs.length) (op : openC (ix cs (p : Int)) = true) (oq : openC (ix cs (q : Int)) = true) (e : opens cs p = opens cs q) : p = q := by
  rcases Nat.lt_trichotomy p q with h | h | h
  · have := opens_lt h (by omega) op
    omega
  · exact h
  · have := opens_lt h (by omega) oq
    omega
theorem fates_at (d : Dev) : ∀ j, j ≤ d.cells.length → ∀ i, i < (fatesU d j).length → ∃ p : Nat, p < j ∧ openC (ix d.cells (p : Int)) = true ∧ opens d.cells p = i ∧ ix (fatesU d j) (i : Int) = fateD d p
  | 0, _, i, h => by simp [fatesU] at h
  | j + 1, hj, i, h => by
    have hjl : j < d.cells.length := by omega
    have hl := fates_len d j (by omega)
    have e := fatesU_succ d j
    by_cases hi : i < (fatesU d j).length
    · obtain ⟨p, h1, h2, h3, h4⟩ := fates_at d j (by omega) i hi
      refine ⟨p, by omega, h2, h3, ?_⟩
      rw [← h4, ix_nat h, ix_nat hi]
      simp only [e]
      rw [List.getElem_append_left hi]
    · cases ho : openC (ix d.cells (j : Int))
      · rw [e, ho] at h
        simp at h
        omega
      · have h' := h
        rw [e, ho, if_pos rfl, List.length_append] at h'
        simp only [List.length_cons, List.length_nil] at h'
        have hi2 : i = (fatesU d j).length := by omega
        refine ⟨j, by omega, ho, by omega, ?_⟩
        rw [ix_nat h]
        simp only [e, ho, if_true]
        rw [List.getElem_append_right (by omega)]
        simp [hi2]
theorem value_eq {fu : Nat} {f : S_api_Fate} {n : Int} (hn : I64 n) : rickyardref05_Value.f fu f n = some (if n % 3 = 2 then f.Stored else if n % 3 = 1 ∧ f.Flushed = true then f.Sent else f.Lasts) := by
  unfold rickyardref05_Value.f
  rw [rest7_eq hn (by decide)]
  simp only [Option.bind_some]
  by_cases h2 : n % 3 = 2
  · rw [decide_eq_true h2, if_pos rfl, if_pos h2]
  · rw [decide_eq_false h2, if_neg (by decide), if_neg h2]
    by_cases h1 : n % 3 = 1
    · rw [decide_eq_true h1]
      cases f.Flushed <;> simp [h1]
    · rw [decide_eq_false h1]
      simp [h1]
theorem value_fate {fu : Nat} {d : Dev} {p : Nat} {n : Int} (hn : I64 n) : rickyardref05_Value.f fu (fateD d p) n = some (fateC (ix d.cells (p : Int)) n) := value_eq hn
theorem octs_set (ws : List Int) {p : Nat} {v : Int} (h : p < ws.length) : splL (octs ws) (8 * p) (lay v.toNat 8) = octs (ws.set p v) := by
  unfold splL
  rw [lay_len, octs_take, show 8 * p + 8 = 8 * (p + 1) from by omega, octs_drop, List.set_eq_take_append_cons_drop, if_pos h, octs_append]
  simp [octs]
theorem octs_at (ws : List Int) {p : Nat} (h : p < ws.length) : cut (octs ws) ((8 * p : Nat) : Int) ((8 * p + 8 : Nat) : Int) = lay (ix ws (p : Int)).toNat 8 := by
  rw [show 8 * p + 8 = 8 * (p + 1) from by omega, octs_cut, ← octs_one]
  congr 1
  unfold cut
  rw [Int.toNat_natCast, Int.toNat_natCast, take_next h, List.drop_append_of_le_length (by rw [List.length_take]; omega), List.drop_of_length_le (by rw [List.length_take]; omega), ix_nat h]
  rfl
theorem crash_get {d : Dev} {l : List Int} {p : Nat} (hp : p < d.cells.length) : ix (crashD d l).cells (p : Int) = crashC (ix d.cells (p : Int)) (l.getD (opens d.cells p) 0) := ix_mapIdx (g := fun i c => crashC c (l.getD (opens d.cells i) 0)) hp
theorem crash_lasts {d : Dev} {l : List Int} {p : Nat} (hp : p < d.cells.length) : ix (lastsD (crashD d l)) (p : Int) = if openC (ix d.cells (p : Int)) = true then fateC (ix d.cells (p : Int)) (l.getD (opens d.cells p) 0) else ix (lastsD d) (p : Int) := by
  have hc : p < (crashD d l).cells.length := by simpa [crashD, crashL] using hp
  have e1 : ix (lastsD (crashD d l)) (p : Int) = (ix (crashD d l).cells (p : Int)).lasts := by
    unfold lastsD
    rw [ix_nat (by simpa using hc), ix_nat hc, List.getElem_map]
  have e2 : ix (lastsD d) (p : Int) = (ix d.cells (p : Int)).lasts := by
    unfold lastsD
    rw [ix_nat (by simpa using hp), ix_nat hp, List.getElem_map]
  rw [e1, e2, crash_get hp]
  unfold crashC
  split <;> rfl
theorem getD_I64 {l : List Int} (h : ∀ x ∈ l, I64 x) (i : Nat) : I64 (l.getD i 0) := by
  by_cases hi : i < l.length
  · rw [getD_of _ _ _ hi]
    exact h _ (List.getElem_mem hi)
  · rw [List.getD_eq_getElem?_getD, List.getElem?_eq_none (by omega)]
    unfold I64
    simp
theorem crash_shut {d : Dev} {l : List Int} {p : Nat} (hp : p < d.cells.length) : openC (ix (crashD d l).cells (p : Int)) = false ∧ (ix (crashD d l).cells (p : Int)).stored = (ix (crashD d l).cells (p : Int)).lasts := by
  rw [crash_get hp]
  unfold crashC
  cases ho : openC (ix d.cells (p : Int))
  · rw [if_neg (by decide)]
    have : (ix d.cells (p : Int)).flushed = false := by
      unfold openC at ho
      cases hf : (ix d.cells (p : Int)).flushed
      · rfl
      · rw [hf] at ho
        cases ho
    refine ⟨?_, rfl⟩
    unfold openC
    simp [this]
  · rw [if_pos rfl]
    refine ⟨?_, rfl⟩
    unfold openC
    simp
theorem crash_view {d : Dev} {l : List Int} : storedD (crashD d l) = lastsD (crashD d l) := by
  unfold storedD lastsD
  apply List.ext_getElem (by simp)
  intro p h1 h2
  have hp : p < d.cells.length := by simpa [crashD, crashL] using h1
  have hp2 : p < (crashD d l).cells.length := by simpa using h1
  rw [List.getElem_map, List.getElem_map, ← ix_nat hp2]
  exact (crash_shut hp).2
end Go.Proofs.Ytklhbaghbmndeaa.Pure
namespace Go.Proofs.Ytklhbaghbmndeaa
open Go Go.Xw
end Go.Proofs.Ytklhbaghbmndeaa
namespace Go.Proofs.Ytklhbaghbmndeaa.Pure
open Go Go.Xw
abbrev Ref := S_rickyardref05_Device
def sentD (d : Dev) : List Int := d.cells.map fun c => c.sent
def flushedD (d : Dev) : List Bool := d.cells.map fun c => c.flushed
def toM (d : Dev) (s : Int) : Ref := ⟨lastsD d, storedD d, sentD d, flushedD d, d.plan.list, s, if d.armed = true then d.left else -1, d.steps⟩
def Since (d : Dev) (s : Int) : Prop := d.plan.list.length ≠ 0 → d.plan.at_ = s % (d.plan.list.length : Int)
theorem set_same {α : Type} [Inhabited α] (l : List α) (k : Nat) (h : k < l.length) : l.set k (ix l (k : Int)) = l := by
  rw [ix_nat h]
  exact List.set_getElem_self h
theorem ix_map' {α β : Type} [Inhabited α] [Inhabited β] (f : α → β) (cs : List α) (k : Nat) (h : k < cs.length) : ix (cs.map f) (k : Int) = f (ix cs (k : Int)) := by
  rw [ix_nat (by simpa using h), ix_nat h, List.getElem_map]
theorem evict_set {cs : List Cell} {p : Int} {k : Nat} (hp : 0 ≤ p) (hk : p % (cs.length : Int) = (k : Int)) (hl : k < cs.length) : evict p cs = cs.set k (keepC (ix cs (k : Int)) (ix cs (k : Int)).stored) := by
  rw [set_upd (fun c => keepC c c.stored) hl]
  apply List.ext_getElem (by simp [evict])
  intro i h1 h2
  simp only [evict, List.getElem_mapIdx, hk]
  by_cases e : i = k
  · rw [if_pos e, if_pos ⟨hp, by omega⟩]
  · rw [if_neg e, if_neg fun z => e (by omega)]
theorem stored_keep {cs : List Cell} {k : Nat} {w : Int} (hl : k < cs.length) : (cs.set k (keepC (ix cs (k : Int)) w)).map (fun c => c.stored) = cs.map fun c => c.stored := by
  rw [List.map_set]
  have : (keepC (ix cs (k : Int)) w).stored = ix (cs.map fun c => c.stored) (k : Int) := by rw [ix_map' _ _ _ hl]; rfl
  rw [this, set_same _ _ (by simpa using hl)]
theorem rlast_eq {fu : Nat} {cs : List Cell} {k : Nat} {w : Int} {pl : List Int} {s le st : Int} (hl : k < cs.length) :
    rickyardref05_Device_last.f fu (⟨cs.map (fun c => c.lasts), cs.map (fun c => c.stored), cs.map (fun c => c.sent), cs.map (fun c => c.flushed), pl, s, le, st⟩ : Ref) (k : Int) w = some (⟨(cs.set k (keepC (ix cs (k : Int)) w)).map (fun c => c.lasts), (cs.set k (keepC (ix cs (k : Int)) w)).map (fun c => c.stored), (cs.set k (keepC (ix cs (k : Int)) w)).map (fun c => c.sent), (cs.set k (keepC (ix cs (k : Int)) w)).map (fun c => c.flushed), pl, s, le, st⟩ : Ref) := by
  unfold rickyardref05_Device_last.f
  simp only [List.length_map]
  rw [if_pos (by omega), if_pos (by omega), if_pos (by omega), Int.toNat_natCast, stored_keep hl, List.map_set, List.map_set, List.map_set]
  rfl
theorem rdstep_eq {fu n : Nat} {B s : Int} {d : Dev} (h : DevOk n B d) (hB : B < 9223372036854775807) (hs : 0 ≤ s ∧ s < 9223372036854775807) (hS : Since d s) (ho : d.off = false) : rickyardref05_Device_step.f fu (toM d s) = some (toM (tick d) (s + 1)) := by
  unfold rickyardref05_Device_step.f toM
  simp only []
  have hst := h.st
  have w1 : IntKind.i64.wrap (d.steps + 1) = d.steps + 1 := w64 (by omega) (by omega)
  have w2 : IntKind.i64.wrap (s + 1) = s + 1 := w64 (by omega) (by omega)
  have hll : (lastsD d).length = d.cells.length := by simp [lastsD]
  have hsl : (storedD d).length = d.cells.length := by simp [storedD]
  -- what is evicted
  have hA : ∀ (E : List Cell), E = evict (pick d.plan) d.cells →
      ((if (if (decide ((List.length d.plan.list : Int) > 0)) = true then (decide ((List.length (lastsD d) : Int) > 0)) else false) = true then (if (List.length d.plan.list : Int) ≠ 0 then (if 0 ≤ (Int.tmod s (List.length d.plan.list : Int)) ∧ (Int.tmod s (List.length d.plan.list : Int)) < (List.length d.plan.list : Int) then (((if (decide ((ix d.plan.list (Int.tmod s (List.length d.plan.list : Int))) ≥ 0)) = true then (if (List.length (lastsD d) : Int) ≠ 0 then (if (List.length (lastsD d) : Int) ≠ 0 then (if 0 ≤ (Int.tmod (ix d.plan.list (Int.tmod s (List.length d.plan.list : Int))) (List.length (lastsD d) : Int)) ∧ (Int.tmod (ix d.plan.list (Int.tmod s (List.length d.plan.list : Int))) (List.length (lastsD d) : Int)) < (List.length (storedD d) : Int) then ((rickyardref05_Device_last.f fu (⟨lastsD d, storedD d, sentD d, flushedD d, d.plan.list, s, if d.armed = true then d.left else -1, d.steps⟩ : Ref) (Int.tmod (ix d.plan.list (Int.tmod s (List.length d.plan.list : Int))) (List.length (lastsD d) : Int)) (ix (storedD d) (Int.tmod (ix d.plan.list (Int.tmod s (List.length d.plan.list : Int))) (List.length (lastsD d) : Int))) : Option S_rickyardref05_Device).bind fun t86 => some (t86.Lasts, t86.Stored, t86.Sent, t86.Flushed, t86.Plan, t86.Since, t86.Left, t86.Steps)) else none) else none) else none) else some (lastsD d, storedD d, sentD d, flushedD d, d.plan.list, s, (if d.armed = true then d.left else -1), d.steps)) : Option ((List Int) × (List Int) × (List Int) × (List Bool) × (List Int) × Int × Int × Int)).bind fun x53 => some (x53.1, x53.2.1, x53.2.2.1, x53.2.2.2.1, x53.2.2.2.2.1, x53.2.2.2.2.2.1, x53.2.2.2.2.2.2.1, x53.2.2.2.2.2.2.2)) else none) else none) else some (lastsD d, storedD d, sentD d, flushedD d, d.plan.list, s, (if d.armed = true then d.left else -1), d.steps)) : Option ((List Int) × (List Int) × (List Int) × (List Bool) × (List Int) × Int × Int × Int))
      = some (E.map (fun c => c.lasts), E.map (fun c => c.stored), E.map (fun c => c.sent), E.map (fun c => c.flushed), d.plan.list, s, (if d.armed = true then d.left else -1), d.steps) := by
    rintro E rfl
    by_cases z : d.plan.list.length = 0
    · have z' : ¬ ((List.length d.plan.list : Int) > 0) := by omega
      rw [decide_eq_false z', if_neg (by simp)]
      have : pick d.plan = -1 := by unfold pick; rw [if_pos z]
      rw [this, evict_no _ (by decide)]
      rfl
    · have z' : (List.length d.plan.list : Int) > 0 := by omega
      have z2 : (List.length d.plan.list : Int) ≠ 0 := by omega
      rw [decide_eq_true z', if_pos rfl]
      by_cases zc : d.cells = []
      · have : ¬ ((List.length (lastsD d) : Int) > 0) := by rw [hll, zc]; decide
        rw [decide_eq_false this, if_neg (by simp), zc, evict_nil]
        simp [lastsD, storedD, sentD, flushedD, zc]
      · have hc0 : 0 < d.cells.length := List.length_pos_iff.2 zc
        have c1 : (List.length (lastsD d) : Int) > 0 := by rw [hll]; omega
        rw [decide_eq_true c1, if_pos rfl, if_pos z2, Int.tmod_eq_emod_of_nonneg hs.1]
        have m0 := Int.emod_nonneg s z2
        have m1 := Int.emod_lt_of_pos s z'
        rw [if_pos ⟨m0, m1⟩]
        have hpk : pick d.plan = ix d.plan.list (s % (d.plan.list.length : Int)) := by
          unfold pick
          rw [if_neg z, hS z]
        rw [← hpk]
        by_cases hp : pick d.plan ≥ 0
        · rw [decide_eq_true hp, if_pos rfl, Int.tmod_eq_emod_of_nonneg hp]
          have c2 : (List.length (lastsD d) : Int) ≠ 0 := by omega
          rw [if_pos c2, if_pos c2, hll, hsl]
          have n0 := Int.emod_nonneg (pick d.plan) (show (d.cells.length : Int) ≠ 0 by omega)
          have n1 := Int.emod_lt_of_pos (pick d.plan) (show (d.cells.length : Int) > 0 by omega)
          rw [if_pos ⟨n0, n1⟩]
          obtain ⟨k, hk⟩ : ∃ k : Nat, pick d.plan % (d.cells.length : Int) = (k : Int) := ⟨(pick d.plan % (d.cells.length : Int)).toNat, by omega⟩
          have hkl : k < d.cells.length := by omega
          have e1 : ix (storedD d) (k : Int) = (ix d.cells (k : Int)).stored := ix_map' _ _ _ hkl
          rw [hk, e1, evict_set hp hk hkl]
          have := rlast_eq (fu := fu) (cs := d.cells) (w := (ix d.cells (k : Int)).stored) (pl := d.plan.list) (s := s) (le := if d.armed = true then d.left else -1) (st := d.steps) hkl
          unfold lastsD storedD sentD flushedD
          rw [this]
          rfl
        · rw [decide_eq_false hp, if_neg (by decide), evict_no _ hp]
          rfl
  rw [hA _ rfl]
  simp only [Option.bind_some, w1, w2]
  have hl : (if d.armed = true then d.left else -1) > 0 ↔ d.armed = true := by
    cases ha : d.armed
    · simp
    · have := h.arm ha
      rw [ho] at this
      have : d.left ≠ 0 := of_decide_eq_false this.2.2.symm
      simp
      omega
  have np : (nextP d.plan).list = d.plan.list := by unfold nextP; split <;> rfl
  cases ha : d.armed
  · simp [tick, lastsD, storedD, sentD, flushedD, ha, np]
  · have h3 := h.arm ha
    have : d.left > 0 := by
      have := hl.2 ha
      rwa [ha, if_pos rfl] at this
    rw [if_pos rfl, decide_eq_true this, if_pos rfl, w64 (by omega) (by omega)]
    simp [tick, lastsD, storedD, sentD, flushedD, ha, np]
theorem rerror_eq {fu n : Nat} {B s k m : Int} {d : Dev} (h : DevOk n B d) : rickyardref05_Device_error.f fu (toM d s) k m = some (mayI d.off k m) := by
  unfold rickyardref05_Device_error.f mayI toM
  have hl : (if d.armed = true then d.left else -1) = 0 ↔ d.off = true := by
    cases ha : d.armed
    · have := h.una ha
      simp [this]
    · have := (h.arm ha).2.2
      rw [this]
      simp
  simp only []
  by_cases e : d.off = true
  · rw [decide_eq_true (hl.2 e), if_pos rfl, if_pos e]
  · rw [decide_eq_false (fun q => e (hl.1 q)), if_neg (by decide), if_neg e]
    by_cases h1 : k < 0
    · simp [h1]
    · by_cases h2 : k ≥ m <;> simp [h1, h2]
theorem eta8 {m : Ref} : (⟨m.Lasts, m.Stored, m.Sent, m.Flushed, m.Plan, m.Since, m.Left, m.Steps⟩ : Ref) = m := rfl
def inc (b : Prop) [Decidable b] (s : Int) : Int := if b then s + 1 else s
theorem with_toM (d : Dev) (cs : List Cell) (s : Int) : toM (withC d cs) s = ⟨cs.map (fun c => c.lasts), cs.map (fun c => c.stored), cs.map (fun c => c.sent), cs.map (fun c => c.flushed), d.plan.list, s, if d.armed = true then d.left else -1, d.steps⟩ := rfl
theorem rstore_eq {fu n : Nat} {B s k w : Int} {d : Dev} (h : DevOk n B d) (hB : B < 9223372036854775807) (hs : 0 ≤ s ∧ s < 9223372036854775807) (hS : Since d s) (hw : U64 w) : rickyardref05_Device_Store.f fu (toM d s) k w = some ((storeD d k w).1, toM (storeD d k w).2 (inc (mayI d.off k (d.cells.length : Int) = 0) s)) := by
  unfold rickyardref05_Device_Store.f storeD inc
  have hll : (toM d s).Lasts.length = d.cells.length := by simp [toM, lastsD]
  rw [hll, rerror_eq h]
  simp only [Option.bind_some]
  by_cases e : mayI d.off k (d.cells.length : Int) = 0
  · obtain ⟨ho, h0, h1⟩ := may_zero.1 e
    have hsl : (toM d s).Stored.length = d.cells.length := by simp [toM, storedD]
    rw [decide_eq_true e, if_pos rfl, hsl, if_pos ⟨h0, h1⟩, if_pos e, if_pos e]
    obtain ⟨j, rfl⟩ : ∃ j : Nat, k = (j : Int) := ⟨k.toNat, by omega⟩
    have hj : j < d.cells.length := by omega
    have hput : putC (j : Int) w d.cells = d.cells.set j ⟨(ix d.cells (j : Int)).lasts, w, (ix d.cells (j : Int)).sent, (ix d.cells (j : Int)).flushed⟩ := by
      rw [set_upd (fun c => ⟨c.lasts, w, c.sent, c.flushed⟩) hj]
      apply List.ext_getElem (by simp [putC])
      intro i h1 h2
      simp only [putC, List.getElem_mapIdx, Int.natCast_inj]
    have e1 : (⟨(toM d s).Lasts, (List.set (toM d s).Stored (Int.toNat (j : Int)) w), (toM d s).Sent, (toM d s).Flushed, (toM d s).Plan, (toM d s).Since, (toM d s).Left, (toM d s).Steps⟩ : Ref) = toM (withC d (putC (j : Int) w d.cells)) s := by
      rw [with_toM, hput, List.map_set, List.map_set, List.map_set, List.map_set]
      have a1 : (ix d.cells (j : Int)).lasts = ix (d.cells.map fun c => c.lasts) (j : Int) := (ix_map' _ _ _ hj).symm
      have a2 : (ix d.cells (j : Int)).sent = ix (d.cells.map fun c => c.sent) (j : Int) := (ix_map' _ _ _ hj).symm
      have a3 : (ix d.cells (j : Int)).flushed = ix (d.cells.map fun c => c.flushed) (j : Int) := (ix_map' (fun c : Cell => c.flushed) _ _ hj).symm
      simp only []
      rw [a1, a2, a3, set_same _ _ (by simpa using hj), set_same _ _ (by simpa using hj), set_same _ _ (by simpa using hj)]
      rfl
    have hok : DevOk n B (withC d (putC (j : Int) w d.cells)) := with_ok h (by simp [putC, h.len]) (mapIdx_ok h.val fun i c hc => by
      split
      · exact ⟨hc.1, hw, hc.2.2⟩
      · exact hc)
    rw [e1, rdstep_eq hok hB hs hS ho]
    simp only [Option.bind_some, e]
  · rw [decide_eq_false e, if_neg (by decide), if_neg e, if_neg e]
    rfl
theorem rload_eq {fu n : Nat} {B s k : Int} {d : Dev} (h : DevOk n B d) : rickyardref05_Device_Load.f fu (toM d s) k = some (loadD d k) := by
  unfold rickyardref05_Device_Load.f loadD
  have hll : (toM d s).Lasts.length = d.cells.length := by simp [toM, lastsD]
  have hsl : (toM d s).Stored.length = d.cells.length := by simp [toM, storedD]
  rw [hll, hsl, rerror_eq h]
  simp only [Option.bind_some]
  by_cases e : mayI d.off k (d.cells.length : Int) = 0
  · obtain ⟨ho, h0, h1⟩ := may_zero.1 e
    rw [decide_eq_true e, if_pos e, if_neg (by decide), if_pos ⟨h0, h1⟩]
    obtain ⟨j, rfl⟩ : ∃ j : Nat, k = (j : Int) := ⟨k.toNat, by omega⟩
    have : ix (toM d s).Stored (j : Int) = (ix d.cells (j : Int)).stored := ix_map' _ _ _ (by omega)
    rw [this]
  · rw [decide_eq_false e, if_neg e, if_pos (by decide)]
theorem sendL_lasts (k : Int) (cs : List Cell) : (sendL k cs).map (fun c => c.lasts) = cs.map fun c => c.lasts := by
  apply List.ext_getElem (by simp [sendL])
  intro i h1 h2
  simp only [sendL, List.getElem_map, List.getElem_mapIdx]
  split <;> rfl
theorem sendL_stored (k : Int) (cs : List Cell) : (sendL k cs).map (fun c => c.stored) = cs.map fun c => c.stored := by
  apply List.ext_getElem (by simp [sendL])
  intro i h1 h2
  simp only [sendL, List.getElem_map, List.getElem_mapIdx]
  split <;> rfl
theorem upd_sendL {cs : List Cell} {k : Nat} : upd (fun _ c => sendC c) (8 * k) 8 cs = sendL (k : Int) cs := by
  apply List.ext_getElem (by simp [upd, sendL])
  intro i h1 h2
  simp only [upd, sendL, List.getElem_mapIdx]
  by_cases c : 8 * k ≤ i ∧ i < 8 * k + 8
  · rw [if_pos c, if_pos (by omega)]
  · rw [if_neg c, if_neg (by omega)]
theorem rflush_eq {fu n : Nat} {B s k : Int} {d : Dev} (h : DevOk n B d) (hB : B < 9223372036854775807) (hn : n ≤ 100000) (hf : 8 < fu) (hs : 0 ≤ s ∧ s < 9223372036854775807) (hS : Since d s) : rickyardref05_Device_Flush.f fu (toM d s) k = some ((flushD d k).1, toM (flushD d k).2 (inc (mayI d.off k ((d.cells.length / 8 : Nat) : Int) = 0) s)) := by
  unfold rickyardref05_Device_Flush.f flushD inc
  have hlen := h.len
  have hll : (toM d s).Lasts.length = d.cells.length := by simp [toM, lastsD]
  have e0 : IntKind.i64.wrap (Int.tdiv (d.cells.length : Int) 8) = ((d.cells.length / 8 : Nat) : Int) := by
    rw [Int.tdiv_eq_ediv_of_nonneg (by omega), w64 (by omega) (by omega)]
    omega
  rw [hll, e0, rerror_eq h]
  simp only [Option.bind_some]
  by_cases e : mayI d.off k ((d.cells.length / 8 : Nat) : Int) = 0
  · obtain ⟨ho, h0, h1⟩ := may_zero.1 e
    rw [decide_eq_true e, if_pos rfl, if_pos e, if_pos e]
    obtain ⟨j, rfl⟩ : ∃ j : Nat, k = (j : Int) := ⟨k.toNat, by omega⟩
    have w1 : IntKind.i64.wrap (8 * (j : Int)) = ((8 * j : Nat) : Int) := by rw [w64 (by omega) (by omega)]; omega
    have w2 : IntKind.i64.wrap (((8 * j : Nat) : Int) + 8) = ((8 * j + 8 : Nat) : Int) := by rw [w64 (by omega) (by omega)]; omega
    have loop : loopM (rickyardref05_Device_Flush.s1 fu (toM d s) (j : Int)) fu (((8 * j : Nat) : Int), (toM d s).Sent, (toM d s).Flushed) = some ((sendL (j : Int) d.cells).map (fun c => c.sent), (sendL (j : Int) d.cells).map (fun c => c.flushed)) := by
      refine loopM_run (S := fun i => (((8 * j + i : Nat) : Int), (upd (fun _ c => sendC c) (8 * j) i d.cells).map (fun c => c.sent), (upd (fun _ c => sendC c) (8 * j) i d.cells).map (fun c => c.flushed))) 8 (by rw [upd_zero]; rfl) ?_ ?_ hf
      · intro i hi
        unfold rickyardref05_Device_Flush.s1
        have w3 : IntKind.i64.wrap (((8 * j + i : Nat) : Int) + 1) = ((8 * j + (i + 1) : Nat) : Int) := by rw [w64 (by omega) (by omega)]; omega
        have hsl : (toM d s).Stored.length = d.cells.length := by simp [toM, storedD]
        have e1 : ix (toM d s).Stored ((8 * j + i : Nat) : Int) = (ix d.cells ((8 * j + i : Nat) : Int)).stored := ix_map' _ _ _ (by omega)
        have hu := upd_set (fun _ c => sendC c) (8 * j) i d.cells (by omega)
        simp only [w1, w2, w3, List.length_map, upd_len, hsl, e1]
        rw [decide_eq_true (show ((8 * j + i : Nat) : Int) < ((8 * j + 8 : Nat) : Int) by omega), if_pos rfl, if_pos (by omega), if_pos (by omega), if_pos (by omega), Int.toNat_natCast, ← hu, List.map_set, List.map_set, ix_nat (by omega)]
        rfl
      · unfold rickyardref05_Device_Flush.s1
        simp only [w1, w2]
        rw [decide_eq_false (show ¬ ((8 * j + 8 : Nat) : Int) < ((8 * j + 8 : Nat) : Int) by omega), if_neg (by decide), upd_sendL]
    rw [w1, loop]
    have hok : DevOk n B (withC d (sendL (j : Int) d.cells)) := with_ok h (by simp [sendL, h.len]) (sendL_ok h.val)
    have e1 : (⟨(toM d s).Lasts, (toM d s).Stored, (sendL (j : Int) d.cells).map (fun c => c.sent), (sendL (j : Int) d.cells).map (fun c => c.flushed), (toM d s).Plan, (toM d s).Since, (toM d s).Left, (toM d s).Steps⟩ : Ref) = toM (withC d (sendL (j : Int) d.cells)) s := by
      rw [with_toM, sendL_lasts, sendL_stored]
      rfl
    simp only [Option.bind_some]
    rw [e1, rdstep_eq hok hB hs hS ho]
    simp only [Option.bind_some, e]
  · rw [decide_eq_false e, if_neg (by decide), if_neg e, if_neg e]
    rfl
def tupM (i : Int) (m : Ref) := (i, m.Lasts, m.Stored, m.Sent, m.Flushed, m.Plan, m.Since, m.Left, m.Steps)
theorem rfence_eq {fu n : Nat} {B s : Int} {d : Dev} (h : DevOk n B d) (hB : B < 9223372036854775807) (hn : n ≤ 100000) (hf : n < fu) (hs : 0 ≤ s ∧ s < 9223372036854775807) (hS : Since d s) : rickyardref05_Device_Fence.f fu (toM d s) = some ((fenceD d).1, toM (fenceD d).2 (inc (d.off = false) s)) := by
  unfold rickyardref05_Device_Fence.f fenceD inc
  have hlen := h.len
  rw [rerror_eq h]
  simp only [Option.bind_some]
  cases ho : d.off
  · have e : mayI false 0 1 = 0 := by decide
    rw [e]
    have loop : loopM (rickyardref05_Device_Fence.s1 fu) fu (tupM 0 (toM d s)) = some ((toM (withC d (d.cells.map fenceC)) s).Lasts, (toM (withC d (d.cells.map fenceC)) s).Stored, (toM (withC d (d.cells.map fenceC)) s).Sent, (toM (withC d (d.cells.map fenceC)) s).Flushed, (toM (withC d (d.cells.map fenceC)) s).Plan, (toM (withC d (d.cells.map fenceC)) s).Since, (toM (withC d (d.cells.map fenceC)) s).Left, (toM (withC d (d.cells.map fenceC)) s).Steps) := by
      refine loopM_run (S := fun i => tupM (i : Int) (toM (withC d (upd (fun _ c => fenceC c) 0 i d.cells)) s)) d.cells.length (by rw [upd_zero]; rfl) ?_ ?_ (by omega)
      · intro j hj
        have hlt : j < (upd (fun _ c => fenceC c) 0 j d.cells).length := by rw [upd_len]; omega
        have hnx : ix (upd (fun _ c => fenceC c) 0 j d.cells) (j : Int) = d.cells[j] := by
          rw [ix_nat hlt, upd_get, if_neg (by omega)]
        have hu := upd_set (fun _ c => fenceC c) 0 j d.cells (by omega)
        have hsm := upd_same (fun _ c => fenceC c) 0 j d.cells (by omega)
        simp only [Nat.zero_add] at hu hsm
        have hl := rlast_eq (fu := fu) (cs := upd (fun _ c => fenceC c) 0 j d.cells) (w := d.cells[j].sent) (pl := d.plan.list) (s := s) (le := if d.armed = true then d.left else -1) (st := d.steps) hlt
        rw [hnx] at hl
        have e1 : ix ((upd (fun _ c => fenceC c) 0 j d.cells).map fun c => c.flushed) (j : Int) = d.cells[j].flushed := by rw [ix_map' (fun c : Cell => c.flushed) _ _ hlt, hnx]
        have e2 : ix ((upd (fun _ c => fenceC c) 0 j d.cells).map fun c => c.sent) (j : Int) = d.cells[j].sent := by rw [ix_map' _ _ _ hlt, hnx]
        unfold rickyardref05_Device_Fence.s1 tupM
        rw [with_toM, with_toM]
        generalize hU : upd (fun _ c => fenceC c) 0 j d.cells = U at *
        have hUl : U.length = d.cells.length := by rw [← hU, upd_len]
        simp only [List.length_map, e1, e2, hUl]
        rw [decide_eq_true (show (j : Int) < (d.cells.length : Int) by omega), if_pos rfl, if_pos (by omega), next64 hj (by omega)]
        cases hfl : d.cells[j].flushed
        · have : fenceC d.cells[j] = d.cells[j] := by simp [fenceC, hfl]
          rw [← hsm this]
          simp only [Bool.false_eq_true, if_false, Option.bind_some]
        · have : fenceC d.cells[j] = keepC d.cells[j] d.cells[j].sent := by simp [fenceC, hfl]
          rw [this] at hu
          rw [if_pos rfl, if_pos (by omega), hl, ← hu]
          rfl
      · unfold rickyardref05_Device_Fence.s1 tupM
        have hLL : (toM (withC d (upd (fun _ c => fenceC c) 0 d.cells.length d.cells)) s).Lasts.length = d.cells.length := by simp [toM, lastsD, withC, upd_len]
        simp only [hLL]
        rw [decide_eq_false (show ¬ ((d.cells.length : Int) < (d.cells.length : Int)) by omega), if_neg (by decide), upd_all]
        have : (d.cells.mapIdx fun _ c => fenceC c) = d.cells.map fenceC := by
          apply List.ext_getElem (by simp)
          intro i h1 h2
          simp
        rw [this]
    unfold tupM at loop
    rw [decide_eq_true rfl, if_pos rfl, loop]
    have hok : DevOk n B (withC d (d.cells.map fenceC)) := with_ok h (by simp [h.len]) (fun c hc => by
        obtain ⟨x, hx, rfl⟩ := List.mem_map.1 hc
        exact fence_okC (h.val x hx))
    simp only [Option.bind_some, eta8]
    rw [rdstep_eq hok hB hs hS ho]
    rfl
  · have e : mayI true 0 1 = 3 := by decide
    rw [e]
    rfl
theorem rarm_eq {fu n : Nat} {B s k : Int} {d : Dev} (h : DevOk n B d) : rickyardref05_Device_Arm.f fu (toM d s) k = some (toM (armD d k) s) := by
  unfold rickyardref05_Device_Arm.f
  have hl : (toM d s).Left = 0 ↔ d.off = true := by
    show (if d.armed = true then d.left else -1) = 0 ↔ _
    cases ha : d.armed
    · have := h.una ha
      simp [this]
    · have := (h.arm ha).2.2
      rw [this]
      simp
  unfold armD
  by_cases e : d.off = true
  · rw [decide_eq_true (hl.2 e), if_neg (by decide), if_pos e]
    rfl
  · rw [decide_eq_false (fun q => e (hl.1 q)), if_pos (by decide), if_neg e]
    have hm : mxI k (-1) = if decide (k ≥ 0) = true then k else -1 := by
      unfold mxI
      by_cases hk : k ≥ 0
      · rw [decide_eq_true hk]
        split <;> simp <;> omega
      · rw [decide_eq_false hk]
        split <;> simp <;> omega
    rw [hm]
    rfl
theorem rlay_eq' {fu : Nat} {s : Int} {d : Dev} {l : List Int} (hl : l.length ≤ 1000000) : rickyardref05_Device_Lay.f fu (toM d s) l = some (toM (planD d l) 0) := by
  unfold rickyardref05_Device_Lay.f
  rw [if_pos (by rw [List.length_nil]; exact Nat.le_trans (by omega : _ ≤ 1000000) (by decide))]
  rfl
theorem rfates_eq {fu n : Nat} {B s : Int} {d : Dev} (h : DevOk n B d) (hn : n ≤ 100000) (hf : n < fu) : rickyardref05_Device_Fates.f fu (toM d s) = some (fatesD d) := by
  unfold rickyardref05_Device_Fates.f
  have hl := h.len
  have hl1 : (toM d s).Lasts.length = d.cells.length := by simp [toM, lastsD]
  have hl2 : (toM d s).Stored.length = d.cells.length := by simp [toM, storedD]
  have hl3 : (toM d s).Sent.length = d.cells.length := by simp [toM, sentD]
  have hl4 : (toM d s).Flushed.length = d.cells.length := by simp [toM, flushedD]
  have : loopM (rickyardref05_Device_Fates.s0 fu (toM d s)) fu ([], 0) = some (fatesD d) := by
    refine loopM_run (S := fun j => (fatesU d j, (j : Int))) d.cells.length (by simp [fatesU]) ?_ ?_ (by omega)
    · intro j hj
      unfold rickyardref05_Device_Fates.s0
      have w3 : IntKind.i64.wrap ((j : Int) + 1) = ((j + 1 : Nat) : Int) := next64 hj (by omega)
      have c1 : 0 ≤ (j : Int) ∧ (j : Int) < (d.cells.length : Int) := by omega
      have hle := fatesU_le d j
      have a1 : ix (toM d s).Lasts (j : Int) = (ix d.cells (j : Int)).lasts := ix_map' _ _ _ hj
      have a2 : ix (toM d s).Stored (j : Int) = (ix d.cells (j : Int)).stored := ix_map' _ _ _ hj
      have a3 : ix (toM d s).Sent (j : Int) = (ix d.cells (j : Int)).sent := ix_map' _ _ _ hj
      have a4 : ix (toM d s).Flushed (j : Int) = (ix d.cells (j : Int)).flushed := ix_map' (fun c : Cell => c.flushed) _ _ hj
      simp only [w3, hl1, hl2, hl3, hl4, a1, a2, a3, a4]
      rw [decide_eq_true c1.2, if_pos rfl, if_pos c1, if_pos c1, if_pos c1, if_pos c1, if_pos c1, if_pos c1, if_pos c1, fatesU_succ]
      have hx : (if (ix d.cells (j : Int)).flushed = true then some true else some (!decide ((ix d.cells (j : Int)).stored = (ix d.cells (j : Int)).lasts))) = some (openC (ix d.cells (j : Int))) := by
        unfold openC
        cases (ix d.cells (j : Int)).flushed <;> rfl
      rw [hx]
      simp only [Option.bind_some]
      cases ho : openC (ix d.cells (j : Int))
      · simp
      · have hlim : (fatesU d j).length + List.length [(⟨(j : Int), (ix d.cells (j : Int)).lasts, (ix d.cells (j : Int)).flushed, (ix d.cells (j : Int)).sent, (ix d.cells (j : Int)).stored⟩ : S_api_Fate)] ≤ LIM := by
          simp only [List.length_cons, List.length_nil]
          exact Nat.le_trans (by omega : _ ≤ 100001) (by decide)
        rw [if_pos rfl, if_pos hlim]
        rfl
    · unfold rickyardref05_Device_Fates.s0
      simp only [hl1]
      rw [decide_eq_false (show ¬ ((d.cells.length : Int) < (d.cells.length : Int)) by omega), if_neg (by decide)]
      rfl
  rw [this]
  rfl
theorem rcrash_eq {fu n : Nat} {B s : Int} {d : Dev} {l : List Int} (h : DevOk n B d) (hn : n ≤ 100000) (hli : ∀ x ∈ l, I64 x) (hf : n < fu) : rickyardref05_Device_Crash.f fu (toM d s) l = some (toM (crashD d l) 0) := by
  unfold rickyardref05_Device_Crash.f
  have hl := h.len
  rw [rfates_eq h hn hf]
  have hfl : (fatesD d).length ≤ n := by
    have := fatesU_le d d.cells.length
    unfold fatesD
    omega
  simp only [Option.bind_some]
  have loop : ∃ e, loopM (rickyardref05_Device_Crash.s0 fu l (fatesD d)) fu (tupM 0 (toM d s)) = some e ∧ ∃ cs : List Cell, e = ((toM (withC d cs) s).Lasts, (toM (withC d cs) s).Stored, (toM (withC d cs) s).Sent, (toM (withC d cs) s).Flushed, (toM (withC d cs) s).Plan, (toM (withC d cs) s).Since, (toM (withC d cs) s).Left, (toM (withC d cs) s).Steps) ∧ cs.length = d.cells.length ∧ ∀ p : Nat, p < d.cells.length → ix cs (p : Int) = if openC (ix d.cells (p : Int)) = true then keepC (ix d.cells (p : Int)) (fateC (ix d.cells (p : Int)) (l.getD (opens d.cells p) 0)) else ix d.cells (p : Int) := by
    refine loopM_inv (fun j z => ∃ cs : List Cell, z = tupM (j : Int) (toM (withC d cs) s) ∧ cs.length = d.cells.length ∧ ∀ p : Nat, p < d.cells.length → ix cs (p : Int) = if openC (ix d.cells (p : Int)) = true ∧ opens d.cells p < j then keepC (ix d.cells (p : Int)) (fateC (ix d.cells (p : Int)) (l.getD (opens d.cells p) 0)) else ix d.cells (p : Int)) (fatesD d).length _ ?_ ?_ (j := 0) ⟨d.cells, rfl, rfl, fun p hp => ?_⟩ (by omega) (by omega)
    · rintro j _ hj ⟨cs, rfl, hcl, hcp⟩
      obtain ⟨p, hp, ho, hop, hfa⟩ := fates_at d d.cells.length (Nat.le_refl _) j hj
      have hfa' : ix (fatesD d) (j : Int) = fateD d p := hfa
      have c1 : 0 ≤ (j : Int) ∧ (j : Int) < ((fatesD d).length : Int) := by omega
      have hx : (if (decide ((j : Int) < (List.length l : Int))) = true then (if 0 ≤ (j : Int) ∧ (j : Int) < (List.length l : Int) then some ((ix l (j : Int))) else none) else some (0)) = some (l.getD j 0) := by
        by_cases hjl : j < l.length
        · rw [decide_eq_true (show (j : Int) < (l.length : Int) by omega), if_pos rfl, if_pos ⟨by omega, by omega⟩, ix_nat hjl, getD_of _ _ _ hjl]
        · rw [decide_eq_false (show ¬ (j : Int) < (l.length : Int) by omega), if_neg (by decide), List.getD_eq_getElem?_getD, List.getElem?_eq_none (by omega)]
          rfl
      have hval : rickyardref05_Value.f fu (fateD d p) (l.getD j 0) = some (fateC (ix d.cells (p : Int)) (l.getD j 0)) := value_fate (getD_I64 hli j)
      have hlast := rlast_eq (fu := fu) (cs := cs) (k := p) (w := fateC (ix d.cells (p : Int)) (l.getD j 0)) (pl := d.plan.list) (s := s) (le := if d.armed = true then d.left else -1) (st := d.steps) (by omega)
      have hcp' : ix cs (p : Int) = ix d.cells (p : Int) := by rw [hcp p hp, if_neg (fun q => by omega)]
      have a1 : (fateD d p).At = (p : Int) := rfl
      rw [hcp'] at hlast
      unfold rickyardref05_Device_Crash.s0 tupM
      simp only [hx, hfa', a1, eta8]
      rw [decide_eq_true c1.2, if_pos rfl]
      simp only [Option.bind_some]
      rw [if_pos c1, if_pos c1, hval]
      simp only [Option.bind_some]
      rw [with_toM, hlast, next64 hj (by omega)]
      refine ⟨_, rfl, cs.set p (keepC (ix d.cells (p : Int)) (fateC (ix d.cells (p : Int)) (l.getD j 0))), rfl, by rw [List.length_set]; exact hcl, fun q hq => ?_⟩
      by_cases e : q = p
      · subst e
        rw [ix_nat (by rw [List.length_set]; omega), List.getElem_set_self, if_pos ⟨ho, by omega⟩, hop]
      · rw [ix_nat (by rw [List.length_set]; omega), List.getElem_set_ne (fun z => e z.symm), ← ix_nat (l := cs) (by omega), hcp q hq]
        by_cases hoq : openC (ix d.cells (q : Int)) = true
        · have : opens d.cells q ≠ j := fun z => e (opens_inj hq hp hoq ho (by omega))
          by_cases hlt : opens d.cells q < j
          · rw [if_pos ⟨hoq, hlt⟩, if_pos ⟨hoq, by omega⟩]
          · rw [if_neg fun z => hlt z.2, if_neg fun z => by omega]
        · rw [if_neg fun z => hoq z.1, if_neg fun z => hoq z.1]
    · rintro _ ⟨cs, rfl, hcl, hcp⟩
      unfold rickyardref05_Device_Crash.s0 tupM
      rw [decide_eq_false (show ¬ (((fatesD d).length : Int) < ((fatesD d).length : Int)) by omega), if_neg (by decide)]
      refine ⟨_, rfl, cs, rfl, hcl, fun p hp => ?_⟩
      rw [hcp p hp]
      cases hoq : openC (ix d.cells (p : Int))
      · simp
      · have hlt := opens_lt (cs := d.cells) (p := p) (q := d.cells.length) (by omega) (Nat.le_refl _) hoq
        have hfl2 : (fatesD d).length = opens d.cells d.cells.length := fates_len d _ (Nat.le_refl _)
        rw [if_pos ⟨rfl, by omega⟩, if_pos rfl]
    · rw [if_neg fun z => by omega]
  obtain ⟨e, h1, cs, rfl, hcl, hcp⟩ := loop
  unfold tupM at h1
  rw [h1]
  simp only [Option.bind_some]
  have loop2 : loopM (rickyardref05_Device_Crash.s1 fu ((toM (withC d cs) s).Lasts, (toM (withC d cs) s).Stored, (toM (withC d cs) s).Sent, (toM (withC d cs) s).Flushed, (toM (withC d cs) s).Plan, (toM (withC d cs) s).Since, (toM (withC d cs) s).Left, (toM (withC d cs) s).Steps)) fu (0, (toM (withC d cs) s).Stored) = some (toM (withC d cs) s).Lasts := by
    have q1 : (toM (withC d cs) s).Lasts.length = d.cells.length := by simp [toM, lastsD, withC, hcl]
    have q2 : (toM (withC d cs) s).Stored.length = d.cells.length := by simp [toM, storedD, withC, hcl]
    generalize (toM (withC d cs) s).Lasts = LA at *
    generalize (toM (withC d cs) s).Stored = SA at *
    refine loopM_run (S := fun j => ((j : Int), upd (fun i _ => ix LA (i : Int)) 0 j SA)) d.cells.length (by rw [upd_zero]; rfl) ?_ ?_ (by omega)
    · intro j hj
      unfold rickyardref05_Device_Crash.s1
      have hu := upd_set (fun i _ => ix LA (i : Int)) 0 j SA (by omega)
      simp only [Nat.zero_add] at hu
      simp only [q1, upd_len, q2]
      rw [decide_eq_true (show (j : Int) < (d.cells.length : Int) by omega), if_pos rfl, if_pos (by omega), if_pos (by omega), next64 hj (by omega), Int.toNat_natCast, hu]
    · unfold rickyardref05_Device_Crash.s1
      simp only [q1]
      rw [decide_eq_false (show ¬ ((d.cells.length : Int) < (d.cells.length : Int)) by omega), if_neg (by decide)]
      refine congrArg (fun z => some (Sum.inl z)) ?_
      apply List.ext_getElem (by rw [upd_len]; omega)
      intro i h1 h2
      rw [upd_get, if_pos (by omega), ix_nat h2]
  rw [loop2]
  simp only [Option.bind_some]
  have hc : ∀ p (h1 : p < (crashD d l).cells.length), (crashD d l).cells[p] = crashC (ix d.cells (p : Int)) (l.getD (opens d.cells p) 0) := by
    intro p h1
    have hp : p < d.cells.length := by simpa [crashD, crashL] using h1
    rw [← ix_nat h1, crash_get hp]
  have hcl2 : (crashD d l).cells.length = d.cells.length := by simp [crashD, crashL]
  have x1 : cs.map (fun c => c.lasts) = lastsD (crashD d l) := by
    unfold lastsD
    apply List.ext_getElem (by simp [hcl, hcl2])
    intro p h1 h2
    have hp : p < d.cells.length := by simpa [hcl] using h1
    rw [List.getElem_map, List.getElem_map, ← ix_nat (l := cs) (by omega), hcp p hp, hc]
    unfold crashC
    split <;> rfl
  have x2 : cs.map (fun c => c.sent) = sentD (crashD d l) := by
    unfold sentD
    apply List.ext_getElem (by simp [hcl, hcl2])
    intro p h1 h2
    have hp : p < d.cells.length := by simpa [hcl] using h1
    rw [List.getElem_map, List.getElem_map, ← ix_nat (l := cs) (by omega), hcp p hp, hc]
    unfold crashC
    split <;> rfl
  have x3 : cs.map (fun c => c.flushed) = flushedD (crashD d l) := by
    unfold flushedD
    apply List.ext_getElem (by simp [hcl, hcl2])
    intro p h1 h2
    have hp : p < d.cells.length := by simpa [hcl] using h1
    rw [List.getElem_map, List.getElem_map, ← ix_nat (l := cs) (by omega), hcp p hp, hc]
    unfold crashC
    split <;> rfl
  rw [with_toM]
  simp only []
  rw [x1, x2, x3]
  show some (⟨lastsD (crashD d l), lastsD (crashD d l), sentD (crashD d l), flushedD (crashD d l), [], 0, -1, d.steps⟩ : Ref) = some ⟨lastsD (crashD d l), storedD (crashD d l), sentD (crashD d l), flushedD (crashD d l), [], 0, -1, d.steps⟩
  rw [crash_view]
def since (d : Dev) (a : S_rickyardlaw05_Act) (s : Int) : Int :=
  if a.Kind % 7 = 0 then inc (mayI d.off a.At (d.cells.length : Int) = 0) s
  else if a.Kind % 7 = 2 then inc (mayI d.off a.At ((d.cells.length / 8 : Nat) : Int) = 0) s
  else if a.Kind % 7 = 3 then inc (d.off = false) s
  else if a.Kind % 7 = 5 ∨ a.Kind % 7 = 6 then 0
  else s
theorem refs_eq {fu n : Nat} {B s : Int} {d : Dev} {a : S_rickyardlaw05_Act} (h : DevOk n B d) (hB : B < 9223372036854775807) (hn : n ≤ 100000) (ha : okA a) (hf : n + 8 < fu) (hs : 0 ≤ s ∧ s < 9223372036854775807) (hS : Since d s) : rickyardlaw05_Refs.f fu (toM d s) a = some ((doD d a).1.1, (doD d a).1.2, toM (doD d a).2 (since d a s)) := by
  obtain ⟨hk, hat, hw, hL, hl⟩ := ha
  unfold rickyardlaw05_Refs.f doD since
  rw [rest7_eq hk (by decide), rstore_eq h hB hs hS hw, rload_eq h, rflush_eq h hB hn (by omega) hs hS, rfence_eq h hB hn (by omega) hs hS, rarm_eq h, rlay_eq' (by omega), rcrash_eq h hn hL (by omega)]
  simp only [Option.bind_some]
  have hr : 0 ≤ a.Kind % 7 ∧ a.Kind % 7 < 7 := by omega
  generalize a.Kind % 7 = r at *
  have : r = 0 ∨ r = 1 ∨ r = 2 ∨ r = 3 ∨ r = 4 ∨ r = 5 ∨ r = 6 := by omega
  rcases this with rfl | rfl | rfl | rfl | rfl | rfl | rfl
  · rfl
  · rfl
  · rfl
  · rfl
  · have e1 : (armD d a.At).cells = d.cells ∧ (armD d a.At).plan = d.plan := by
      unfold armD
      split <;> exact ⟨rfl, rfl⟩
    simp [toM, lastsD, storedD, sentD, flushedD, e1.1, e1.2]
  · rfl
  · rfl
theorem since_tick {d : Dev} {cs : List Cell} {s : Int} (h : Since d s) : Since (tick (withC d cs)) (s + 1) := by
  have hl : (tick (withC d cs)).plan.list = d.plan.list := by
    show (nextP d.plan).list = _
    unfold nextP
    split <;> rfl
  intro e
  rw [hl] at e
  rw [hl]
  show (nextP d.plan).at_ = _
  unfold nextP
  rw [if_neg e]
  show (d.plan.at_ + 1) % (d.plan.list.length : Int) = _
  rw [h e]
  exact Int.emod_add_emod _ _ _
theorem since_do {d : Dev} {a : S_rickyardlaw05_Act} {s : Int} (h : Since d s) : Since (doD d a).2 (since d a s) := by
  have hr : 0 ≤ a.Kind % 7 ∧ a.Kind % 7 < 7 := by omega
  unfold doD since
  generalize a.Kind % 7 = r at *
  have : r = 0 ∨ r = 1 ∨ r = 2 ∨ r = 3 ∨ r = 4 ∨ r = 5 ∨ r = 6 := by omega
  rcases this with rfl | rfl | rfl | rfl | rfl | rfl | rfl
  · show Since (storeD d a.At a.W).2 (inc (mayI d.off a.At (d.cells.length : Int) = 0) s)
    unfold storeD inc
    split
    · exact since_tick h
    · exact h
  · exact h
  · show Since (flushD d a.At).2 (inc (mayI d.off a.At ((d.cells.length / 8 : Nat) : Int) = 0) s)
    unfold flushD inc
    split
    · exact since_tick h
    · exact h
  · show Since (fenceD d).2 (inc (d.off = false) s)
    unfold fenceD inc
    cases ho : d.off
    · exact since_tick h
    · exact h
  · show Since (armD d a.At) s
    unfold armD
    split
    · exact h
    · exact h
  · show Since (planD d a.L) 0
    intro _
    show (0 : Int) = 0 % _
    simp
  · show Since (crashD d a.L) 0
    intro e
    exact absurd rfl e
theorem since_le {d : Dev} {a : S_rickyardlaw05_Act} {s : Int} (h : 0 ≤ s) : 0 ≤ since d a s ∧ since d a s ≤ s + 1 := by
  have hi : ∀ (b : Prop) [Decidable b], 0 ≤ inc b s ∧ inc b s ≤ s + 1 := by
    intro b _
    unfold inc
    split <;> omega
  unfold since
  split
  · exact hi _
  split
  · exact hi _
  split
  · exact hi _
  split <;> omega
theorem rnew_eq {fu : Nat} {k : Nat} (hk : k ≤ 4096) : rickyardref05_New.f fu (k : Int) = some (toM (newD (8 * k)) 0) := by
  unfold rickyardref05_New.f
  have w : IntKind.i64.wrap (8 * (k : Int)) = ((8 * k : Nat) : Int) := by rw [w64 (by omega) (by omega)]; omega
  have c : 0 ≤ ((8 * k : Nat) : Int) ∧ 8 * k ≤ LIM := ⟨by omega, Nat.le_trans (by omega : _ ≤ 100000) (by decide)⟩
  rw [w, Int.toNat_natCast, if_pos c, if_pos c, if_pos c, if_pos c]
  simp [toM, newD, lastsD, storedD, sentD, flushedD]
end Go.Proofs.Ytklhbaghbmndeaa.Pure
namespace Go.Proofs.Ytklhbaghbmndeaa
open Go Go.Xw
end Go.Proofs.Ytklhbaghbmndeaa
namespace Go.Proofs.Ytklhbaghbmndeaa.Pure
open Go Go.Xw
theorem awake06 : rickyardlaw06_awake.f FU = some true := by decide +kernel
theorem contains1_eq {fu : Nat} {l : List Int} {x : Int} (hl : l.length ≤ 100000) (hf : l.length < fu) : slices_Contains_1.f fu l x = some (decide (x ∈ l)) := by
  unfold slices_Contains_1.f slices_Index_1.f
  have hs : ∀ j : Nat, j < l.length → slices_Index_1.s0 fu l x (j : Int) = some (if x = ix l (j : Int) then .inl (.inl (j : Int)) else .inr ((j + 1 : Nat) : Int)) := by
    intro j hj
    unfold slices_Index_1.s0
    rw [decide_eq_true (show (j : Int) < (l.length : Int) by omega), if_pos rfl, if_pos (by omega), next64 hj hl]
    by_cases e : x = ix l (j : Int)
    · rw [decide_eq_true e, if_pos rfl, if_pos e]
    · rw [decide_eq_false e, if_neg (by decide), if_neg e]
  have : ∃ e, loopM (slices_Index_1.s0 fu l x) fu 0 = some e ∧ ((∃ k : Int, 0 ≤ k ∧ e = .inl k ∧ x ∈ l) ∨ e = .inr () ∧ x ∉ l) := by
    have step : ∀ k m, m ≤ l.length → l.length - m < k → (∀ i, i < m → x ≠ ix l (i : Int)) → ∃ e, loopM (slices_Index_1.s0 fu l x) k ((m : Nat) : Int) = some e ∧ ((∃ k : Int, 0 ≤ k ∧ e = .inl k ∧ x ∈ l) ∨ e = .inr () ∧ x ∉ l) := by
      intro k
      induction k with
      | zero => intro m _ h; omega
      | succ k ih =>
        intro m hm hk hno
        unfold loopM
        by_cases e1 : m = l.length
        · subst e1
          unfold slices_Index_1.s0
          rw [decide_eq_false (show ¬ ((l.length : Int) < (l.length : Int)) by omega), if_neg (by decide)]
          refine ⟨_, rfl, .inr ⟨rfl, fun hx => ?_⟩⟩
          obtain ⟨i, hi, rfl⟩ := List.getElem_of_mem hx
          exact hno i hi (ix_nat hi).symm
        · rw [hs m (by omega)]
          by_cases e : x = ix l (m : Int)
          · rw [if_pos e]
            refine ⟨_, rfl, .inl ⟨(m : Int), by omega, rfl, ?_⟩⟩
            rw [e, ix_nat (by omega)]
            exact List.getElem_mem _
          · rw [if_neg e]
            refine ih (m + 1) (by omega) (by omega) fun i hi => ?_
            by_cases h : i = m
            · rw [h]; exact e
            · exact hno i (by omega)
    exact step fu 0 (by omega) (by omega) fun i hi => by omega
  obtain ⟨e, h1, h2⟩ := this
  rw [h1]
  rcases h2 with ⟨k, hk, rfl, hx⟩ | ⟨rfl, hx⟩
  · rw [decide_eq_true hx]
    simp only [Option.bind_some]
    rw [decide_eq_true (show k ≥ 0 from hk)]
  · rw [decide_eq_false hx]
    rfl
def vals1 (f : S_api_Fate) : List Int := if f.Flushed = true ∧ f.Sent ≠ f.Lasts then [f.Lasts, f.Sent] else [f.Lasts]
def vals (f : S_api_Fate) : List Int := if f.Stored ∈ vals1 f then vals1 f else vals1 f ++ [f.Stored]
theorem vals1_len (f : S_api_Fate) : 1 ≤ (vals1 f).length ∧ (vals1 f).length ≤ 2 := by
  unfold vals1
  split <;> simp
theorem vals_len (f : S_api_Fate) : 1 ≤ (vals f).length ∧ (vals f).length ≤ 3 := by
  have := vals1_len f
  unfold vals
  split
  · omega
  · rw [List.length_append]
    simp only [List.length_cons, List.length_nil]
    omega
theorem lim3 {n : Nat} (h : n ≤ 100) : n ≤ LIM := Nat.le_trans h (by decide)
theorem values_eq {fu : Nat} {f : S_api_Fate} (hf : 3 < fu) : fate_Values.f fu f = some (vals f) := by
  unfold fate_Values.f
  have h1 : ((if (if f.Flushed = true then (!decide (f.Sent = f.Lasts)) else false) = true then (if List.length [f.Lasts] + List.length [f.Sent] ≤ LIM then some (([f.Lasts] ++ [f.Sent])) else none) else some ([f.Lasts])) : Option (List Int)) = some (vals1 f) := by
    unfold vals1
    by_cases e : f.Flushed = true ∧ f.Sent ≠ f.Lasts
    · rw [if_pos e, e.1, if_pos rfl, decide_eq_false e.2, if_pos (by decide), if_pos (lim3 (by simp))]
      rfl
    · rw [if_neg e]
      have : ¬ (if f.Flushed = true then (!decide (f.Sent = f.Lasts)) else false) = true := by
        intro q
        by_cases h : f.Flushed = true
        · rw [if_pos h] at q
          exact e ⟨h, by simpa using q⟩
        · rw [if_neg h] at q
          cases q
      rw [if_neg this]
  have hl := vals1_len f
  rw [h1]
  simp only [Option.bind_some]
  rw [contains1_eq (by omega) (by omega)]
  simp only [Option.bind_some]
  unfold vals
  by_cases e : f.Stored ∈ vals1 f
  · rw [decide_eq_true e, if_pos e]
    rfl
  · rw [decide_eq_false e, if_neg e, if_pos (by decide), if_pos (lim3 (by simp only [List.length_cons, List.length_nil]; omega))]
    rfl
def countU (fs : List S_api_Fate) : Nat → Int
  | 0 => 1
  | j + 1 => mnI (countU fs j * ((vals (ix fs (j : Int))).length : Int)) 1099511627776
theorem mnI_le (a b : Int) : mnI a b ≤ b ∧ (0 ≤ a → 0 ≤ b → 0 ≤ mnI a b) := by
  unfold mnI
  split
  · exact ⟨by omega, fun _ h => by omega⟩
  · exact ⟨by omega, fun h _ => by omega⟩
theorem countU_le (fs : List S_api_Fate) : ∀ j, 0 ≤ countU fs j ∧ countU fs j ≤ 1099511627776
  | 0 => ⟨by simp [countU], by simp [countU]⟩
  | j + 1 => by
    have h := countU_le fs j
    have hm := mnI_le (countU fs j * ((vals (ix fs (j : Int))).length : Int)) 1099511627776
    have : 0 ≤ countU fs j * ((vals (ix fs (j : Int))).length : Int) := Int.mul_nonneg h.1 (by omega)
    exact ⟨hm.2 this (by decide), hm.1⟩
theorem count_wrap (fs : List S_api_Fate) (j : Nat) : IntKind.i64.wrap (countU fs j * ((vals (ix fs (j : Int))).length : Int)) = countU fs j * ((vals (ix fs (j : Int))).length : Int) := by
  have h := countU_le fs j
  have h2 := vals_len (ix fs (j : Int))
  have h3 : 0 ≤ countU fs j * ((vals (ix fs (j : Int))).length : Int) := Int.mul_nonneg h.1 (by omega)
  have h4 : countU fs j * ((vals (ix fs (j : Int))).length : Int) ≤ 1099511627776 * 3 := Int.mul_le_mul h.2 (by omega) (by omega) (by decide)
  exact w64 (by omega) (by omega)
theorem fcount_eq {fu n : Nat} {B : Int} {d : Dev} (h : DevOk n B d) (hn : n ≤ 100000) (hf : n + 10 < fu) : fate_Count.f fu d = some (countU (fatesD d) (fatesD d).length) := by
  unfold fate_Count.f
  rw [fates_eq h hn (by omega)]
  have hfl : (fatesD d).length ≤ n := by
    have := fatesU_le d d.cells.length
    have := h.len
    unfold fatesD
    omega
  simp only [Option.bind_some]
  have : loopM (fate_Count.s0 fu (fatesD d)) fu (1, 0) = some (countU (fatesD d) (fatesD d).length) := by
    refine loopM_run (S := fun j => (countU (fatesD d) j, (j : Int))) (fatesD d).length rfl ?_ ?_ (by omega)
    · intro j hj
      unfold fate_Count.s0
      simp only []
      rw [decide_eq_true (show (j : Int) < ((fatesD d).length : Int) by omega), if_pos rfl, if_pos (by omega), values_eq (by omega), next64 hj (by omega)]
      simp only [Option.bind_some]
      rw [count_wrap]
      rfl
    · unfold fate_Count.s0
      simp only []
      rw [decide_eq_false (show ¬ (((fatesD d).length : Int) < ((fatesD d).length : Int)) by omega), if_neg (by decide)]
  rw [this]
  rfl
def tupW (i : Int) (d : Dev) (m : Ref) := (i, d.cells, d.plan.list, d.plan.at_, d.off, d.armed, d.left, d.steps, m.Lasts, m.Stored, m.Sent, m.Flushed, m.Plan, m.Since, m.Left, m.Steps)
theorem made_eq {lines : Int} {acts : List S_rickyardlaw05_Act} (hl : 0 ≤ lines ∧ lines ≤ 255) (hacts : ∀ x ∈ acts, ok_rickyardlaw05_Act x) : rickyardlaw06_made.f FU lines acts = some (none, none) ∨ ∃ (n : Nat) (d : Dev) (s : Int), n ≤ 24 ∧ DevOk n 40 d ∧ 0 ≤ s ∧ s ≤ 40 ∧ Since d s ∧ rickyardlaw06_made.f FU lines acts = some (some d, some (toM d s)) := by
  unfold rickyardlaw06_made.f
  have hw : Int.tmod (IntKind.i64.wrap lines) 4 = ((lines % 4).toNat : Int) := by
    rw [w64 (by omega) (by omega), Int.tmod_eq_emod_of_nonneg hl.1]
    omega
  have hk : (lines % 4).toNat ≤ 3 := by omega
  rw [hw]
  generalize (lines % 4).toNat = k at *
  have hnew : pmem_New.f FU (k : Int) = some (some (newD (8 * k)), 0) := new_eq (by omega)
  have hrn : rickyardref05_New.f FU (k : Int) = some (toM (newD (8 * k)) 0) := rnew_eq (by omega)
  have hsm : rickyardlaw05_Small.f FU acts 40 = some (decide (Small acts 40)) := small_eq (m := 40) (by decide) (by decide)
  rw [hnew, hsm, hrn]
  simp only [Option.bind_some, Option.elim_some]
  by_cases hS : Small acts 40
  rotate_left
  · rw [decide_eq_false hS]
    exact .inl rfl
  right
  rw [decide_eq_true hS, if_neg (by decide)]
  have hokA : ∀ a ∈ acts, okA a := fun a h => okA_of (hacts a h) (hS.2 a h)
  have hd0 := newD_ok (8 * k)
  have loop : ∃ e, loopM (rickyardlaw06_made.s0 FU acts) FU (tupW 0 (newD (8 * k)) (toM (newD (8 * k)) 0)) = some e ∧ ∃ (d : Dev) (s : Int), e = (d.cells, d.plan.list, d.plan.at_, d.off, d.armed, d.left, d.steps, (toM d s).Lasts, (toM d s).Stored, (toM d s).Sent, (toM d s).Flushed, (toM d s).Plan, (toM d s).Since, (toM d s).Left, (toM d s).Steps) ∧ DevOk (8 * k) 40 d ∧ 0 ≤ s ∧ s ≤ 40 ∧ Since d s := by
    refine loopM_inv (fun j z => ∃ (d : Dev) (s : Int), z = tupW (j : Int) d (toM d s) ∧ DevOk (8 * k) (j : Int) d ∧ 0 ≤ s ∧ s ≤ (j : Int) ∧ Since d s) acts.length _ ?_ ?_ (j := 0) ⟨_, 0, rfl, hd0, by omega, by omega, fun h => absurd rfl h⟩ (by omega) (by have := hS.1; show _ < 200000; omega)
    · rintro j _ hj ⟨d, s, rfl, hd, hs0, hs1, hsi⟩
      have hS1 := hS.1
      have c1 : 0 ≤ (j : Int) ∧ (j : Int) < (acts.length : Int) := by omega
      have hoa := hokA _ (List.getElem_mem hj)
      have hdo : rickyardlaw05_Do.f FU d acts[j] = some ((doD d acts[j]).1.1, (doD d acts[j]).1.2, (doD d acts[j]).2) := do_eq hd (by omega) (by omega) hoa (by show _ < 200000; omega)
      have hre : rickyardlaw05_Refs.f FU (toM d s) acts[j] = some ((doD d acts[j]).1.1, (doD d acts[j]).1.2, toM (doD d acts[j]).2 (since d acts[j] s)) := refs_eq hd (by omega) (by omega) hoa (by show _ < 200000; omega) (by omega) hsi
      have hd3 := do_ok hd hoa
      have hs3 := since_do (a := acts[j]) hsi
      have hs4 := since_le (d := d) (a := acts[j]) hs0
      unfold rickyardlaw06_made.s0 tupW
      simp only [eta, eta8]
      rw [decide_eq_true c1.2, if_pos rfl, if_pos c1, ix_nat hj, next64 hj (by omega), hdo]
      simp only [Option.bind_some]
      rw [if_pos c1, hre]
      exact ⟨_, rfl, (doD d acts[j]).2, since d acts[j] s, rfl, hd3.up (by omega), by omega, by omega, hs3⟩
    · rintro _ ⟨d, s, rfl, hd, hs0, hs1, hsi⟩
      have hS1 := hS.1
      unfold rickyardlaw06_made.s0 tupW
      rw [decide_eq_false (show ¬ ((acts.length : Int) < (acts.length : Int)) by omega), if_neg (by decide)]
      exact ⟨_, rfl, d, s, rfl, hd.up (by omega), hs0, by omega, hsi⟩
  obtain ⟨e, h1, d, s, rfl, hd, hs0, hs1, hsi⟩ := loop
  unfold tupW at h1
  rw [h1]
  exact ⟨8 * k, d, s, by omega, hd, hs0, hs1, hsi, rfl⟩
def wordsU (l : List Int) (j : Nat) : List Int := (List.range j).map fun i => ((num ((l.drop (8 * i)).take 8) : Nat) : Int)
theorem wordsU_succ (l : List Int) (j : Nat) : wordsU l (j + 1) = wordsU l j ++ [((num ((l.drop (8 * j)).take 8) : Nat) : Int)] := by
  simp [wordsU, List.range_succ]
theorem wordsU_len (l : List Int) (j : Nat) : (wordsU l j).length = j := by simp [wordsU]
theorem chunk_len {l : List Int} {j : Nat} (h : 8 * j + 8 ≤ l.length) : ((l.drop (8 * j)).take 8).length = 8 := by
  rw [List.length_take, List.length_drop]
  omega
theorem octs_words {l : List Int} (hb : Bytes l) : ∀ j, 8 * j ≤ l.length → octs (wordsU l j) = l.take (8 * j)
  | 0, _ => by simp [wordsU, octs]
  | j + 1, h => by
    have hc : ((l.drop (8 * j)).take 8).length = 8 := chunk_len (by omega)
    have hl := lay_num ((hb.drop (8 * j)).take 8)
    rw [hc] at hl
    rw [wordsU_succ, octs_append, octs_one, octs_words hb j (by omega), Int.toNat_natCast, hl, show 8 * (j + 1) = 8 * j + 8 from by omega, List.take_add]
theorem words_U64 {l : List Int} (hb : Bytes l) {n : Nat} : ∀ w ∈ wordsU l n, U64 w := by
  intro w hw
  obtain ⟨i, _, rfl⟩ := List.mem_map.1 hw
  have := num_lt8 ((hb.drop (8 * i)).take 8) (by rw [List.length_take]; omega)
  unfold U64
  omega
end Go.Proofs.Ytklhbaghbmndeaa.Pure
namespace Go.Proofs.Ytklhbaghbmndeaa
open Go Go.Xw
end Go.Proofs.Ytklhbaghbmndeaa
namespace Go.Proofs.Ytklhbaghbmndeaa.Pure
open Go Go.Xw
theorem ix_ext {a b : List Int} (hl : a.length = b.length) (h : ∀ j, j < a.length → ix a (j : Int) = ix b (j : Int)) : a = b := by
  apply List.ext_getElem hl
  intro i h1 h2
  rw [← ix_nat h1, ← ix_nat h2]
  exact h i h1
theorem equal_eq {fu : Nat} {a b : List Int} (ha : a.length ≤ 9000000000000000000) (hf : a.length < fu) : slices_Equal.f fu a b = some (decide (a = b)) := by
  unfold slices_Equal.f
  by_cases hl : a.length = b.length
  · have hL : (a.length : Int) = (b.length : Int) := by omega
    rw [decide_eq_true hL]
    simp only [Bool.not_true, Bool.false_eq_true, if_false]
    have hs : ∀ j : Nat, j < a.length → slices_Equal.s0 fu a b (j : Int) = some (if ix a (j : Int) = ix b (j : Int) then .inr ((j + 1 : Nat) : Int) else .inl (.inl false)) := by
      intro j hj
      unfold slices_Equal.s0
      have h1 : (j : Int) < (a.length : Int) := by omega
      have h2 : (j : Int) < (b.length : Int) := by omega
      have c0 : 0 ≤ (j : Int) := by omega
      have w3 : IntKind.i64.wrap ((j : Int) + 1) = ((j + 1 : Nat) : Int) := by rw [w64 (by omega) (by omega)]; omega
      simp only [h1, h2, c0, and_self, decide_true, if_true, w3]
      by_cases e : ix a (j : Int) = ix b (j : Int) <;> simp [e]
    by_cases h : a = b
    · have : loopM (slices_Equal.s0 fu a b) fu 0 = some (.inr ()) := by
        refine loopM_run (S := fun j => (j : Int)) a.length rfl (fun j hj => by rw [hs j hj, if_pos (by rw [h])]) ?_ hf
        unfold slices_Equal.s0
        simp
      rw [this]
      simp [h]
    · have : loopM (slices_Equal.s0 fu a b) fu 0 = some (.inl false) := by
        refine loopM_bad (S := fun j => (j : Int)) a.length (fun j => ix a (j : Int) = ix b (j : Int)) rfl ?_ (fun j hj _ hg => by rw [hs j hj, if_pos hg]) (fun j hj _ hg => by rw [hs j hj, if_neg hg]) hf
        apply Classical.byContradiction
        intro hx
        exact h (ix_ext hl fun i hi => Classical.byContradiction fun hg => hx ⟨i, hi, hg⟩)
      rw [this]
      simp [h]
  · have hL : ¬ (a.length : Int) = (b.length : Int) := by omega
    have h : ¬ a = b := fun e => hl (by rw [e])
    rw [decide_eq_false hL, decide_eq_false h]
    rfl
end Go.Proofs.Ytklhbaghbmndeaa.Pure
namespace Go.Proofs.Ytklhbaghbmndeaa
open Go Go.Xw
def rickyardref06_Choose.s3 (fu : Nat) (a1 : List UInt8) (t20 : (List S_api_Fate)) (s27 : (List Int) × Int × (List Int)) : (Int × Int × (List Int)) → Option (Sum (Int × (List Int)) (Int × Int × (List Int))) := fun s42 => (if (decide (s42.2.1 ≥ 0)) = true then (if 0 ≤ s27.2.1 ∧ s27.2.1 < (List.length t20 : Int) then ((rickyardref05_Value.f fu (ix t20 s27.2.1) s42.2.1).bind fun t51 => ((rickyardref05_Text.f fu [t51]).bind fun t60 => (if 0 ≤ s27.2.1 ∧ s27.2.1 < (List.length t20 : Int) then (if 0 ≤ s27.2.1 ∧ s27.2.1 < (List.length t20 : Int) then (if (0 : Int) ≤ (IntKind.i64.wrap (8 * ((ix t20 s27.2.1).At))) ∧ (IntKind.i64.wrap (8 * ((ix t20 s27.2.1).At))) ≤ (IntKind.i64.wrap ((IntKind.i64.wrap (8 * ((ix t20 s27.2.1).At))) + 8)) ∧ (IntKind.i64.wrap ((IntKind.i64.wrap (8 * ((ix t20 s27.2.1).At))) + 8)) ≤ (List.length a1 : Int) then (((if (decide (t60 = (cut a1 (IntKind.i64.wrap (8 * ((ix t20 s27.2.1).At))) (IntKind.i64.wrap ((IntKind.i64.wrap (8 * ((ix t20 s27.2.1).At))) + 8))))) = true then (if 0 ≤ s27.2.1 ∧ s27.2.1 < (List.length t20 : Int) then (if 0 ≤ (ix t20 s27.2.1).At ∧ (ix t20 s27.2.1).At < (List.length s42.2.2 : Int) then some (s42.2.1, (List.set s42.2.2 (Int.toNat ((ix t20 s27.2.1).At)) t51)) else none) else none) else some (s42.1, s42.2.2)) : Option (Int × (List Int))).bind fun x69 => some (Sum.inr (x69.1, (IntKind.i64.wrap (s42.2.1 - 1)), x69.2))) else none) else none) else none))) else none) else some (Sum.inl (s42.1, s42.2.2)))
def rickyardref06_Choose.s2 (fu : Nat) (a1 : List UInt8) (t20 : (List S_api_Fate)) : ((List Int) × Int × (List Int)) → Option (Sum (Sum ((List Int) × Bool) ((List Int) × (List Int))) ((List Int) × Int × (List Int))) := fun s27 => (if (decide (s27.2.1 < (List.length t20 : Int))) = true then ((loopM (rickyardref06_Choose.s3 fu a1 t20 s27) fu ((-1), 2, s27.2.2)).bind fun e43 => (if (decide (e43.1 < 0)) = true then some (Sum.inl (Sum.inl ([], false))) else (if List.length s27.1 + List.length [e43.1] ≤ LIM then some (Sum.inr ((s27.1 ++ [e43.1]), (IntKind.i64.wrap (s27.2.1 + 1)), e43.2)) else none))) else some (Sum.inl (Sum.inr (s27.1, s27.2.2))))
def rickyardref06_Choose.f (fu : Nat) (a0 : S_rickyardref05_Device) (a1 : List UInt8) : Option ((List Int) × Bool) := (if (!decide ((List.length a1 : Int) = (IntKind.i64.wrap (8 * (List.length a0.Lasts : Int))))) = true then some ([], false) else (if List.length ([] : List Int) + List.length a0.Lasts ≤ LIM then ((rickyardref05_Device_Fates.f fu a0).bind fun t20 => ((loopM (rickyardref06_Choose.s2 fu a1 t20) fu ([], 0, (([] : List Int) ++ a0.Lasts))).bind fun e28 => match e28 with | Sum.inl p => some p | Sum.inr x31 => ((rickyardref05_Text.f fu x31.2).bind fun t106 => some (x31.1, (decide (t106 = a1)))))) else none))
end Go.Proofs.Ytklhbaghbmndeaa
namespace Go.Proofs.Ytklhbaghbmndeaa.Pure
open Go Go.Xw
def choiceC (c : Cell) (w : Int) : Int := if w = c.lasts then 0 else if c.flushed = true ∧ w = c.sent then 1 else if w = c.stored then 2 else -1
theorem choice_eq {fu : Nat} {d : Dev} {p : Nat} {w : Int} : fate_choice.f fu (fateD d p) w = some (choiceC (ix d.cells (p : Int)) w) := by
  unfold fate_choice.f choiceC fateD
  simp only []
  generalize ix d.cells (p : Int) = c
  by_cases h1 : w = c.lasts
  · rw [decide_eq_true h1, if_pos rfl, if_pos h1]
  · rw [decide_eq_false h1, if_neg (by decide), if_neg h1]
    by_cases h2 : c.flushed = true ∧ w = c.sent
    · rw [if_pos h2.1, decide_eq_true h2.2, if_pos rfl, if_pos h2]
    · have : ¬ (if c.flushed = true then (decide (w = c.sent)) else false) = true := by
        intro q
        by_cases h : c.flushed = true
        · rw [if_pos h] at q
          exact h2 ⟨h, by simpa using q⟩
        · rw [if_neg h] at q
          cases q
      rw [if_neg this, if_neg h2]
      by_cases h3 : w = c.stored
      · rw [decide_eq_true h3, if_pos rfl, if_pos h3]
      · rw [decide_eq_false h3, if_neg (by decide), if_neg h3]
theorem choice_of {c : Cell} {w n : Int} (h : fateC c n = w) : 0 ≤ choiceC c w := by
  unfold choiceC fateC at *
  by_cases h1 : w = c.lasts
  · rw [if_pos h1]; decide
  · rw [if_neg h1]
    split at h
    · by_cases h2 : c.flushed = true ∧ w = c.sent
      · rw [if_pos h2]; decide
      · rw [if_neg h2, if_pos h.symm]; decide
    · split at h
      · rename_i q
        rw [if_pos ⟨q.2, h.symm⟩]; decide
      · exact absurd h.symm h1
def Wj (d : Dev) (v : List Int) (j : Nat) : List Int := (List.range d.cells.length).map fun (p : Nat) => if openC (ix d.cells (p : Int)) = true ∧ opens d.cells p < j then ix v (p : Int) else (ix d.cells (p : Int)).lasts
theorem Wj_len (d : Dev) (v : List Int) (j : Nat) : (Wj d v j).length = d.cells.length := by simp [Wj]
theorem Wj_at (d : Dev) (v : List Int) (j : Nat) {p : Nat} (hp : p < d.cells.length) : ix (Wj d v j) (p : Int) = if openC (ix d.cells (p : Int)) = true ∧ opens d.cells p < j then ix v (p : Int) else (ix d.cells (p : Int)).lasts := by
  rw [ix_nat (by rw [Wj_len]; exact hp)]
  simp [Wj]
theorem Wj_zero (d : Dev) (v : List Int) : Wj d v 0 = lastsD d := by
  apply List.ext_getElem (by simp [Wj, lastsD])
  intro p h1 h2
  have hp : p < d.cells.length := by rw [Wj_len] at h1; exact h1
  rw [← ix_nat h1, Wj_at d v 0 hp, if_neg (fun q => by omega), ix_nat hp]
  simp [lastsD]
theorem Wj_next (d : Dev) (v : List Int) {j p : Nat} (hp : p < d.cells.length) (ho : openC (ix d.cells (p : Int)) = true) (hj : opens d.cells p = j) : (Wj d v j).set p (ix v (p : Int)) = Wj d v (j + 1) := by
  apply List.ext_getElem (by rw [List.length_set, Wj_len, Wj_len])
  intro q h1 h2
  have hq : q < d.cells.length := by rw [Wj_len] at h2; exact h2
  rw [List.getElem_set, ← ix_nat h2, Wj_at d v (j + 1) hq]
  by_cases e : p = q
  · subst e
    rw [if_pos rfl, if_pos ⟨ho, by omega⟩]
  · rw [if_neg e, ← ix_nat (by rw [Wj_len]; exact hq), Wj_at d v j hq]
    by_cases hoq : openC (ix d.cells (q : Int)) = true
    · have : opens d.cells q ≠ j := fun z => e (opens_inj hp hq ho hoq (by omega))
      by_cases hlt : opens d.cells q < j
      · rw [if_pos ⟨hoq, hlt⟩, if_pos ⟨hoq, by omega⟩]
      · rw [if_neg fun z => hlt z.2, if_neg fun z => by omega]
    · rw [if_neg fun z => hoq z.1, if_neg fun z => hoq z.1]
def wordOf (v : List Int) (f : S_api_Fate) : Int := ix v f.At
def choiceF (f : S_api_Fate) (w : Int) : Int := choiceC ⟨f.Lasts, f.Stored, f.Sent, f.Flushed⟩ w
theorem choiceF_fate (d : Dev) (p : Nat) (w : Int) : choiceF (fateD d p) w = choiceC (ix d.cells (p : Int)) w := rfl
def chs (d : Dev) (v : List Int) (j : Nat) : List Int := ((fatesD d).take j).map fun f => choiceF f (wordOf v f)
theorem chs_next (d : Dev) (v : List Int) {j : Nat} (hj : j < (fatesD d).length) : chs d v (j + 1) = chs d v j ++ [choiceF (ix (fatesD d) (j : Int)) (wordOf v (ix (fatesD d) (j : Int)))] := by
  unfold chs
  rw [take_next hj, List.map_append, ix_nat hj]
  rfl
theorem chs_len (d : Dev) (v : List Int) (j : Nat) (hj : j ≤ (fatesD d).length) : (chs d v j).length = j := by
  unfold chs
  rw [List.length_map, List.length_take]
  omega
def goodJ (d : Dev) (v : List Int) (j : Nat) : Prop := 0 ≤ choiceF (ix (fatesD d) (j : Int)) (wordOf v (ix (fatesD d) (j : Int)))
theorem choose_step {fu n j : Nat} {B : Int} {d : Dev} {v : List Int} (h : DevOk n B d) (hn : n ≤ 10000) (hf : n + 10 < fu) (hv : v.length = n) (hu : ∀ w ∈ v, U64 w) (hj : j < (fatesD d).length) :
    fate_Choose.s0 fu (octs v) (fatesD d) (chs d v j, (j : Int), octs (Wj d v j)) = some (if choiceF (ix (fatesD d) (j : Int)) (wordOf v (ix (fatesD d) (j : Int))) < 0 then .inl (.inl ([], false)) else .inr (chs d v (j + 1), ((j + 1 : Nat) : Int), octs (Wj d v (j + 1)))) := by
  have hlen := h.len
  have hfl : (fatesD d).length ≤ n := by
    have := fatesU_le d d.cells.length
    unfold fatesD
    omega
  obtain ⟨p, hp, ho, hop, hfa⟩ := fates_at d d.cells.length (Nat.le_refl _) j hj
  have hfa' : ix (fatesD d) (j : Int) = fateD d p := hfa
  rw [chs_next d v hj, ← Wj_next d v hp ho hop, hfa']
  have a1 : (fateD d p).At = (p : Int) := rfl
  have a3 : choiceF (fateD d p) (wordOf v (fateD d p)) = choiceC (ix d.cells (p : Int)) (ix v (p : Int)) := rfl
  rw [a3]
  have w1 : IntKind.i64.wrap ((p : Int) * 8) = ((8 * p : Nat) : Int) := by rw [w64 (by omega) (by omega)]; omega
  have w2 : IntKind.i64.wrap (((8 * p : Nat) : Int) + 8) = ((8 * p + 8 : Nat) : Int) := by rw [w64 (by omega) (by omega)]; omega
  have hvl : (octs v).length = 8 * n := by rw [octs_len, hv]
  have hwl : (octs (Wj d v j)).length = 8 * n := by rw [octs_len, Wj_len, hlen]
  have hup : U64 (ix v (p : Int)) := by
    rw [ix_nat (by omega)]
    exact hu _ (List.getElem_mem _)
  have hrd : octet_Read.f fu (cut (octs v) ((8 * p : Nat) : Int) ((8 * p + 8 : Nat) : Int)) = some (ix v (p : Int)) := by
    rw [octs_at _ (by omega), read_eq (lay_bytes _ _) (by rw [lay_len]; exact Nat.le_refl _) (by rw [lay_len]; omega), num_lay]
    have hlt : (ix v (p : Int)).toNat < 256 ^ 8 := by
      have : (256 : Nat) ^ 8 = 18446744073709551616 := by decide
      unfold U64 at hup
      omega
    rw [Nat.mod_eq_of_lt hlt]
    congr 1
    unfold U64 at hup
    omega
  unfold fate_Choose.s0
  simp only [hfa', a1, w1, w2]
  rw [decide_eq_true (show (j : Int) < ((fatesD d).length : Int) by omega), if_pos rfl, if_pos (by omega), if_pos (by omega), hrd]
  simp only [Option.bind_some]
  rw [choice_eq]
  simp only [Option.bind_some]
  by_cases hc : choiceC (ix d.cells (p : Int)) (ix v (p : Int)) < 0
  · rw [decide_eq_true hc, if_pos rfl, if_pos hc]
  · have hlim : List.length (chs d v j) + List.length [choiceC (ix d.cells (p : Int)) (ix v (p : Int))] ≤ LIM := by
      rw [chs_len d v j (by omega)]
      exact Nat.le_trans (by simp only [List.length_cons, List.length_nil]; omega : _ ≤ 10001) (by decide)
    rw [decide_eq_false hc, if_neg (by decide), if_neg hc, if_pos hlim, if_pos (by omega), Int.toNat_natCast, if_pos ⟨by omega, Nat.le_refl _⟩, octs_at v (by omega), List.take_of_length_le (by rw [lay_len]; omega), octs_set _ (by rw [Wj_len]; exact hp), next64 hj (by omega)]
def val3 (c : Cell) (m : Nat) : Int := if m = 2 then c.stored else if m = 1 ∧ c.flushed = true then c.sent else c.lasts
def stN (c : Cell) (w : Int) (p : Nat) (W : List Int) : Nat → Int × List Int
  | 0 => (-1, W)
  | m + 1 => if val3 c (2 - m) = w then (((2 - m : Nat) : Int), W.set p w) else stN c w p W m
theorem stN_snd (c : Cell) (w : Int) (p : Nat) (W : List Int) : ∀ m, (stN c w p W m).2 = if (stN c w p W m).1 < 0 then W else W.set p w
  | 0 => rfl
  | m + 1 => by
    unfold stN
    split
    · rw [if_neg (by show ¬ ((2 - m : Nat) : Int) < 0; omega)]
    · exact stN_snd c w p W m
theorem stN_set (c : Cell) (w : Int) (p : Nat) (W : List Int) (m : Nat) : (stN c w p W m).2.set p w = W.set p w ∧ (stN c w p W m).2.length = W.length := by
  rw [stN_snd]
  split
  · exact ⟨rfl, rfl⟩
  · exact ⟨List.set_set .., List.length_set⟩
theorem stN_three (c : Cell) (w : Int) (p : Nat) (W : List Int) : (stN c w p W 3).1 = choiceC c w := by
  unfold choiceC
  have e3 : stN c w p W 3 = if val3 c 0 = w then (0, W.set p w) else stN c w p W 2 := rfl
  have e2 : stN c w p W 2 = if val3 c 1 = w then (1, W.set p w) else stN c w p W 1 := rfl
  have e1 : stN c w p W 1 = if val3 c 2 = w then (2, W.set p w) else (-1, W) := rfl
  have v0 : val3 c 0 = c.lasts := rfl
  have v1 : val3 c 1 = if c.flushed = true then c.sent else c.lasts := by simp [val3]
  have v2 : val3 c 2 = c.stored := rfl
  rw [e3, e2, e1, v0, v1, v2]
  by_cases h1 : w = c.lasts
  · rw [if_pos h1.symm, if_pos h1]
  · rw [if_neg (fun q => h1 q.symm), if_neg h1]
    by_cases hf : c.flushed = true
    · rw [if_pos hf]
      by_cases h2 : w = c.sent
      · rw [if_pos h2.symm, if_pos ⟨hf, h2⟩]
      · rw [if_neg (fun q => h2 q.symm), if_neg (show ¬ (c.flushed = true ∧ w = c.sent) from fun q => h2 q.2)]
        by_cases h3 : w = c.stored
        · rw [if_pos h3.symm, if_pos h3]
        · rw [if_neg (fun q => h3 q.symm), if_neg h3]
    · rw [if_neg hf, if_neg (fun q => h1 q.symm), if_neg (show ¬ (c.flushed = true ∧ w = c.sent) from fun q => hf q.1)]
      by_cases h3 : w = c.stored
      · rw [if_pos h3.symm, if_pos h3]
      · rw [if_neg (fun q => h3 q.symm), if_neg h3]
theorem lay_inj {a b : Int} (ha : U64 a) (hb : U64 b) (h : lay a.toNat 8 = lay b.toNat 8) : a = b := by
  have := congrArg num h
  rw [num_lay, num_lay] at this
  have e : (256 : Nat) ^ 8 = 18446744073709551616 := by decide
  unfold U64 at ha hb
  rw [Nat.mod_eq_of_lt (by omega), Nat.mod_eq_of_lt (by omega)] at this
  omega
theorem octs_inj {a b : List Int} (hl : a.length = b.length) (ha : ∀ w ∈ a, U64 w) (hb : ∀ w ∈ b, U64 w) (h : octs a = octs b) : a = b := by
  apply List.ext_getElem hl
  intro p h1 h2
  have e : lay (ix a (p : Int)).toNat 8 = lay (ix b (p : Int)).toNat 8 := by rw [← octs_at a h1, ← octs_at b h2, h]
  rw [ix_nat h1, ix_nat h2] at e
  exact lay_inj (ha _ (List.getElem_mem _)) (hb _ (List.getElem_mem _)) e
theorem rchoose_step {fu n j : Nat} {B : Int} {d : Dev} {v : List Int} (h : DevOk n B d) (hn : n ≤ 10000) (hf : n + 10 < fu) (hv : v.length = n) (hu : ∀ w ∈ v, U64 w) (hj : j < (fatesD d).length) :
    rickyardref06_Choose.s2 fu ((octs v).map toB) (fatesD d) (chs d v j, (j : Int), Wj d v j) = some (if choiceF (ix (fatesD d) (j : Int)) (wordOf v (ix (fatesD d) (j : Int))) < 0 then .inl (.inl ([], false)) else .inr (chs d v (j + 1), ((j + 1 : Nat) : Int), Wj d v (j + 1))) := by
  have hlen := h.len
  have hfl : (fatesD d).length ≤ n := by
    have := fatesU_le d d.cells.length
    unfold fatesD
    omega
  obtain ⟨p, hp, ho, hop, hfa⟩ := fates_at d d.cells.length (Nat.le_refl _) j hj
  have hfa' : ix (fatesD d) (j : Int) = fateD d p := hfa
  rw [chs_next d v hj, ← Wj_next d v hp ho hop, hfa']
  have a1 : (fateD d p).At = (p : Int) := rfl
  have a3 : choiceF (fateD d p) (wordOf v (fateD d p)) = choiceC (ix d.cells (p : Int)) (ix v (p : Int)) := rfl
  rw [a3]
  have w1 : IntKind.i64.wrap (8 * (p : Int)) = ((8 * p : Nat) : Int) := by rw [w64 (by omega) (by omega)]; omega
  have w2 : IntKind.i64.wrap (((8 * p : Nat) : Int) + 8) = ((8 * p + 8 : Nat) : Int) := by rw [w64 (by omega) (by omega)]; omega
  have hvl : (octs v).length = 8 * n := by rw [octs_len, hv]
  have hup : U64 (ix v (p : Int)) := by
    rw [ix_nat (by omega)]
    exact hu _ (List.getElem_mem _)
  have hcell : okC (ix d.cells (p : Int)) := by
    rw [ix_nat hp]
    exact h.val _ (List.getElem_mem _)
  have c1 : 0 ≤ (j : Int) ∧ (j : Int) < ((fatesD d).length : Int) := by omega
  have inner : loopM (rickyardref06_Choose.s3 fu ((octs v).map toB) (fatesD d) (chs d v j, (j : Int), Wj d v j)) fu (-1, 2, Wj d v j) = some (stN (ix d.cells (p : Int)) (ix v (p : Int)) p (Wj d v j) 3) := by
    refine loopM_run (S := fun m => ((stN (ix d.cells (p : Int)) (ix v (p : Int)) p (Wj d v j) m).1, 2 - (m : Int), (stN (ix d.cells (p : Int)) (ix v (p : Int)) p (Wj d v j) m).2)) 3 rfl ?_ ?_ (by omega)
    · intro m hm
      obtain ⟨k, hk⟩ : ∃ k : Nat, 2 - m = k := ⟨_, rfl⟩
      have hk2 : (2 : Int) - (m : Int) = (k : Int) := by omega
      have hval : rickyardref05_Value.f fu (fateD d p) (k : Int) = some (val3 (ix d.cells (p : Int)) k) := by
        rw [value_fate (by unfold I64; omega)]
        unfold fateC val3
        have : k = 0 ∨ k = 1 ∨ k = 2 := by omega
        rcases this with rfl | rfl | rfl <;> simp
      have huv : U64 (val3 (ix d.cells (p : Int)) k) := by
        unfold val3
        split
        · exact hcell.2.1
        · split
          · exact hcell.2.2
          · exact hcell.1
      have htx : rickyardref05_Text.f fu [val3 (ix d.cells (p : Int)) k] = some ((lay (val3 (ix d.cells (p : Int)) k).toNat 8).map toB) := by
        rw [text_eq (by intro w hw; rw [List.mem_singleton.1 hw]; exact huv) (by simp) (by simp; omega), octs_one]
      have w3 : IntKind.i64.wrap ((k : Int) - 1) = 2 - ((m + 1 : Nat) : Int) := by rw [w64 (by omega) (by omega)]; omega
      have hst := stN_set (ix d.cells (p : Int)) (ix v (p : Int)) p (Wj d v j) m
      have hsn : stN (ix d.cells (p : Int)) (ix v (p : Int)) p (Wj d v j) (m + 1) = if val3 (ix d.cells (p : Int)) k = ix v (p : Int) then ((k : Int), (Wj d v j).set p (ix v (p : Int))) else stN (ix d.cells (p : Int)) (ix v (p : Int)) p (Wj d v j) m := by
        rw [← hk]
        rfl
      unfold rickyardref06_Choose.s3
      simp only [hfa', a1, w1, w2, hk2]
      rw [decide_eq_true (show (k : Int) ≥ 0 by omega), if_pos rfl, if_pos c1, hval, hsn]
      simp only [Option.bind_some]
      rw [htx]
      simp only [Option.bind_some]
      rw [if_pos c1, if_pos c1, List.length_map, if_pos (by omega), cut_map, octs_at v (by omega), w3]
      by_cases e : val3 (ix d.cells (p : Int)) k = ix v (p : Int)
      · rw [e, decide_eq_true rfl, if_pos rfl, if_pos c1, if_pos ⟨by omega, by rw [hst.2, Wj_len]; omega⟩, Int.toNat_natCast, hst.1, if_pos rfl]
        rfl
      · have : ¬ (lay (val3 (ix d.cells (p : Int)) k).toNat 8).map toB = (lay (ix v (p : Int)).toNat 8).map toB := fun q => e (lay_inj huv hup (mapB_inj (lay_bytes _ _) (lay_bytes _ _) q))
        rw [decide_eq_false this, if_neg (by decide), if_neg e]
        rfl
    · unfold rickyardref06_Choose.s3
      rw [decide_eq_false (show ¬ ((2 : Int) - ((3 : Nat) : Int) ≥ 0) by decide), if_neg (by decide)]
  unfold rickyardref06_Choose.s2
  simp only []
  rw [decide_eq_true c1.2, if_pos rfl, inner]
  simp only [Option.bind_some]
  rw [stN_snd, stN_three]
  by_cases hc : choiceC (ix d.cells (p : Int)) (ix v (p : Int)) < 0
  · rw [decide_eq_true hc, if_pos rfl, if_pos hc]
  · have hlim : List.length (chs d v j) + List.length [choiceC (ix d.cells (p : Int)) (ix v (p : Int))] ≤ LIM := by
      rw [chs_len d v j (by omega)]
      exact Nat.le_trans (by simp only [List.length_cons, List.length_nil]; omega : _ ≤ 10001) (by decide)
    rw [decide_eq_false hc, if_neg (by decide), if_neg hc, if_pos hlim, if_neg hc, next64 hj (by omega)]
theorem choose_eq {fu n : Nat} {B s : Int} {d : Dev} {img : List Int} (h : DevOk n B d) (hn : n ≤ 10000) (hf : n * 8 + 10 < fu) (hb : Bytes img) :
    (∃ v : List Int, v.length = n ∧ (∀ w ∈ v, U64 w) ∧ img = octs v ∧ (∀ j, j < (fatesD d).length → goodJ d v j) ∧ Wj d v (fatesD d).length = v ∧ fate_Choose.f fu d img = some (chs d v (fatesD d).length, true) ∧ rickyardref06_Choose.f fu (toM d s) (img.map toB) = some (chs d v (fatesD d).length, true)) ∨
    (fate_Choose.f fu d img = some ([], false) ∧ (∃ l, rickyardref06_Choose.f fu (toM d s) (img.map toB) = some (l, false)) ∧ ∀ v : List Int, v.length = n → (∀ w ∈ v, U64 w) → img = octs v → ¬ ((∀ j, j < (fatesD d).length → goodJ d v j) ∧ Wj d v (fatesD d).length = v)) := by
  have hlen := h.len
  have hfl : (fatesD d).length ≤ n := by
    have := fatesU_le d d.cells.length
    unfold fatesD
    omega
  have hLL : (toM d s).Lasts = lastsD d := rfl
  have hll : (lastsD d).length = n := by rw [lastsD, List.length_map, hlen]
  have w8 : IntKind.i64.wrap (8 * ((lastsD d).length : Int)) = ((8 * n : Nat) : Int) := by rw [w64 (by omega) (by omega)]; omega
  by_cases hi : img.length = 8 * n
  rotate_left
  · right
    refine ⟨?_, ⟨[], ?_⟩, fun v hv _ e => absurd (by rw [e, octs_len, hv]) hi⟩
    · unfold fate_Choose.f
      rw [image_eq h (by omega) (by omega)]
      simp only [Option.bind_some]
      rw [octs_len, hll, decide_eq_false (by omega), if_pos (by decide)]
    · unfold rickyardref06_Choose.f
      rw [hLL, w8, List.length_map, decide_eq_false (by omega), if_pos (by decide)]
  obtain ⟨v, hv⟩ : ∃ v, v = wordsU img n := ⟨_, rfl⟩
  have hvl : v.length = n := by rw [hv, wordsU_len]
  have hvu : ∀ w ∈ v, U64 w := by rw [hv]; exact words_U64 hb
  have hvo : img = octs v := by
    rw [hv, octs_words hb n (by omega), List.take_of_length_le (by omega)]
  have huniq : ∀ v' : List Int, v'.length = n → (∀ w ∈ v', U64 w) → img = octs v' → v' = v := fun v' h1 h2 h3 => octs_inj (by omega) h2 hvu (by rw [← h3, hvo])
  subst hvo
  clear hv
  have hs0 : ∀ j, j < (fatesD d).length → goodJ d v j → fate_Choose.s0 fu (octs v) (fatesD d) (chs d v j, (j : Int), octs (Wj d v j)) = some (.inr (chs d v (j + 1), ((j + 1 : Nat) : Int), octs (Wj d v (j + 1)))) := by
    intro j hj hg
    unfold goodJ at hg
    rw [choose_step h hn (by omega) hvl hvu hj, if_neg (by omega)]
  have hs1 : ∀ j, j < (fatesD d).length → ¬ goodJ d v j → fate_Choose.s0 fu (octs v) (fatesD d) (chs d v j, (j : Int), octs (Wj d v j)) = some (.inl (.inl ([], false))) := by
    intro j hj hg
    unfold goodJ at hg
    rw [choose_step h hn (by omega) hvl hvu hj, if_pos (by omega)]
  have hr0 : ∀ j, j < (fatesD d).length → goodJ d v j → rickyardref06_Choose.s2 fu ((octs v).map toB) (fatesD d) (chs d v j, (j : Int), Wj d v j) = some (.inr (chs d v (j + 1), ((j + 1 : Nat) : Int), Wj d v (j + 1))) := by
    intro j hj hg
    unfold goodJ at hg
    rw [rchoose_step h hn (by omega) hvl hvu hj, if_neg (by omega)]
  have hr1 : ∀ j, j < (fatesD d).length → ¬ goodJ d v j → rickyardref06_Choose.s2 fu ((octs v).map toB) (fatesD d) (chs d v j, (j : Int), Wj d v j) = some (.inl (.inl ([], false))) := by
    intro j hj hg
    unfold goodJ at hg
    rw [rchoose_step h hn (by omega) hvl hvu hj, if_pos (by omega)]
  have hWu : ∀ w ∈ Wj d v (fatesD d).length, U64 w := by
    intro w hw
    obtain ⟨p, hp, rfl⟩ := List.getElem_of_mem hw
    have hp2 : p < d.cells.length := by rw [Wj_len] at hp; exact hp
    rw [← ix_nat hp, Wj_at d v _ hp2]
    split
    · rw [ix_nat (by omega)]
      exact hvu _ (List.getElem_mem _)
    · rw [ix_nat hp2]
      exact (h.val _ (List.getElem_mem _)).1
  have hWl : (Wj d v (fatesD d).length).length = n := by rw [Wj_len, hlen]
  have hlimN : List.length ([] : List Int) + (lastsD d).length ≤ LIM := by
    rw [hll, List.length_nil]
    exact Nat.le_trans (by omega : _ ≤ 10000) (by decide)
  have hc1 : fate_Choose.f fu d (octs v) = ((loopM (fate_Choose.s0 fu (octs v) (fatesD d)) fu ([], 0, octs (lastsD d))).bind fun e24 => match e24 with | Sum.inl p => some p | Sum.inr x27 => ((slices_Equal.f fu x27.2 (octs v) : Option Bool).bind fun t107 => (if (!t107) = true then some ([], false) else some (x27.1, true)))) := by
    unfold fate_Choose.f
    rw [image_eq h (by omega) (by omega), fates_eq h (by omega) (by omega)]
    simp only [Option.bind_some]
    rw [octs_len, octs_len, hll, hvl, decide_eq_true rfl, if_neg (by decide)]
    rfl
  have hc2 : rickyardref06_Choose.f fu (toM d s) ((octs v).map toB) = ((loopM (rickyardref06_Choose.s2 fu ((octs v).map toB) (fatesD d)) fu ([], 0, lastsD d)).bind fun e28 => match e28 with | Sum.inl p => some p | Sum.inr x31 => ((rickyardref05_Text.f fu x31.2 : Option (List UInt8)).bind fun t106 => some (x31.1, (decide (t106 = (octs v).map toB))))) := by
    unfold rickyardref06_Choose.f
    rw [hLL, w8, List.length_map, octs_len, hvl, decide_eq_true rfl, if_neg (by decide), if_pos hlimN, rfates_eq h (by omega) (by omega)]
    rfl
  by_cases hg : ∀ j, j < (fatesD d).length → goodJ d v j
  · have l1 : loopM (fate_Choose.s0 fu (octs v) (fatesD d)) fu ([], 0, octs (lastsD d)) = some (.inr (chs d v (fatesD d).length, octs (Wj d v (fatesD d).length))) := by
      refine loopM_run (S := fun j => (chs d v j, (j : Int), octs (Wj d v j))) (fatesD d).length (by rw [Wj_zero]; rfl) (fun j hj => hs0 j hj (hg j hj)) ?_ (by omega)
      unfold fate_Choose.s0
      simp only []
      rw [decide_eq_false (show ¬ (((fatesD d).length : Int) < ((fatesD d).length : Int)) by omega), if_neg (by decide)]
    have l2 : loopM (rickyardref06_Choose.s2 fu ((octs v).map toB) (fatesD d)) fu ([], 0, lastsD d) = some (.inr (chs d v (fatesD d).length, Wj d v (fatesD d).length)) := by
      refine loopM_run (S := fun j => (chs d v j, (j : Int), Wj d v j)) (fatesD d).length (by rw [Wj_zero]; rfl) (fun j hj => hr0 j hj (hg j hj)) ?_ (by omega)
      unfold rickyardref06_Choose.s2
      simp only []
      rw [decide_eq_false (show ¬ (((fatesD d).length : Int) < ((fatesD d).length : Int)) by omega), if_neg (by decide)]
    have heq := equal_eq (fu := fu) (a := octs (Wj d v (fatesD d).length)) (b := octs v) (by rw [octs_len, hWl]; omega) (by rw [octs_len, hWl]; omega)
    have htx := text_eq (fu := fu) hWu (by omega) (by omega)
    rw [hc1, hc2, l1, l2]
    simp only [Option.bind_some]
    rw [heq, htx]
    simp only [Option.bind_some]
    by_cases hw : Wj d v (fatesD d).length = v
    · left
      refine ⟨v, hvl, hvu, rfl, hg, hw, ?_, ?_⟩
      · rw [hw, decide_eq_true rfl, if_neg (by decide)]
      · rw [hw, decide_eq_true rfl]
    · right
      have e1 : ¬ octs (Wj d v (fatesD d).length) = octs v := fun q => hw (octs_inj (by omega) hWu hvu q)
      have e2 : ¬ (octs (Wj d v (fatesD d).length)).map toB = (octs v).map toB := fun q => e1 (mapB_inj (octsB _) (octsB _) q)
      refine ⟨?_, ⟨chs d v (fatesD d).length, ?_⟩, fun v' h1 h2 h3 h4 => hw (by rw [← huniq v' h1 h2 h3]; exact h4.2)⟩
      · rw [decide_eq_false e1, if_pos (by decide)]
      · rw [decide_eq_false e2]
  · have hex : ∃ j, j < (fatesD d).length ∧ ¬ goodJ d v j := by
      apply Classical.byContradiction
      intro hx
      exact hg fun j hj => Classical.byContradiction fun q => hx ⟨j, hj, q⟩
    have l1 : loopM (fate_Choose.s0 fu (octs v) (fatesD d)) fu ([], 0, octs (lastsD d)) = some (.inl ([], false)) :=
      loopM_bad (S := fun j => (chs d v j, (j : Int), octs (Wj d v j))) (fatesD d).length (goodJ d v) (by rw [Wj_zero]; rfl) hex (fun j hj _ h => hs0 j hj h) (fun j hj _ h => hs1 j hj h) (by omega)
    have l2 : loopM (rickyardref06_Choose.s2 fu ((octs v).map toB) (fatesD d)) fu ([], 0, lastsD d) = some (.inl ([], false)) :=
      loopM_bad (S := fun j => (chs d v j, (j : Int), Wj d v j)) (fatesD d).length (goodJ d v) (by rw [Wj_zero]; rfl) hex (fun j hj _ h => hr0 j hj h) (fun j hj _ h => hr1 j hj h) (by omega)
    right
    refine ⟨by rw [hc1, l1]; rfl, ⟨[], by rw [hc2, l2]; rfl⟩, fun v' h1 h2 h3 h4 => hg (by rw [← huniq v' h1 h2 h3]; exact h4.1)⟩
end Go.Proofs.Ytklhbaghbmndeaa.Pure
namespace Go.Proofs.Ytklhbaghbmndeaa
open Go Go.Xw
end Go.Proofs.Ytklhbaghbmndeaa
namespace Go.Proofs.Ytklhbaghbmndeaa.Pure
open Go Go.Xw
theorem flatc_len {α β : Type} {f : α → List β} {c : Nat} (h : ∀ a, (f a).length = c) : ∀ l : List α, (l.flatMap f).length = l.length * c
  | [] => by simp
  | a :: l => by rw [List.flatMap_cons, List.length_append, h, flatc_len h l, List.length_cons, Nat.succ_mul, Nat.add_comm]
def posF (fs : List S_api_Fate) (j : Nat) : Nat := (ix fs (j : Int)).At.toNat
def growW (fs : List S_api_Fate) (j : Nat) (b : List Int) : List (List Int) := (vals (ix fs (j : Int))).map fun w => b.set (posF fs j) w
def allW (ws : List Int) (fs : List S_api_Fate) : Nat → List (List Int)
  | 0 => [ws]
  | j + 1 => (allW ws fs j).flatMap (growW fs j)
theorem growW_len (fs : List S_api_Fate) (j : Nat) (b : List Int) : (growW fs j b).length = (vals (ix fs (j : Int))).length := by simp [growW]
theorem allW_len (ws : List Int) (fs : List S_api_Fate) (j : Nat) : (allW ws fs (j + 1)).length = (allW ws fs j).length * (vals (ix fs (j : Int))).length := flatc_len (growW_len fs j) _
theorem allW_ok (ws : List Int) (fs : List S_api_Fate) (hw : ∀ w ∈ ws, U64 w) : ∀ j : Nat, (∀ i : Nat, i < j → ∀ w ∈ vals (ix fs (i : Int)), U64 w) → ∀ b ∈ allW ws fs j, b.length = ws.length ∧ ∀ w ∈ b, U64 w
  | 0, _, b, hb => by
    obtain rfl := List.mem_singleton.1 hb
    exact ⟨rfl, hw⟩
  | j + 1, h, b, hb => by
    obtain ⟨a, ha, hb⟩ := List.mem_flatMap.1 hb
    obtain ⟨w, hw', rfl⟩ := List.mem_map.1 hb
    obtain ⟨h1, h2⟩ := allW_ok ws fs hw j (fun i hi => h i (by omega)) a ha
    refine ⟨by rw [List.length_set]; exact h1, fun x hx => ?_⟩
    rcases List.mem_or_eq_of_mem_set hx with hx | rfl
    · exact h2 x hx
    · exact h j (by omega) _ hw'
theorem mnI_if (a b : Int) : mnI a b = if a > b then b else a := rfl
theorem countU_pos (fs : List S_api_Fate) : ∀ m, 1 ≤ countU fs m
  | 0 => by simp [countU]
  | m + 1 => by
    have h := countU_pos fs m
    have hv := vals_len (ix fs (m : Int))
    have : 1 * 1 ≤ countU fs m * ((vals (ix fs (m : Int))).length : Int) := Int.mul_le_mul h (by omega) (by omega) (by omega)
    unfold countU
    rw [mnI_if]
    split
    · decide
    · omega
theorem cnt_all (ws : List Int) (fs : List S_api_Fate) : ∀ m, countU fs m ≤ 64 → ((allW ws fs m).length : Int) = countU fs m ∧ ∀ j, j ≤ m → (allW ws fs j).length ≤ 64
  | 0, _ => ⟨rfl, fun j hj => by
    have : j = 0 := by omega
    subst this
    show (1 : Nat) ≤ 64
    decide⟩
  | m + 1, h => by
    have hv := vals_len (ix fs (m : Int))
    have hp := countU_pos fs m
    have e : countU fs (m + 1) = mnI (countU fs m * ((vals (ix fs (m : Int))).length : Int)) 1099511627776 := rfl
    rw [mnI_if] at e
    have hle : countU fs m * 1 ≤ countU fs m * ((vals (ix fs (m : Int))).length : Int) := Int.mul_le_mul_of_nonneg_left (by omega) (by omega)
    have e2 : countU fs (m + 1) = countU fs m * ((vals (ix fs (m : Int))).length : Int) := by
      split at e
      · rw [e] at h
        exact absurd h (by decide)
      · exact e
    obtain ⟨h1, h2⟩ := cnt_all ws fs m (by omega)
    have h3 : ((allW ws fs (m + 1)).length : Int) = countU fs (m + 1) := by
      rw [allW_len, e2, Int.natCast_mul, h1]
    refine ⟨h3, fun j hj => ?_⟩
    by_cases hjm : j = m + 1
    · subst hjm
      omega
    · exact h2 j (by omega)
theorem fate_pos {d : Dev} {j : Nat} (hj : j < (fatesD d).length) : ∃ p : Nat, p < d.cells.length ∧ openC (ix d.cells (p : Int)) = true ∧ opens d.cells p = j ∧ ix (fatesD d) (j : Int) = fateD d p ∧ posF (fatesD d) j = p := by
  obtain ⟨p, hp, ho, hop, hfa⟩ := fates_at d d.cells.length (Nat.le_refl _) j hj
  have hfa' : ix (fatesD d) (j : Int) = fateD d p := hfa
  refine ⟨p, hp, ho, hop, hfa', ?_⟩
  unfold posF
  rw [hfa']
  exact Int.toNat_natCast p
theorem pos_inj {d : Dev} {i j : Nat} (hi : i < (fatesD d).length) (hj : j < (fatesD d).length) (h : posF (fatesD d) i = posF (fatesD d) j) : i = j := by
  obtain ⟨p, _, _, h1, _, h2⟩ := fate_pos hi
  obtain ⟨q, _, _, h3, _, h4⟩ := fate_pos hj
  rw [h2, h4] at h
  subst h
  omega
theorem vals_mem {f : S_api_Fate} {w : Int} (h : w ∈ vals f) : w = f.Lasts ∨ (f.Flushed = true ∧ w = f.Sent) ∨ w = f.Stored := by
  have key : ∀ w, w ∈ vals1 f → w = f.Lasts ∨ (f.Flushed = true ∧ w = f.Sent) := by
    intro w h
    unfold vals1 at h
    split at h
    · rename_i q
      simp only [List.mem_cons, List.not_mem_nil, or_false] at h
      rcases h with h | h
      · exact .inl h
      · exact .inr ⟨q.1, h⟩
    · exact .inl (List.mem_singleton.1 h)
  unfold vals at h
  split at h
  · rcases key w h with h | h
    · exact .inl h
    · exact .inr (.inl h)
  · rcases List.mem_append.1 h with h | h
    · rcases key w h with h | h
      · exact .inl h
      · exact .inr (.inl h)
    · exact .inr (.inr (List.mem_singleton.1 h))
theorem vals_U64 {n : Nat} {B : Int} {d : Dev} (h : DevOk n B d) {j : Nat} (hj : j < (fatesD d).length) : ∀ w ∈ vals (ix (fatesD d) (j : Int)), U64 w := by
  intro w hw
  obtain ⟨p, hp, _, _, e, _⟩ := fate_pos hj
  rw [e] at hw
  have hc : okC (ix d.cells (p : Int)) := by
    rw [ix_nat hp]
    exact h.val _ (List.getElem_mem _)
  rcases vals_mem hw with h | ⟨_, h⟩ | h
  · rw [h]; exact hc.1
  · rw [h]; exact hc.2.2
  · rw [h]; exact hc.2.1
theorem lasts_U64 {n : Nat} {B : Int} {d : Dev} (h : DevOk n B d) : ∀ w ∈ lastsD d, U64 w := by
  intro w hw
  obtain ⟨c, hc, rfl⟩ := List.mem_map.1 hw
  exact (h.val c hc).1
theorem lim9 {n : Nat} (h : n ≤ 100000) : n ≤ LIM := Nat.le_trans h (by decide)
theorem all_s6 {fu n j i : Nat} {B : Int} {d : Dev} {bs nx : List (List Int)} {a1 : List (List Int)} (h : DevOk n B d) (hn : n ≤ 1000) (hf : 100 < fu) (hj : j < (fatesD d).length) (hi : i < bs.length) (hb : bs[i].length = n) (hx : nx.length ≤ 1000) :
    loopM (fate_All.s6 fu (fatesD d) (bs.map octs, (j : Int)) (a1, (i : Int)) (vals (ix (fatesD d) (j : Int)))) fu (nx, 0) = some (nx ++ (growW (fatesD d) j bs[i]).map octs) := by
  have hv := vals_len (ix (fatesD d) (j : Int))
  have hu := vals_U64 h hj
  obtain ⟨p, hp, ho, hop, hfa, hpos⟩ := fate_pos hj
  have hlen := h.len
  have hat : (ix (fatesD d) (j : Int)).At = (p : Int) := by rw [hfa]; rfl
  have hcl : slices_Clone_2.f fu (octs bs[i]) = some (octs bs[i]) := by
    unfold slices_Clone_2.f
    rw [if_pos (lim9 (by rw [octs_len, hb]; omega))]
  have hix : ix (bs.map octs) (i : Int) = octs bs[i] := by rw [ix_nat (by rw [List.length_map]; exact hi), List.getElem_map]
  have w1 : IntKind.i64.wrap ((p : Int) * 8) = ((8 * p : Nat) : Int) := by rw [w64 (by omega) (by omega)]; omega
  have hol : (octs bs[i]).length = 8 * n := by rw [octs_len, hb]
  generalize hvs : vals (ix (fatesD d) (j : Int)) = vs at *
  refine loopM_run (S := fun m => (nx ++ (vs.take m).map (fun w => octs (bs[i].set p w)), (m : Int))) vs.length (by simp) ?_ ?_ (by omega)
  · intro m hm
    have hoc : octet_Octets.f fu [ix vs (m : Int)] = some (lay (ix vs (m : Int)).toNat 8) := by
      rw [octets_eq (by intro w hw; rw [List.mem_singleton.1 hw, ix_nat hm]; exact hu _ (List.getElem_mem _)) (by simp) (by simp only [List.length_cons, List.length_nil]; omega), octs_one]
    have hcond : (0 : Int) ≤ (m : Int) ∧ (m : Int) < (vs.length : Int) := by omega
    unfold fate_All.s6
    simp only [hat, hix, w1, Int.toNat_natCast]
    rw [decide_eq_true hcond.2, if_pos rfl, if_pos hcond, hcl]
    simp only [Option.bind_some]
    rw [if_pos (by omega), hoc]
    simp only [Option.bind_some]
    have htk : List.take ((octs bs[i]).length - 8 * p) (lay (ix vs (m : Int)).toNat 8) = lay (ix vs (m : Int)).toNat 8 := List.take_of_length_le (by rw [lay_len]; omega)
    rw [if_pos ⟨by omega, Nat.le_refl _⟩, htk, octs_set _ (by omega), if_pos (lim9 (by
      simp only [List.length_append, List.length_map, List.length_take, List.length_cons, List.length_nil]
      omega)), next64 hm (by omega), take_next hm, List.map_append, ix_nat hm, ← List.append_assoc]
    rfl
  · unfold fate_All.s6
    simp only []
    rw [decide_eq_false (show ¬ ((vs.length : Int) < (vs.length : Int)) by omega), if_neg (by decide), List.take_length]
    congr 2
    unfold growW
    rw [hvs, hpos, List.map_map]
    rfl
theorem all_s5 {fu n j : Nat} {B : Int} {d : Dev} {bs : List (List Int)} (h : DevOk n B d) (hn : n ≤ 1000) (hf : 100 < fu) (hj : j < (fatesD d).length) (hl : bs.length ≤ 64) (hb : ∀ b ∈ bs, b.length = n) :
    loopM (fate_All.s5 fu (fatesD d) (bs.map octs, (j : Int))) fu ([], 0) = some ((bs.flatMap (growW (fatesD d) j)).map octs) := by
  have hv := vals_len (ix (fatesD d) (j : Int))
  refine loopM_run (S := fun i => (((bs.take i).flatMap (growW (fatesD d) j)).map octs, (i : Int))) bs.length (by simp) ?_ ?_ (by omega)
  · intro i hi
    have hcond : (0 : Int) ≤ (i : Int) ∧ (i : Int) < ((bs.map octs).length : Int) := by rw [List.length_map]; omega
    have hc2 : (0 : Int) ≤ (j : Int) ∧ (j : Int) < ((fatesD d).length : Int) := by omega
    have hle : (((bs.take i).flatMap (growW (fatesD d) j)).map octs).length ≤ 1000 := by
      rw [List.length_map, flatc_len (growW_len (fatesD d) j), List.length_take]
      have : min i bs.length * (vals (ix (fatesD d) (j : Int))).length ≤ 64 * 3 := Nat.mul_le_mul (by omega) hv.2
      omega
    have h6 := all_s6 (a1 := ((bs.take i).flatMap (growW (fatesD d) j)).map octs) h hn hf hj hi (hb _ (List.getElem_mem hi)) hle
    unfold fate_All.s5
    simp only []
    rw [decide_eq_true hcond.2, if_pos rfl, if_pos hcond, values_eq (by omega)]
    simp only [Option.bind_some]
    rw [h6]
    simp only [Option.bind_some]
    rw [next64 hi (by omega), take_next hi, List.flatMap_append, List.map_append]
    simp
  · unfold fate_All.s5
    simp only []
    rw [List.length_map, decide_eq_false (show ¬ ((bs.length : Int) < (bs.length : Int)) by omega), if_neg (by decide), List.take_length]
theorem all_eq {fu n : Nat} {B most : Int} {d : Dev} (h : DevOk n B d) (hn : n ≤ 1000) (hf : n + 100 < fu) :
    fate_All.f fu d most = some (if countU (fatesD d) (fatesD d).length > most ∨ countU (fatesD d) (fatesD d).length > 64 then [] else (allW (lastsD d) (fatesD d) (fatesD d).length).map octs) := by
  have hpos := countU_pos (fatesD d) (fatesD d).length
  have hlen := h.len
  have hfl : (fatesD d).length ≤ n := by
    have := fatesU_le d d.cells.length
    unfold fatesD
    omega
  unfold fate_All.f
  rw [fcount_eq h (by omega) (by omega)]
  simp only [Option.bind_some]
  rw [decide_eq_false (show ¬ countU (fatesD d) (fatesD d).length = 0 by omega)]
  by_cases hc : countU (fatesD d) (fatesD d).length > most ∨ countU (fatesD d) (fatesD d).length > 64
  · have : countU (fatesD d) (fatesD d).length > mnI most 64 := by
      rw [mnI_if]
      split <;> omega
    rw [decide_eq_true this, if_neg (show ¬ false = true by decide), if_pos rfl, if_pos hc]
  · have : ¬ countU (fatesD d) (fatesD d).length > mnI most 64 := by
      rw [mnI_if]
      split <;> omega
    rw [decide_eq_false this, if_neg (show ¬ false = true by decide), if_neg (show ¬ false = true by decide), if_neg hc, image_eq h (by omega) (by omega), fates_eq h (by omega) (by omega)]
    simp only [Option.bind_some]
    have hall := (cnt_all (lastsD d) (fatesD d) (fatesD d).length (by omega)).2
    have hll : (lastsD d).length = n := by rw [lastsD, List.length_map, hlen]
    have hrun : loopM (fate_All.s3 fu (fatesD d)) fu ([octs (lastsD d)], 0) = some ((allW (lastsD d) (fatesD d) (fatesD d).length).map octs) := by
      refine loopM_run (S := fun j => ((allW (lastsD d) (fatesD d) j).map octs, (j : Int))) (fatesD d).length rfl ?_ ?_ (by omega)
      · intro j hj
        have hcond : (0 : Int) ≤ (j : Int) ∧ (j : Int) < ((fatesD d).length : Int) := by omega
        have h5 := all_s5 h hn (by omega : 100 < fu) hj (hall j (by omega)) (fun b hb => ((allW_ok (lastsD d) (fatesD d) (lasts_U64 h) j (fun i hi => vals_U64 h (by omega)) b hb).1).trans hll)
        unfold fate_All.s3
        simp only []
        rw [decide_eq_true hcond.2, if_pos rfl, if_pos hcond, h5, next64 hj (by omega)]
        rfl
      · unfold fate_All.s3
        simp only []
        rw [decide_eq_false (show ¬ (((fatesD d).length : Int) < ((fatesD d).length : Int)) by omega), if_neg (by decide)]
    rw [hrun]
    rfl
theorem flat_one {α β : Type} [DecidableEq α] {f : α → List β} {P : β → Bool} {a0 : α} : ∀ {l : List α}, (∀ a ∈ l, a = a0 → ((f a).filter P).length = 1) → (∀ a ∈ l, a ≠ a0 → ((f a).filter P).length = 0) → ((l.flatMap f).filter P).length = (l.filter fun a => decide (a = a0)).length
  | [], _, _ => rfl
  | a :: l, h1, h0 => by
    have ih := flat_one (l := l) (fun b hb => h1 b (List.mem_cons_of_mem _ hb)) (fun b hb => h0 b (List.mem_cons_of_mem _ hb))
    rw [List.flatMap_cons, List.filter_append, List.length_append, ih, List.filter_cons]
    by_cases e : a = a0
    · rw [h1 a (List.mem_cons_self ..) e, decide_eq_true e, if_pos rfl, List.length_cons]
      omega
    · rw [h0 a (List.mem_cons_self ..) e, decide_eq_false e, if_neg (by decide)]
      omega
theorem allW_keep {ws : List Int} {fs : List S_api_Fate} {p : Nat} : ∀ j : Nat, (∀ i : Nat, i < j → posF fs i ≠ p) → ∀ b ∈ allW ws fs j, b[p]? = ws[p]?
  | 0, _, b, hb => by rw [List.mem_singleton.1 hb]
  | j + 1, h, b, hb => by
    obtain ⟨a, ha, hb⟩ := List.mem_flatMap.1 hb
    obtain ⟨w, hw, rfl⟩ := List.mem_map.1 hb
    rw [List.getElem?_set_ne (h j (by omega))]
    exact allW_keep j (fun i hi => h i (by omega)) a ha
theorem vals_one {f : S_api_Fate} {x : Int} (hx : x ∈ vals f) : ((vals f).filter fun w => decide (w = x)).length = 1 := by
  have h1 : ∀ y ∈ vals1 f, ((vals1 f).filter fun w => decide (w = y)).length = 1 := by
    intro y hy
    unfold vals1 at hy ⊢
    split at hy
    · rename_i q
      rw [if_pos q]
      simp only [List.mem_cons, List.not_mem_nil, or_false] at hy
      rcases hy with rfl | rfl
      · simp [List.filter_cons, q.2]
      · simp [List.filter_cons, Ne.symm q.2]
    · rename_i q
      rw [if_neg q]
      rw [List.mem_singleton.1 hy]
      simp
  have h0 : ∀ y, y ∉ vals1 f → ((vals1 f).filter fun w => decide (w = y)).length = 0 := by
    intro y hy
    rw [List.length_eq_zero_iff, List.filter_eq_nil_iff]
    intro a ha q
    exact hy (by rw [← of_decide_eq_true q]; exact ha)
  unfold vals at hx ⊢
  split at hx
  · rename_i q
    rw [if_pos q]
    exact h1 x hx
  · rename_i q
    rw [if_neg q, List.filter_append, List.length_append]
    rcases List.mem_append.1 hx with hx | hx
    · have hne : ¬ f.Stored = x := fun e => q (by rw [e]; exact hx)
      rw [h1 x hx]
      simp [List.filter_cons, hne]
    · have hxe := List.mem_singleton.1 hx
      rw [h0 x (by rw [hxe]; exact q), hxe]
      simp
theorem fate_vals (d : Dev) (p : Nat) (k : Int) : fateC (ix d.cells (p : Int)) k ∈ vals (fateD d p) := by
  have hl : (ix d.cells (p : Int)).lasts ∈ vals1 (fateD d p) := by
    unfold vals1
    split <;> exact List.mem_cons_self ..
  have hs : (ix d.cells (p : Int)).flushed = true → (ix d.cells (p : Int)).sent ∈ vals1 (fateD d p) := by
    intro hf
    unfold vals1
    by_cases e : (fateD d p).Flushed = true ∧ (fateD d p).Sent ≠ (fateD d p).Lasts
    · rw [if_pos e]
      exact List.mem_cons_of_mem _ (List.mem_cons_self ..)
    · rw [if_neg e]
      have : (fateD d p).Sent = (fateD d p).Lasts := Classical.byContradiction fun z => e ⟨hf, z⟩
      exact List.mem_singleton.2 this
  have up : ∀ w, w ∈ vals1 (fateD d p) → w ∈ vals (fateD d p) := by
    intro w hw
    unfold vals
    split
    · exact hw
    · exact List.mem_append_left _ hw
  have hst : (ix d.cells (p : Int)).stored ∈ vals (fateD d p) := by
    unfold vals
    split
    · rename_i q
      exact q
    · exact List.mem_append_right _ (List.mem_singleton.2 rfl)
  unfold fateC
  split
  · exact hst
  · split
    · rename_i q
      exact up _ (hs q.2)
    · exact up _ hl
theorem set_eq_set {b c : List Int} {p : Nat} {w x : Int} (hp : p < b.length) (hl : b.length = c.length) (hk : b[p]? = c[p]?) : b.set p w = c.set p x ↔ w = x ∧ b = c := by
  constructor
  · intro h
    have hpp := congrArg (fun l => l[p]?) h
    simp only [List.getElem?_set_self hp, List.getElem?_set_self (show p < c.length by omega)] at hpp
    refine ⟨Option.some.inj hpp, List.ext_getElem? fun i => ?_⟩
    by_cases e : p = i
    · subst e
      exact hk
    · have hi := congrArg (fun l => l[i]?) h
      simp only [List.getElem?_set_ne e] at hi
      exact hi
  · rintro ⟨rfl, rfl⟩
    rfl
theorem all_one {n : Nat} {B : Int} {d : Dev} {v : List Int} (h : DevOk n B d) (hv : ∀ j : Nat, j < (fatesD d).length → ix v ((posF (fatesD d) j : Nat) : Int) ∈ vals (ix (fatesD d) (j : Int))) : ∀ j : Nat, j ≤ (fatesD d).length → ((allW (lastsD d) (fatesD d) j).filter fun b => decide (b = Wj d v j)).length = 1
  | 0, _ => by
    rw [Wj_zero]
    simp [allW]
  | j + 1, hj => by
    have ih := all_one h hv j (by omega)
    have hlen := h.len
    have hll : (lastsD d).length = n := by rw [lastsD, List.length_map, hlen]
    obtain ⟨p, hp, ho, hop, hfa, hpos⟩ := fate_pos (show j < (fatesD d).length by omega)
    have hx := hv j (by omega)
    rw [hpos] at hx
    have hne : ∀ i : Nat, i < j → posF (fatesD d) i ≠ p := fun i hi z => by
      have := pos_inj (d := d) (i := i) (j := j) (by omega) (by omega) (by rw [z, hpos])
      omega
    have hW : (Wj d v j)[p]? = (lastsD d)[p]? := by
      have e := Wj_at d v j hp
      rw [if_neg (fun q => by omega)] at e
      rw [List.getElem?_eq_getElem (by rw [Wj_len]; exact hp), List.getElem?_eq_getElem (by omega), ← ix_nat (by rw [Wj_len]; exact hp), e, ix_nat hp]
      simp [lastsD]
    rw [← Wj_next d v hp ho hop]
    have key : ∀ b ∈ allW (lastsD d) (fatesD d) j, ∀ w : Int, b.set p w = (Wj d v j).set p (ix v (p : Int)) ↔ w = ix v (p : Int) ∧ b = Wj d v j := by
      intro b hb w
      have hb1 := (allW_ok (lastsD d) (fatesD d) (lasts_U64 h) j (fun i hi => vals_U64 h (by omega)) b hb).1
      exact set_eq_set (by omega) (by rw [Wj_len]; omega) ((allW_keep j hne b hb).trans hW.symm)
    refine (flat_one (a0 := Wj d v j) ?_ ?_).trans ih
    · intro b hb e
      unfold growW
      rw [hpos, List.filter_map, List.length_map, ← vals_one hx]
      congr 1
      refine List.filter_congr fun w _ => ?_
      exact decide_eq_decide.2 ((key b hb w).trans ⟨fun q => q.1, fun q => ⟨q, e⟩⟩)
    · intro b hb e
      rw [List.length_eq_zero_iff, List.filter_eq_nil_iff]
      intro c hc q
      unfold growW at hc
      rw [hpos] at hc
      obtain ⟨w, hw, rfl⟩ := List.mem_map.1 hc
      exact e ((key b hb w).1 (of_decide_eq_true q)).2
theorem crash_good {n : Nat} {B : Int} {d : Dev} {l v : List Int} (h : DevOk n B d) (hv : v = lastsD (crashD d l)) : v.length = n ∧ (∀ w ∈ v, U64 w) ∧ (∀ j, j < (fatesD d).length → goodJ d v j) ∧ Wj d v (fatesD d).length = v ∧ ∀ j : Nat, j < (fatesD d).length → ix v ((posF (fatesD d) j : Nat) : Int) ∈ vals (ix (fatesD d) (j : Int)) := by
  have hlen := h.len
  have hdc := crash_ok (l := l) h
  have hvl : v.length = n := by rw [hv, lastsD, List.length_map, hdc.len]
  have hfl : (fatesD d).length = opens d.cells d.cells.length := fates_len d _ (Nat.le_refl _)
  have hat : ∀ j : Nat, j < (fatesD d).length → ∃ p : Nat, p < d.cells.length ∧ ix (fatesD d) (j : Int) = fateD d p ∧ posF (fatesD d) j = p ∧ ix v (p : Int) = fateC (ix d.cells (p : Int)) (l.getD j 0) := by
    intro j hj
    obtain ⟨p, hp, ho, hop, hfa, hpos⟩ := fate_pos hj
    refine ⟨p, hp, hfa, hpos, ?_⟩
    rw [hv, crash_lasts hp, if_pos ho, hop]
  refine ⟨hvl, by rw [hv]; exact lasts_U64 hdc, ?_, ?_, ?_⟩
  · intro j hj
    obtain ⟨p, hp, hfa, _, hval⟩ := hat j hj
    unfold goodJ
    rw [hfa, choiceF_fate]
    have : wordOf v (fateD d p) = ix v (p : Int) := rfl
    rw [this]
    exact choice_of hval.symm
  · apply List.ext_getElem (by rw [Wj_len]; omega)
    intro p h1 h2
    have hp : p < d.cells.length := by rw [Wj_len] at h1; exact h1
    rw [← ix_nat h1, ← ix_nat h2, Wj_at d v _ hp]
    cases ho : openC (ix d.cells (p : Int))
    · rw [if_neg (by simp), hv, crash_lasts hp, if_neg (by rw [ho]; decide), ix_nat hp]
      simp [lastsD, ix_nat (show p < (lastsD d).length by simp [lastsD]; exact hp)]
      rw [ix_nat (by simpa using hp)]
      simp
    · have hlt := opens_lt hp (Nat.le_refl _) ho
      rw [if_pos ⟨rfl, by omega⟩]
  · intro j hj
    obtain ⟨p, hp, hfa, hpos, hval⟩ := hat j hj
    rw [hpos, hval, hfa]
    exact fate_vals d p _
theorem FateCrashes : ∀ (a0 : Int) (a1 : List S_rickyardlaw05_Act) (a2 : List Int), (Lit.int .u8 a0).wf = true → ((∀ x ∈ a1, ok_rickyardlaw05_Act x) ∧ List.length a1 ≤ maxLen) → ((∀ x ∈ a2, (Lit.int .i64 x).wf = true) ∧ List.length a2 ≤ maxLen) → ∃ fu, rickyardlaw06_FateCrashes.f fu a0 a1 a2 = some true := by
  intro lines acts l hn hacts hl
  refine ⟨FU, ?_⟩
  unfold rickyardlaw06_FateCrashes.f
  rw [awake06]
  simp only [Option.bind_some, Bool.not_true, Bool.false_eq_true, if_false]
  by_cases hL : (l.length : Int) > 60
  · rw [decide_eq_true hL]
    rfl
  rw [decide_eq_false hL, if_neg (by decide)]
  have hli : ∀ x ∈ l, I64 x := fun x hx => wf64.1 (hl.1 x hx)
  rcases made_eq (wf8.1 hn) hacts.1 with h | ⟨n, d, s, hk, hd, _, _, _, h⟩
  · rw [h]
    rfl
  rw [h]
  simp only [Option.bind_some, Option.elim_some]
  have hlen := hd.len
  have hF : n + 100 < FU := by show _ < 200000; omega
  have hfl : (fatesD d).length ≤ n := by
    have := fatesU_le d d.cells.length
    unfold fatesD
    omega
  obtain ⟨v, hv⟩ : ∃ v, v = lastsD (crashD d l) := ⟨_, rfl⟩
  obtain ⟨g1, g2, g3, g4, g5⟩ := crash_good hd hv
  have hdc := crash_ok (l := l) hd
  have hone := all_one hd g5 (fatesD d).length (Nat.le_refl _)
  rw [g4] at hone
  have hcnt := cnt_all (lastsD d) (fatesD d) (fatesD d).length
  have hok := allW_ok (lastsD d) (fatesD d) (lasts_U64 hd) (fatesD d).length (fun i hi => vals_U64 hd hi)
  have hll : (lastsD d).length = n := by rw [lastsD, List.length_map, hlen]
  rw [crash_eq hd (by omega) hli (by omega)]
  simp only [Option.bind_some]
  rw [image_eq hdc (by omega) (by omega), ← hv]
  simp only [Option.bind_some]
  unfold fate_May.f
  rcases choose_eq (s := s) hd (by omega) (show n * 8 + 10 < FU by show _ < 200000; omega) (octsB v) with ⟨v', _, _, _, _, _, h1, _⟩ | ⟨_, _, hno⟩
  rotate_left
  · exact absurd ⟨g3, g4⟩ (hno v g1 g2 rfl)
  rw [h1]
  simp only [Option.bind_some]
  rw [fates_eq hd (by omega) (by omega), all_eq hd (by omega) hF, fcount_eq hd (by omega) (by omega)]
  simp only [Option.bind_some]
  rw [chs_len d v' _ (Nat.le_refl _), decide_eq_true rfl]
  simp only [Bool.not_true, Bool.false_eq_true, if_false, Option.bind_some]
  generalize countU (fatesD d) (fatesD d).length = N at *
  generalize allW (lastsD d) (fatesD d) (fatesD d).length = L at *
  by_cases hc : N > 64
  · have hcc : N > 64 ∨ N > 64 := .inl hc
    rw [decide_eq_true hc, if_pos rfl, if_pos hcc]
    rfl
  · obtain ⟨_, h2⟩ := hcnt (by omega)
    have h2 := h2 _ (Nat.le_refl _)
    have hcc : ¬ (N > 64 ∨ N > 64) := by omega
    rw [decide_eq_false hc, if_neg (show ¬ false = true by decide), if_neg hcc]
    have hrun : loopM (rickyardlaw06_FateCrashes.s3 FU (octs v) (L.map octs)) FU (0, 0) = some ((L.filter fun b => decide (b = v)).length : Int) := by
      refine loopM_run (S := fun i => ((((L.take i).filter fun b => decide (b = v)).length : Int), (i : Int))) L.length rfl ?_ ?_ (by show _ < 200000; omega)
      · intro i hi
        have hcond : (0 : Int) ≤ (i : Int) ∧ (i : Int) < ((L.map octs).length : Int) := by rw [List.length_map]; omega
        obtain ⟨k1, k2⟩ := hok L[i] (List.getElem_mem hi)
        have hle : ((L.take i).filter fun b => decide (b = v)).length ≤ 64 := by
          have := List.length_filter_le (fun b => decide (b = v)) (L.take i)
          rw [List.length_take] at this
          omega
        unfold rickyardlaw06_FateCrashes.s3
        simp only []
        rw [decide_eq_true hcond.2, if_pos rfl, if_pos hcond, ix_nat (by rw [List.length_map]; exact hi), List.getElem_map, next64 hi (by omega), take_next hi, List.filter_append, List.length_append]
        by_cases e : L[i] = v
        · rw [e, decide_eq_true rfl, if_pos rfl, w64 (by omega) (by omega)]
          simp
        · have : ¬ (octs L[i]).map toB = (octs v).map toB := fun q => e (octs_inj (by omega) k2 g2 (mapB_inj (octsB _) (octsB _) q))
          rw [decide_eq_false this, if_neg (by decide)]
          simp [List.filter_cons, e]
      · unfold rickyardlaw06_FateCrashes.s3
        simp only []
        rw [List.length_map, decide_eq_false (show ¬ ((L.length : Int) < (L.length : Int)) by omega), if_neg (by decide), List.take_length]
    rw [hrun, hone]
    rfl
end Go.Proofs.Ytklhbaghbmndeaa.Pure
namespace Go.Proofs.Ytklhbaghbmndeaa.fateCrashes
open Go.ChangeShapes Go.WideShapes Go.ChangeAt Go.RowKit
open Go.ChangeMaps (open_string shut_string)
open Go Go.Xw
theorem own : ownKnob Try.prog.godebug = none := Facts.own
theorem laidOut : laidOutB Try.prog = true := Facts.laid
theorem closed : joinedFacts Try.pinned.checked.prog 17 Try.f17 Rows.fateCrashesSpec Rows.fateCrashesRow = true := by
  unfold joinedFacts
  rw [Facts.enter, Facts.lifts, Facts.make, Facts.laid, Facts.rowed, Facts.plain, Facts.heard]
  kernel_rfl
theorem enc_seg {α : Type} (K : Kd α) (a : α) : K.enc a = cellsOf [Kd.seg K a] := by simp [cellsOf, Kd.seg]
def start : Input := ⟨#[], #[.int .u8 0, .slice none 0 0, .slice none 0 0], []⟩
set_option maxRecDepth 100000 in
set_option maxHeartbeats 1000000 in
theorem lifted (os : Os) (started : os.Started) (H : Type) (enc : TypeId × Value → H) :
    ReturnsInHanded {} Try.checked os 17 .any (Rows.fateCrashesSpec.pre6 enc Try.prog Try.f17 Rows.fateCrashesRow.domain false) (Rows.fateCrashesSpec.post enc Try.prog Try.f17 false true false false) := by
  refine returnsInHanded_of_change_sized (C := Try.checked) own started (by kernel_rfl) Try.func17
    (ChangeSpec.witness6 (enc := enc) (C := Try.checked) false start 8 (by kernel_rfl) (by kernel_rfl) (by kernel_rfl) (by kernel_rfl)) ?_
  intro W base args ds gs before hval0 hW hcnd hsz0 _
  have hval : ∀ (j : Nat) t v, Try.f17.params[j]? = some t → args[j]? = some v → Value.okWide Try.prog W .any base t v := hval0
  have hW' := hW
  obtain ⟨p, q, hA0, hV, rfl, hfz, hnd⟩ := hW
  have hA : DataW.TrodAll enc Try.prog W 0 (fun _ => true) true Try.f17.params.toList args.toList ds p := hA0
  rw [Try.params17] at hA hval
  obtain ⟨v0, vs0, d0, ds0, p0, q0, hargs, rfl, rfl, h0, r0⟩ := trodAll_cons hA
  obtain ⟨v1, vs1, d1, ds1, p1, q1, rfl, rfl, rfl, h1, r1⟩ := trodAll_cons r0
  obtain ⟨v2, vs2, d2, ds2, p2, q2, rfl, rfl, rfl, h2, r2⟩ := trodAll_cons r1
  obtain ⟨rfl, rfl, rfl⟩ := trodAll_nil r2
  obtain rfl : args = #[v0, v1, v2] := by cases args; simp_all
  obtain ⟨rfl, rfl⟩ := trodVars_none hV
  obtain ⟨a0, rfl, rfl, rfl, w0⟩ := open_int Try.underlying5 (hval 0 5 v0 rfl rfl) h0
  have k1 := h1
  have lt1 : ∀ x ∈ p1, x.block < W.heap.size := by obtain ⟨m, hm⟩ := k1; exact DataW.trod_lt m _ _ _ hm
  obtain ⟨fu1, hf1⟩ := h1
  obtain ⟨aa1, len1, cap1, rfl⟩ := okWide_slice Try.underlying24 (hval 1 24 v1 rfl rfl)
  obtain ⟨a1, V1_0, e1, R1_0, o1, l1, _⟩ := (opn_sliceN (n := 4) (D := D_rickyardlaw05_Act) (ok := ok_rickyardlaw05_Act) (w := W) Try.underlying24 (by kernel_rfl) (by decide) (fun enc base sp held fuel cs x h => by obtain ⟨a, V0, R0, e, o⟩ := opn_rickyardlaw05_Act enc base sp held fuel cs x h; exact ⟨a, ⟨V0, R0, e⟩, o, by rw [e, len_cellsOf]; rfl, by rw [e]; exact one_cellsOf _⟩)) enc _ _ _ _ _ _ hf1
  obtain rfl : Value.slice aa1 len1 cap1 = V1_0 := by simpa [Value.cells] using e1
  have k2 := h2
  have lt2 : ∀ x ∈ p2, x.block < W.heap.size := by obtain ⟨m, hm⟩ := k2; exact DataW.trod_lt m _ _ _ hm
  obtain ⟨fu2, hf2⟩ := h2
  obtain ⟨aa2, len2, cap2, rfl⟩ := okWide_slice Try.underlying25 (hval 2 25 v2 rfl rfl)
  obtain ⟨a2, V2_0, e2, R2_0, o2, l2, _⟩ := (opn_slice (K := (kI .i64)) Try.underlying25 (by kernel_rfl) (by decide) (opn_int Try.underlying3)) enc _ _ _ _ _ _ hf2
  obtain rfl : Value.slice aa2 len2 cap2 = V2_0 := by simpa [Value.cells] using e2
  obtain ⟨fu, hfu⟩ := Pure.FateCrashes a0 a1 a2 w0 ⟨o1, l1⟩ ⟨o2, l2⟩
  refine Calls.mono (rickyardlaw06_FateCrashes.ok fu W a0 a1 _ R1_0 a2 _ R2_0 true hfu) fun e W' hr => ?_
  obtain ⟨v, rfl, rfl, gr⟩ := hr
  have bel := Fr.below gr
  exact ⟨_, rfl, _, _, _, [], _, [], hW', trodAll_mk1 (shut_bool Try.underlying4 _), (trodAll_cons_mk (shut_int Try.underlying5 w0) (trodAll_cons_mk (Below.trod laidOut (by kernel_rfl) (of_decide_eq_true (by kernel_rfl)) k1 bel lt1) (trodAll_cons_mk (Below.trod laidOut (by kernel_rfl) (of_decide_eq_true (by kernel_rfl)) k2 bel lt2) trodAll_mk0))), rfl, bel.frame _, fun h => by cases h⟩
theorem over : Rows.fateCrashesRow.holds Try.pinned (OpenSpec.ofChange Rows.fateCrashesSpec) :=
  OpenClaim.holds_of_wide 17 Try.f17 rfl rfl rfl rfl rfl rfl rfl ⟨rfl, rfl, rfl, rfl, rfl⟩ rfl rfl rfl rfl rfl (by kernel_rfl) Try.func17 closed
    (of_decide_eq_true (by kernel_rfl)) (by unfold Func.isWrapper; first | (rw [if_pos (by decide +kernel)]; kernel_rfl) | (rw [if_neg (by decide +kernel)]; exact ⟨rfl, rfl⟩))
    (fun os started H enc _ => lifted os started H enc)
theorem proved : Rows.FateCrashesSaid := over
end Go.Proofs.Ytklhbaghbmndeaa.fateCrashes
namespace Go.Proofs.Ytklhbaghbmndeaa
theorem fateCrashes_holds : Rows.FateCrashesSaid := fateCrashes.proved
#print axioms fateCrashes_holds
end Go.Proofs.Ytklhbaghbmndeaa
