/- RootCommits: texts merged, part 6 of 7. The last part proves that the law RootCommits holds for every input. -/
import Derived.Test.YtklhbaghbmndeaaPkRootCommits5
set_option maxRecDepth 100000
set_option maxHeartbeats 4000000
set_option linter.unusedVariables false
set_option linter.unusedSimpArgs false
namespace Go.Proofs.Ytklhbaghbmndeaa.Pure
open Go Go.Xw
def lay (v n : Nat) : List Int := (List.range n).map fun i => ((v / 256 ^ i % 256 : Nat) : Int)
theorem lay_len (v n : Nat) : (lay v n).length = n := by simp [lay]
theorem lay_succ (v n : Nat) : lay v (n + 1) = lay v n ++ [((v / 256 ^ n % 256 : Nat) : Int)] := by
  simp [lay, List.range_succ]
theorem lay_bytes (v n : Nat) : Bytes (lay v n) := by
  intro x hx
  simp only [lay, List.mem_map] at hx
  obtain ⟨i, _, rfl⟩ := hx
  omega
theorem wu8_mod {n : Nat} : IntKind.u8.wrap (n : Int) = ((n % 256 : Nat) : Int) := by
  unfold IntKind.wrap
  simp only [IntKind.signed, IntKind.bits]
  simp
theorem shr64 (n : Nat) : shR .u64 (n : Int) 8 = ((n / 256 : Nat) : Int) := by
  unfold shR
  show Int.fdiv (n : Int) (2 ^ min ((8 : Int).toNat) 64) = _
  rw [show (2 : Int) ^ min ((8 : Int).toNat) 64 = 256 from by decide, Int.fdiv_eq_ediv_of_nonneg _ (by decide)]
  omega
theorem olay_eq {fu v n : Nat} (hn : n ≤ 8) (hf : n < fu) : octet_Lay.f fu (v : Int) (n : Int) = some (lay v n) := by
  unfold octet_Lay.f
  have h0 : ¬ ((n : Int) < 0) := by omega
  have h8 : ¬ ((n : Int) > 8) := by omega
  have hL : Int.toNat (n : Int) ≤ LIM := by
    have : (8 : Nat) ≤ LIM := by decide
    omega
  simp only [h0, h8, decide_false, Bool.false_eq_true, if_false]
  rw [if_pos ⟨by omega, hL⟩]
  have : loopM (octet_Lay.s0 fu (n : Int)) fu ((v : Int), 0, List.replicate (Int.toNat (n : Int)) (0 : Int)) = some (lay v n) := by
    refine loopM_run (S := fun j => (((v / 256 ^ j : Nat) : Int), (j : Int), lay v j ++ List.replicate (n - j) (0 : Int))) n (by simp [lay]) ?_ ?_ hf
    · intro j hj
      unfold octet_Lay.s0
      have w3 : IntKind.i64.wrap ((j : Int) + 1) = ((j + 1 : Nat) : Int) := by rw [w64 (by omega) (by omega)]; omega
      have e1 : (List.replicate (Int.toNat (n : Int)) (0 : Int)).length = n := by simp
      have e2 : (lay v j ++ List.replicate (n - j) (0 : Int)).length = n := by rw [List.length_append, lay_len, List.length_replicate]; omega
      have e3 : List.set (lay v j ++ List.replicate (n - j) (0 : Int)) (Int.toNat (j : Int)) (IntKind.u8.wrap ((v / 256 ^ j : Nat) : Int)) = lay v (j + 1) ++ List.replicate (n - (j + 1)) (0 : Int) := by
        rw [Int.toNat_natCast, List.set_append, if_neg (by rw [lay_len]; omega), lay_len, Nat.sub_self, wu8_mod, lay_succ, show n - j = n - (j + 1) + 1 from by omega, List.replicate_succ]
        simp
      have e4 : shR .u64 ((v / 256 ^ j : Nat) : Int) 8 = ((v / 256 ^ (j + 1) : Nat) : Int) := by
        rw [shr64, Nat.div_div_eq_div_mul, Nat.pow_succ]
      have h1 : (j : Int) < (n : Int) := by omega
      simp only [e1, e2, e3, e4, w3, h1, decide_true, if_true]
      rw [if_pos ⟨by omega, trivial⟩]
    · unfold octet_Lay.s0
      simp
  rw [this]
  rfl
def num : List Int → Nat
  | [] => 0
  | c :: l => c.toNat + 256 * num l
theorem num_append : ∀ (a b : List Int), num (a ++ b) = num a + 256 ^ a.length * num b
  | [], b => by simp [num]
  | c :: a, b => by
    simp only [List.cons_append, num, num_append a b, List.length_cons, Nat.pow_succ]
    rw [Nat.mul_add, Nat.add_assoc, ← Nat.mul_assoc, Nat.mul_comm 256 (256 ^ a.length)]
theorem num_lt : ∀ {l : List Int}, Bytes l → num l < 256 ^ l.length
  | [], _ => by simp [num]
  | c :: l, h => by
    have h1 := h c (by simp)
    have h2 := num_lt (l := l) fun x hx => h x (by simp [hx])
    simp only [num, List.length_cons, Nat.pow_succ]
    omega
theorem lay_num : ∀ {l : List Int}, Bytes l → lay (num l) l.length = l
  | [], _ => rfl
  | c :: l, h => by
    have h1 := h c (by simp)
    have h2 := lay_num (l := l) fun x hx => h x (by simp [hx])
    have e : lay (num (c :: l)) (l.length + 1) = c :: lay (num l) l.length := by
      unfold lay
      rw [List.range_succ_eq_map, List.map_cons, List.map_map]
      congr 1
      · simp only [num, Nat.pow_zero, Nat.div_one]
        omega
      · apply List.map_congr_left
        intro i hi
        simp only [Function.comp, num, Nat.succ_eq_add_one, Nat.pow_succ]
        rw [Nat.mul_comm (256 ^ i) 256, ← Nat.div_div_eq_div_mul, show (c.toNat + 256 * num l) / 256 = num l from by omega]
    rw [List.length_cons, e, h2]
theorem num_lay (v : Nat) : ∀ n, num (lay v n) = v % 256 ^ n
  | 0 => by simp [lay, num, Nat.mod_one]
  | n + 1 => by
    rw [lay_succ, num_append, num_lay v n, lay_len]
    simp only [num]
    rw [Int.toNat_natCast, Nat.mul_zero, Nat.add_zero, Nat.pow_succ, Nat.mod_mul]
theorem or_add (a c j : Nat) (ha : a < 256 ^ j) : a ||| c * 256 ^ j = a + 256 ^ j * c := by
  have e : 256 ^ j = 2 ^ (8 * j) := by rw [Nat.pow_mul]
  rw [e] at ha ⊢
  rw [Nat.mul_comm c, Nat.or_comm, ← Nat.two_pow_add_eq_or_of_lt ha, Nat.add_comm]
theorem read_eq {fu : Nat} {l : List Int} (hb : Bytes l) (hl : l.length ≤ 8) (hf : l.length < fu) : octet_Read.f fu l = some ((num l : Nat) : Int) := by
  unfold octet_Read.f
  have hm : mnI (l.length : Int) 8 = (l.length : Int) := by
    unfold mnI
    split <;> omega
  have hc : cut l 0 (l.length : Int) = l := by
    unfold cut
    simp
  rw [hm, if_pos ⟨by omega, Int.le_refl _⟩]
  have : loopM (octet_Read.s0 fu l) fu (0, 0) = some ((num l : Nat) : Int) := by
    refine loopM_run (S := fun j => (((num (l.take j) : Nat) : Int), (j : Int))) l.length (by simp [num]) ?_ ?_ hf
    · intro j hj
      unfold octet_Read.s0
      rw [hm, hc]
      have h1 : (j : Int) < (l.length : Int) := by omega
      have w3 : IntKind.i64.wrap ((j : Int) + 1) = ((j + 1 : Nat) : Int) := by rw [w64 (by omega) (by omega)]; omega
      have w4 : IntKind.i64.wrap (8 * (j : Int)) = ((8 * j : Nat) : Int) := by rw [w64 (by omega) (by omega)]; omega
      have hcb := hb _ (List.getElem_mem hj)
      obtain ⟨c, hc'⟩ : ∃ c : Nat, l[j] = (c : Int) := ⟨l[j].toNat, by omega⟩
      have hlt : num (l.take j) < 256 ^ j := by
        have := num_lt (l := l.take j) fun x hx => hb x (List.mem_of_mem_take hx)
        rwa [List.length_take, Nat.min_eq_left (by omega)] at this
      have e256 : (256 : Nat) ^ j * 256 ≤ 256 ^ 8 := by
        rw [← Nat.pow_succ]
        exact Nat.pow_le_pow_right (by decide) (by omega)
      have e8 : (256 : Nat) ^ 8 = 18446744073709551616 := by decide
      have hcj : c * 256 ^ j < 18446744073709551616 := by
        have : c * 256 ^ j ≤ 255 * 256 ^ j := Nat.mul_le_mul_right _ (by omega)
        have : 0 < 256 ^ j := Nat.pow_pos (by decide)
        omega
      have e1 : shL .u64 (IntKind.u64.wrap (ix l (j : Int))) ((8 * j : Nat) : Int) = ((c * 256 ^ j : Nat) : Int) := by
        rw [ix_nat hj, hc', wu64 (by omega) (by omega)]
        unfold shL
        rw [Int.toNat_natCast, Nat.min_eq_left (by show 8 * j ≤ 64; omega)]
        have : (c : Int) * 2 ^ (8 * j) = ((c * 256 ^ j : Nat) : Int) := by
          have h256 : ((256 ^ j : Nat) : Int) = 2 ^ (8 * j) := by
            rw [Int.natCast_pow, Int.pow_mul]
            exact congrArg (fun z : Int => z ^ j) (by decide : ((256 : Nat) : Int) = 2 ^ 8)
          rw [Int.natCast_mul, h256]
        rw [this, wu64 (by omega) (by omega)]
      have e2 : bOr .u64 ((num (l.take j) : Nat) : Int) ((c * 256 ^ j : Nat) : Int) = ((num (l.take (j + 1)) : Nat) : Int) := by
        unfold bOr
        show IntKind.u64.wrap (((BitVec.ofInt 64 ((num (l.take j) : Nat) : Int) ||| BitVec.ofInt 64 ((c * 256 ^ j : Nat) : Int)).toNat : Nat) : Int) = _
        rw [BitVec.ofInt_natCast, BitVec.ofInt_natCast, BitVec.toNat_or, BitVec.toNat_ofNat, BitVec.toNat_ofNat, Nat.mod_eq_of_lt (by omega), Nat.mod_eq_of_lt (by omega), or_add _ _ _ hlt, take_next hj, num_append]
        have hs : num (l.take j) + 256 ^ j * c < 18446744073709551616 := by
          rw [Nat.mul_comm]
          have : c * 256 ^ j ≤ 255 * 256 ^ j := Nat.mul_le_mul_right _ (by omega)
          omega
        rw [wu64 (by omega) (by omega)]
        simp only [num, hc', Int.toNat_natCast, List.length_take, Nat.min_eq_left (by omega : j ≤ l.length), Nat.mul_zero, Nat.add_zero]
      simp only [h1, decide_true, if_true, w4, e1, e2, w3]
      rw [if_pos ⟨by omega, trivial⟩, if_pos (by omega)]
    · unfold octet_Read.s0
      rw [hm, hc]
      simp
  rw [this]
  rfl
end Go.Proofs.Ytklhbaghbmndeaa.Pure
namespace Go.Proofs.Ytklhbaghbmndeaa
open Go Go.Xw
end Go.Proofs.Ytklhbaghbmndeaa
namespace Go.Proofs.Ytklhbaghbmndeaa.Pure
open Go Go.Xw
abbrev Cell := S_pmem_cell
abbrev Dev := S_pmem_Device
def keepC (c : Cell) (w : Int) : Cell := ⟨w, c.stored, 0, false⟩
def openC (c : Cell) : Bool := c.flushed || !decide (c.stored = c.lasts)
def evict (p : Int) (cs : List Cell) : List Cell := cs.mapIdx fun i c => if 0 ≤ p ∧ (i : Int) = p % (cs.length : Int) then keepC c c.stored else c
def pick (p : S_pmem_plan) : Int := if p.list.length = 0 then -1 else ix p.list p.at_
def nextP (p : S_pmem_plan) : S_pmem_plan := if p.list.length = 0 then p else ⟨p.list, (p.at_ + 1) % (p.list.length : Int)⟩
def tick (d : Dev) : Dev := ⟨evict (pick d.plan) d.cells, nextP d.plan, if d.armed then decide (d.left - 1 = 0) else d.off, d.armed, if d.armed then d.left - 1 else d.left, d.steps + 1⟩
def mayI (off : Bool) (k n : Int) : Int := if off = true then 3 else if k < 0 ∨ k ≥ n then 2 else 0
def putC (k w : Int) (cs : List Cell) : List Cell := cs.mapIdx fun i c => if (i : Int) = k then ⟨c.lasts, w, c.sent, c.flushed⟩ else c
def sendC (c : Cell) : Cell := ⟨c.lasts, c.stored, c.stored, true⟩
def sendL (k : Int) (cs : List Cell) : List Cell := cs.mapIdx fun i c => if 8 * k ≤ (i : Int) ∧ (i : Int) < 8 * k + 8 then sendC c else c
def fenceC (c : Cell) : Cell := if c.flushed = true then keepC c c.sent else c
def withC (d : Dev) (cs : List Cell) : Dev := ⟨cs, d.plan, d.off, d.armed, d.left, d.steps⟩
def storeD (d : Dev) (k w : Int) : Int × Dev := if mayI d.off k (d.cells.length : Int) = 0 then (0, tick (withC d (putC k w d.cells))) else (mayI d.off k (d.cells.length : Int), d)
def loadD (d : Dev) (k : Int) : Int × Int := if mayI d.off k (d.cells.length : Int) = 0 then ((ix d.cells k).stored, 0) else (0, mayI d.off k (d.cells.length : Int))
def flushD (d : Dev) (k : Int) : Int × Dev := if mayI d.off k ((d.cells.length / 8 : Nat) : Int) = 0 then (0, tick (withC d (sendL k d.cells))) else (mayI d.off k ((d.cells.length / 8 : Nat) : Int), d)
def fenceD (d : Dev) : Int × Dev := if d.off = true then (3, d) else (0, tick (withC d (d.cells.map fenceC)))
def armD (d : Dev) (n : Int) : Dev := if d.off = true then d else ⟨d.cells, d.plan, decide (n = 0), decide (n ≥ 0), n, d.steps⟩
def planD (d : Dev) (l : List Int) : Dev := ⟨d.cells, ⟨l, 0⟩, d.off, d.armed, d.left, d.steps⟩
def fateC (c : Cell) (n : Int) : Int := if n % 3 = 2 then c.stored else if n % 3 = 1 ∧ c.flushed = true then c.sent else c.lasts
def opens (cs : List Cell) (i : Nat) : Nat := ((cs.take i).filter openC).length
def crashC (c : Cell) (n : Int) : Cell := if openC c = true then ⟨fateC c n, fateC c n, 0, false⟩ else ⟨c.lasts, c.lasts, c.sent, c.flushed⟩
def crashL (l : List Int) (cs : List Cell) : List Cell := cs.mapIdx fun i c => crashC c (l.getD (opens cs i) 0)
def crashD (d : Dev) (l : List Int) : Dev := ⟨crashL l d.cells, ⟨[], 0⟩, false, false, 0, d.steps⟩
def I64 (x : Int) : Prop := -9223372036854775808 ≤ x ∧ x ≤ 9223372036854775807
def U64 (x : Int) : Prop := 0 ≤ x ∧ x ≤ 18446744073709551615
def okC (c : Cell) : Prop := U64 c.lasts ∧ U64 c.stored ∧ U64 c.sent
structure DevOk (n : Nat) (B : Int) (d : Dev) : Prop where
  len : d.cells.length = n
  val : ∀ c ∈ d.cells, okC c
  at0 : d.plan.list.length ≠ 0 → 0 ≤ d.plan.at_ ∧ d.plan.at_ < (d.plan.list.length : Int)
  pl : d.plan.list.length ≤ 1000
  arm : d.armed = true → 0 ≤ d.left ∧ d.left ≤ 9223372036854775807 ∧ d.off = decide (d.left = 0)
  una : d.armed = false → d.off = false
  st : 0 ≤ d.steps ∧ d.steps ≤ B
theorem pnext_eq {fu : Nat} {p : S_pmem_plan} (h0 : p.list.length ≠ 0 → 0 ≤ p.at_ ∧ p.at_ < (p.list.length : Int)) (hl : p.list.length ≤ 1000) : pmem_plan_next__i0.f fu p = some (pick p, nextP p) := by
  unfold pmem_plan_next__i0.f pick nextP
  by_cases e : p.list.length = 0
  · have e' : (p.list.length : Int) = 0 := by omega
    rw [decide_eq_true e', if_pos rfl, if_pos e, if_pos e]
  · have e' : ¬ (p.list.length : Int) = 0 := by omega
    have h := h0 e
    rw [decide_eq_false e', if_neg (by decide), if_pos h, if_pos e', if_neg e, if_neg e, w64 (by omega) (by omega), Int.tmod_eq_emod_of_nonneg (by omega)]
theorem set_upd {cs : List Cell} {k : Nat} (g : Cell → Cell) (hk : k < cs.length) : cs.set k (g (ix cs (k : Int))) = cs.mapIdx fun i c => if i = k then g c else c := by
  rw [ix_nat hk]
  apply List.ext_getElem (by simp)
  intro i h1 h2
  rw [List.getElem_set, List.getElem_mapIdx]
  by_cases e : k = i
  · subst e
    simp
  · rw [if_neg e, if_neg (fun q => e q.symm)]
theorem evict_no {p : Int} (cs : List Cell) (h : ¬ 0 ≤ p) : evict p cs = cs := by
  apply List.ext_getElem (by simp [evict])
  intro i h1 h2
  simp only [evict, List.getElem_mapIdx]
  rw [if_neg fun q => h q.1]
theorem dstep_eq {fu n : Nat} {B : Int} {d : Dev} (h : DevOk n B d) (hB : B < 9223372036854775807) (ho : d.off = false) : pmem_Device_step.f fu d = some (tick d) := by
  unfold pmem_Device_step.f
  rw [pnext_eq h.at0 h.pl]
  have hs := h.st
  have w1 : IntKind.i64.wrap (d.steps + 1) = d.steps + 1 := w64 (by omega) (by omega)
  have hc : ∀ q, q = pick d.plan → ((if (if (decide (q ≥ 0)) = true then (decide ((List.length d.cells : Int) > 0)) else false) = true then (if (List.length d.cells : Int) ≠ 0 then (if 0 ≤ (Int.tmod q (List.length d.cells : Int)) ∧ (Int.tmod q (List.length d.cells : Int)) < (List.length d.cells : Int) then ((pmem_cell_keep__i0.f fu (ix d.cells (Int.tmod q (List.length d.cells : Int))) ((ix d.cells (Int.tmod q (List.length d.cells : Int))).stored) : Option S_pmem_cell).bind fun t35 => some ((List.set d.cells (Int.toNat (Int.tmod q (List.length d.cells : Int))) t35))) else none) else none) else some (d.cells)) : Option (List S_pmem_cell)) = some (evict q d.cells) := by
    intro q _
    by_cases hq : q ≥ 0
    · rw [decide_eq_true hq]
      by_cases hl : (List.length d.cells : Int) > 0
      · rw [decide_eq_true hl, Int.tmod_eq_emod_of_nonneg hq]
        have hm0 := Int.emod_nonneg q (show (List.length d.cells : Int) ≠ 0 by omega)
        have hm1 := Int.emod_lt_of_pos q hl
        have e1 : (List.length d.cells : Int) ≠ 0 := by omega
        simp only [if_true, e1, ne_eq, not_false_eq_true, hm0, hm1, and_self, pmem_cell_keep__i0.f, Option.bind_some]
        obtain ⟨k, hk⟩ : ∃ k : Nat, q % (List.length d.cells : Int) = (k : Int) := ⟨(q % (List.length d.cells : Int)).toNat, by omega⟩
        have hkl : k < d.cells.length := by omega
        rw [hk, Int.toNat_natCast]
        refine congrArg some ((set_upd (fun c => keepC c c.stored) hkl).trans ?_)
        apply List.ext_getElem (by simp [evict])
        intro i h1 h2
        simp only [evict, List.getElem_mapIdx, hk]
        by_cases e : i = k
        · rw [if_pos e, if_pos ⟨hq, by omega⟩]
        · rw [if_neg e, if_neg fun z => e (by omega)]
      · have : d.cells = [] := List.length_eq_zero_iff.1 (by omega)
        rw [this]
        simp [evict]
    · rw [evict_no _ hq, decide_eq_false hq]
      simp
  have hd : ∀ (r : List Cell), ((((if d.armed = true then some ((decide ((IntKind.i64.wrap (d.left - 1)) = 0)), (IntKind.i64.wrap (d.left - 1))) else some (d.off, d.left)) : Option (Bool × Int)).bind fun x45 => some ((⟨r, (⟨d.plan.list, (nextP d.plan).at_⟩ : S_pmem_plan), x45.1, d.armed, x45.2, (IntKind.i64.wrap (d.steps + 1))⟩ : S_pmem_Device))) : Option Dev) = some ⟨r, nextP d.plan, if d.armed then decide (d.left - 1 = 0) else d.off, d.armed, if d.armed then d.left - 1 else d.left, d.steps + 1⟩ := by
    intro r
    have hp : (⟨d.plan.list, (nextP d.plan).at_⟩ : S_pmem_plan) = nextP d.plan := by
      unfold nextP
      split <;> rfl
    rw [w1, hp]
    cases ha : d.armed
    · simp
    · have := h.arm ha
      rw [ho] at this
      have : d.left ≠ 0 := by
        intro e
        rw [e] at this
        exact absurd this.2.2 (by decide)
      rw [w64 (by omega) (by omega)]
      simp
  simp only [Option.bind_some]
  rw [hc _ rfl]
  exact hd _
theorem evict_len (p : Int) (cs : List Cell) : (evict p cs).length = cs.length := by simp [evict]
theorem keep_ok {c : Cell} {w : Int} (h : okC c) (hw : U64 w) : okC (keepC c w) := ⟨hw, h.2.1, by unfold U64; simp [keepC]⟩
theorem mapIdx_ok {cs : List Cell} {g : Nat → Cell → Cell} (h : ∀ c ∈ cs, okC c) (hg : ∀ i c, okC c → okC (g i c)) : ∀ c ∈ cs.mapIdx g, okC c := by
  intro c hc
  obtain ⟨i, hi, rfl⟩ := List.getElem_of_mem hc
  rw [List.getElem_mapIdx]
  exact hg _ _ (h _ (List.getElem_mem _))
theorem evict_ok {p : Int} {cs : List Cell} (h : ∀ c ∈ cs, okC c) : ∀ c ∈ evict p cs, okC c := by
  refine mapIdx_ok h fun i c hc => ?_
  split
  · exact keep_ok hc hc.2.1
  · exact hc
theorem tick_ok {n : Nat} {B : Int} {d : Dev} (h : DevOk n B d) (ho : d.off = false) : DevOk n (B + 1) (tick d) := by
  refine ⟨?_, ?_, ?_, ?_, ?_, ?_, ?_⟩
  · exact (evict_len _ _).trans h.len
  · exact evict_ok h.val
  · intro e
    by_cases z : d.plan.list.length = 0
    · exact absurd (by simp [tick, nextP, z]) e
    · have : (tick d).plan = ⟨d.plan.list, (d.plan.at_ + 1) % (d.plan.list.length : Int)⟩ := by simp [tick, nextP, z]
      rw [this]
      exact ⟨Int.emod_nonneg _ (by omega), Int.emod_lt_of_pos _ (by omega)⟩
  · by_cases z : d.plan.list.length = 0
    · simp [tick, nextP, z]
    · simp only [tick, nextP, z, if_false]
      exact h.pl
  · intro ha
    have ha' : d.armed = true := ha
    have := h.arm ha'
    have hl : d.left ≠ 0 := by
      intro e
      rw [e, ho] at this
      exact absurd this.2.2 (by decide)
    simp only [tick, ha', if_true]
    exact ⟨by omega, by omega, trivial⟩
  · intro ha
    have ha' : d.armed = false := ha
    simp only [tick, ha', Bool.false_eq_true, if_false]
    exact h.una ha'
  · have := h.st
    simp only [tick]
    omega
theorem DevOk.up {n : Nat} {B C : Int} {d : Dev} (h : DevOk n B d) (hc : B ≤ C) : DevOk n C d := ⟨h.len, h.val, h.at0, h.pl, h.arm, h.una, ⟨h.st.1, by have := h.st; omega⟩⟩
theorem with_ok {n : Nat} {B : Int} {d : Dev} (h : DevOk n B d) {cs : List Cell} (hl : cs.length = n) (hv : ∀ c ∈ cs, okC c) : DevOk n B (withC d cs) := ⟨hl, hv, h.at0, h.pl, h.arm, h.una, h.st⟩
theorem may_eq {fu : Nat} {d : Dev} {k m : Int} : pmem_Device_may.f fu d k m = some (mayI d.off k m) := by
  unfold pmem_Device_may.f mayI
  cases d.off
  · simp only [Bool.false_eq_true, if_false]
    by_cases h1 : k < 0
    · simp [h1]
    · by_cases h2 : k ≥ m <;> simp [h1, h2]
  · simp
theorem may_zero {b : Bool} {k m : Int} : mayI b k m = 0 ↔ b = false ∧ 0 ≤ k ∧ k < m := by
  unfold mayI
  cases b
  · simp only [Bool.false_eq_true, if_false]
    split <;> simp <;> omega
  · simp
theorem ix_set {α : Type} [Inhabited α] {l : List α} {k : Nat} {v : α} (h : k < l.length) : ix (l.set k v) (k : Int) = v := by
  rw [ix_nat (by simpa using h)]
  simp
theorem store_eq {fu n : Nat} {B k w : Int} {d : Dev} (h : DevOk n B d) (hB : B < 9223372036854775807) (hw : U64 w) : pmem_Device_Store.f fu d k w = some (storeD d k w) := by
  unfold pmem_Device_Store.f storeD
  rw [may_eq]
  simp only [Option.bind_some]
  by_cases e : mayI d.off k (d.cells.length : Int) = 0
  · obtain ⟨ho, h0, h1⟩ := may_zero.1 e
    rw [decide_eq_true e, if_pos e, if_neg (by decide), if_pos ⟨h0, h1⟩]
    obtain ⟨j, rfl⟩ : ∃ j : Nat, k = (j : Int) := ⟨k.toNat, by omega⟩
    have e1 : List.set d.cells (Int.toNat (j : Int)) (⟨(ix d.cells (j : Int)).lasts, w, (ix d.cells (j : Int)).sent, (ix d.cells (j : Int)).flushed⟩ : S_pmem_cell) = putC (j : Int) w d.cells := by
      rw [Int.toNat_natCast]
      refine (set_upd (fun c => ⟨c.lasts, w, c.sent, c.flushed⟩) (by omega)).trans ?_
      apply List.ext_getElem (by simp [putC])
      intro i h1 h2
      simp only [putC, List.getElem_mapIdx, Int.natCast_inj]
    have e2 : pmem_Device_step.f fu (⟨putC (j : Int) w d.cells, d.plan, d.off, d.armed, d.left, d.steps⟩ : S_pmem_Device) = some (tick (withC d (putC (j : Int) w d.cells))) := by
      refine dstep_eq (with_ok h (by simp [putC, h.len]) (mapIdx_ok h.val fun i c hc => ?_)) hB ho
      split
      · exact ⟨hc.1, hw, hc.2.2⟩
      · exact hc
    rw [e1, e2]
    rfl
  · rw [decide_eq_false e, if_neg e, if_pos (by decide)]
theorem load_eq {fu : Nat} {k : Int} {d : Dev} : pmem_Device_Load.f fu d k = some (loadD d k) := by
  unfold pmem_Device_Load.f loadD
  rw [may_eq]
  simp only [Option.bind_some]
  by_cases e : mayI d.off k (d.cells.length : Int) = 0
  · obtain ⟨ho, h0, h1⟩ := may_zero.1 e
    rw [decide_eq_true e, if_pos e, if_neg (by decide), if_pos ⟨h0, h1⟩]
  · rw [decide_eq_false e, if_neg e, if_pos (by decide)]
theorem lines_eq {fu : Nat} {d : Dev} (h : d.cells.length ≤ 1000000) : pmem_Device_Lines.f fu d = some ((d.cells.length / 8 : Nat) : Int) := by
  unfold pmem_Device_Lines.f
  rw [Int.tdiv_eq_ediv_of_nonneg (by omega), w64 (by omega) (by omega)]
  congr 1
theorem send_loop {fu : Nat} {cs : List Cell} {k : Nat} (h : 8 * k + 8 ≤ cs.length) (hl : cs.length ≤ 1000000) (hf : 8 < fu) : loopM (pmem_Device_Flush.s0 fu (k : Int)) fu (0, cs) = some (sendL (k : Int) cs) := by
  refine loopM_run (S := fun j => ((j : Int), upd (fun _ c => sendC c) (8 * k) j cs)) 8 (by rw [upd_zero]; rfl) ?_ ?_ hf
  · intro j hj
    unfold pmem_Device_Flush.s0
    have w1 : IntKind.i64.wrap ((k : Int) * 8) = ((8 * k : Nat) : Int) := by rw [w64 (by omega) (by omega)]; omega
    have w2 : IntKind.i64.wrap (((8 * k : Nat) : Int) + (j : Int)) = ((8 * k + j : Nat) : Int) := by rw [w64 (by omega) (by omega)]; omega
    have w3 : IntKind.i64.wrap ((j : Int) + 1) = ((j + 1 : Nat) : Int) := by rw [w64 (by omega) (by omega)]; omega
    have hlt : 8 * k + j < (upd (fun _ c => sendC c) (8 * k) j cs).length := by rw [upd_len]; omega
    have c1 : 0 ≤ ((8 * k + j : Nat) : Int) ∧ ((8 * k + j : Nat) : Int) < ((upd (fun _ c => sendC c) (8 * k) j cs).length : Int) := by omega
    have c2 : (j : Int) < 8 := by omega
    simp only [w1, w2, w3]
    rw [decide_eq_true c2, if_pos rfl, if_pos c1, Int.toNat_natCast, ix_set hlt, List.set_set, ix_nat hlt, upd_next _ _ _ _ (by omega)]
    refine congrArg (fun z => some (Sum.inr (((j + 1 : Nat) : Int), z))) ?_
    exact upd_set (fun _ c => sendC c) (8 * k) j cs (by omega)
  · unfold pmem_Device_Flush.s0
    rw [decide_eq_false (show ¬ (((8 : Nat) : Int) < 8) by decide), if_neg (by decide)]
    refine congrArg (fun z => some (Sum.inl z)) ?_
    apply List.ext_getElem (by simp [upd, sendL])
    intro i h1 h2
    simp only [upd, sendL, List.getElem_mapIdx]
    by_cases c : 8 * k ≤ i ∧ i < 8 * k + 8
    · rw [if_pos c, if_pos (by omega)]
    · rw [if_neg c, if_neg (by omega)]
theorem sendL_ok {cs : List Cell} {k : Int} (h : ∀ c ∈ cs, okC c) : ∀ c ∈ sendL k cs, okC c := by
  refine mapIdx_ok h fun i c hc => ?_
  split
  · exact ⟨hc.1, hc.2.1, hc.2.1⟩
  · exact hc
theorem flush_eq {fu n : Nat} {B k : Int} {d : Dev} (h : DevOk n B d) (hB : B < 9223372036854775807) (hn : n ≤ 1000000) (hf : 8 < fu) : pmem_Device_Flush.f fu d k = some (flushD d k) := by
  unfold pmem_Device_Flush.f flushD
  have hl : d.cells.length ≤ 1000000 := by rw [h.len]; exact hn
  rw [lines_eq hl]
  simp only [Option.bind_some]
  rw [may_eq]
  simp only [Option.bind_some]
  by_cases e : mayI d.off k ((d.cells.length / 8 : Nat) : Int) = 0
  · obtain ⟨ho, h0, h1⟩ := may_zero.1 e
    rw [decide_eq_true e, if_pos e, if_neg (by decide)]
    obtain ⟨j, rfl⟩ : ∃ j : Nat, k = (j : Int) := ⟨k.toNat, by omega⟩
    rw [send_loop (by omega) hl hf]
    have e2 : pmem_Device_step.f fu (⟨sendL (j : Int) d.cells, d.plan, d.off, d.armed, d.left, d.steps⟩ : S_pmem_Device) = some (tick (withC d (sendL (j : Int) d.cells))) :=
      dstep_eq (with_ok h (by simp [sendL, h.len]) (sendL_ok h.val)) hB ho
    simp only [Option.bind_some]
    rw [e2]
    rfl
  · rw [decide_eq_false e, if_neg e, if_pos (by decide)]
theorem fence_loop {fu : Nat} {d : Dev} (hl : d.cells.length ≤ 1000000) (hf : d.cells.length < fu) : loopM (pmem_Device_Fence.s0 fu d) fu (0, d.cells) = some (d.cells.map fenceC) := by
  refine loopM_run (S := fun j => ((j : Int), upd (fun _ c => fenceC c) 0 j d.cells)) d.cells.length (by rw [upd_zero]; rfl) ?_ ?_ hf
  · intro j hj
    unfold pmem_Device_Fence.s0
    have w3 : IntKind.i64.wrap ((j : Int) + 1) = ((j + 1 : Nat) : Int) := by rw [w64 (by omega) (by omega)]; omega
    have hlt : j < (upd (fun _ c => fenceC c) 0 j d.cells).length := by rw [upd_len]; omega
    have hnx : (upd (fun _ c => fenceC c) 0 j d.cells)[j] = d.cells[j] := by
      rw [upd_get, if_neg (by omega)]
    have c1 : 0 ≤ (j : Int) ∧ (j : Int) < ((upd (fun _ c => fenceC c) 0 j d.cells).length : Int) := by omega
    have c2 : (j : Int) < (d.cells.length : Int) := by omega
    simp only [w3]
    rw [decide_eq_true c2, if_pos rfl, if_pos c1, Int.toNat_natCast, ix_nat hlt, hnx]
    have hs := upd_set (fun _ c => fenceC c) 0 j d.cells (by omega)
    simp only [Nat.zero_add] at hs
    cases hfl : d.cells[j].flushed
    · have : fenceC d.cells[j] = d.cells[j] := by simp [fenceC, hfl]
      have := upd_same (fun _ c => fenceC c) 0 j d.cells (by omega) (by simpa using this)
      simp only [Bool.false_eq_true, if_false, Option.bind_some]
      rw [this]
    · have : fenceC d.cells[j] = keepC d.cells[j] d.cells[j].sent := by simp [fenceC, hfl]
      rw [this] at hs
      simp only [if_true, pmem_cell_keep__i0.f, Option.bind_some]
      refine congrArg (fun z => some (Sum.inr (((j + 1 : Nat) : Int), z))) hs
  · unfold pmem_Device_Fence.s0
    rw [decide_eq_false (by omega), if_neg (by decide)]
    refine congrArg (fun z => some (Sum.inl z)) ?_
    show upd (fun _ c => fenceC c) 0 d.cells.length d.cells = _
    rw [upd_all]
    apply List.ext_getElem (by simp)
    intro i h1 h2
    simp
theorem fence_okC {c : Cell} (h : okC c) : okC (fenceC c) := by
  unfold fenceC
  split
  · exact keep_ok h h.2.2
  · exact h
theorem fence_eq {fu n : Nat} {B : Int} {d : Dev} (h : DevOk n B d) (hB : B < 9223372036854775807) (hn : n ≤ 1000000) (hf : n < fu) : pmem_Device_Fence.f fu d = some (fenceD d) := by
  unfold pmem_Device_Fence.f fenceD
  rw [may_eq]
  simp only [Option.bind_some]
  cases ho : d.off
  · have e : mayI false 0 1 = 0 := by decide
    rw [e, if_neg (by decide), if_neg (by decide), fence_loop (by rw [h.len]; exact hn) (by rw [h.len]; exact hf)]
    have e2 : pmem_Device_step.f fu (⟨d.cells.map fenceC, d.plan, d.off, d.armed, d.left, d.steps⟩ : S_pmem_Device) = some (tick (withC d (d.cells.map fenceC))) :=
      dstep_eq (with_ok h (by simp [h.len]) (fun c hc => by
        obtain ⟨x, hx, rfl⟩ := List.mem_map.1 hc
        exact fence_okC (h.val x hx))) hB ho
    rw [ho] at e2
    simp only [Option.bind_some]
    rw [e2]
    rfl
  · have e : mayI true 0 1 = 3 := by decide
    rw [e]
    rfl
theorem arm_eq {fu : Nat} {d : Dev} {k : Int} : pmem_Device_Arm.f fu d k = some (armD d k) := by
  unfold pmem_Device_Arm.f armD
  split <;> rfl
theorem plan_eq {fu : Nat} {d : Dev} {l : List Int} (hl : l.length ≤ 1000000) : pmem_Device_Plan.f fu d l = some (planD d l) := by
  unfold pmem_Device_Plan.f slices_Clone_1.f planD
  rw [if_pos (Nat.le_trans hl (by decide))]
  rfl
theorem openr_eq {fu : Nat} {c : Cell} : pmem_cell_open__r0.f fu c = some (openC c) := by
  unfold pmem_cell_open__r0.f openC
  cases c.flushed <;> rfl
theorem fater_eq {fu : Nat} {c : Cell} {n : Int} (hn : I64 n) : pmem_cell_fate__r0.f fu c n = some (fateC c n) := by
  unfold pmem_cell_fate__r0.f fateC
  have hr : Int.tmod n 3 = n % 3 ∧ 0 ≤ n ∨ Int.tmod n 3 = n % 3 - 3 ∧ n < 0 ∧ n % 3 ≠ 0 ∨ Int.tmod n 3 = 0 ∧ n % 3 = 0 := by
    rcases Int.lt_or_le n 0 with h | h
    · have e1 : Int.tmod n 3 = -(Int.tmod (-n) 3) := by rw [Int.neg_tmod, Int.neg_neg]
      have e2 : Int.tmod (-n) 3 = (-n) % 3 := Int.tmod_eq_emod_of_nonneg (by omega)
      omega
    · exact .inl ⟨Int.tmod_eq_emod_of_nonneg h, h⟩
  generalize Int.tmod n 3 = t at *
  generalize hq : n % 3 = q at *
  have hq3 : 0 ≤ q ∧ q < 3 := by omega
  have : q = 0 ∧ t = 0 ∨ q = 1 ∧ (t = 1 ∨ t = -2) ∨ q = 2 ∧ (t = 2 ∨ t = -1) := by omega
  rcases this with ⟨rfl, rfl⟩ | ⟨rfl, rfl | rfl⟩ | ⟨rfl, rfl | rfl⟩ <;> cases c.flushed <;> rfl
theorem opens_succ {cs : List Cell} {j : Nat} (h : j < cs.length) : opens cs (j + 1) = opens cs j + (if openC cs[j] = true then 1 else 0) := by
  unfold opens
  rw [take_next h, List.filter_append, List.length_append]
  cases hc : openC cs[j] <;> simp [hc]
theorem crash_loop {fu : Nat} {d : Dev} {l : List Int} (hl : d.cells.length ≤ 1000000) (hi : ∀ x ∈ l, I64 x) (hf : d.cells.length < fu) : loopM (pmem_Device_Crash.s0 fu d) fu (l, 0, d.cells) = some (crashL l d.cells) := by
  refine loopM_run (S := fun j => (l.drop (opens d.cells j), (j : Int), upd (fun i c => crashC c (l.getD (opens d.cells i) 0)) 0 j d.cells)) d.cells.length (by rw [upd_zero]; simp [opens]) ?_ ?_ hf
  · intro j hj
    unfold pmem_Device_Crash.s0
    have w3 : IntKind.i64.wrap ((j : Int) + 1) = ((j + 1 : Nat) : Int) := by rw [w64 (by omega) (by omega)]; omega
    have hlt : j < (upd (fun i c => crashC c (l.getD (opens d.cells i) 0)) 0 j d.cells).length := by rw [upd_len]; omega
    have hnx : (upd (fun i c => crashC c (l.getD (opens d.cells i) 0)) 0 j d.cells)[j] = d.cells[j] := by
      rw [upd_get, if_neg (by omega)]
    have hs := upd_set (fun i c => crashC c (l.getD (opens d.cells i) 0)) 0 j d.cells (by omega)
    simp only [Nat.zero_add] at hs
    rw [opens_succ hj]
    have c1 : 0 ≤ (j : Int) ∧ (j : Int) < ((upd (fun i c => crashC c (l.getD (opens d.cells i) 0)) 0 j d.cells).length : Int) := by omega
    have c2 : (j : Int) < (d.cells.length : Int) := by omega
    simp only [w3]
    rw [decide_eq_true c2, if_pos rfl, if_pos c1, Int.toNat_natCast, ix_nat hlt, hnx, openr_eq]
    generalize hU : upd (fun i c => crashC c (l.getD (opens d.cells i) 0)) 0 j d.cells = U at *
    simp only [Option.bind_some]
    cases ho : openC d.cells[j]
    · have : crashC d.cells[j] (l.getD (opens d.cells j) 0) = ⟨d.cells[j].lasts, d.cells[j].lasts, d.cells[j].sent, d.cells[j].flushed⟩ := by simp [crashC, ho]
      rw [this] at hs
      simp only [Bool.false_eq_true, if_false, Option.bind_some, ix_nat hlt, hnx, hlt, Int.ofNat_lt, if_true, Nat.add_zero]
      rw [hs]
    · have hx : ∀ v, ix (U.set j (keepC d.cells[j] v)) (j : Int) = keepC d.cells[j] v := fun v => ix_set hlt
      have key : ∀ v, v = l.getD (opens d.cells j) 0 → (U.set j (keepC d.cells[j] (fateC d.cells[j] v))).set j (⟨fateC d.cells[j] v, fateC d.cells[j] v, 0, false⟩ : S_pmem_cell) = upd (fun i c => crashC c (l.getD (opens d.cells i) 0)) 0 (j + 1) d.cells := by
        intro v hv
        rw [List.set_set, hv, ← hs]
        simp [crashC, ho]
      have hlt2 : ∀ v, (j : Int) < (((U.set j v)).length : Int) := fun v => by rw [List.length_set]; omega
      simp only [if_true]
      by_cases hd : opens d.cells j < l.length
      · have e0 : (List.length (l.drop (opens d.cells j)) : Int) > 0 := by rw [List.length_drop]; omega
        have e1 : (1 : Int) ≤ (List.length (l.drop (opens d.cells j)) : Int) := by omega
        have e2 : ix (l.drop (opens d.cells j)) 0 = l.getD (opens d.cells j) 0 := by
          rw [show (0 : Int) = ((0 : Nat) : Int) from rfl, ix_nat (by omega)]
          simp [List.getD_eq_getElem?_getD, List.getElem?_eq_getElem hd]
        have e3 : cut (l.drop (opens d.cells j)) 1 (List.length (l.drop (opens d.cells j)) : Int) = l.drop (opens d.cells j + 1) := by
          unfold cut
          rw [Int.toNat_natCast, List.take_length, show Int.toNat 1 = 1 from rfl, List.drop_drop]
        have e4 : I64 (l.getD (opens d.cells j) 0) := by
          rw [getD_of _ _ _ hd]
          exact hi _ (List.getElem_mem hd)
        rw [decide_eq_true e0, if_pos rfl, if_pos e0, if_pos e1, e2, e3]
        simp only [Option.bind_some]
        rw [fater_eq e4]
        simp only [Option.bind_some, pmem_cell_keep__i0.f]
        rw [if_pos (hlt2 _), if_pos (hlt2 _)]
        have := key _ rfl
        simp only [keepC] at this hx ⊢
        rw [hx]
        rw [this]
      · have e0 : ¬ (List.length (l.drop (opens d.cells j)) : Int) > 0 := by rw [List.length_drop]; omega
        have e2 : l.getD (opens d.cells j) 0 = 0 := by
          rw [List.getD_eq_getElem?_getD, List.getElem?_eq_none (by omega)]
          rfl
        have e3 : l.drop (opens d.cells j) = l.drop (opens d.cells j + 1) := by
          rw [List.drop_eq_nil_of_le (by omega), List.drop_eq_nil_of_le (by omega)]
        rw [decide_eq_false e0, if_neg (by decide)]
        simp only [Option.bind_some]
        rw [fater_eq (show I64 0 by unfold I64; omega)]
        simp only [Option.bind_some, pmem_cell_keep__i0.f]
        rw [if_pos (hlt2 _), if_pos (hlt2 _)]
        have := key 0 e2.symm
        simp only [keepC] at this hx ⊢
        rw [hx, this, e3]
  · unfold pmem_Device_Crash.s0
    rw [decide_eq_false (show ¬ ((d.cells.length : Int) < (d.cells.length : Int)) by omega), if_neg (by decide)]
    refine congrArg (fun z => some (Sum.inl z)) ?_
    exact upd_all _ _
theorem crash_eq {fu n : Nat} {B : Int} {d : Dev} {l : List Int} (h : DevOk n B d) (hn : n ≤ 1000000) (hi : ∀ x ∈ l, I64 x) (hf : n < fu) : pmem_Device_Crash.f fu d l = some (crashD d l) := by
  unfold pmem_Device_Crash.f crashD
  rw [crash_loop (by rw [h.len]; exact hn) hi (by rw [h.len]; exact hf)]
  rfl
end Go.Proofs.Ytklhbaghbmndeaa.Pure
namespace Go.Proofs.Ytklhbaghbmndeaa
open Go Go.Xw
end Go.Proofs.Ytklhbaghbmndeaa
namespace Go.Proofs.Ytklhbaghbmndeaa.Pure
open Go Go.Xw
def octs (ws : List Int) : List Int := ws.flatMap fun w => lay w.toNat 8
theorem octs_len : ∀ ws : List Int, (octs ws).length = 8 * ws.length
  | [] => rfl
  | w :: ws => by
    have := octs_len ws
    simp only [octs, List.flatMap_cons, List.length_append, lay_len, List.length_cons] at *
    omega
theorem octs_append (a b : List Int) : octs (a ++ b) = octs a ++ octs b := by simp [octs]
theorem octs_one (w : Int) : octs [w] = lay w.toNat 8 := by simp [octs]
theorem octsB (ws : List Int) : Bytes (octs ws) := by
  intro x hx
  obtain ⟨w, _, h⟩ := List.mem_flatMap.1 hx
  exact lay_bytes _ _ x h
theorem octets_eq {fu : Nat} {ws : List Int} (hv : ∀ w ∈ ws, U64 w) (hl : ws.length ≤ 100000) (hf : ws.length + 8 < fu) : octet_Octets.f fu ws = some (octs ws) := by
  unfold octet_Octets.f
  have : loopM (octet_Octets.s0 fu ws) fu ([], 0) = some (octs ws) := by
    refine loopM_run (S := fun j => (octs (ws.take j), (j : Int))) ws.length (by simp [octs]) ?_ ?_ (by omega)
    · intro j hj
      unfold octet_Octets.s0
      have w3 : IntKind.i64.wrap ((j : Int) + 1) = ((j + 1 : Nat) : Int) := by rw [w64 (by omega) (by omega)]; omega
      have c1 : 0 ≤ (j : Int) ∧ (j : Int) < (ws.length : Int) := by omega
      have hu := hv _ (List.getElem_mem hj)
      obtain ⟨v, hv'⟩ : ∃ v : Nat, ws[j] = (v : Int) := ⟨ws[j].toNat, by unfold U64 at hu; omega⟩
      simp only [w3]
      rw [decide_eq_true c1.2, if_pos rfl, if_pos c1, ix_nat hj, hv', show octet_Lay.f fu (v : Int) 8 = some (lay v 8) from olay_eq (n := 8) (by omega) (by omega)]
      simp only [Option.bind_some]
      rw [if_pos (by rw [octs_len, lay_len, List.length_take]; exact Nat.le_trans (by omega : _ ≤ 1000008) (by decide)), take_next hj, octs_append, octs_one, hv', Int.toNat_natCast]
    · unfold octet_Octets.s0
      rw [decide_eq_false (show ¬ ((ws.length : Int) < (ws.length : Int)) by omega), if_neg (by decide), List.take_length]
  rw [this]
  rfl
def newD (n : Nat) : Dev := ⟨List.replicate n ⟨0, 0, 0, false⟩, ⟨[], 0⟩, false, false, 0, 0⟩
theorem new_eq {fu : Nat} {k : Nat} (hk : k ≤ 4096) : pmem_New.f fu (k : Int) = some (some (newD (8 * k)), 0) := by
  unfold pmem_New.f
  have h1 : ¬ (k : Int) < 0 := by omega
  have h2 : ¬ (k : Int) > 4096 := by omega
  have w : IntKind.i64.wrap ((k : Int) * 8) = ((8 * k : Nat) : Int) := by rw [w64 (by omega) (by omega)]; omega
  rw [decide_eq_false h1, decide_eq_false h2, if_neg (by decide), w, Int.toNat_natCast, if_pos ⟨by omega, Nat.le_trans (by omega : _ ≤ 100000) (by decide)⟩]
  rfl
theorem newD_ok (n : Nat) : DevOk n 0 (newD n) := by
  refine ⟨by simp [newD], fun c hc => ?_, fun h => absurd rfl h, by simp [newD], fun h => (by cases h), fun _ => rfl, by simp [newD]⟩
  rw [List.eq_of_mem_replicate hc]
  unfold okC U64
  simp
theorem arm_ok {n : Nat} {B k : Int} {d : Dev} (h : DevOk n B d) (hk : I64 k) : DevOk n B (armD d k) := by
  unfold armD
  cases ho : d.off
  · rw [if_neg (by decide)]
    refine ⟨h.len, h.val, h.at0, h.pl, fun ha => ?_, fun ha => ?_, h.st⟩
    · have : k ≥ 0 := by simpa using ha
      exact ⟨this, hk.2, rfl⟩
    · have : ¬ k ≥ 0 := by simpa using ha
      exact decide_eq_false (by omega)
  · rw [if_pos rfl]
    exact h
theorem plan_ok {n : Nat} {B : Int} {d : Dev} {l : List Int} (h : DevOk n B d) (hl : l.length ≤ 1000) : DevOk n B (planD d l) :=
  ⟨h.len, h.val, fun e => ⟨by simp [planD], by simp only [planD] at e ⊢; omega⟩, hl, h.arm, h.una, h.st⟩
theorem fateC_ok {c : Cell} {n : Int} (h : okC c) : U64 (fateC c n) := by
  unfold fateC
  split
  · exact h.2.1
  · split
    · exact h.2.2
    · exact h.1
theorem crashC_ok {c : Cell} {n : Int} (h : okC c) : okC (crashC c n) := by
  unfold crashC
  split
  · exact ⟨fateC_ok h, fateC_ok h, by unfold U64; simp⟩
  · exact ⟨h.1, h.1, h.2.2⟩
theorem crash_ok {n : Nat} {B : Int} {d : Dev} {l : List Int} (h : DevOk n B d) : DevOk n B (crashD d l) :=
  ⟨by simp [crashD, crashL, h.len], mapIdx_ok h.val fun i c hc => crashC_ok hc, fun e => absurd rfl e, by simp [crashD], fun e => (by cases e), fun _ => rfl, h.st⟩
theorem store_ok {n : Nat} {B k w : Int} {d : Dev} (h : DevOk n B d) (hw : U64 w) : DevOk n (B + 1) (storeD d k w).2 := by
  unfold storeD
  split
  · rename_i e
    refine tick_ok (with_ok h (by simp [putC, h.len]) (mapIdx_ok h.val fun i c hc => ?_)) (may_zero.1 e).1
    split
    · exact ⟨hc.1, hw, hc.2.2⟩
    · exact hc
  · exact h.up (by omega)
theorem flush_ok {n : Nat} {B k : Int} {d : Dev} (h : DevOk n B d) : DevOk n (B + 1) (flushD d k).2 := by
  unfold flushD
  split
  · rename_i e
    exact tick_ok (with_ok h (by simp [sendL, h.len]) (sendL_ok h.val)) (may_zero.1 e).1
  · exact h.up (by omega)
theorem fence_ok {n : Nat} {B : Int} {d : Dev} (h : DevOk n B d) : DevOk n (B + 1) (fenceD d).2 := by
  unfold fenceD
  cases ho : d.off
  · rw [if_neg (by decide)]
    exact tick_ok (with_ok h (by simp [h.len]) (fun c hc => by
        obtain ⟨x, hx, rfl⟩ := List.mem_map.1 hc
        exact fence_okC (h.val x hx))) ho
  · rw [if_pos rfl]
    exact h.up (by omega)
end Go.Proofs.Ytklhbaghbmndeaa.Pure
namespace Go.Proofs.Ytklhbaghbmndeaa
open Go Go.Xw
end Go.Proofs.Ytklhbaghbmndeaa
namespace Go.Proofs.Ytklhbaghbmndeaa.Pure
open Go Go.Xw
theorem loopM_inv {σ ε : Type} {step : σ → Option (Sum ε σ)} (P : Nat → σ → Prop) (n : Nat) (Q : ε → Prop) (h : ∀ j s, j < n → P j s → ∃ s', step s = some (.inr s') ∧ P (j + 1) s') (he : ∀ s, P n s → ∃ e, step s = some (.inl e) ∧ Q e) : ∀ {k j : Nat} {s : σ}, P j s → j ≤ n → n - j < k → ∃ e, loopM step k s = some e ∧ Q e
  | 0, j, s, _, _, hk => by omega
  | k + 1, j, s, hp, hj, hk => by
    unfold loopM
    by_cases e1 : j = n
    · subst e1
      obtain ⟨e, h1, h2⟩ := he s hp
      rw [h1]
      exact ⟨e, rfl, h2⟩
    · obtain ⟨s', h1, h2⟩ := h j s (by omega) hp
      rw [h1]
      exact loopM_inv P n Q h he h2 (by omega) (by omega)
def Small (acts : List S_rickyardlaw05_Act) (m : Nat) : Prop := acts.length ≤ m ∧ ∀ a ∈ acts, a.L.length ≤ 40
instance (acts : List S_rickyardlaw05_Act) (m : Nat) : Decidable (Small acts m) := inferInstanceAs (Decidable (_ ∧ _))
abbrev FU : Nat := 200000
theorem eta {d : Dev} : (⟨d.cells, ⟨d.plan.list, d.plan.at_⟩, d.off, d.armed, d.left, d.steps⟩ : S_pmem_Device) = d := rfl
def tup (i : Int) (d : Dev) : Int × (List S_pmem_cell) × (List Int) × Int × Bool × Bool × Int × Int := (i, d.cells, d.plan.list, d.plan.at_, d.off, d.armed, d.left, d.steps)
theorem next64 {j n : Nat} (h : j < n) (hn : n ≤ 100000) : IntKind.i64.wrap ((j : Int) + 1) = ((j + 1 : Nat) : Int) := by rw [w64 (by omega) (by omega)]; omega
theorem ix_mapIdx {α : Type} [Inhabited α] {cs : List α} {g : Nat → α → α} {i : Nat} (hi : i < cs.length) : ix (cs.mapIdx g) (i : Int) = g i (ix cs (i : Int)) := by
  rw [ix_nat (by simpa using hi), ix_nat hi, List.getElem_mapIdx]
theorem ix_mapC {α : Type} [Inhabited α] {cs : List α} {g : α → α} {i : Nat} (hi : i < cs.length) : ix (cs.map g) (i : Int) = g (ix cs (i : Int)) := by
  rw [ix_nat (by simpa using hi), ix_nat hi, List.getElem_map]
end Go.Proofs.Ytklhbaghbmndeaa.Pure
namespace Go.Proofs.Ytklhbaghbmndeaa
open Go Go.Xw
end Go.Proofs.Ytklhbaghbmndeaa
namespace Go.Proofs.Ytklhbaghbmndeaa.Pure
open Go Go.Xw
theorem Bytes.drop {l : List Int} (h : Bytes l) (n : Nat) : Bytes (l.drop n) := fun x hx => h x (List.mem_of_mem_drop hx)
theorem Bytes.take {l : List Int} (h : Bytes l) (n : Nat) : Bytes (l.take n) := fun x hx => h x (List.mem_of_mem_take hx)
theorem num_lt8 {l : List Int} (hb : Bytes l) (hl : l.length ≤ 8) : num l < 18446744073709551616 := by
  have h1 := num_lt hb
  have h2 : (256 : Nat) ^ l.length ≤ 256 ^ 8 := Nat.pow_le_pow_right (by decide) hl
  have h3 : (256 : Nat) ^ 8 = 18446744073709551616 := by decide
  omega
theorem read_long {fu : Nat} {l : List Int} (h : 8 ≤ l.length) : octet_Read.f fu l = octet_Read.f fu (l.take 8) := by
  have h8 : (l.take 8).length = 8 := by rw [List.length_take]; omega
  have e1 : mnI (l.length : Int) 8 = 8 := by unfold mnI; split <;> omega
  have e2 : mnI ((l.take 8).length : Int) 8 = 8 := by rw [h8]; rfl
  have e3 : cut l 0 8 = l.take 8 := rfl
  have e4 : cut (l.take 8) 0 8 = l.take 8 := by
    unfold cut
    rw [List.take_of_length_le (by rw [h8]; decide)]
    rfl
  have es : octet_Read.s0 fu l = octet_Read.s0 fu (l.take 8) := by
    unfold octet_Read.s0
    rw [e1, e2, e3, e4]
  unfold octet_Read.f
  rw [e1, e2, es, if_pos (by omega), if_pos (by rw [h8]; decide)]
def wordsU (l : List Int) (j : Nat) : List Int := (List.range j).map fun i => ((num ((l.drop (8 * i)).take 8) : Nat) : Int)
theorem wordsU_succ (l : List Int) (j : Nat) : wordsU l (j + 1) = wordsU l j ++ [((num ((l.drop (8 * j)).take 8) : Nat) : Int)] := by
  simp [wordsU, List.range_succ]
theorem wordsU_len (l : List Int) (j : Nat) : (wordsU l j).length = j := by simp [wordsU]
theorem chunk_len {l : List Int} {j : Nat} (h : 8 * j + 8 ≤ l.length) : ((l.drop (8 * j)).take 8).length = 8 := by
  rw [List.length_take, List.length_drop]
  omega
theorem octs_words {l : List Int} (hb : Bytes l) : ∀ j, 8 * j ≤ l.length → octs (wordsU l j) = l.take (8 * j)
  | 0, _ => by simp [wordsU, octs]
  | j + 1, h => by
    have hc : ((l.drop (8 * j)).take 8).length = 8 := chunk_len (by omega)
    have hl := lay_num ((hb.drop (8 * j)).take 8)
    rw [hc] at hl
    rw [wordsU_succ, octs_append, octs_one, octs_words hb j (by omega), Int.toNat_natCast, hl, show 8 * (j + 1) = 8 * j + 8 from by omega, List.take_add]
theorem words_U64 {l : List Int} (hb : Bytes l) {n : Nat} : ∀ w ∈ wordsU l n, U64 w := by
  intro w hw
  obtain ⟨i, _, rfl⟩ := List.mem_map.1 hw
  have := num_lt8 ((hb.drop (8 * i)).take 8) (by rw [List.length_take]; omega)
  unfold U64
  omega
theorem words_eq {fu n : Nat} {l : List Int} (hb : Bytes l) (hl : l.length = 8 * n) (hn : n ≤ 100000) (hf : n + 8 < fu) : octet_Words.f fu l = some (wordsU l n) := by
  unfold octet_Words.f
  have : loopM (octet_Words.s0 fu) fu (l, []) = some (wordsU l n) := by
    refine loopM_run (S := fun j => (l.drop (8 * j), wordsU l j)) n (by simp [wordsU]) ?_ ?_ (by omega)
    · intro j hj
      unfold octet_Words.s0
      have hdl : (l.drop (8 * j)).length = 8 * n - 8 * j := by rw [List.length_drop, hl]
      have c1 : ((l.drop (8 * j)).length : Int) ≥ 8 := by omega
      have hc : ((l.drop (8 * j)).take 8).length = 8 := chunk_len (by omega)
      have hr : octet_Read.f fu (l.drop (8 * j)) = some ((num ((l.drop (8 * j)).take 8) : Nat) : Int) := by
        rw [read_long (by omega)]
        exact read_eq ((hb.drop _).take _) (by omega) (by omega)
      have e1 : cut (l.drop (8 * j)) 8 ((l.drop (8 * j)).length : Int) = l.drop (8 * (j + 1)) := by
        unfold cut
        rw [Int.toNat_natCast, List.take_length, show Int.toNat 8 = 8 from rfl, List.drop_drop]
        congr 1
      simp only [e1]
      rw [decide_eq_true c1, if_pos rfl, hr]
      simp only [Option.bind_some]
      rw [if_pos (by rw [wordsU_len]; exact Nat.le_trans (by simp only [List.length_cons, List.length_nil]; omega : _ ≤ 100001) (by decide)), if_pos c1, wordsU_succ]
    · unfold octet_Words.s0
      have : ¬ (((l.drop (8 * n)).length : Int) ≥ 8) := by rw [List.length_drop]; omega
      simp only [this, decide_false, Bool.false_eq_true, if_false]
  rw [this]
  rfl
end Go.Proofs.Ytklhbaghbmndeaa.Pure
namespace Go.Proofs.Ytklhbaghbmndeaa
open Go Go.Xw
end Go.Proofs.Ytklhbaghbmndeaa
namespace Go.Proofs.Ytklhbaghbmndeaa.Pure
open Go Go.Xw
def putAll : Dev → Int → List Int → Int × Dev
  | d, _, [] => (0, d)
  | d, k, w :: ws => if (storeD d k w).1 = 0 then putAll (storeD d k w).2 (k + 1) ws else storeD d k w
def sendD (d : Dev) (line first : Int) (ws : List Int) : Int × Dev := if (putAll d (8 * line + first) ws).1 = 0 then flushD (putAll d (8 * line + first) ws).2 line else putAll d (8 * line + first) ws
def inL (d : Dev) (line : Int) : Prop := 0 ≤ line ∧ line < ((d.cells.length / 8 : Nat) : Int)
instance (d : Dev) (line : Int) : Decidable (inL d line) := inferInstanceAs (Decidable (_ ∧ _))
def wordD (d : Dev) (line i w : Int) : Int × Dev := if inL d line ∧ 0 ≤ i ∧ i < 8 then sendD d line i [w] else (2, d)
def lineC (d : Dev) (line : Int) : List Int := (List.range 8).map fun (i : Nat) => (ix d.cells (8 * line + (i : Int))).stored
def readD (d : Dev) (line : Int) : List Int × Int := if inL d line then if d.off = true then ([], 3) else (octs (lineC d line), 0) else ([], 2)
theorem put_ok {n : Nat} : ∀ {ws : List Int} {B k : Int} {d : Dev} (h : DevOk n B d) (hw : ∀ w ∈ ws, U64 w), DevOk n (B + (ws.length : Int)) (putAll d k ws).2
  | [], B, k, d, h, _ => h.up (by simp)
  | w :: ws, B, k, d, h, hw => by
    have h1 := store_ok (k := k) h (hw w (by simp))
    unfold putAll
    split
    · exact (put_ok h1 fun x hx => hw x (by simp [hx])).up (by simp only [List.length_cons]; omega)
    · exact h1.up (by simp only [List.length_cons]; omega)
theorem send_ok {n : Nat} {ws : List Int} {B k i : Int} {d : Dev} (h : DevOk n B d) (hw : ∀ w ∈ ws, U64 w) : DevOk n (B + (ws.length : Int) + 1) (sendD d k i ws).2 := by
  have h1 := put_ok (k := 8 * k + i) h hw
  unfold sendD
  split
  · exact flush_ok h1
  · exact h1.up (by omega)
theorem store_loop {fu n : Nat} {line first : Int} {ws : List Int} (hn : n ≤ 100000) (hw : ∀ w ∈ ws, U64 w) (hl : ws.length ≤ 1000) (hline : 0 ≤ line ∧ line ≤ 100000) (hfirst : 0 ≤ first ∧ first ≤ 1000) : ∀ (r j : Nat) (B : Int) (d : Dev) (k : Nat), j + r = ws.length → DevOk n B d → B + (r : Int) < 9223372036854775807 → r < k →
    loopM (press_store.s0 fu line first ws) k (tup (j : Int) d) = some (if (putAll d (8 * line + first + (j : Int)) (ws.drop j)).1 = 0 then .inr ((putAll d (8 * line + first + (j : Int)) (ws.drop j)).2.cells, (putAll d (8 * line + first + (j : Int)) (ws.drop j)).2.plan.list, (putAll d (8 * line + first + (j : Int)) (ws.drop j)).2.plan.at_, (putAll d (8 * line + first + (j : Int)) (ws.drop j)).2.off, (putAll d (8 * line + first + (j : Int)) (ws.drop j)).2.armed, (putAll d (8 * line + first + (j : Int)) (ws.drop j)).2.left, (putAll d (8 * line + first + (j : Int)) (ws.drop j)).2.steps) else .inl (putAll d (8 * line + first + (j : Int)) (ws.drop j)))
  | r, j, B, d, 0, hj, h, hB, hk => by omega
  | 0, j, B, d, k + 1, hj, h, hB, hk => by
    unfold loopM
    have : j = ws.length := by omega
    subst this
    unfold press_store.s0 tup
    rw [decide_eq_false (show ¬ ((ws.length : Int) < (ws.length : Int)) by omega), if_neg (by decide), List.drop_of_length_le (Nat.le_refl _)]
    rfl
  | r + 1, j, B, d, k + 1, hj, h, hB, hk => by
    have hjl : j < ws.length := by omega
    have hu := hw _ (List.getElem_mem hjl)
    have hst : pmem_Device_Store.f fu d (8 * line + first + (j : Int)) ws[j] = some (storeD d (8 * line + first + (j : Int)) ws[j]) := store_eq h (by omega) hu
    have w1 : IntKind.i64.wrap (line * 8) = 8 * line := by rw [w64 (by omega) (by omega)]; omega
    have w2 : IntKind.i64.wrap (8 * line + first) = 8 * line + first := w64 (by omega) (by omega)
    have w3 : IntKind.i64.wrap (8 * line + first + (j : Int)) = 8 * line + first + (j : Int) := w64 (by omega) (by omega)
    have hd : ws.drop j = ws[j] :: ws.drop (j + 1) := List.drop_eq_getElem_cons hjl
    unfold loopM
    have hs : press_store.s0 fu line first ws (tup (j : Int) d) = some (if (storeD d (8 * line + first + (j : Int)) ws[j]).1 = 0 then .inr (tup ((j + 1 : Nat) : Int) (storeD d (8 * line + first + (j : Int)) ws[j]).2) else .inl (.inl (storeD d (8 * line + first + (j : Int)) ws[j]))) := by
      unfold press_store.s0 tup
      simp only [eta, w1, w2, w3]
      rw [decide_eq_true (show (j : Int) < (ws.length : Int) by omega), if_pos rfl, if_pos (by omega), ix_nat hjl, hst, next64 hjl (by omega)]
      simp only [Option.bind_some]
      by_cases e : (storeD d (8 * line + first + (j : Int)) ws[j]).1 = 0
      · rw [decide_eq_true e, if_neg (by decide), if_pos e]
      · rw [decide_eq_false e, if_pos (by decide), if_neg e]
    rw [hs, hd]
    unfold putAll
    by_cases e : (storeD d (8 * line + first + (j : Int)) ws[j]).1 = 0
    · have ih := store_loop (fu := fu) (n := n) (line := line) (first := first) hn hw hl hline hfirst r (j + 1) (B + 1) (storeD d (8 * line + first + (j : Int)) ws[j]).2 k (by omega) (store_ok h hu) (by omega) (by omega)
      rw [show 8 * line + first + ((j + 1 : Nat) : Int) = 8 * line + first + (j : Int) + 1 from by omega] at ih
      rw [if_pos e, if_pos e]
      exact ih
    · rw [if_neg e, if_neg e]
      simp only [e, if_false]
theorem send_eq {fu n : Nat} {B line first : Int} {ws : List Int} {d : Dev} (h : DevOk n B d) (hB : B + (ws.length : Int) + 1 < 9223372036854775807) (hn : n ≤ 100000) (hw : ∀ w ∈ ws, U64 w) (hl : ws.length ≤ 1000) (hline : 0 ≤ line ∧ line ≤ 100000) (hfirst : 0 ≤ first ∧ first ≤ 1000) (hf : 2000 < fu) : press_store.f fu d line first ws = some (sendD d line first ws) := by
  unfold press_store.f sendD
  have h1 := store_loop (fu := fu) hn hw hl hline hfirst ws.length 0 B d fu (by omega) h (by omega) (by omega)
  unfold tup at h1
  simp only [List.drop_zero, Int.natCast_zero, Int.add_zero] at h1
  have h2 := put_ok (k := 8 * line + first) h hw
  rw [h1]
  by_cases e : (putAll d (8 * line + first) ws).1 = 0
  · rw [if_pos e, if_pos e]
    simp only [Option.bind_some, eta]
    rw [flush_eq h2 (by omega) (by omega) (by omega)]
    rfl
  · rw [if_neg e, if_neg e]
    rfl
theorem pmay_eq {fu : Nat} {d : Dev} {k : Int} (hl : d.cells.length ≤ 1000000) : press_may.f fu d k = some (if inL d k then 0 else 2) := by
  unfold press_may.f
  rw [lines_eq hl]
  by_cases h1 : k < 0
  · rw [decide_eq_true h1, if_neg (show ¬ inL d k from fun q => by have := q.1; omega)]
    rfl
  · rw [decide_eq_false h1, if_neg (by decide)]
    simp only [Option.bind_some]
    by_cases h2 : k ≥ ((d.cells.length / 8 : Nat) : Int)
    · rw [decide_eq_true h2, if_neg (show ¬ inL d k from fun q => by have := q.2; omega)]
      rfl
    · rw [decide_eq_false h2, if_pos (show inL d k from ⟨by omega, by omega⟩)]
      rfl
theorem word_eq {fu n : Nat} {B line i w : Int} {d : Dev} (h : DevOk n B d) (hB : B + 9 < 9223372036854775807) (hn : n ≤ 100000) (hw : U64 w) (hf : 2000 < fu) : press_Word.f fu d line i w = some (wordD d line i w) := by
  unfold press_Word.f wordD
  have hlen := h.len
  rw [pmay_eq (by omega)]
  simp only [Option.bind_some]
  by_cases hi : inL d line
  · rw [if_pos hi, if_neg (by decide)]
    by_cases hl : 0 ≤ i ∧ i < 8
    · have hw1 : ∀ x ∈ [w], U64 x := fun x hx => by rw [List.mem_singleton.1 hx]; exact hw
      rw [decide_eq_false (show ¬ i < 0 by omega), decide_eq_false (show ¬ i ≥ 8 by omega), if_neg (by decide), if_pos ⟨hi, hl⟩]
      unfold inL at hi
      rw [send_eq h (by simp only [List.length_cons, List.length_nil]; omega) hn hw1 (by simp) (by omega) (by omega) hf]
      rfl
    · have : (if (decide (i < 0)) = true then true else (decide (i ≥ 8))) = true := by
        by_cases h1 : i < 0
        · rw [decide_eq_true h1, if_pos rfl]
        · rw [decide_eq_false h1, if_neg (by decide), decide_eq_true (by omega)]
      rw [if_pos this, if_neg (fun q => hl q.2)]
  · rw [if_neg hi, if_pos (by decide), if_neg (fun q => hi q.1)]
theorem sure_eq {fu n : Nat} {B : Int} {d : Dev} (h : DevOk n B d) (hB : B < 9223372036854775807) (hn : n ≤ 100000) (hf : n < fu) : press_Sure.f fu d = some (fenceD d) := by
  unfold press_Sure.f
  rw [fence_eq h hB (by omega) hf]
  rfl
theorem arr_set8 (a : Arr 8 Int) (j : Nat) (v : Int) (hj : j < 8) (f : Nat → Int) (hf : ∀ i, i < j → ix a.l (i : Int) = f i) (hv : v = f j) : ∀ i, i < j + 1 → ix (Arr.set a (j : Int) v).l (i : Int) = f i := by
  intro i hi
  have hl := a.h
  have e : (Arr.set a (j : Int) v).l = a.l.set j v := by simp [Arr.set]
  rw [e, ix_nat (by rw [List.length_set]; omega), List.getElem_set]
  by_cases h : j = i
  · subst h
    rw [if_pos rfl, hv]
  · rw [if_neg h, ← ix_nat (by omega)]
    exact hf i (by omega)
theorem read_dev {fu n : Nat} {B line : Int} {d : Dev} (h : DevOk n B d) (hn : n ≤ 100000) (hf : 2000 < fu) : press_Read.f fu d line = some (readD d line) := by
  unfold press_Read.f readD
  have hlen := h.len
  rw [pmay_eq (by omega)]
  simp only [Option.bind_some]
  by_cases hi : inL d line
  · rw [if_pos hi, if_neg (by decide), if_pos hi]
    have hin := hi
    unfold inL at hin
    have w1 : IntKind.i64.wrap (line * 8) = 8 * line := by rw [w64 (by omega) (by omega)]; omega
    have hld : ∀ j : Nat, j < 8 → pmem_Device_Load.f fu d (8 * line + (j : Int)) = some (if d.off = true then (0, 3) else ((ix d.cells (8 * line + (j : Int))).stored, 0)) := by
      intro j hj
      rw [load_eq]
      unfold loadD
      cases ho : d.off
      · rw [if_pos (may_zero.2 ⟨rfl, by omega, by omega⟩), if_neg (by decide)]
      · have : mayI true (8 * line + (j : Int)) (d.cells.length : Int) = 3 := rfl
        rw [this, if_neg (by decide), if_pos rfl]
    cases ho : d.off
    · rw [if_neg (by decide)]
      have loop : ∃ e, loopM (press_Read.s0 fu d line) fu (0, Arr.rep 8 (0 : Int)) = some e ∧ ∃ a : Arr 8 Int, e = .inr a ∧ ∀ i : Nat, i < 8 → ix a.l (i : Int) = (ix d.cells (8 * line + (i : Int))).stored := by
        refine loopM_inv (fun j s => ∃ a : Arr 8 Int, s = ((j : Int), a) ∧ ∀ i : Nat, i < j → ix a.l (i : Int) = (ix d.cells (8 * line + (i : Int))).stored) 8 _ ?_ ?_ (j := 0) ⟨_, rfl, fun i hi => by omega⟩ (by omega) (by omega)
        · rintro j _ hj ⟨a, rfl, ha⟩
          unfold press_Read.s0
          have w3 : IntKind.i64.wrap (8 * line + (j : Int)) = 8 * line + (j : Int) := w64 (by omega) (by omega)
          simp only [w1, w3]
          rw [decide_eq_true (show (j : Int) < 8 by omega), if_pos rfl, hld j hj, ho, if_neg (by decide), next64 hj (by decide)]
          simp only [Option.bind_some, decide_true, Bool.not_true, Bool.false_eq_true, if_false]
          rw [if_pos (by omega)]
          exact ⟨_, rfl, _, rfl, arr_set8 a j _ hj (fun i => (ix d.cells (8 * line + (i : Int))).stored) ha rfl⟩
        · rintro _ ⟨a, rfl, ha⟩
          unfold press_Read.s0
          rw [decide_eq_false (show ¬ (((8 : Nat) : Int) < 8) by decide), if_neg (by decide)]
          exact ⟨_, rfl, a, rfl, ha⟩
      obtain ⟨e, h1, a, rfl, ha⟩ := loop
      have hal : a.l = lineC d line := by
        apply List.ext_getElem (by rw [a.h]; simp [lineC])
        intro i h1 h2
        have : i < 8 := by rw [a.h] at h1; exact h1
        rw [← ix_nat h1, ha i this]
        simp [lineC]
      have hu : ∀ w ∈ lineC d line, U64 w := by
        intro w hw
        obtain ⟨i, hi8, rfl⟩ := List.mem_map.1 hw
        have := List.mem_range.1 hi8
        obtain ⟨p, hp⟩ : ∃ p : Nat, 8 * line + (i : Int) = (p : Int) := ⟨(8 * line + (i : Int)).toNat, by omega⟩
        rw [hp, ix_nat (by omega)]
        exact (h.val _ (List.getElem_mem _)).2.1
      rw [h1]
      simp only [Option.bind_some]
      rw [hal, octets_eq hu (by simp [lineC]) (by simp [lineC]; omega)]
      rfl
    · rw [if_pos rfl]
      have loop : loopM (press_Read.s0 fu d line) fu (0, Arr.rep 8 (0 : Int)) = some (.inl ([], 3)) := by
        obtain ⟨k, rfl⟩ : ∃ k, fu = k + 1 := ⟨fu - 1, by omega⟩
        unfold loopM
        have := hld 0 (by decide)
        rw [ho, if_pos rfl] at this
        unfold press_Read.s0
        have w3 : IntKind.i64.wrap (8 * line + 0) = 8 * line + ((0 : Nat) : Int) := by rw [w64 (by omega) (by omega)]; rfl
        simp only [w1, w3]
        rw [this]
        rfl
      rw [loop]
      rfl
  · rw [if_neg hi, if_pos (by decide), if_neg hi]
end Go.Proofs.Ytklhbaghbmndeaa.Pure
namespace Go.Proofs.Ytklhbaghbmndeaa
open Go Go.Xw
end Go.Proofs.Ytklhbaghbmndeaa
namespace Go.Proofs.Ytklhbaghbmndeaa.Pure
open Go Go.Xw
theorem crash_get {d : Dev} {l : List Int} {p : Nat} (hp : p < d.cells.length) : ix (crashD d l).cells (p : Int) = crashC (ix d.cells (p : Int)) (l.getD (opens d.cells p) 0) := ix_mapIdx (g := fun i c => crashC c (l.getD (opens d.cells i) 0)) hp
def St1 (Φ : Int → Prop) (c : Cell) : Prop := Φ c.stored
def St2 (Φ : Int → Prop) (c : Cell) : Prop := Φ c.stored ∧ (c.flushed = true → Φ c.sent) ∧ (c.flushed = false → Φ c.lasts)
def CellP (Φ : Int → Prop) (c : Cell) : Prop := Φ c.lasts ∧ Φ c.stored ∧ (c.flushed = true → Φ c.sent)
theorem CellP.mono {Φ Ψ : Int → Prop} {c : Cell} (h : CellP Φ c) (hi : ∀ x, Φ x → Ψ x) : CellP Ψ c := ⟨hi _ h.1, hi _ h.2.1, fun e => hi _ (h.2.2 e)⟩
def cellA (d : Dev) (i : Nat) : Cell := ix d.cells (i : Int)
def Evic (R : Cell → Prop) : Prop := ∀ c, R c → R (keepC c c.stored)
theorem ev_st1 (Φ : Int → Prop) : Evic (St1 Φ) := fun c h => h
theorem ev_st2 (Φ : Int → Prop) : Evic (St2 Φ) := fun c h => ⟨h.1, fun e => (by cases e), fun _ => h.1⟩
theorem ev_cell (Φ : Int → Prop) : Evic (CellP Φ) := fun c h => ⟨h.2.1, h.2.1, fun e => (by cases e)⟩
theorem at_tick {R : Cell → Prop} {d : Dev} {i : Nat} (he : Evic R) (hi : i < d.cells.length) (h : R (cellA d i)) : R (cellA (tick d) i) := by
  show R (ix (evict (pick d.plan) d.cells) (i : Int))
  unfold evict
  rw [ix_mapIdx hi]
  split
  · exact he _ h
  · exact h
theorem tick_len (d : Dev) : (tick d).cells.length = d.cells.length := evict_len _ _
theorem store_len (d : Dev) (k w : Int) : (storeD d k w).2.cells.length = d.cells.length := by
  unfold storeD
  split
  · rw [tick_len]
    simp [withC, putC]
  · rfl
theorem flush_len (d : Dev) (k : Int) : (flushD d k).2.cells.length = d.cells.length := by
  unfold flushD
  split
  · rw [tick_len]
    simp [withC, sendL]
  · rfl
theorem fence_len (d : Dev) : (fenceD d).2.cells.length = d.cells.length := by
  unfold fenceD
  split
  · rfl
  · rw [tick_len]
    simp [withC]
theorem put_len : ∀ (ws : List Int) (d : Dev) (k : Int), (putAll d k ws).2.cells.length = d.cells.length
  | [], d, k => rfl
  | w :: ws, d, k => by
    unfold putAll
    split
    · rw [put_len ws, store_len]
    · exact store_len d k w
theorem send_len (d : Dev) (line first : Int) (ws : List Int) : (sendD d line first ws).2.cells.length = d.cells.length := by
  unfold sendD
  split
  · rw [flush_len, put_len]
  · exact put_len _ _ _
theorem at_store {R : Cell → Prop} {d : Dev} {i : Nat} {k w : Int} (he : Evic R) (hi : i < d.cells.length) (h : R (cellA d i)) (hk : k ≠ (i : Int)) : R (cellA (storeD d k w).2 i) := by
  unfold storeD
  split
  · refine at_tick he (by simpa [withC, putC] using hi) ?_
    show R (ix (putC k w d.cells) (i : Int))
    unfold putC
    rw [ix_mapIdx hi, if_neg fun q => hk q.symm]
    exact h
  · exact h
theorem at_store_st1 {Φ : Int → Prop} {d : Dev} {i : Nat} {w : Int} (hi : i < d.cells.length) (hw : Φ w) (ho : d.off = false) : St1 Φ (cellA (storeD d (i : Int) w).2 i) := by
  unfold storeD
  rw [if_pos (may_zero.2 ⟨ho, by omega, by omega⟩)]
  refine at_tick (ev_st1 Φ) (by simpa [withC, putC] using hi) ?_
  show Φ (ix (putC (i : Int) w d.cells) (i : Int)).stored
  unfold putC
  rw [ix_mapIdx hi, if_pos rfl]
  exact hw
theorem cell_store {Φ : Int → Prop} {d : Dev} {i : Nat} {k w : Int} (hi : i < d.cells.length) (h : CellP Φ (cellA d i)) (hw : k = (i : Int) → Φ w) : CellP Φ (cellA (storeD d k w).2 i) := by
  by_cases hk : k = (i : Int)
  · unfold storeD
    split
    · refine at_tick (ev_cell Φ) (by simpa [withC, putC] using hi) ?_
      show CellP Φ (ix (putC k w d.cells) (i : Int))
      unfold putC
      rw [ix_mapIdx hi, if_pos hk.symm]
      exact ⟨h.1, hw hk, h.2.2⟩
    · exact h
  · exact at_store (ev_cell Φ) hi h hk
theorem at_put {R : Cell → Prop} (he : Evic R) {i : Nat} : ∀ {ws : List Int} {d : Dev} {k : Int}, i < d.cells.length → R (cellA d i) → ¬ (k ≤ (i : Int) ∧ (i : Int) < k + (ws.length : Int)) → R (cellA (putAll d k ws).2 i)
  | [], d, k, hi, h, _ => h
  | w :: ws, d, k, hi, h, hk => by
    simp only [List.length_cons] at hk
    have h1 := at_store (k := k) (w := w) he hi h (by omega)
    unfold putAll
    split
    · exact at_put he (by rw [store_len]; exact hi) h1 (by omega)
    · exact h1
theorem cell_put {Φ : Int → Prop} {i : Nat} : ∀ {ws : List Int} {d : Dev} {k : Int}, i < d.cells.length → CellP Φ (cellA d i) → (∀ j : Nat, j < ws.length → k + (j : Int) = (i : Int) → Φ (ix ws (j : Int))) → CellP Φ (cellA (putAll d k ws).2 i)
  | [], d, k, hi, h, _ => h
  | w :: ws, d, k, hi, h, hk => by
    have h1 := cell_store (k := k) (w := w) hi h (fun e => by
      have := hk 0 (by simp) (by omega)
      simpa [ix] using this)
    unfold putAll
    split
    · refine cell_put (by rw [store_len]; exact hi) h1 fun j hj e => ?_
      have := hk (j + 1) (by simpa using hj) (by omega)
      rw [ix_nat (by simpa using hj)] at this
      rw [ix_nat hj]
      simpa using this
    · exact h1
theorem at_flush {R : Cell → Prop} {d : Dev} {i : Nat} {k : Int} (he : Evic R) (hi : i < d.cells.length) (h : R (cellA d i)) (hs : 8 * k ≤ (i : Int) ∧ (i : Int) < 8 * k + 8 → R (sendC (cellA d i))) : R (cellA (flushD d k).2 i) := by
  unfold flushD
  split
  · refine at_tick he (by simpa [withC, sendL] using hi) ?_
    show R (ix (sendL k d.cells) (i : Int))
    unfold sendL
    rw [ix_mapIdx hi]
    split
    · rename_i q
      exact hs q
    · exact h
  · exact h
theorem cell_send {Φ : Int → Prop} {c : Cell} (h : CellP Φ c) : CellP Φ (sendC c) := ⟨h.1, h.2.1, fun _ => h.2.1⟩
theorem cell_flush {Φ : Int → Prop} {d : Dev} {i : Nat} {k : Int} (hi : i < d.cells.length) (h : CellP Φ (cellA d i)) : CellP Φ (cellA (flushD d k).2 i) := at_flush (ev_cell Φ) hi h fun _ => cell_send h
theorem st1_flush {Φ : Int → Prop} {d : Dev} {i : Nat} {k : Int} (hi : i < d.cells.length) (h : St1 Φ (cellA d i)) (ho : d.off = false) (h0 : 0 ≤ k) (h1 : k < ((d.cells.length / 8 : Nat) : Int)) (hk : 8 * k ≤ (i : Int) ∧ (i : Int) < 8 * k + 8) : St2 Φ (cellA (flushD d k).2 i) := by
  unfold flushD
  rw [if_pos (may_zero.2 ⟨ho, h0, h1⟩)]
  refine at_tick (ev_st2 Φ) (by simpa [withC, sendL] using hi) ?_
  show St2 Φ (ix (sendL k d.cells) (i : Int))
  unfold sendL
  rw [ix_mapIdx hi, if_pos hk]
  exact ⟨h, fun _ => h, fun e => (by cases e)⟩
theorem cell_fence {Φ : Int → Prop} {d : Dev} {i : Nat} (hi : i < d.cells.length) (h : CellP Φ (cellA d i)) : CellP Φ (cellA (fenceD d).2 i) := by
  unfold fenceD
  split
  · exact h
  · refine at_tick (ev_cell Φ) (by simpa [withC] using hi) ?_
    show CellP Φ (ix (d.cells.map fenceC) (i : Int))
    rw [ix_mapC hi]
    unfold fenceC
    split
    · rename_i e
      exact ⟨h.2.2 e, h.2.1, fun e => (by cases e)⟩
    · exact h
theorem st2_fence {Φ : Int → Prop} {d : Dev} {i : Nat} (hi : i < d.cells.length) (h : St2 Φ (cellA d i)) (ho : d.off = false) : CellP Φ (cellA (fenceD d).2 i) := by
  unfold fenceD
  rw [if_neg (by rw [ho]; decide)]
  refine at_tick (ev_cell Φ) (by simpa [withC] using hi) ?_
  show CellP Φ (ix (d.cells.map fenceC) (i : Int))
  rw [ix_mapC hi]
  unfold fenceC
  split
  · rename_i e
    exact ⟨h.2.1 e, h.1, fun e => (by cases e)⟩
  · rename_i e
    exact ⟨h.2.2 (show (cellA d i).flushed = false from by simpa using (show ¬ (cellA d i).flushed = true from e)), h.1, fun q => absurd q e⟩
theorem cell_crash {Φ : Int → Prop} {d : Dev} {i : Nat} {l : List Int} (hi : i < d.cells.length) (h : CellP Φ (cellA d i)) : CellP Φ (cellA (crashD d l) i) := by
  unfold cellA
  rw [crash_get hi]
  unfold crashC
  split
  · have hf : Φ (fateC (ix d.cells (i : Int)) (l.getD (opens d.cells i) 0)) := by
      unfold fateC
      split
      · exact h.2.1
      · split
        · rename_i q
          exact h.2.2 q.2
        · exact h.1
    exact ⟨hf, hf, fun e => (by cases e)⟩
  · exact ⟨h.1, h.1, h.2.2⟩
theorem cell_send_all {Φ : Int → Prop} {d : Dev} {i : Nat} {line first : Int} {ws : List Int} (hi : i < d.cells.length) (h : CellP Φ (cellA d i)) (hw : ∀ j : Nat, j < ws.length → 8 * line + first + (j : Int) = (i : Int) → Φ (ix ws (j : Int))) : CellP Φ (cellA (sendD d line first ws).2 i) := by
  have h1 := cell_put hi h hw
  unfold sendD
  split
  · exact cell_flush (by rw [put_len]; exact hi) h1
  · exact h1
theorem cell_word {Φ : Int → Prop} {d : Dev} {i : Nat} {line k w : Int} (hi : i < d.cells.length) (h : CellP Φ (cellA d i)) (hw : 0 ≤ k → k < 8 → 8 * line + k = (i : Int) → Φ w) : CellP Φ (cellA (wordD d line k w).2 i) := by
  unfold wordD
  split
  · rename_i q
    refine cell_send_all hi h fun j hj e => ?_
    have hj0 : j = 0 := by simpa using hj
    subst hj0
    have := hw q.2.1 q.2.2 (by omega)
    simpa [ix] using this
  · exact h
theorem store_zero {d : Dev} {k w : Int} (h : (storeD d k w).1 = 0) : d.off = false ∧ 0 ≤ k ∧ k < (d.cells.length : Int) := by
  unfold storeD at h
  split at h
  · rename_i e
    exact may_zero.1 e
  · exact may_zero.1 h
theorem flush_zero {d : Dev} {k : Int} (h : (flushD d k).1 = 0) : d.off = false ∧ 0 ≤ k ∧ k < ((d.cells.length / 8 : Nat) : Int) := by
  unfold flushD at h
  split at h
  · rename_i e
    exact may_zero.1 e
  · exact may_zero.1 h
theorem fence_zero {d : Dev} (h : (fenceD d).1 = 0) : d.off = false := by
  unfold fenceD at h
  split at h
  · exact absurd (show (3 : Int) = 0 from h) (by decide)
  · rename_i e
    simpa using e
theorem put_st1 : ∀ {ws : List Int} {d : Dev} {k : Nat}, (putAll d (k : Int) ws).1 = 0 → ∀ j : Nat, j < ws.length → St1 (fun x => x = ix ws (j : Int)) (cellA (putAll d (k : Int) ws).2 (k + j))
  | [], d, k, _, j, hj => by simp at hj
  | w :: ws, d, k, h, j, hj => by
    unfold putAll at h ⊢
    by_cases e : (storeD d (k : Int) w).1 = 0
    · rw [if_pos e] at h
      obtain ⟨ho, h0, h1⟩ := store_zero e
      simp only [e, if_true]
      have hk : ((k : Int) + 1) = ((k + 1 : Nat) : Int) := by omega
      cases j with
      | zero =>
        have hs := at_store_st1 (Φ := fun x => x = w) (w := w) (show k < d.cells.length by omega) rfl ho
        have := at_put (ev_st1 (fun x => x = w)) (ws := ws) (k := (k : Int) + 1) (by rw [store_len]; omega) hs (by omega)
        simpa [ix] using this
      | succ j =>
        have hj' : j < ws.length := by simpa using hj
        rw [hk] at h ⊢
        have := put_st1 h j hj'
        rw [show k + (j + 1) = k + 1 + j from by omega]
        rw [ix_nat (show j + 1 < (w :: ws).length by simpa using hj)]
        rw [ix_nat hj'] at this
        simpa using this
    · rw [if_neg e] at h
      exact absurd h e
theorem send_zero {d : Dev} {line first : Int} {ws : List Int} (h : (sendD d line first ws).1 = 0) : (putAll d (8 * line + first) ws).1 = 0 ∧ (flushD (putAll d (8 * line + first) ws).2 line).1 = 0 ∧ (sendD d line first ws).2 = (flushD (putAll d (8 * line + first) ws).2 line).2 := by
  unfold sendD at h ⊢
  by_cases e : (putAll d (8 * line + first) ws).1 = 0
  · rw [if_pos e] at h
    rw [if_pos e]
    exact ⟨e, h, rfl⟩
  · rw [if_neg e] at h
    exact absurd h e
theorem send_st2 {d : Dev} {line first : Nat} {ws : List Int} (h : (sendD d (line : Int) (first : Int) ws).1 = 0) (hf : first + ws.length ≤ 8) (hl : 8 * line + 8 ≤ d.cells.length) (j : Nat) (hj : j < ws.length) : St2 (fun x => x = ix ws (j : Int)) (cellA (sendD d (line : Int) (first : Int) ws).2 (8 * line + first + j)) := by
  obtain ⟨h1, h2, h3⟩ := send_zero h
  have ek : 8 * (line : Int) + (first : Int) = ((8 * line + first : Nat) : Int) := by omega
  rw [h3]
  rw [ek] at h1 h2 ⊢
  obtain ⟨ho, _, hl2⟩ := flush_zero h2
  exact st1_flush (by rw [put_len]; omega) (put_st1 h1 j hj) ho (by omega) hl2 (by omega)
def Un (d : Dev) : Prop := d.armed = false ∧ d.off = false
theorem un_tick {d : Dev} (h : Un d) : Un (tick d) := ⟨h.1, by show (if d.armed = true then decide (d.left - 1 = 0) else d.off) = false; rw [h.1]; exact h.2⟩
theorem un_store {d : Dev} {k w : Int} (h : Un d) (h0 : 0 ≤ k) (h1 : k < (d.cells.length : Int)) : (storeD d k w).1 = 0 ∧ Un (storeD d k w).2 ∧ (storeD d k w).2.steps = d.steps + 1 := by
  unfold storeD
  rw [if_pos (may_zero.2 ⟨h.2, h0, h1⟩)]
  exact ⟨rfl, un_tick (d := withC d _) h, rfl⟩
theorem un_flush {d : Dev} {k : Int} (h : Un d) (h0 : 0 ≤ k) (h1 : k < ((d.cells.length / 8 : Nat) : Int)) : (flushD d k).1 = 0 ∧ Un (flushD d k).2 ∧ (flushD d k).2.steps = d.steps + 1 := by
  unfold flushD
  rw [if_pos (may_zero.2 ⟨h.2, h0, h1⟩)]
  exact ⟨rfl, un_tick (d := withC d _) h, rfl⟩
theorem un_fence {d : Dev} (h : Un d) : (fenceD d).1 = 0 ∧ Un (fenceD d).2 ∧ (fenceD d).2.steps = d.steps + 1 := by
  unfold fenceD
  rw [if_neg (by rw [h.2]; decide)]
  exact ⟨rfl, un_tick (d := withC d _) h, rfl⟩
theorem un_put : ∀ {ws : List Int} {d : Dev} {k : Int}, Un d → 0 ≤ k → k + (ws.length : Int) ≤ (d.cells.length : Int) → (putAll d k ws).1 = 0 ∧ Un (putAll d k ws).2 ∧ (putAll d k ws).2.steps = d.steps + (ws.length : Int)
  | [], d, k, h, _, _ => ⟨rfl, h, by simp [putAll]⟩
  | w :: ws, d, k, h, h0, h1 => by
    simp only [List.length_cons] at h1
    obtain ⟨a1, a2, a3⟩ := un_store (w := w) h h0 (show k < (d.cells.length : Int) by omega)
    obtain ⟨b1, b2, b3⟩ := un_put (ws := ws) (k := k + 1) a2 (by omega) (by rw [store_len]; omega)
    unfold putAll
    rw [if_pos a1]
    exact ⟨b1, b2, by rw [b3, a3]; simp only [List.length_cons]; omega⟩
theorem un_send {d : Dev} {line first : Int} {ws : List Int} (h : Un d) (hl : inL d line) (hf : 0 ≤ first ∧ first + (ws.length : Int) ≤ 8) : (sendD d line first ws).1 = 0 ∧ Un (sendD d line first ws).2 ∧ (sendD d line first ws).2.steps = d.steps + (ws.length : Int) + 1 := by
  unfold inL at hl
  obtain ⟨a1, a2, a3⟩ := un_put (ws := ws) (k := 8 * line + first) h (by omega) (by omega)
  obtain ⟨b1, b2, b3⟩ := un_flush (k := line) a2 hl.1 (by rw [put_len]; exact hl.2)
  unfold sendD
  rw [if_pos a1]
  exact ⟨b1, b2, by rw [b3, a3]⟩
def Arm (d : Dev) (r : Nat) : Prop := d.armed = true ∧ d.left = (r : Int) ∧ d.off = decide (r = 0)
theorem octs_words8 {b : List Int} (hb : Bytes b) (hl : b.length = 64) : octs (wordsU b 8) = b := by
  rw [octs_words hb 8 (by omega), List.take_of_length_le (by omega)]
end Go.Proofs.Ytklhbaghbmndeaa.Pure
namespace Go.Proofs.Ytklhbaghbmndeaa
open Go Go.Xw
end Go.Proofs.Ytklhbaghbmndeaa
namespace Go.Proofs.Ytklhbaghbmndeaa.Pure
open Go Go.Xw
theorem Bytes.app {a b : List Int} (ha : Bytes a) (hb : Bytes b) : Bytes (a ++ b) := by
  intro x hx
  rcases List.mem_append.1 hx with h | h
  · exact ha x h
  · exact hb x h
theorem Bytes.rep (n : Nat) : Bytes (List.replicate n (0 : Int)) := by
  intro x hx
  obtain rfl := List.eq_of_mem_replicate hx
  omega
def summed (k t : Int) (body : List Int) : List Int := [k, t, 0, 0] ++ (body ++ List.replicate (56 - body.length) 0)
def sealed (s : List Int) : List Int := lay (crc s).toNat 4 ++ s
theorem summed_len {k t : Int} {body : List Int} (h : body.length ≤ 56) : (summed k t body).length = 60 := by
  simp [summed]
  omega
theorem summed_bytes {k t : Int} {body : List Int} (hk : 0 ≤ k ∧ k ≤ 255) (ht : 0 ≤ t ∧ t ≤ 255) (hb : Bytes body) : Bytes (summed k t body) := by
  refine Bytes.app ?_ (Bytes.app hb (Bytes.rep _))
  intro x hx
  simp only [List.mem_cons, List.not_mem_nil, or_false] at hx
  rcases hx with rfl | rfl | rfl | rfl <;> omega
theorem sealed_len {s : List Int} (h : s.length = 60) : (sealed s).length = 64 := by
  simp [sealed, lay_len, h]
theorem sealed_bytes {s : List Int} (h : Bytes s) : Bytes (sealed s) := Bytes.app (lay_bytes _ _) h
theorem x2_eq (k t : Int) : List.set (List.set (List.replicate (Int.toNat 64) (0 : Int)) (Int.toNat 4) k) (Int.toNat 5) t = [0, 0, 0, 0, k, t, 0, 0] ++ List.replicate 56 (0 : Int) := rfl
theorem x3_eq {k t : Int} {body : List Int} (h : body.length ≤ 56) : splL ([0, 0, 0, 0, k, t, 0, 0] ++ List.replicate 56 (0 : Int)) (Int.toNat 8) (List.take (List.length ([0, 0, 0, 0, k, t, 0, 0] ++ List.replicate 56 (0 : Int)) - Int.toNat 8) body) = [0, 0, 0, 0] ++ summed k t body := by
  have e : List.take (List.length ([0, 0, 0, 0, k, t, 0, 0] ++ List.replicate 56 (0 : Int)) - Int.toNat 8) body = body := List.take_of_length_le (by simpa using h)
  rw [e]
  have e2 : List.drop (8 + body.length) ([0, 0, 0, 0, k, t, 0, 0] ++ List.replicate 56 (0 : Int)) = List.replicate (56 - body.length) 0 := by
    have h8 : ([0, 0, 0, 0, k, t, 0, 0] : List Int).length = 8 := rfl
    rw [List.drop_append, List.drop_eq_nil_of_le (by rw [h8]; omega), List.nil_append, h8, List.drop_replicate]
    congr 1
    omega
  unfold splL summed
  rw [show (Int.toNat 8) = 8 from rfl, e2]
  simp
theorem lay4_eq {fu : Nat} (x : BitVec 32) (hf : 8 < fu) : octet_Lay.f fu (IntKind.u64.wrap (I32 x)) 4 = some (lay x.toNat 4) := by
  have hb := I32_lt x
  rw [wu64 hb.1 (by omega)]
  exact olay_eq (n := 4) (by decide) (by omega)
theorem seal_eq {fu : Nat} {k t : Int} {body : List Int} (hb : Bytes body) (hk : 1 ≤ k ∧ k ≤ 255) (ht : 0 ≤ t ∧ t ≤ 255) (hl : body.length ≤ 56) (hf : 100 < fu) : block_Seal.f fu k t body = some (sealed (summed k t body), true) := by
  have hs := summed_len (k := k) (t := t) hl
  have hsb := summed_bytes ⟨by omega, hk.2⟩ ht hb
  unfold block_Seal.f
  rw [wu8 (by omega : 0 ≤ k) hk.2, wu8 ht.1 ht.2]
  have c0 : (if (decide (k < 1)) = true then true else (if (decide (k ≥ 256)) = true then true else (if (decide (t < 0)) = true then true else (if (decide (t ≥ 256)) = true then true else (decide ((List.length body : Int) > 56)))))) = false := by
    have h1 : ¬ k < 1 := by omega
    have h2 : ¬ k ≥ 256 := by omega
    have h3 : ¬ t < 0 := by omega
    have h4 : ¬ t ≥ 256 := by omega
    have h5 : ¬ (List.length body : Int) > 56 := by omega
    simp [h1, h2, h3, h4, h5]
  rw [c0]
  simp only [x2_eq, x3_eq hl]
  have e1 : cut ([0, 0, 0, 0] ++ summed k t body) 4 (List.length ([0, 0, 0, 0] ++ summed k t body) : Int) = summed k t body := by
    unfold cut
    rw [Int.toNat_natCast, List.take_length]
    rfl
  have e2 : ∀ v, splL ([0, 0, 0, 0] ++ summed k t body) 0 (List.take (List.length ([0, 0, 0, 0] ++ summed k t body)) (lay v 4)) = lay v 4 ++ summed k t body := by
    intro v
    rw [List.take_of_length_le (by simp [lay_len])]
    unfold splL
    simp [lay_len]
  simp only [e1, e2, sum_eq (fu := fu) hsb (by omega) (by omega), Option.bind_some, lay4_eq (fu := fu) _ (by omega)]
  simp [hs, sealed]
theorem there_eq {fu : Nat} {b : List Int} {i n : Nat} (hl : b.length ≤ 9000000000000000000) (h : i + n ≤ b.length) : octet_there.f fu b (i : Int) (n : Int) = some true := by
  unfold octet_there.f
  have h1 : (i : Int) ≥ 0 := by omega
  have h2 : (n : Int) ≥ 0 := by omega
  have h3 : (n : Int) ≤ (b.length : Int) := by omega
  have h4 : IntKind.i64.wrap ((b.length : Int) - (n : Int)) = (b.length : Int) - (n : Int) := w64 (by omega) (by omega)
  have h5 : (i : Int) ≤ (b.length : Int) - (n : Int) := by omega
  simp [h1, h2, h3, h4, h5]
theorem noughts_from {fu : Nat} (b : List Int) (x n : Int) {C : List Int} (hC : cut b x (IntKind.i64.wrap (x + n)) = C) (hl : C.length ≤ 9000000000000000000) : ∀ k m, m ≤ C.length → C.length - m < k → loopM (octet_Noughts.s0 fu b x n) k (m : Int) = some (if ∀ y ∈ C.drop m, y = 0 then .inr () else .inl false)
  | 0, m, _, hk => by omega
  | k + 1, m, hm, hk => by
    unfold loopM
    by_cases e : m = C.length
    · subst e
      have : octet_Noughts.s0 fu b x n (C.length : Int) = some (.inl (.inr ())) := by
        unfold octet_Noughts.s0
        rw [hC]
        simp
      rw [this]
      simp
    · have hlt : m < C.length := by omega
      have hx : ix C (m : Int) = C[m] := ix_nat hlt
      rw [List.drop_eq_getElem_cons hlt]
      have h1 : (m : Int) < (C.length : Int) := by omega
      by_cases hn : C[m] = 0
      · have w3 : IntKind.i64.wrap ((m : Int) + 1) = ((m + 1 : Nat) : Int) := by rw [w64 (by omega) (by omega)]; omega
        have : octet_Noughts.s0 fu b x n (m : Int) = some (.inr ((m + 1 : Nat) : Int)) := by
          unfold octet_Noughts.s0
          rw [hC]
          simp [h1, hx, hn, w3, hlt]
        rw [this]
        simp only
        rw [noughts_from b x n hC hl k (m + 1) (by omega) (by omega)]
        have e3 : (∀ y ∈ C[m] :: C.drop (m + 1), y = 0) ↔ ∀ y ∈ C.drop (m + 1), y = 0 := by
          constructor
          · intro h y hy
            exact h y (List.mem_cons_of_mem _ hy)
          · intro h y hy
            rcases List.mem_cons.1 hy with rfl | hy
            · exact hn
            · exact h y hy
        simp only [e3]
      · have : octet_Noughts.s0 fu b x n (m : Int) = some (.inl (.inl false)) := by
          unfold octet_Noughts.s0
          rw [hC]
          simp [h1, hx, hn, hlt]
        rw [this]
        have e3 : ¬ (∀ y ∈ C[m] :: C.drop (m + 1), y = 0) := fun h => hn (h _ (List.mem_cons_self ..))
        simp only [e3, if_false]
theorem noughts_eq {fu : Nat} {b : List Int} {i n : Nat} (hl : b.length ≤ 9000000000000000000) (h : i + n ≤ b.length) (hf : n < fu) : octet_Noughts.f fu b (i : Int) (n : Int) = some (decide (∀ y ∈ (b.drop i).take n, y = 0)) := by
  unfold octet_Noughts.f
  rw [there_eq hl h]
  have w1 : IntKind.i64.wrap ((i : Int) + (n : Int)) = ((i + n : Nat) : Int) := by rw [w64 (by omega) (by omega)]; omega
  have hC : cut b (i : Int) (IntKind.i64.wrap ((i : Int) + (n : Int))) = (b.drop i).take n := by
    rw [w1]
    unfold cut
    rw [Int.toNat_natCast, Int.toNat_natCast, List.drop_take]
    congr 1
    omega
  have hlen : ((b.drop i).take n).length = n := by
    rw [List.length_take, List.length_drop]
    omega
  have := noughts_from (fu := fu) b (i : Int) (n : Int) hC (by omega) fu 0 (by omega) (by omega)
  rw [Int.natCast_zero, List.drop_zero] at this
  have c1 : 0 ≤ (i : Int) ∧ (i : Int) ≤ IntKind.i64.wrap ((i : Int) + (n : Int)) ∧ IntKind.i64.wrap ((i : Int) + (n : Int)) ≤ (b.length : Int) := by
    rw [w1]
    omega
  simp only [Option.bind_some, Bool.not_true, Bool.false_eq_true, if_false]
  rw [if_pos c1, this]
  by_cases hz : ∀ y ∈ (b.drop i).take n, y = 0
  · rw [if_pos hz]
    simp only [Option.bind_some, decide_eq_true hz]
  · rw [if_neg hz]
    simp only [Option.bind_some, decide_eq_false hz]
def Is (b : List Int) : Prop := b.length = 64 ∧ ix b 4 ≠ 0 ∧ b = sealed (summed (ix b 4) (ix b 5) (b.drop 8))
instance (b : List Int) : Decidable (Is b) := inferInstanceAs (Decidable (_ ∧ _))
theorem parts {b : List Int} (h : b.length = 64) : b = b.take 4 ++ ([ix b 4, ix b 5, ix b 6, ix b 7] ++ b.drop 8) := by
  have e : b.drop 4 = [ix b 4, ix b 5, ix b 6, ix b 7] ++ b.drop 8 := by
    have g : ∀ j : Nat, j < 64 → b.drop j = ix b (j : Int) :: b.drop (j + 1) := by
      intro j hj
      rw [List.drop_eq_getElem_cons (by omega), ix_nat (by omega)]
    rw [g 4 (by omega), g 5 (by omega), g 6 (by omega), g 7 (by omega)]
    rfl
  rw [← e, List.take_append_drop]
theorem gap_eq {b : List Int} (h : b.length = 64) : (b.drop 6).take 2 = [ix b 6, ix b 7] := by
  have g : ∀ j : Nat, j < 64 → b.drop j = ix b (j : Int) :: b.drop (j + 1) := by
    intro j hj
    rw [List.drop_eq_getElem_cons (by omega), ix_nat (by omega)]
  rw [g 6 (by omega), g 7 (by omega)]
  rfl
theorem drop4 {b : List Int} (h : b.length = 64) : b.drop 4 = [ix b 4, ix b 5, ix b 6, ix b 7] ++ b.drop 8 := by
  have g : ∀ j : Nat, j < 64 → b.drop j = ix b (j : Int) :: b.drop (j + 1) := by
    intro j hj
    rw [List.drop_eq_getElem_cons (by omega), ix_nat (by omega)]
  rw [g 4 (by omega), g 5 (by omega), g 6 (by omega), g 7 (by omega)]
  rfl
theorem summed_full (k t : Int) {body : List Int} (h : body.length = 56) : summed k t body = [k, t, 0, 0] ++ body := by
  unfold summed
  rw [h]
  simp
theorem is_iff {b : List Int} (hb : Bytes b) (h : b.length = 64) : b = sealed (summed (ix b 4) (ix b 5) (b.drop 8)) ↔ (ix b 6 = 0 ∧ ix b 7 = 0) ∧ num (b.take 4) = (crc (b.drop 4)).toNat := by
  have h8 : (b.drop 8).length = 56 := by rw [List.length_drop, h]
  have h4 : (b.take 4).length = 4 := by rw [List.length_take, h]; rfl
  rw [summed_full _ _ h8]
  constructor
  · intro e
    have e2 : b.take 4 ++ b.drop 4 = lay (crc ([ix b 4, ix b 5, 0, 0] ++ b.drop 8)).toNat 4 ++ ([ix b 4, ix b 5, 0, 0] ++ b.drop 8) := by
      rw [List.take_append_drop]
      exact e
    obtain ⟨e3, e4⟩ := List.append_inj e2 (by rw [h4, lay_len])
    have e5 := e4
    rw [drop4 h] at e5
    have e6 := List.append_inj_left e5 rfl
    simp only [List.cons.injEq, and_true, true_and] at e6
    refine ⟨e6, ?_⟩
    rw [e3, e4, num_lay]
    exact Nat.mod_eq_of_lt (crc _).isLt
  · rintro ⟨⟨h6, h7⟩, hn⟩
    have e4 : b.drop 4 = [ix b 4, ix b 5, 0, 0] ++ b.drop 8 := by
      have := drop4 h
      rw [h6, h7] at this
      exact this
    unfold sealed
    rw [← e4, ← hn]
    have := lay_num (hb.take 4)
    rw [h4] at this
    rw [this, List.take_append_drop]
theorem right_is {fu : Nat} {b : List Int} (hb : Bytes b) (hl : b.length ≤ 9000000000000000000) (hf : 100 < fu) : block_right.f fu b = some (decide (Is b)) := by
  unfold block_right.f
  by_cases h : b.length = 64
  · have hL : (b.length : Int) = 64 := by omega
    by_cases h4 : ix b 4 = 0
    · simp [hL, h4, Is]
    · have hn : octet_Noughts.f fu b 6 2 = some (decide (∀ y ∈ (b.drop 6).take 2, y = 0)) := noughts_eq (i := 6) (n := 2) hl (by omega) (by omega)
      have hg : (∀ y ∈ (b.drop 6).take 2, y = 0) ↔ ix b 6 = 0 ∧ ix b 7 = 0 := by
        rw [gap_eq h]
        simp
      by_cases hz : ix b 6 = 0 ∧ ix b 7 = 0
      · have c1 : cut b 0 4 = b.take 4 := by
          unfold cut
          rfl
        have c2 : cut b 4 (b.length : Int) = b.drop 4 := by
          unfold cut
          rw [Int.toNat_natCast, List.take_length]
          rfl
        have h4' : (b.take 4).length = 4 := by rw [List.length_take, h]; rfl
        have hr : octet_Read.f fu (b.take 4) = some ((num (b.take 4) : Nat) : Int) := read_eq (hb.take 4) (by omega) (by omega)
        have hlt : num (b.take 4) < 4294967296 := by
          have := num_lt (hb.take 4)
          rwa [h4'] at this
        have hd : (b.drop 4).length = 60 := by rw [List.length_drop, h]
        have hs : crc_Sum.f fu [b.drop 4] = some (I32 (crc (b.drop 4))) := sum_eq (hb.drop 4) (by omega) (by omega)
        have hw : IntKind.u32.wrap ((num (b.take 4) : Nat) : Int) = ((num (b.take 4) : Nat) : Int) := wu32 (by omega) (by omega)
        have hi : Is b ↔ num (b.take 4) = (crc (b.drop 4)).toNat := by
          unfold Is
          rw [is_iff hb h]
          exact ⟨fun x => x.2.2.2, fun x => ⟨h, h4, hz, x⟩⟩
        have hq : (I32 (crc (b.drop 4)) = ((num (b.take 4) : Nat) : Int)) ↔ Is b := by
          rw [hi]
          unfold I32
          omega
        unfold crc_Fits.f
        rw [hn, decide_eq_true (hg.2 hz), c1, c2, hr]
        simp only [Option.bind_some, hw, hs, hq]
        have hL5 : (4 : Int) < (b.length : Int) := by omega
        have hL6 : (4 : Int) ≤ (b.length : Int) := by omega
        simp [hL, h4]
      · have hi : ¬ Is b := by
          intro x
          unfold Is at x
          rw [is_iff hb h] at x
          exact hz x.2.2.1
        rw [hn, decide_eq_false (fun x => hz (hg.1 x))]
        simp [hL, h4, hi]
  · have hi : ¬ Is b := fun x => h x.1
    have hL : ¬ (b.length : Int) = 64 := by omega
    simp [hL, hi]
theorem open_eq {fu : Nat} {b : List Int} (hb : Bytes b) (hl : b.length ≤ 9000000000000000000) (hf : 100 < fu) : block_Open.f fu b = some (if Is b then (ix b 4, ix b 5, b.drop 8, true) else (0, 0, [], false)) := by
  unfold block_Open.f
  rw [right_is hb hl hf]
  by_cases h : Is b
  · have h0 := h.1
    have c2 : cut b 8 (b.length : Int) = b.drop 8 := by
      unfold cut
      rw [Int.toNat_natCast, List.take_length]
      rfl
    have hc : bytes_Clone.f fu (b.drop 8) = some (b.drop 8) := by
      unfold bytes_Clone.f
      rw [if_pos]
      rw [List.length_drop, h0]
      decide
    have h4 : 0 ≤ ix b 4 ∧ ix b 4 ≤ 255 := by
      have := ix_nat (l := b) (j := 4) (by omega)
      rw [show ((4 : Nat) : Int) = 4 from rfl] at this
      rw [this]
      exact hb _ (List.getElem_mem _)
    have h5 : 0 ≤ ix b 5 ∧ ix b 5 ≤ 255 := by
      have := ix_nat (l := b) (j := 5) (by omega)
      rw [show ((5 : Nat) : Int) = 5 from rfl] at this
      rw [this]
      exact hb _ (List.getElem_mem _)
    have w4 : IntKind.i64.wrap (ix b 4) = ix b 4 := w64 (by omega) (by omega)
    have w5 : IntKind.i64.wrap (ix b 5) = ix b 5 := w64 (by omega) (by omega)
    simp only [c2, hc, w4, w5]
    simp [h, h0]
  · simp [h]
theorem sealed_parts (k t : Int) (body : List Int) : ix (sealed (summed k t body)) 4 = k ∧ ix (sealed (summed k t body)) 5 = t ∧ (sealed (summed k t body)).drop 8 = body ++ List.replicate (56 - body.length) 0 := by
  unfold sealed
  obtain ⟨a, b, c, d, e⟩ : ∃ a b c d, lay (crc (summed k t body)).toNat 4 = [a, b, c, d] := ⟨_, _, _, _, rfl⟩
  rw [e]
  exact ⟨rfl, rfl, rfl⟩
theorem fulled (body : List Int) (h : body.length ≤ 56) : (body ++ List.replicate (56 - body.length) (0 : Int)).length = 56 := by
  simp
  omega
theorem is_sealed {k t : Int} {body : List Int} (hk : k ≠ 0) (hl : body.length ≤ 56) : Is (sealed (summed k t body)) := by
  obtain ⟨h4, h5, h8⟩ := sealed_parts k t body
  refine ⟨sealed_len (summed_len hl), by rw [h4]; exact hk, ?_⟩
  rw [h4, h5, h8, summed_full k t (fulled body hl)]
  rfl
theorem ix_byte {b : List Int} (hb : Bytes b) (j : Nat) (h : j < b.length) : 0 ≤ ix b (j : Int) ∧ ix b (j : Int) ≤ 255 := by
  rw [ix_nat h]
  exact hb _ (List.getElem_mem _)
theorem is_tag {b : List Int} (hb : Bytes b) (hi : Is b) : (0 ≤ ix b 4 ∧ ix b 4 ≤ 255) ∧ (0 ≤ ix b 5 ∧ ix b 5 ≤ 255) := by
  have h0 := hi.1
  exact ⟨ix_byte hb 4 (by omega), ix_byte hb 5 (by omega)⟩
theorem is_body {b : List Int} (hi : Is b) : (b.drop 8).length = 56 := by rw [List.length_drop, hi.1]
end Go.Proofs.Ytklhbaghbmndeaa.Pure
namespace Go.Proofs.Ytklhbaghbmndeaa
open Go Go.Xw
end Go.Proofs.Ytklhbaghbmndeaa
namespace Go.Proofs.Ytklhbaghbmndeaa.Pure
open Go Go.Xw
def u64n (x : Int) : Nat := (x % 18446744073709551616).toNat
theorem u64_wrap (x : Int) : IntKind.u64.wrap x = (u64n x : Int) := by
  unfold u64n IntKind.wrap
  simp only [IntKind.signed, IntKind.bits]
  simp
  omega
theorem u64n_of {x : Int} (h0 : 0 ≤ x) (h1 : x ≤ 18446744073709551615) : u64n x = x.toNat := by
  unfold u64n
  rw [Int.emod_eq_of_lt h0 (by omega)]
theorem olay64 {fu n : Nat} {x : Int} (hn : n ≤ 8) (hf : n < fu) : octet_Lay.f fu (IntKind.u64.wrap x) (n : Int) = some (lay (u64n x) n) := by
  rw [u64_wrap]
  exact olay_eq hn hf
def fieldAt (l : List Int) (w i : Nat) : List Int := (l.drop (w * i)).take w
theorem flat_len {α : Type} {g : Nat → List α} {w : Nat} (hg : ∀ i, (g i).length = w) : ∀ n, ((List.range n).flatMap g).length = w * n
  | 0 => by simp
  | n + 1 => by
    rw [List.range_succ, List.flatMap_append, List.length_append, flat_len hg n]
    simp [hg, Nat.mul_succ]
theorem flat_succ {α : Type} (g : Nat → List α) (n : Nat) : (List.range (n + 1)).flatMap g = (List.range n).flatMap g ++ g n := by
  rw [List.range_succ, List.flatMap_append]
  simp
theorem flat_field {g : Nat → List Int} {w : Nat} (hg : ∀ i, (g i).length = w) {n i : Nat} (hi : i < n) (t : List Int) : fieldAt ((List.range n).flatMap g ++ t) w i = g i := by
  have e : (List.range n).flatMap g = (List.range i).flatMap g ++ (g i ++ ((List.range (n - i - 1)).map (i + 1 + ·)).flatMap g) := by
    have h1 : n = i + (1 + (n - i - 1)) := by omega
    conv => lhs; rw [h1]
    rw [List.range_add, List.flatMap_append, List.range_add, List.map_append, List.flatMap_append]
    congr 1
    simp [List.map_map, Function.comp_def, Nat.add_assoc]
  unfold fieldAt
  rw [e, List.append_assoc, List.drop_left' (flat_len hg i), List.append_assoc, List.take_left' (hg i)]
theorem flat_congr {α : Type} {g k : Nat → List α} {n : Nat} (h : ∀ i, i < n → g i = k i) : (List.range n).flatMap g = (List.range n).flatMap k := by
  induction n with
  | zero => rfl
  | succ n ih => rw [flat_succ, flat_succ, ih fun i hi => h i (by omega), h n (by omega)]
theorem flat_bytes {g : Nat → List Int} (hg : ∀ i, Bytes (g i)) (n : Nat) : Bytes ((List.range n).flatMap g) := by
  intro x hx
  obtain ⟨i, _, h⟩ := List.mem_flatMap.1 hx
  exact hg i x h
end Go.Proofs.Ytklhbaghbmndeaa.Pure
namespace Go.Proofs.Ytklhbaghbmndeaa
open Go Go.Xw
end Go.Proofs.Ytklhbaghbmndeaa
namespace Go.Proofs.Ytklhbaghbmndeaa.Pure
open Go Go.Xw
theorem ix_ext {a b : List Int} (hl : a.length = b.length) (h : ∀ j, j < a.length → ix a (j : Int) = ix b (j : Int)) : a = b := by
  apply List.ext_getElem hl
  intro i h1 h2
  rw [← ix_nat h1, ← ix_nat h2]
  exact h i h1
theorem ints2_eq {fu : Nat} {a b : List Int} (ha : a.length ≤ 9000000000000000000) (hf : a.length < fu) : rickyardref01_Ints.f fu a b = some (decide (a = b)) := by
  unfold rickyardref01_Ints.f
  by_cases hl : a.length = b.length
  · have hL : (a.length : Int) = (b.length : Int) := by omega
    rw [decide_eq_true hL]
    simp only [Bool.not_true, Bool.false_eq_true, if_false]
    have hs : ∀ j : Nat, j < a.length → rickyardref01_Ints.s0 fu a b (j : Int) = some (if ix a (j : Int) = ix b (j : Int) then .inr ((j + 1 : Nat) : Int) else .inl (.inl false)) := by
      intro j hj
      unfold rickyardref01_Ints.s0
      have h1 : (j : Int) < (a.length : Int) := by omega
      have h2 : (j : Int) < (b.length : Int) := by omega
      have c0 : 0 ≤ (j : Int) := by omega
      have w3 : IntKind.i64.wrap ((j : Int) + 1) = ((j + 1 : Nat) : Int) := by rw [w64 (by omega) (by omega)]; omega
      simp only [h1, h2, c0, and_self, decide_true, if_true, w3]
      by_cases e : ix a (j : Int) = ix b (j : Int) <;> simp [e]
    by_cases h : a = b
    · have : loopM (rickyardref01_Ints.s0 fu a b) fu 0 = some (.inr ()) := by
        refine loopM_run (S := fun j => (j : Int)) a.length rfl (fun j hj => by rw [hs j hj, if_pos (by rw [h])]) ?_ hf
        unfold rickyardref01_Ints.s0
        simp
      rw [this]
      simp [h]
    · have : loopM (rickyardref01_Ints.s0 fu a b) fu 0 = some (.inl false) := by
        refine loopM_bad (S := fun j => (j : Int)) a.length (fun j => ix a (j : Int) = ix b (j : Int)) rfl ?_ (fun j hj _ hg => by rw [hs j hj, if_pos hg]) (fun j hj _ hg => by rw [hs j hj, if_neg hg]) hf
        apply Classical.byContradiction
        intro hx
        exact h (ix_ext hl fun i hi => Classical.byContradiction fun hg => hx ⟨i, hi, hg⟩)
      rw [this]
      simp [h]
  · have hL : ¬ (a.length : Int) = (b.length : Int) := by omega
    have h : ¬ a = b := fun e => hl (by rw [e])
    rw [decide_eq_false hL, decide_eq_false h]
    rfl
def rowE (l : List Int) (n : Nat) : List Int := (List.range n).flatMap fun (i : Nat) => lay (u64n (ix l (i : Int))) 2
theorem rowE_len (l : List Int) (n : Nat) : (rowE l n).length = 2 * n := flat_len (fun i => lay_len _ _) n
theorem rowE_bytes (l : List Int) (n : Nat) : Bytes (rowE l n) := flat_bytes (fun i => lay_bytes _ _) n
theorem lim_of' {a b : Nat} (h : a + b ≤ 1000) : a + b ≤ LIM := by
  have : (1000 : Nat) ≤ LIM := by decide
  omega
def part (l : List Int) (i n : Nat) : List Int := (l.drop i).take n
theorem part_len {l : List Int} {i n : Nat} (h : i + n ≤ l.length) : (part l i n).length = n := by
  unfold part
  rw [List.length_take, List.length_drop]
  omega
theorem part_bytes {l : List Int} (hb : Bytes l) (i n : Nat) : Bytes (part l i n) := (hb.drop i).take n
def intAt (l : List Int) (i n : Nat) : Int := IntKind.i64.wrap ((num (part l i n) : Nat) : Int)
theorem ix_map {f : Nat → Int} {t i : Nat} (h : i < t) : ix ((List.range t).map f) (i : Int) = f i := by
  rw [ix_nat (by simpa using h)]
  simp
end Go.Proofs.Ytklhbaghbmndeaa.Pure
namespace Go.Proofs.Ytklhbaghbmndeaa
open Go Go.Xw
end Go.Proofs.Ytklhbaghbmndeaa
namespace Go.Proofs.Ytklhbaghbmndeaa.Pure
open Go Go.Xw
theorem contains_eq {fu : Nat} {l : List Int} {x : Int} (hl : l.length ≤ 9000000000000000000) (hf : l.length < fu) : slices_Contains_2.f fu l x = some (decide (x ∈ l)) := by
  unfold slices_Contains_2.f
  have hs : ∀ j : Nat, j < l.length → slices_Index_2.s0 fu l x (j : Int) = some (if x ≠ ix l (j : Int) then .inr ((j + 1 : Nat) : Int) else .inl (.inl (j : Int))) := by
    intro j hj
    unfold slices_Index_2.s0
    have h1 : (j : Int) < (l.length : Int) := by omega
    have c0 : 0 ≤ (j : Int) := by omega
    have w3 : IntKind.i64.wrap ((j : Int) + 1) = ((j + 1 : Nat) : Int) := by rw [w64 (by omega) (by omega)]; omega
    simp only [h1, c0, and_self, decide_true, if_true, w3]
    by_cases e : x = ix l (j : Int) <;> simp [e]
  have hi : ∃ r : Int, slices_Index_2.f fu l x = some r ∧ (r ≥ 0 ↔ x ∈ l) := by
    unfold slices_Index_2.f
    by_cases hk : x ∈ l
    · have hmin : ∀ m j, j ≤ m → (j < l.length ∧ x = ix l (j : Int)) → ∃ q, (q < l.length ∧ x = ix l (q : Int)) ∧ ∀ i, i < q → x ≠ ix l (i : Int) := by
        intro m
        induction m with
        | zero =>
          intro j hj hjj
          exact ⟨j, hjj, fun i hi => by omega⟩
        | succ m ih =>
          intro j hj hjj
          by_cases hx : ∃ i, i < j ∧ x = ix l (i : Int)
          · obtain ⟨i, hi, hgi⟩ := hx
            exact ih i (by omega) ⟨by omega, hgi⟩
          · exact ⟨j, hjj, fun i hi hg => hx ⟨i, hi, hg⟩⟩
      obtain ⟨j, hj, hjx⟩ := List.getElem_of_mem hk
      obtain ⟨q, ⟨hq, hg⟩, hall⟩ := hmin j j (Nat.le_refl _) ⟨hj, by rw [ix_nat hj, hjx]⟩
      have : loopM (slices_Index_2.s0 fu l x) fu 0 = some (.inl (q : Int)) :=
        loopM_run (S := fun j => (j : Int)) q rfl (fun i hi => by rw [hs i (by omega), if_pos (hall i hi)]) (by rw [hs q hq, if_neg (fun h => h hg)]) (by omega)
      rw [this]
      refine ⟨(q : Int), rfl, ?_⟩
      simp only [hk, iff_true]
      omega
    · have : loopM (slices_Index_2.s0 fu l x) fu 0 = some (.inr ()) := by
        refine loopM_run (S := fun j => (j : Int)) l.length rfl (fun j hj => ?_) ?_ hf
        · rw [hs j hj, if_pos]
          intro e
          rw [ix_nat hj] at e
          exact hk (by rw [e]; exact List.getElem_mem hj)
        · unfold slices_Index_2.s0
          simp
      rw [this]
      exact ⟨-1, rfl, by simp [hk]⟩
  obtain ⟨r, hr, hrk⟩ := hi
  rw [hr]
  exact congrArg some (decide_eq_decide.2 hrk)
def geoOk (g : S_api_Geometry) : Prop := (16 ≤ g.Blocks ∧ g.Blocks ≤ 3072) ∧ (1 ≤ g.Slots ∧ g.Slots ≤ 1792) ∧ (1 ≤ g.Gens ∧ g.Gens ≤ 4294967295)
instance (g : S_api_Geometry) : Decidable (geoOk g) := inferInstanceAs (Decidable (_ ∧ _))
theorem geo_form (g : S_api_Geometry) : (if (decide (g.Blocks ≥ 16)) = true then (if (decide (g.Blocks ≤ 3072)) = true then (if (decide (g.Slots ≥ 1)) = true then (if (decide (g.Slots ≤ 1792)) = true then (if (decide (g.Gens ≥ 1)) = true then (decide (g.Gens ≤ 4294967295)) else false) else false) else false) else false) else false) = decide (geoOk g) := by
  rw [Bool.eq_iff_iff]
  unfold geoOk
  simp only [decide_eq_true_eq, ge_iff_le]
  by_cases c1 : 16 ≤ g.Blocks
  · by_cases c2 : g.Blocks ≤ 3072
    · by_cases c3 : 1 ≤ g.Slots
      · by_cases c4 : g.Slots ≤ 1792
        · by_cases c5 : 1 ≤ g.Gens <;> simp [c1, c2, c3, c4, c5]
        · simp [c1, c2, c3, c4]
      · simp [c1, c2, c3]
    · simp [c1, c2]
  · simp [c1]
theorem geom_eq (fu : Nat) (g : S_api_Geometry) : geom_Right.f fu g = some (decide (geoOk g)) := congrArg some (geo_form g)
theorem rgeom_eq (fu : Nat) (g : S_api_Geometry) : rickyardref12_Right.f fu g = some (decide (geoOk g)) := congrArg some (geo_form g)
def chartsN (g : S_api_Geometry) : Int := (g.Blocks + 383) / 384
theorem charts_eq {fu : Nat} {g : S_api_Geometry} (h : geoOk g) : geom_Charts.f fu g = some (chartsN g) := by
  unfold geom_Charts.f geom_up.f
  rw [geom_eq, decide_eq_true h]
  unfold geoOk at h
  have w1 : IntKind.i64.wrap (g.Blocks + 384) = g.Blocks + 384 := w64 (by omega) (by omega)
  have w2 : IntKind.i64.wrap (g.Blocks + 384 - 1) = g.Blocks + 383 := by rw [w64 (by omega) (by omega)]; omega
  have e1 : Int.tdiv (g.Blocks + 383) 384 = (g.Blocks + 383) / 384 := Int.tdiv_eq_ediv_of_nonneg (by omega)
  have w3 : IntKind.i64.wrap ((g.Blocks + 383) / 384) = (g.Blocks + 383) / 384 := w64 (by omega) (by omega)
  simp [w1, w2, e1, w3, chartsN]
theorem rcharts_eq {fu : Nat} {g : S_api_Geometry} (h : geoOk g) (hf : 100 < fu) : rickyardref12_Charts.f fu g = some (chartsN g) := by
  unfold rickyardref12_Charts.f rickyardref12_Need.f
  unfold geoOk at h
  obtain ⟨n, hn⟩ : ∃ n : Nat, chartsN g = (n : Int) := ⟨(chartsN g).toNat, by unfold chartsN; omega⟩
  have hn' := hn
  unfold chartsN at hn'
  have : loopM (rickyardref12_Need.s0 fu g.Blocks 384) fu 0 = some (n : Int) := by
    refine loopM_run (S := fun j => (j : Int)) n rfl (fun j hj => ?_) ?_ (by omega)
    · unfold rickyardref12_Need.s0
      have w1 : IntKind.i64.wrap ((j : Int) * 384) = (j : Int) * 384 := w64 (by omega) (by omega)
      have w3 : IntKind.i64.wrap ((j : Int) + 1) = ((j + 1 : Nat) : Int) := by rw [w64 (by omega) (by omega)]; omega
      have h1 : (j : Int) * 384 < g.Blocks := by omega
      simp only [w1, w3, h1, decide_true, if_true]
    · unfold rickyardref12_Need.s0
      have w1 : IntKind.i64.wrap ((n : Int) * 384) = (n : Int) * 384 := w64 (by omega) (by omega)
      have h1 : ¬ (n : Int) * 384 < g.Blocks := by omega
      simp only [w1, h1, decide_false, Bool.false_eq_true, if_false]
  rw [this, hn]
  rfl
def inB (s : S_api_Super) (x : Int) : Prop := 2 ≤ x ∧ x < s.Tickets.Geometry.Blocks
instance (s : S_api_Super) (x : Int) : Decidable (inB s x) := inferInstanceAs (Decidable (_ ∧ _))
def supA (s : S_api_Super) : Prop := (1 ≤ s.Epoch ∧ s.Epoch ≤ 4611686018427387904) ∧ geoOk s.Tickets.Geometry
instance (s : S_api_Super) : Decidable (supA s) := inferInstanceAs (Decidable (_ ∧ _))
def supB (s : S_api_Super) : Prop := (0 ≤ s.Tickets.High ∧ s.Tickets.High ≤ s.Tickets.Geometry.Slots) ∧ (0 ≤ s.Tickets.Free ∧ s.Tickets.Free ≤ s.Tickets.High)
instance (s : S_api_Super) : Decidable (supB s) := inferInstanceAs (Decidable (_ ∧ _))
def topOk (s : S_api_Super) : Prop := (s.Tickets.High = 0 → s.Tickets.Top = 0) ∧ (s.Tickets.High ≠ 0 → inB s s.Tickets.Top)
instance (s : S_api_Super) : Decidable (topOk s) := inferInstanceAs (Decidable (_ ∧ _))
def dirOk (s : S_api_Super) : Prop := s.Dir ≠ 0 → inB s s.Dir
instance (s : S_api_Super) : Decidable (dirOk s) := inferInstanceAs (Decidable (_ → _))
def apartC (l : List Int) : Prop := ∀ j, j < l.length → ix l (j : Int) ∉ l.take j
instance (l : List Int) : Decidable (apartC l) := inferInstanceAs (Decidable (∀ j, j < l.length → _))
def insC (s : S_api_Super) : Prop := ∀ j, j < s.Charts.length → inB s (ix s.Charts (j : Int))
instance (s : S_api_Super) : Decidable (insC s) := inferInstanceAs (Decidable (∀ j, j < s.Charts.length → _))
def SupOk (s : S_api_Super) : Prop := supA s ∧ supB s ∧ topOk s ∧ dirOk s ∧ (s.Charts.length : Int) = chartsN s.Tickets.Geometry ∧ insC s ∧ apartC s.Charts
instance (s : S_api_Super) : Decidable (SupOk s) := inferInstanceAs (Decidable (_ ∧ _))
theorem SupOk.len {s : S_api_Super} (h : SupOk s) : s.Charts.length ≤ 8 ∧ 1 ≤ s.Charts.length := by
  have h1 := h.1.2
  have h2 := h.2.2.2.2.1
  unfold geoOk at h1
  unfold chartsN at h2
  omega
theorem in_eq (fu : Nat) (x : Int) (s : S_api_Super) : super_Right_1__c.f fu x s = some (decide (inB s x)) := by
  unfold super_Right_1__c.f inB
  by_cases h : 2 ≤ x <;> simp [h]
theorem sup_g1 (fu : Nat) (s : S_api_Super) : (if (decide (s.Epoch < 1)) = true then some (true) else (if (decide (s.Epoch > 4611686018427387904)) = true then some (true) else ((geom_Right.f fu s.Tickets.Geometry : Option Bool).bind fun t11 => (if (!t11) = true then some (true) else (if (decide (s.Tickets.High < 0)) = true then some (true) else (if (decide (s.Tickets.High > s.Tickets.Geometry.Slots)) = true then some (true) else (if (decide (s.Tickets.Free < 0)) = true then some (true) else some ((decide (s.Tickets.Free > s.Tickets.High)))))))))) = some (!decide (supA s ∧ supB s)) := by
  rw [geom_eq, Option.bind_some]
  by_cases hA : supA s
  · have hA' := hA
    unfold supA at hA'
    have c1 : ¬ s.Epoch < 1 := by omega
    have c2 : ¬ s.Epoch > 4611686018427387904 := by omega
    rw [decide_eq_false c1, decide_eq_false c2, decide_eq_true hA'.2]
    by_cases hB : supB s
    · have hB' := hB
      unfold supB at hB'
      have c3 : ¬ s.Tickets.High < 0 := by omega
      have c4 : ¬ s.Tickets.High > s.Tickets.Geometry.Slots := by omega
      have c5 : ¬ s.Tickets.Free < 0 := by omega
      have c6 : ¬ s.Tickets.Free > s.Tickets.High := by omega
      rw [decide_eq_false c3, decide_eq_false c4, decide_eq_false c5, decide_eq_false c6, decide_eq_true (⟨hA, hB⟩ : supA s ∧ supB s)]
      rfl
    · rw [decide_eq_false (fun x : supA s ∧ supB s => hB x.2)]
      unfold supB at hB
      by_cases c3 : s.Tickets.High < 0
      · rw [decide_eq_true c3]
        rfl
      · by_cases c4 : s.Tickets.High > s.Tickets.Geometry.Slots
        · rw [decide_eq_false c3, decide_eq_true c4]
          rfl
        · by_cases c5 : s.Tickets.Free < 0
          · rw [decide_eq_false c3, decide_eq_false c4, decide_eq_true c5]
            rfl
          · have c6 : s.Tickets.Free > s.Tickets.High := by omega
            rw [decide_eq_false c3, decide_eq_false c4, decide_eq_false c5, decide_eq_true c6]
            rfl
  · rw [decide_eq_false (fun x : supA s ∧ supB s => hA x.1)]
    unfold supA at hA
    by_cases c1 : s.Epoch < 1
    · rw [decide_eq_true c1]
      rfl
    · by_cases c2 : s.Epoch > 4611686018427387904
      · rw [decide_eq_false c1, decide_eq_true c2]
        rfl
      · have c3 : ¬ geoOk s.Tickets.Geometry := fun x => hA ⟨by omega, x⟩
        rw [decide_eq_false c1, decide_eq_false c2, decide_eq_false c3]
        rfl
def lenOk (s : S_api_Super) : Prop := (s.Charts.length : Int) = chartsN s.Tickets.Geometry
instance (s : S_api_Super) : Decidable (lenOk s) := inferInstanceAs (Decidable (_ = _))
theorem sup_loop {fu : Nat} {s : S_api_Super} (hl : s.Charts.length ≤ 50) (hf : 100 < fu) : loopM (super_Right.s0 fu s) fu 0 = some (if insC s ∧ apartC s.Charts then .inr () else .inl false) := by
  have hs : ∀ j : Nat, j < s.Charts.length → super_Right.s0 fu s (j : Int) = some (if inB s (ix s.Charts (j : Int)) ∧ ix s.Charts (j : Int) ∉ s.Charts.take j then .inr ((j + 1 : Nat) : Int) else .inl (.inl false)) := by
    intro j hj
    unfold super_Right.s0
    have h1 : (j : Int) < (s.Charts.length : Int) := by omega
    have h2 : (j : Int) ≤ (s.Charts.length : Int) := by omega
    have c0 : 0 ≤ (j : Int) := by omega
    have w3 : IntKind.i64.wrap ((j : Int) + 1) = ((j + 1 : Nat) : Int) := by rw [w64 (by omega) (by omega)]; omega
    have ec : cut s.Charts 0 (j : Int) = s.Charts.take j := by unfold cut; simp
    have hc : slices_Contains_2.f fu (s.Charts.take j) (ix s.Charts (j : Int)) = some (decide (ix s.Charts (j : Int) ∈ s.Charts.take j)) := contains_eq (by rw [List.length_take]; omega) (by rw [List.length_take]; omega)
    simp only [h1, h2, c0, and_self, decide_true, if_true, w3, in_eq, Option.bind_some, ec, hc]
    by_cases g1 : inB s (ix s.Charts (j : Int))
    · by_cases g2 : ix s.Charts (j : Int) ∈ s.Charts.take j <;> simp [g1, g2]
    · simp [g1]
  by_cases h : insC s ∧ apartC s.Charts
  · rw [if_pos h]
    refine loopM_run (S := fun j => (j : Int)) s.Charts.length rfl (fun j hj => by rw [hs j hj, if_pos ⟨h.1 j hj, h.2 j hj⟩]) ?_ (by omega)
    unfold super_Right.s0
    simp
  · rw [if_neg h]
    refine loopM_bad (S := fun j => (j : Int)) s.Charts.length (fun j => inB s (ix s.Charts (j : Int)) ∧ ix s.Charts (j : Int) ∉ s.Charts.take j) rfl ?_ (fun j hj _ hg => by rw [hs j hj, if_pos hg]) (fun j hj _ hg => by rw [hs j hj, if_neg hg]) (by omega)
    apply Classical.byContradiction
    intro hx
    exact h ⟨fun i hi => Classical.byContradiction fun hg => hx ⟨i, hi, fun q => hg q.1⟩, fun i hi => Classical.byContradiction fun hg => hx ⟨i, hi, fun q => hg q.2⟩⟩
theorem superRight_eq {fu : Nat} {s : S_api_Super} (hf : 100 < fu) : super_Right.f fu s = some (decide (SupOk s)) := by
  unfold super_Right.f
  rw [sup_g1, Option.bind_some]
  by_cases hAB : supA s ∧ supB s
  · obtain ⟨hA, hB⟩ := hAB
    have hg := hA.2
    have hB' := hB
    unfold supB at hB'
    rw [decide_eq_true (⟨hA, hB⟩ : supA s ∧ supB s), charts_eq hg]
    simp only [Bool.not_true, Bool.false_eq_true, if_false, in_eq, Option.bind_some]
    have key : ∀ (b : Bool), b = decide (topOk s ∧ dirOk s ∧ lenOk s) → (if (!b) = true then some false else ((loopM (super_Right.s0 fu s) fu (0)).bind fun e131 => match e131 with | Sum.inl p => some p | Sum.inr x134 => some (true))) = some (decide (SupOk s)) := by
      intro b hb
      by_cases hT : topOk s ∧ dirOk s ∧ lenOk s
      · rw [hb, decide_eq_true hT]
        have hlen : s.Charts.length ≤ 50 := by
          have h1 := hT.2.2
          unfold lenOk chartsN at h1
          unfold geoOk at hg
          omega
        rw [sup_loop hlen hf]
        by_cases hq : insC s ∧ apartC s.Charts
        · have hS : SupOk s := ⟨hA, hB, hT.1, hT.2.1, hT.2.2, hq.1, hq.2⟩
          rw [if_pos hq, decide_eq_true hS]
          rfl
        · rw [if_neg hq, decide_eq_false (fun x : SupOk s => hq ⟨x.2.2.2.2.2.1, x.2.2.2.2.2.2⟩)]
          rfl
      · rw [hb, decide_eq_false hT, decide_eq_false (fun x : SupOk s => hT ⟨x.2.2.1, x.2.2.2.1, x.2.2.2.2.1⟩)]
        rfl
    by_cases h0 : s.Tickets.High = 0
    · have h1 : ¬ s.Tickets.High > 0 := by omega
      rw [decide_eq_true h0, decide_eq_false h1]
      by_cases ht : s.Tickets.Top = 0
      · rw [decide_eq_true ht]
        have hT : topOk s := ⟨fun _ => ht, fun x => absurd h0 x⟩
        by_cases hd : s.Dir = 0
        · rw [decide_eq_true hd]
          have hD : dirOk s := fun x => absurd hd x
          exact key (decide (lenOk s)) (decide_eq_decide.2 ⟨fun x => ⟨hT, hD, x⟩, fun x => x.2.2⟩)
        · rw [decide_eq_false hd]
          by_cases hi : inB s s.Dir
          · rw [decide_eq_true hi]
            exact key (decide (lenOk s)) (decide_eq_decide.2 ⟨fun x => ⟨hT, fun _ => hi, x⟩, fun x => x.2.2⟩)
          · rw [decide_eq_false hi]
            exact key false (decide_eq_false (fun x => hi (x.2.1 hd))).symm
      · rw [decide_eq_false ht]
        exact key false (decide_eq_false (fun x => ht (x.1.1 h0))).symm
    · have h1 : s.Tickets.High > 0 := by omega
      rw [decide_eq_false h0, decide_eq_true h1]
      by_cases ht : inB s s.Tickets.Top
      · rw [decide_eq_true ht]
        have hT : topOk s := ⟨fun x => absurd x h0, fun _ => ht⟩
        by_cases hd : s.Dir = 0
        · rw [decide_eq_true hd]
          have hD : dirOk s := fun x => absurd hd x
          exact key (decide (lenOk s)) (decide_eq_decide.2 ⟨fun x => ⟨hT, hD, x⟩, fun x => x.2.2⟩)
        · rw [decide_eq_false hd]
          by_cases hi : inB s s.Dir
          · rw [decide_eq_true hi]
            exact key (decide (lenOk s)) (decide_eq_decide.2 ⟨fun x => ⟨hT, fun _ => hi, x⟩, fun x => x.2.2⟩)
          · rw [decide_eq_false hi]
            exact key false (decide_eq_false (fun x => hi (x.2.1 hd))).symm
      · rw [decide_eq_false ht]
        exact key false (decide_eq_false (fun x => ht (x.1.2 h0))).symm
  · rw [decide_eq_false hAB, decide_eq_false (fun x : SupOk s => hAB ⟨x.1, x.2.1⟩)]
    rfl
def needL (s : S_api_Super) : List Int := (if s.Tickets.High = 0 then [] else [s.Tickets.Top]) ++ (if s.Dir = 0 then [] else [s.Dir])
theorem needL_len (s : S_api_Super) : (needL s).length ≤ 2 := by
  unfold needL
  split <;> split <;> simp
theorem mem_ix {l : List Int} {p : Int → Prop} : (∀ x ∈ l, p x) ↔ ∀ j, j < l.length → p (ix l (j : Int)) := by
  constructor
  · intro h j hj
    rw [ix_nat hj]
    exact h _ (List.getElem_mem hj)
  · intro h x hx
    obtain ⟨j, hj, rfl⟩ := List.getElem_of_mem hx
    have := h j hj
    rwa [ix_nat hj] at this
theorem rs2_eq {fu : Nat} {s : S_api_Super} {nd : List Int} {j : Nat} (hj : j < s.Charts.length) (hl : s.Charts.length ≤ 50) (hf : 100 < fu) : loopM (rickyardref13_Right.s2 fu s (nd, (j : Int))) fu 0 = some (if ix s.Charts (j : Int) ∉ s.Charts.take j then .inr () else .inl (.inl (.inl false))) := by
  have hs : ∀ i : Nat, i < j → rickyardref13_Right.s2 fu s (nd, (j : Int)) (i : Int) = some (if ix s.Charts (i : Int) ≠ ix s.Charts (j : Int) then .inr ((i + 1 : Nat) : Int) else .inl (.inl (.inl (.inl false)))) := by
    intro i hi
    unfold rickyardref13_Right.s2
    have h1 : (i : Int) < (j : Int) := by omega
    have h2 : (i : Int) < (s.Charts.length : Int) := by omega
    have h3 : (j : Int) < (s.Charts.length : Int) := by omega
    have c0 : 0 ≤ (i : Int) := by omega
    have c1 : 0 ≤ (j : Int) := by omega
    have w3 : IntKind.i64.wrap ((i : Int) + 1) = ((i + 1 : Nat) : Int) := by rw [w64 (by omega) (by omega)]; omega
    simp only [h1, h2, h3, c0, c1, and_self, decide_true, if_true, w3]
    by_cases e : ix s.Charts (i : Int) = ix s.Charts (j : Int) <;> simp [e]
  have hmem : ix s.Charts (j : Int) ∉ s.Charts.take j ↔ ∀ i, i < j → ix s.Charts (i : Int) ≠ ix s.Charts (j : Int) := by
    constructor
    · intro h i hi e
      apply h
      rw [← e, ix_nat (show i < s.Charts.length by omega)]
      exact List.mem_take_iff_getElem.2 ⟨i, by omega, rfl⟩
    · intro h hm
      obtain ⟨i, hi, he⟩ := List.mem_take_iff_getElem.1 hm
      exact h i (by omega) (by rw [ix_nat (show i < s.Charts.length by omega)]; exact he)
  by_cases h : ix s.Charts (j : Int) ∉ s.Charts.take j
  · rw [if_pos h]
    refine loopM_run (S := fun i => (i : Int)) j rfl (fun i hi => by rw [hs i hi, if_pos (hmem.1 h i hi)]) ?_ (by omega)
    unfold rickyardref13_Right.s2
    simp
  · rw [if_neg h]
    refine loopM_bad (S := fun i => (i : Int)) j (fun i => ix s.Charts (i : Int) ≠ ix s.Charts (j : Int)) rfl ?_ (fun i hi _ hg => by rw [hs i hi, if_pos hg]) (fun i hi _ hg => by rw [hs i hi, if_neg hg]) (by omega)
    apply Classical.byContradiction
    intro hx
    exact h (hmem.2 fun i hi => Classical.byContradiction fun hg => hx ⟨i, hi, hg⟩)
theorem rs1_eq {fu : Nat} {s : S_api_Super} (hl : s.Charts.length ≤ 50) (hf : 100 < fu) : loopM (rickyardref13_Right.s1 fu s) fu (needL s, 0) = some (if apartC s.Charts then .inr (needL s ++ s.Charts) else .inl false) := by
  have hn := needL_len s
  have hs : ∀ j : Nat, j < s.Charts.length → rickyardref13_Right.s1 fu s (needL s ++ s.Charts.take j, (j : Int)) = some (if ix s.Charts (j : Int) ∉ s.Charts.take j then .inr (needL s ++ s.Charts.take (j + 1), ((j + 1 : Nat) : Int)) else .inl (.inl false)) := by
    intro j hj
    unfold rickyardref13_Right.s1
    have h2 : (j : Int) < (s.Charts.length : Int) := by omega
    have c0 : 0 ≤ (j : Int) := by omega
    have w3 : IntKind.i64.wrap ((j : Int) + 1) = ((j + 1 : Nat) : Int) := by rw [w64 (by omega) (by omega)]; omega
    have hlim : (needL s ++ s.Charts.take j).length + ([ix s.Charts (j : Int)] : List Int).length ≤ LIM := lim_of' (by rw [List.length_append, List.length_take]; simp; omega)
    have e : needL s ++ s.Charts.take (j + 1) = needL s ++ s.Charts.take j ++ [ix s.Charts (j : Int)] := by
      rw [List.take_add_one, List.getElem?_eq_getElem hj, ix_nat hj, List.append_assoc]
      rfl
    simp only [h2, c0, and_self, decide_true, if_true, w3, hlim, rs2_eq hj hl hf, e]
    by_cases g : ix s.Charts (j : Int) ∉ s.Charts.take j
    · rw [if_pos g, if_pos g]
      rfl
    · rw [if_neg g, if_neg g]
      rfl
  by_cases h : apartC s.Charts
  · rw [if_pos h]
    refine loopM_run (S := fun j => (needL s ++ s.Charts.take j, (j : Int))) s.Charts.length (by simp) (fun j hj => by rw [hs j hj, if_pos (h j hj)]) ?_ (by omega)
    unfold rickyardref13_Right.s1
    simp
  · rw [if_neg h]
    refine loopM_bad (S := fun j => (needL s ++ s.Charts.take j, (j : Int))) s.Charts.length (fun j => ix s.Charts (j : Int) ∉ s.Charts.take j) (by simp) ?_ (fun j hj _ hg => by rw [hs j hj, if_pos hg]) (fun j hj _ hg => by rw [hs j hj, if_neg hg]) (by omega)
    apply Classical.byContradiction
    intro hx
    exact h fun i hi => Classical.byContradiction fun hg => hx ⟨i, hi, hg⟩
theorem rs3_eq {fu : Nat} {s : S_api_Super} {l : List Int} (hl : l.length ≤ 60) (hf : 100 < fu) : loopM (rickyardref13_Right.s3 fu s l) fu 0 = some (if ∀ j, j < l.length → inB s (ix l (j : Int)) then .inr () else .inl false) := by
  have hs : ∀ j : Nat, j < l.length → rickyardref13_Right.s3 fu s l (j : Int) = some (if inB s (ix l (j : Int)) then .inr ((j + 1 : Nat) : Int) else .inl (.inl false)) := by
    intro j hj
    unfold rickyardref13_Right.s3
    have h2 : (j : Int) < (l.length : Int) := by omega
    have c0 : 0 ≤ (j : Int) := by omega
    have w3 : IntKind.i64.wrap ((j : Int) + 1) = ((j + 1 : Nat) : Int) := by rw [w64 (by omega) (by omega)]; omega
    simp only [h2, c0, and_self, decide_true, if_true, w3]
    by_cases g1 : ix l (j : Int) < 2
    · have g : ¬ inB s (ix l (j : Int)) := fun x => by unfold inB at x; omega
      rw [decide_eq_true g1, if_neg g]
      rfl
    · by_cases g2 : ix l (j : Int) ≥ s.Tickets.Geometry.Blocks
      · have g : ¬ inB s (ix l (j : Int)) := fun x => by unfold inB at x; omega
        rw [decide_eq_false g1, decide_eq_true g2, if_neg g]
        rfl
      · have g : inB s (ix l (j : Int)) := ⟨by omega, by omega⟩
        rw [decide_eq_false g1, decide_eq_false g2, if_pos g]
        rfl
  by_cases h : ∀ j, j < l.length → inB s (ix l (j : Int))
  · rw [if_pos h]
    refine loopM_run (S := fun j => (j : Int)) l.length rfl (fun j hj => by rw [hs j hj, if_pos (h j hj)]) ?_ (by omega)
    unfold rickyardref13_Right.s3
    simp
  · rw [if_neg h]
    refine loopM_bad (S := fun j => (j : Int)) l.length (fun j => inB s (ix l (j : Int))) rfl ?_ (fun j hj _ hg => by rw [hs j hj, if_pos hg]) (fun j hj _ hg => by rw [hs j hj, if_neg hg]) (by omega)
    apply Classical.byContradiction
    intro hx
    exact h fun i hi => Classical.byContradiction fun hg => hx ⟨i, hi, hg⟩
theorem rsuperRight_eq {fu : Nat} {s : S_api_Super} (hf : 100 < fu) : rickyardref13_Right.f fu s = some (decide (SupOk s)) := by
  unfold rickyardref13_Right.f
  rw [rgeom_eq]
  by_cases hA : supA s
  · have hA' := hA
    unfold supA at hA'
    have hg := hA.2
    have hg' := hg
    unfold geoOk at hg'
    have c1 : ¬ s.Epoch < 1 := by omega
    have c2 : ¬ s.Epoch > 4611686018427387904 := by omega
    rw [decide_eq_false c1, decide_eq_false c2, decide_eq_true hg, rcharts_eq hg hf]
    simp only [Bool.false_eq_true, if_false, Option.bind_some, Bool.not_true]
    by_cases hB : supB s
    · have hB' := hB
      unfold supB at hB'
      have c3 : ¬ s.Tickets.High < 0 := by omega
      have c4 : ¬ s.Tickets.High > s.Tickets.Geometry.Slots := by omega
      have c5 : ¬ s.Tickets.Free < 0 := by omega
      have c6 : ¬ s.Tickets.Free > s.Tickets.High := by omega
      rw [decide_eq_false c3, decide_eq_false c4, decide_eq_false c5, decide_eq_false c6]
      simp only [Bool.false_eq_true, if_false, Option.bind_some]
      by_cases hL : (s.Charts.length : Int) = chartsN s.Tickets.Geometry
      · rw [decide_eq_true hL]
        simp only [Bool.not_true, Bool.false_eq_true, if_false]
        have hlen : s.Charts.length ≤ 50 := by unfold chartsN at hL; omega
        have hn := needL_len s
        have fin : (((loopM (rickyardref13_Right.s1 fu s) fu (needL s, 0)).bind fun e99 => match e99 with | Sum.inl p => some p | Sum.inr x102 => ((loopM (rickyardref13_Right.s3 fu s x102) fu (0)).bind fun e150 => match e150 with | Sum.inl p => some p | Sum.inr x153 => some (true)))) = some (decide (apartC s.Charts ∧ ∀ x ∈ needL s ++ s.Charts, inB s x)) := by
          rw [rs1_eq hlen hf]
          by_cases ha : apartC s.Charts
          · rw [if_pos ha]
            simp only [Option.bind_some]
            rw [rs3_eq (by rw [List.length_append]; omega) hf]
            by_cases hi : ∀ j, j < (needL s ++ s.Charts).length → inB s (ix (needL s ++ s.Charts) (j : Int))
            · rw [if_pos hi, decide_eq_true (⟨ha, mem_ix.2 hi⟩ : apartC s.Charts ∧ ∀ x ∈ needL s ++ s.Charts, inB s x)]
              rfl
            · rw [if_neg hi, decide_eq_false (fun x : apartC s.Charts ∧ ∀ x ∈ needL s ++ s.Charts, inB s x => hi (mem_ix.1 x.2))]
              rfl
          · rw [if_neg ha, decide_eq_false (fun x : apartC s.Charts ∧ ∀ x ∈ needL s ++ s.Charts, inB s x => ha x.1)]
            rfl
        have same : (s.Tickets.High = 0 → s.Tickets.Top = 0) → (decide (apartC s.Charts ∧ ∀ x ∈ needL s ++ s.Charts, inB s x)) = decide (SupOk s) := by
          intro ht
          apply decide_eq_decide.2
          constructor
          · rintro ⟨ha, hi⟩
            refine ⟨hA, hB, ⟨ht, fun hh => hi _ ?_⟩, fun hd => hi _ ?_, hL, mem_ix.1 fun x hx => hi x (List.mem_append_right _ hx), ha⟩
            · apply List.mem_append_left
              unfold needL
              rw [if_neg hh]
              simp
            · apply List.mem_append_left
              unfold needL
              rw [if_neg hd]
              simp
          · intro h
            refine ⟨h.2.2.2.2.2.2, fun x hx => ?_⟩
            rcases List.mem_append.1 hx with hx | hx
            · unfold needL at hx
              rcases List.mem_append.1 hx with hx | hx
              · by_cases h0 : s.Tickets.High = 0
                · rw [if_pos h0] at hx
                  simp at hx
                · rw [if_neg h0] at hx
                  rw [List.mem_singleton.1 hx]
                  exact h.2.2.1.2 h0
              · by_cases h0 : s.Dir = 0
                · rw [if_pos h0] at hx
                  simp at hx
                · rw [if_neg h0] at hx
                  rw [List.mem_singleton.1 hx]
                  exact h.2.2.2.1 h0
            · exact mem_ix.2 h.2.2.2.2.2.1 x hx
        have l1 : ([] : List Int).length + ([s.Tickets.Top] : List Int).length ≤ LIM := lim_of' (by simp)
        by_cases h0 : s.Tickets.High = 0
        · rw [decide_eq_true h0]
          simp only [if_true]
          by_cases ht : s.Tickets.Top = 0
          · rw [decide_eq_true ht]
            simp only [Bool.not_true, Bool.false_eq_true, if_false, Option.bind_some]
            have hsame := same (fun _ => ht)
            by_cases hd : s.Dir = 0
            · rw [decide_eq_true hd]
              have hneed : needL s = [] := by unfold needL; rw [if_pos h0, if_pos hd]; rfl
              rw [← hsame, ← fin, hneed]
              rfl
            · rw [decide_eq_false hd]
              have hneed : needL s = [] ++ [s.Dir] := by unfold needL; rw [if_pos h0, if_neg hd]
              have l2 : ([] : List Int).length + ([s.Dir] : List Int).length ≤ LIM := lim_of' (by simp)
              rw [← hsame, ← fin, hneed]
              simp only [Bool.not_false, if_true, if_pos l2, Option.bind_some]
              rfl
          · rw [decide_eq_false ht]
            have : ¬ SupOk s := fun x => ht (x.2.2.1.1 h0)
            rw [decide_eq_false this]
            rfl
        · rw [decide_eq_false h0]
          simp only [Bool.false_eq_true, if_false, if_pos l1, Option.bind_some]
          have hsame := same (fun x => absurd x h0)
          by_cases hd : s.Dir = 0
          · rw [decide_eq_true hd]
            have hneed : needL s = [] ++ [s.Tickets.Top] := by unfold needL; rw [if_neg h0, if_pos hd]; rfl
            rw [← hsame, ← fin, hneed]
            rfl
          · rw [decide_eq_false hd]
            have hneed : needL s = [] ++ [s.Tickets.Top] ++ [s.Dir] := by unfold needL; rw [if_neg h0, if_neg hd]; rfl
            have l2 : ([] ++ [s.Tickets.Top] : List Int).length + ([s.Dir] : List Int).length ≤ LIM := lim_of' (by simp)
            rw [← hsame, ← fin, hneed]
            simp only [Bool.not_false, if_true, if_pos l2, Option.bind_some]
            rfl
      · rw [decide_eq_false hL, decide_eq_false (fun x : SupOk s => hL x.2.2.2.2.1)]
        rfl
    · rw [decide_eq_false (fun x : SupOk s => hB x.2.1)]
      unfold supB at hB
      by_cases c3 : s.Tickets.High < 0
      · rw [decide_eq_true c3]
        rfl
      · by_cases c4 : s.Tickets.High > s.Tickets.Geometry.Slots
        · rw [decide_eq_false c3, decide_eq_true c4]
          rfl
        · by_cases c5 : s.Tickets.Free < 0
          · rw [decide_eq_false c3, decide_eq_false c4, decide_eq_true c5]
            rfl
          · have c6 : s.Tickets.Free > s.Tickets.High := by omega
            rw [decide_eq_false c3, decide_eq_false c4, decide_eq_false c5, decide_eq_true c6]
            rfl
  · rw [decide_eq_false (fun x : SupOk s => hA x.1)]
    unfold supA at hA
    by_cases c1 : s.Epoch < 1
    · rw [decide_eq_true c1]
      rfl
    · by_cases c2 : s.Epoch > 4611686018427387904
      · rw [decide_eq_false c1, decide_eq_true c2]
        rfl
      · have c3 : ¬ geoOk s.Tickets.Geometry := fun x => hA ⟨by omega, x⟩
        rw [decide_eq_false c1, decide_eq_false c2, decide_eq_false c3]
        rfl
def supH (s : S_api_Super) : List Int := lay (u64n s.Epoch) 8 ++ (lay (u64n s.Tickets.Geometry.Blocks) 4 ++ (lay (u64n s.Tickets.Geometry.Slots) 4 ++ (lay (u64n s.Tickets.Geometry.Gens) 4 ++ (lay (u64n s.Tickets.High) 4 ++ (lay (u64n s.Tickets.Free) 4 ++ (lay (u64n s.Tickets.Top) 2 ++ lay (u64n s.Dir) 2))))))
theorem supH_len (s : S_api_Super) : (supH s).length = 32 := by simp [supH, lay_len]
theorem supH_bytes (s : S_api_Super) : Bytes (supH s) := (lay_bytes _ _).app ((lay_bytes _ _).app ((lay_bytes _ _).app ((lay_bytes _ _).app ((lay_bytes _ _).app ((lay_bytes _ _).app ((lay_bytes _ _).app (lay_bytes _ _)))))))
def supE (s : S_api_Super) : List Int := supH s ++ rowE s.Charts s.Charts.length
theorem supE_len (s : S_api_Super) : (supE s).length = 32 + 2 * s.Charts.length := by simp [supE, supH_len, rowE_len]
theorem supE_bytes (s : S_api_Super) : Bytes (supE s) := (supH_bytes _).app (rowE_bytes _ _)
theorem octets1_eq {fu : Nat} {x : Int} (hf : 100 < fu) : octet_Octets.f fu [(IntKind.u64.wrap x)] = some (lay (u64n x) 8) := by
  unfold octet_Octets.f
  have hl : ∀ z : Int, octet_Lay.f fu (IntKind.u64.wrap z) 8 = some (lay (u64n z) 8) := fun z => olay64 (n := 8) (by decide) (by omega)
  have : loopM (octet_Octets.s0 fu [(IntKind.u64.wrap x)]) fu ([], 0) = some (lay (u64n x) 8) := by
    refine loopM_run (S := fun j => (if j = 0 then [] else lay (u64n x) 8, (j : Int))) 1 rfl ?_ ?_ (by omega)
    · intro j hj
      obtain rfl : j = 0 := by omega
      unfold octet_Octets.s0
      have l0 : (0 : Nat) + 8 ≤ LIM := lim_of' (by decide)
      simp [hl, ix, lay_len, w64, l0]
    · unfold octet_Octets.s0
      simp
  rw [this]
  rfl
def five (s : S_api_Super) (i : Nat) : Int := if i = 0 then s.Tickets.Geometry.Blocks else if i = 1 then s.Tickets.Geometry.Slots else if i = 2 then s.Tickets.Geometry.Gens else if i = 3 then s.Tickets.High else s.Tickets.Free
theorem superPut_eq {fu : Nat} {s : S_api_Super} (hf : 100 < fu) : super_Put.f fu s = some (if SupOk s then (sealed (summed 7 (s.Charts.length : Int) (supE s)), true) else ([], false)) := by
  unfold super_Put.f
  rw [superRight_eq hf]
  by_cases h : SupOk s
  · have k1 := h.len
    have hl4 : ∀ z : Int, octet_Lay.f fu (IntKind.u64.wrap z) 4 = some (lay (u64n z) 4) := fun z => olay64 (n := 4) (by decide) (by omega)
    have hl2 : ∀ z : Int, octet_Lay.f fu (IntKind.u64.wrap z) 2 = some (lay (u64n z) 2) := fun z => olay64 (n := 2) (by decide) (by omega)
    have hg : ∀ j : Nat, j < 5 → Arr.get (Arr.set (Arr.set (Arr.set (Arr.set (Arr.set (Arr.rep 5 (0 : Int)) 0 s.Tickets.Geometry.Blocks) 1 s.Tickets.Geometry.Slots) 2 s.Tickets.Geometry.Gens) 3 s.Tickets.High) 4 s.Tickets.Free) (j : Int) = five s j := by
      intro j hj
      have : j = 0 ∨ j = 1 ∨ j = 2 ∨ j = 3 ∨ j = 4 := by omega
      rcases this with rfl | rfl | rfl | rfl | rfl <;> rfl
    obtain ⟨A, hA⟩ : ∃ A, A = Arr.set (Arr.set (Arr.set (Arr.set (Arr.set (Arr.rep 5 (0 : Int)) 0 s.Tickets.Geometry.Blocks) 1 s.Tickets.Geometry.Slots) 2 s.Tickets.Geometry.Gens) 3 s.Tickets.High) 4 s.Tickets.Free := ⟨_, rfl⟩
    rw [← hA] at hg
    have loop0 : loopM (super_Put.s0 fu s) fu (lay (u64n s.Epoch) 8, 0) = some (lay (u64n s.Epoch) 8 ++ (List.range 5).flatMap fun i => lay (u64n (five s i)) 4) := by
      refine loopM_run (S := fun j => (lay (u64n s.Epoch) 8 ++ (List.range j).flatMap fun i => lay (u64n (five s i)) 4, (j : Int))) 5 (by simp) ?_ ?_ (by omega)
      · intro j hj
        unfold super_Put.s0
        rw [← hA]
        have h1 : (j : Int) < 5 := by omega
        have w3 : IntKind.i64.wrap ((j : Int) + 1) = ((j + 1 : Nat) : Int) := by rw [w64 (by omega) (by omega)]; omega
        have hfl : ((List.range j).flatMap fun i => lay (u64n (five s i)) 4).length = 4 * j := flat_len (fun i => lay_len _ _) j
        have hlim : (lay (u64n s.Epoch) 8 ++ (List.range j).flatMap fun i => lay (u64n (five s i)) 4).length + (lay (u64n (five s j)) 4).length ≤ LIM := lim_of' (by rw [List.length_append, hfl, lay_len, lay_len]; omega)
        simp only [h1, decide_true, if_true, w3, hg j hj, hl4, Option.bind_some]
        rw [if_pos ⟨by omega, trivial⟩, if_pos hlim, flat_succ, List.append_assoc]
      · unfold super_Put.s0
        simp
    have eH : lay (u64n s.Epoch) 8 ++ ((List.range 5).flatMap fun i => lay (u64n (five s i)) 4) ++ rowE ([s.Tickets.Top, s.Dir] ++ s.Charts) (2 + s.Charts.length) = supE s := by
      have e1 : rowE ([s.Tickets.Top, s.Dir] ++ s.Charts) (2 + s.Charts.length) = lay (u64n s.Tickets.Top) 2 ++ (lay (u64n s.Dir) 2 ++ rowE s.Charts s.Charts.length) := by
        unfold rowE
        rw [List.range_add, List.flatMap_append]
        have e0 : (List.range 2).flatMap (fun (i : Nat) => lay (u64n (ix ([s.Tickets.Top, s.Dir] ++ s.Charts) (i : Int))) 2) = lay (u64n s.Tickets.Top) 2 ++ lay (u64n s.Dir) 2 := by
          show lay _ 2 ++ (lay _ 2 ++ []) = _
          rw [List.append_nil]
          rfl
        rw [e0, List.append_assoc]
        congr 2
        rw [List.flatMap_map]
        apply flat_congr
        intro i hi
        congr 2
        unfold ix
        rw [Int.toNat_natCast, Int.toNat_natCast, List.getD_eq_getElem?_getD, List.getD_eq_getElem?_getD, List.getElem?_append_right (by simp)]
        congr 2
        simp
      rw [e1]
      have e2 : (List.range 5).flatMap (fun i => lay (u64n (five s i)) 4) = lay (u64n s.Tickets.Geometry.Blocks) 4 ++ (lay (u64n s.Tickets.Geometry.Slots) 4 ++ (lay (u64n s.Tickets.Geometry.Gens) 4 ++ (lay (u64n s.Tickets.High) 4 ++ lay (u64n s.Tickets.Free) 4))) := by
        show lay _ 4 ++ (lay _ 4 ++ (lay _ 4 ++ (lay _ 4 ++ (lay _ 4 ++ [])))) = _
        rw [List.append_nil]
        rfl
      rw [e2]
      unfold supE supH
      simp only [List.append_assoc]
    have hlen2 : ([s.Tickets.Top, s.Dir] ++ s.Charts).length = 2 + s.Charts.length := by simp; omega
    have h5 : (lay (u64n s.Epoch) 8 ++ (List.range 5).flatMap fun i => lay (u64n (five s i)) 4).length = 28 := by
      rw [List.length_append, lay_len, flat_len (w := 4) (fun i => lay_len _ _)]
    have loop1 : loopM (super_Put.s1 fu s) fu (lay (u64n s.Epoch) 8 ++ (List.range 5).flatMap fun i => lay (u64n (five s i)) 4, 0) = some (supE s) := by
      refine loopM_run (S := fun j => (lay (u64n s.Epoch) 8 ++ ((List.range 5).flatMap fun i => lay (u64n (five s i)) 4) ++ rowE ([s.Tickets.Top, s.Dir] ++ s.Charts) j, (j : Int))) (2 + s.Charts.length) (by simp [rowE]) ?_ ?_ (by omega)
      · intro j hj
        unfold super_Put.s1
        have h1 : (j : Int) < (([s.Tickets.Top, s.Dir] ++ s.Charts).length : Int) := by omega
        have c0 : 0 ≤ (j : Int) := by omega
        have w3 : IntKind.i64.wrap ((j : Int) + 1) = ((j + 1 : Nat) : Int) := by rw [w64 (by omega) (by omega)]; omega
        have hlim : (lay (u64n s.Epoch) 8 ++ ((List.range 5).flatMap fun i => lay (u64n (five s i)) 4) ++ rowE ([s.Tickets.Top, s.Dir] ++ s.Charts) j).length + (lay (u64n (ix ([s.Tickets.Top, s.Dir] ++ s.Charts) (j : Int))) 2).length ≤ LIM := lim_of' (by rw [List.length_append, h5, rowE_len, lay_len]; omega)
        simp only [h1, c0, and_self, decide_true, if_true, w3, hl2, Option.bind_some]
        rw [if_pos hlim, List.append_assoc]
        congr 4
        rw [rowE, rowE, flat_succ]
      · unfold super_Put.s1
        rw [hlen2, eH]
        simp
    have hlim3 : ([s.Tickets.Top, s.Dir] : List Int).length + s.Charts.length ≤ LIM := lim_of' (by simp; omega)
    have hs := seal_eq (fu := fu) (k := 7) (t := (s.Charts.length : Int)) (supE_bytes s) (by omega) (by omega) (by rw [supE_len]; omega) hf
    simp only [h, decide_true, Bool.not_true, Bool.false_eq_true, if_false, octets1_eq hf, Option.bind_some, loop0, if_pos hlim3, loop1, hs, if_true]
  · simp [h]
theorem next_eq {fu : Nat} {b : List Int} {i n : Nat} (hb : Bytes b) (h : i + n ≤ b.length) (hn : n ≤ 8) (hf : 100 < fu) : super_reader_next.f fu ⟨b.drop i⟩ (n : Int) = some (intAt b i n, ⟨b.drop (i + n)⟩) := by
  unfold super_reader_next.f
  have hl : (b.drop i).length = b.length - i := List.length_drop
  have c1 : 0 ≤ (n : Int) ∧ (n : Int) ≤ ((b.drop i).length : Int) := by omega
  have e0 : cut (b.drop i) 0 (n : Int) = part b i n := by unfold cut part; simp
  have e1 : cut (b.drop i) (n : Int) ((b.drop i).length : Int) = b.drop (i + n) := by
    unfold cut
    rw [Int.toNat_natCast, Int.toNat_natCast, List.take_length, List.drop_drop]
  have hr : octet_Read.f fu (part b i n) = some ((num (part b i n) : Nat) : Int) := read_eq (part_bytes hb i n) (by rw [part_len h]; exact hn) (by rw [part_len h]; omega)
  simp only [if_pos c1, e0, e1, hr, Option.bind_some]
  rfl
def chartsOf (body : List Int) (t : Nat) : List Int := (List.range t).map fun i => intAt body (32 + 2 * i) 2
def supOf (body : List Int) (t : Nat) : S_api_Super := ⟨intAt body 0 8, ⟨⟨intAt body 8 4, intAt body 12 4, intAt body 16 4⟩, intAt body 28 2, intAt body 20 4, intAt body 24 4⟩, intAt body 30 2, chartsOf body t⟩
theorem supOf_E {s : S_api_Super} (h : SupOk s) (t : List Int) : supOf (supE s ++ t) s.Charts.length = s := by
  have hlen := h.len
  have hA := h.1
  have hB := h.2.1
  have hT := h.2.2.1
  have hD := h.2.2.2.1
  have hI := h.2.2.2.2.2.1
  unfold supA geoOk at hA
  unfold supB at hB
  have hTop : 0 ≤ s.Tickets.Top ∧ s.Tickets.Top ≤ 3072 := by
    by_cases h0 : s.Tickets.High = 0
    · have := hT.1 h0
      omega
    · have := hT.2 h0
      unfold inB at this
      omega
  have hDir : 0 ≤ s.Dir ∧ s.Dir ≤ 3072 := by
    by_cases h0 : s.Dir = 0
    · omega
    · have := hD h0
      unfold inB at this
      omega
  obtain ⟨R, hR⟩ : ∃ R, R = rowE s.Charts s.Charts.length ++ t := ⟨_, rfl⟩
  have e : supE s ++ t = lay (u64n s.Epoch) 8 ++ (lay (u64n s.Tickets.Geometry.Blocks) 4 ++ (lay (u64n s.Tickets.Geometry.Slots) 4 ++ (lay (u64n s.Tickets.Geometry.Gens) 4 ++ (lay (u64n s.Tickets.High) 4 ++ (lay (u64n s.Tickets.Free) 4 ++ (lay (u64n s.Tickets.Top) 2 ++ (lay (u64n s.Dir) 2 ++ R))))))) := by
    rw [hR]
    simp [supE, supH]
  have l8 : ∀ v, (lay v 8).length = 8 := fun v => lay_len v 8
  have l4 : ∀ v, (lay v 4).length = 4 := fun v => lay_len v 4
  have l2 : ∀ v, (lay v 2).length = 2 := fun v => lay_len v 2
  have d8 : (supE s ++ t).drop 8 = (lay (u64n s.Tickets.Geometry.Blocks) 4 ++ (lay (u64n s.Tickets.Geometry.Slots) 4 ++ (lay (u64n s.Tickets.Geometry.Gens) 4 ++ (lay (u64n s.Tickets.High) 4 ++ (lay (u64n s.Tickets.Free) 4 ++ (lay (u64n s.Tickets.Top) 2 ++ (lay (u64n s.Dir) 2 ++ R))))))) := by rw [e, List.drop_left' (l8 _)]
  have d12 : (supE s ++ t).drop 12 = (lay (u64n s.Tickets.Geometry.Slots) 4 ++ (lay (u64n s.Tickets.Geometry.Gens) 4 ++ (lay (u64n s.Tickets.High) 4 ++ (lay (u64n s.Tickets.Free) 4 ++ (lay (u64n s.Tickets.Top) 2 ++ (lay (u64n s.Dir) 2 ++ R)))))) := by rw [show (12 : Nat) = 8 + 4 from rfl, ← List.drop_drop, d8, List.drop_left' (l4 _)]
  have d16 : (supE s ++ t).drop 16 = (lay (u64n s.Tickets.Geometry.Gens) 4 ++ (lay (u64n s.Tickets.High) 4 ++ (lay (u64n s.Tickets.Free) 4 ++ (lay (u64n s.Tickets.Top) 2 ++ (lay (u64n s.Dir) 2 ++ R))))) := by rw [show (16 : Nat) = 12 + 4 from rfl, ← List.drop_drop, d12, List.drop_left' (l4 _)]
  have d20 : (supE s ++ t).drop 20 = (lay (u64n s.Tickets.High) 4 ++ (lay (u64n s.Tickets.Free) 4 ++ (lay (u64n s.Tickets.Top) 2 ++ (lay (u64n s.Dir) 2 ++ R)))) := by rw [show (20 : Nat) = 16 + 4 from rfl, ← List.drop_drop, d16, List.drop_left' (l4 _)]
  have d24 : (supE s ++ t).drop 24 = (lay (u64n s.Tickets.Free) 4 ++ (lay (u64n s.Tickets.Top) 2 ++ (lay (u64n s.Dir) 2 ++ R))) := by rw [show (24 : Nat) = 20 + 4 from rfl, ← List.drop_drop, d20, List.drop_left' (l4 _)]
  have d28 : (supE s ++ t).drop 28 = (lay (u64n s.Tickets.Top) 2 ++ (lay (u64n s.Dir) 2 ++ R)) := by rw [show (28 : Nat) = 24 + 4 from rfl, ← List.drop_drop, d24, List.drop_left' (l4 _)]
  have d30 : (supE s ++ t).drop 30 = (lay (u64n s.Dir) 2 ++ R) := by rw [show (30 : Nat) = 28 + 2 from rfl, ← List.drop_drop, d28, List.drop_left' (l2 _)]
  have d32 : (supE s ++ t).drop 32 = R := by rw [show (32 : Nat) = 30 + 2 from rfl, ← List.drop_drop, d30, List.drop_left' (l2 _)]
  have q8 : (256 : Nat) ^ 8 = 18446744073709551616 := by decide
  have q4 : (256 : Nat) ^ 4 = 4294967296 := by decide
  have q2 : (256 : Nat) ^ 2 = 65536 := by decide
  have val : ∀ (i n : Nat) (x : Int), part (supE s ++ t) i n = lay (u64n x) n → 0 ≤ x → x < ((256 ^ n : Nat) : Int) → x ≤ 9223372036854775807 → intAt (supE s ++ t) i n = x := by
    intro i n x hp h0 h1 h2
    unfold intAt
    rw [hp, num_lay, u64n_of h0 (by omega), Nat.mod_eq_of_lt (by omega), Int.toNat_of_nonneg h0, w64 (by omega) h2]
  have p0 : part (supE s ++ t) 0 8 = lay (u64n s.Epoch) 8 := by unfold part; rw [List.drop_zero, e, List.take_left' (l8 _)]
  have p8 : part (supE s ++ t) 8 4 = lay (u64n s.Tickets.Geometry.Blocks) 4 := by unfold part; rw [d8, List.take_left' (l4 _)]
  have p12 : part (supE s ++ t) 12 4 = lay (u64n s.Tickets.Geometry.Slots) 4 := by unfold part; rw [d12, List.take_left' (l4 _)]
  have p16 : part (supE s ++ t) 16 4 = lay (u64n s.Tickets.Geometry.Gens) 4 := by unfold part; rw [d16, List.take_left' (l4 _)]
  have p20 : part (supE s ++ t) 20 4 = lay (u64n s.Tickets.High) 4 := by unfold part; rw [d20, List.take_left' (l4 _)]
  have p24 : part (supE s ++ t) 24 4 = lay (u64n s.Tickets.Free) 4 := by unfold part; rw [d24, List.take_left' (l4 _)]
  have p28 : part (supE s ++ t) 28 2 = lay (u64n s.Tickets.Top) 2 := by unfold part; rw [d28, List.take_left' (l2 _)]
  have p30 : part (supE s ++ t) 30 2 = lay (u64n s.Dir) 2 := by unfold part; rw [d30, List.take_left' (l2 _)]
  have i0 := val 0 8 _ p0 (by omega) (by omega) (by omega)
  have i8 := val 8 4 _ p8 (by omega) (by omega) (by omega)
  have i12 := val 12 4 _ p12 (by omega) (by omega) (by omega)
  have i16 := val 16 4 _ p16 (by omega) (by omega) (by omega)
  have i20 := val 20 4 _ p20 (by omega) (by omega) (by omega)
  have i24 := val 24 4 _ p24 (by omega) (by omega) (by omega)
  have i28 := val 28 2 _ p28 (by omega) (by omega) (by omega)
  have i30 := val 30 2 _ p30 (by omega) (by omega) (by omega)
  have ik : chartsOf (supE s ++ t) s.Charts.length = s.Charts := by
    apply ix_ext (by simp [chartsOf])
    intro i hi
    have hi' : i < s.Charts.length := by simpa [chartsOf] using hi
    unfold chartsOf
    rw [ix_map hi']
    have hp : part (supE s ++ t) (32 + 2 * i) 2 = lay (u64n (ix s.Charts (i : Int))) 2 := by
      unfold part
      rw [← List.drop_drop, d32, hR]
      exact flat_field (fun i => lay_len _ _) hi' t
    have := hI i hi'
    unfold inB at this
    exact val _ 2 _ hp (by omega) (by omega) (by omega)
  unfold supOf
  rw [i0, i8, i12, i16, i20, i24, i28, i30, ik]
def noU : S_api_Super := ⟨0, ⟨⟨0, 0, 0⟩, 0, 0, 0⟩, 0, []⟩
def GetU (b : List Int) : Prop := Is b ∧ ix b 4 = 7 ∧ ix b 5 ≤ 8 ∧ SupOk (supOf (b.drop 8) (ix b 5).toNat) ∧ ∀ y ∈ (b.drop 8).drop (32 + 2 * (ix b 5).toNat), y = 0
instance (b : List Int) : Decidable (GetU b) := inferInstanceAs (Decidable (_ ∧ _))
theorem superGet_eq {fu : Nat} {b : List Int} (hb : Bytes b) (hl : b.length ≤ 9000000000000000000) (hf : 100 < fu) : super_Get.f fu b = some (if GetU b then (supOf (b.drop 8) (ix b 5).toNat, true) else (noU, false)) := by
  unfold super_Get.f
  rw [open_eq hb hl hf]
  by_cases hi : Is b
  · have h8 := is_body hi
    obtain ⟨b4, b5⟩ := is_tag hb hi
    rw [if_pos hi]
    simp only [Option.bind_some, Bool.not_true, Bool.false_eq_true, if_false]
    by_cases h4 : ix b 4 = 7
    · by_cases h5 : ix b 5 ≤ 8
      · have h5' : ¬ ix b 5 > 8 := by omega
        obtain ⟨t, ht⟩ : ∃ t : Nat, ix b 5 = (t : Int) := ⟨(ix b 5).toNat, by omega⟩
        have hbd := hb.drop 8
        obtain ⟨body, hbody⟩ : ∃ body, body = b.drop 8 := ⟨_, rfl⟩
        rw [← hbody] at h8 hbd
        have n0 : super_reader_next.f fu ⟨body⟩ 8 = some (intAt body 0 8, ⟨body.drop 8⟩) := next_eq (i := 0) (n := 8) hbd (by omega) (by decide) hf
        have n8 : super_reader_next.f fu ⟨body.drop 8⟩ 4 = some (intAt body 8 4, ⟨body.drop 12⟩) := next_eq (i := 8) (n := 4) hbd (by omega) (by decide) hf
        have n12 : super_reader_next.f fu ⟨body.drop 12⟩ 4 = some (intAt body 12 4, ⟨body.drop 16⟩) := next_eq (i := 12) (n := 4) hbd (by omega) (by decide) hf
        have n16 : super_reader_next.f fu ⟨body.drop 16⟩ 4 = some (intAt body 16 4, ⟨body.drop 20⟩) := next_eq (i := 16) (n := 4) hbd (by omega) (by decide) hf
        have n20 : super_reader_next.f fu ⟨body.drop 20⟩ 4 = some (intAt body 20 4, ⟨body.drop 24⟩) := next_eq (i := 20) (n := 4) hbd (by omega) (by decide) hf
        have n24 : super_reader_next.f fu ⟨body.drop 24⟩ 4 = some (intAt body 24 4, ⟨body.drop 28⟩) := next_eq (i := 24) (n := 4) hbd (by omega) (by decide) hf
        have n28 : super_reader_next.f fu ⟨body.drop 28⟩ 2 = some (intAt body 28 2, ⟨body.drop 30⟩) := next_eq (i := 28) (n := 2) hbd (by omega) (by decide) hf
        have n30 : super_reader_next.f fu ⟨body.drop 30⟩ 2 = some (intAt body 30 2, ⟨body.drop 32⟩) := next_eq (i := 30) (n := 2) hbd (by omega) (by decide) hf
        have hloop : loopM (super_Get.s0 fu (ix b 4, ix b 5, body, true)) fu (0, [], body.drop 32) = some (chartsOf body t, body.drop (32 + 2 * t)) := by
          refine loopM_run (S := fun j => ((j : Int), chartsOf body j, body.drop (32 + 2 * j))) t (by simp [chartsOf]) ?_ ?_ (by omega)
          · intro j hj
            unfold super_Get.s0
            have h1 : (j : Int) < ix b 5 := by omega
            have w3 : IntKind.i64.wrap ((j : Int) + 1) = ((j + 1 : Nat) : Int) := by rw [w64 (by omega) (by omega)]; omega
            have hn : super_reader_next.f fu ⟨body.drop (32 + 2 * j)⟩ 2 = some (intAt body (32 + 2 * j) 2, ⟨body.drop (32 + 2 * j + 2)⟩) := next_eq (n := 2) hbd (by omega) (by decide) hf
            have hlim : (chartsOf body j).length + ([intAt body (32 + 2 * j) 2] : List Int).length ≤ LIM := lim_of' (by simp [chartsOf]; omega)
            simp only [h1, decide_true, if_true, w3, hn, Option.bind_some, hlim]
            simp [chartsOf, List.range_succ, Nat.mul_add, Nat.add_assoc]
          · unfold super_Get.s0
            simp [ht]
        have hrl : (body.drop (32 + 2 * t)).length = 56 - (32 + 2 * t) := by rw [List.length_drop, h8]
        have hn := noughts_eq (fu := fu) (b := body.drop (32 + 2 * t)) (i := 0) (n := 56 - (32 + 2 * t)) (by omega) (by omega) (by omega)
        have e8 : ((body.drop (32 + 2 * t)).drop 0).take (56 - (32 + 2 * t)) = body.drop (32 + 2 * t) := by rw [List.drop_zero]; exact List.take_of_length_le (by omega)
        rw [e8, ← hrl] at hn
        have hn' := hn
        rw [show ((0 : Nat) : Int) = 0 from rfl] at hn'
        have hN : (⟨intAt body 0 8, ⟨⟨intAt body 8 4, intAt body 12 4, intAt body 16 4⟩, intAt body 28 2, intAt body 20 4, intAt body 24 4⟩, intAt body 30 2, chartsOf body t⟩ : S_api_Super) = supOf body t := rfl
        rw [← hbody]
        simp only [h4, h5', decide_true, decide_false, Bool.not_true, Bool.false_eq_true, if_false] at hloop ⊢
        simp only [n0, n8, n12, n16, n20, n24, n28, n30, Option.bind_some, hloop]
        simp only [hn', hN, superRight_eq hf, Option.bind_some]
        have hgi : GetU b ↔ (SupOk (supOf body t) ∧ ∀ y ∈ body.drop (32 + 2 * t), y = 0) := by
          unfold GetU
          rw [ht, ← hbody, Int.toNat_natCast]
          exact ⟨fun x => x.2.2.2, fun x => ⟨hi, h4, by omega, x⟩⟩
        rw [ht, Int.toNat_natCast]
        by_cases hr : SupOk (supOf body t)
        · by_cases hz : ∀ y ∈ body.drop (32 + 2 * t), y = 0
          · rw [if_pos (hgi.2 ⟨hr, hz⟩), decide_eq_true hr, decide_eq_true hz]
            rfl
          · rw [if_neg (fun x => hz (hgi.1 x).2), decide_eq_true hr, decide_eq_false hz]
            rfl
        · rw [if_neg (fun x => hr (hgi.1 x).1), decide_eq_false hr]
          rfl
      · have h5' : ix b 5 > 8 := by omega
        have hg : ¬ GetU b := fun x => h5 x.2.2.1
        rw [if_neg hg, decide_eq_true h4, decide_eq_true h5']
        rfl
    · have hg : ¬ GetU b := fun x => h4 x.2.1
      rw [if_neg hg, decide_eq_false h4]
      rfl
  · have hg : ¬ GetU b := fun x => hi x.1
    rw [if_neg hi, if_neg hg]
    rfl
theorem sup_get {s : S_api_Super} (h : SupOk s) : GetU (sealed (summed 7 (s.Charts.length : Int) (supE s))) ∧ supOf ((sealed (summed 7 (s.Charts.length : Int) (supE s))).drop 8) (ix (sealed (summed 7 (s.Charts.length : Int) (supE s))) 5).toNat = s := by
  have k1 := h.len
  have hl := supE_len s
  obtain ⟨p4, p5, p8⟩ := sealed_parts 7 (s.Charts.length : Int) (supE s)
  have hno := supOf_E h (List.replicate (56 - (supE s).length) 0)
  refine ⟨⟨is_sealed (by decide) (by omega), p4, by rw [p5]; omega, ?_, ?_⟩, by rw [p8, p5, Int.toNat_natCast, hno]⟩
  · rw [p8, p5, Int.toNat_natCast, hno]
    exact h
  · rw [p8, p5, Int.toNat_natCast, ← hl, List.drop_left' rfl]
    intro y hy
    exact List.eq_of_mem_replicate hy
theorem sup_sealed {s : S_api_Super} (h : SupOk s) : Bytes (sealed (summed 7 (s.Charts.length : Int) (supE s))) ∧ (sealed (summed 7 (s.Charts.length : Int) (supE s))).length = 64 := by
  have k1 := h.len
  have hl := supE_len s
  exact ⟨sealed_bytes (summed_bytes (by omega) (by omega) (supE_bytes s)), sealed_len (summed_len (by omega))⟩
theorem same_sup {a b : S_api_Super} : (a = b) ↔ a.Epoch = b.Epoch ∧ a.Tickets = b.Tickets ∧ a.Dir = b.Dir ∧ a.Charts = b.Charts := by
  cases a
  cases b
  simp
theorem same_tick {a b : S_api_Tickets} : (a = b) ↔ a.Geometry = b.Geometry ∧ a.Top = b.Top ∧ a.High = b.High ∧ a.Free = b.Free := by
  cases a
  cases b
  simp
theorem rsuperSame_eq {fu : Nat} {a b : S_api_Super} (hl : a.Charts.length ≤ 9000000000000000000) (hf : a.Charts.length < fu) : rickyardref13_Same.f fu a b = some (decide (a = b)) := by
  unfold rickyardref13_Same.f
  rw [ints2_eq hl hf]
  have hab : a = b ↔ a.Epoch = b.Epoch ∧ (a.Tickets.Geometry = b.Tickets.Geometry ∧ a.Tickets.Top = b.Tickets.Top ∧ a.Tickets.High = b.Tickets.High ∧ a.Tickets.Free = b.Tickets.Free) ∧ a.Dir = b.Dir ∧ a.Charts = b.Charts := by
    rw [same_sup, same_tick]
  by_cases h1 : a.Epoch = b.Epoch
  · by_cases h2 : a.Tickets.Geometry = b.Tickets.Geometry
    · by_cases h3 : a.Tickets.High = b.Tickets.High
      · by_cases h4 : a.Tickets.Free = b.Tickets.Free
        · by_cases h5 : a.Tickets.Top = b.Tickets.Top
          · by_cases h6 : a.Dir = b.Dir
            · by_cases h7 : a.Charts = b.Charts
              · rw [decide_eq_true h1, decide_eq_true h2, decide_eq_true h3, decide_eq_true h4, decide_eq_true h5, decide_eq_true h6, decide_eq_true h7, decide_eq_true (hab.2 ⟨h1, ⟨h2, h5, h3, h4⟩, h6, h7⟩)]
                rfl
              · rw [decide_eq_true h1, decide_eq_true h2, decide_eq_true h3, decide_eq_true h4, decide_eq_true h5, decide_eq_true h6, decide_eq_false h7, decide_eq_false (fun x => h7 (hab.1 x).2.2.2)]
                rfl
            · rw [decide_eq_true h1, decide_eq_true h2, decide_eq_true h3, decide_eq_true h4, decide_eq_true h5, decide_eq_false h6, decide_eq_false (fun x => h6 (hab.1 x).2.2.1)]
              rfl
          · rw [decide_eq_true h1, decide_eq_true h2, decide_eq_true h3, decide_eq_true h4, decide_eq_false h5, decide_eq_false (fun x => h5 (hab.1 x).2.1.2.1)]
            rfl
        · rw [decide_eq_true h1, decide_eq_true h2, decide_eq_true h3, decide_eq_false h4, decide_eq_false (fun x => h4 (hab.1 x).2.1.2.2.2)]
          rfl
      · rw [decide_eq_true h1, decide_eq_true h2, decide_eq_false h3, decide_eq_false (fun x => h3 (hab.1 x).2.1.2.2.1)]
        rfl
    · rw [decide_eq_true h1, decide_eq_false h2, decide_eq_false (fun x => h2 (hab.1 x).2.1.1)]
      rfl
  · rw [decide_eq_false h1, decide_eq_false (fun x => h1 (hab.1 x).1)]
    rfl
end Go.Proofs.Ytklhbaghbmndeaa.Pure
namespace Go.Proofs.Ytklhbaghbmndeaa
open Go Go.Xw
end Go.Proofs.Ytklhbaghbmndeaa
namespace Go.Proofs.Ytklhbaghbmndeaa.Pure
open Go Go.Xw
def getS (b : List Int) : S_api_Super × Bool := if GetU b then (supOf (b.drop 8) (ix b 5).toNat, true) else (noU, false)
def readS (d : Dev) (k : Int) : S_api_Super × Bool := if (0 ≤ k ∧ k < 2) ∧ inL d k ∧ d.off = false then getS (octs (lineC d k)) else (noU, false)
def pick2 (a b : S_api_Super × Bool) : S_api_Super × Int × Bool := if b.2 = true ∧ (a.2 = false ∨ b.1.Epoch > a.1.Epoch) then (b.1, 1, true) else (a.1, 0, a.2)
theorem pick2_f {a b : S_api_Super × Bool} (h : b.2 = false) : pick2 a b = (a.1, 0, a.2) := if_neg (fun q => by rw [h] at q; cases q.1)
theorem pick2_t {a b : S_api_Super × Bool} (h : b.2 = true) (h2 : a.2 = false ∨ b.1.Epoch > a.1.Epoch) : pick2 a b = (b.1, 1, true) := if_pos ⟨h, h2⟩
theorem pick2_n {a b : S_api_Super × Bool} (h1 : a.2 = true) (h2 : ¬ b.1.Epoch > a.1.Epoch) : pick2 a b = (a.1, 0, a.2) := if_neg (fun q => by
  rcases q.2 with q | q
  · rw [h1] at q
    cases q
  · exact h2 q)
theorem getS_no {b : List Int} (h : (getS b).2 = false) : (getS b).1 = noU := by
  unfold getS at h ⊢
  split
  · rename_i q
    rw [if_pos q] at h
    cases h
  · rfl
theorem readS_no {d : Dev} {k : Int} (h : (readS d k).2 = false) : (readS d k).1 = noU := by
  unfold readS at h ⊢
  split
  · rename_i q
    rw [if_pos q] at h
    exact getS_no h
  · rfl
theorem root_read_eq {fu n : Nat} {B k : Int} {d : Dev} (h : DevOk n B d) (hn : n ≤ 100000) (hf : 2000 < fu) : root_Read.f fu d k = some (readS d k) := by
  unfold root_Read.f
  by_cases hk : 0 ≤ k ∧ k < 2
  · rw [decide_eq_false (show ¬ k < 0 by omega), decide_eq_false (show ¬ k ≥ 2 by omega), if_neg (by decide), read_dev h hn hf]
    simp only [Option.bind_some]
    unfold readD
    by_cases hi : inL d k
    · cases ho : d.off
      · have e1 : readS d k = getS (octs (lineC d k)) := if_pos ⟨hk, hi, ho⟩
        rw [if_pos hi, e1]
        simp only [Bool.false_eq_true, if_false, decide_true, Bool.not_true]
        rw [superGet_eq (octsB _) (by rw [octs_len]; simp [lineC]) (by omega)]
        rfl
      · have e1 : readS d k = (noU, false) := if_neg (fun q => by have := q.2.2; rw [ho] at this; cases this)
        rw [if_pos hi, e1]
        rfl
    · have e1 : readS d k = (noU, false) := if_neg (fun q => hi q.2.1)
      rw [if_neg hi, e1]
      rfl
  · have e1 : readS d k = (noU, false) := if_neg (fun q => hk q.1)
    have : (if (decide (k < 0)) = true then true else (decide (k ≥ 2))) = true := by
      by_cases h1 : k < 0
      · rw [decide_eq_true h1, if_pos rfl]
      · rw [decide_eq_false h1, if_neg (by decide), decide_eq_true (by omega)]
    rw [if_pos this, e1]
    rfl
theorem root_pick_eq {fu n : Nat} {B : Int} {d : Dev} (h : DevOk n B d) (hn : n ≤ 100000) (hf : 2000 < fu) : root_Pick.f fu d = some (pick2 (readS d 0) (readS d 1)) := by
  have h0 := readS_no (d := d) (k := 0)
  have h1 := readS_no (d := d) (k := 1)
  have r0 := root_read_eq (fu := fu) (k := 0) h hn hf
  have r1 := root_read_eq (fu := fu) (k := 1) h hn hf
  generalize ha : readS d 0 = a at *
  generalize hb : readS d 1 = b at *
  unfold root_Pick.f
  have st : ∀ (e : Int × Bool × S_api_Super), loopM (root_Pick.s0 fu d) fu (0, false, 0, (0 : Int), (⟨(⟨(0 : Int), (0 : Int), (0 : Int)⟩ : S_api_Geometry), (0 : Int), (0 : Int), (0 : Int)⟩ : S_api_Tickets), (0 : Int), []) = some (e.1, e.2.1, e.2.2.Epoch, e.2.2.Tickets, e.2.2.Dir, e.2.2.Charts) → ((loopM (root_Pick.s0 fu d) fu (0, false, 0, (0 : Int), (⟨(⟨(0 : Int), (0 : Int), (0 : Int)⟩ : S_api_Geometry), (0 : Int), (0 : Int), (0 : Int)⟩ : S_api_Tickets), (0 : Int), [])).bind fun e12 => some ((⟨e12.2.2.1, e12.2.2.2.1, e12.2.2.2.2.1, e12.2.2.2.2.2⟩ : S_api_Super), e12.1, e12.2.1)) = some (e.2.2, e.1, e.2.1) := by
    intro e he
    rw [he]
    rfl
  have key : ∃ e : Int × Bool × S_api_Super, loopM (root_Pick.s0 fu d) fu (0, false, 0, (0 : Int), (⟨(⟨(0 : Int), (0 : Int), (0 : Int)⟩ : S_api_Geometry), (0 : Int), (0 : Int), (0 : Int)⟩ : S_api_Tickets), (0 : Int), []) = some (e.1, e.2.1, e.2.2.Epoch, e.2.2.Tickets, e.2.2.Dir, e.2.2.Charts) ∧ (e.2.2, e.1, e.2.1) = pick2 a b := by
    obtain ⟨k, rfl⟩ : ∃ k, fu = k + 1 + 1 + 1 := ⟨fu - 3, by omega⟩
    have hs0 : root_Pick.s0 (k + 1 + 1 + 1) d (0, false, 0, (0 : Int), (⟨(⟨(0 : Int), (0 : Int), (0 : Int)⟩ : S_api_Geometry), (0 : Int), (0 : Int), (0 : Int)⟩ : S_api_Tickets), (0 : Int), []) = some (.inr (0, a.2, 1, a.1.Epoch, a.1.Tickets, a.1.Dir, a.1.Charts)) := by
      unfold root_Pick.s0
      simp only [r0, Option.bind_some]
      cases h2 : a.2
      · rw [h0 h2]
        rfl
      · rfl
    have hs1 : root_Pick.s0 (k + 1 + 1 + 1) d (0, a.2, 1, a.1.Epoch, a.1.Tickets, a.1.Dir, a.1.Charts) = some (.inr ((pick2 a b).2.1, (pick2 a b).2.2, 2, (pick2 a b).1.Epoch, (pick2 a b).1.Tickets, (pick2 a b).1.Dir, (pick2 a b).1.Charts)) := by
      cases hb2 : b.2
      · rw [pick2_f hb2]
        unfold root_Pick.s0
        simp only [r1, Option.bind_some, hb2]
        rfl
      · cases ha2 : a.2
        · rw [pick2_t hb2 (.inl ha2)]
          unfold root_Pick.s0
          simp only [r1, Option.bind_some, hb2]
          rfl
        · by_cases hE : b.1.Epoch > a.1.Epoch
          · rw [pick2_t hb2 (.inr hE)]
            unfold root_Pick.s0
            simp only [r1, Option.bind_some, hb2, decide_eq_true hE]
            rfl
          · rw [pick2_n ha2 hE]
            unfold root_Pick.s0
            simp only [r1, Option.bind_some, hb2, decide_eq_false hE, ha2]
            rfl
    have hs2 : ∀ z, root_Pick.s0 (k + 1 + 1 + 1) d ((pick2 a b).2.1, (pick2 a b).2.2, 2, z) = some (.inl ((pick2 a b).2.1, (pick2 a b).2.2, z)) := by
      intro z
      unfold root_Pick.s0
      rfl
    refine ⟨((pick2 a b).2.1, (pick2 a b).2.2, (pick2 a b).1), ?_, rfl⟩
    unfold loopM
    rw [hs0]
    simp only []
    unfold loopM
    rw [hs1]
    simp only []
    unfold loopM
    rw [hs2]
  obtain ⟨e, he, hp⟩ := key
  rw [st e he, hp]
end Go.Proofs.Ytklhbaghbmndeaa.Pure
namespace Go.Proofs.Ytklhbaghbmndeaa
open Go Go.Xw
end Go.Proofs.Ytklhbaghbmndeaa
namespace Go.Proofs.Ytklhbaghbmndeaa.Pure
open Go Go.Xw
def andT (r : Int × Dev) (f : Dev → Int × Dev) : Int × Dev := if r.1 = 0 then f r.2 else r
def headD (p w : Int) (d : Dev) : Int × Dev := andT (wordD d p 0 w) fenceD
def tailD (p : Int) (ws : List Int) (d : Dev) : Int × Dev := andT (andT (putAll d (8 * p + 1) (ws.drop 1)) fun d => flushD d p) fenceD
def layW (p : Int) (ws : List Int) (d : Dev) : Int × Dev := andT (andT (headD p 0 d) (tailD p ws)) (headD p (ix ws 0))
def blockS (s : S_api_Super) : List Int := sealed (summed 7 (s.Charts.length : Int) (supE s))
def layD (p : Int) (s : S_api_Super) (d : Dev) : Int × Dev := if d.cells.length / 8 < 2 ∨ ¬ SupOk s ∨ ¬ (0 ≤ p ∧ p < 2) then (2, d) else layW p (wordsU (blockS s) 8) d
theorem andT_ok {n : Nat} {B C : Int} {r : Int × Dev} {f : Dev → Int × Dev} (h : DevOk n B r.2) (hf : ∀ d, DevOk n B d → DevOk n C (f d).2) (hc : B ≤ C) : DevOk n C (andT r f).2 := by
  unfold andT
  split
  · exact hf _ h
  · exact h.up hc
theorem word_ok {n : Nat} {B p i w : Int} {d : Dev} (h : DevOk n B d) (hw : U64 w) : DevOk n (B + 2) (wordD d p i w).2 := by
  unfold wordD
  split
  · exact (send_ok (k := p) (i := i) (ws := [w]) h (fun x hx => by rw [List.mem_singleton.1 hx]; exact hw)).up (by simp only [List.length_cons, List.length_nil]; omega)
  · exact h.up (by omega)
theorem head_ok {n : Nat} {B p w : Int} {d : Dev} (h : DevOk n B d) (hw : U64 w) : DevOk n (B + 3) (headD p w d).2 :=
  andT_ok (word_ok h hw) (fun d hd => (fence_ok hd).up (by omega)) (by omega)
theorem tail_ok {n : Nat} {B p : Int} {ws : List Int} {d : Dev} (h : DevOk n B d) (hw : ∀ w ∈ ws, U64 w) (hl : ws.length = 8) : DevOk n (B + 9) (tailD p ws d).2 := by
  have h1 := put_ok (k := 8 * p + 1) (ws := ws.drop 1) h (fun w hx => hw w (List.mem_of_mem_drop hx))
  rw [List.length_drop, hl] at h1
  exact andT_ok (B := B + 8) (andT_ok (B := B + 7) h1 (fun d hd => (flush_ok hd).up (by omega)) (by omega)) (fun d hd => (fence_ok hd).up (by omega)) (by omega)
theorem layW_ok {n : Nat} {B p : Int} {ws : List Int} {d : Dev} (h : DevOk n B d) (hw : ∀ w ∈ ws, U64 w) (hl : ws.length = 8) : DevOk n (B + 15) (layW p ws d).2 := by
  have h0 : U64 (ix ws 0) := by
    have : (0 : Int) = ((0 : Nat) : Int) := rfl
    rw [this, ix_nat (by omega)]
    exact hw _ (List.getElem_mem _)
  exact andT_ok (B := B + 12) (andT_ok (B := B + 3) (head_ok h (by unfold U64; decide)) (fun d hd => (tail_ok hd hw hl).up (by omega)) (by omega)) (fun d hd => (head_ok hd h0).up (by omega)) (by omega)
theorem blockS_words {s : S_api_Super} (h : SupOk s) : Bytes (blockS s) ∧ (blockS s).length = 64 := sup_sealed h
theorem layD_ok {n : Nat} {B p : Int} {s : S_api_Super} {d : Dev} (h : DevOk n B d) : DevOk n (B + 15) (layD p s d).2 := by
  unfold layD
  split
  · exact h.up (by omega)
  · rename_i q
    have hs : SupOk s := Classical.byContradiction fun z => q (.inr (.inl z))
    exact layW_ok h (words_U64 (blockS_words hs).1) (wordsU_len _ _)
theorem rmay_eq {fu : Nat} {d : Dev} (hl : d.cells.length ≤ 1000000) : root_may.f fu d = some (if d.cells.length / 8 < 2 then 2 else 0) := by
  unfold root_may.f
  rw [lines_eq hl]
  simp only [Option.bind_some]
  by_cases e : d.cells.length / 8 < 2
  · rw [decide_eq_true (show ((d.cells.length / 8 : Nat) : Int) < 2 by omega), if_pos rfl, if_pos e]
  · rw [decide_eq_false (show ¬ ((d.cells.length / 8 : Nat) : Int) < 2 by omega), if_neg (by decide), if_neg e]
theorem head_eq {fu n : Nat} {B p w : Int} {d : Dev} (h : DevOk n B d) (hB : B + 20 < 9223372036854775807) (hn : n ≤ 100000) (hw : U64 w) (hf : n + 2000 < fu) : root_head.f fu d p w = some (headD p w d) := by
  unfold root_head.f headD andT
  have h1 := word_ok (p := p) (i := 0) h hw
  rw [word_eq h (by omega) hn hw (by omega)]
  simp only [Option.bind_some]
  by_cases e : (wordD d p 0 w).1 = 0
  · rw [decide_eq_true e, if_neg (by decide), if_pos e, sure_eq h1 (by omega) hn (by omega)]
    rfl
  · rw [decide_eq_false e, if_pos (by decide), if_neg e]
theorem tail_loop {fu n : Nat} {line : Int} {ws : List Int} (hn : n ≤ 100000) (hw : ∀ w ∈ ws, U64 w) (hl : ws.length ≤ 1000) (hline : 0 ≤ line ∧ line ≤ 100000) : ∀ (r j : Nat) (B : Int) (d : Dev) (k : Nat), j + r = ws.length → DevOk n B d → B + (r : Int) < 9223372036854775807 → r < k →
    loopM (root_tail.s0 fu line ws) k (tup (j : Int) d) = some (if (putAll d (8 * line + (j : Int)) (ws.drop j)).1 = 0 then .inr ((putAll d (8 * line + (j : Int)) (ws.drop j)).2.cells, (putAll d (8 * line + (j : Int)) (ws.drop j)).2.plan.list, (putAll d (8 * line + (j : Int)) (ws.drop j)).2.plan.at_, (putAll d (8 * line + (j : Int)) (ws.drop j)).2.off, (putAll d (8 * line + (j : Int)) (ws.drop j)).2.armed, (putAll d (8 * line + (j : Int)) (ws.drop j)).2.left, (putAll d (8 * line + (j : Int)) (ws.drop j)).2.steps) else .inl (putAll d (8 * line + (j : Int)) (ws.drop j)))
  | r, j, B, d, 0, hj, h, hB, hk => by omega
  | 0, j, B, d, k + 1, hj, h, hB, hk => by
    unfold loopM
    have : j = ws.length := by omega
    subst this
    unfold root_tail.s0 tup
    rw [decide_eq_false (show ¬ ((ws.length : Int) < (ws.length : Int)) by omega), if_neg (by decide), List.drop_of_length_le (Nat.le_refl _)]
    rfl
  | r + 1, j, B, d, k + 1, hj, h, hB, hk => by
    have hjl : j < ws.length := by omega
    have hu := hw _ (List.getElem_mem hjl)
    have hst : pmem_Device_Store.f fu d (8 * line + (j : Int)) ws[j] = some (storeD d (8 * line + (j : Int)) ws[j]) := store_eq h (by omega) hu
    have w1 : IntKind.i64.wrap (line * 8) = 8 * line := by rw [w64 (by omega) (by omega)]; omega
    have w3 : IntKind.i64.wrap (8 * line + (j : Int)) = 8 * line + (j : Int) := w64 (by omega) (by omega)
    have hd : ws.drop j = ws[j] :: ws.drop (j + 1) := List.drop_eq_getElem_cons hjl
    unfold loopM
    have hs : root_tail.s0 fu line ws (tup (j : Int) d) = some (if (storeD d (8 * line + (j : Int)) ws[j]).1 = 0 then .inr (tup ((j + 1 : Nat) : Int) (storeD d (8 * line + (j : Int)) ws[j]).2) else .inl (.inl (storeD d (8 * line + (j : Int)) ws[j]))) := by
      unfold root_tail.s0 tup
      simp only [eta, w1, w3]
      rw [decide_eq_true (show (j : Int) < (ws.length : Int) by omega), if_pos rfl, if_pos (by omega), ix_nat hjl, hst, next64 hjl (by omega)]
      simp only [Option.bind_some]
      by_cases e : (storeD d (8 * line + (j : Int)) ws[j]).1 = 0
      · rw [decide_eq_true e, if_neg (by decide), if_pos e]
      · rw [decide_eq_false e, if_pos (by decide), if_neg e]
    rw [hs, hd]
    unfold putAll
    by_cases e : (storeD d (8 * line + (j : Int)) ws[j]).1 = 0
    · have ih := tail_loop (fu := fu) (n := n) (line := line) hn hw hl hline r (j + 1) (B + 1) (storeD d (8 * line + (j : Int)) ws[j]).2 k (by omega) (store_ok h hu) (by omega) (by omega)
      rw [show 8 * line + ((j + 1 : Nat) : Int) = 8 * line + (j : Int) + 1 from by omega] at ih
      rw [if_pos e, if_pos e]
      exact ih
    · rw [if_neg e, if_neg e]
      simp only [e, if_false]
theorem tail_eq {fu n : Nat} {B p : Int} {ws : List Int} {d : Dev} (h : DevOk n B d) (hB : B + 20 < 9223372036854775807) (hn : n ≤ 100000) (hw : ∀ w ∈ ws, U64 w) (hl : ws.length = 8) (hp : 0 ≤ p ∧ p ≤ 1000) (hf : n + 2000 < fu) : root_tail.f fu d p ws = some (tailD p ws d) := by
  unfold root_tail.f tailD andT
  have h1 := tail_loop (fu := fu) (line := p) hn hw (by omega) (by omega) 7 1 B d fu (by omega) h (by omega) (by omega)
  have h2 := put_ok (k := 8 * p + 1) (ws := ws.drop 1) h (fun w hx => hw w (List.mem_of_mem_drop hx))
  rw [List.length_drop, hl] at h2
  unfold tup at h1
  rw [show (((1 : Nat) : Int)) = 1 from rfl] at h1
  rw [h1]
  by_cases e : (putAll d (8 * p + 1) (ws.drop 1)).1 = 0
  · have h3 := flush_ok (k := p) h2
    rw [if_pos e, if_pos e]
    simp only [Option.bind_some, eta]
    rw [flush_eq h2 (by omega) (by omega) (by omega)]
    simp only [Option.bind_some]
    by_cases e2 : (flushD (putAll d (8 * p + 1) (ws.drop 1)).2 p).1 = 0
    · rw [decide_eq_true e2, if_neg (by decide), if_pos e2, sure_eq h3 (by omega) hn (by omega)]
      rfl
    · rw [decide_eq_false e2, if_pos (by decide), if_neg e2]
  · rw [if_neg e, if_neg e, if_neg e]
    rfl
theorem lay_dev {fu n : Nat} {B p : Int} {s : S_api_Super} {d : Dev} (h : DevOk n B d) (hB : B + 60 < 9223372036854775807) (hn : n ≤ 100000) (hf : n + 2000 < fu) : root_Lay.f fu d p s = some (layD p s d) := by
  unfold root_Lay.f
  have hlen := h.len
  rw [rmay_eq (by omega), superPut_eq (by omega)]
  simp only [Option.bind_some]
  by_cases h1 : d.cells.length / 8 < 2
  · have e1 : layD p s d = (2, d) := if_pos (.inl h1)
    rw [if_pos h1, if_pos (by decide), e1]
  rw [if_neg h1, if_neg (by decide)]
  by_cases h2 : SupOk s
  rotate_left
  · have e1 : layD p s d = (2, d) := if_pos (.inr (.inl h2))
    rw [if_neg h2, e1]
    rfl
  rw [if_pos h2]
  by_cases h3 : 0 ≤ p ∧ p < 2
  rotate_left
  · have : (if (!true) = true then true else (if (decide (p < 0)) = true then true else (decide (p ≥ 2)))) = true := by
      by_cases h0 : p < 0
      · rw [decide_eq_true h0]; rfl
      · rw [decide_eq_false h0, decide_eq_true (show p ≥ 2 by omega)]; rfl
    have e1 : layD p s d = (2, d) := if_pos (.inr (.inr h3))
    rw [if_pos this, e1]
  have : ¬ (if (!true) = true then true else (if (decide (p < 0)) = true then true else (decide (p ≥ 2)))) = true := by
    rw [decide_eq_false (show ¬ p < 0 by omega), decide_eq_false (show ¬ p ≥ 2 by omega)]
    decide
  have e1 : layD p s d = layW p (wordsU (blockS s) 8) d := if_neg (fun q => by
    rcases q with q | q | q
    · exact h1 q
    · exact q h2
    · exact q h3)
  rw [if_neg this, e1]
  obtain ⟨b1, b2⟩ := blockS_words h2
  have hwo : octet_Words.f fu (sealed (summed 7 (s.Charts.length : Int) (supE s))) = some (wordsU (blockS s) 8) := words_eq (n := 8) b1 (by show (blockS s).length = _; omega) (by decide) (by omega)
  have hwu := words_U64 (n := 8) b1
  have hwl : (wordsU (blockS s) 8).length = 8 := wordsU_len _ _
  rw [hwo]
  generalize wordsU (blockS s) 8 = ws at *
  have h0 : U64 (ix ws 0) := by
    have : (0 : Int) = ((0 : Nat) : Int) := rfl
    rw [this, ix_nat (by omega)]
    exact hwu _ (List.getElem_mem _)
  have k1 := head_ok (p := p) (w := 0) h (by unfold U64; decide)
  simp only [Option.bind_some]
  rw [head_eq h (by omega) hn (by unfold U64; decide) hf]
  unfold layW andT
  simp only [Option.bind_some]
  by_cases e1 : (headD p 0 d).1 = 0
  · have k2 := tail_ok (p := p) k1 hwu hwl
    rw [decide_eq_true e1, if_neg (by decide), tail_eq k1 (by omega) hn hwu hwl (by omega) hf, if_pos e1]
    simp only [Option.bind_some]
    by_cases e2 : (tailD p ws (headD p 0 d).2).1 = 0
    · rw [decide_eq_true e2, if_neg (by decide), if_pos (by omega), head_eq k2 (by omega) hn h0 hf, if_pos e2]
      rfl
    · rw [decide_eq_false e2, if_pos (by decide), if_neg e2]
  · rw [decide_eq_false e1, if_pos (by decide)]
    simp only [e1, if_false]
theorem word_len (d : Dev) (p i w : Int) : (wordD d p i w).2.cells.length = d.cells.length := by
  unfold wordD
  split
  · exact send_len _ _ _ _
  · rfl
theorem andT_len {r : Int × Dev} {f : Dev → Int × Dev} {n : Nat} (h : r.2.cells.length = n) (hf : ∀ d : Dev, d.cells.length = n → (f d).2.cells.length = n) : (andT r f).2.cells.length = n := by
  unfold andT
  split
  · exact hf _ h
  · exact h
theorem head_len (d : Dev) (p w : Int) : (headD p w d).2.cells.length = d.cells.length := andT_len (word_len _ _ _ _) fun e he => by rw [fence_len]; exact he
theorem tail_len (d : Dev) (p : Int) (ws : List Int) : (tailD p ws d).2.cells.length = d.cells.length := andT_len (andT_len (put_len _ _ _) fun e he => by rw [flush_len]; exact he) fun e he => by rw [fence_len]; exact he
def Keeps (R : Cell → Prop) (i : Nat) (f : Dev → Int × Dev) : Prop := ∀ d : Dev, i < d.cells.length → R (cellA d i) → R (cellA (f d).2 i) ∧ i < (f d).2.cells.length
theorem keeps_and {R : Cell → Prop} {i : Nat} {f g : Dev → Int × Dev} (hf : Keeps R i f) (hg : Keeps R i g) : Keeps R i (fun d => andT (f d) g) := by
  intro d hi h
  have h1 := hf d hi h
  show R (cellA (andT (f d) g).2 i) ∧ i < (andT (f d) g).2.cells.length
  unfold andT
  split
  · exact hg _ h1.2 h1.1
  · exact h1
theorem keeps_fence (Φ : Int → Prop) (i : Nat) : Keeps (CellP Φ) i fenceD := fun d hi h => ⟨cell_fence hi h, by rw [fence_len]; exact hi⟩
theorem keeps_flush (Φ : Int → Prop) (i : Nat) (p : Int) : Keeps (CellP Φ) i (fun d => flushD d p) := fun d hi h => ⟨cell_flush hi h, by rw [flush_len]; exact hi⟩
theorem keeps_word {Φ : Int → Prop} {i : Nat} {p k w : Int} (hw : 0 ≤ k → k < 8 → 8 * p + k = (i : Int) → Φ w) : Keeps (CellP Φ) i (fun d => wordD d p k w) := fun d hi h => ⟨cell_word hi h hw, by rw [word_len]; exact hi⟩
theorem keeps_put {Φ : Int → Prop} {i : Nat} {k : Int} {ws : List Int} (hw : ∀ j : Nat, j < ws.length → k + (j : Int) = (i : Int) → Φ (ix ws (j : Int))) : Keeps (CellP Φ) i (fun d => putAll d k ws) := fun d hi h => ⟨cell_put hi h hw, by rw [put_len]; exact hi⟩
theorem keeps_head {Φ : Int → Prop} {i : Nat} {p w : Int} (hw : 8 * p = (i : Int) → Φ w) : Keeps (CellP Φ) i (headD p w) := keeps_and (keeps_word fun _ _ e => hw (by omega)) (keeps_fence Φ i)
theorem drop1 {ws : List Int} {j : Nat} (hj : j < (ws.drop 1).length) : ix (ws.drop 1) (j : Int) = ix ws ((j + 1 : Nat) : Int) := by
  rw [ix_nat hj, ix_nat (by rw [List.length_drop] at hj; omega), List.getElem_drop]
  congr 1
  omega
theorem keeps_tail {Φ : Int → Prop} {i : Nat} {p : Int} {ws : List Int} (hw : ∀ j : Nat, 1 ≤ j → j < ws.length → 8 * p + (j : Int) = (i : Int) → Φ (ix ws (j : Int))) : Keeps (CellP Φ) i (tailD p ws) :=
  keeps_and (keeps_and (keeps_put fun j hj e => by
    rw [drop1 hj]
    rw [List.length_drop] at hj
    exact hw (j + 1) (by omega) (by omega) (by omega)) (keeps_flush Φ i p)) (keeps_fence Φ i)
theorem keeps_lay {Φ : Int → Prop} {i : Nat} {p : Int} {ws : List Int} (hl : ws.length = 8) (hi : ¬ (8 * p ≤ (i : Int) ∧ (i : Int) < 8 * p + 8)) : Keeps (CellP Φ) i (layW p ws) :=
  keeps_and (keeps_and (keeps_head fun e => by exfalso; omega) (keeps_tail fun j h1 h2 e => by exfalso; omega)) (keeps_head fun e => by exfalso; omega)
theorem andT_zero {r : Int × Dev} {f : Dev → Int × Dev} (h : (andT r f).1 = 0) : r.1 = 0 ∧ (f r.2).1 = 0 ∧ (andT r f).2 = (f r.2).2 := by
  unfold andT at h ⊢
  by_cases e : r.1 = 0
  · rw [if_pos e] at h
    rw [if_pos e]
    exact ⟨e, h, rfl⟩
  · rw [if_neg e] at h
    exact absurd h e
theorem wordZ {d : Dev} {p i w : Int} (h : (wordD d p i w).1 = 0) : inL d p ∧ (0 ≤ i ∧ i < 8) ∧ (sendD d p i [w]).1 = 0 ∧ wordD d p i w = sendD d p i [w] := by
  unfold wordD at h ⊢
  by_cases e : inL d p ∧ 0 ≤ i ∧ i < 8
  · rw [if_pos e] at h
    exact ⟨e.1, e.2, h, if_pos e⟩
  · rw [if_neg e] at h
    exact absurd (show (2 : Int) = 0 from h) (by decide)
theorem head_done {d : Dev} {p : Nat} {w : Int} (hl : 8 * p + 8 ≤ d.cells.length) (h : (headD (p : Int) w d).1 = 0) : CellP (fun x => x = w) (cellA (headD (p : Int) w d).2 (8 * p)) := by
  obtain ⟨h1, h2, h3⟩ := andT_zero h
  obtain ⟨_, _, h4, h5⟩ := wordZ h1
  have h6 := send_st2 (first := 0) (ws := [w]) h4 (by simp) hl 0 (by simp)
  have e : ix [w] ((0 : Nat) : Int) = w := rfl
  rw [e] at h6
  rw [show headD (p : Int) w d = andT (wordD d (p : Int) 0 w) fenceD from rfl, h3]
  rw [h5] at h2 ⊢
  exact st2_fence (by rw [send_len]; omega) h6 (fence_zero h2)
theorem tail_done {d : Dev} {p : Nat} {ws : List Int} (hw : ws.length = 8) (hl : 8 * p + 8 ≤ d.cells.length) (h : (tailD (p : Int) ws d).1 = 0) (j : Nat) (h1j : 1 ≤ j) (hj : j < 8) : CellP (fun x => x = ix ws (j : Int)) (cellA (tailD (p : Int) ws d).2 (8 * p + j)) := by
  obtain ⟨h1, h2, h3⟩ := andT_zero h
  obtain ⟨h4, h5, h6⟩ := andT_zero h1
  obtain ⟨ho, _, hl2⟩ := flush_zero h5
  have hlen : (ws.drop 1).length = 7 := by rw [List.length_drop, hw]
  have ek : 8 * (p : Int) + 1 = ((8 * p + 1 : Nat) : Int) := by omega
  have hs := put_st1 (ws := ws.drop 1) (d := d) (k := 8 * p + 1) (by rw [← ek]; exact h4) (j - 1) (by omega)
  rw [← ek, drop1 (by omega), show j - 1 + 1 = j from by omega, show 8 * p + 1 + (j - 1) = 8 * p + j from by omega] at hs
  have hs2 := st1_flush (k := (p : Int)) (by rw [put_len]; omega) hs ho (by omega) hl2 (by omega)
  rw [show tailD (p : Int) ws d = andT (andT (putAll d (8 * (p : Int) + 1) (ws.drop 1)) fun d => flushD d (p : Int)) fenceD from rfl, h3]
  rw [h6] at h2 ⊢
  exact st2_fence (by rw [flush_len, put_len]; omega) hs2 (fence_zero h2)
theorem lay_cases {d : Dev} {p : Nat} {ws av : List Int} (hw : ws.length = 8) (hl : 8 * p + 8 ≤ d.cells.length) (ha : ∀ i : Nat, i < 8 → CellP (fun x => x = ix av (i : Int)) (cellA d (8 * p + i))) :
    ((layW (p : Int) ws d).1 = 0 → ∀ i : Nat, i < 8 → CellP (fun x => x = ix ws (i : Int)) (cellA (layW (p : Int) ws d).2 (8 * p + i))) ∧
    ((CellP (fun x => x = ix av 0 ∨ x = 0) (cellA (layW (p : Int) ws d).2 (8 * p)) ∧ ∀ i : Nat, 1 ≤ i → i < 8 → CellP (fun x => x = ix av (i : Int)) (cellA (layW (p : Int) ws d).2 (8 * p + i))) ∨
     CellP (fun x => x = 0) (cellA (layW (p : Int) ws d).2 (8 * p)) ∨
     (CellP (fun x => x = 0 ∨ x = ix ws 0) (cellA (layW (p : Int) ws d).2 (8 * p)) ∧ ∀ i : Nat, 1 ≤ i → i < 8 → CellP (fun x => x = ix ws (i : Int)) (cellA (layW (p : Int) ws d).2 (8 * p + i)))) := by
  have a0 := ha 0 (by decide)
  rw [show 8 * p + 0 = 8 * p from rfl, show (((0 : Nat) : Int)) = 0 from rfl] at a0
  -- the first word is made nought
  have H1 : CellP (fun x => x = ix av 0 ∨ x = 0) (cellA (headD (p : Int) 0 d).2 (8 * p)) := (keeps_head (fun _ => .inr rfl) d (by omega) (a0.mono fun x h => .inl h)).1
  have H1' : ∀ i : Nat, 1 ≤ i → i < 8 → CellP (fun x => x = ix av (i : Int)) (cellA (headD (p : Int) 0 d).2 (8 * p + i)) := fun i h1 h2 => (keeps_head (fun e => by exfalso; omega) d (by omega) (ha i h2)).1
  by_cases e1 : (headD (p : Int) 0 d).1 = 0
  rotate_left
  · have el : layW (p : Int) ws d = headD (p : Int) 0 d := by
      unfold layW andT
      simp only [e1, if_false]
    rw [el]
    exact ⟨fun h => absurd h e1, .inl ⟨H1, H1'⟩⟩
  have Z1 := head_done hl e1
  have l1 := head_len d (p : Int) 0
  generalize hE1 : (headD (p : Int) 0 d).2 = E1 at *
  have H2 : CellP (fun x => x = 0) (cellA (tailD (p : Int) ws E1).2 (8 * p)) := (keeps_tail (fun j h1 h2 e => by exfalso; omega) E1 (by omega) Z1).1
  by_cases e2 : (tailD (p : Int) ws E1).1 = 0
  rotate_left
  · have el : layW (p : Int) ws d = tailD (p : Int) ws E1 := by
      unfold layW andT
      simp only [e1, if_true, hE1, e2, if_false]
    rw [el]
    exact ⟨fun h => absurd h e2, .inr (.inl H2)⟩
  have Z2 := tail_done hw (by omega) e2
  have l2 := tail_len E1 (p : Int) ws
  have el : layW (p : Int) ws d = headD (p : Int) (ix ws 0) (tailD (p : Int) ws E1).2 := by
    unfold layW andT
    simp only [e1, if_true, hE1, e2]
  rw [el]
  generalize hE2 : (tailD (p : Int) ws E1).2 = E2 at *
  have H3 : CellP (fun x => x = 0 ∨ x = ix ws 0) (cellA (headD (p : Int) (ix ws 0) E2).2 (8 * p)) := (keeps_head (fun _ => .inr rfl) E2 (by omega) (H2.mono fun x h => .inl h)).1
  have H3' : ∀ i : Nat, 1 ≤ i → i < 8 → CellP (fun x => x = ix ws (i : Int)) (cellA (headD (p : Int) (ix ws 0) E2).2 (8 * p + i)) := fun i h1 h2 => (keeps_head (fun e => by exfalso; omega) E2 (by omega) (Z2 i h1 h2)).1
  refine ⟨fun h i hi => ?_, .inr (.inr ⟨H3, H3'⟩)⟩
  by_cases h0 : i = 0
  · subst h0
    have := head_done (d := E2) (p := p) (w := ix ws 0) (by omega) h
    exact this
  · exact H3' i (by omega) hi
theorem inL_of {d e : Dev} {p : Int} (h : inL d p) (hl : e.cells.length = d.cells.length) : inL e p := by
  unfold inL at h ⊢
  rw [hl]
  exact h
theorem getS_nought {C : List Int} (h : C.length = 8) (h0 : ix C 0 = 0) : (getS (octs C)).2 = false := by
  unfold getS
  rw [if_neg]
  rintro ⟨_, h7, _⟩
  have : ix (octs C) 4 = 0 := by
    obtain ⟨c, t, rfl⟩ : ∃ c t, C = c :: t := by
      cases C with
      | nil => simp at h
      | cons c t => exact ⟨c, t, rfl⟩
    have hc : c = 0 := by simpa [ix] using h0
    subst hc
    have e : octs (0 :: t) = lay 0 8 ++ octs t := by simp [octs]
    rw [e, show (4 : Int) = ((4 : Nat) : Int) from rfl, ix_nat (by rw [List.length_append, lay_len]; omega), List.getElem_append_left (by rw [lay_len]; decide)]
    simp [lay]
  rw [this] at h7
  exact absurd h7 (by decide)
theorem getS_block {s : S_api_Super} (h : SupOk s) : getS (blockS s) = (s, true) := by
  obtain ⟨g1, g2⟩ := sup_get h
  unfold getS blockS
  rw [if_pos g1, g2]
theorem readS_line {d : Dev} {p : Nat} (hp : p < 2) (hl : 8 * p + 8 ≤ d.cells.length) (ho : d.off = false) : readS d (p : Int) = getS (octs (lineC d (p : Int))) := by
  unfold readS
  rw [if_pos ⟨by omega, ⟨by omega, by omega⟩, ho⟩]
theorem cut_small {fu : Nat} (c : S_rickyardlaw16_Cut) : rickyardlaw16_Cut_small.f fu c = some (decide (c.Plan.length ≤ 40 ∧ c.L.length ≤ 40)) := by
  unfold rickyardlaw16_Cut_small.f
  by_cases h1 : c.Plan.length ≤ 40
  · rw [decide_eq_true (show (c.Plan.length : Int) ≤ 40 by omega), if_pos rfl]
    by_cases h2 : c.L.length ≤ 40
    · rw [decide_eq_true (show (c.L.length : Int) ≤ 40 by omega), decide_eq_true ⟨h1, h2⟩]
    · rw [decide_eq_false (show ¬ (c.L.length : Int) ≤ 40 by omega), decide_eq_false (fun q => h2 q.2)]
  · rw [decide_eq_false (show ¬ (c.Plan.length : Int) ≤ 40 by omega), if_neg (by decide), decide_eq_false (fun q => h1 q.1)]
end Go.Proofs.Ytklhbaghbmndeaa.Pure
namespace Go.Proofs.Ytklhbaghbmndeaa
open Go Go.Xw
end Go.Proofs.Ytklhbaghbmndeaa
namespace Go.Proofs.Ytklhbaghbmndeaa.Pure
open Go Go.Xw
def Since (d : Dev) (s : Int) : Prop := d.plan.list.length ≠ 0 → d.plan.at_ = s % (d.plan.list.length : Int)
structure RefOk (n : Nat) (B : Int) (d : Dev) (b : Int) : Prop where
  ok : DevOk n B d
  b0 : 0 ≤ b
  b1 : b ≤ d.steps
  si : Since d (d.steps - b)
theorem RefOk.up {n : Nat} {B C b : Int} {d : Dev} (h : RefOk n B d b) (hc : B ≤ C) : RefOk n C d b := ⟨h.ok.up hc, h.b0, h.b1, h.si⟩
end Go.Proofs.Ytklhbaghbmndeaa.Pure
namespace Go.Proofs.Ytklhbaghbmndeaa
open Go Go.Xw
end Go.Proofs.Ytklhbaghbmndeaa
namespace Go.Proofs.Ytklhbaghbmndeaa.Pure
open Go Go.Xw
end Go.Proofs.Ytklhbaghbmndeaa.Pure
namespace Go.Proofs.Ytklhbaghbmndeaa
open Go Go.Xw
end Go.Proofs.Ytklhbaghbmndeaa
namespace Go.Proofs.Ytklhbaghbmndeaa.Pure
open Go Go.Xw
def SmallP (acts : List S_rickyardlaw15_Act) (m : Nat) : Prop := acts.length ≤ m ∧ ∀ a ∈ acts, a.B.length ≤ 200 ∧ a.A.L.length ≤ 40
instance (acts : List S_rickyardlaw15_Act) (m : Nat) : Decidable (SmallP acts m) := inferInstanceAs (Decidable (_ ∧ _))
end Go.Proofs.Ytklhbaghbmndeaa.Pure
namespace Go.Proofs.Ytklhbaghbmndeaa
open Go Go.Xw
end Go.Proofs.Ytklhbaghbmndeaa
namespace Go.Proofs.Ytklhbaghbmndeaa.Pure
open Go Go.Xw
theorem un_head {d : Dev} {p w : Int} (h : Un d) (hp : inL d p) : (headD p w d).1 = 0 ∧ Un (headD p w d).2 := by
  have h1 := un_send (first := 0) (ws := [w]) h hp (by simp)
  have hwd : wordD d p 0 w = sendD d p 0 [w] := by
    unfold wordD
    rw [if_pos ⟨hp, by decide, by decide⟩]
  have h2 := un_fence h1.2.1
  unfold headD andT
  rw [hwd, if_pos h1.1]
  exact ⟨h2.1, h2.2.1⟩
theorem un_tail {d : Dev} {p : Int} {ws : List Int} (hw : ws.length = 8) (h : Un d) (hp : inL d p) : (tailD p ws d).1 = 0 ∧ Un (tailD p ws d).2 := by
  have hin := hp
  unfold inL at hin
  have hlen : (ws.drop 1).length = 7 := by rw [List.length_drop, hw]
  obtain ⟨a1, a2, _⟩ := un_put (ws := ws.drop 1) (k := 8 * p + 1) h (by omega) (by rw [hlen]; omega)
  obtain ⟨b1, b2, _⟩ := un_flush (k := p) a2 hin.1 (by rw [put_len]; exact hin.2)
  have c := un_fence b2
  unfold tailD andT
  simp only [a1, if_true, b1]
  exact ⟨c.1, c.2.1⟩
theorem un_lay {d : Dev} {p : Int} {ws : List Int} (hw : ws.length = 8) (h : Un d) (hp : inL d p) : (layW p ws d).1 = 0 ∧ Un (layW p ws d).2 := by
  obtain ⟨a1, a2⟩ := un_head (w := 0) h hp
  obtain ⟨b1, b2⟩ := un_tail hw a2 (inL_of hp (head_len _ _ _))
  have c := un_head (w := ix ws 0) b2 (inL_of hp (by rw [tail_len, head_len]))
  unfold layW andT
  simp only [a1, if_true, b1]
  exact c
theorem awake16 : rickyardlaw16_awake.f FU = some true := by decide +kernel
def okS (s : S_api_Super) : Prop := ¬ (s.Charts.length : Int) > 60 ∧ SupOk s
instance (s : S_api_Super) : Decidable (okS s) := by unfold okS; exact inferInstance
theorem super_eta (s : S_api_Super) : (⟨s.Epoch, (⟨s.Tickets.Geometry, s.Tickets.Top, s.Tickets.High, s.Tickets.Free⟩ : S_api_Tickets), s.Dir, s.Charts⟩ : S_api_Super) = s := rfl
theorem commits_step {fu j : Nat} {a : Arr 3 S_api_Super} (hf : 2000 < fu) (hj : j < 3) : rickyardlaw16_RootCommits.s0 fu a (j : Int) = some (if okS (Arr.get a (j : Int)) then .inr ((j + 1 : Nat) : Int) else .inl (.inl true)) := by
  unfold rickyardlaw16_RootCommits.s0
  simp only [super_eta]
  have hc : 0 ≤ (j : Int) ∧ (j : Int) < 3 := by omega
  rw [decide_eq_true (show (j : Int) < 3 by omega), if_pos rfl, next64 hj (by decide)]
  simp only [if_pos hc]
  generalize Arr.get a (j : Int) = s
  by_cases h : (s.Charts.length : Int) > 60
  · rw [decide_eq_true h, if_pos rfl, if_neg (show ¬ okS s from fun q => q.1 h)]
    rfl
  · rw [decide_eq_false h, if_neg (by decide), rsuperRight_eq (by omega)]
    simp only [Option.bind_some]
    by_cases hR : SupOk s
    · rw [decide_eq_true hR, if_pos (show okS s from ⟨h, hR⟩)]
      rfl
    · rw [decide_eq_false hR, if_neg (show ¬ okS s from fun q => hR q.2)]
      rfl
theorem commits_loop {fu : Nat} {a : Arr 3 S_api_Super} (hf : 2000 < fu) : loopM (rickyardlaw16_RootCommits.s0 fu a) fu 0 = some (if okS (Arr.get a 0) ∧ okS (Arr.get a 1) ∧ okS (Arr.get a 2) then .inr () else .inl true) := by
  have h0 := commits_step (a := a) hf (show 0 < 3 by decide)
  have h1 := commits_step (a := a) hf (show 1 < 3 by decide)
  have h2 := commits_step (a := a) hf (show 2 < 3 by decide)
  rw [show (((0 : Nat) : Int)) = 0 from rfl, show (((0 + 1 : Nat) : Int)) = 1 from rfl] at h0
  rw [show (((1 : Nat) : Int)) = 1 from rfl, show (((1 + 1 : Nat) : Int)) = 2 from rfl] at h1
  rw [show (((2 : Nat) : Int)) = 2 from rfl, show (((2 + 1 : Nat) : Int)) = 3 from rfl] at h2
  have h3 : rickyardlaw16_RootCommits.s0 fu a 3 = some (.inl (.inr ())) := rfl
  generalize hs : rickyardlaw16_RootCommits.s0 fu a = st at *
  obtain ⟨q, hq⟩ : ∃ q, fu = q + 1 + 1 + 1 + 1 := ⟨fu - 4, by omega⟩
  rw [hq]
  unfold loopM
  rw [h0]
  by_cases k0 : okS (Arr.get a 0)
  rotate_left
  · rw [if_neg k0, if_neg (fun z => k0 z.1)]
  rw [if_pos k0]
  simp only []
  unfold loopM
  rw [h1]
  by_cases k1 : okS (Arr.get a 1)
  rotate_left
  · rw [if_neg k1, if_neg (fun z => k1 z.2.1)]
  rw [if_pos k1]
  simp only []
  unfold loopM
  rw [h2]
  by_cases k2 : okS (Arr.get a 2)
  rotate_left
  · rw [if_neg k2, if_neg (fun z => k2 z.2.2)]
  rw [if_pos k2]
  simp only []
  unfold loopM
  rw [h3, if_pos ⟨k0, k1, k2⟩]
theorem cutP_ok {n : Nat} {B : Int} {d : Dev} {pl : List Int} {k : Nat} (h : DevOk n B d) (ho : d.off = false) (hp : pl.length ≤ 40) (hk : k ≤ 1000) : DevOk n B (armD (planD d pl) (k : Int)) ∧ Arm (armD (planD d pl) (k : Int)) k ∧ (armD (planD d pl) (k : Int)).cells = d.cells := by
  have h1 : DevOk n B (planD d pl) := plan_ok h (by omega)
  refine ⟨arm_ok h1 (by unfold I64; omega), ?_, ?_⟩
  · unfold armD
    rw [if_neg (show ¬ (planD d pl).off = true by intro q; rw [show (planD d pl).off = d.off from rfl, ho] at q; cases q)]
    refine ⟨show decide ((k : Int) ≥ 0) = true from decide_eq_true (by omega), rfl, ?_⟩
    show decide ((k : Int) = 0) = decide (k = 0)
    by_cases e : k = 0
    · rw [decide_eq_true e, decide_eq_true (by omega)]
    · rw [decide_eq_false e, decide_eq_false (by omega)]
  · unfold armD
    split <;> rfl
theorem cutP_form {d : Dev} {pl : List Int} {k : Int} : (⟨(planD d pl).cells, (⟨(planD d pl).plan.list, (armD (planD d pl) k).plan.at_⟩ : S_pmem_plan), (armD (planD d pl) k).off, (armD (planD d pl) k).armed, (armD (planD d pl) k).left, (armD (planD d pl) k).steps⟩ : S_pmem_Device) = armD (planD d pl) k := by
  unfold armD
  split <;> rfl
theorem lineC_ix' {d : Dev} {p i : Nat} (hi : i < 8) : ix (lineC d (p : Int)) (i : Int) = (cellA d (8 * p + i)).stored := by
  rw [ix_nat (by simp [lineC]; exact hi)]
  simp only [lineC, List.getElem_map, List.getElem_range]
  rw [show 8 * (p : Int) + (i : Int) = ((8 * p + i : Nat) : Int) from by omega]
  rfl
theorem newD_cell {n i : Nat} (hi : i < n) : CellP (fun x => x = 0) (cellA (newD n) i) := by
  unfold cellA newD
  rw [ix_nat (by simpa using hi), List.getElem_replicate]
  exact ⟨rfl, rfl, fun e => (by cases e)⟩
theorem ix_zeros {i : Nat} (hi : i < 8) : ix (List.replicate 8 (0 : Int)) (i : Int) = 0 := by
  rw [ix_nat (by simpa using hi), List.getElem_replicate]
theorem pick_new {d : Dev} {p : Nat} {s1 s2 : S_api_Super} (hp : p < 2) (h1 : readS d ((1 - p : Nat) : Int) = (s1, true)) (h2 : readS d (p : Int) = (s2, true)) (hE : s1.Epoch < s2.Epoch) : pick2 (readS d 0) (readS d 1) = (s2, (p : Int), true) := by
  obtain rfl | rfl : p = 0 ∨ p = 1 := by omega
  · have a1 : readS d 1 = (s1, true) := h1
    have a0 : readS d 0 = (s2, true) := h2
    rw [a0, a1, pick2_n rfl (show ¬ s1.Epoch > s2.Epoch by omega)]
    rfl
  · have a1 : readS d 0 = (s1, true) := h1
    have a0 : readS d 1 = (s2, true) := h2
    rw [a0, a1, pick2_t rfl (.inr (show s2.Epoch > s1.Epoch by omega))]
    rfl
theorem pick_old {d : Dev} {p : Nat} {s1 : S_api_Super} (hp : p < 2) (h1 : readS d ((1 - p : Nat) : Int) = (s1, true)) (h2 : (readS d (p : Int)).2 = false ∨ ∃ s0 : S_api_Super, readS d (p : Int) = (s0, true) ∧ s0.Epoch < s1.Epoch) : pick2 (readS d 0) (readS d 1) = (s1, ((1 - p : Nat) : Int), true) := by
  obtain rfl | rfl : p = 0 ∨ p = 1 := by omega
  · have a1 : readS d 1 = (s1, true) := h1
    rw [a1]
    rcases h2 with h | ⟨s0, h, hE⟩
    · have h' : (readS d 0).2 = false := h
      rw [pick2_t rfl (.inl h')]
      rfl
    · have a0 : readS d 0 = (s0, true) := h
      rw [a0, pick2_t rfl (.inr (show s1.Epoch > s0.Epoch by omega))]
      rfl
  · have a1 : readS d 0 = (s1, true) := h1
    rw [a1]
    rcases h2 with h | ⟨s0, h, hE⟩
    · have h' : (readS d 1).2 = false := h
      rw [pick2_f h']
      rfl
    · have a0 : readS d 1 = (s0, true) := h
      rw [a0, pick2_n rfl (show ¬ s0.Epoch > s1.Epoch by omega)]
      rfl
theorem RootCommits : ∀ (a0 : Arr 3 S_api_Super) (a1 : S_rickyardlaw16_Cut), (∀ x ∈ a0.l, ok_api_Super x) → ok_rickyardlaw16_Cut a1 → ∃ fu, rickyardlaw16_RootCommits.f fu a0 a1 = some true := by
  intro a c ha hc
  refine ⟨FU, ?_⟩
  unfold rickyardlaw16_RootCommits.f
  simp only [super_eta]
  rw [awake16, cut_small, Option.bind_some, if_neg (show ¬ (!true) = true by decide), Option.bind_some, Option.bind_some]
  by_cases hS : c.Plan.length ≤ 40 ∧ c.L.length ≤ 40
  rotate_left
  · rw [decide_eq_false hS]
    rfl
  rw [decide_eq_true hS, if_neg (show ¬ (!true) = true by decide), commits_loop (by decide), Option.bind_some]
  generalize Arr.get a 0 = s0
  generalize Arr.get a 1 = s1
  generalize Arr.get a 2 = s2
  by_cases hok : okS s0 ∧ okS s1 ∧ okS s2
  rotate_left
  · rw [if_neg hok]
  rw [if_pos hok]
  obtain ⟨⟨_, hR0⟩, ⟨_, hR1⟩, ⟨_, hR2⟩⟩ := hok
  simp only []
  by_cases hE1 : s0.Epoch ≥ s1.Epoch
  · rw [decide_eq_true hE1]
    rfl
  rw [decide_eq_false hE1, if_neg (show ¬ false = true by decide)]
  by_cases hE2 : s1.Epoch ≥ s2.Epoch
  · rw [decide_eq_true hE2]
    rfl
  rw [decide_eq_false hE2, if_neg (show ¬ false = true by decide)]
  have h8 := wf8.1 hc.1
  obtain ⟨p, hp⟩ : ∃ p : Nat, Int.tmod (IntKind.i64.wrap c.Steps) 2 = (p : Int) := ⟨(c.Steps % 2).toNat, by
    rw [w64 (by omega) (by omega), Int.tmod_eq_emod_of_nonneg h8.1]
    omega⟩
  have hp2 : p < 2 := by
    rw [w64 (by omega) (by omega), Int.tmod_eq_emod_of_nonneg h8.1] at hp
    omega
  obtain ⟨k, hk⟩ : ∃ k : Nat, Int.tmod (IntKind.i64.wrap (Int.tdiv (IntKind.i64.wrap c.Steps) 2)) 20 = (k : Int) := ⟨(c.Steps / 2 % 20).toNat, by
    rw [w64 (n := c.Steps) (by omega) (by omega), Int.tdiv_eq_ediv_of_nonneg h8.1, w64 (by omega) (by omega), Int.tmod_eq_emod_of_nonneg (by omega)]
    omega⟩
  have hk20 : k < 20 := by
    rw [w64 (n := c.Steps) (by omega) (by omega), Int.tdiv_eq_ediv_of_nonneg h8.1, w64 (by omega) (by omega), Int.tmod_eq_emod_of_nonneg (by omega)] at hk
    omega
  have w1 : IntKind.i64.wrap (1 - (p : Int)) = ((1 - p : Nat) : Int) := by rw [w64 (by omega) (by omega)]; omega
  have hnew : pmem_New.f FU 2 = some (some (newD 16), 0) := new_eq (k := 2) (by decide)
  rw [hp, hk, w1, hnew]
  simp only [Option.bind_some, Option.elim]
  have hd0 := newD_ok 16
  have hl0 := hd0.len
  have hu0 : Un (newD 16) := ⟨rfl, rfl⟩
  have W : ∀ s : S_api_Super, (wordsU (blockS s) 8).length = 8 := fun s => wordsU_len _ _
  have el : ∀ (q : Nat) (s : S_api_Super) (d : Dev), q < 2 → SupOk s → d.cells.length = 16 → layD (q : Int) s d = layW (q : Int) (wordsU (blockS s) 8) d := fun q s d hq hs hd => if_neg (fun z => by
    rcases z with z | z | z
    · omega
    · exact z hs
    · omega)
  -- the first one
  have r1 : root_Lay.f FU (newD 16) (p : Int) s0 = some (layD (p : Int) s0 (newD 16)) := lay_dev hd0 (by decide) (by decide) (by decide)
  have hd1 := layD_ok (p := (p : Int)) (s := s0) hd0
  obtain ⟨z1, u1⟩ := un_lay (p := (p : Int)) (W s0) hu0 ⟨by omega, by omega⟩
  obtain ⟨c1, _⟩ := lay_cases (d := newD 16) (p := p) (av := List.replicate 8 0) (W s0) (by omega) (fun i hi => by rw [ix_zeros hi]; exact newD_cell (by omega))
  have o1 : ∀ i : Nat, i < 8 → CellP (fun x => x = 0) (cellA (layW (p : Int) (wordsU (blockS s0) 8) (newD 16)).2 (8 * (1 - p) + i)) := fun i hi => (keeps_lay (W s0) (by omega) (newD 16) (by omega) (newD_cell (by omega))).1
  have c1 := c1 z1
  rw [← el p s0 (newD 16) hp2 hR0 hl0] at z1 u1 c1 o1
  rw [r1, Option.bind_some]
  have hl1 := hd1.len
  generalize layD (p : Int) s0 (newD 16) = L1 at *
  rw [z1, decide_eq_true rfl, if_neg (show ¬ (!true) = true by decide)]
  -- the second one
  have r2 : root_Lay.f FU L1.2 ((1 - p : Nat) : Int) s1 = some (layD ((1 - p : Nat) : Int) s1 L1.2) := lay_dev hd1 (by decide) (by decide) (by decide)
  have hd2 := layD_ok (p := ((1 - p : Nat) : Int)) (s := s1) hd1
  obtain ⟨z2, u2⟩ := un_lay (p := ((1 - p : Nat) : Int)) (W s1) u1 ⟨by omega, by omega⟩
  obtain ⟨c2, _⟩ := lay_cases (d := L1.2) (p := 1 - p) (av := List.replicate 8 0) (W s1) (by omega) (fun i hi => by rw [ix_zeros hi]; exact o1 i hi)
  have o2 : ∀ i : Nat, i < 8 → CellP (fun x => x = ix (wordsU (blockS s0) 8) (i : Int)) (cellA (layW ((1 - p : Nat) : Int) (wordsU (blockS s1) 8) L1.2).2 (8 * p + i)) := fun i hi => (keeps_lay (W s1) (by omega) L1.2 (by omega) (c1 i hi)).1
  have c2 := c2 z2
  rw [← el (1 - p) s1 L1.2 (by omega) hR1 hl1] at z2 u2 c2 o2
  rw [r2, Option.bind_some]
  have hl2 := hd2.len
  generalize layD ((1 - p : Nat) : Int) s1 L1.2 = L2 at *
  rw [z2, decide_eq_true rfl, if_neg (show ¬ (!true) = true by decide), plan_eq (by omega), Option.bind_some, arm_eq, Option.bind_some, cutP_form]
  -- the third one
  obtain ⟨hd3, hA, hcs⟩ := cutP_ok (k := k) hd2 u2.2 hS.1 (by omega)
  have cc : ∀ i, cellA (armD (planD L2.2 c.Plan) (k : Int)) i = cellA L2.2 i := fun i => by unfold cellA; rw [hcs]
  generalize armD (planD L2.2 c.Plan) (k : Int) = D at *
  have hl3 := hd3.len
  have r3 : root_Lay.f FU D (p : Int) s2 = some (layD (p : Int) s2 D) := lay_dev hd3 (by decide) (by decide) (by decide)
  have hd4 := layD_ok (p := (p : Int)) (s := s2) hd3
  obtain ⟨cD, cABC⟩ := lay_cases (d := D) (p := p) (av := wordsU (blockS s0) 8) (W s2) (by omega) (fun i hi => by rw [cc]; exact o2 i hi)
  have o3 : ∀ i : Nat, i < 8 → CellP (fun x => x = ix (wordsU (blockS s1) 8) (i : Int)) (cellA (layW (p : Int) (wordsU (blockS s2) 8) D).2 (8 * (1 - p) + i)) := fun i hi => (keeps_lay (W s2) (by omega) D (by omega) (by rw [cc]; exact c2 i hi)).1
  rw [← el p s2 D hp2 hR2 hl3] at cD cABC o3
  rw [r3, Option.bind_some]
  generalize layD (p : Int) s2 D = E at *
  have hl4 := hd4.len
  have hLI : ∀ y ∈ c.L, I64 y := fun y hy => wf64.1 (hc.2.2.1 y hy)
  have hcr : pmem_Device_Crash.f FU E.2 c.L = some (crashD E.2 c.L) := crash_eq hd4 (by decide) hLI (by decide)
  have hd5 : DevOk 16 (0 + 15 + 15 + 15) (crashD E.2 c.L) := crash_ok hd4
  have hl5 := hd5.len
  rw [hcr, Option.bind_some, root_pick_eq hd5 (by decide) (by decide), Option.bind_some]
  -- what each place reads
  have hCl : ∀ q : Nat, (lineC (crashD E.2 c.L) (q : Int)).length = 8 := fun q => by simp [lineC]
  have hrd : ∀ q : Nat, q < 2 → readS (crashD E.2 c.L) (q : Int) = getS (octs (lineC (crashD E.2 c.L) (q : Int))) := fun q hq => readS_line hq (by omega) rfl
  have hC : ∀ {Φ : Int → Prop} {q i : Nat}, q < 2 → i < 8 → CellP Φ (cellA E.2 (8 * q + i)) → Φ (ix (lineC (crashD E.2 c.L) (q : Int)) (i : Int)) := by
    intro Φ q i hq hi h
    rw [lineC_ix' hi]
    exact (cell_crash (l := c.L) (by omega) h).2.1
  have hfull : ∀ (q : Nat) (s : S_api_Super), q < 2 → SupOk s → (∀ i : Nat, i < 8 → ix (lineC (crashD E.2 c.L) (q : Int)) (i : Int) = ix (wordsU (blockS s) 8) (i : Int)) → readS (crashD E.2 c.L) (q : Int) = (s, true) := by
    intro q s hq hs h
    have hln : lineC (crashD E.2 c.L) (q : Int) = wordsU (blockS s) 8 := by
      apply List.ext_getElem (by rw [hCl, W])
      intro i h1 h2
      rw [← ix_nat h1, ← ix_nat h2]
      exact h i (by rw [hCl] at h1; exact h1)
    obtain ⟨b1, b2⟩ := blockS_words hs
    rw [hrd q hq, hln, octs_words8 b1 b2, getS_block hs]
  have hother : readS (crashD E.2 c.L) ((1 - p : Nat) : Int) = (s1, true) := hfull (1 - p) s1 (by omega) hR1 fun i hi => hC (Φ := fun x => x = ix (wordsU (blockS s1) 8) (i : Int)) (by omega) hi (o3 i hi)
  have key : readS (crashD E.2 c.L) (p : Int) = (s2, true) ∨ E.1 ≠ 0 ∧ ((readS (crashD E.2 c.L) (p : Int)).2 = false ∨ ∃ s : S_api_Super, readS (crashD E.2 c.L) (p : Int) = (s, true) ∧ s.Epoch < s1.Epoch) := by
    by_cases e : E.1 = 0
    · exact .inl (hfull p s2 hp2 hR2 fun i hi => hC (Φ := fun x => x = ix (wordsU (blockS s2) 8) (i : Int)) hp2 hi (cD e i hi))
    by_cases hzero : ix (lineC (crashD E.2 c.L) (p : Int)) 0 = 0
    · exact .inr ⟨e, .inl (by rw [hrd p hp2]; exact getS_nought (hCl p) hzero)⟩
    rcases cABC with ⟨hA0, hA1⟩ | hB0 | ⟨hC1, hC2⟩
    · have h0 := hC (Φ := fun x => x = ix (wordsU (blockS s0) 8) 0 ∨ x = 0) (i := 0) hp2 (by decide) hA0
      have h0' : ix (lineC (crashD E.2 c.L) (p : Int)) ((0 : Nat) : Int) = ix (wordsU (blockS s0) 8) ((0 : Nat) : Int) := h0.resolve_right hzero
      refine .inr ⟨e, .inr ⟨s0, hfull p s0 hp2 hR0 fun i hi => ?_, by omega⟩⟩
      by_cases e0 : i = 0
      · rw [e0]; exact h0'
      · exact hC (Φ := fun x => x = ix (wordsU (blockS s0) 8) (i : Int)) hp2 hi (hA1 i (by omega) hi)
    · have h0 := hC (Φ := fun x => x = 0) (i := 0) hp2 (by decide) hB0
      exact absurd h0 hzero
    · have h0 := hC (Φ := fun x => x = 0 ∨ x = ix (wordsU (blockS s2) 8) 0) (i := 0) hp2 (by decide) hC1
      have h0' : ix (lineC (crashD E.2 c.L) (p : Int)) ((0 : Nat) : Int) = ix (wordsU (blockS s2) 8) ((0 : Nat) : Int) := h0.resolve_left hzero
      refine .inl (hfull p s2 hp2 hR2 fun i hi => ?_)
      by_cases e0 : i = 0
      · rw [e0]; exact h0'
      · exact hC (Φ := fun x => x = ix (wordsU (blockS s2) 8) (i : Int)) hp2 hi (hC2 i (by omega) hi)
  have l1 := hR1.len.1
  have l2 := hR2.len.1
  rcases key with h | ⟨e, h⟩
  · rw [pick_new hp2 hother h (by omega)]
    simp only [decide_true, if_true]
    rw [rsuperSame_eq (by omega) (by show _ < 200000; omega)]
    simp
  · rw [pick_old hp2 hother h]
    have hne : ¬ (((1 - p : Nat) : Int) = (p : Int)) := by omega
    simp only [decide_true, if_true, hne, e, decide_false, Bool.false_eq_true, if_false, Bool.not_false]
    rw [rsuperSame_eq (by omega) (by show _ < 200000; omega)]
    simp
end Go.Proofs.Ytklhbaghbmndeaa.Pure
