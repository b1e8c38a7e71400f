/- ShadowSafe: texts merged, part 6 of 6. The last part proves that the law ShadowSafe holds for every input. -/
import Derived.Test.YtdifnahlheogdaaDoorPkShadowSafe5
import Derived.Test.YtdifnahlheogdaaDoorCards
import Derived.Test.YtdifnahlheogdaaDoorTie
import Derived.OpenShut
import Derived.ProofKit
import Derived.ChangeOld
import Derived.Below
import Derived.SizedLaws
import Derived.SevenTiedAt
set_option maxRecDepth 100000
set_option maxHeartbeats 4000000
set_option linter.unusedVariables false
set_option linter.unusedSimpArgs false
namespace Go.Proofs.YtdifnahlheogdaaDoor.Pure
open Go Go.Xw Go.Yw
def upd {α : Type} (g : Nat → α → α) (lo j : Nat) (cs : List α) : List α := cs.mapIdx fun i c => if lo ≤ i ∧ i < lo + j then g i c else c
theorem upd_len {α : Type} (g : Nat → α → α) (lo j : Nat) (cs : List α) : (upd g lo j cs).length = cs.length := by simp [upd]
theorem upd_zero {α : Type} (g : Nat → α → α) (lo : Nat) (cs : List α) : upd g lo 0 cs = cs := by
  apply List.ext_getElem (by simp [upd])
  intro i h1 h2
  simp only [upd, List.getElem_mapIdx]
  rw [if_neg (by omega)]
theorem upd_get {α : Type} (g : Nat → α → α) (lo j : Nat) (cs : List α) (i : Nat) (h : i < (upd g lo j cs).length) : (upd g lo j cs)[i] = if lo ≤ i ∧ i < lo + j then g i (cs[i]'(by simpa [upd] using h)) else cs[i]'(by simpa [upd] using h) := by
  simp only [upd, List.getElem_mapIdx]
theorem upd_next {α : Type} (g : Nat → α → α) (lo j : Nat) (cs : List α) (h : lo + j < cs.length) : (upd g lo j cs)[lo + j]'(by rw [upd_len]; exact h) = cs[lo + j] := by
  rw [upd_get, if_neg (by omega)]
theorem upd_set {α : Type} (g : Nat → α → α) (lo j : Nat) (cs : List α) (h : lo + j < cs.length) : (upd g lo j cs).set (lo + j) (g (lo + j) cs[lo + j]) = upd g lo (j + 1) cs := by
  apply List.ext_getElem (by simp [upd])
  intro i h1 h2
  rw [List.getElem_set, upd_get g lo (j + 1)]
  by_cases e : lo + j = i
  · subst e
    rw [if_pos rfl, if_pos (by omega)]
  · rw [if_neg e, upd_get]
    by_cases c : lo ≤ i ∧ i < lo + j
    · rw [if_pos c, if_pos (by omega)]
    · rw [if_neg c, if_neg (by omega)]
theorem upd_same {α : Type} (g : Nat → α → α) (lo j : Nat) (cs : List α) (h : lo + j < cs.length) (e : g (lo + j) cs[lo + j] = cs[lo + j]) : upd g lo j cs = upd g lo (j + 1) cs := by
  apply List.ext_getElem (by simp [upd])
  intro i h1 h2
  rw [upd_get g lo j, upd_get g lo (j + 1)]
  by_cases e' : lo + j = i
  · subst e'
    rw [if_neg (by omega), if_pos (by omega), e]
  · by_cases c : lo ≤ i ∧ i < lo + j
    · rw [if_pos c, if_pos (by omega)]
    · rw [if_neg c, if_neg (by omega)]
theorem upd_all {α : Type} (g : Nat → α → α) (cs : List α) : upd g 0 cs.length cs = cs.mapIdx g := by
  apply List.ext_getElem (by simp [upd])
  intro i h1 h2
  rw [upd_get, if_pos ⟨by omega, by rw [upd_len] at h1; omega⟩, List.getElem_mapIdx]
theorem getD_set {α : Type} (cs : List α) (i k : Nat) (v d : α) (hi : i < cs.length) : (cs.set i v).getD k d = if i = k then v else cs.getD k d := by
  simp only [List.getD_eq_getElem?_getD, List.getElem?_set]
  by_cases h : i = k
  · subst h
    simp [hi]
  · simp [h]
theorem getD_of {α : Type} (cs : List α) (i : Nat) (d : α) (hi : i < cs.length) : cs.getD i d = cs[i] := by
  simp [List.getD_eq_getElem?_getD, List.getElem?_eq_getElem hi]
end Go.Proofs.YtdifnahlheogdaaDoor.Pure
namespace Go.Proofs.YtdifnahlheogdaaDoor
open Go Go.Xw Go.Yw
end Go.Proofs.YtdifnahlheogdaaDoor
namespace Go.Proofs.YtdifnahlheogdaaDoor.Pure
open Go Go.Xw Go.Yw
def lay (v n : Nat) : List Int := (List.range n).map fun i => ((v / 256 ^ i % 256 : Nat) : Int)
theorem lay_len (v n : Nat) : (lay v n).length = n := by simp [lay]
theorem lay_succ (v n : Nat) : lay v (n + 1) = lay v n ++ [((v / 256 ^ n % 256 : Nat) : Int)] := by
  simp [lay, List.range_succ]
theorem wu8_mod {n : Nat} : IntKind.u8.wrap (n : Int) = ((n % 256 : Nat) : Int) := by
  unfold IntKind.wrap
  simp only [IntKind.signed, IntKind.bits]
  simp
theorem shr64 (n : Nat) : shR .u64 (n : Int) 8 = ((n / 256 : Nat) : Int) := by
  unfold shR
  show Int.fdiv (n : Int) (2 ^ min ((8 : Int).toNat) 64) = _
  rw [show (2 : Int) ^ min ((8 : Int).toNat) 64 = 256 from by decide, Int.fdiv_eq_ediv_of_nonneg _ (by decide)]
  omega
theorem olay_eq {fu v n : Nat} (hn : n ≤ 8) (hf : n < fu) : octet_Lay.f fu (v : Int) (n : Int) = some (lay v n) := by
  unfold octet_Lay.f
  have h0 : ¬ ((n : Int) < 0) := by omega
  have h8 : ¬ ((n : Int) > 8) := by omega
  have hL : Int.toNat (n : Int) ≤ LIM := by
    have : (8 : Nat) ≤ LIM := by decide
    omega
  simp only [h0, h8, decide_false, Bool.false_eq_true, if_false]
  rw [if_pos ⟨by omega, hL⟩]
  have : loopM (octet_Lay.s0 fu (n : Int)) fu ((v : Int), 0, List.replicate (Int.toNat (n : Int)) (0 : Int)) = some (lay v n) := by
    refine loopM_run (S := fun j => (((v / 256 ^ j : Nat) : Int), (j : Int), lay v j ++ List.replicate (n - j) (0 : Int))) n (by simp [lay]) ?_ ?_ hf
    · intro j hj
      unfold octet_Lay.s0
      have w3 : IntKind.i64.wrap ((j : Int) + 1) = ((j + 1 : Nat) : Int) := by rw [w64 (by omega) (by omega)]; omega
      have e1 : (List.replicate (Int.toNat (n : Int)) (0 : Int)).length = n := by simp
      have e2 : (lay v j ++ List.replicate (n - j) (0 : Int)).length = n := by rw [List.length_append, lay_len, List.length_replicate]; omega
      have e3 : List.set (lay v j ++ List.replicate (n - j) (0 : Int)) (Int.toNat (j : Int)) (IntKind.u8.wrap ((v / 256 ^ j : Nat) : Int)) = lay v (j + 1) ++ List.replicate (n - (j + 1)) (0 : Int) := by
        rw [Int.toNat_natCast, List.set_append, if_neg (by rw [lay_len]; omega), lay_len, Nat.sub_self, wu8_mod, lay_succ, show n - j = n - (j + 1) + 1 from by omega, List.replicate_succ]
        simp
      have e4 : shR .u64 ((v / 256 ^ j : Nat) : Int) 8 = ((v / 256 ^ (j + 1) : Nat) : Int) := by
        rw [shr64, Nat.div_div_eq_div_mul, Nat.pow_succ]
      have h1 : (j : Int) < (n : Int) := by omega
      simp only [e1, e2, e3, e4, w3, h1, decide_true, if_true]
      rw [if_pos ⟨by omega, trivial⟩]
    · unfold octet_Lay.s0
      simp
  rw [this]
  rfl
def num : List Int → Nat
  | [] => 0
  | c :: l => c.toNat + 256 * num l
theorem num_append : ∀ (a b : List Int), num (a ++ b) = num a + 256 ^ a.length * num b
  | [], b => by simp [num]
  | c :: a, b => by
    simp only [List.cons_append, num, num_append a b, List.length_cons, Nat.pow_succ]
    rw [Nat.mul_add, Nat.add_assoc, ← Nat.mul_assoc, Nat.mul_comm 256 (256 ^ a.length)]
theorem num_lt : ∀ {l : List Int}, Bytes l → num l < 256 ^ l.length
  | [], _ => by simp [num]
  | c :: l, h => by
    have h1 := h c (by simp)
    have h2 := num_lt (l := l) fun x hx => h x (by simp [hx])
    simp only [num, List.length_cons, Nat.pow_succ]
    omega
theorem or_add (a c j : Nat) (ha : a < 256 ^ j) : a ||| c * 256 ^ j = a + 256 ^ j * c := by
  have e : 256 ^ j = 2 ^ (8 * j) := by rw [Nat.pow_mul]
  rw [e] at ha ⊢
  rw [Nat.mul_comm c, Nat.or_comm, ← Nat.two_pow_add_eq_or_of_lt ha, Nat.add_comm]
theorem read_eq {fu : Nat} {l : List Int} (hb : Bytes l) (hl : l.length ≤ 8) (hf : l.length < fu) : octet_Read.f fu l = some ((num l : Nat) : Int) := by
  unfold octet_Read.f
  have hm : mnI (l.length : Int) 8 = (l.length : Int) := by
    unfold mnI
    split <;> omega
  have hc : cut l 0 (l.length : Int) = l := by
    unfold cut
    simp
  rw [hm, if_pos ⟨by omega, Int.le_refl _⟩]
  have : loopM (octet_Read.s0 fu l) fu (0, 0) = some ((num l : Nat) : Int) := by
    refine loopM_run (S := fun j => (((num (l.take j) : Nat) : Int), (j : Int))) l.length (by simp [num]) ?_ ?_ hf
    · intro j hj
      unfold octet_Read.s0
      rw [hm, hc]
      have h1 : (j : Int) < (l.length : Int) := by omega
      have w3 : IntKind.i64.wrap ((j : Int) + 1) = ((j + 1 : Nat) : Int) := by rw [w64 (by omega) (by omega)]; omega
      have w4 : IntKind.i64.wrap (8 * (j : Int)) = ((8 * j : Nat) : Int) := by rw [w64 (by omega) (by omega)]; omega
      have hcb := hb _ (List.getElem_mem hj)
      obtain ⟨c, hc'⟩ : ∃ c : Nat, l[j] = (c : Int) := ⟨l[j].toNat, by omega⟩
      have hlt : num (l.take j) < 256 ^ j := by
        have := num_lt (l := l.take j) fun x hx => hb x (List.mem_of_mem_take hx)
        rwa [List.length_take, Nat.min_eq_left (by omega)] at this
      have e256 : (256 : Nat) ^ j * 256 ≤ 256 ^ 8 := by
        rw [← Nat.pow_succ]
        exact Nat.pow_le_pow_right (by decide) (by omega)
      have e8 : (256 : Nat) ^ 8 = 18446744073709551616 := by decide
      have hcj : c * 256 ^ j < 18446744073709551616 := by
        have : c * 256 ^ j ≤ 255 * 256 ^ j := Nat.mul_le_mul_right _ (by omega)
        have : 0 < 256 ^ j := Nat.pow_pos (by decide)
        omega
      have e1 : shL .u64 (IntKind.u64.wrap (ix l (j : Int))) ((8 * j : Nat) : Int) = ((c * 256 ^ j : Nat) : Int) := by
        rw [ix_nat hj, hc', wu64 (by omega) (by omega)]
        unfold shL
        rw [Int.toNat_natCast, Nat.min_eq_left (by show 8 * j ≤ 64; omega)]
        have : (c : Int) * 2 ^ (8 * j) = ((c * 256 ^ j : Nat) : Int) := by
          have h256 : ((256 ^ j : Nat) : Int) = 2 ^ (8 * j) := by
            rw [Int.natCast_pow, Int.pow_mul]
            exact congrArg (fun z : Int => z ^ j) (by decide : ((256 : Nat) : Int) = 2 ^ 8)
          rw [Int.natCast_mul, h256]
        rw [this, wu64 (by omega) (by omega)]
      have e2 : bOr .u64 ((num (l.take j) : Nat) : Int) ((c * 256 ^ j : Nat) : Int) = ((num (l.take (j + 1)) : Nat) : Int) := by
        unfold bOr
        show IntKind.u64.wrap (((BitVec.ofInt 64 ((num (l.take j) : Nat) : Int) ||| BitVec.ofInt 64 ((c * 256 ^ j : Nat) : Int)).toNat : Nat) : Int) = _
        rw [BitVec.ofInt_natCast, BitVec.ofInt_natCast, BitVec.toNat_or, BitVec.toNat_ofNat, BitVec.toNat_ofNat, Nat.mod_eq_of_lt (by omega), Nat.mod_eq_of_lt (by omega), or_add _ _ _ hlt, take_next hj, num_append]
        have hs : num (l.take j) + 256 ^ j * c < 18446744073709551616 := by
          rw [Nat.mul_comm]
          have : c * 256 ^ j ≤ 255 * 256 ^ j := Nat.mul_le_mul_right _ (by omega)
          omega
        rw [wu64 (by omega) (by omega)]
        simp only [num, hc', Int.toNat_natCast, List.length_take, Nat.min_eq_left (by omega : j ≤ l.length), Nat.mul_zero, Nat.add_zero]
      simp only [h1, decide_true, if_true, w4, e1, e2, w3]
      rw [if_pos ⟨by omega, trivial⟩, if_pos (by omega)]
    · unfold octet_Read.s0
      rw [hm, hc]
      simp
  rw [this]
  rfl
end Go.Proofs.YtdifnahlheogdaaDoor.Pure
namespace Go.Proofs.YtdifnahlheogdaaDoor
open Go Go.Xw Go.Yw
end Go.Proofs.YtdifnahlheogdaaDoor
namespace Go.Proofs.YtdifnahlheogdaaDoor.Pure
open Go Go.Xw Go.Yw
abbrev Cell := S_pmem_cell
abbrev Dev := S_pmem_Device
def keepC (c : Cell) (w : Int) : Cell := ⟨w, c.stored, 0, false⟩
def openC (c : Cell) : Bool := c.flushed || !decide (c.stored = c.lasts)
def evict (p : Int) (cs : List Cell) : List Cell := cs.mapIdx fun i c => if 0 ≤ p ∧ (i : Int) = p % (cs.length : Int) then keepC c c.stored else c
def pick (p : S_pmem_plan) : Int := if p.list.length = 0 then -1 else ix p.list p.at_
def nextP (p : S_pmem_plan) : S_pmem_plan := if p.list.length = 0 then p else ⟨p.list, (p.at_ + 1) % (p.list.length : Int)⟩
def tick (d : Dev) : Dev := ⟨evict (pick d.plan) d.cells, nextP d.plan, if d.armed then decide (d.left - 1 = 0) else d.off, d.armed, if d.armed then d.left - 1 else d.left, d.steps + 1⟩
def mayI (off : Bool) (k n : Int) : Int := if off = true then 3 else if k < 0 ∨ k ≥ n then 2 else 0
def putC (k w : Int) (cs : List Cell) : List Cell := cs.mapIdx fun i c => if (i : Int) = k then ⟨c.lasts, w, c.sent, c.flushed⟩ else c
def sendC (c : Cell) : Cell := ⟨c.lasts, c.stored, c.stored, true⟩
def sendL (k : Int) (cs : List Cell) : List Cell := cs.mapIdx fun i c => if 8 * k ≤ (i : Int) ∧ (i : Int) < 8 * k + 8 then sendC c else c
def fenceC (c : Cell) : Cell := if c.flushed = true then keepC c c.sent else c
def withC (d : Dev) (cs : List Cell) : Dev := ⟨cs, d.plan, d.off, d.armed, d.left, d.steps⟩
def storeD (d : Dev) (k w : Int) : Int × Dev := if mayI d.off k (d.cells.length : Int) = 0 then (0, tick (withC d (putC k w d.cells))) else (mayI d.off k (d.cells.length : Int), d)
def flushD (d : Dev) (k : Int) : Int × Dev := if mayI d.off k ((d.cells.length / 8 : Nat) : Int) = 0 then (0, tick (withC d (sendL k d.cells))) else (mayI d.off k ((d.cells.length / 8 : Nat) : Int), d)
def fenceD (d : Dev) : Int × Dev := if d.off = true then (3, d) else (0, tick (withC d (d.cells.map fenceC)))
def fateC (c : Cell) (n : Int) : Int := if n % 3 = 2 then c.stored else if n % 3 = 1 ∧ c.flushed = true then c.sent else c.lasts
def opens (cs : List Cell) (i : Nat) : Nat := ((cs.take i).filter openC).length
def crashC (c : Cell) (n : Int) : Cell := if openC c = true then ⟨fateC c n, fateC c n, 0, false⟩ else ⟨c.lasts, c.lasts, c.sent, c.flushed⟩
def crashL (l : List Int) (cs : List Cell) : List Cell := cs.mapIdx fun i c => crashC c (l.getD (opens cs i) 0)
def crashD (d : Dev) (l : List Int) : Dev := ⟨crashL l d.cells, ⟨[], 0⟩, false, false, 0, d.steps⟩
def I64 (x : Int) : Prop := -9223372036854775808 ≤ x ∧ x ≤ 9223372036854775807
def U64 (x : Int) : Prop := 0 ≤ x ∧ x ≤ 18446744073709551615
def okC (c : Cell) : Prop := U64 c.lasts ∧ U64 c.stored ∧ U64 c.sent
structure DevOk (n : Nat) (B : Int) (d : Dev) : Prop where
  len : d.cells.length = n
  val : ∀ c ∈ d.cells, okC c
  at0 : d.plan.list.length ≠ 0 → 0 ≤ d.plan.at_ ∧ d.plan.at_ < (d.plan.list.length : Int)
  pl : d.plan.list.length ≤ 1000
  arm : d.armed = true → 0 ≤ d.left ∧ d.left ≤ 9223372036854775807 ∧ d.off = decide (d.left = 0)
  una : d.armed = false → d.off = false
  st : 0 ≤ d.steps ∧ d.steps ≤ B
theorem ix_set {α : Type} [Inhabited α] {l : List α} {k : Nat} {v : α} (h : k < l.length) : ix (l.set k v) (k : Int) = v := by
  rw [ix_nat (by simpa using h)]
  simp
theorem updR_nat {α : Type} [Inhabited α] {l : List α} {k : Nat} {f : α → α} : updR l (k : Int) f = l.set k (f (ix l (k : Int))) := by
  unfold updR
  rw [Int.toNat_natCast]
theorem keep_eq {fu k : Nat} {l : List Cell} {w : Int} (h : k < l.length) : pmem_cell_keep__i0.f fu l (k : Int) w = some (l.set k (keepC (ix l (k : Int)) w)) := by
  unfold pmem_cell_keep__i0.f
  simp only [updR_nat, List.set_set, ix_set h, keepC]
theorem pnext_eq {fu : Nat} {d : Dev} (h0 : d.plan.list.length ≠ 0 → 0 ≤ d.plan.at_ ∧ d.plan.at_ < (d.plan.list.length : Int)) (hl : d.plan.list.length ≤ 1000) : pmem_plan_next__i0_1.f fu d = some (pick d.plan, ⟨d.cells, nextP d.plan, d.off, d.armed, d.left, d.steps⟩) := by
  unfold pmem_plan_next__i0_1.f pick nextP
  by_cases e : d.plan.list.length = 0
  · have e' : (d.plan.list.length : Int) = 0 := by omega
    rw [decide_eq_true e', if_pos rfl, if_pos e, if_pos e]
  · have e' : ¬ (d.plan.list.length : Int) = 0 := by omega
    have h := h0 e
    rw [decide_eq_false e', if_neg (by decide), if_pos h, if_pos e', if_neg e, if_neg e, w64 (by omega) (by omega), Int.tmod_eq_emod_of_nonneg (by omega)]
theorem set_upd {cs : List Cell} {k : Nat} (g : Cell → Cell) (hk : k < cs.length) : cs.set k (g (ix cs (k : Int))) = cs.mapIdx fun i c => if i = k then g c else c := by
  rw [ix_nat hk]
  apply List.ext_getElem (by simp)
  intro i h1 h2
  rw [List.getElem_set, List.getElem_mapIdx]
  by_cases e : k = i
  · subst e
    simp
  · rw [if_neg e, if_neg (fun q => e q.symm)]
theorem evict_no {p : Int} (cs : List Cell) (h : ¬ 0 ≤ p) : evict p cs = cs := by
  apply List.ext_getElem (by simp [evict])
  intro i h1 h2
  simp only [evict, List.getElem_mapIdx]
  rw [if_neg fun q => h q.1]
theorem dstep_eq {fu n : Nat} {B : Int} {d : Dev} (h : DevOk n B d) (hB : B < 9223372036854775807) (ho : d.off = false) : pmem_Device_step.f fu d = some (tick d) := by
  unfold pmem_Device_step.f
  have hs := h.st
  have w1 : IntKind.i64.wrap (d.steps + 1) = d.steps + 1 := w64 (by omega) (by omega)
  rw [pnext_eq (d := ⟨d.cells, d.plan, d.off, d.armed, d.left, IntKind.i64.wrap (d.steps + 1)⟩) h.at0 h.pl, w1]
  simp only [Option.bind_some]
  have hc : ∀ q, q = pick d.plan → q ≥ 0 → ((if (decide ((List.length d.cells : Int) > 0)) = true then if (List.length d.cells : Int) ≠ 0 then if 0 ≤ (Int.tmod q (List.length d.cells : Int)) ∧ (Int.tmod q (List.length d.cells : Int)) < (List.length d.cells : Int) then ((pmem_cell_keep__i0.f fu d.cells (Int.tmod q (List.length d.cells : Int)) ((ix d.cells (Int.tmod q (List.length d.cells : Int))).stored) : Option (List S_pmem_cell)).bind fun t8 => some (t8)) else none else none else some (d.cells)) : Option (List S_pmem_cell)) = some (evict q d.cells) := by
    intro q _ hq
    by_cases hl : (List.length d.cells : Int) > 0
    · rw [decide_eq_true hl, Int.tmod_eq_emod_of_nonneg hq]
      have hm0 := Int.emod_nonneg q (show (List.length d.cells : Int) ≠ 0 by omega)
      have hm1 := Int.emod_lt_of_pos q hl
      have e1 : (List.length d.cells : Int) ≠ 0 := by omega
      obtain ⟨k, hk⟩ : ∃ k : Nat, q % (List.length d.cells : Int) = (k : Int) := ⟨(q % (List.length d.cells : Int)).toNat, by omega⟩
      have hkl : k < d.cells.length := by omega
      rw [if_pos rfl, if_pos e1, if_pos ⟨hm0, hm1⟩, hk, keep_eq hkl]
      simp only [Option.bind_some]
      refine congrArg some ((set_upd (fun c => keepC c c.stored) hkl).trans ?_)
      apply List.ext_getElem (by simp [evict])
      intro i h1 h2
      simp only [evict, List.getElem_mapIdx, hk]
      by_cases e : i = k
      · rw [if_pos e, if_pos ⟨hq, by omega⟩]
      · rw [if_neg e, if_neg fun z => e (by omega)]
    · have : d.cells = [] := List.length_eq_zero_iff.1 (by omega)
      rw [this]
      simp [evict]
  have hd : ∀ (r : List Cell), ((((if d.armed = true then some ((decide ((IntKind.i64.wrap (d.left - 1)) = 0)), (IntKind.i64.wrap (d.left - 1))) else some (d.off, d.left)) : Option (Bool × Int)).bind fun x45 => some ((⟨r, nextP d.plan, x45.1, d.armed, x45.2, (d.steps + 1)⟩ : S_pmem_Device))) : Option Dev) = some ⟨r, nextP d.plan, if d.armed then decide (d.left - 1 = 0) else d.off, d.armed, if d.armed then d.left - 1 else d.left, d.steps + 1⟩ := by
    intro r
    cases ha : d.armed
    · simp
    · have := h.arm ha
      rw [ho] at this
      have : d.left ≠ 0 := by
        intro e
        rw [e] at this
        exact absurd this.2.2 (by decide)
      rw [w64 (by omega) (by omega)]
      simp
  by_cases hq : pick d.plan ≥ 0
  · rw [decide_eq_true hq, if_pos rfl, hc _ rfl hq]
    simp only [Option.bind_some]
    exact hd _
  · rw [decide_eq_false hq, if_neg (by decide)]
    have := hd d.cells
    rw [this]
    unfold tick
    rw [evict_no _ hq]
theorem evict_len (p : Int) (cs : List Cell) : (evict p cs).length = cs.length := by simp [evict]
theorem keep_ok {c : Cell} {w : Int} (h : okC c) (hw : U64 w) : okC (keepC c w) := ⟨hw, h.2.1, by unfold U64; simp [keepC]⟩
theorem mapIdx_ok {cs : List Cell} {g : Nat → Cell → Cell} (h : ∀ c ∈ cs, okC c) (hg : ∀ i c, okC c → okC (g i c)) : ∀ c ∈ cs.mapIdx g, okC c := by
  intro c hc
  obtain ⟨i, hi, rfl⟩ := List.getElem_of_mem hc
  rw [List.getElem_mapIdx]
  exact hg _ _ (h _ (List.getElem_mem _))
theorem evict_ok {p : Int} {cs : List Cell} (h : ∀ c ∈ cs, okC c) : ∀ c ∈ evict p cs, okC c := by
  refine mapIdx_ok h fun i c hc => ?_
  split
  · exact keep_ok hc hc.2.1
  · exact hc
theorem tick_ok {n : Nat} {B : Int} {d : Dev} (h : DevOk n B d) (ho : d.off = false) : DevOk n (B + 1) (tick d) := by
  refine ⟨?_, ?_, ?_, ?_, ?_, ?_, ?_⟩
  · exact (evict_len _ _).trans h.len
  · exact evict_ok h.val
  · intro e
    by_cases z : d.plan.list.length = 0
    · exact absurd (by simp [tick, nextP, z]) e
    · have : (tick d).plan = ⟨d.plan.list, (d.plan.at_ + 1) % (d.plan.list.length : Int)⟩ := by simp [tick, nextP, z]
      rw [this]
      exact ⟨Int.emod_nonneg _ (by omega), Int.emod_lt_of_pos _ (by omega)⟩
  · by_cases z : d.plan.list.length = 0
    · simp [tick, nextP, z]
    · simp only [tick, nextP, z, if_false]
      exact h.pl
  · intro ha
    have ha' : d.armed = true := ha
    have := h.arm ha'
    have hl : d.left ≠ 0 := by
      intro e
      rw [e, ho] at this
      exact absurd this.2.2 (by decide)
    simp only [tick, ha', if_true]
    exact ⟨by omega, by omega, trivial⟩
  · intro ha
    have ha' : d.armed = false := ha
    simp only [tick, ha', Bool.false_eq_true, if_false]
    exact h.una ha'
  · have := h.st
    simp only [tick]
    omega
theorem DevOk.up {n : Nat} {B C : Int} {d : Dev} (h : DevOk n B d) (hc : B ≤ C) : DevOk n C d := ⟨h.len, h.val, h.at0, h.pl, h.arm, h.una, ⟨h.st.1, by have := h.st; omega⟩⟩
theorem with_ok {n : Nat} {B : Int} {d : Dev} (h : DevOk n B d) {cs : List Cell} (hl : cs.length = n) (hv : ∀ c ∈ cs, okC c) : DevOk n B (withC d cs) := ⟨hl, hv, h.at0, h.pl, h.arm, h.una, h.st⟩
theorem may_eq {fu : Nat} {d : Dev} {k m : Int} : pmem_Device_may.f fu d k m = some (mayI d.off k m) := by
  unfold pmem_Device_may.f mayI
  cases d.off
  · simp only [Bool.false_eq_true, if_false]
    by_cases h1 : k < 0
    · simp [h1]
    · by_cases h2 : k ≥ m <;> simp [h1, h2]
  · simp
theorem may_zero {b : Bool} {k m : Int} : mayI b k m = 0 ↔ b = false ∧ 0 ≤ k ∧ k < m := by
  unfold mayI
  cases b
  · simp only [Bool.false_eq_true, if_false]
    split <;> simp <;> omega
  · simp
theorem store_eq {fu n : Nat} {B k w : Int} {d : Dev} (h : DevOk n B d) (hB : B < 9223372036854775807) (hw : U64 w) : pmem_Device_Store.f fu d k w = some (storeD d k w) := by
  unfold pmem_Device_Store.f storeD
  rw [may_eq]
  simp only [Option.bind_some]
  by_cases e : mayI d.off k (d.cells.length : Int) = 0
  · obtain ⟨ho, h0, h1⟩ := may_zero.1 e
    rw [decide_eq_true e, if_pos e, if_neg (by decide), if_pos ⟨h0, h1⟩]
    obtain ⟨j, rfl⟩ : ∃ j : Nat, k = (j : Int) := ⟨k.toNat, by omega⟩
    have e1 : (updR d.cells (j : Int) fun c => (⟨c.lasts, w, c.sent, c.flushed⟩ : S_pmem_cell)) = putC (j : Int) w d.cells := by
      rw [updR_nat]
      refine (set_upd (fun c => ⟨c.lasts, w, c.sent, c.flushed⟩) (by omega)).trans ?_
      apply List.ext_getElem (by simp [putC])
      intro i h1 h2
      simp only [putC, List.getElem_mapIdx, Int.natCast_inj]
    have e2 : pmem_Device_step.f fu (⟨putC (j : Int) w d.cells, d.plan, d.off, d.armed, d.left, d.steps⟩ : S_pmem_Device) = some (tick (withC d (putC (j : Int) w d.cells))) := by
      refine dstep_eq (with_ok h (by simp [putC, h.len]) (mapIdx_ok h.val fun i c hc => ?_)) hB ho
      split
      · exact ⟨hc.1, hw, hc.2.2⟩
      · exact hc
    rw [e1, e2]
    rfl
  · rw [decide_eq_false e, if_neg e, if_pos (by decide)]
theorem lines_eq {fu : Nat} {d : Dev} (h : d.cells.length ≤ 1000000) : pmem_Device_Lines.f fu d = some ((d.cells.length / 8 : Nat) : Int) := by
  unfold pmem_Device_Lines.f
  rw [Int.tdiv_eq_ediv_of_nonneg (by omega), w64 (by omega) (by omega)]
  congr 1
theorem send_loop {fu : Nat} {cs : List Cell} {k : Nat} (h : 8 * k + 8 ≤ cs.length) (hl : cs.length ≤ 1000000) (hf : 8 < fu) : loopM (pmem_Device_Flush.s0 fu (k : Int)) fu (0, cs) = some (sendL (k : Int) cs) := by
  refine loopM_run (S := fun j => ((j : Int), upd (fun _ c => sendC c) (8 * k) j cs)) 8 (by rw [upd_zero]; rfl) ?_ ?_ hf
  · intro j hj
    unfold pmem_Device_Flush.s0
    have w1 : IntKind.i64.wrap ((k : Int) * 8) = ((8 * k : Nat) : Int) := by rw [w64 (by omega) (by omega)]; omega
    have w2 : IntKind.i64.wrap (((8 * k : Nat) : Int) + (j : Int)) = ((8 * k + j : Nat) : Int) := by rw [w64 (by omega) (by omega)]; omega
    have w3 : IntKind.i64.wrap ((j : Int) + 1) = ((j + 1 : Nat) : Int) := by rw [w64 (by omega) (by omega)]; omega
    have hlt : 8 * k + j < (upd (fun _ c => sendC c) (8 * k) j cs).length := by rw [upd_len]; omega
    have c1 : 0 ≤ ((8 * k + j : Nat) : Int) ∧ ((8 * k + j : Nat) : Int) < ((upd (fun _ c => sendC c) (8 * k) j cs).length : Int) := by omega
    have c2 : (j : Int) < 8 := by omega
    simp only [w1, w2, w3]
    rw [decide_eq_true c2, if_pos rfl, if_pos c1]
    simp only [updR_nat, ix_set hlt, List.set_set]
    rw [ix_nat hlt, upd_next _ _ _ _ (by omega)]
    refine congrArg (fun z => some (Sum.inr (((j + 1 : Nat) : Int), z))) ?_
    exact upd_set (fun _ c => sendC c) (8 * k) j cs (by omega)
  · unfold pmem_Device_Flush.s0
    rw [decide_eq_false (show ¬ (((8 : Nat) : Int) < 8) by decide), if_neg (by decide)]
    refine congrArg (fun z => some (Sum.inl z)) ?_
    apply List.ext_getElem (by simp [upd, sendL])
    intro i h1 h2
    simp only [upd, sendL, List.getElem_mapIdx]
    by_cases c : 8 * k ≤ i ∧ i < 8 * k + 8
    · rw [if_pos c, if_pos (by omega)]
    · rw [if_neg c, if_neg (by omega)]
theorem sendL_ok {cs : List Cell} {k : Int} (h : ∀ c ∈ cs, okC c) : ∀ c ∈ sendL k cs, okC c := by
  refine mapIdx_ok h fun i c hc => ?_
  split
  · exact ⟨hc.1, hc.2.1, hc.2.1⟩
  · exact hc
theorem flush_eq {fu n : Nat} {B k : Int} {d : Dev} (h : DevOk n B d) (hB : B < 9223372036854775807) (hn : n ≤ 1000000) (hf : 8 < fu) : pmem_Device_Flush.f fu d k = some (flushD d k) := by
  unfold pmem_Device_Flush.f flushD
  have hl : d.cells.length ≤ 1000000 := by rw [h.len]; exact hn
  rw [lines_eq hl]
  simp only [Option.bind_some]
  rw [may_eq]
  simp only [Option.bind_some]
  by_cases e : mayI d.off k ((d.cells.length / 8 : Nat) : Int) = 0
  · obtain ⟨ho, h0, h1⟩ := may_zero.1 e
    rw [decide_eq_true e, if_pos e, if_neg (by decide)]
    obtain ⟨j, rfl⟩ : ∃ j : Nat, k = (j : Int) := ⟨k.toNat, by omega⟩
    rw [send_loop (by omega) hl hf]
    have e2 : pmem_Device_step.f fu (⟨sendL (j : Int) d.cells, d.plan, d.off, d.armed, d.left, d.steps⟩ : S_pmem_Device) = some (tick (withC d (sendL (j : Int) d.cells))) :=
      dstep_eq (with_ok h (by simp [sendL, h.len]) (sendL_ok h.val)) hB ho
    simp only [Option.bind_some]
    rw [e2]
    rfl
  · rw [decide_eq_false e, if_neg e, if_pos (by decide)]
theorem fence_loop {fu : Nat} {d : Dev} (hl : d.cells.length ≤ 1000000) (hf : d.cells.length < fu) : loopM (pmem_Device_Fence.s0 fu d) fu (0, d.cells) = some (d.cells.map fenceC) := by
  refine loopM_run (S := fun j => ((j : Int), upd (fun _ c => fenceC c) 0 j d.cells)) d.cells.length (by rw [upd_zero]; rfl) ?_ ?_ hf
  · intro j hj
    unfold pmem_Device_Fence.s0
    have w3 : IntKind.i64.wrap ((j : Int) + 1) = ((j + 1 : Nat) : Int) := by rw [w64 (by omega) (by omega)]; omega
    have hlt : j < (upd (fun _ c => fenceC c) 0 j d.cells).length := by rw [upd_len]; omega
    have hnx : (upd (fun _ c => fenceC c) 0 j d.cells)[j] = d.cells[j] := by
      rw [upd_get, if_neg (by omega)]
    have c1 : 0 ≤ (j : Int) ∧ (j : Int) < ((upd (fun _ c => fenceC c) 0 j d.cells).length : Int) := by omega
    have c2 : (j : Int) < (d.cells.length : Int) := by omega
    simp only [w3]
    rw [decide_eq_true c2, if_pos rfl, if_pos c1, keep_eq hlt, ix_nat hlt, hnx]
    have hs := upd_set (fun _ c => fenceC c) 0 j d.cells (by omega)
    simp only [Nat.zero_add] at hs
    cases hfl : d.cells[j].flushed
    · have : fenceC d.cells[j] = d.cells[j] := by simp [fenceC, hfl]
      have := upd_same (fun _ c => fenceC c) 0 j d.cells (by omega) (by simpa using this)
      simp only [Bool.false_eq_true, if_false, Option.bind_some]
      rw [this]
    · have : fenceC d.cells[j] = keepC d.cells[j] d.cells[j].sent := by simp [fenceC, hfl]
      rw [this] at hs
      simp only [if_true, Option.bind_some]
      refine congrArg (fun z => some (Sum.inr (((j + 1 : Nat) : Int), z))) hs
  · unfold pmem_Device_Fence.s0
    rw [decide_eq_false (by omega), if_neg (by decide)]
    refine congrArg (fun z => some (Sum.inl z)) ?_
    show upd (fun _ c => fenceC c) 0 d.cells.length d.cells = _
    rw [upd_all]
    apply List.ext_getElem (by simp)
    intro i h1 h2
    simp
theorem fence_okC {c : Cell} (h : okC c) : okC (fenceC c) := by
  unfold fenceC
  split
  · exact keep_ok h h.2.2
  · exact h
theorem fence_eq {fu n : Nat} {B : Int} {d : Dev} (h : DevOk n B d) (hB : B < 9223372036854775807) (hn : n ≤ 1000000) (hf : n < fu) : pmem_Device_Fence.f fu d = some (fenceD d) := by
  unfold pmem_Device_Fence.f fenceD
  rw [may_eq]
  simp only [Option.bind_some]
  cases ho : d.off
  · have e : mayI false 0 1 = 0 := by decide
    rw [e, if_neg (by decide), if_neg (by decide), fence_loop (by rw [h.len]; exact hn) (by rw [h.len]; exact hf)]
    have e2 : pmem_Device_step.f fu (⟨d.cells.map fenceC, d.plan, d.off, d.armed, d.left, d.steps⟩ : S_pmem_Device) = some (tick (withC d (d.cells.map fenceC))) :=
      dstep_eq (with_ok h (by simp [h.len]) (fun c hc => by
        obtain ⟨x, hx, rfl⟩ := List.mem_map.1 hc
        exact fence_okC (h.val x hx))) hB ho
    rw [ho] at e2
    simp only [Option.bind_some]
    rw [e2]
    rfl
  · have e : mayI true 0 1 = 3 := by decide
    rw [e]
    rfl
theorem openr_eq {fu : Nat} {l : List Cell} {i : Int} : pmem_cell_open__i0.f fu l i = some (openC (ix l i)) := by
  unfold pmem_cell_open__i0.f openC
  cases (ix l i).flushed <;> rfl
theorem fater_eq {fu : Nat} {l : List Cell} {i : Int} {n : Int} (hn : I64 n) : pmem_cell_fate__i0.f fu l i n = some (fateC (ix l i) n) := by
  unfold pmem_cell_fate__i0.f fateC
  generalize ix l i = c
  have hr : Int.tmod n 3 = n % 3 ∧ 0 ≤ n ∨ Int.tmod n 3 = n % 3 - 3 ∧ n < 0 ∧ n % 3 ≠ 0 ∨ Int.tmod n 3 = 0 ∧ n % 3 = 0 := by
    rcases Int.lt_or_le n 0 with h | h
    · have e1 : Int.tmod n 3 = -(Int.tmod (-n) 3) := by rw [Int.neg_tmod, Int.neg_neg]
      have e2 : Int.tmod (-n) 3 = (-n) % 3 := Int.tmod_eq_emod_of_nonneg (by omega)
      omega
    · exact .inl ⟨Int.tmod_eq_emod_of_nonneg h, h⟩
  generalize Int.tmod n 3 = t at *
  generalize hq : n % 3 = q at *
  have hq3 : 0 ≤ q ∧ q < 3 := by omega
  have : q = 0 ∧ t = 0 ∨ q = 1 ∧ (t = 1 ∨ t = -2) ∨ q = 2 ∧ (t = 2 ∨ t = -1) := by omega
  rcases this with ⟨rfl, rfl⟩ | ⟨rfl, rfl | rfl⟩ | ⟨rfl, rfl | rfl⟩ <;> cases c.flushed <;> rfl
theorem opens_succ {cs : List Cell} {j : Nat} (h : j < cs.length) : opens cs (j + 1) = opens cs j + (if openC cs[j] = true then 1 else 0) := by
  unfold opens
  rw [take_next h, List.filter_append, List.length_append]
  cases hc : openC cs[j] <;> simp [hc]
theorem crash_loop {fu : Nat} {d : Dev} {l : List Int} (hl : d.cells.length ≤ 1000000) (hi : ∀ x ∈ l, I64 x) (hf : d.cells.length < fu) : loopM (pmem_Device_Crash.s0 fu d) fu (l, 0, d.cells) = some (crashL l d.cells) := by
  refine loopM_run (S := fun j => (l.drop (opens d.cells j), (j : Int), upd (fun i c => crashC c (l.getD (opens d.cells i) 0)) 0 j d.cells)) d.cells.length (by rw [upd_zero]; simp [opens]) ?_ ?_ hf
  · intro j hj
    unfold pmem_Device_Crash.s0
    have w3 : IntKind.i64.wrap ((j : Int) + 1) = ((j + 1 : Nat) : Int) := by rw [w64 (by omega) (by omega)]; omega
    have hlt : j < (upd (fun i c => crashC c (l.getD (opens d.cells i) 0)) 0 j d.cells).length := by rw [upd_len]; omega
    have hnx : (upd (fun i c => crashC c (l.getD (opens d.cells i) 0)) 0 j d.cells)[j] = d.cells[j] := by
      rw [upd_get, if_neg (by omega)]
    have hs := upd_set (fun i c => crashC c (l.getD (opens d.cells i) 0)) 0 j d.cells (by omega)
    simp only [Nat.zero_add] at hs
    rw [opens_succ hj]
    have c1 : 0 ≤ (j : Int) ∧ (j : Int) < ((upd (fun i c => crashC c (l.getD (opens d.cells i) 0)) 0 j d.cells).length : Int) := by omega
    have c2 : (j : Int) < (d.cells.length : Int) := by omega
    simp only [w3]
    rw [decide_eq_true c2, if_pos rfl, if_pos c1, openr_eq, ix_nat hlt, hnx]
    generalize hU : upd (fun i c => crashC c (l.getD (opens d.cells i) 0)) 0 j d.cells = U at *
    simp only [Option.bind_some]
    cases ho : openC d.cells[j]
    · have : crashC d.cells[j] (l.getD (opens d.cells j) 0) = ⟨d.cells[j].lasts, d.cells[j].lasts, d.cells[j].sent, d.cells[j].flushed⟩ := by simp [crashC, ho]
      rw [this] at hs
      simp only [Bool.false_eq_true, if_false, Option.bind_some, Nat.add_zero]
      rw [updR_nat, ix_nat hlt, hnx, hs]
    · have hx : ∀ v, ix (U.set j (keepC d.cells[j] v)) (j : Int) = keepC d.cells[j] v := fun v => ix_set hlt
      have key : ∀ v, v = l.getD (opens d.cells j) 0 → (U.set j (keepC d.cells[j] (fateC d.cells[j] v))).set j (⟨fateC d.cells[j] v, fateC d.cells[j] v, 0, false⟩ : S_pmem_cell) = upd (fun i c => crashC c (l.getD (opens d.cells i) 0)) 0 (j + 1) d.cells := by
        intro v hv
        rw [List.set_set, hv, ← hs]
        simp [crashC, ho]
      have hlt2 : ∀ v, (j : Int) < (((U.set j v)).length : Int) := fun v => by rw [List.length_set]; omega
      simp only [if_true]
      by_cases hd : opens d.cells j < l.length
      · have e0 : (List.length (l.drop (opens d.cells j)) : Int) > 0 := by rw [List.length_drop]; omega
        have e1 : (1 : Int) ≤ (List.length (l.drop (opens d.cells j)) : Int) := by omega
        have e2 : ix (l.drop (opens d.cells j)) 0 = l.getD (opens d.cells j) 0 := by
          rw [show (0 : Int) = ((0 : Nat) : Int) from rfl, ix_nat (by omega)]
          simp [List.getD_eq_getElem?_getD, List.getElem?_eq_getElem hd]
        have e3 : cut (l.drop (opens d.cells j)) 1 (List.length (l.drop (opens d.cells j)) : Int) = l.drop (opens d.cells j + 1) := by
          unfold cut
          rw [Int.toNat_natCast, List.take_length, show Int.toNat 1 = 1 from rfl, List.drop_drop]
        have e4 : I64 (l.getD (opens d.cells j) 0) := by
          rw [getD_of _ _ _ hd]
          exact hi _ (List.getElem_mem hd)
        rw [decide_eq_true e0, if_pos rfl, if_pos e0, if_pos e1, e2, e3]
        simp only [Option.bind_some]
        rw [fater_eq e4]
        simp only [Option.bind_some]
        rw [keep_eq hlt, ix_nat hlt, hnx]
        simp only [Option.bind_some]
        simp only [updR_nat, List.set_set, ix_set hlt]
        have := key _ rfl
        rw [List.set_set] at this
        simp only [keepC] at this ⊢
        rw [this]
      · have e0 : ¬ (List.length (l.drop (opens d.cells j)) : Int) > 0 := by rw [List.length_drop]; omega
        have e2 : l.getD (opens d.cells j) 0 = 0 := by
          rw [List.getD_eq_getElem?_getD, List.getElem?_eq_none (by omega)]
          rfl
        have e3 : l.drop (opens d.cells j) = l.drop (opens d.cells j + 1) := by
          rw [List.drop_eq_nil_of_le (by omega), List.drop_eq_nil_of_le (by omega)]
        rw [decide_eq_false e0, if_neg (by decide)]
        simp only [Option.bind_some]
        rw [fater_eq (show I64 0 by unfold I64; omega)]
        simp only [Option.bind_some]
        rw [keep_eq hlt, ix_nat hlt, hnx]
        simp only [Option.bind_some]
        simp only [updR_nat, List.set_set, ix_set hlt]
        have := key 0 e2.symm
        rw [List.set_set] at this
        simp only [keepC] at this ⊢
        rw [this, e3]
  · unfold pmem_Device_Crash.s0
    rw [decide_eq_false (show ¬ ((d.cells.length : Int) < (d.cells.length : Int)) by omega), if_neg (by decide)]
    refine congrArg (fun z => some (Sum.inl z)) ?_
    exact upd_all _ _
theorem crash_eq {fu n : Nat} {B : Int} {d : Dev} {l : List Int} (h : DevOk n B d) (hn : n ≤ 1000000) (hi : ∀ x ∈ l, I64 x) (hf : n < fu) : pmem_Device_Crash.f fu d l = some (crashD d l) := by
  unfold pmem_Device_Crash.f crashD
  rw [crash_loop (by rw [h.len]; exact hn) hi (by rw [h.len]; exact hf)]
  rfl
end Go.Proofs.YtdifnahlheogdaaDoor.Pure
namespace Go.Proofs.YtdifnahlheogdaaDoor
open Go Go.Xw Go.Yw
end Go.Proofs.YtdifnahlheogdaaDoor
namespace Go.Proofs.YtdifnahlheogdaaDoor.Pure
open Go Go.Xw Go.Yw
def octs (ws : List Int) : List Int := ws.flatMap fun w => lay w.toNat 8
theorem octs_len : ∀ ws : List Int, (octs ws).length = 8 * ws.length
  | [] => rfl
  | w :: ws => by
    have := octs_len ws
    simp only [octs, List.flatMap_cons, List.length_append, lay_len, List.length_cons] at *
    omega
theorem octs_append (a b : List Int) : octs (a ++ b) = octs a ++ octs b := by simp [octs]
theorem octs_one (w : Int) : octs [w] = lay w.toNat 8 := by simp [octs]
theorem octets_eq {fu : Nat} {ws : List Int} (hv : ∀ w ∈ ws, U64 w) (hl : ws.length ≤ 100000) (hf : ws.length + 8 < fu) : octet_Octets.f fu ws = some (octs ws) := by
  unfold octet_Octets.f
  have : loopM (octet_Octets.s0 fu ws) fu ([], 0) = some (octs ws) := by
    refine loopM_run (S := fun j => (octs (ws.take j), (j : Int))) ws.length (by simp [octs]) ?_ ?_ (by omega)
    · intro j hj
      unfold octet_Octets.s0
      have w3 : IntKind.i64.wrap ((j : Int) + 1) = ((j + 1 : Nat) : Int) := by rw [w64 (by omega) (by omega)]; omega
      have c1 : 0 ≤ (j : Int) ∧ (j : Int) < (ws.length : Int) := by omega
      have hu := hv _ (List.getElem_mem hj)
      obtain ⟨v, hv'⟩ : ∃ v : Nat, ws[j] = (v : Int) := ⟨ws[j].toNat, by unfold U64 at hu; omega⟩
      simp only [w3]
      rw [decide_eq_true c1.2, if_pos rfl, if_pos c1, ix_nat hj, hv', show octet_Lay.f fu (v : Int) 8 = some (lay v 8) from olay_eq (n := 8) (by omega) (by omega)]
      simp only [Option.bind_some]
      rw [if_pos (by rw [octs_len, lay_len, List.length_take]; exact Nat.le_trans (by omega : _ ≤ 1000008) (by decide)), take_next hj, octs_append, octs_one, hv', Int.toNat_natCast]
    · unfold octet_Octets.s0
      rw [decide_eq_false (show ¬ ((ws.length : Int) < (ws.length : Int)) by omega), if_neg (by decide), List.take_length]
  rw [this]
  rfl
theorem set_next {l : List Int} {n j : Nat} {v : Int} (h : j < n) (hl : l.length = j) : (l ++ List.replicate (n - j) (0 : Int)).set j v = (l ++ [v]) ++ List.replicate (n - (j + 1)) (0 : Int) := by
  rw [List.set_append, if_neg (by omega), hl, Nat.sub_self, show n - j = n - (j + 1) + 1 from by omega, List.replicate_succ]
  simp
def lastsD (d : Dev) : List Int := d.cells.map fun c => c.lasts
theorem image_eq {fu n : Nat} {B : Int} {d : Dev} (h : DevOk n B d) (hn : n ≤ 100000) (hf : n + 8 < fu) : pmem_Device_Image.f fu d = some (octs (lastsD d)) := by
  unfold pmem_Device_Image.f pmem_Device_octets_pmem_Device_Image_1.f
  have hl := h.len
  rw [if_pos ⟨by omega, Nat.le_trans (by omega : _ ≤ 100000) (by decide)⟩]
  have : loopM (pmem_Device_octets_pmem_Device_Image_1.s0 fu d) fu (0, (List.replicate (Int.toNat (List.length d.cells : Int)) (0 : Int))) = some (lastsD d) := by
    refine loopM_run (S := fun j => ((j : Int), (lastsD d).take j ++ List.replicate (d.cells.length - j) (0 : Int))) d.cells.length (by simp) ?_ ?_ (by omega)
    · intro j hj
      unfold pmem_Device_octets_pmem_Device_Image_1.s0
      have w3 : IntKind.i64.wrap ((j : Int) + 1) = ((j + 1 : Nat) : Int) := by rw [w64 (by omega) (by omega)]; omega
      have hjl : j < (lastsD d).length := by simpa [lastsD] using hj
      have ht : ((lastsD d).take j).length = j := by rw [List.length_take]; omega
      have c1 : 0 ≤ (j : Int) ∧ (j : Int) < (d.cells.length : Int) := by omega
      have c2 : 0 ≤ (j : Int) ∧ (j : Int) < (((lastsD d).take j ++ List.replicate (d.cells.length - j) (0 : Int)).length : Int) := by
        rw [List.length_append, ht, List.length_replicate]
        omega
      simp only [w3]
      rw [decide_eq_true c1.2, if_pos rfl, if_pos c1]
      simp only [pmem_Device_Image_1__i0.f, Option.bind_some, ix_nat hj]
      rw [if_pos c2, Int.toNat_natCast, set_next hj ht, take_next hjl]
      simp [lastsD]
    · unfold pmem_Device_octets_pmem_Device_Image_1.s0
      rw [decide_eq_false (show ¬ ((d.cells.length : Int) < (d.cells.length : Int)) by omega), if_neg (by decide), Nat.sub_self, List.take_of_length_le (by simp [lastsD])]
      simp
  rw [this]
  simp only [Option.bind_some]
  rw [octets_eq (fun w hw => by
    obtain ⟨c, hc, rfl⟩ := List.mem_map.1 hw
    exact (h.val c hc).1) (by simp [lastsD, hl, hn]) (by simp only [lastsD, List.length_map]; omega)]
  rfl
def newD (n : Nat) : Dev := ⟨List.replicate n ⟨0, 0, 0, false⟩, ⟨[], 0⟩, false, false, 0, 0⟩
theorem new_eq {fu : Nat} {k : Nat} (hk : k ≤ 4096) : pmem_New.f fu (k : Int) = some (some (newD (8 * k)), 0) := by
  unfold pmem_New.f
  have h1 : ¬ (k : Int) < 0 := by omega
  have h2 : ¬ (k : Int) > 4096 := by omega
  have w : IntKind.i64.wrap ((k : Int) * 8) = ((8 * k : Nat) : Int) := by rw [w64 (by omega) (by omega)]; omega
  rw [decide_eq_false h1, decide_eq_false h2, if_neg (by decide), if_neg (by decide), w, Int.toNat_natCast, if_pos ⟨by omega, Nat.le_trans (by omega : _ ≤ 100000) (by decide)⟩]
  rfl
theorem newD_ok (n : Nat) : DevOk n 0 (newD n) := by
  refine ⟨by simp [newD], fun c hc => ?_, fun h => absurd rfl h, by simp [newD], fun h => (by cases h), fun _ => rfl, by simp [newD]⟩
  rw [List.eq_of_mem_replicate hc]
  unfold okC U64
  simp
theorem fateC_ok {c : Cell} {n : Int} (h : okC c) : U64 (fateC c n) := by
  unfold fateC
  split
  · exact h.2.1
  · split
    · exact h.2.2
    · exact h.1
theorem crashC_ok {c : Cell} {n : Int} (h : okC c) : okC (crashC c n) := by
  unfold crashC
  split
  · exact ⟨fateC_ok h, fateC_ok h, by unfold U64; simp⟩
  · exact ⟨h.1, h.1, h.2.2⟩
theorem crash_ok {n : Nat} {B : Int} {d : Dev} {l : List Int} (h : DevOk n B d) : DevOk n B (crashD d l) :=
  ⟨by simp [crashD, crashL, h.len], mapIdx_ok h.val fun i c hc => crashC_ok hc, fun e => absurd rfl e, by simp [crashD], fun e => (by cases e), fun _ => rfl, h.st⟩
theorem store_ok {n : Nat} {B k w : Int} {d : Dev} (h : DevOk n B d) (hw : U64 w) : DevOk n (B + 1) (storeD d k w).2 := by
  unfold storeD
  split
  · rename_i e
    refine tick_ok (with_ok h (by simp [putC, h.len]) (mapIdx_ok h.val fun i c hc => ?_)) (may_zero.1 e).1
    split
    · exact ⟨hc.1, hw, hc.2.2⟩
    · exact hc
  · exact h.up (by omega)
theorem flush_ok {n : Nat} {B k : Int} {d : Dev} (h : DevOk n B d) : DevOk n (B + 1) (flushD d k).2 := by
  unfold flushD
  split
  · rename_i e
    exact tick_ok (with_ok h (by simp [sendL, h.len]) (sendL_ok h.val)) (may_zero.1 e).1
  · exact h.up (by omega)
theorem fence_ok {n : Nat} {B : Int} {d : Dev} (h : DevOk n B d) : DevOk n (B + 1) (fenceD d).2 := by
  unfold fenceD
  cases ho : d.off
  · rw [if_neg (by decide)]
    exact tick_ok (with_ok h (by simp [h.len]) (fun c hc => by
        obtain ⟨x, hx, rfl⟩ := List.mem_map.1 hc
        exact fence_okC (h.val x hx))) ho
  · rw [if_pos rfl]
    exact h.up (by omega)
theorem octs_take (ws : List Int) (i : Nat) : (octs ws).take (8 * i) = octs (ws.take i) := by
  by_cases h : i ≤ ws.length
  · have e : octs ws = octs (ws.take i) ++ octs (ws.drop i) := by rw [← octs_append, List.take_append_drop]
    rw [e, List.take_append_of_le_length (by rw [octs_len, List.length_take]; omega), List.take_of_length_le (by rw [octs_len, List.length_take]; omega)]
  · rw [List.take_of_length_le (by rw [octs_len]; omega), List.take_of_length_le (by omega)]
theorem octs_drop (ws : List Int) (i : Nat) : (octs ws).drop (8 * i) = octs (ws.drop i) := by
  by_cases h : i ≤ ws.length
  · have e : octs ws = octs (ws.take i) ++ octs (ws.drop i) := by rw [← octs_append, List.take_append_drop]
    have hl : (octs (ws.take i)).length = 8 * i := by rw [octs_len, List.length_take]; omega
    rw [e, ← hl, List.drop_left]
  · rw [List.drop_of_length_le (by rw [octs_len]; omega), List.drop_of_length_le (by omega)]
    rfl
theorem octs_cut (ws : List Int) (i j : Nat) : cut (octs ws) ((8 * i : Nat) : Int) ((8 * j : Nat) : Int) = octs (cut ws (i : Int) (j : Int)) := by
  unfold cut
  rw [Int.toNat_natCast, Int.toNat_natCast, Int.toNat_natCast, Int.toNat_natCast, octs_take, octs_drop]
theorem cut_get {α : Type} {l : List α} {a b i : Nat} (h : i < (cut l (a : Int) (b : Int)).length) (h2 : a + i < l.length) : (cut l (a : Int) (b : Int))[i] = l[a + i] := by
  simp only [cut, Int.toNat_natCast, List.getElem_drop, List.getElem_take]
theorem cut_len' {α : Type} {l : List α} {a b : Nat} (h : b ≤ l.length) : (cut l (a : Int) (b : Int)).length = b - a := by
  simp only [cut, Int.toNat_natCast, List.length_drop, List.length_take]
  omega
end Go.Proofs.YtdifnahlheogdaaDoor.Pure
namespace Go.Proofs.YtdifnahlheogdaaDoor
open Go Go.Xw Go.Yw
end Go.Proofs.YtdifnahlheogdaaDoor
namespace Go.Proofs.YtdifnahlheogdaaDoor.Pure
open Go Go.Xw Go.Yw
theorem Bytes.drop {l : List Int} (h : Bytes l) (n : Nat) : Bytes (l.drop n) := fun x hx => h x (List.mem_of_mem_drop hx)
theorem Bytes.take {l : List Int} (h : Bytes l) (n : Nat) : Bytes (l.take n) := fun x hx => h x (List.mem_of_mem_take hx)
theorem num_lt8 {l : List Int} (hb : Bytes l) (hl : l.length ≤ 8) : num l < 18446744073709551616 := by
  have h1 := num_lt hb
  have h2 : (256 : Nat) ^ l.length ≤ 256 ^ 8 := Nat.pow_le_pow_right (by decide) hl
  have h3 : (256 : Nat) ^ 8 = 18446744073709551616 := by decide
  omega
theorem read_long {fu : Nat} {l : List Int} (h : 8 ≤ l.length) : octet_Read.f fu l = octet_Read.f fu (l.take 8) := by
  have h8 : (l.take 8).length = 8 := by rw [List.length_take]; omega
  have e1 : mnI (l.length : Int) 8 = 8 := by unfold mnI; split <;> omega
  have e2 : mnI ((l.take 8).length : Int) 8 = 8 := by rw [h8]; rfl
  have e3 : cut l 0 8 = l.take 8 := rfl
  have e4 : cut (l.take 8) 0 8 = l.take 8 := by
    unfold cut
    rw [List.take_of_length_le (by rw [h8]; decide)]
    rfl
  have es : octet_Read.s0 fu l = octet_Read.s0 fu (l.take 8) := by
    unfold octet_Read.s0
    rw [e1, e2, e3, e4]
  unfold octet_Read.f
  rw [e1, e2, es, if_pos (by omega), if_pos (by rw [h8]; decide)]
def wordsU (l : List Int) (j : Nat) : List Int := (List.range j).map fun i => ((num ((l.drop (8 * i)).take 8) : Nat) : Int)
theorem wordsU_succ (l : List Int) (j : Nat) : wordsU l (j + 1) = wordsU l j ++ [((num ((l.drop (8 * j)).take 8) : Nat) : Int)] := by
  simp [wordsU, List.range_succ]
theorem wordsU_len (l : List Int) (j : Nat) : (wordsU l j).length = j := by simp [wordsU]
theorem chunk_len {l : List Int} {j : Nat} (h : 8 * j + 8 ≤ l.length) : ((l.drop (8 * j)).take 8).length = 8 := by
  rw [List.length_take, List.length_drop]
  omega
theorem words_U64 {l : List Int} (hb : Bytes l) {n : Nat} : ∀ w ∈ wordsU l n, U64 w := by
  intro w hw
  obtain ⟨i, _, rfl⟩ := List.mem_map.1 hw
  have := num_lt8 ((hb.drop (8 * i)).take 8) (by rw [List.length_take]; omega)
  unfold U64
  omega
theorem words_eq {fu n : Nat} {l : List Int} (hb : Bytes l) (hl : l.length = 8 * n) (hn : n ≤ 100000) (hf : n + 8 < fu) : octet_Words.f fu l = some (wordsU l n) := by
  unfold octet_Words.f
  have : loopM (octet_Words.s0 fu) fu (l, []) = some (wordsU l n) := by
    refine loopM_run (S := fun j => (l.drop (8 * j), wordsU l j)) n (by simp [wordsU]) ?_ ?_ (by omega)
    · intro j hj
      unfold octet_Words.s0
      have hdl : (l.drop (8 * j)).length = 8 * n - 8 * j := by rw [List.length_drop, hl]
      have c1 : ((l.drop (8 * j)).length : Int) ≥ 8 := by omega
      have hc : ((l.drop (8 * j)).take 8).length = 8 := chunk_len (by omega)
      have hr : octet_Read.f fu (l.drop (8 * j)) = some ((num ((l.drop (8 * j)).take 8) : Nat) : Int) := by
        rw [read_long (by omega)]
        exact read_eq ((hb.drop _).take _) (by omega) (by omega)
      have e1 : cut (l.drop (8 * j)) 8 ((l.drop (8 * j)).length : Int) = l.drop (8 * (j + 1)) := by
        unfold cut
        rw [Int.toNat_natCast, List.take_length, show Int.toNat 8 = 8 from rfl, List.drop_drop]
        congr 1
      simp only [e1]
      rw [decide_eq_true c1, if_pos rfl, hr]
      simp only [Option.bind_some]
      rw [if_pos (by rw [wordsU_len]; exact Nat.le_trans (by simp only [List.length_cons, List.length_nil]; omega : _ ≤ 100001) (by decide)), if_pos c1, wordsU_succ]
    · unfold octet_Words.s0
      have : ¬ (((l.drop (8 * n)).length : Int) ≥ 8) := by rw [List.length_drop]; omega
      simp only [this, decide_false, Bool.false_eq_true, if_false]
  rw [this]
  rfl
end Go.Proofs.YtdifnahlheogdaaDoor.Pure
namespace Go.Proofs.YtdifnahlheogdaaDoor
open Go Go.Xw Go.Yw
end Go.Proofs.YtdifnahlheogdaaDoor
namespace Go.Proofs.YtdifnahlheogdaaDoor.Pure
open Go Go.Xw Go.Yw
def putAll : Dev → Int → List Int → Int × Dev
  | d, _, [] => (0, d)
  | d, k, w :: ws => if (storeD d k w).1 = 0 then putAll (storeD d k w).2 (k + 1) ws else storeD d k w
def sendD (d : Dev) (line first : Int) (ws : List Int) : Int × Dev := if (putAll d (8 * line + first) ws).1 = 0 then flushD (putAll d (8 * line + first) ws).2 line else putAll d (8 * line + first) ws
def inL (d : Dev) (line : Int) : Prop := 0 ≤ line ∧ line < ((d.cells.length / 8 : Nat) : Int)
instance (d : Dev) (line : Int) : Decidable (inL d line) := inferInstanceAs (Decidable (_ ∧ _))
def writeD (d : Dev) (line : Int) (b : List Int) : Int × Dev := if inL d line ∧ b.length = 64 then sendD d line 0 (wordsU b 8) else (2, d)
def lineL (d : Dev) (line : Int) : List Int := (List.range 8).map fun (i : Nat) => (ix d.cells (8 * line + (i : Int))).lasts
theorem put_ok {n : Nat} : ∀ {ws : List Int} {B k : Int} {d : Dev} (h : DevOk n B d) (hw : ∀ w ∈ ws, U64 w), DevOk n (B + (ws.length : Int)) (putAll d k ws).2
  | [], B, k, d, h, _ => h.up (by simp)
  | w :: ws, B, k, d, h, hw => by
    have h1 := store_ok (k := k) h (hw w (by simp))
    unfold putAll
    split
    · exact (put_ok h1 fun x hx => hw x (by simp [hx])).up (by simp only [List.length_cons]; omega)
    · exact h1.up (by simp only [List.length_cons]; omega)
theorem send_ok {n : Nat} {ws : List Int} {B k i : Int} {d : Dev} (h : DevOk n B d) (hw : ∀ w ∈ ws, U64 w) : DevOk n (B + (ws.length : Int) + 1) (sendD d k i ws).2 := by
  have h1 := put_ok (k := 8 * k + i) h hw
  unfold sendD
  split
  · exact flush_ok h1
  · exact h1.up (by omega)
theorem store_loop {fu n : Nat} {line first : Int} {ws : List Int} (hn : n ≤ 100000) (hw : ∀ w ∈ ws, U64 w) (hl : ws.length ≤ 1000) (hline : 0 ≤ line ∧ line ≤ 100000) (hfirst : 0 ≤ first ∧ first ≤ 1000) : ∀ (r j : Nat) (B : Int) (d : Dev) (k : Nat), j + r = ws.length → DevOk n B d → B + (r : Int) < 9223372036854775807 → r < k →
    loopM (press_store.s0 fu line first ws) k ((j : Int), d) = some (if (putAll d (8 * line + first + (j : Int)) (ws.drop j)).1 = 0 then .inr (putAll d (8 * line + first + (j : Int)) (ws.drop j)).2 else .inl (putAll d (8 * line + first + (j : Int)) (ws.drop j)))
  | r, j, B, d, 0, hj, h, hB, hk => by omega
  | 0, j, B, d, k + 1, hj, h, hB, hk => by
    unfold loopM
    have : j = ws.length := by omega
    subst this
    unfold press_store.s0
    rw [decide_eq_false (show ¬ ((ws.length : Int) < (ws.length : Int)) by omega), if_neg (by decide), List.drop_of_length_le (Nat.le_refl _)]
    rfl
  | r + 1, j, B, d, k + 1, hj, h, hB, hk => by
    have hjl : j < ws.length := by omega
    have hu := hw _ (List.getElem_mem hjl)
    have hst : pmem_Device_Store.f fu d (8 * line + first + (j : Int)) ws[j] = some (storeD d (8 * line + first + (j : Int)) ws[j]) := store_eq h (by omega) hu
    have w1 : IntKind.i64.wrap (line * 8) = 8 * line := by rw [w64 (by omega) (by omega)]; omega
    have w2 : IntKind.i64.wrap (8 * line + first) = 8 * line + first := w64 (by omega) (by omega)
    have w3 : IntKind.i64.wrap (8 * line + first + (j : Int)) = 8 * line + first + (j : Int) := w64 (by omega) (by omega)
    have hd : ws.drop j = ws[j] :: ws.drop (j + 1) := List.drop_eq_getElem_cons hjl
    unfold loopM
    have hs : press_store.s0 fu line first ws ((j : Int), d) = some (if (storeD d (8 * line + first + (j : Int)) ws[j]).1 = 0 then .inr (((j + 1 : Nat) : Int), (storeD d (8 * line + first + (j : Int)) ws[j]).2) else .inl (.inl (storeD d (8 * line + first + (j : Int)) ws[j]))) := by
      unfold press_store.s0
      simp only [w1, w2, w3]
      rw [decide_eq_true (show (j : Int) < (ws.length : Int) by omega), if_pos rfl, if_pos (by omega), ix_nat hjl, hst, next64 hjl (by omega)]
      simp only [Option.bind_some]
      by_cases e : (storeD d (8 * line + first + (j : Int)) ws[j]).1 = 0
      · rw [decide_eq_true e, if_neg (by decide), if_pos e]
      · rw [decide_eq_false e, if_pos (by decide), if_neg e]
    rw [hs, hd]
    unfold putAll
    by_cases e : (storeD d (8 * line + first + (j : Int)) ws[j]).1 = 0
    · have ih := store_loop (fu := fu) (n := n) (line := line) (first := first) hn hw hl hline hfirst r (j + 1) (B + 1) (storeD d (8 * line + first + (j : Int)) ws[j]).2 k (by omega) (store_ok h hu) (by omega) (by omega)
      rw [show 8 * line + first + ((j + 1 : Nat) : Int) = 8 * line + first + (j : Int) + 1 from by omega] at ih
      rw [if_pos e, if_pos e]
      exact ih
    · rw [if_neg e, if_neg e]
      simp only [e, if_false]
theorem send_eq {fu n : Nat} {B line first : Int} {ws : List Int} {d : Dev} (h : DevOk n B d) (hB : B + (ws.length : Int) + 1 < 9223372036854775807) (hn : n ≤ 100000) (hw : ∀ w ∈ ws, U64 w) (hl : ws.length ≤ 1000) (hline : 0 ≤ line ∧ line ≤ 100000) (hfirst : 0 ≤ first ∧ first ≤ 1000) (hf : 2000 < fu) : press_store.f fu d line first ws = some (sendD d line first ws) := by
  unfold press_store.f sendD
  have h1 := store_loop (fu := fu) hn hw hl hline hfirst ws.length 0 B d fu (by omega) h (by omega) (by omega)
  simp only [List.drop_zero, Int.natCast_zero, Int.add_zero] at h1
  have h2 := put_ok (k := 8 * line + first) h hw
  rw [h1]
  by_cases e : (putAll d (8 * line + first) ws).1 = 0
  · rw [if_pos e, if_pos e]
    simp only [Option.bind_some]
    rw [flush_eq h2 (by omega) (by omega) (by omega)]
    rfl
  · rw [if_neg e, if_neg e]
    rfl
theorem pmay_eq {fu : Nat} {d : Dev} {k : Int} (hl : d.cells.length ≤ 1000000) : press_may.f fu d k = some (if inL d k then 0 else 2) := by
  unfold press_may.f
  rw [lines_eq hl]
  by_cases h1 : k < 0
  · rw [decide_eq_true h1, if_neg (show ¬ inL d k from fun q => by have := q.1; omega)]
    rfl
  · rw [decide_eq_false h1, if_neg (by decide)]
    simp only [Option.bind_some]
    by_cases h2 : k ≥ ((d.cells.length / 8 : Nat) : Int)
    · rw [decide_eq_true h2, if_neg (show ¬ inL d k from fun q => by have := q.2; omega)]
      rfl
    · rw [decide_eq_false h2, if_pos (show inL d k from ⟨by omega, by omega⟩)]
      rfl
theorem write_eq {fu n : Nat} {B line : Int} {b : List Int} {d : Dev} (h : DevOk n B d) (hB : B + 9 < 9223372036854775807) (hn : n ≤ 100000) (hb : Bytes b) (hf : 2000 < fu) : press_Write.f fu d line b = some (writeD d line b) := by
  unfold press_Write.f writeD
  have hlen := h.len
  rw [pmay_eq (by omega)]
  simp only [Option.bind_some]
  by_cases hi : inL d line
  · rw [if_pos hi, if_neg (by decide)]
    by_cases hl : b.length = 64
    · have hw := words_U64 (n := 8) hb
      unfold inL at hi
      rw [decide_eq_true (show (b.length : Int) = 64 by omega), if_neg (by decide), if_pos ⟨hi, hl⟩, words_eq (n := 8) hb (by omega) (by decide) (by omega)]
      simp only [Option.bind_some]
      rw [send_eq h (by rw [wordsU_len]; omega) hn hw (by rw [wordsU_len]; decide) (by omega) (by decide) hf]
      rfl
    · rw [decide_eq_false (show ¬ (b.length : Int) = 64 by omega), if_pos (by decide), if_neg (fun q => hl q.2)]
  · rw [if_neg hi, if_pos (by decide), if_neg (fun q => hi q.1)]
theorem sure_eq {fu n : Nat} {B : Int} {d : Dev} (h : DevOk n B d) (hB : B < 9223372036854775807) (hn : n ≤ 100000) (hf : n < fu) : press_Sure.f fu d = some (fenceD d) := by
  unfold press_Sure.f
  rw [fence_eq h hB (by omega) hf]
  rfl
theorem lineL_cut {d : Dev} {k : Nat} (h : 8 * k + 8 ≤ d.cells.length) : cut (lastsD d) ((8 * k : Nat) : Int) ((8 * k + 8 : Nat) : Int) = lineL d (k : Int) := by
  have hl : (lastsD d).length = d.cells.length := by simp [lastsD]
  apply List.ext_getElem
  · rw [cut_len' (by omega)]
    simp [lineL]
  · intro i h1 h2
    have hi : i < 8 := by simpa [lineL] using h2
    rw [cut_get h1 (by omega)]
    simp only [lastsD, lineL, List.getElem_map, List.getElem_range]
    rw [show 8 * (k : Int) + (i : Int) = ((8 * k + i : Nat) : Int) from by omega, ix_nat (by omega)]
end Go.Proofs.YtdifnahlheogdaaDoor.Pure
namespace Go.Proofs.YtdifnahlheogdaaDoor
open Go Go.Xw Go.Yw
end Go.Proofs.YtdifnahlheogdaaDoor
namespace Go.Proofs.YtdifnahlheogdaaDoor.Pure
open Go Go.Xw Go.Yw
noncomputable def SO (n : Nat) (d : Dev) (a : AA) : S_shadow_Store := ⟨d, a.of n⟩
def writtenS (d : Dev) (a : AA) (k : Int) (b : List Int) : Int × Int × Dev × AA := if (writeD d k b).1 = 0 then (k, 0, (writeD d k b).2, a) else (0, (writeD d k b).1, (writeD d k b).2, a)
def makeS (n : Nat) (d : Dev) (a : AA) (b : List Int) : Int × Int × Dev × AA := if b.length = 64 then if (a.take n).2.1 = 0 then writtenS d (a.take n).2.2 (a.take n).1 b else (0, (a.take n).2.1, d, (a.take n).2.2) else (0, 2, d, a)
def turnS (n : Nat) (d : Dev) (a : AA) (k : Int) (b : List Int) : Int × Int × Dev × AA :=
  if b.length = 64 ∧ hasI n a.w k = true then
    if a.own n k = true then writtenS d a k b
    else if (makeS n d a b).2.1 = 0 then ((makeS n d a b).1, ((makeS n d a b).2.2.2.give n k).1, (makeS n d a b).2.2.1, ((makeS n d a b).2.2.2.give n k).2) else (0, (makeS n d a b).2.1, (makeS n d a b).2.2.1, (makeS n d a b).2.2.2)
  else (0, 2, d, a)
theorem write_dev {m : Nat} {B line : Int} {b : List Int} {d : Dev} (h : DevOk m B d) (hb : Bytes b) : DevOk m (B + 9) (writeD d line b).2 := by
  unfold writeD
  split
  · have := send_ok (k := line) (i := 0) h (words_U64 (n := 8) hb)
    exact this.up (by rw [wordsU_len]; omega)
  · exact h.up (by omega)
theorem written_eq {fu n m : Nat} {B k : Int} {b : List Int} {d : Dev} {a : AA} (h : DevOk m B d) (hB : B + 9 < 9223372036854775807) (hm : m ≤ 100000) (hb : Bytes b) (hf : 2000 < fu) : shadow_Store_written.f fu (SO n d a) k b = some ((writtenS d a k b).1, (writtenS d a k b).2.1, SO n (writtenS d a k b).2.2.1 (writtenS d a k b).2.2.2) := by
  unfold shadow_Store_written.f writtenS
  rw [show (SO n d a).device = d from rfl, write_eq h hB hm hb hf]
  simp only [Option.bind_some]
  by_cases e : (writeD d k b).1 = 0
  · rw [decide_eq_true e, if_neg (by decide), if_pos e]
    rfl
  · rw [decide_eq_false e, if_pos (by decide), if_neg e]
    rfl
theorem written_dev {m : Nat} {B k : Int} {b : List Int} {d : Dev} {a : AA} (h : DevOk m B d) (hb : Bytes b) : DevOk m (B + 9) (writtenS d a k b).2.2.1 ∧ (writtenS d a k b).2.2.2 = a := by
  have := write_dev (line := k) h hb
  unfold writtenS
  split <;> exact ⟨this, rfl⟩
theorem make_eq {fu n m : Nat} {B : Int} {b : List Int} {d : Dev} {a : AA} (h : DevOk m B d) (hB : B + 9 < 9223372036854775807) (hm : m ≤ 100000) (hb : Bytes b) (hf : 2000 < fu) (ha : AOk n a) (hn : n ≤ 90000) (hfn : n + 64 < fu) : shadow_Store_Make.f fu (SO n d a) b = some ((makeS n d a b).1, (makeS n d a b).2.1, SO n (makeS n d a b).2.2.1 (makeS n d a b).2.2.2) := by
  unfold shadow_Store_Make.f makeS
  by_cases e : b.length = 64
  · rw [decide_eq_true (show (b.length : Int) = 64 by omega), if_neg (by decide), if_pos e, show (SO n d a).blocks = a.of n from rfl, take_eq hn hfn ha]
    simp only [Option.bind_some]
    by_cases e2 : (a.take n).2.1 = 0
    · rw [decide_eq_true e2, if_neg (by decide), if_pos e2, show (⟨(SO n d a).device, (a.take n).2.2.of n⟩ : S_shadow_Store) = SO n d (a.take n).2.2 from rfl, written_eq h hB hm hb hf]
      rfl
    · rw [decide_eq_false e2, if_pos (by decide), if_neg e2]
      rfl
  · rw [decide_eq_false (show ¬ (b.length : Int) = 64 by omega), if_pos (by decide), if_neg e]
theorem make_ok {n m : Nat} {B : Int} {b : List Int} {d : Dev} {a : AA} (h : DevOk m B d) (hb : Bytes b) (ha : AOk n a) : DevOk m (B + 9) (makeS n d a b).2.2.1 ∧ AOk n (makeS n d a b).2.2.2 := by
  have ht := take_ok ha
  unfold makeS
  split
  · split
    · obtain ⟨h1, h2⟩ := written_dev (k := (a.take n).1) (a := (a.take n).2.2) h hb
      rw [h2]
      exact ⟨h1, ht⟩
    · exact ⟨h.up (by omega), ht⟩
  · exact ⟨h.up (by omega), ha⟩
theorem turn_eq {fu n m : Nat} {B k : Int} {b : List Int} {d : Dev} {a : AA} (h : DevOk m B d) (hB : B + 9 < 9223372036854775807) (hm : m ≤ 100000) (hb : Bytes b) (hf : 2000 < fu) (ha : AOk n a) (hn : n ≤ 90000) (hfn : n + 64 < fu) : shadow_Store_Turn.f fu (SO n d a) k b = some ((turnS n d a k b).1, (turnS n d a k b).2.1, SO n (turnS n d a k b).2.2.1 (turnS n d a k b).2.2.2) := by
  unfold shadow_Store_Turn.f turnS
  by_cases e : b.length = 64
  · rw [decide_eq_true (show (b.length : Int) = 64 by omega), if_neg (by decide), show (SO n d a).blocks = a.of n from rfl, works_eq hn hfn ha]
    simp only [Option.bind_some]
    rw [has_eq (by omega)]
    simp only [Option.bind_some]
    cases hh : hasI n a.w k
    · rw [Bool.not_false, if_pos rfl, if_neg (fun q => by simp at q)]
    · rw [Bool.not_true, if_neg (by decide), if_pos ⟨e, rfl⟩, own_eq hn]
      simp only [Option.bind_some]
      cases ho : a.own n k
      · rw [if_neg (by decide), if_neg (by decide), make_eq h hB hm hb hf ha hn hfn]
        simp only [Option.bind_some]
        obtain ⟨m1, m2⟩ := make_ok (n := n) h hb ha
        by_cases e2 : (makeS n d a b).2.1 = 0
        · rw [decide_eq_true e2, if_neg (by decide), if_pos e2, show (SO n (makeS n d a b).2.2.1 (makeS n d a b).2.2.2).blocks = (makeS n d a b).2.2.2.of n from rfl, give_eq hn hfn m2]
          rfl
        · rw [decide_eq_false e2, if_pos (by decide), if_neg e2]
      · rw [if_pos rfl, if_pos rfl, written_eq h hB hm hb hf]
        rfl
  · rw [decide_eq_false (show ¬ (b.length : Int) = 64 by omega), if_pos (by decide), if_neg (fun q => e q.1)]
theorem drop_eq {fu n : Nat} {k : Int} {d : Dev} {a : AA} (ha : AOk n a) (hn : n ≤ 90000) (hfn : n + 64 < fu) : shadow_Store_Drop.f fu (SO n d a) k = some ((a.give n k).1, SO n d (a.give n k).2) := by
  unfold shadow_Store_Drop.f
  rw [show (SO n d a).blocks = a.of n from rfl, give_eq hn hfn ha]
  rfl
theorem ssure_eq {fu n m : Nat} {B : Int} {d : Dev} {a : AA} (h : DevOk m B d) (hB : B < 9223372036854775807) (hm : m ≤ 100000) (hf : m < fu) : shadow_Store_Sure.f fu (SO n d a) = some ((fenceD d).1, SO n (fenceD d).2 a) := by
  unfold shadow_Store_Sure.f
  rw [show (SO n d a).device = d from rfl, sure_eq h hB hm hf]
  rfl
structure Clean (d : Dev) : Prop where
  off : d.off = false
  arm : d.armed = false
  pl : d.plan.list = []
theorem tick_clean {d : Dev} (h : Clean d) : tick d = ⟨d.cells, d.plan, false, false, d.left, d.steps + 1⟩ := by
  have hp : pick d.plan = -1 := by simp [pick, h.pl]
  have hn : nextP d.plan = d.plan := by simp [nextP, h.pl]
  unfold tick
  rw [hp, hn, evict_no _ (by decide), h.arm, h.off]
  rfl
theorem clean_with {d : Dev} {cs : List Cell} (h : Clean d) : Clean (tick (withC d cs)) ∧ (tick (withC d cs)).cells = cs := by
  have h' : Clean (withC d cs) := ⟨h.off, h.arm, h.pl⟩
  rw [tick_clean h']
  exact ⟨⟨rfl, rfl, h.pl⟩, rfl⟩
theorem putC_ix {cs : List Cell} {k w : Int} {i : Nat} (hi : i < cs.length) : ix (putC k w cs) (i : Int) = if (i : Int) = k then ⟨(ix cs (i : Int)).lasts, w, (ix cs (i : Int)).sent, (ix cs (i : Int)).flushed⟩ else ix cs (i : Int) := by
  have hl : i < (putC k w cs).length := by simpa [putC] using hi
  rw [ix_nat hl, ix_nat hi]
  simp only [putC, List.getElem_mapIdx]
theorem sendL_ix {cs : List Cell} {k : Int} {i : Nat} (hi : i < cs.length) : ix (sendL k cs) (i : Int) = if 8 * k ≤ (i : Int) ∧ (i : Int) < 8 * k + 8 then sendC (ix cs (i : Int)) else ix cs (i : Int) := by
  have hl : i < (sendL k cs).length := by simpa [sendL] using hi
  rw [ix_nat hl, ix_nat hi]
  simp only [sendL, List.getElem_mapIdx]
theorem put_clean : ∀ {ws : List Int} {k : Nat} {d : Dev}, Clean d → k + ws.length ≤ d.cells.length → (putAll d (k : Int) ws).1 = 0 ∧ Clean (putAll d (k : Int) ws).2 ∧ (putAll d (k : Int) ws).2.cells.length = d.cells.length ∧
    ∀ i : Nat, i < d.cells.length → ix (putAll d (k : Int) ws).2.cells (i : Int) = if k ≤ i ∧ i < k + ws.length then ⟨(ix d.cells (i : Int)).lasts, ix ws ((i - k : Nat) : Int), (ix d.cells (i : Int)).sent, (ix d.cells (i : Int)).flushed⟩ else ix d.cells (i : Int)
  | [], k, d, h, hk => ⟨rfl, h, rfl, fun i hi => by
    have : ¬ (k ≤ i ∧ i < k + ([] : List Int).length) := fun q => by have h1 := q.1; have h2 := q.2; simp only [List.length_nil] at h2; omega
    rw [if_neg this]
    rfl⟩
  | w :: ws, k, d, h, hk => by
    have hk : k + (ws.length + 1) ≤ d.cells.length := hk
    have hm : mayI d.off (k : Int) (d.cells.length : Int) = 0 := may_zero.2 ⟨h.off, by omega, by omega⟩
    have hs : storeD d (k : Int) w = (0, tick (withC d (putC (k : Int) w d.cells))) := by
      unfold storeD
      rw [if_pos hm]
    obtain ⟨c1, c2⟩ := clean_with (cs := putC (k : Int) w d.cells) h
    have hl : (putC (k : Int) w d.cells).length = d.cells.length := by simp [putC]
    obtain ⟨i1, i2, i3, i4⟩ := put_clean (ws := ws) (k := k + 1) c1 (by rw [c2, hl]; omega)
    have e : putAll d (k : Int) (w :: ws) = putAll (tick (withC d (putC (k : Int) w d.cells))) ((k + 1 : Nat) : Int) ws := by
      conv => lhs; unfold putAll
      rw [hs]
      simp only [if_true]
      rfl
    rw [e]
    rw [c2, hl] at i3 i4
    refine ⟨i1, i2, i3, fun i hi => ?_⟩
    rw [i4 i hi, putC_ix hi]
    by_cases e1 : i = k
    · subst e1
      have e9 : i ≤ i ∧ i < i + (w :: ws).length := ⟨Nat.le_refl _, by simp only [List.length_cons]; omega⟩
      rw [if_neg (by omega), if_pos rfl, if_pos e9, Nat.sub_self]
      rfl
    · rw [if_neg (show ¬ ((i : Int) = (k : Int)) by omega)]
      by_cases e2 : k + 1 ≤ i ∧ i < k + 1 + ws.length
      · rw [if_pos e2, if_pos (by simp only [List.length_cons]; omega)]
        obtain ⟨p, hp⟩ : ∃ p, i - k = p + 1 := ⟨i - k - 1, by omega⟩
        have hp2 : i - (k + 1) = p := by omega
        have e5 : ix (w :: ws) ((p + 1 : Nat) : Int) = ix ws (p : Int) := by
          unfold ix
          rw [Int.toNat_natCast, Int.toNat_natCast]
          rfl
        rw [hp, hp2, e5]
      · rw [if_neg e2, if_neg (by simp only [List.length_cons]; omega)]
theorem write_clean {d : Dev} {line : Nat} {b : List Int} (h : Clean d) (hi : 8 * line + 8 ≤ d.cells.length) (hb : b.length = 64) : (writeD d (line : Int) b).1 = 0 ∧ Clean (writeD d (line : Int) b).2 ∧ (writeD d (line : Int) b).2.cells.length = d.cells.length ∧
    ∀ i : Nat, i < d.cells.length → ix (writeD d (line : Int) b).2.cells (i : Int) = if i / 8 = line then ⟨(ix d.cells (i : Int)).lasts, ix (wordsU b 8) ((i - 8 * line : Nat) : Int), ix (wordsU b 8) ((i - 8 * line : Nat) : Int), true⟩ else ix d.cells (i : Int) := by
  have hin : inL d (line : Int) := ⟨by omega, by omega⟩
  obtain ⟨p1, p2, p3, p4⟩ := put_clean (ws := wordsU b 8) (k := 8 * line) h (by rw [wordsU_len]; exact hi)
  have ek : 8 * (line : Int) + 0 = ((8 * line : Nat) : Int) := by omega
  have hw : writeD d (line : Int) b = flushD (putAll d ((8 * line : Nat) : Int) (wordsU b 8)).2 (line : Int) := by
    unfold writeD
    rw [if_pos ⟨hin, hb⟩]
    unfold sendD
    rw [ek, if_pos p1]
  generalize putAll d ((8 * line : Nat) : Int) (wordsU b 8) = D at *
  have hm : mayI D.2.off (line : Int) ((D.2.cells.length / 8 : Nat) : Int) = 0 := may_zero.2 ⟨p2.off, by omega, by rw [p3]; omega⟩
  have hfl : flushD D.2 (line : Int) = (0, tick (withC D.2 (sendL (line : Int) D.2.cells))) := by
    unfold flushD
    rw [if_pos hm]
  obtain ⟨c1, c2⟩ := clean_with (cs := sendL (line : Int) D.2.cells) p2
  rw [hw, hfl]
  refine ⟨rfl, c1, by rw [c2]; simpa [sendL] using p3, fun i hi' => ?_⟩
  rw [c2, sendL_ix (by rw [p3]; exact hi'), p4 i hi', wordsU_len]
  by_cases e : i / 8 = line
  · rw [if_pos (by omega), if_pos (by omega), if_pos e]
    rfl
  · rw [if_neg (by omega), if_neg (by omega), if_neg e]
abbrev FU : Nat := 200000
theorem awake19 : rickyardlaw19_awake.f FU = some true := by decide +kernel
def ini (n : Nat) : Nat → Bool := addF n (fun _ => false) [0, 1]
def nul (n : Nat) : Nat → Bool := addF n (fun _ => false) []
def A0 (n : Nat) (r : Int) : AA := ⟨r, ini n, nul n, ini n, ini n⟩
theorem ini_low (n : Nat) : Low n (ini n) := addF_low fun k h => by cases h
theorem nul_low (n : Nat) : Low n (nul n) := addF_low fun k h => by cases h
theorem A0_ok {n : Nat} {r : Int} (hr : 0 ≤ r ∧ r ≤ 1000) : AOk n (A0 n r) := ⟨ini_low n, nul_low n, ini_low n, ini_low n, hr⟩
theorem made_eq {fu n : Nat} {r : Int} (hn : n ≤ 3072) (hf : n + 2000 < fu) (hr : 0 ≤ r ∧ r ≤ 1000) : rickyardlaw19_Made.f fu (n : Int) r = some (some (SO n (newD (8 * n)) (A0 n r)), some (newD (8 * n)), some ((A0 n r).of n)) := by
  unfold rickyardlaw19_Made.f
  rw [new_eq (by omega)]
  simp only [Option.bind_some, Option.elim_some]
  rw [of_eq (l := [0, 1]) hn (by decide) (by simp; omega), of_eq (l := []) hn (by decide) (by simp; omega)]
  simp only [Option.bind_some]
  rw [anew_eq (by omega) (by omega) (addF_low fun k h => by cases h) (addF_low fun k h => by cases h) hr.1]
  simp only [Option.bind_some, Option.elim_some]
  have ha := A0_ok (n := n) hr
  unfold shadow_New.f
  rw [show (⟨r, addF n (fun _ => false) [0, 1], addF n (fun _ => false) [], addF n (fun _ => false) [0, 1], addF n (fun _ => false) [0, 1]⟩ : AA) = A0 n r from rfl, works_eq (by omega) (by omega) ha]
  have hl : (newD (8 * n)).cells.length = 8 * n := by simp [newD]
  simp only [Option.bind_some, bits_Set_Size.f]
  rw [lines_eq (by omega), hl]
  simp only [Option.bind_some]
  rw [show (setOf n (A0 n r).w).size = (n : Int) from rfl, decide_eq_false (show ¬ ((n : Int) > ((8 * n / 8 : Nat) : Int)) by omega), if_neg (by decide)]
  rfl
end Go.Proofs.YtdifnahlheogdaaDoor.Pure
namespace Go.Proofs.YtdifnahlheogdaaDoor
open Go Go.Xw Go.Yw
end Go.Proofs.YtdifnahlheogdaaDoor
namespace Go.Proofs.YtdifnahlheogdaaDoor.Pure
open Go Go.Xw Go.Yw
theorem newD_clean (n : Nat) : Clean (newD n) := ⟨rfl, rfl, rfl⟩
structure SOk (n : Nat) (B : Int) (d : Dev) (a : AA) : Prop where
  dev : DevOk (8 * n) B d
  cl : Clean d
  al : AOk n a
theorem SOk.up {n : Nat} {B C : Int} {d : Dev} {a : AA} (h : SOk n B d a) (hc : B ≤ C) : SOk n C d a := ⟨h.dev.up hc, h.cl, h.al⟩
theorem SOk.len {n : Nat} {B : Int} {d : Dev} {a : AA} (h : SOk n B d a) : d.cells.length = 8 * n := h.dev.len
def Stay (n : Nat) (K : Nat → Bool) (d e : Dev) : Prop := ∀ i : Nat, i < 8 * n → (K (i / 8) = true → ix e.cells (i : Int) = ix d.cells (i : Int)) ∧ (ix e.cells (i : Int) = ix d.cells (i : Int) ∨ ∃ s, ix e.cells (i : Int) = ⟨(ix d.cells (i : Int)).lasts, s, s, true⟩)
theorem Stay.refl (n : Nat) (K : Nat → Bool) (d : Dev) : Stay n K d d := fun i _ => ⟨fun _ => rfl, .inl rfl⟩
theorem writtenS_clean {d : Dev} {a : AA} {line : Nat} {b : List Int} (h : Clean d) (hi : 8 * line + 8 ≤ d.cells.length) (hb : b.length = 64) : writtenS d a (line : Int) b = ((line : Int), 0, (writeD d (line : Int) b).2, a) := by
  unfold writtenS
  rw [if_pos (write_clean h hi hb).1]
theorem written_step {n : Nat} {B : Int} {d : Dev} {a a' : AA} {line : Nat} {b : List Int} {K : Nat → Bool} (h : SOk n B d a) (ha : AOk n a') (hl : line < n) (hb : Bytes b) (hb2 : b.length = 64) (hK : K line = false) : SOk n (B + 9) (writtenS d a' (line : Int) b).2.2.1 a' ∧ Stay n K d (writtenS d a' (line : Int) b).2.2.1 ∧ (writtenS d a' (line : Int) b).2.2.2 = a' ∧ (writtenS d a' (line : Int) b).2.1 = 0 ∧ (writtenS d a' (line : Int) b).1 = (line : Int) := by
  have hlen := h.len
  rw [writtenS_clean h.cl (by omega) hb2]
  obtain ⟨w1, w2, w3, w4⟩ := write_clean (line := line) h.cl (by omega) hb2
  refine ⟨⟨write_dev h.dev hb, w2, ha⟩, fun i hi => ?_, rfl, rfl, rfl⟩
  rw [w4 i (by omega)]
  by_cases e : i / 8 = line
  · rw [if_pos e]
    refine ⟨fun hk => ?_, .inr ⟨_, rfl⟩⟩
    rw [e, hK] at hk
    cases hk
  · rw [if_neg e]
    exact ⟨fun _ => rfl, .inl rfl⟩
def Grow (a a' : AA) : Prop := ∃ w', a' = a.setW w' ∧ ∀ k, w' k = true → a.w k = true ∨ a.held k = false
theorem Grow.refl (a : AA) : Grow a a := ⟨a.w, rfl, fun k h => .inl h⟩
theorem make_step {n : Nat} {B : Int} {d : Dev} {a : AA} {b : List Int} {K : Nat → Bool} (h : SOk n B d a) (hb : Bytes b) (hK : ∀ k, K k = true → a.held k = true) : SOk n (B + 9) (makeS n d a b).2.2.1 (makeS n d a b).2.2.2 ∧ Stay n K d (makeS n d a b).2.2.1 ∧ Grow a (makeS n d a b).2.2.2 := by
  unfold makeS
  by_cases e : b.length = 64
  · rw [if_pos e]
    by_cases e2 : (a.take n).2.1 = 0
    · rw [if_pos e2]
      have ht := take_ok h.al
      unfold AA.take at e2 ht ⊢
      by_cases e3 : ((a.free n).length : Int) ≤ a.r
      · rw [if_pos e3] at e2
        have e2 : (10 : Int) = 0 := e2
        exact absurd e2 (by decide)
      · rw [if_neg e3] at ht ⊢
        have hr := h.al.r
        obtain ⟨l1, l2, l3⟩ := least_ok (n := n) (a := a) (by omega)
        simp only at ht ⊢
        obtain ⟨s1, s2, s3, _, _⟩ := written_step (K := K) h ht l1 hb e (by
          cases hk : K (a.least n)
          · rfl
          · rw [hK _ hk] at l2
            cases l2)
        rw [s3]
        refine ⟨s1, s2, addF n a.w [(a.least n : Int)], rfl, fun k hk => ?_⟩
        unfold addF at hk
        rcases Bool.or_eq_true_iff.1 hk with hk | hk
        · exact .inl hk
        · right
          have := of_decide_eq_true (Bool.and_eq_true_iff.1 hk).2
          have : k = a.least n := by
            have := List.mem_singleton.1 this
            omega
          rw [this]
          exact l2
    · rw [if_neg e2]
      have : (a.take n).2.2 = a := by
        unfold AA.take at e2 ⊢
        split
        · rfl
        · rename_i e3
          rw [if_neg e3] at e2
          exact absurd rfl e2
      simp only [this]
      exact ⟨h.up (by omega), Stay.refl _ _ _, Grow.refl a⟩
  · rw [if_neg e]
    exact ⟨h.up (by omega), Stay.refl _ _ _, Grow.refl a⟩
theorem give_grow {n : Nat} {a : AA} {k : Int} : Grow a (a.give n k).2 := by
  unfold AA.give
  split
  · exact ⟨_, rfl, fun j hj => .inl (Bool.and_eq_true_iff.1 hj).1⟩
  · exact Grow.refl a
theorem Grow.give {n : Nat} {a a' : AA} {k : Int} (h : Grow a a') : Grow a (a'.give n k).2 := by
  obtain ⟨w1, rfl, h1⟩ := h
  unfold AA.give
  split
  · exact ⟨_, rfl, fun j hj => h1 j (Bool.and_eq_true_iff.1 hj).1⟩
  · exact ⟨w1, rfl, h1⟩
theorem turn_step {n : Nat} {B k : Int} {d : Dev} {a : AA} {b : List Int} {K : Nat → Bool} (h : SOk n B d a) (hb : Bytes b) (hK : ∀ k, K k = true → a.held k = true) (hO : ∀ k, K k = true → a.w k = true → a.m k = true) : SOk n (B + 9) (turnS n d a k b).2.2.1 (turnS n d a k b).2.2.2 ∧ Stay n K d (turnS n d a k b).2.2.1 ∧ Grow a (turnS n d a k b).2.2.2 := by
  unfold turnS
  by_cases e : b.length = 64 ∧ hasI n a.w k = true
  · rw [if_pos e]
    by_cases e2 : a.own n k = true
    · rw [if_pos e2]
      unfold AA.own hasI at e2
      simp only [Bool.and_eq_true, decide_eq_true_eq, Bool.not_eq_true'] at e2
      obtain ⟨⟨k0, k1, k2⟩, k3⟩ := e2
      obtain ⟨j, rfl⟩ : ∃ j : Nat, k = (j : Int) := ⟨k.toNat, by omega⟩
      rw [Int.toNat_natCast] at k2 k3
      have hm : a.m j = false := by
        rw [decide_eq_true k0, decide_eq_true k1] at k3
        simpa using k3
      obtain ⟨s1, s2, s3, _, _⟩ := written_step (K := K) (line := j) h h.al (by omega) hb e.1 (by
        cases hk : K j
        · rfl
        · rw [hO _ hk k2] at hm
          cases hm)
      rw [s3]
      exact ⟨s1, s2, Grow.refl a⟩
    · rw [if_neg e2]
      obtain ⟨s1, s2, s3⟩ := make_step (K := K) h hb hK
      by_cases e3 : (makeS n d a b).2.1 = 0
      · rw [if_pos e3]
        exact ⟨⟨s1.dev, s1.cl, give_ok s1.al⟩, s2, s3.give⟩
      · rw [if_neg e3]
        exact ⟨s1, s2, s3⟩
  · rw [if_neg e]
    exact ⟨h.up (by omega), Stay.refl _ _ _, Grow.refl a⟩
def doS (n : Nat) (d : Dev) (a : AA) (x : S_rickyardlaw19_Act) : Dev × AA :=
  if x.Kind % 10 = 0 then (makeS n d a x.B).2.2
  else if x.Kind % 10 = 1 then (turnS n d a x.At x.B).2.2
  else if x.Kind % 10 = 2 then (d, (a.give n x.At).2)
  else if x.Kind % 10 = 4 then ((fenceD d).2, a)
  else if x.Kind % 10 = 5 then (d, a.mark)
  else if x.Kind % 10 = 6 then (d, a.back)
  else if x.Kind % 10 = 8 then (d, a.abort)
  else (d, a)
theorem rest_eq {fu : Nat} {k m : Int} (hk : I64 k) (hm : 0 < m ∧ m ≤ 1000) : rickyardref01_Rest.f fu k m = some (k % m) := by
  unfold rickyardref01_Rest.f
  have e : m ≠ 0 := by omega
  rw [if_pos e, if_pos e]
  have h1 : -m < Int.tmod k m ∧ Int.tmod k m < m := by
    rcases Int.lt_or_le k 0 with h | h
    · have e1 : Int.tmod k m = -(Int.tmod (-k) m) := by rw [Int.neg_tmod, Int.neg_neg]
      have e2 : Int.tmod (-k) m = (-k) % m := Int.tmod_eq_emod_of_nonneg (by omega)
      have := Int.emod_nonneg (-k) e
      have := Int.emod_lt_of_pos (-k) hm.1
      omega
    · have e2 : Int.tmod k m = k % m := Int.tmod_eq_emod_of_nonneg h
      have := Int.emod_nonneg k e
      have := Int.emod_lt_of_pos k hm.1
      omega
  rw [w64 (by omega) (by omega), Int.tmod_eq_emod_of_nonneg (by omega), Int.add_emod_right]
  have h2 : Int.tmod k m = k - m * Int.tdiv k m := by have := Int.tmod_add_mul_tdiv k m; omega
  rw [h2, Int.sub_mul_emod_self_left]
theorem fence_clean {d : Dev} (h : Clean d) : (fenceD d).1 = 0 ∧ Clean (fenceD d).2 ∧ (fenceD d).2.cells = d.cells.map fenceC := by
  unfold fenceD
  rw [h.off, if_neg (by decide)]
  obtain ⟨c1, c2⟩ := clean_with (cs := d.cells.map fenceC) h
  exact ⟨rfl, c1, c2⟩
theorem fence_step {n : Nat} {B : Int} {d : Dev} {a : AA} (h : SOk n B d a) : SOk n (B + 9) (fenceD d).2 a := ⟨(fence_ok h.dev).up (by omega), (fence_clean h.cl).2.1, h.al⟩
def okX (x : S_rickyardlaw19_Act) : Prop := I64 x.Kind ∧ I64 x.At ∧ Bytes x.B
theorem do_eq {fu n : Nat} {B : Int} {d : Dev} {a : AA} {x : S_rickyardlaw19_Act} (h : SOk n B d a) (hB : B + 9 < 9223372036854775807) (hn : n ≤ 4000) (hx : okX x) (hf : 40000 < fu) : rickyardlaw19_do_a1_1.f fu (SO n d a) x = some (SO n (doS n d a x).1 (doS n d a x).2) := by
  unfold rickyardlaw19_do_a1_1.f doS
  rw [rest_eq hx.1 (by decide)]
  simp only [Option.bind_some]
  have hbl : (SO n d a).blocks = a.of n := rfl
  have hdv : (SO n d a).device = d := rfl
  by_cases e0 : x.Kind % 10 = 0
  · rw [decide_eq_true e0, if_pos rfl, if_pos e0, make_eq h.dev hB (by omega) hx.2.2 (by omega) h.al (by omega) (by omega)]
    rfl
  rw [decide_eq_false e0, if_neg (by decide), if_neg e0]
  by_cases e1 : x.Kind % 10 = 1
  · rw [decide_eq_true e1, if_pos rfl, if_pos e1, turn_eq h.dev hB (by omega) hx.2.2 (by omega) h.al (by omega) (by omega)]
    rfl
  rw [decide_eq_false e1, if_neg (by decide), if_neg e1]
  by_cases e2 : x.Kind % 10 = 2
  · rw [decide_eq_true e2, if_pos rfl, if_pos e2, drop_eq h.al (by omega) (by omega)]
    rfl
  rw [decide_eq_false e2, if_neg (by decide), if_neg e2]
  by_cases e4 : x.Kind % 10 = 4
  · rw [decide_eq_true e4, if_pos rfl, if_pos e4, ssure_eq h.dev (by omega) (by omega) (by omega)]
    rfl
  rw [decide_eq_false e4, if_neg (by decide), if_neg e4]
  by_cases e5 : x.Kind % 10 = 5
  · rw [decide_eq_true e5, if_pos rfl, if_pos e5, hbl, mark_eq (by omega) (by omega) h.al]
    rfl
  rw [decide_eq_false e5, if_neg (by decide), if_neg e5]
  by_cases e6 : x.Kind % 10 = 6
  · rw [decide_eq_true e6, if_pos rfl, if_pos e6, hbl, back_eq (by omega) (by omega) h.al]
    rfl
  rw [decide_eq_false e6, if_neg (by decide), if_neg e6]
  by_cases e8 : x.Kind % 10 = 8
  · rw [decide_eq_true e8, if_pos rfl, if_pos e8, hbl, abort_eq (by omega) (by omega) h.al]
    rfl
  rw [decide_eq_false e8, if_neg (by decide), if_neg e8]
  rfl
theorem do_ok {n : Nat} {B : Int} {d : Dev} {a : AA} {x : S_rickyardlaw19_Act} (h : SOk n B d a) (hx : okX x) : SOk n (B + 9) (doS n d a x).1 (doS n d a x).2 := by
  have hu := h.up (show B ≤ B + 9 by omega)
  unfold doS
  split
  · exact (make_step (K := fun _ => false) h hx.2.2 (fun k hk => by cases hk)).1
  split
  · exact (turn_step (K := fun _ => false) h hx.2.2 (fun k hk => by cases hk) (fun k hk => by cases hk)).1
  split
  · exact ⟨hu.dev, hu.cl, give_ok h.al⟩
  split
  · exact fence_step h
  split
  · exact ⟨hu.dev, hu.cl, mark_ok h.al⟩
  split
  · exact ⟨hu.dev, hu.cl, back_ok h.al⟩
  split
  · exact ⟨hu.dev, hu.cl, abort_ok h.al⟩
  · exact hu
theorem small_ex {fu m : Nat} {acts : List S_rickyardlaw19_Act} (hm : m ≤ 1000) (hf : m < fu) : ∃ b, rickyardlaw19_small.f fu acts (m : Int) = some b ∧ (b = true → acts.length ≤ m) := by
  unfold rickyardlaw19_small.f
  by_cases h : (acts.length : Int) > (m : Int)
  · rw [decide_eq_true h, if_pos rfl]
    exact ⟨false, rfl, fun h => by cases h⟩
  · rw [decide_eq_false h, if_neg (by decide)]
    have hl : acts.length ≤ m := by omega
    have : ∃ e, loopM (rickyardlaw19_small.s0 fu acts) fu ((0 : Nat) : Int) = some e := by
      refine loopM_term (fun j => ((j : Nat) : Int)) acts.length (fun j hj => ?_) ?_ (by omega) (by omega)
      · unfold rickyardlaw19_small.s0
        have c1 : 0 ≤ (j : Int) ∧ (j : Int) < (acts.length : Int) := by omega
        rw [decide_eq_true c1.2, if_pos rfl, if_pos c1, next64 hj (by omega)]
        split
        · exact .inl ⟨_, rfl⟩
        · exact .inr rfl
      · unfold rickyardlaw19_small.s0
        rw [decide_eq_false (show ¬ ((acts.length : Int) < (acts.length : Int)) by omega), if_neg (by decide)]
        exact ⟨_, rfl⟩
    obtain ⟨e, h1⟩ := this
    rw [show ((0 : Nat) : Int) = 0 from rfl] at h1
    rw [h1]
    cases e with
    | inl b => exact ⟨b, rfl, fun _ => hl⟩
    | inr u => exact ⟨true, rfl, fun _ => hl⟩
theorem run_inv {step : Int × S_shadow_Store → Option (Sum S_shadow_Store (Int × S_shadow_Store))} {n N : Nat} {B : Int} (I : Dev → AA → Prop) (f : Nat → Dev → AA → Dev × AA)
    (hstep : ∀ (j : Nat) d a, j < N → SOk n (B + 9 * (j : Int)) d a → I d a → step ((j : Int), SO n d a) = some (.inr (((j + 1 : Nat) : Int), SO n (f j d a).1 (f j d a).2)) ∧ SOk n (B + 9 * (j : Int) + 9) (f j d a).1 (f j d a).2 ∧ I (f j d a).1 (f j d a).2)
    (hend : ∀ s, step ((N : Int), s) = some (.inl s)) {d : Dev} {a : AA} {k : Nat} (h : SOk n B d a) (hi : I d a) (hk : N < k) : ∃ d' a', loopM step k (0, SO n d a) = some (SO n d' a') ∧ SOk n (B + 9 * (N : Int)) d' a' ∧ I d' a' := by
  obtain ⟨e, h1, d', a', rfl, h2, h3⟩ := loopM_inv (step := step) (fun j s => ∃ d a, s = ((j : Int), SO n d a) ∧ SOk n (B + 9 * (j : Int)) d a ∧ I d a) N (fun e => ∃ d a, e = SO n d a ∧ SOk n (B + 9 * (N : Int)) d a ∧ I d a) (by
      rintro j s hj ⟨d, a, rfl, h1, h2⟩
      obtain ⟨h3, h4, h5⟩ := hstep j d a hj h1 h2
      exact ⟨_, h3, _, _, rfl, by rw [show B + 9 * ((j + 1 : Nat) : Int) = B + 9 * (j : Int) + 9 by omega]; exact h4, h5⟩) (by
      rintro s ⟨d, a, rfl, h1, h2⟩
      exact ⟨_, hend _, d, a, rfl, h1, h2⟩) (k := k) (j := 0) (s := (0, SO n d a)) ⟨d, a, rfl, h.up (by omega), hi⟩ (by omega) (by omega)
  exact ⟨d', a', h1, h2, h3⟩
theorem okX_of {l : List S_rickyardlaw19_Act} (h : okv 9 (⟨.sl (.st .S_rickyardlaw19_Act), l⟩ : PV G.toSg)) : ∀ x ∈ l, okX x := by
  intro x hx
  have h1 := h.2 x hx
  have hk := h1 ⟨.int .i64, x.Kind⟩ (List.mem_cons_self)
  have ha := h1 ⟨.int .i64, x.At⟩ (List.mem_cons_of_mem _ List.mem_cons_self)
  have hb := h1 ⟨.sl (.int .u8), x.B⟩ (List.mem_cons_of_mem _ (List.mem_cons_of_mem _ List.mem_cons_self))
  exact ⟨wf64.1 hk, wf64.1 ha, fun y hy => wf8.1 (hb.2 y hy)⟩
def Closed (c : Cell) : Prop := c.flushed = false ∧ c.stored = c.lasts
def Tidy (n : Nat) (d : Dev) : Prop := ∀ i : Nat, i < 8 * n → Closed (ix d.cells (i : Int)) ∨ ((ix d.cells (i : Int)).flushed = true ∧ (ix d.cells (i : Int)).sent = (ix d.cells (i : Int)).stored)
def New (a : AA) : Prop := ∀ k, a.w k = true → a.m k = false → a.c k = false ∧ a.e k = false
def Keep (a : AA) : Nat → Bool := fun k => a.c k || a.e k
theorem keep_held {a : AA} (k : Nat) (h : Keep a k = true) : a.held k = true := by
  have h : (a.c k || a.e k) = true := h
  rcases Bool.or_eq_true_iff.1 h with h | h <;> simp [AA.held, h]
theorem keep_own {a : AA} (hn : New a) (k : Nat) (h : Keep a k = true) (hw : a.w k = true) : a.m k = true := by
  cases hm : a.m k
  · obtain ⟨h1, h2⟩ := hn k hw hm
    have h : (a.c k || a.e k) = true := h
    rw [h1, h2] at h
    cases h
  · rfl
theorem new_grow {a a' : AA} (hn : New a) (h : Grow a a') : New a' ∧ a'.c = a.c ∧ a'.e = a.e := by
  obtain ⟨w', rfl, hw⟩ := h
  refine ⟨fun k h1 h2 => ?_, rfl, rfl⟩
  rcases hw k h1 with h3 | h3
  · exact hn k h3 h2
  · have h3 : (((a.w k || a.c k) || a.e k) || a.m k) = false := h3
    simp only [Bool.or_eq_false_iff] at h3
    exact ⟨h3.1.1.2, h3.1.2⟩
def Same (n : Nat) (K : Nat → Bool) (d e : Dev) : Prop := ∀ i : Nat, i < 8 * n → K (i / 8) = true → Closed (ix d.cells (i : Int)) → ix e.cells (i : Int) = ix d.cells (i : Int)
theorem stay_tidy {n : Nat} {K : Nat → Bool} {d e : Dev} (h : Stay n K d e) (ht : Tidy n d) : Tidy n e := by
  intro i hi
  rcases (h i hi).2 with e1 | ⟨s, e1⟩
  · rw [e1]
    exact ht i hi
  · rw [e1]
    exact .inr ⟨rfl, rfl⟩
theorem fence_ix {n : Nat} {d : Dev} (h : Clean d) (hl : d.cells.length = 8 * n) {i : Nat} (hi : i < 8 * n) : ix (fenceD d).2.cells (i : Int) = fenceC (ix d.cells (i : Int)) := by
  rw [(fence_clean h).2.2, ix_nat (by rw [List.length_map]; omega), ix_nat (by omega), List.getElem_map]
theorem fence_closed {n : Nat} {d : Dev} (h : Clean d) (hl : d.cells.length = 8 * n) (ht : Tidy n d) : ∀ i : Nat, i < 8 * n → Closed (ix (fenceD d).2.cells (i : Int)) := by
  intro i hi
  rw [fence_ix h hl hi]
  unfold fenceC
  rcases ht i hi with ⟨h1, h2⟩ | ⟨h1, h2⟩
  · rw [h1, if_neg (by decide)]
    exact ⟨h1, h2⟩
  · rw [if_pos h1]
    exact ⟨rfl, h2.symm⟩
theorem safe_do {n : Nat} {B : Int} {d : Dev} {a : AA} {x : S_rickyardlaw19_Act} (h : SOk n B d a) (hx : okX x) (ht : Tidy n d) (hn : New a) : Tidy n (doS n d a x).1 ∧ New (doS n d a x).2 ∧ (doS n d a x).2.c = a.c ∧ (doS n d a x).2.e = a.e ∧ Same n (Keep a) d (doS n d a x).1 := by
  have rfl' : Same n (Keep a) d d := fun _ _ _ _ => rfl
  unfold doS
  by_cases e0 : x.Kind % 10 = 0
  · rw [if_pos e0]
    obtain ⟨_, s2, s3⟩ := make_step (K := Keep a) h hx.2.2 keep_held
    obtain ⟨n1, n2, n3⟩ := new_grow hn s3
    exact ⟨stay_tidy s2 ht, n1, n2, n3, fun i hi hk _ => (s2 i hi).1 hk⟩
  rw [if_neg e0]
  by_cases e1 : x.Kind % 10 = 1
  · rw [if_pos e1]
    obtain ⟨_, s2, s3⟩ := turn_step (k := x.At) (K := Keep a) h hx.2.2 keep_held (keep_own hn)
    obtain ⟨n1, n2, n3⟩ := new_grow hn s3
    exact ⟨stay_tidy s2 ht, n1, n2, n3, fun i hi hk _ => (s2 i hi).1 hk⟩
  rw [if_neg e1]
  by_cases e2 : x.Kind % 10 = 2
  · rw [if_pos e2]
    obtain ⟨n1, n2, n3⟩ := new_grow hn (give_grow (n := n) (a := a) (k := x.At))
    exact ⟨ht, n1, n2, n3, rfl'⟩
  rw [if_neg e2]
  by_cases e4 : x.Kind % 10 = 4
  · rw [if_pos e4]
    refine ⟨fun i hi => .inl (fence_closed h.cl h.len ht i hi), hn, rfl, rfl, fun i hi _ hc => ?_⟩
    rw [fence_ix h.cl h.len hi]
    unfold fenceC
    rw [hc.1, if_neg (by decide)]
  rw [if_neg e4]
  by_cases e5 : x.Kind % 10 = 5
  · rw [if_pos e5]
    refine ⟨ht, fun k h1 h2 => ?_, rfl, rfl, rfl'⟩
    rw [show a.mark.w k = a.mark.m k from rfl, h2] at h1
    cases h1
  rw [if_neg e5]
  by_cases e6 : x.Kind % 10 = 6
  · rw [if_pos e6]
    refine ⟨ht, fun k h1 h2 => ?_, rfl, rfl, rfl'⟩
    rw [show a.back.w k = a.back.m k from rfl, h2] at h1
    cases h1
  rw [if_neg e6]
  by_cases e8 : x.Kind % 10 = 8
  · rw [if_pos e8]
    refine ⟨ht, fun k h1 h2 => ?_, rfl, rfl, rfl'⟩
    rw [show a.abort.w k = a.abort.m k from rfl, h2] at h1
    cases h1
  rw [if_neg e8]
  exact ⟨ht, hn, rfl, rfl, rfl'⟩
theorem new_commit {a : AA} : New a.commit := fun k h1 h2 => by
  rw [show a.commit.w k = a.commit.m k from rfl, h2] at h1
  cases h1
theorem mem_els' {n : Nat} {f : Nat → Bool} {x : Int} (h : x ∈ els n f) : ∃ k : Nat, x = (k : Int) ∧ k < n ∧ f k = true := by
  unfold els at h
  obtain ⟨k, hk, e⟩ := List.mem_map.1 h
  obtain ⟨h1, h2⟩ := List.mem_filter.1 hk
  exact ⟨k, e.symm, List.mem_range.1 h1, h2⟩
theorem octs_lasts_len {d : Dev} : (octs (lastsD d)).length = 8 * d.cells.length := by rw [octs_len]; simp [lastsD]
theorem ShadowSafe : ∀ (a0 : List S_rickyardlaw19_Act), okv 9 (⟨.sl (.st .S_rickyardlaw19_Act), a0⟩ : PV G.toSg) → ∀ (a1 : List S_rickyardlaw19_Act), okv 9 (⟨.sl (.st .S_rickyardlaw19_Act), a1⟩ : PV G.toSg) → ∀ (a2 : List Int), okv 9 (⟨.sl (.int .i64), a2⟩ : PV G.toSg) → ∃ fu, rickyardlaw19_ShadowSafe.f fu a0 a1 a2 = some true := by
  intro a0 h0 a1 h1 a2 h2
  refine ⟨FU, ?_⟩
  have x0 := okX_of h0
  have x1 := okX_of h1
  have x2 : ∀ x ∈ a2, I64 x := fun x hx => wf64.1 (h2.2 x hx)
  unfold rickyardlaw19_ShadowSafe.f
  rw [awake19]
  simp only [Option.bind_some, Bool.not_true, Bool.false_eq_true, if_false]
  obtain ⟨c0, q0, l0⟩ := small_ex (fu := FU) (m := 20) (acts := a0) (by decide) (by decide)
  rw [show ((20 : Nat) : Int) = 20 from rfl] at q0
  rw [q0]
  cases c0
  · rfl
  have l0 := l0 rfl
  simp only [Option.bind_some, Bool.not_true, Bool.false_eq_true, if_false]
  obtain ⟨c1, q1, l1⟩ := small_ex (fu := FU) (m := 30) (acts := a1) (by decide) (by decide)
  rw [show ((30 : Nat) : Int) = 30 from rfl] at q1
  rw [q1]
  cases c1
  · rfl
  have l1 := l1 rfl
  simp only [Option.bind_some, Bool.not_true, Bool.false_eq_true, if_false]
  by_cases l2 : (a2.length : Int) > 40
  · rw [decide_eq_true l2, if_pos rfl]
  rw [decide_eq_false l2, if_neg (by decide)]
  have hm := made_eq (fu := FU) (n := 16) (r := 1) (by decide) (by decide) (by decide)
  rw [show ((16 : Nat) : Int) = 16 from rfl] at hm
  rw [hm]
  simp only [Option.bind_some, Option.elim_some]
  rw [show (⟨newD (8 * 16), (A0 16 1).of 16⟩ : S_shadow_Store) = SO 16 (newD (8 * 16)) (A0 16 1) from rfl]
  have hs0 : SOk 16 0 (newD (8 * 16)) (A0 16 1) := ⟨newD_ok _, newD_clean _, A0_ok (by decide)⟩
  have t0 : Tidy 16 (newD (8 * 16)) := by
    intro i hi
    left
    have hl : i < (List.replicate (8 * 16) (⟨0, 0, 0, false⟩ : Cell)).length := by rw [List.length_replicate]; exact hi
    rw [show (newD (8 * 16)).cells = List.replicate (8 * 16) ⟨0, 0, 0, false⟩ from rfl, ix_nat hl, List.getElem_replicate]
    exact ⟨rfl, rfl⟩
  have n0 : New (A0 16 1) := fun k h1 h2 => by
    rw [show (A0 16 1).w k = (A0 16 1).m k from rfl, h2] at h1
    cases h1
  obtain ⟨d1, b1, r1, s1, t1, n1⟩ := run_inv (step := rickyardlaw19_ShadowSafe.s0 FU a0) (n := 16) (N := a0.length) (B := 0) (k := FU) (fun d a => Tidy 16 d ∧ New a) (fun j d a => doS 16 d a (ix a0 (j : Int))) (by
      intro j d a hj hs hI
      have hx : okX (ix a0 (j : Int)) := by rw [ix_nat hj]; exact x0 _ (List.getElem_mem hj)
      obtain ⟨p1, p2, _⟩ := safe_do hs hx hI.1 hI.2
      refine ⟨?_, do_ok hs hx, p1, p2⟩
      unfold rickyardlaw19_ShadowSafe.s0
      have c1 : 0 ≤ (j : Int) ∧ (j : Int) < (a0.length : Int) := by omega
      simp only
      rw [decide_eq_true c1.2, if_pos rfl, if_pos c1, do_eq hs (by omega) (by decide) hx (by decide), next64 hj (by omega)]
      rfl) (by
      intro s
      unfold rickyardlaw19_ShadowSafe.s0
      rw [decide_eq_false (show ¬ ((a0.length : Int) < (a0.length : Int)) by omega), if_neg (by decide)]) hs0 ⟨t0, n0⟩ (Nat.lt_of_le_of_lt l0 (by decide))
  rw [r1]
  simp only [Option.bind_some]
  rw [ssure_eq s1.dev (by omega) (by decide) (by decide)]
  simp only [Option.bind_some]
  have f1 := fence_step s1
  have cl1 := fence_closed s1.cl s1.len t1
  generalize (fenceD d1).2 = d2 at *
  rw [show (SO 16 d2 b1).blocks = b1.of 16 from rfl, show (SO 16 d2 b1).device = d2 from rfl, works_eq (by decide) (by decide) f1.al]
  simp only [Option.bind_some]
  rw [list_eq (by decide) (by decide) f1.al.w]
  simp only [Option.bind_some]
  rw [commit_eq (by decide) (by decide) f1.al]
  simp only [Option.bind_some]
  rw [show (⟨d2, (b1.commit).of 16⟩ : S_shadow_Store) = SO 16 d2 b1.commit from rfl]
  obtain ⟨d3, b3, r3, s3, t3, n3, e3c⟩ := run_inv (step := rickyardlaw19_ShadowSafe.s1 FU a0) (n := 16) (N := a0.length) (B := 0 + 9 * (a0.length : Int) + 9) (k := FU) (fun d a => Tidy 16 d ∧ New a ∧ a.c = b1.w) (fun j d a => doS 16 d a (ix a0 ((a0.length - 1 - j : Nat) : Int))) (by
      intro j d a hj hs hI
      have hj2 : a0.length - 1 - j < a0.length := by omega
      have hx : okX (ix a0 ((a0.length - 1 - j : Nat) : Int)) := by rw [ix_nat hj2]; exact x0 _ (List.getElem_mem hj2)
      obtain ⟨p1, p2, p3, _⟩ := safe_do hs hx hI.1 hI.2.1
      refine ⟨?_, do_ok hs hx, p1, p2, p3.trans hI.2.2⟩
      unfold rickyardlaw19_ShadowSafe.s1
      have w1 : IntKind.i64.wrap ((IntKind.i64.wrap ((a0.length : Int) - 1)) - (j : Int)) = ((a0.length - 1 - j : Nat) : Int) := by rw [w64 (n := (a0.length : Int) - 1) (by omega) (by omega), w64 (by omega) (by omega)]; omega
      have c1 : 0 ≤ ((a0.length - 1 - j : Nat) : Int) ∧ ((a0.length - 1 - j : Nat) : Int) < (a0.length : Int) := by omega
      simp only [w1]
      rw [decide_eq_true (show (j : Int) < (a0.length : Int) by omega), if_pos rfl, if_pos c1, do_eq hs (by omega) (by decide) hx (by decide), next64 hj (by omega)]
      rfl) (by
      intro s
      unfold rickyardlaw19_ShadowSafe.s1
      rw [decide_eq_false (show ¬ ((a0.length : Int) < (a0.length : Int)) by omega), if_neg (by decide)]) ⟨f1.dev, f1.cl, commit_ok f1.al⟩ ⟨fun i hi => .inl (cl1 i hi), new_commit, rfl⟩ (Nat.lt_of_le_of_lt l0 (by decide))
  rw [r3]
  simp only [Option.bind_some]
  rw [ssure_eq s3.dev (by omega) (by decide) (by decide)]
  simp only [Option.bind_some]
  have f3 := fence_step s3
  have cl3 := fence_closed s3.cl s3.len t3
  generalize (fenceD d3).2 = d4 at *
  rw [show (SO 16 d4 b3).blocks = b3.of 16 from rfl, show (SO 16 d4 b3).device = d4 from rfl, works_eq (by decide) (by decide) f3.al]
  simp only [Option.bind_some]
  rw [list_eq (by decide) (by decide) f3.al.w]
  simp only [Option.bind_some]
  rw [commit_eq (by decide) (by decide) f3.al]
  simp only [Option.bind_some]
  rw [image_eq f3.dev (by decide) (by decide)]
  simp only [Option.bind_some]
  rw [show (⟨d4, (b3.commit).of 16⟩ : S_shadow_Store) = SO 16 d4 b3.commit from rfl]
  obtain ⟨d5, b5, r5, s5, t5, n5, e5c, e5e, hst⟩ := run_inv (step := rickyardlaw19_ShadowSafe.s2 FU a1) (n := 16) (N := a1.length) (B := 0 + 9 * (a0.length : Int) + 9 + 9 * (a0.length : Int) + 9) (k := FU) (fun d a => Tidy 16 d ∧ New a ∧ a.c = b3.w ∧ a.e = b3.c ∧ ∀ i : Nat, i < 8 * 16 → Keep b3.commit (i / 8) = true → ix d.cells (i : Int) = ix d4.cells (i : Int)) (fun j d a => doS 16 d a (ix a1 (j : Int))) (by
      intro j d a hj hs hI
      have hx : okX (ix a1 (j : Int)) := by rw [ix_nat hj]; exact x1 _ (List.getElem_mem hj)
      obtain ⟨p1, p2, p3, p4, p5⟩ := safe_do hs hx hI.1 hI.2.1
      have hK : Keep a = Keep b3.commit := by
        unfold Keep
        rw [hI.2.2.1, hI.2.2.2.1]
        rfl
      refine ⟨?_, do_ok hs hx, p1, p2, p3.trans hI.2.2.1, p4.trans hI.2.2.2.1, fun i hi hk => ?_⟩
      · unfold rickyardlaw19_ShadowSafe.s2
        have c1 : 0 ≤ (j : Int) ∧ (j : Int) < (a1.length : Int) := by omega
        simp only
        rw [decide_eq_true c1.2, if_pos rfl, if_pos c1, do_eq hs (by omega) (by decide) hx (by decide), next64 hj (by omega)]
        rfl
      · have hd := hI.2.2.2.2 i hi hk
        rw [p5 i hi (by rw [hK]; exact hk) (by rw [hd]; exact cl3 i hi), hd]) (by
      intro s
      unfold rickyardlaw19_ShadowSafe.s2
      rw [decide_eq_false (show ¬ ((a1.length : Int) < (a1.length : Int)) by omega), if_neg (by decide)]) ⟨f3.dev, f3.cl, commit_ok f3.al⟩ ⟨fun i hi => .inl (cl3 i hi), new_commit, rfl, rfl, fun _ _ _ => rfl⟩ (Nat.lt_of_le_of_lt l1 (by decide))
  rw [r5]
  simp only [Option.bind_some]
  rw [show (SO 16 d5 b5).device = d5 from rfl, crash_eq s5.dev (by decide) x2 (by decide)]
  simp only [Option.bind_some]
  have hcr := crash_ok (l := a2) s5.dev
  rw [image_eq hcr (by decide) (by decide)]
  simp only [Option.bind_some]
  have hl4 := f3.len
  have hl5 := s5.len
  have hl6 := hcr.len
  rw [octs_lasts_len, octs_lasts_len, hl4, hl6]
  have hel1 : (els 16 b1.w).length ≤ 16 := by rw [els_len]; exact cnt_le _ _
  have hel3 : (els 16 b3.w).length ≤ 16 := by rw [els_len]; exact cnt_le _ _
  rw [decide_eq_true (show ((8 * (8 * 16) : Nat) : Int) = 1024 from rfl), if_neg (by decide), if_neg (by decide), if_pos (Nat.le_trans (by simp only [List.length_nil]; omega : _ ≤ 16) (by decide)), if_pos (Nat.le_trans (by simp only [List.nil_append]; omega : _ ≤ 32) (by decide))]
  have hline : ∀ k : Nat, k < 16 → Keep b3.commit k = true → cut (octs (lastsD (crashD d5 a2))) ((64 * k : Nat) : Int) ((64 * k + 64 : Nat) : Int) = cut (octs (lastsD d4)) ((64 * k : Nat) : Int) ((64 * k + 64 : Nat) : Int) := by
    intro k hk hK
    rw [show 64 * k = 8 * (8 * k) by omega, show 8 * (8 * k) + 64 = 8 * (8 * k + 8) by omega, octs_cut, octs_cut, lineL_cut (d := crashD d5 a2) (by rw [hl6]; omega), lineL_cut (d := d4) (by omega)]
    refine congrArg octs ?_
    unfold lineL
    apply List.map_congr_left
    intro i hi
    have hi := List.mem_range.1 hi
    rw [show 8 * (k : Int) + (i : Int) = ((8 * k + i : Nat) : Int) by omega]
    have hs := hst (8 * k + i) (by omega) (by rw [show (8 * k + i) / 8 = k by omega]; exact hK)
    have hc := cl3 (8 * k + i) (by omega)
    rw [← hs] at hc ⊢
    have hlt : 8 * k + i < d5.cells.length := by omega
    have e : ix (crashD d5 a2).cells ((8 * k + i : Nat) : Int) = crashC (ix d5.cells ((8 * k + i : Nat) : Int)) (a2.getD (opens d5.cells (8 * k + i)) 0) := by
      show ix (crashL a2 d5.cells) _ = _
      unfold crashL
      rw [ix_nat (by simpa using hlt), ix_nat hlt, List.getElem_mapIdx]
    rw [e]
    unfold crashC openC
    rw [hc.1, hc.2]
    simp
  have w3 : loopM (rickyardlaw19_ShadowSafe.s3 FU (els 16 b1.w) (els 16 b3.w) (octs (lastsD d4)) (octs (lastsD (crashD d5 a2)))) FU 0 = some (.inr ()) := by
    refine loopM_run (S := fun j => ((j : Nat) : Int)) ((([] : List Int) ++ els 16 b1.w) ++ els 16 b3.w).length rfl ?_ ?_ (Nat.lt_of_le_of_lt (by simp only [List.nil_append, List.length_append]; omega : _ ≤ 32) (by decide))
    · intro j hj
      have hmem : ((([] : List Int) ++ els 16 b1.w) ++ els 16 b3.w)[j] ∈ ((([] : List Int) ++ els 16 b1.w) ++ els 16 b3.w) := List.getElem_mem hj
      obtain ⟨k, e1, e2, e3⟩ : ∃ k : Nat, ((([] : List Int) ++ els 16 b1.w) ++ els 16 b3.w)[j] = (k : Int) ∧ k < 16 ∧ Keep b3.commit k = true := by
        have hm2 : ∀ z, z ∈ (([] : List Int) ++ els 16 b1.w) ++ els 16 b3.w → z ∈ els 16 b1.w ∨ z ∈ els 16 b3.w := fun z hz => by simpa using hz
        rcases hm2 _ hmem with hm | hm
        · obtain ⟨k, e1, e2, e3⟩ := mem_els' hm
          refine ⟨k, e1, e2, ?_⟩
          show (b3.w k || b3.c k) = true
          rw [e3c, e3]
          simp
        · obtain ⟨k, e1, e2, e3⟩ := mem_els' hm
          refine ⟨k, e1, e2, ?_⟩
          show (b3.w k || b3.c k) = true
          rw [e3]
          rfl
      have hx : ix ((([] : List Int) ++ els 16 b1.w) ++ els 16 b3.w) (j : Int) = (k : Int) := by rw [ix_nat hj]; exact e1
      have hlen : ((([] : List Int) ++ els 16 b1.w) ++ els 16 b3.w).length ≤ 32 := by simp only [List.nil_append, List.length_append]; omega
      unfold rickyardlaw19_ShadowSafe.s3
      generalize ((([] : List Int) ++ els 16 b1.w) ++ els 16 b3.w) = L at *
      have c1 : 0 ≤ (j : Int) ∧ (j : Int) < (L.length : Int) := by omega
      have w1 : IntKind.i64.wrap (64 * (k : Int)) = ((64 * k : Nat) : Int) := by rw [w64 (by omega) (by omega)]; omega
      have w2 : IntKind.i64.wrap (((64 * k : Nat) : Int) + 64) = ((64 * k + 64 : Nat) : Int) := by rw [w64 (by omega) (by omega)]; omega
      simp only [hx, w1, w2]
      rw [decide_eq_true c1.2, if_pos rfl, if_pos c1, if_pos c1, decide_eq_false (show ¬ ((k : Int) < 0) by omega), if_neg (by decide), if_pos c1, decide_eq_false (show ¬ ((k : Int) > 15) by omega), if_neg (by decide), octs_lasts_len, octs_lasts_len, hl4, hl6, if_pos (by omega), if_pos (by omega), hline k e2 e3, decide_eq_true rfl, if_neg (by decide), next64 hj (by omega)]
    · unfold rickyardlaw19_ShadowSafe.s3
      generalize ((([] : List Int) ++ els 16 b1.w) ++ els 16 b3.w) = L at *
      rw [decide_eq_false (show ¬ ((L.length : Int) < (L.length : Int)) by omega), if_neg (by decide)]
  rw [w3]
  rfl
end Go.Proofs.YtdifnahlheogdaaDoor.Pure
namespace Go.Proofs.YtdifnahlheogdaaDoor.shadowSafe
open Go.ChangeShapes Go.WideShapes Go.ChangeAt Go.RowKit
open Go.ChangeMaps (open_string shut_string)
open Go Go.Xw Go.Yw
theorem own : ownKnob Tryd.prog.godebug = none := Facts.own
theorem laidOut : laidOutB Tryd.prog = true := Facts.laid
theorem closed : joinedFacts Tryd.pinned.checked.prog 6 Tryd.f6 Rows.shadowSafeSpec Rows.shadowSafeRow = true := by
  unfold joinedFacts
  rw [Facts.enter, Facts.lifts, Facts.make, Facts.laid, Facts.rowed, Facts.plain, Facts.heard]
  kernel_rfl
set_option maxRecDepth 100000 in
set_option maxHeartbeats 1000000 in
theorem lifted (os : Os) (started : os.Started) (H : Type) (enc : TypeId × Value → H) :
    ReturnsInHanded {} Tryd.checked os 6 .any (fun w args => (Rows.shadowSafeSpec.pre enc Tryd.prog Tryd.f6 [] false w args ∧ laidMetH Tryd.prog Laid.L0 w) ∧ sizedMet enc Tryd.prog Tryd.f6 (OpenSpec.ofChange Rows.shadowSafeSpec) false w args) (Rows.shadowSafeSpec.post enc Tryd.prog Tryd.f6 false true false false) := by
  refine returnsInHanded_of_change_and (C := Tryd.checked) (X := fun w _ => laidMetH Tryd.prog Laid.L0 w) (fun _ _ _ hh h => h.of_heap hh) own started (by kernel_rfl) Tryd.func6
    (ChangeSpec.witness_shaped (enc := enc) (C := Tryd.checked) (os := os) (X := fun w _ => laidMetH Tryd.prog Laid.L0 w) false (World.doorLaid Tryd.prog 400 os) #[.slice none 0 0, .slice none 0 0, .slice none 0 0] 8 rfl (World.shaped_of_RefB (by kernel_rfl) (by kernel_rfl)) (by kernel_rfl) (by kernel_rfl) (by kernel_rfl) (Laid.met os _)) ?_
  intro W base args ds gs before hval0 hW _ _ hL _
  have hval : ∀ (j : Nat) t v, Tryd.f6.params[j]? = some t → args[j]? = some v → Value.okWide Tryd.prog W .any base t v := hval0
  have hW' := hW
  obtain ⟨p, q, hA0, hV, rfl, hfz, hnd⟩ := hW
  have hA : DataW.TrodAll enc Tryd.prog W 0 (fun _ => true) true Tryd.f6.params.toList args.toList ds p := hA0
  rw [Tryd.params6] at hA hval
  obtain ⟨v0, vs0, d0, ds0, p0, q0, hargs, rfl, rfl, h0, r0⟩ := trodAll_cons hA
  obtain ⟨v1, vs1, d1, ds1, p1, q1, rfl, rfl, rfl, h1, r1⟩ := trodAll_cons r0
  obtain ⟨v2, vs2, d2, ds2, p2, q2, rfl, rfl, rfl, h2, r2⟩ := trodAll_cons r1
  obtain ⟨rfl, rfl, rfl⟩ := trodAll_nil r2
  obtain rfl : args = #[v0, v1, v2] := by cases args; simp_all
  obtain ⟨rfl, rfl⟩ := trodVars_none hV
  have k0 := h0
  have lt0 : ∀ x ∈ p0, x.block < W.heap.size := by obtain ⟨m, hm⟩ := k0; exact DataW.trod_lt m _ _ _ hm
  obtain ⟨fu0, hf0⟩ := h0
  obtain ⟨a0, c0, o0⟩ := open_ok (Γ := G) gok full0 9 49 (.sl (.st SI.S_rickyardlaw19_Act)) (by kernel_rfl) enc _ _ _ _ _ _ hf0
  have w0 : VR (Γ := G) (fun _ => none) W (Low W) (.v (.sl (.st SI.S_rickyardlaw19_Act)) a0) v0 := arg_ok (P := Tryd.prog) (base := base) (n := 8) gok c0 (hval 0 49 v0 rfl rfl) (by kernel_rfl)
  have k1 := h1
  have lt1 : ∀ x ∈ p1, x.block < W.heap.size := by obtain ⟨m, hm⟩ := k1; exact DataW.trod_lt m _ _ _ hm
  obtain ⟨fu1, hf1⟩ := h1
  obtain ⟨a1, c1, o1⟩ := open_ok (Γ := G) gok full0 9 49 (.sl (.st SI.S_rickyardlaw19_Act)) (by kernel_rfl) enc _ _ _ _ _ _ hf1
  have w1 : VR (Γ := G) (fun _ => none) W (Low W) (.v (.sl (.st SI.S_rickyardlaw19_Act)) a1) v1 := arg_ok (P := Tryd.prog) (base := base) (n := 8) gok c1 (hval 1 49 v1 rfl rfl) (by kernel_rfl)
  have k2 := h2
  have lt2 : ∀ x ∈ p2, x.block < W.heap.size := by obtain ⟨m, hm⟩ := k2; exact DataW.trod_lt m _ _ _ hm
  obtain ⟨fu2, hf2⟩ := h2
  obtain ⟨a2, c2, o2⟩ := open_ok (Γ := G) gok full0 9 54 (.sl (.int .i64)) (by kernel_rfl) enc _ _ _ _ _ _ hf2
  have w2 : VR (Γ := G) (fun _ => none) W (Low W) (.v (.sl (.int .i64)) a2) v2 := arg_ok (P := Tryd.prog) (base := base) (n := 8) gok c2 (hval 2 54 v2 rfl rfl) (by kernel_rfl)
  obtain ⟨fu, hfu⟩ := Pure.ShadowSafe a0 o0 a1 o1 a2 o2
  refine Calls.mono (law_ok (rickyardlaw19_ShadowSafe.sc fu a0 a1 a2 true hfu) (.cons w0 (.cons w1 (.cons w2 .nil))) (Laid.gl hL)) fun e W' hr => ?_
  obtain ⟨v, rfl, rfl, gr⟩ := hr
  have bel := Fr.below gr
  exact ⟨_, rfl, _, _, _, [], _, [], hW', trodAll_mk1 (shut_bool Tryd.underlying4 _), (trodAll_cons_mk (Below.trod laidOut (by kernel_rfl) (of_decide_eq_true (by kernel_rfl)) k0 bel lt0) (trodAll_cons_mk (Below.trod laidOut (by kernel_rfl) (of_decide_eq_true (by kernel_rfl)) k1 bel lt1) (trodAll_cons_mk (Below.trod laidOut (by kernel_rfl) (of_decide_eq_true (by kernel_rfl)) k2 bel lt2) trodAll_mk0))), rfl, bel.frame _, fun h => by cases h⟩
theorem over : Rows.shadowSafeRow.holds Tryd.pinned (OpenSpec.ofChange Rows.shadowSafeSpec) :=
  OpenClaim.holds_of_wide 6 Tryd.f6 rfl rfl rfl rfl rfl rfl rfl ⟨rfl, rfl, rfl, rfl, rfl⟩ rfl rfl rfl rfl rfl (by kernel_rfl) Tryd.func6 closed
    (of_decide_eq_true (by kernel_rfl)) (by unfold Func.isWrapper; first | (rw [if_pos (by decide +kernel)]; kernel_rfl) | (rw [if_neg (by decide +kernel)]; exact ⟨rfl, rfl⟩))
    (fun os started H enc _ => lifted os started H enc)
theorem card : Rows.ShadowSafeCardSaid :=
  Claim7.holds_tied_plain_at .later [] [.data] true (true, "979bcd4b5e59f6cd4e5fd9cc72609fc7cce4b3df3e2b5c7c49de09907c292303") false
    over (fun _ h => by cases h) (by kernel_rfl) (fun _ h => by cases h) shadowSafe_row_tie rfl ⟨rfl, rfl⟩ (by kernel_rfl) rfl
    (fun f fn hf hfn => by
      obtain rfl : f = 6 := Option.some.inj ((show Tryd.prog.funcNamed "rickyard/rickyardlaw19.ShadowSafe" = some 6 by kernel_rfl).symm.trans hf) |>.symm
      obtain rfl : fn = Tryd.f6 := (Option.some.inj (Tryd.func6.symm.trans hfn)).symm
      exact ⟨by kernel_rfl, fun j t ht => by
        rw [Tryd.params6] at ht
        have hm : t ∈ [49, 49, 54] := by simpa using Array.mem_of_getElem? ht
        have hall : ([49, 49, 54].all fun u => !Tryd.prog.wantsStandIn u) = true := by kernel_rfl
        exact (show Tryd.prog.wantsStandIn t = false by simpa using List.all_eq_true.1 hall t hm)⟩)
    (by kernel_rfl)
end Go.Proofs.YtdifnahlheogdaaDoor.shadowSafe
namespace Go.Proofs.YtdifnahlheogdaaDoor
theorem shadowSafe_holds : Rows.ShadowSafeCardSaid := shadowSafe.card
#print axioms shadowSafe_holds
end Go.Proofs.YtdifnahlheogdaaDoor
