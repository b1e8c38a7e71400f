/- ShadowBack: texts merged, part 6 of 6. The last part proves that the law ShadowBack holds for every input. -/
import Derived.Test.YtdifnahlheogdaaDoorPkShadowBack5
import Derived.Test.YtdifnahlheogdaaDoorCards
import Derived.Test.YtdifnahlheogdaaDoorTie
import Derived.OpenShut
import Derived.ProofKit
import Derived.ChangeOld
import Derived.Below
import Derived.SizedLaws
import Derived.SevenTiedAt
set_option maxRecDepth 100000
set_option maxHeartbeats 4000000
set_option linter.unusedVariables false
set_option linter.unusedSimpArgs false
namespace Go.Proofs.YtdifnahlheogdaaDoor.Pure
open Go Go.Xw Go.Yw
theorem may_eq {fu : Nat} {d : Dev} {k m : Int} : pmem_Device_may.f fu d k m = some (mayI d.off k m) := by
  unfold pmem_Device_may.f mayI
  cases d.off
  · simp only [Bool.false_eq_true, if_false]
    by_cases h1 : k < 0
    · simp [h1]
    · by_cases h2 : k ≥ m <;> simp [h1, h2]
  · simp
theorem may_zero {b : Bool} {k m : Int} : mayI b k m = 0 ↔ b = false ∧ 0 ≤ k ∧ k < m := by
  unfold mayI
  cases b
  · simp only [Bool.false_eq_true, if_false]
    split <;> simp <;> omega
  · simp
theorem store_eq {fu n : Nat} {B k w : Int} {d : Dev} (h : DevOk n B d) (hB : B < 9223372036854775807) (hw : U64 w) : pmem_Device_Store.f fu d k w = some (storeD d k w) := by
  unfold pmem_Device_Store.f storeD
  rw [may_eq]
  simp only [Option.bind_some]
  by_cases e : mayI d.off k (d.cells.length : Int) = 0
  · obtain ⟨ho, h0, h1⟩ := may_zero.1 e
    rw [decide_eq_true e, if_pos e, if_neg (by decide), if_pos ⟨h0, h1⟩]
    obtain ⟨j, rfl⟩ : ∃ j : Nat, k = (j : Int) := ⟨k.toNat, by omega⟩
    have e1 : (updR d.cells (j : Int) fun c => (⟨c.lasts, w, c.sent, c.flushed⟩ : S_pmem_cell)) = putC (j : Int) w d.cells := by
      rw [updR_nat]
      refine (set_upd (fun c => ⟨c.lasts, w, c.sent, c.flushed⟩) (by omega)).trans ?_
      apply List.ext_getElem (by simp [putC])
      intro i h1 h2
      simp only [putC, List.getElem_mapIdx, Int.natCast_inj]
    have e2 : pmem_Device_step.f fu (⟨putC (j : Int) w d.cells, d.plan, d.off, d.armed, d.left, d.steps⟩ : S_pmem_Device) = some (tick (withC d (putC (j : Int) w d.cells))) := by
      refine dstep_eq (with_ok h (by simp [putC, h.len]) (mapIdx_ok h.val fun i c hc => ?_)) hB ho
      split
      · exact ⟨hc.1, hw, hc.2.2⟩
      · exact hc
    rw [e1, e2]
    rfl
  · rw [decide_eq_false e, if_neg e, if_pos (by decide)]
theorem load_eq {fu : Nat} {k : Int} {d : Dev} : pmem_Device_Load.f fu d k = some (loadD d k) := by
  unfold pmem_Device_Load.f loadD
  rw [may_eq]
  simp only [Option.bind_some]
  by_cases e : mayI d.off k (d.cells.length : Int) = 0
  · obtain ⟨ho, h0, h1⟩ := may_zero.1 e
    rw [decide_eq_true e, if_pos e, if_neg (by decide), if_pos ⟨h0, h1⟩]
  · rw [decide_eq_false e, if_neg e, if_pos (by decide)]
theorem lines_eq {fu : Nat} {d : Dev} (h : d.cells.length ≤ 1000000) : pmem_Device_Lines.f fu d = some ((d.cells.length / 8 : Nat) : Int) := by
  unfold pmem_Device_Lines.f
  rw [Int.tdiv_eq_ediv_of_nonneg (by omega), w64 (by omega) (by omega)]
  congr 1
theorem send_loop {fu : Nat} {cs : List Cell} {k : Nat} (h : 8 * k + 8 ≤ cs.length) (hl : cs.length ≤ 1000000) (hf : 8 < fu) : loopM (pmem_Device_Flush.s0 fu (k : Int)) fu (0, cs) = some (sendL (k : Int) cs) := by
  refine loopM_run (S := fun j => ((j : Int), upd (fun _ c => sendC c) (8 * k) j cs)) 8 (by rw [upd_zero]; rfl) ?_ ?_ hf
  · intro j hj
    unfold pmem_Device_Flush.s0
    have w1 : IntKind.i64.wrap ((k : Int) * 8) = ((8 * k : Nat) : Int) := by rw [w64 (by omega) (by omega)]; omega
    have w2 : IntKind.i64.wrap (((8 * k : Nat) : Int) + (j : Int)) = ((8 * k + j : Nat) : Int) := by rw [w64 (by omega) (by omega)]; omega
    have w3 : IntKind.i64.wrap ((j : Int) + 1) = ((j + 1 : Nat) : Int) := by rw [w64 (by omega) (by omega)]; omega
    have hlt : 8 * k + j < (upd (fun _ c => sendC c) (8 * k) j cs).length := by rw [upd_len]; omega
    have c1 : 0 ≤ ((8 * k + j : Nat) : Int) ∧ ((8 * k + j : Nat) : Int) < ((upd (fun _ c => sendC c) (8 * k) j cs).length : Int) := by omega
    have c2 : (j : Int) < 8 := by omega
    simp only [w1, w2, w3]
    rw [decide_eq_true c2, if_pos rfl, if_pos c1]
    simp only [updR_nat, ix_set hlt, List.set_set]
    rw [ix_nat hlt, upd_next _ _ _ _ (by omega)]
    refine congrArg (fun z => some (Sum.inr (((j + 1 : Nat) : Int), z))) ?_
    exact upd_set (fun _ c => sendC c) (8 * k) j cs (by omega)
  · unfold pmem_Device_Flush.s0
    rw [decide_eq_false (show ¬ (((8 : Nat) : Int) < 8) by decide), if_neg (by decide)]
    refine congrArg (fun z => some (Sum.inl z)) ?_
    apply List.ext_getElem (by simp [upd, sendL])
    intro i h1 h2
    simp only [upd, sendL, List.getElem_mapIdx]
    by_cases c : 8 * k ≤ i ∧ i < 8 * k + 8
    · rw [if_pos c, if_pos (by omega)]
    · rw [if_neg c, if_neg (by omega)]
theorem sendL_ok {cs : List Cell} {k : Int} (h : ∀ c ∈ cs, okC c) : ∀ c ∈ sendL k cs, okC c := by
  refine mapIdx_ok h fun i c hc => ?_
  split
  · exact ⟨hc.1, hc.2.1, hc.2.1⟩
  · exact hc
theorem flush_eq {fu n : Nat} {B k : Int} {d : Dev} (h : DevOk n B d) (hB : B < 9223372036854775807) (hn : n ≤ 1000000) (hf : 8 < fu) : pmem_Device_Flush.f fu d k = some (flushD d k) := by
  unfold pmem_Device_Flush.f flushD
  have hl : d.cells.length ≤ 1000000 := by rw [h.len]; exact hn
  rw [lines_eq hl]
  simp only [Option.bind_some]
  rw [may_eq]
  simp only [Option.bind_some]
  by_cases e : mayI d.off k ((d.cells.length / 8 : Nat) : Int) = 0
  · obtain ⟨ho, h0, h1⟩ := may_zero.1 e
    rw [decide_eq_true e, if_pos e, if_neg (by decide)]
    obtain ⟨j, rfl⟩ : ∃ j : Nat, k = (j : Int) := ⟨k.toNat, by omega⟩
    rw [send_loop (by omega) hl hf]
    have e2 : pmem_Device_step.f fu (⟨sendL (j : Int) d.cells, d.plan, d.off, d.armed, d.left, d.steps⟩ : S_pmem_Device) = some (tick (withC d (sendL (j : Int) d.cells))) :=
      dstep_eq (with_ok h (by simp [sendL, h.len]) (sendL_ok h.val)) hB ho
    simp only [Option.bind_some]
    rw [e2]
    rfl
  · rw [decide_eq_false e, if_neg e, if_pos (by decide)]
theorem fence_loop {fu : Nat} {d : Dev} (hl : d.cells.length ≤ 1000000) (hf : d.cells.length < fu) : loopM (pmem_Device_Fence.s0 fu d) fu (0, d.cells) = some (d.cells.map fenceC) := by
  refine loopM_run (S := fun j => ((j : Int), upd (fun _ c => fenceC c) 0 j d.cells)) d.cells.length (by rw [upd_zero]; rfl) ?_ ?_ hf
  · intro j hj
    unfold pmem_Device_Fence.s0
    have w3 : IntKind.i64.wrap ((j : Int) + 1) = ((j + 1 : Nat) : Int) := by rw [w64 (by omega) (by omega)]; omega
    have hlt : j < (upd (fun _ c => fenceC c) 0 j d.cells).length := by rw [upd_len]; omega
    have hnx : (upd (fun _ c => fenceC c) 0 j d.cells)[j] = d.cells[j] := by
      rw [upd_get, if_neg (by omega)]
    have c1 : 0 ≤ (j : Int) ∧ (j : Int) < ((upd (fun _ c => fenceC c) 0 j d.cells).length : Int) := by omega
    have c2 : (j : Int) < (d.cells.length : Int) := by omega
    simp only [w3]
    rw [decide_eq_true c2, if_pos rfl, if_pos c1, keep_eq hlt, ix_nat hlt, hnx]
    have hs := upd_set (fun _ c => fenceC c) 0 j d.cells (by omega)
    simp only [Nat.zero_add] at hs
    cases hfl : d.cells[j].flushed
    · have : fenceC d.cells[j] = d.cells[j] := by simp [fenceC, hfl]
      have := upd_same (fun _ c => fenceC c) 0 j d.cells (by omega) (by simpa using this)
      simp only [Bool.false_eq_true, if_false, Option.bind_some]
      rw [this]
    · have : fenceC d.cells[j] = keepC d.cells[j] d.cells[j].sent := by simp [fenceC, hfl]
      rw [this] at hs
      simp only [if_true, Option.bind_some]
      refine congrArg (fun z => some (Sum.inr (((j + 1 : Nat) : Int), z))) hs
  · unfold pmem_Device_Fence.s0
    rw [decide_eq_false (by omega), if_neg (by decide)]
    refine congrArg (fun z => some (Sum.inl z)) ?_
    show upd (fun _ c => fenceC c) 0 d.cells.length d.cells = _
    rw [upd_all]
    apply List.ext_getElem (by simp)
    intro i h1 h2
    simp
theorem fence_okC {c : Cell} (h : okC c) : okC (fenceC c) := by
  unfold fenceC
  split
  · exact keep_ok h h.2.2
  · exact h
theorem fence_eq {fu n : Nat} {B : Int} {d : Dev} (h : DevOk n B d) (hB : B < 9223372036854775807) (hn : n ≤ 1000000) (hf : n < fu) : pmem_Device_Fence.f fu d = some (fenceD d) := by
  unfold pmem_Device_Fence.f fenceD
  rw [may_eq]
  simp only [Option.bind_some]
  cases ho : d.off
  · have e : mayI false 0 1 = 0 := by decide
    rw [e, if_neg (by decide), if_neg (by decide), fence_loop (by rw [h.len]; exact hn) (by rw [h.len]; exact hf)]
    have e2 : pmem_Device_step.f fu (⟨d.cells.map fenceC, d.plan, d.off, d.armed, d.left, d.steps⟩ : S_pmem_Device) = some (tick (withC d (d.cells.map fenceC))) :=
      dstep_eq (with_ok h (by simp [h.len]) (fun c hc => by
        obtain ⟨x, hx, rfl⟩ := List.mem_map.1 hc
        exact fence_okC (h.val x hx))) hB ho
    rw [ho] at e2
    simp only [Option.bind_some]
    rw [e2]
    rfl
  · have e : mayI true 0 1 = 3 := by decide
    rw [e]
    rfl
end Go.Proofs.YtdifnahlheogdaaDoor.Pure
namespace Go.Proofs.YtdifnahlheogdaaDoor
open Go Go.Xw Go.Yw
end Go.Proofs.YtdifnahlheogdaaDoor
namespace Go.Proofs.YtdifnahlheogdaaDoor.Pure
open Go Go.Xw Go.Yw
def octs (ws : List Int) : List Int := ws.flatMap fun w => lay w.toNat 8
theorem octs_len : ∀ ws : List Int, (octs ws).length = 8 * ws.length
  | [] => rfl
  | w :: ws => by
    have := octs_len ws
    simp only [octs, List.flatMap_cons, List.length_append, lay_len, List.length_cons] at *
    omega
theorem octs_append (a b : List Int) : octs (a ++ b) = octs a ++ octs b := by simp [octs]
theorem octs_one (w : Int) : octs [w] = lay w.toNat 8 := by simp [octs]
theorem octets_eq {fu : Nat} {ws : List Int} (hv : ∀ w ∈ ws, U64 w) (hl : ws.length ≤ 100000) (hf : ws.length + 8 < fu) : octet_Octets.f fu ws = some (octs ws) := by
  unfold octet_Octets.f
  have : loopM (octet_Octets.s0 fu ws) fu ([], 0) = some (octs ws) := by
    refine loopM_run (S := fun j => (octs (ws.take j), (j : Int))) ws.length (by simp [octs]) ?_ ?_ (by omega)
    · intro j hj
      unfold octet_Octets.s0
      have w3 : IntKind.i64.wrap ((j : Int) + 1) = ((j + 1 : Nat) : Int) := by rw [w64 (by omega) (by omega)]; omega
      have c1 : 0 ≤ (j : Int) ∧ (j : Int) < (ws.length : Int) := by omega
      have hu := hv _ (List.getElem_mem hj)
      obtain ⟨v, hv'⟩ : ∃ v : Nat, ws[j] = (v : Int) := ⟨ws[j].toNat, by unfold U64 at hu; omega⟩
      simp only [w3]
      rw [decide_eq_true c1.2, if_pos rfl, if_pos c1, ix_nat hj, hv', show octet_Lay.f fu (v : Int) 8 = some (lay v 8) from olay_eq (n := 8) (by omega) (by omega)]
      simp only [Option.bind_some]
      rw [if_pos (by rw [octs_len, lay_len, List.length_take]; exact Nat.le_trans (by omega : _ ≤ 1000008) (by decide)), take_next hj, octs_append, octs_one, hv', Int.toNat_natCast]
    · unfold octet_Octets.s0
      rw [decide_eq_false (show ¬ ((ws.length : Int) < (ws.length : Int)) by omega), if_neg (by decide), List.take_length]
  rw [this]
  rfl
def newD (n : Nat) : Dev := ⟨List.replicate n ⟨0, 0, 0, false⟩, ⟨[], 0⟩, false, false, 0, 0⟩
theorem new_eq {fu : Nat} {k : Nat} (hk : k ≤ 4096) : pmem_New.f fu (k : Int) = some (some (newD (8 * k)), 0) := by
  unfold pmem_New.f
  have h1 : ¬ (k : Int) < 0 := by omega
  have h2 : ¬ (k : Int) > 4096 := by omega
  have w : IntKind.i64.wrap ((k : Int) * 8) = ((8 * k : Nat) : Int) := by rw [w64 (by omega) (by omega)]; omega
  rw [decide_eq_false h1, decide_eq_false h2, if_neg (by decide), if_neg (by decide), w, Int.toNat_natCast, if_pos ⟨by omega, Nat.le_trans (by omega : _ ≤ 100000) (by decide)⟩]
  rfl
theorem newD_ok (n : Nat) : DevOk n 0 (newD n) := by
  refine ⟨by simp [newD], fun c hc => ?_, fun h => absurd rfl h, by simp [newD], fun h => (by cases h), fun _ => rfl, by simp [newD]⟩
  rw [List.eq_of_mem_replicate hc]
  unfold okC U64
  simp
theorem store_ok {n : Nat} {B k w : Int} {d : Dev} (h : DevOk n B d) (hw : U64 w) : DevOk n (B + 1) (storeD d k w).2 := by
  unfold storeD
  split
  · rename_i e
    refine tick_ok (with_ok h (by simp [putC, h.len]) (mapIdx_ok h.val fun i c hc => ?_)) (may_zero.1 e).1
    split
    · exact ⟨hc.1, hw, hc.2.2⟩
    · exact hc
  · exact h.up (by omega)
theorem flush_ok {n : Nat} {B k : Int} {d : Dev} (h : DevOk n B d) : DevOk n (B + 1) (flushD d k).2 := by
  unfold flushD
  split
  · rename_i e
    exact tick_ok (with_ok h (by simp [sendL, h.len]) (sendL_ok h.val)) (may_zero.1 e).1
  · exact h.up (by omega)
theorem fence_ok {n : Nat} {B : Int} {d : Dev} (h : DevOk n B d) : DevOk n (B + 1) (fenceD d).2 := by
  unfold fenceD
  cases ho : d.off
  · rw [if_neg (by decide)]
    exact tick_ok (with_ok h (by simp [h.len]) (fun c hc => by
        obtain ⟨x, hx, rfl⟩ := List.mem_map.1 hc
        exact fence_okC (h.val x hx))) ho
  · rw [if_pos rfl]
    exact h.up (by omega)
end Go.Proofs.YtdifnahlheogdaaDoor.Pure
namespace Go.Proofs.YtdifnahlheogdaaDoor
open Go Go.Xw Go.Yw
end Go.Proofs.YtdifnahlheogdaaDoor
namespace Go.Proofs.YtdifnahlheogdaaDoor.Pure
open Go Go.Xw Go.Yw
theorem Bytes.drop {l : List Int} (h : Bytes l) (n : Nat) : Bytes (l.drop n) := fun x hx => h x (List.mem_of_mem_drop hx)
theorem Bytes.take {l : List Int} (h : Bytes l) (n : Nat) : Bytes (l.take n) := fun x hx => h x (List.mem_of_mem_take hx)
theorem num_lt8 {l : List Int} (hb : Bytes l) (hl : l.length ≤ 8) : num l < 18446744073709551616 := by
  have h1 := num_lt hb
  have h2 : (256 : Nat) ^ l.length ≤ 256 ^ 8 := Nat.pow_le_pow_right (by decide) hl
  have h3 : (256 : Nat) ^ 8 = 18446744073709551616 := by decide
  omega
theorem read_long {fu : Nat} {l : List Int} (h : 8 ≤ l.length) : octet_Read.f fu l = octet_Read.f fu (l.take 8) := by
  have h8 : (l.take 8).length = 8 := by rw [List.length_take]; omega
  have e1 : mnI (l.length : Int) 8 = 8 := by unfold mnI; split <;> omega
  have e2 : mnI ((l.take 8).length : Int) 8 = 8 := by rw [h8]; rfl
  have e3 : cut l 0 8 = l.take 8 := rfl
  have e4 : cut (l.take 8) 0 8 = l.take 8 := by
    unfold cut
    rw [List.take_of_length_le (by rw [h8]; decide)]
    rfl
  have es : octet_Read.s0 fu l = octet_Read.s0 fu (l.take 8) := by
    unfold octet_Read.s0
    rw [e1, e2, e3, e4]
  unfold octet_Read.f
  rw [e1, e2, es, if_pos (by omega), if_pos (by rw [h8]; decide)]
def wordsU (l : List Int) (j : Nat) : List Int := (List.range j).map fun i => ((num ((l.drop (8 * i)).take 8) : Nat) : Int)
theorem wordsU_succ (l : List Int) (j : Nat) : wordsU l (j + 1) = wordsU l j ++ [((num ((l.drop (8 * j)).take 8) : Nat) : Int)] := by
  simp [wordsU, List.range_succ]
theorem wordsU_len (l : List Int) (j : Nat) : (wordsU l j).length = j := by simp [wordsU]
theorem chunk_len {l : List Int} {j : Nat} (h : 8 * j + 8 ≤ l.length) : ((l.drop (8 * j)).take 8).length = 8 := by
  rw [List.length_take, List.length_drop]
  omega
theorem words_U64 {l : List Int} (hb : Bytes l) {n : Nat} : ∀ w ∈ wordsU l n, U64 w := by
  intro w hw
  obtain ⟨i, _, rfl⟩ := List.mem_map.1 hw
  have := num_lt8 ((hb.drop (8 * i)).take 8) (by rw [List.length_take]; omega)
  unfold U64
  omega
theorem words_eq {fu n : Nat} {l : List Int} (hb : Bytes l) (hl : l.length = 8 * n) (hn : n ≤ 100000) (hf : n + 8 < fu) : octet_Words.f fu l = some (wordsU l n) := by
  unfold octet_Words.f
  have : loopM (octet_Words.s0 fu) fu (l, []) = some (wordsU l n) := by
    refine loopM_run (S := fun j => (l.drop (8 * j), wordsU l j)) n (by simp [wordsU]) ?_ ?_ (by omega)
    · intro j hj
      unfold octet_Words.s0
      have hdl : (l.drop (8 * j)).length = 8 * n - 8 * j := by rw [List.length_drop, hl]
      have c1 : ((l.drop (8 * j)).length : Int) ≥ 8 := by omega
      have hc : ((l.drop (8 * j)).take 8).length = 8 := chunk_len (by omega)
      have hr : octet_Read.f fu (l.drop (8 * j)) = some ((num ((l.drop (8 * j)).take 8) : Nat) : Int) := by
        rw [read_long (by omega)]
        exact read_eq ((hb.drop _).take _) (by omega) (by omega)
      have e1 : cut (l.drop (8 * j)) 8 ((l.drop (8 * j)).length : Int) = l.drop (8 * (j + 1)) := by
        unfold cut
        rw [Int.toNat_natCast, List.take_length, show Int.toNat 8 = 8 from rfl, List.drop_drop]
        congr 1
      simp only [e1]
      rw [decide_eq_true c1, if_pos rfl, hr]
      simp only [Option.bind_some]
      rw [if_pos (by rw [wordsU_len]; exact Nat.le_trans (by simp only [List.length_cons, List.length_nil]; omega : _ ≤ 100001) (by decide)), if_pos c1, wordsU_succ]
    · unfold octet_Words.s0
      have : ¬ (((l.drop (8 * n)).length : Int) ≥ 8) := by rw [List.length_drop]; omega
      simp only [this, decide_false, Bool.false_eq_true, if_false]
  rw [this]
  rfl
def putAll : Dev → Int → List Int → Int × Dev
  | d, _, [] => (0, d)
  | d, k, w :: ws => if (storeD d k w).1 = 0 then putAll (storeD d k w).2 (k + 1) ws else storeD d k w
def sendD (d : Dev) (line first : Int) (ws : List Int) : Int × Dev := if (putAll d (8 * line + first) ws).1 = 0 then flushD (putAll d (8 * line + first) ws).2 line else putAll d (8 * line + first) ws
def inL (d : Dev) (line : Int) : Prop := 0 ≤ line ∧ line < ((d.cells.length / 8 : Nat) : Int)
instance (d : Dev) (line : Int) : Decidable (inL d line) := inferInstanceAs (Decidable (_ ∧ _))
def writeD (d : Dev) (line : Int) (b : List Int) : Int × Dev := if inL d line ∧ b.length = 64 then sendD d line 0 (wordsU b 8) else (2, d)
def lineC (d : Dev) (line : Int) : List Int := (List.range 8).map fun (i : Nat) => (ix d.cells (8 * line + (i : Int))).stored
def readD (d : Dev) (line : Int) : List Int × Int := if inL d line then if d.off = true then ([], 3) else (octs (lineC d line), 0) else ([], 2)
theorem put_ok {n : Nat} : ∀ {ws : List Int} {B k : Int} {d : Dev} (h : DevOk n B d) (hw : ∀ w ∈ ws, U64 w), DevOk n (B + (ws.length : Int)) (putAll d k ws).2
  | [], B, k, d, h, _ => h.up (by simp)
  | w :: ws, B, k, d, h, hw => by
    have h1 := store_ok (k := k) h (hw w (by simp))
    unfold putAll
    split
    · exact (put_ok h1 fun x hx => hw x (by simp [hx])).up (by simp only [List.length_cons]; omega)
    · exact h1.up (by simp only [List.length_cons]; omega)
theorem send_ok {n : Nat} {ws : List Int} {B k i : Int} {d : Dev} (h : DevOk n B d) (hw : ∀ w ∈ ws, U64 w) : DevOk n (B + (ws.length : Int) + 1) (sendD d k i ws).2 := by
  have h1 := put_ok (k := 8 * k + i) h hw
  unfold sendD
  split
  · exact flush_ok h1
  · exact h1.up (by omega)
theorem store_loop {fu n : Nat} {line first : Int} {ws : List Int} (hn : n ≤ 100000) (hw : ∀ w ∈ ws, U64 w) (hl : ws.length ≤ 1000) (hline : 0 ≤ line ∧ line ≤ 100000) (hfirst : 0 ≤ first ∧ first ≤ 1000) : ∀ (r j : Nat) (B : Int) (d : Dev) (k : Nat), j + r = ws.length → DevOk n B d → B + (r : Int) < 9223372036854775807 → r < k →
    loopM (press_store.s0 fu line first ws) k ((j : Int), d) = some (if (putAll d (8 * line + first + (j : Int)) (ws.drop j)).1 = 0 then .inr (putAll d (8 * line + first + (j : Int)) (ws.drop j)).2 else .inl (putAll d (8 * line + first + (j : Int)) (ws.drop j)))
  | r, j, B, d, 0, hj, h, hB, hk => by omega
  | 0, j, B, d, k + 1, hj, h, hB, hk => by
    unfold loopM
    have : j = ws.length := by omega
    subst this
    unfold press_store.s0
    rw [decide_eq_false (show ¬ ((ws.length : Int) < (ws.length : Int)) by omega), if_neg (by decide), List.drop_of_length_le (Nat.le_refl _)]
    rfl
  | r + 1, j, B, d, k + 1, hj, h, hB, hk => by
    have hjl : j < ws.length := by omega
    have hu := hw _ (List.getElem_mem hjl)
    have hst : pmem_Device_Store.f fu d (8 * line + first + (j : Int)) ws[j] = some (storeD d (8 * line + first + (j : Int)) ws[j]) := store_eq h (by omega) hu
    have w1 : IntKind.i64.wrap (line * 8) = 8 * line := by rw [w64 (by omega) (by omega)]; omega
    have w2 : IntKind.i64.wrap (8 * line + first) = 8 * line + first := w64 (by omega) (by omega)
    have w3 : IntKind.i64.wrap (8 * line + first + (j : Int)) = 8 * line + first + (j : Int) := w64 (by omega) (by omega)
    have hd : ws.drop j = ws[j] :: ws.drop (j + 1) := List.drop_eq_getElem_cons hjl
    unfold loopM
    have hs : press_store.s0 fu line first ws ((j : Int), d) = some (if (storeD d (8 * line + first + (j : Int)) ws[j]).1 = 0 then .inr (((j + 1 : Nat) : Int), (storeD d (8 * line + first + (j : Int)) ws[j]).2) else .inl (.inl (storeD d (8 * line + first + (j : Int)) ws[j]))) := by
      unfold press_store.s0
      simp only [w1, w2, w3]
      rw [decide_eq_true (show (j : Int) < (ws.length : Int) by omega), if_pos rfl, if_pos (by omega), ix_nat hjl, hst, next64 hjl (by omega)]
      simp only [Option.bind_some]
      by_cases e : (storeD d (8 * line + first + (j : Int)) ws[j]).1 = 0
      · rw [decide_eq_true e, if_neg (by decide), if_pos e]
      · rw [decide_eq_false e, if_pos (by decide), if_neg e]
    rw [hs, hd]
    unfold putAll
    by_cases e : (storeD d (8 * line + first + (j : Int)) ws[j]).1 = 0
    · have ih := store_loop (fu := fu) (n := n) (line := line) (first := first) hn hw hl hline hfirst r (j + 1) (B + 1) (storeD d (8 * line + first + (j : Int)) ws[j]).2 k (by omega) (store_ok h hu) (by omega) (by omega)
      rw [show 8 * line + first + ((j + 1 : Nat) : Int) = 8 * line + first + (j : Int) + 1 from by omega] at ih
      rw [if_pos e, if_pos e]
      exact ih
    · rw [if_neg e, if_neg e]
      simp only [e, if_false]
theorem send_eq {fu n : Nat} {B line first : Int} {ws : List Int} {d : Dev} (h : DevOk n B d) (hB : B + (ws.length : Int) + 1 < 9223372036854775807) (hn : n ≤ 100000) (hw : ∀ w ∈ ws, U64 w) (hl : ws.length ≤ 1000) (hline : 0 ≤ line ∧ line ≤ 100000) (hfirst : 0 ≤ first ∧ first ≤ 1000) (hf : 2000 < fu) : press_store.f fu d line first ws = some (sendD d line first ws) := by
  unfold press_store.f sendD
  have h1 := store_loop (fu := fu) hn hw hl hline hfirst ws.length 0 B d fu (by omega) h (by omega) (by omega)
  simp only [List.drop_zero, Int.natCast_zero, Int.add_zero] at h1
  have h2 := put_ok (k := 8 * line + first) h hw
  rw [h1]
  by_cases e : (putAll d (8 * line + first) ws).1 = 0
  · rw [if_pos e, if_pos e]
    simp only [Option.bind_some]
    rw [flush_eq h2 (by omega) (by omega) (by omega)]
    rfl
  · rw [if_neg e, if_neg e]
    rfl
theorem pmay_eq {fu : Nat} {d : Dev} {k : Int} (hl : d.cells.length ≤ 1000000) : press_may.f fu d k = some (if inL d k then 0 else 2) := by
  unfold press_may.f
  rw [lines_eq hl]
  by_cases h1 : k < 0
  · rw [decide_eq_true h1, if_neg (show ¬ inL d k from fun q => by have := q.1; omega)]
    rfl
  · rw [decide_eq_false h1, if_neg (by decide)]
    simp only [Option.bind_some]
    by_cases h2 : k ≥ ((d.cells.length / 8 : Nat) : Int)
    · rw [decide_eq_true h2, if_neg (show ¬ inL d k from fun q => by have := q.2; omega)]
      rfl
    · rw [decide_eq_false h2, if_pos (show inL d k from ⟨by omega, by omega⟩)]
      rfl
theorem write_eq {fu n : Nat} {B line : Int} {b : List Int} {d : Dev} (h : DevOk n B d) (hB : B + 9 < 9223372036854775807) (hn : n ≤ 100000) (hb : Bytes b) (hf : 2000 < fu) : press_Write.f fu d line b = some (writeD d line b) := by
  unfold press_Write.f writeD
  have hlen := h.len
  rw [pmay_eq (by omega)]
  simp only [Option.bind_some]
  by_cases hi : inL d line
  · rw [if_pos hi, if_neg (by decide)]
    by_cases hl : b.length = 64
    · have hw := words_U64 (n := 8) hb
      unfold inL at hi
      rw [decide_eq_true (show (b.length : Int) = 64 by omega), if_neg (by decide), if_pos ⟨hi, hl⟩, words_eq (n := 8) hb (by omega) (by decide) (by omega)]
      simp only [Option.bind_some]
      rw [send_eq h (by rw [wordsU_len]; omega) hn hw (by rw [wordsU_len]; decide) (by omega) (by decide) hf]
      rfl
    · rw [decide_eq_false (show ¬ (b.length : Int) = 64 by omega), if_pos (by decide), if_neg (fun q => hl q.2)]
  · rw [if_neg hi, if_pos (by decide), if_neg (fun q => hi q.1)]
theorem sure_eq {fu n : Nat} {B : Int} {d : Dev} (h : DevOk n B d) (hB : B < 9223372036854775807) (hn : n ≤ 100000) (hf : n < fu) : press_Sure.f fu d = some (fenceD d) := by
  unfold press_Sure.f
  rw [fence_eq h hB (by omega) hf]
  rfl
theorem arr_set8 (a : Arr 8 Int) (j : Nat) (v : Int) (hj : j < 8) (f : Nat → Int) (hf : ∀ i, i < j → ix a.l (i : Int) = f i) (hv : v = f j) : ∀ i, i < j + 1 → ix (Arr.set a (j : Int) v).l (i : Int) = f i := by
  intro i hi
  have hl := a.h
  have e : (Arr.set a (j : Int) v).l = a.l.set j v := by simp [Arr.set]
  rw [e, ix_nat (by rw [List.length_set]; omega), List.getElem_set]
  by_cases h : j = i
  · subst h
    rw [if_pos rfl, hv]
  · rw [if_neg h, ← ix_nat (by omega)]
    exact hf i (by omega)
theorem read_dev {fu n : Nat} {B line : Int} {d : Dev} (h : DevOk n B d) (hn : n ≤ 100000) (hf : 2000 < fu) : press_Read.f fu d line = some (readD d line) := by
  unfold press_Read.f readD
  have hlen := h.len
  rw [pmay_eq (by omega)]
  simp only [Option.bind_some]
  by_cases hi : inL d line
  · rw [if_pos hi, if_neg (by decide), if_pos hi]
    have hin := hi
    unfold inL at hin
    have w1 : IntKind.i64.wrap (line * 8) = 8 * line := by rw [w64 (by omega) (by omega)]; omega
    have hld : ∀ j : Nat, j < 8 → pmem_Device_Load.f fu d (8 * line + (j : Int)) = some (if d.off = true then (0, 3) else ((ix d.cells (8 * line + (j : Int))).stored, 0)) := by
      intro j hj
      rw [load_eq]
      unfold loadD
      cases ho : d.off
      · rw [if_pos (may_zero.2 ⟨rfl, by omega, by omega⟩), if_neg (by decide)]
      · have : mayI true (8 * line + (j : Int)) (d.cells.length : Int) = 3 := rfl
        rw [this, if_neg (by decide), if_pos rfl]
    cases ho : d.off
    · rw [if_neg (by decide)]
      have loop : ∃ e, loopM (press_Read.s0 fu d line) fu (0, Arr.rep 8 (0 : Int)) = some e ∧ ∃ a : Arr 8 Int, e = .inr a ∧ ∀ i : Nat, i < 8 → ix a.l (i : Int) = (ix d.cells (8 * line + (i : Int))).stored := by
        refine loopM_inv (fun j s => ∃ a : Arr 8 Int, s = ((j : Int), a) ∧ ∀ i : Nat, i < j → ix a.l (i : Int) = (ix d.cells (8 * line + (i : Int))).stored) 8 _ ?_ ?_ (j := 0) ⟨_, rfl, fun i hi => by omega⟩ (by omega) (by omega)
        · rintro j _ hj ⟨a, rfl, ha⟩
          unfold press_Read.s0
          have w3 : IntKind.i64.wrap (8 * line + (j : Int)) = 8 * line + (j : Int) := w64 (by omega) (by omega)
          simp only [w1, w3]
          rw [decide_eq_true (show (j : Int) < 8 by omega), if_pos rfl, hld j hj, ho, if_neg (by decide), next64 hj (by decide)]
          simp only [Option.bind_some, decide_true, Bool.not_true, Bool.false_eq_true, if_false]
          rw [if_pos (by omega)]
          exact ⟨_, rfl, _, rfl, arr_set8 a j _ hj (fun i => (ix d.cells (8 * line + (i : Int))).stored) ha rfl⟩
        · rintro _ ⟨a, rfl, ha⟩
          unfold press_Read.s0
          rw [decide_eq_false (show ¬ (((8 : Nat) : Int) < 8) by decide), if_neg (by decide)]
          exact ⟨_, rfl, a, rfl, ha⟩
      obtain ⟨e, h1, a, rfl, ha⟩ := loop
      have hal : a.l = lineC d line := by
        apply List.ext_getElem (by rw [a.h]; simp [lineC])
        intro i h1 h2
        have : i < 8 := by rw [a.h] at h1; exact h1
        rw [← ix_nat h1, ha i this]
        simp [lineC]
      have hu : ∀ w ∈ lineC d line, U64 w := by
        intro w hw
        obtain ⟨i, hi8, rfl⟩ := List.mem_map.1 hw
        have := List.mem_range.1 hi8
        obtain ⟨p, hp⟩ : ∃ p : Nat, 8 * line + (i : Int) = (p : Int) := ⟨(8 * line + (i : Int)).toNat, by omega⟩
        rw [hp, ix_nat (by omega)]
        exact (h.val _ (List.getElem_mem _)).2.1
      rw [h1]
      simp only [Option.bind_some]
      rw [hal, octets_eq hu (by simp [lineC]) (by simp [lineC]; omega)]
      rfl
    · rw [if_pos rfl]
      have loop : loopM (press_Read.s0 fu d line) fu (0, Arr.rep 8 (0 : Int)) = some (.inl ([], 3)) := by
        obtain ⟨k, rfl⟩ : ∃ k, fu = k + 1 := ⟨fu - 1, by omega⟩
        unfold loopM
        have := hld 0 (by decide)
        rw [ho, if_pos rfl] at this
        unfold press_Read.s0
        have w3 : IntKind.i64.wrap (8 * line + 0) = 8 * line + ((0 : Nat) : Int) := by rw [w64 (by omega) (by omega)]; rfl
        simp only [w1, w3]
        rw [this]
        rfl
      rw [loop]
      rfl
  · rw [if_neg hi, if_pos (by decide), if_neg hi]
noncomputable def SO (n : Nat) (d : Dev) (a : AA) : S_shadow_Store := ⟨d, a.of n⟩
def writtenS (d : Dev) (a : AA) (k : Int) (b : List Int) : Int × Int × Dev × AA := if (writeD d k b).1 = 0 then (k, 0, (writeD d k b).2, a) else (0, (writeD d k b).1, (writeD d k b).2, a)
def makeS (n : Nat) (d : Dev) (a : AA) (b : List Int) : Int × Int × Dev × AA := if b.length = 64 then if (a.take n).2.1 = 0 then writtenS d (a.take n).2.2 (a.take n).1 b else (0, (a.take n).2.1, d, (a.take n).2.2) else (0, 2, d, a)
def turnS (n : Nat) (d : Dev) (a : AA) (k : Int) (b : List Int) : Int × Int × Dev × AA :=
  if b.length = 64 ∧ hasI n a.w k = true then
    if a.own n k = true then writtenS d a k b
    else if (makeS n d a b).2.1 = 0 then ((makeS n d a b).1, ((makeS n d a b).2.2.2.give n k).1, (makeS n d a b).2.2.1, ((makeS n d a b).2.2.2.give n k).2) else (0, (makeS n d a b).2.1, (makeS n d a b).2.2.1, (makeS n d a b).2.2.2)
  else (0, 2, d, a)
theorem write_dev {m : Nat} {B line : Int} {b : List Int} {d : Dev} (h : DevOk m B d) (hb : Bytes b) : DevOk m (B + 9) (writeD d line b).2 := by
  unfold writeD
  split
  · have := send_ok (k := line) (i := 0) h (words_U64 (n := 8) hb)
    exact this.up (by rw [wordsU_len]; omega)
  · exact h.up (by omega)
theorem written_eq {fu n m : Nat} {B k : Int} {b : List Int} {d : Dev} {a : AA} (h : DevOk m B d) (hB : B + 9 < 9223372036854775807) (hm : m ≤ 100000) (hb : Bytes b) (hf : 2000 < fu) : shadow_Store_written.f fu (SO n d a) k b = some ((writtenS d a k b).1, (writtenS d a k b).2.1, SO n (writtenS d a k b).2.2.1 (writtenS d a k b).2.2.2) := by
  unfold shadow_Store_written.f writtenS
  rw [show (SO n d a).device = d from rfl, write_eq h hB hm hb hf]
  simp only [Option.bind_some]
  by_cases e : (writeD d k b).1 = 0
  · rw [decide_eq_true e, if_neg (by decide), if_pos e]
    rfl
  · rw [decide_eq_false e, if_pos (by decide), if_neg e]
    rfl
theorem written_dev {m : Nat} {B k : Int} {b : List Int} {d : Dev} {a : AA} (h : DevOk m B d) (hb : Bytes b) : DevOk m (B + 9) (writtenS d a k b).2.2.1 ∧ (writtenS d a k b).2.2.2 = a := by
  have := write_dev (line := k) h hb
  unfold writtenS
  split <;> exact ⟨this, rfl⟩
theorem make_eq {fu n m : Nat} {B : Int} {b : List Int} {d : Dev} {a : AA} (h : DevOk m B d) (hB : B + 9 < 9223372036854775807) (hm : m ≤ 100000) (hb : Bytes b) (hf : 2000 < fu) (ha : AOk n a) (hn : n ≤ 90000) (hfn : n + 64 < fu) : shadow_Store_Make.f fu (SO n d a) b = some ((makeS n d a b).1, (makeS n d a b).2.1, SO n (makeS n d a b).2.2.1 (makeS n d a b).2.2.2) := by
  unfold shadow_Store_Make.f makeS
  by_cases e : b.length = 64
  · rw [decide_eq_true (show (b.length : Int) = 64 by omega), if_neg (by decide), if_pos e, show (SO n d a).blocks = a.of n from rfl, take_eq hn hfn ha]
    simp only [Option.bind_some]
    by_cases e2 : (a.take n).2.1 = 0
    · rw [decide_eq_true e2, if_neg (by decide), if_pos e2, show (⟨(SO n d a).device, (a.take n).2.2.of n⟩ : S_shadow_Store) = SO n d (a.take n).2.2 from rfl, written_eq h hB hm hb hf]
      rfl
    · rw [decide_eq_false e2, if_pos (by decide), if_neg e2]
      rfl
  · rw [decide_eq_false (show ¬ (b.length : Int) = 64 by omega), if_pos (by decide), if_neg e]
theorem make_ok {n m : Nat} {B : Int} {b : List Int} {d : Dev} {a : AA} (h : DevOk m B d) (hb : Bytes b) (ha : AOk n a) : DevOk m (B + 9) (makeS n d a b).2.2.1 ∧ AOk n (makeS n d a b).2.2.2 := by
  have ht := take_ok ha
  unfold makeS
  split
  · split
    · obtain ⟨h1, h2⟩ := written_dev (k := (a.take n).1) (a := (a.take n).2.2) h hb
      rw [h2]
      exact ⟨h1, ht⟩
    · exact ⟨h.up (by omega), ht⟩
  · exact ⟨h.up (by omega), ha⟩
theorem turn_eq {fu n m : Nat} {B k : Int} {b : List Int} {d : Dev} {a : AA} (h : DevOk m B d) (hB : B + 9 < 9223372036854775807) (hm : m ≤ 100000) (hb : Bytes b) (hf : 2000 < fu) (ha : AOk n a) (hn : n ≤ 90000) (hfn : n + 64 < fu) : shadow_Store_Turn.f fu (SO n d a) k b = some ((turnS n d a k b).1, (turnS n d a k b).2.1, SO n (turnS n d a k b).2.2.1 (turnS n d a k b).2.2.2) := by
  unfold shadow_Store_Turn.f turnS
  by_cases e : b.length = 64
  · rw [decide_eq_true (show (b.length : Int) = 64 by omega), if_neg (by decide), show (SO n d a).blocks = a.of n from rfl, works_eq hn hfn ha]
    simp only [Option.bind_some]
    rw [has_eq (by omega)]
    simp only [Option.bind_some]
    cases hh : hasI n a.w k
    · rw [Bool.not_false, if_pos rfl, if_neg (fun q => by simp at q)]
    · rw [Bool.not_true, if_neg (by decide), if_pos ⟨e, rfl⟩, own_eq hn]
      simp only [Option.bind_some]
      cases ho : a.own n k
      · rw [if_neg (by decide), if_neg (by decide), make_eq h hB hm hb hf ha hn hfn]
        simp only [Option.bind_some]
        obtain ⟨m1, m2⟩ := make_ok (n := n) h hb ha
        by_cases e2 : (makeS n d a b).2.1 = 0
        · rw [decide_eq_true e2, if_neg (by decide), if_pos e2, show (SO n (makeS n d a b).2.2.1 (makeS n d a b).2.2.2).blocks = (makeS n d a b).2.2.2.of n from rfl, give_eq hn hfn m2]
          rfl
        · rw [decide_eq_false e2, if_pos (by decide), if_neg e2]
      · rw [if_pos rfl, if_pos rfl, written_eq h hB hm hb hf]
        rfl
  · rw [decide_eq_false (show ¬ (b.length : Int) = 64 by omega), if_pos (by decide), if_neg (fun q => e q.1)]
theorem drop_eq {fu n : Nat} {k : Int} {d : Dev} {a : AA} (ha : AOk n a) (hn : n ≤ 90000) (hfn : n + 64 < fu) : shadow_Store_Drop.f fu (SO n d a) k = some ((a.give n k).1, SO n d (a.give n k).2) := by
  unfold shadow_Store_Drop.f
  rw [show (SO n d a).blocks = a.of n from rfl, give_eq hn hfn ha]
  rfl
theorem sget_eq {fu n m : Nat} {B k : Int} {d : Dev} {a : AA} (h : DevOk m B d) (hm : m ≤ 100000) (hf : 2000 < fu) : shadow_Store_Get.f fu (SO n d a) k = some (readD d k) := by
  unfold shadow_Store_Get.f
  rw [show (SO n d a).device = d from rfl, read_dev h hm hf]
  rfl
theorem ssure_eq {fu n m : Nat} {B : Int} {d : Dev} {a : AA} (h : DevOk m B d) (hB : B < 9223372036854775807) (hm : m ≤ 100000) (hf : m < fu) : shadow_Store_Sure.f fu (SO n d a) = some ((fenceD d).1, SO n (fenceD d).2 a) := by
  unfold shadow_Store_Sure.f
  rw [show (SO n d a).device = d from rfl, sure_eq h hB hm hf]
  rfl
structure Clean (d : Dev) : Prop where
  off : d.off = false
  arm : d.armed = false
  pl : d.plan.list = []
theorem tick_clean {d : Dev} (h : Clean d) : tick d = ⟨d.cells, d.plan, false, false, d.left, d.steps + 1⟩ := by
  have hp : pick d.plan = -1 := by simp [pick, h.pl]
  have hn : nextP d.plan = d.plan := by simp [nextP, h.pl]
  unfold tick
  rw [hp, hn, evict_no _ (by decide), h.arm, h.off]
  rfl
theorem clean_with {d : Dev} {cs : List Cell} (h : Clean d) : Clean (tick (withC d cs)) ∧ (tick (withC d cs)).cells = cs := by
  have h' : Clean (withC d cs) := ⟨h.off, h.arm, h.pl⟩
  rw [tick_clean h']
  exact ⟨⟨rfl, rfl, h.pl⟩, rfl⟩
theorem putC_ix {cs : List Cell} {k w : Int} {i : Nat} (hi : i < cs.length) : ix (putC k w cs) (i : Int) = if (i : Int) = k then ⟨(ix cs (i : Int)).lasts, w, (ix cs (i : Int)).sent, (ix cs (i : Int)).flushed⟩ else ix cs (i : Int) := by
  have hl : i < (putC k w cs).length := by simpa [putC] using hi
  rw [ix_nat hl, ix_nat hi]
  simp only [putC, List.getElem_mapIdx]
theorem sendL_ix {cs : List Cell} {k : Int} {i : Nat} (hi : i < cs.length) : ix (sendL k cs) (i : Int) = if 8 * k ≤ (i : Int) ∧ (i : Int) < 8 * k + 8 then sendC (ix cs (i : Int)) else ix cs (i : Int) := by
  have hl : i < (sendL k cs).length := by simpa [sendL] using hi
  rw [ix_nat hl, ix_nat hi]
  simp only [sendL, List.getElem_mapIdx]
theorem put_clean : ∀ {ws : List Int} {k : Nat} {d : Dev}, Clean d → k + ws.length ≤ d.cells.length → (putAll d (k : Int) ws).1 = 0 ∧ Clean (putAll d (k : Int) ws).2 ∧ (putAll d (k : Int) ws).2.cells.length = d.cells.length ∧
    ∀ i : Nat, i < d.cells.length → ix (putAll d (k : Int) ws).2.cells (i : Int) = if k ≤ i ∧ i < k + ws.length then ⟨(ix d.cells (i : Int)).lasts, ix ws ((i - k : Nat) : Int), (ix d.cells (i : Int)).sent, (ix d.cells (i : Int)).flushed⟩ else ix d.cells (i : Int)
  | [], k, d, h, hk => ⟨rfl, h, rfl, fun i hi => by
    have : ¬ (k ≤ i ∧ i < k + ([] : List Int).length) := fun q => by have h1 := q.1; have h2 := q.2; simp only [List.length_nil] at h2; omega
    rw [if_neg this]
    rfl⟩
  | w :: ws, k, d, h, hk => by
    have hk : k + (ws.length + 1) ≤ d.cells.length := hk
    have hm : mayI d.off (k : Int) (d.cells.length : Int) = 0 := may_zero.2 ⟨h.off, by omega, by omega⟩
    have hs : storeD d (k : Int) w = (0, tick (withC d (putC (k : Int) w d.cells))) := by
      unfold storeD
      rw [if_pos hm]
    obtain ⟨c1, c2⟩ := clean_with (cs := putC (k : Int) w d.cells) h
    have hl : (putC (k : Int) w d.cells).length = d.cells.length := by simp [putC]
    obtain ⟨i1, i2, i3, i4⟩ := put_clean (ws := ws) (k := k + 1) c1 (by rw [c2, hl]; omega)
    have e : putAll d (k : Int) (w :: ws) = putAll (tick (withC d (putC (k : Int) w d.cells))) ((k + 1 : Nat) : Int) ws := by
      conv => lhs; unfold putAll
      rw [hs]
      simp only [if_true]
      rfl
    rw [e]
    rw [c2, hl] at i3 i4
    refine ⟨i1, i2, i3, fun i hi => ?_⟩
    rw [i4 i hi, putC_ix hi]
    by_cases e1 : i = k
    · subst e1
      have e9 : i ≤ i ∧ i < i + (w :: ws).length := ⟨Nat.le_refl _, by simp only [List.length_cons]; omega⟩
      rw [if_neg (by omega), if_pos rfl, if_pos e9, Nat.sub_self]
      rfl
    · rw [if_neg (show ¬ ((i : Int) = (k : Int)) by omega)]
      by_cases e2 : k + 1 ≤ i ∧ i < k + 1 + ws.length
      · rw [if_pos e2, if_pos (by simp only [List.length_cons]; omega)]
        obtain ⟨p, hp⟩ : ∃ p, i - k = p + 1 := ⟨i - k - 1, by omega⟩
        have hp2 : i - (k + 1) = p := by omega
        have e5 : ix (w :: ws) ((p + 1 : Nat) : Int) = ix ws (p : Int) := by
          unfold ix
          rw [Int.toNat_natCast, Int.toNat_natCast]
          rfl
        rw [hp, hp2, e5]
      · rw [if_neg e2, if_neg (by simp only [List.length_cons]; omega)]
theorem write_clean {d : Dev} {line : Nat} {b : List Int} (h : Clean d) (hi : 8 * line + 8 ≤ d.cells.length) (hb : b.length = 64) : (writeD d (line : Int) b).1 = 0 ∧ Clean (writeD d (line : Int) b).2 ∧ (writeD d (line : Int) b).2.cells.length = d.cells.length ∧
    ∀ i : Nat, i < d.cells.length → ix (writeD d (line : Int) b).2.cells (i : Int) = if i / 8 = line then ⟨(ix d.cells (i : Int)).lasts, ix (wordsU b 8) ((i - 8 * line : Nat) : Int), ix (wordsU b 8) ((i - 8 * line : Nat) : Int), true⟩ else ix d.cells (i : Int) := by
  have hin : inL d (line : Int) := ⟨by omega, by omega⟩
  obtain ⟨p1, p2, p3, p4⟩ := put_clean (ws := wordsU b 8) (k := 8 * line) h (by rw [wordsU_len]; exact hi)
  have ek : 8 * (line : Int) + 0 = ((8 * line : Nat) : Int) := by omega
  have hw : writeD d (line : Int) b = flushD (putAll d ((8 * line : Nat) : Int) (wordsU b 8)).2 (line : Int) := by
    unfold writeD
    rw [if_pos ⟨hin, hb⟩]
    unfold sendD
    rw [ek, if_pos p1]
  generalize putAll d ((8 * line : Nat) : Int) (wordsU b 8) = D at *
  have hm : mayI D.2.off (line : Int) ((D.2.cells.length / 8 : Nat) : Int) = 0 := may_zero.2 ⟨p2.off, by omega, by rw [p3]; omega⟩
  have hfl : flushD D.2 (line : Int) = (0, tick (withC D.2 (sendL (line : Int) D.2.cells))) := by
    unfold flushD
    rw [if_pos hm]
  obtain ⟨c1, c2⟩ := clean_with (cs := sendL (line : Int) D.2.cells) p2
  rw [hw, hfl]
  refine ⟨rfl, c1, by rw [c2]; simpa [sendL] using p3, fun i hi' => ?_⟩
  rw [c2, sendL_ix (by rw [p3]; exact hi'), p4 i hi', wordsU_len]
  by_cases e : i / 8 = line
  · rw [if_pos (by omega), if_pos (by omega), if_pos e]
    rfl
  · rw [if_neg (by omega), if_neg (by omega), if_neg e]
theorem read_clean {d : Dev} {line : Nat} (h : Clean d) (hi : 8 * line + 8 ≤ d.cells.length) : readD d (line : Int) = (octs (lineC d (line : Int)), 0) := by
  unfold readD
  rw [if_pos (show inL d (line : Int) from ⟨by omega, by omega⟩), h.off, if_neg (by decide)]
theorem line_congr {d e : Dev} {k : Nat} (h : ∀ i : Nat, i < 8 → ix d.cells ((8 * k + i : Nat) : Int) = ix e.cells ((8 * k + i : Nat) : Int)) : lineC d (k : Int) = lineC e (k : Int) := by
  unfold lineC
  apply List.map_congr_left
  intro i hi
  have := h i (List.mem_range.1 hi)
  rw [show 8 * (k : Int) + (i : Int) = ((8 * k + i : Nat) : Int) by omega, this]
abbrev FU : Nat := 200000
theorem awake19 : rickyardlaw19_awake.f FU = some true := by decide +kernel
def ini (n : Nat) : Nat → Bool := addF n (fun _ => false) [0, 1]
def nul (n : Nat) : Nat → Bool := addF n (fun _ => false) []
def A0 (n : Nat) (r : Int) : AA := ⟨r, ini n, nul n, ini n, ini n⟩
theorem ini_low (n : Nat) : Low n (ini n) := addF_low fun k h => by cases h
theorem nul_low (n : Nat) : Low n (nul n) := addF_low fun k h => by cases h
theorem A0_ok {n : Nat} {r : Int} (hr : 0 ≤ r ∧ r ≤ 1000) : AOk n (A0 n r) := ⟨ini_low n, nul_low n, ini_low n, ini_low n, hr⟩
theorem made_eq {fu n : Nat} {r : Int} (hn : n ≤ 3072) (hf : n + 2000 < fu) (hr : 0 ≤ r ∧ r ≤ 1000) : rickyardlaw19_Made.f fu (n : Int) r = some (some (SO n (newD (8 * n)) (A0 n r)), some (newD (8 * n)), some ((A0 n r).of n)) := by
  unfold rickyardlaw19_Made.f
  rw [new_eq (by omega)]
  simp only [Option.bind_some, Option.elim_some]
  rw [of_eq (l := [0, 1]) hn (by decide) (by simp; omega), of_eq (l := []) hn (by decide) (by simp; omega)]
  simp only [Option.bind_some]
  rw [anew_eq (by omega) (by omega) (addF_low fun k h => by cases h) (addF_low fun k h => by cases h) hr.1]
  simp only [Option.bind_some, Option.elim_some]
  have ha := A0_ok (n := n) hr
  unfold shadow_New.f
  rw [show (⟨r, addF n (fun _ => false) [0, 1], addF n (fun _ => false) [], addF n (fun _ => false) [0, 1], addF n (fun _ => false) [0, 1]⟩ : AA) = A0 n r from rfl, works_eq (by omega) (by omega) ha]
  have hl : (newD (8 * n)).cells.length = 8 * n := by simp [newD]
  simp only [Option.bind_some, bits_Set_Size.f]
  rw [lines_eq (by omega), hl]
  simp only [Option.bind_some]
  rw [show (setOf n (A0 n r).w).size = (n : Int) from rfl, decide_eq_false (show ¬ ((n : Int) > ((8 * n / 8 : Nat) : Int)) by omega), if_neg (by decide)]
  rfl
theorem newD_clean (n : Nat) : Clean (newD n) := ⟨rfl, rfl, rfl⟩
structure SOk (n : Nat) (B : Int) (d : Dev) (a : AA) : Prop where
  dev : DevOk (8 * n) B d
  cl : Clean d
  al : AOk n a
theorem SOk.up {n : Nat} {B C : Int} {d : Dev} {a : AA} (h : SOk n B d a) (hc : B ≤ C) : SOk n C d a := ⟨h.dev.up hc, h.cl, h.al⟩
theorem SOk.len {n : Nat} {B : Int} {d : Dev} {a : AA} (h : SOk n B d a) : d.cells.length = 8 * n := h.dev.len
def Stay (n : Nat) (K : Nat → Bool) (d e : Dev) : Prop := ∀ i : Nat, i < 8 * n → (K (i / 8) = true → ix e.cells (i : Int) = ix d.cells (i : Int)) ∧ (ix e.cells (i : Int) = ix d.cells (i : Int) ∨ ∃ s, ix e.cells (i : Int) = ⟨(ix d.cells (i : Int)).lasts, s, s, true⟩)
theorem Stay.refl (n : Nat) (K : Nat → Bool) (d : Dev) : Stay n K d d := fun i _ => ⟨fun _ => rfl, .inl rfl⟩
theorem writtenS_clean {d : Dev} {a : AA} {line : Nat} {b : List Int} (h : Clean d) (hi : 8 * line + 8 ≤ d.cells.length) (hb : b.length = 64) : writtenS d a (line : Int) b = ((line : Int), 0, (writeD d (line : Int) b).2, a) := by
  unfold writtenS
  rw [if_pos (write_clean h hi hb).1]
theorem written_step {n : Nat} {B : Int} {d : Dev} {a a' : AA} {line : Nat} {b : List Int} {K : Nat → Bool} (h : SOk n B d a) (ha : AOk n a') (hl : line < n) (hb : Bytes b) (hb2 : b.length = 64) (hK : K line = false) : SOk n (B + 9) (writtenS d a' (line : Int) b).2.2.1 a' ∧ Stay n K d (writtenS d a' (line : Int) b).2.2.1 ∧ (writtenS d a' (line : Int) b).2.2.2 = a' ∧ (writtenS d a' (line : Int) b).2.1 = 0 ∧ (writtenS d a' (line : Int) b).1 = (line : Int) := by
  have hlen := h.len
  rw [writtenS_clean h.cl (by omega) hb2]
  obtain ⟨w1, w2, w3, w4⟩ := write_clean (line := line) h.cl (by omega) hb2
  refine ⟨⟨write_dev h.dev hb, w2, ha⟩, fun i hi => ?_, rfl, rfl, rfl⟩
  rw [w4 i (by omega)]
  by_cases e : i / 8 = line
  · rw [if_pos e]
    refine ⟨fun hk => ?_, .inr ⟨_, rfl⟩⟩
    rw [e, hK] at hk
    cases hk
  · rw [if_neg e]
    exact ⟨fun _ => rfl, .inl rfl⟩
def Grow (a a' : AA) : Prop := ∃ w', a' = a.setW w' ∧ ∀ k, w' k = true → a.w k = true ∨ a.held k = false
theorem Grow.refl (a : AA) : Grow a a := ⟨a.w, rfl, fun k h => .inl h⟩
theorem make_step {n : Nat} {B : Int} {d : Dev} {a : AA} {b : List Int} {K : Nat → Bool} (h : SOk n B d a) (hb : Bytes b) (hK : ∀ k, K k = true → a.held k = true) : SOk n (B + 9) (makeS n d a b).2.2.1 (makeS n d a b).2.2.2 ∧ Stay n K d (makeS n d a b).2.2.1 ∧ Grow a (makeS n d a b).2.2.2 := by
  unfold makeS
  by_cases e : b.length = 64
  · rw [if_pos e]
    by_cases e2 : (a.take n).2.1 = 0
    · rw [if_pos e2]
      have ht := take_ok h.al
      unfold AA.take at e2 ht ⊢
      by_cases e3 : ((a.free n).length : Int) ≤ a.r
      · rw [if_pos e3] at e2
        have e2 : (10 : Int) = 0 := e2
        exact absurd e2 (by decide)
      · rw [if_neg e3] at ht ⊢
        have hr := h.al.r
        obtain ⟨l1, l2, l3⟩ := least_ok (n := n) (a := a) (by omega)
        simp only at ht ⊢
        obtain ⟨s1, s2, s3, _, _⟩ := written_step (K := K) h ht l1 hb e (by
          cases hk : K (a.least n)
          · rfl
          · rw [hK _ hk] at l2
            cases l2)
        rw [s3]
        refine ⟨s1, s2, addF n a.w [(a.least n : Int)], rfl, fun k hk => ?_⟩
        unfold addF at hk
        rcases Bool.or_eq_true_iff.1 hk with hk | hk
        · exact .inl hk
        · right
          have := of_decide_eq_true (Bool.and_eq_true_iff.1 hk).2
          have : k = a.least n := by
            have := List.mem_singleton.1 this
            omega
          rw [this]
          exact l2
    · rw [if_neg e2]
      have : (a.take n).2.2 = a := by
        unfold AA.take at e2 ⊢
        split
        · rfl
        · rename_i e3
          rw [if_neg e3] at e2
          exact absurd rfl e2
      simp only [this]
      exact ⟨h.up (by omega), Stay.refl _ _ _, Grow.refl a⟩
  · rw [if_neg e]
    exact ⟨h.up (by omega), Stay.refl _ _ _, Grow.refl a⟩
theorem give_grow {n : Nat} {a : AA} {k : Int} : Grow a (a.give n k).2 := by
  unfold AA.give
  split
  · exact ⟨_, rfl, fun j hj => .inl (Bool.and_eq_true_iff.1 hj).1⟩
  · exact Grow.refl a
theorem Grow.give {n : Nat} {a a' : AA} {k : Int} (h : Grow a a') : Grow a (a'.give n k).2 := by
  obtain ⟨w1, rfl, h1⟩ := h
  unfold AA.give
  split
  · exact ⟨_, rfl, fun j hj => h1 j (Bool.and_eq_true_iff.1 hj).1⟩
  · exact ⟨w1, rfl, h1⟩
theorem turn_step {n : Nat} {B k : Int} {d : Dev} {a : AA} {b : List Int} {K : Nat → Bool} (h : SOk n B d a) (hb : Bytes b) (hK : ∀ k, K k = true → a.held k = true) (hO : ∀ k, K k = true → a.w k = true → a.m k = true) : SOk n (B + 9) (turnS n d a k b).2.2.1 (turnS n d a k b).2.2.2 ∧ Stay n K d (turnS n d a k b).2.2.1 ∧ Grow a (turnS n d a k b).2.2.2 := by
  unfold turnS
  by_cases e : b.length = 64 ∧ hasI n a.w k = true
  · rw [if_pos e]
    by_cases e2 : a.own n k = true
    · rw [if_pos e2]
      unfold AA.own hasI at e2
      simp only [Bool.and_eq_true, decide_eq_true_eq, Bool.not_eq_true'] at e2
      obtain ⟨⟨k0, k1, k2⟩, k3⟩ := e2
      obtain ⟨j, rfl⟩ : ∃ j : Nat, k = (j : Int) := ⟨k.toNat, by omega⟩
      rw [Int.toNat_natCast] at k2 k3
      have hm : a.m j = false := by
        rw [decide_eq_true k0, decide_eq_true k1] at k3
        simpa using k3
      obtain ⟨s1, s2, s3, _, _⟩ := written_step (K := K) (line := j) h h.al (by omega) hb e.1 (by
        cases hk : K j
        · rfl
        · rw [hO _ hk k2] at hm
          cases hm)
      rw [s3]
      exact ⟨s1, s2, Grow.refl a⟩
    · rw [if_neg e2]
      obtain ⟨s1, s2, s3⟩ := make_step (K := K) h hb hK
      by_cases e3 : (makeS n d a b).2.1 = 0
      · rw [if_pos e3]
        exact ⟨⟨s1.dev, s1.cl, give_ok s1.al⟩, s2, s3.give⟩
      · rw [if_neg e3]
        exact ⟨s1, s2, s3⟩
  · rw [if_neg e]
    exact ⟨h.up (by omega), Stay.refl _ _ _, Grow.refl a⟩
def doS (n : Nat) (d : Dev) (a : AA) (x : S_rickyardlaw19_Act) : Dev × AA :=
  if x.Kind % 10 = 0 then (makeS n d a x.B).2.2
  else if x.Kind % 10 = 1 then (turnS n d a x.At x.B).2.2
  else if x.Kind % 10 = 2 then (d, (a.give n x.At).2)
  else if x.Kind % 10 = 4 then ((fenceD d).2, a)
  else if x.Kind % 10 = 5 then (d, a.mark)
  else if x.Kind % 10 = 6 then (d, a.back)
  else if x.Kind % 10 = 8 then (d, a.abort)
  else (d, a)
theorem rest_eq {fu : Nat} {k m : Int} (hk : I64 k) (hm : 0 < m ∧ m ≤ 1000) : rickyardref01_Rest.f fu k m = some (k % m) := by
  unfold rickyardref01_Rest.f
  have e : m ≠ 0 := by omega
  rw [if_pos e, if_pos e]
  have h1 : -m < Int.tmod k m ∧ Int.tmod k m < m := by
    rcases Int.lt_or_le k 0 with h | h
    · have e1 : Int.tmod k m = -(Int.tmod (-k) m) := by rw [Int.neg_tmod, Int.neg_neg]
      have e2 : Int.tmod (-k) m = (-k) % m := Int.tmod_eq_emod_of_nonneg (by omega)
      have := Int.emod_nonneg (-k) e
      have := Int.emod_lt_of_pos (-k) hm.1
      omega
    · have e2 : Int.tmod k m = k % m := Int.tmod_eq_emod_of_nonneg h
      have := Int.emod_nonneg k e
      have := Int.emod_lt_of_pos k hm.1
      omega
  rw [w64 (by omega) (by omega), Int.tmod_eq_emod_of_nonneg (by omega), Int.add_emod_right]
  have h2 : Int.tmod k m = k - m * Int.tdiv k m := by have := Int.tmod_add_mul_tdiv k m; omega
  rw [h2, Int.sub_mul_emod_self_left]
theorem fence_clean {d : Dev} (h : Clean d) : (fenceD d).1 = 0 ∧ Clean (fenceD d).2 ∧ (fenceD d).2.cells = d.cells.map fenceC := by
  unfold fenceD
  rw [h.off, if_neg (by decide)]
  obtain ⟨c1, c2⟩ := clean_with (cs := d.cells.map fenceC) h
  exact ⟨rfl, c1, c2⟩
theorem fence_step {n : Nat} {B : Int} {d : Dev} {a : AA} (h : SOk n B d a) : SOk n (B + 9) (fenceD d).2 a := ⟨(fence_ok h.dev).up (by omega), (fence_clean h.cl).2.1, h.al⟩
def okX (x : S_rickyardlaw19_Act) : Prop := I64 x.Kind ∧ I64 x.At ∧ Bytes x.B
theorem do_eq {fu n : Nat} {B : Int} {d : Dev} {a : AA} {x : S_rickyardlaw19_Act} (h : SOk n B d a) (hB : B + 9 < 9223372036854775807) (hn : n ≤ 4000) (hx : okX x) (hf : 40000 < fu) : rickyardlaw19_do_a1_1.f fu (SO n d a) x = some (SO n (doS n d a x).1 (doS n d a x).2) := by
  unfold rickyardlaw19_do_a1_1.f doS
  rw [rest_eq hx.1 (by decide)]
  simp only [Option.bind_some]
  have hbl : (SO n d a).blocks = a.of n := rfl
  have hdv : (SO n d a).device = d := rfl
  by_cases e0 : x.Kind % 10 = 0
  · rw [decide_eq_true e0, if_pos rfl, if_pos e0, make_eq h.dev hB (by omega) hx.2.2 (by omega) h.al (by omega) (by omega)]
    rfl
  rw [decide_eq_false e0, if_neg (by decide), if_neg e0]
  by_cases e1 : x.Kind % 10 = 1
  · rw [decide_eq_true e1, if_pos rfl, if_pos e1, turn_eq h.dev hB (by omega) hx.2.2 (by omega) h.al (by omega) (by omega)]
    rfl
  rw [decide_eq_false e1, if_neg (by decide), if_neg e1]
  by_cases e2 : x.Kind % 10 = 2
  · rw [decide_eq_true e2, if_pos rfl, if_pos e2, drop_eq h.al (by omega) (by omega)]
    rfl
  rw [decide_eq_false e2, if_neg (by decide), if_neg e2]
  by_cases e4 : x.Kind % 10 = 4
  · rw [decide_eq_true e4, if_pos rfl, if_pos e4, ssure_eq h.dev (by omega) (by omega) (by omega)]
    rfl
  rw [decide_eq_false e4, if_neg (by decide), if_neg e4]
  by_cases e5 : x.Kind % 10 = 5
  · rw [decide_eq_true e5, if_pos rfl, if_pos e5, hbl, mark_eq (by omega) (by omega) h.al]
    rfl
  rw [decide_eq_false e5, if_neg (by decide), if_neg e5]
  by_cases e6 : x.Kind % 10 = 6
  · rw [decide_eq_true e6, if_pos rfl, if_pos e6, hbl, back_eq (by omega) (by omega) h.al]
    rfl
  rw [decide_eq_false e6, if_neg (by decide), if_neg e6]
  by_cases e8 : x.Kind % 10 = 8
  · rw [decide_eq_true e8, if_pos rfl, if_pos e8, hbl, abort_eq (by omega) (by omega) h.al]
    rfl
  rw [decide_eq_false e8, if_neg (by decide), if_neg e8]
  rfl
theorem do_ok {n : Nat} {B : Int} {d : Dev} {a : AA} {x : S_rickyardlaw19_Act} (h : SOk n B d a) (hx : okX x) : SOk n (B + 9) (doS n d a x).1 (doS n d a x).2 := by
  have hu := h.up (show B ≤ B + 9 by omega)
  unfold doS
  split
  · exact (make_step (K := fun _ => false) h hx.2.2 (fun k hk => by cases hk)).1
  split
  · exact (turn_step (K := fun _ => false) h hx.2.2 (fun k hk => by cases hk) (fun k hk => by cases hk)).1
  split
  · exact ⟨hu.dev, hu.cl, give_ok h.al⟩
  split
  · exact fence_step h
  split
  · exact ⟨hu.dev, hu.cl, mark_ok h.al⟩
  split
  · exact ⟨hu.dev, hu.cl, back_ok h.al⟩
  split
  · exact ⟨hu.dev, hu.cl, abort_ok h.al⟩
  · exact hu
theorem small_ex {fu m : Nat} {acts : List S_rickyardlaw19_Act} (hm : m ≤ 1000) (hf : m < fu) : ∃ b, rickyardlaw19_small.f fu acts (m : Int) = some b ∧ (b = true → acts.length ≤ m) := by
  unfold rickyardlaw19_small.f
  by_cases h : (acts.length : Int) > (m : Int)
  · rw [decide_eq_true h, if_pos rfl]
    exact ⟨false, rfl, fun h => by cases h⟩
  · rw [decide_eq_false h, if_neg (by decide)]
    have hl : acts.length ≤ m := by omega
    have : ∃ e, loopM (rickyardlaw19_small.s0 fu acts) fu ((0 : Nat) : Int) = some e := by
      refine loopM_term (fun j => ((j : Nat) : Int)) acts.length (fun j hj => ?_) ?_ (by omega) (by omega)
      · unfold rickyardlaw19_small.s0
        have c1 : 0 ≤ (j : Int) ∧ (j : Int) < (acts.length : Int) := by omega
        rw [decide_eq_true c1.2, if_pos rfl, if_pos c1, next64 hj (by omega)]
        split
        · exact .inl ⟨_, rfl⟩
        · exact .inr rfl
      · unfold rickyardlaw19_small.s0
        rw [decide_eq_false (show ¬ ((acts.length : Int) < (acts.length : Int)) by omega), if_neg (by decide)]
        exact ⟨_, rfl⟩
    obtain ⟨e, h1⟩ := this
    rw [show ((0 : Nat) : Int) = 0 from rfl] at h1
    rw [h1]
    cases e with
    | inl b => exact ⟨b, rfl, fun _ => hl⟩
    | inr u => exact ⟨true, rfl, fun _ => hl⟩
theorem ints_eq {fu : Nat} {l : List Int} (hl : l.length ≤ 100000) (hf : l.length < fu) : rickyardref01_Ints.f fu l l = some true := by
  unfold rickyardref01_Ints.f
  rw [decide_eq_true (rfl : (l.length : Int) = (l.length : Int)), if_neg (by decide)]
  have : loopM (rickyardref01_Ints.s0 fu l l) fu 0 = some (.inr ()) := by
    refine loopM_run (S := fun j => ((j : Nat) : Int)) l.length rfl ?_ ?_ hf
    · intro j hj
      unfold rickyardref01_Ints.s0
      have c1 : 0 ≤ (j : Int) ∧ (j : Int) < (l.length : Int) := by omega
      rw [decide_eq_true c1.2, if_pos rfl, if_pos c1, if_pos c1, decide_eq_true (rfl : ix l (j : Int) = ix l (j : Int)), if_neg (by decide), next64 hj hl]
    · unfold rickyardref01_Ints.s0
      rw [decide_eq_false (show ¬ ((l.length : Int) < (l.length : Int)) by omega), if_neg (by decide)]
  rw [this]
  rfl
theorem run_inv {step : Int × S_shadow_Store → Option (Sum S_shadow_Store (Int × S_shadow_Store))} {n N : Nat} {B : Int} (I : Dev → AA → Prop) (f : Nat → Dev → AA → Dev × AA)
    (hstep : ∀ (j : Nat) d a, j < N → SOk n (B + 9 * (j : Int)) d a → I d a → step ((j : Int), SO n d a) = some (.inr (((j + 1 : Nat) : Int), SO n (f j d a).1 (f j d a).2)) ∧ SOk n (B + 9 * (j : Int) + 9) (f j d a).1 (f j d a).2 ∧ I (f j d a).1 (f j d a).2)
    (hend : ∀ s, step ((N : Int), s) = some (.inl s)) {d : Dev} {a : AA} {k : Nat} (h : SOk n B d a) (hi : I d a) (hk : N < k) : ∃ d' a', loopM step k (0, SO n d a) = some (SO n d' a') ∧ SOk n (B + 9 * (N : Int)) d' a' ∧ I d' a' := by
  obtain ⟨e, h1, d', a', rfl, h2, h3⟩ := loopM_inv (step := step) (fun j s => ∃ d a, s = ((j : Int), SO n d a) ∧ SOk n (B + 9 * (j : Int)) d a ∧ I d a) N (fun e => ∃ d a, e = SO n d a ∧ SOk n (B + 9 * (N : Int)) d a ∧ I d a) (by
      rintro j s hj ⟨d, a, rfl, h1, h2⟩
      obtain ⟨h3, h4, h5⟩ := hstep j d a hj h1 h2
      exact ⟨_, h3, _, _, rfl, by rw [show B + 9 * ((j + 1 : Nat) : Int) = B + 9 * (j : Int) + 9 by omega]; exact h4, h5⟩) (by
      rintro s ⟨d, a, rfl, h1, h2⟩
      exact ⟨_, hend _, d, a, rfl, h1, h2⟩) (k := k) (j := 0) (s := (0, SO n d a)) ⟨d, a, rfl, h.up (by omega), hi⟩ (by omega) (by omega)
  exact ⟨d', a', h1, h2, h3⟩
theorem okX_of {l : List S_rickyardlaw19_Act} (h : okv 9 (⟨.sl (.st .S_rickyardlaw19_Act), l⟩ : PV G.toSg)) : ∀ x ∈ l, okX x := by
  intro x hx
  have h1 := h.2 x hx
  have hk := h1 ⟨.int .i64, x.Kind⟩ (List.mem_cons_self)
  have ha := h1 ⟨.int .i64, x.At⟩ (List.mem_cons_of_mem _ List.mem_cons_self)
  have hb := h1 ⟨.sl (.int .u8), x.B⟩ (List.mem_cons_of_mem _ (List.mem_cons_of_mem _ List.mem_cons_self))
  exact ⟨wf64.1 hk, wf64.1 ha, fun y hy => wf8.1 (hb.2 y hy)⟩
theorem els_get {n j : Nat} {f : Nat → Bool} (h : j < (els n f).length) : ∃ k : Nat, (els n f)[j] = (k : Int) ∧ k < n ∧ f k = true := by
  have hm : (els n f)[j] ∈ els n f := List.getElem_mem h
  unfold els at hm
  obtain ⟨k, hk, e⟩ := List.mem_map.1 hm
  obtain ⟨h1, h2⟩ := List.mem_filter.1 hk
  exact ⟨k, e.symm, List.mem_range.1 h1, h2⟩
theorem back_do {n : Nat} {B : Int} {d : Dev} {a : AA} {x : S_rickyardlaw19_Act} {K : Nat → Bool} (h : SOk n B d a) (hx : okX x) (hk : x.Kind % 10 < 3) (hm : a.m = K) : (doS n d a x).2.m = K ∧ ∀ i : Nat, i < 8 * n → K (i / 8) = true → ix (doS n d a x).1.cells (i : Int) = ix d.cells (i : Int) := by
  subst hm
  have hK : ∀ k, a.m k = true → a.held k = true := fun k hk => by simp [AA.held, hk]
  have h0 : 0 ≤ x.Kind % 10 := Int.emod_nonneg _ (by decide)
  unfold doS
  by_cases e0 : x.Kind % 10 = 0
  · rw [if_pos e0]
    obtain ⟨_, s2, w', e, _⟩ := make_step (K := a.m) h hx.2.2 hK
    rw [e]
    exact ⟨rfl, fun i hi hk => (s2 i hi).1 hk⟩
  rw [if_neg e0]
  by_cases e1 : x.Kind % 10 = 1
  · rw [if_pos e1]
    obtain ⟨_, s2, w', e, _⟩ := turn_step (k := x.At) (K := a.m) h hx.2.2 hK (fun k hk _ => hk)
    rw [e]
    exact ⟨rfl, fun i hi hk => (s2 i hi).1 hk⟩
  rw [if_neg e1]
  have e2 : x.Kind % 10 = 2 := by omega
  rw [if_pos e2]
  obtain ⟨w', e, _⟩ := give_grow (n := n) (a := a) (k := x.At)
  rw [e]
  exact ⟨rfl, fun _ _ _ => rfl⟩
theorem ShadowBack : ∀ (a0 : List S_rickyardlaw19_Act), okv 9 (⟨.sl (.st .S_rickyardlaw19_Act), a0⟩ : PV G.toSg) → ∀ (a1 : List S_rickyardlaw19_Act), okv 9 (⟨.sl (.st .S_rickyardlaw19_Act), a1⟩ : PV G.toSg) → ∃ fu, rickyardlaw19_ShadowBack.f fu a0 a1 = some true := by
  intro a0 h0 a1 h1
  refine ⟨FU, ?_⟩
  have x0 := okX_of h0
  have x1 := okX_of h1
  unfold rickyardlaw19_ShadowBack.f
  rw [awake19]
  simp only [Option.bind_some, Bool.not_true, Bool.false_eq_true, if_false]
  obtain ⟨c0, q0, l0⟩ := small_ex (fu := FU) (m := 20) (acts := a0) (by decide) (by decide)
  rw [show ((20 : Nat) : Int) = 20 from rfl] at q0
  rw [q0]
  cases c0
  · rfl
  have l0 := l0 rfl
  simp only [Option.bind_some, Bool.not_true, Bool.false_eq_true, if_false]
  obtain ⟨c1, q1, l1⟩ := small_ex (fu := FU) (m := 20) (acts := a1) (by decide) (by decide)
  rw [show ((20 : Nat) : Int) = 20 from rfl] at q1
  rw [q1]
  cases c1
  · rfl
  have l1 := l1 rfl
  simp only [Option.bind_some, Bool.not_true, Bool.false_eq_true, if_false]
  have hm := made_eq (fu := FU) (n := 16) (r := 0) (by decide) (by decide) (by decide)
  rw [show ((16 : Nat) : Int) = 16 from rfl] at hm
  rw [hm]
  simp only [Option.bind_some, Option.elim_some]
  rw [show (⟨newD (8 * 16), (A0 16 0).of 16⟩ : S_shadow_Store) = SO 16 (newD (8 * 16)) (A0 16 0) from rfl]
  have hs0 : SOk 16 0 (newD (8 * 16)) (A0 16 0) := ⟨newD_ok _, newD_clean _, A0_ok (by decide)⟩
  obtain ⟨d1, b1, r1, s1, _⟩ := run_inv (step := rickyardlaw19_ShadowBack.s0 FU a0) (n := 16) (N := a0.length) (B := 0) (k := FU) (fun _ _ => True) (fun j d a => doS 16 d a (ix a0 (j : Int))) (by
      intro j d a hj hs _
      have hx : okX (ix a0 (j : Int)) := by rw [ix_nat hj]; exact x0 _ (List.getElem_mem hj)
      refine ⟨?_, do_ok hs hx, trivial⟩
      unfold rickyardlaw19_ShadowBack.s0
      have c1 : 0 ≤ (j : Int) ∧ (j : Int) < (a0.length : Int) := by omega
      simp only
      rw [decide_eq_true c1.2, if_pos rfl, if_pos c1, do_eq hs (by omega) (by decide) hx (by decide), next64 hj (by omega)]
      rfl) (by
      intro s
      unfold rickyardlaw19_ShadowBack.s0
      rw [decide_eq_false (show ¬ ((a0.length : Int) < (a0.length : Int)) by omega), if_neg (by decide)]) hs0 trivial (Nat.lt_of_le_of_lt l0 (by decide))
  rw [r1]
  simp only [Option.bind_some]
  rw [show (SO 16 d1 b1).blocks = b1.of 16 from rfl, show (SO 16 d1 b1).device = d1 from rfl, mark_eq (by decide) (by decide) s1.al]
  simp only [Option.bind_some]
  have hM := mark_ok s1.al
  rw [works_eq (by decide) (by decide) hM]
  simp only [Option.bind_some]
  rw [show (b1.mark).w = b1.w from rfl, list_eq (by decide) (by decide) s1.al.w]
  simp only [Option.bind_some]
  have hel : (els 16 b1.w).length ≤ 16 := by rw [els_len]; exact cnt_le _ _
  have hlen1 := s1.len
  have hsb : SOk 16 (0 + 9 * (a0.length : Int)) d1 b1.mark := ⟨s1.dev, s1.cl, hM⟩
  have hso : (⟨d1, (b1.mark).of 16⟩ : S_shadow_Store) = SO 16 d1 b1.mark := rfl
  rw [hso]
  have w1 : loopM (rickyardlaw19_ShadowBack.s1 FU (SO 16 d1 b1) ((b1.mark).of 16) (els 16 b1.w)) FU (([] : List (List UInt8)), 0) = some ((els 16 b1.w).map fun k => (readD d1 k).1.map toB) := by
    refine loopM_run (S := fun j => (((els 16 b1.w).take j).map (fun k => (readD d1 k).1.map toB), (j : Int))) (els 16 b1.w).length (by simp) ?_ ?_ (Nat.lt_of_le_of_lt hel (by decide))
    · intro j hj
      unfold rickyardlaw19_ShadowBack.s1
      have c1 : 0 ≤ (j : Int) ∧ (j : Int) < ((els 16 b1.w).length : Int) := by omega
      simp only
      rw [decide_eq_true c1.2, if_pos rfl, if_pos c1, show (SO 16 d1 b1).device = d1 from rfl, hso, sget_eq s1.dev (by decide) (by decide), ix_nat hj, next64 hj (by omega), take_next hj]
      simp only [Option.bind_some]
      rw [if_pos (Nat.le_trans (by simp only [List.length_map, List.length_take, List.length_cons, List.length_nil]; omega : _ ≤ 17) (by decide)), List.map_append]
      rfl
    · unfold rickyardlaw19_ShadowBack.s1
      simp only
      rw [decide_eq_false (show ¬ (((els 16 b1.w).length : Int) < ((els 16 b1.w).length : Int)) by omega), if_neg (by decide), List.take_length]
  rw [w1]
  simp only [Option.bind_some]
  obtain ⟨d3, b3, r3, s3, hm3, hst⟩ := run_inv (step := rickyardlaw19_ShadowBack.s2 FU a1) (n := 16) (N := a1.length) (B := 0 + 9 * (a0.length : Int)) (k := FU) (fun d a => a.m = b1.w ∧ ∀ i : Nat, i < 8 * 16 → b1.w (i / 8) = true → ix d.cells (i : Int) = ix d1.cells (i : Int)) (fun j d a => if (ix a1 (j : Int)).Kind % 10 < 3 then doS 16 d a (ix a1 (j : Int)) else (d, a)) (by
      intro j d a hj hs hI
      have hx : okX (ix a1 (j : Int)) := by rw [ix_nat hj]; exact x1 _ (List.getElem_mem hj)
      have c1 : 0 ≤ (j : Int) ∧ (j : Int) < (a1.length : Int) := by omega
      by_cases e : (ix a1 (j : Int)).Kind % 10 < 3
      · simp only [e, if_true]
        obtain ⟨m1, m2⟩ := back_do hs hx e hI.1
        refine ⟨?_, do_ok hs hx, m1, fun i hi hk => (m2 i hi hk).trans (hI.2 i hi hk)⟩
        unfold rickyardlaw19_ShadowBack.s2
        simp only
        rw [decide_eq_true c1.2, if_pos rfl, if_pos c1, rest_eq hx.1 (by decide), next64 hj (by omega)]
        simp only [Option.bind_some]
        rw [decide_eq_true e, if_pos rfl, if_pos c1, do_eq hs (by omega) (by decide) hx (by decide)]
        rfl
      · simp only [e, if_false]
        refine ⟨?_, hs.up (by omega), hI⟩
        unfold rickyardlaw19_ShadowBack.s2
        simp only
        rw [decide_eq_true c1.2, if_pos rfl, if_pos c1, rest_eq hx.1 (by decide), next64 hj (by omega)]
        simp only [Option.bind_some]
        rw [decide_eq_false e, if_neg (by decide)]
        rfl) (by
      intro s
      unfold rickyardlaw19_ShadowBack.s2
      rw [decide_eq_false (show ¬ ((a1.length : Int) < (a1.length : Int)) by omega), if_neg (by decide)]) hsb ⟨rfl, fun _ _ _ => rfl⟩ (Nat.lt_of_le_of_lt l1 (by decide))
  rw [r3]
  simp only [Option.bind_some]
  rw [show (SO 16 d3 b3).blocks = b3.of 16 from rfl, back_eq (by decide) (by decide) s3.al]
  simp only [Option.bind_some]
  have hBk := back_ok s3.al
  rw [works_eq (by decide) (by decide) hBk]
  simp only [Option.bind_some]
  rw [show (b3.back).w = b3.m from rfl, hm3, list_eq (by decide) (by decide) s1.al.w]
  simp only [Option.bind_some]
  rw [ints_eq (by omega) (Nat.lt_of_le_of_lt hel (by decide))]
  simp only [Option.bind_some, Bool.not_true, Bool.false_eq_true, if_false]
  have hlen3 := s3.len
  have w3 : loopM (rickyardlaw19_ShadowBack.s3 FU (els 16 b1.w) ((els 16 b1.w).map fun k => (readD d1 k).1.map toB) (SO 16 d3 b3) ((b3.back).of 16)) FU 0 = some (.inr ()) := by
    refine loopM_run (S := fun j => ((j : Nat) : Int)) (els 16 b1.w).length rfl ?_ ?_ (Nat.lt_of_le_of_lt hel (by decide))
    · intro j hj
      unfold rickyardlaw19_ShadowBack.s3
      have c1 : 0 ≤ (j : Int) ∧ (j : Int) < ((els 16 b1.w).length : Int) := by omega
      have c2 : 0 ≤ (j : Int) ∧ (j : Int) < (((els 16 b1.w).map fun k => (readD d1 k).1.map toB).length : Int) := by rw [List.length_map]; omega
      obtain ⟨k, e1, e2, e3⟩ := els_get hj
      rw [decide_eq_true c1.2, if_pos rfl, if_pos c1, show (SO 16 d3 b3).device = d3 from rfl, show (⟨d3, (b3.back).of 16⟩ : S_shadow_Store) = SO 16 d3 b3.back from rfl, sget_eq s3.dev (by decide) (by decide), ix_nat hj, e1, read_clean s3.cl (by omega)]
      simp only [Option.bind_some, decide_true, Bool.not_true, Bool.false_eq_true, if_false]
      rw [if_pos c2, ix_nat (by simpa using hj), List.getElem_map, e1, read_clean s1.cl (by omega), line_congr (d := d3) (e := d1) (k := k) (fun i hi => hst _ (by omega) (by rw [show (8 * k + i) / 8 = k by omega]; exact e3)), decide_eq_true rfl, if_neg (by decide), next64 hj (by omega)]
    · unfold rickyardlaw19_ShadowBack.s3
      rw [decide_eq_false (show ¬ (((els 16 b1.w).length : Int) < ((els 16 b1.w).length : Int)) by omega), if_neg (by decide)]
  rw [w3]
  rfl
end Go.Proofs.YtdifnahlheogdaaDoor.Pure
namespace Go.Proofs.YtdifnahlheogdaaDoor.shadowBack
open Go.ChangeShapes Go.WideShapes Go.ChangeAt Go.RowKit
open Go.ChangeMaps (open_string shut_string)
open Go Go.Xw Go.Yw
theorem own : ownKnob Tryd.prog.godebug = none := Facts.own
theorem laidOut : laidOutB Tryd.prog = true := Facts.laid
theorem closed : joinedFacts Tryd.pinned.checked.prog 5 Tryd.f5 Rows.shadowBackSpec Rows.shadowBackRow = true := by
  unfold joinedFacts
  rw [Facts.enter, Facts.lifts, Facts.make, Facts.laid, Facts.rowed, Facts.plain, Facts.heard]
  kernel_rfl
set_option maxRecDepth 100000 in
set_option maxHeartbeats 1000000 in
theorem lifted (os : Os) (started : os.Started) (H : Type) (enc : TypeId × Value → H) :
    ReturnsInHanded {} Tryd.checked os 5 .any (fun w args => (Rows.shadowBackSpec.pre enc Tryd.prog Tryd.f5 [] false w args ∧ laidMetH Tryd.prog Laid.L0 w) ∧ sizedMet enc Tryd.prog Tryd.f5 (OpenSpec.ofChange Rows.shadowBackSpec) false w args) (Rows.shadowBackSpec.post enc Tryd.prog Tryd.f5 false true false false) := by
  refine returnsInHanded_of_change_and (C := Tryd.checked) (X := fun w _ => laidMetH Tryd.prog Laid.L0 w) (fun _ _ _ hh h => h.of_heap hh) own started (by kernel_rfl) Tryd.func5
    (ChangeSpec.witness_shaped (enc := enc) (C := Tryd.checked) (os := os) (X := fun w _ => laidMetH Tryd.prog Laid.L0 w) false (World.doorLaid Tryd.prog 400 os) #[.slice none 0 0, .slice none 0 0] 8 rfl (World.shaped_of_RefB (by kernel_rfl) (by kernel_rfl)) (by kernel_rfl) (by kernel_rfl) (by kernel_rfl) (Laid.met os _)) ?_
  intro W base args ds gs before hval0 hW _ _ hL _
  have hval : ∀ (j : Nat) t v, Tryd.f5.params[j]? = some t → args[j]? = some v → Value.okWide Tryd.prog W .any base t v := hval0
  have hW' := hW
  obtain ⟨p, q, hA0, hV, rfl, hfz, hnd⟩ := hW
  have hA : DataW.TrodAll enc Tryd.prog W 0 (fun _ => true) true Tryd.f5.params.toList args.toList ds p := hA0
  rw [Tryd.params5] at hA hval
  obtain ⟨v0, vs0, d0, ds0, p0, q0, hargs, rfl, rfl, h0, r0⟩ := trodAll_cons hA
  obtain ⟨v1, vs1, d1, ds1, p1, q1, rfl, rfl, rfl, h1, r1⟩ := trodAll_cons r0
  obtain ⟨rfl, rfl, rfl⟩ := trodAll_nil r1
  obtain rfl : args = #[v0, v1] := by cases args; simp_all
  obtain ⟨rfl, rfl⟩ := trodVars_none hV
  have k0 := h0
  have lt0 : ∀ x ∈ p0, x.block < W.heap.size := by obtain ⟨m, hm⟩ := k0; exact DataW.trod_lt m _ _ _ hm
  obtain ⟨fu0, hf0⟩ := h0
  obtain ⟨a0, c0, o0⟩ := open_ok (Γ := G) gok full0 9 49 (.sl (.st SI.S_rickyardlaw19_Act)) (by kernel_rfl) enc _ _ _ _ _ _ hf0
  have w0 : VR (Γ := G) (fun _ => none) W (Low W) (.v (.sl (.st SI.S_rickyardlaw19_Act)) a0) v0 := arg_ok (P := Tryd.prog) (base := base) (n := 8) gok c0 (hval 0 49 v0 rfl rfl) (by kernel_rfl)
  have k1 := h1
  have lt1 : ∀ x ∈ p1, x.block < W.heap.size := by obtain ⟨m, hm⟩ := k1; exact DataW.trod_lt m _ _ _ hm
  obtain ⟨fu1, hf1⟩ := h1
  obtain ⟨a1, c1, o1⟩ := open_ok (Γ := G) gok full0 9 49 (.sl (.st SI.S_rickyardlaw19_Act)) (by kernel_rfl) enc _ _ _ _ _ _ hf1
  have w1 : VR (Γ := G) (fun _ => none) W (Low W) (.v (.sl (.st SI.S_rickyardlaw19_Act)) a1) v1 := arg_ok (P := Tryd.prog) (base := base) (n := 8) gok c1 (hval 1 49 v1 rfl rfl) (by kernel_rfl)
  obtain ⟨fu, hfu⟩ := Pure.ShadowBack a0 o0 a1 o1
  refine Calls.mono (law_ok (rickyardlaw19_ShadowBack.sc fu a0 a1 true hfu) (.cons w0 (.cons w1 .nil)) (Laid.gl hL)) fun e W' hr => ?_
  obtain ⟨v, rfl, rfl, gr⟩ := hr
  have bel := Fr.below gr
  exact ⟨_, rfl, _, _, _, [], _, [], hW', trodAll_mk1 (shut_bool Tryd.underlying4 _), (trodAll_cons_mk (Below.trod laidOut (by kernel_rfl) (of_decide_eq_true (by kernel_rfl)) k0 bel lt0) (trodAll_cons_mk (Below.trod laidOut (by kernel_rfl) (of_decide_eq_true (by kernel_rfl)) k1 bel lt1) trodAll_mk0)), rfl, bel.frame _, fun h => by cases h⟩
theorem over : Rows.shadowBackRow.holds Tryd.pinned (OpenSpec.ofChange Rows.shadowBackSpec) :=
  OpenClaim.holds_of_wide 5 Tryd.f5 rfl rfl rfl rfl rfl rfl rfl ⟨rfl, rfl, rfl, rfl, rfl⟩ rfl rfl rfl rfl rfl (by kernel_rfl) Tryd.func5 closed
    (of_decide_eq_true (by kernel_rfl)) (by unfold Func.isWrapper; first | (rw [if_pos (by decide +kernel)]; kernel_rfl) | (rw [if_neg (by decide +kernel)]; exact ⟨rfl, rfl⟩))
    (fun os started H enc _ => lifted os started H enc)
theorem card : Rows.ShadowBackCardSaid :=
  Claim7.holds_tied_plain_at .later [] [.data] true (true, "979bcd4b5e59f6cd4e5fd9cc72609fc7cce4b3df3e2b5c7c49de09907c292303") false
    over (fun _ h => by cases h) (by kernel_rfl) (fun _ h => by cases h) shadowBack_row_tie rfl ⟨rfl, rfl⟩ (by kernel_rfl) rfl
    (fun f fn hf hfn => by
      obtain rfl : f = 5 := Option.some.inj ((show Tryd.prog.funcNamed "rickyard/rickyardlaw19.ShadowBack" = some 5 by kernel_rfl).symm.trans hf) |>.symm
      obtain rfl : fn = Tryd.f5 := (Option.some.inj (Tryd.func5.symm.trans hfn)).symm
      exact ⟨by kernel_rfl, fun j t ht => by
        rw [Tryd.params5] at ht
        have hm : t ∈ [49, 49] := by simpa using Array.mem_of_getElem? ht
        have hall : ([49, 49].all fun u => !Tryd.prog.wantsStandIn u) = true := by kernel_rfl
        exact (show Tryd.prog.wantsStandIn t = false by simpa using List.all_eq_true.1 hall t hm)⟩)
    (by kernel_rfl)
end Go.Proofs.YtdifnahlheogdaaDoor.shadowBack
namespace Go.Proofs.YtdifnahlheogdaaDoor
theorem shadowBack_holds : Rows.ShadowBackCardSaid := shadowBack.card
#print axioms shadowBack_holds
end Go.Proofs.YtdifnahlheogdaaDoor
