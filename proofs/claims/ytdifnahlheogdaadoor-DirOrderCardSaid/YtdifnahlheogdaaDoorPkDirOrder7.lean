/- DirOrder: texts merged, part 7 of 7. The last part proves that the law DirOrder holds for every input. -/
import Derived.Test.YtdifnahlheogdaaDoorPkDirOrder6
import Derived.Test.YtdifnahlheogdaaDoorCards
import Derived.Test.YtdifnahlheogdaaDoorTie
import Derived.OpenShut
import Derived.ProofKit
import Derived.ChangeOld
import Derived.Below
import Derived.SizedLaws
import Derived.SevenTiedAt
set_option maxRecDepth 100000
set_option maxHeartbeats 4000000
set_option linter.unusedVariables false
set_option linter.unusedSimpArgs false
set_option linter.unusedSectionVars false
namespace Go.Proofs.YtdifnahlheogdaaDoor.Pure
open Go Go.Xw Go.Yw
theorem may_eq {fu : Nat} {d : Dev} {k m : Int} : pmem_Device_may.f fu d k m = some (mayI d.off k m) := by
  unfold pmem_Device_may.f mayI
  cases d.off
  · simp only [Bool.false_eq_true, if_false]
    by_cases h1 : k < 0
    · simp [h1]
    · by_cases h2 : k ≥ m <;> simp [h1, h2]
  · simp
theorem may_zero {b : Bool} {k m : Int} : mayI b k m = 0 ↔ b = false ∧ 0 ≤ k ∧ k < m := by
  unfold mayI
  cases b
  · simp only [Bool.false_eq_true, if_false]
    split <;> simp <;> omega
  · simp
theorem store_eq {fu n : Nat} {B k w : Int} {d : Dev} (h : DevOk n B d) (hB : B < 9223372036854775807) (hw : U64 w) : pmem_Device_Store.f fu d k w = some (storeD d k w) := by
  unfold pmem_Device_Store.f storeD
  rw [may_eq]
  simp only [Option.bind_some]
  by_cases e : mayI d.off k (d.cells.length : Int) = 0
  · obtain ⟨ho, h0, h1⟩ := may_zero.1 e
    rw [decide_eq_true e, if_pos e, if_neg (by decide), if_pos ⟨h0, h1⟩]
    obtain ⟨j, rfl⟩ : ∃ j : Nat, k = (j : Int) := ⟨k.toNat, by omega⟩
    have e1 : (updR d.cells (j : Int) fun c => (⟨c.lasts, w, c.sent, c.flushed⟩ : S_pmem_cell)) = putC (j : Int) w d.cells := by
      rw [updR_nat]
      refine (set_upd (fun c => ⟨c.lasts, w, c.sent, c.flushed⟩) (by omega)).trans ?_
      apply List.ext_getElem (by simp [putC])
      intro i h1 h2
      simp only [putC, List.getElem_mapIdx, Int.natCast_inj]
    have e2 : pmem_Device_step.f fu (⟨putC (j : Int) w d.cells, d.plan, d.off, d.armed, d.left, d.steps⟩ : S_pmem_Device) = some (tick (withC d (putC (j : Int) w d.cells))) := by
      refine dstep_eq (with_ok h (by simp [putC, h.len]) (mapIdx_ok h.val fun i c hc => ?_)) hB ho
      split
      · exact ⟨hc.1, hw, hc.2.2⟩
      · exact hc
    rw [e1, e2]
    rfl
  · rw [decide_eq_false e, if_neg e, if_pos (by decide)]
theorem load_eq {fu : Nat} {k : Int} {d : Dev} : pmem_Device_Load.f fu d k = some (loadD d k) := by
  unfold pmem_Device_Load.f loadD
  rw [may_eq]
  simp only [Option.bind_some]
  by_cases e : mayI d.off k (d.cells.length : Int) = 0
  · obtain ⟨ho, h0, h1⟩ := may_zero.1 e
    rw [decide_eq_true e, if_pos e, if_neg (by decide), if_pos ⟨h0, h1⟩]
  · rw [decide_eq_false e, if_neg e, if_pos (by decide)]
theorem lines_eq {fu : Nat} {d : Dev} (h : d.cells.length ≤ 1000000) : pmem_Device_Lines.f fu d = some ((d.cells.length / 8 : Nat) : Int) := by
  unfold pmem_Device_Lines.f
  rw [Int.tdiv_eq_ediv_of_nonneg (by omega), w64 (by omega) (by omega)]
  congr 1
theorem send_loop {fu : Nat} {cs : List Cell} {k : Nat} (h : 8 * k + 8 ≤ cs.length) (hl : cs.length ≤ 1000000) (hf : 8 < fu) : loopM (pmem_Device_Flush.s0 fu (k : Int)) fu (0, cs) = some (sendL (k : Int) cs) := by
  refine loopM_run (S := fun j => ((j : Int), upd (fun _ c => sendC c) (8 * k) j cs)) 8 (by rw [upd_zero]; rfl) ?_ ?_ hf
  · intro j hj
    unfold pmem_Device_Flush.s0
    have w1 : IntKind.i64.wrap ((k : Int) * 8) = ((8 * k : Nat) : Int) := by rw [w64 (by omega) (by omega)]; omega
    have w2 : IntKind.i64.wrap (((8 * k : Nat) : Int) + (j : Int)) = ((8 * k + j : Nat) : Int) := by rw [w64 (by omega) (by omega)]; omega
    have w3 : IntKind.i64.wrap ((j : Int) + 1) = ((j + 1 : Nat) : Int) := by rw [w64 (by omega) (by omega)]; omega
    have hlt : 8 * k + j < (upd (fun _ c => sendC c) (8 * k) j cs).length := by rw [upd_len]; omega
    have c1 : 0 ≤ ((8 * k + j : Nat) : Int) ∧ ((8 * k + j : Nat) : Int) < ((upd (fun _ c => sendC c) (8 * k) j cs).length : Int) := by omega
    have c2 : (j : Int) < 8 := by omega
    simp only [w1, w2, w3]
    rw [decide_eq_true c2, if_pos rfl, if_pos c1]
    simp only [updR_nat, ix_set hlt, List.set_set]
    rw [ix_nat hlt, upd_next _ _ _ _ (by omega)]
    refine congrArg (fun z => some (Sum.inr (((j + 1 : Nat) : Int), z))) ?_
    exact upd_set (fun _ c => sendC c) (8 * k) j cs (by omega)
  · unfold pmem_Device_Flush.s0
    rw [decide_eq_false (show ¬ (((8 : Nat) : Int) < 8) by decide), if_neg (by decide)]
    refine congrArg (fun z => some (Sum.inl z)) ?_
    apply List.ext_getElem (by simp [upd, sendL])
    intro i h1 h2
    simp only [upd, sendL, List.getElem_mapIdx]
    by_cases c : 8 * k ≤ i ∧ i < 8 * k + 8
    · rw [if_pos c, if_pos (by omega)]
    · rw [if_neg c, if_neg (by omega)]
theorem sendL_ok {cs : List Cell} {k : Int} (h : ∀ c ∈ cs, okC c) : ∀ c ∈ sendL k cs, okC c := by
  refine mapIdx_ok h fun i c hc => ?_
  split
  · exact ⟨hc.1, hc.2.1, hc.2.1⟩
  · exact hc
theorem flush_eq {fu n : Nat} {B k : Int} {d : Dev} (h : DevOk n B d) (hB : B < 9223372036854775807) (hn : n ≤ 1000000) (hf : 8 < fu) : pmem_Device_Flush.f fu d k = some (flushD d k) := by
  unfold pmem_Device_Flush.f flushD
  have hl : d.cells.length ≤ 1000000 := by rw [h.len]; exact hn
  rw [lines_eq hl]
  simp only [Option.bind_some]
  rw [may_eq]
  simp only [Option.bind_some]
  by_cases e : mayI d.off k ((d.cells.length / 8 : Nat) : Int) = 0
  · obtain ⟨ho, h0, h1⟩ := may_zero.1 e
    rw [decide_eq_true e, if_pos e, if_neg (by decide)]
    obtain ⟨j, rfl⟩ : ∃ j : Nat, k = (j : Int) := ⟨k.toNat, by omega⟩
    rw [send_loop (by omega) hl hf]
    have e2 : pmem_Device_step.f fu (⟨sendL (j : Int) d.cells, d.plan, d.off, d.armed, d.left, d.steps⟩ : S_pmem_Device) = some (tick (withC d (sendL (j : Int) d.cells))) :=
      dstep_eq (with_ok h (by simp [sendL, h.len]) (sendL_ok h.val)) hB ho
    simp only [Option.bind_some]
    rw [e2]
    rfl
  · rw [decide_eq_false e, if_neg e, if_pos (by decide)]
def octs (ws : List Int) : List Int := ws.flatMap fun w => lay w.toNat 8
theorem octs_len : ∀ ws : List Int, (octs ws).length = 8 * ws.length
  | [] => rfl
  | w :: ws => by
    have := octs_len ws
    simp only [octs, List.flatMap_cons, List.length_append, lay_len, List.length_cons] at *
    omega
theorem octs_append (a b : List Int) : octs (a ++ b) = octs a ++ octs b := by simp [octs]
theorem octs_one (w : Int) : octs [w] = lay w.toNat 8 := by simp [octs]
theorem octets_eq {fu : Nat} {ws : List Int} (hv : ∀ w ∈ ws, U64 w) (hl : ws.length ≤ 100000) (hf : ws.length + 8 < fu) : octet_Octets.f fu ws = some (octs ws) := by
  unfold octet_Octets.f
  have : loopM (octet_Octets.s0 fu ws) fu ([], 0) = some (octs ws) := by
    refine loopM_run (S := fun j => (octs (ws.take j), (j : Int))) ws.length (by simp [octs]) ?_ ?_ (by omega)
    · intro j hj
      unfold octet_Octets.s0
      have w3 : IntKind.i64.wrap ((j : Int) + 1) = ((j + 1 : Nat) : Int) := by rw [w64 (by omega) (by omega)]; omega
      have c1 : 0 ≤ (j : Int) ∧ (j : Int) < (ws.length : Int) := by omega
      have hu := hv _ (List.getElem_mem hj)
      obtain ⟨v, hv'⟩ : ∃ v : Nat, ws[j] = (v : Int) := ⟨ws[j].toNat, by unfold U64 at hu; omega⟩
      simp only [w3]
      rw [decide_eq_true c1.2, if_pos rfl, if_pos c1, ix_nat hj, hv', show octet_Lay.f fu (v : Int) 8 = some (lay v 8) from olay_eq (n := 8) (by omega) (by omega)]
      simp only [Option.bind_some]
      rw [if_pos (by rw [octs_len, lay_len, List.length_take]; exact Nat.le_trans (by omega : _ ≤ 1000008) (by decide)), take_next hj, octs_append, octs_one, hv', Int.toNat_natCast]
    · unfold octet_Octets.s0
      rw [decide_eq_false (show ¬ ((ws.length : Int) < (ws.length : Int)) by omega), if_neg (by decide), List.take_length]
  rw [this]
  rfl
def newD (n : Nat) : Dev := ⟨List.replicate n ⟨0, 0, 0, false⟩, ⟨[], 0⟩, false, false, 0, 0⟩
theorem new_eq {fu : Nat} {k : Nat} (hk : k ≤ 4096) : pmem_New.f fu (k : Int) = some (some (newD (8 * k)), 0) := by
  unfold pmem_New.f
  have h1 : ¬ (k : Int) < 0 := by omega
  have h2 : ¬ (k : Int) > 4096 := by omega
  have w : IntKind.i64.wrap ((k : Int) * 8) = ((8 * k : Nat) : Int) := by rw [w64 (by omega) (by omega)]; omega
  rw [decide_eq_false h1, decide_eq_false h2, if_neg (by decide), if_neg (by decide), w, Int.toNat_natCast, if_pos ⟨by omega, Nat.le_trans (by omega : _ ≤ 100000) (by decide)⟩]
  rfl
theorem newD_ok (n : Nat) : DevOk n 0 (newD n) := by
  refine ⟨by simp [newD], fun c hc => ?_, fun h => absurd rfl h, by simp [newD], fun h => (by cases h), fun _ => rfl, by simp [newD]⟩
  rw [List.eq_of_mem_replicate hc]
  unfold okC U64
  simp
theorem store_ok {n : Nat} {B k w : Int} {d : Dev} (h : DevOk n B d) (hw : U64 w) : DevOk n (B + 1) (storeD d k w).2 := by
  unfold storeD
  split
  · rename_i e
    refine tick_ok (with_ok h (by simp [putC, h.len]) (mapIdx_ok h.val fun i c hc => ?_)) (may_zero.1 e).1
    split
    · exact ⟨hc.1, hw, hc.2.2⟩
    · exact hc
  · exact h.up (by omega)
theorem flush_ok {n : Nat} {B k : Int} {d : Dev} (h : DevOk n B d) : DevOk n (B + 1) (flushD d k).2 := by
  unfold flushD
  split
  · rename_i e
    exact tick_ok (with_ok h (by simp [sendL, h.len]) (sendL_ok h.val)) (may_zero.1 e).1
  · exact h.up (by omega)
theorem read_long {fu : Nat} {l : List Int} (h : 8 ≤ l.length) : octet_Read.f fu l = octet_Read.f fu (l.take 8) := by
  have h8 : (l.take 8).length = 8 := by rw [List.length_take]; omega
  have e1 : mnI (l.length : Int) 8 = 8 := by unfold mnI; split <;> omega
  have e2 : mnI ((l.take 8).length : Int) 8 = 8 := by rw [h8]; rfl
  have e3 : cut l 0 8 = l.take 8 := rfl
  have e4 : cut (l.take 8) 0 8 = l.take 8 := by
    unfold cut
    rw [List.take_of_length_le (by rw [h8]; decide)]
    rfl
  have es : octet_Read.s0 fu l = octet_Read.s0 fu (l.take 8) := by
    unfold octet_Read.s0
    rw [e1, e2, e3, e4]
  unfold octet_Read.f
  rw [e1, e2, es, if_pos (by omega), if_pos (by rw [h8]; decide)]
def wordsU (l : List Int) (j : Nat) : List Int := (List.range j).map fun i => ((num ((l.drop (8 * i)).take 8) : Nat) : Int)
theorem wordsU_succ (l : List Int) (j : Nat) : wordsU l (j + 1) = wordsU l j ++ [((num ((l.drop (8 * j)).take 8) : Nat) : Int)] := by
  simp [wordsU, List.range_succ]
theorem wordsU_len (l : List Int) (j : Nat) : (wordsU l j).length = j := by simp [wordsU]
theorem chunk_len {l : List Int} {j : Nat} (h : 8 * j + 8 ≤ l.length) : ((l.drop (8 * j)).take 8).length = 8 := by
  rw [List.length_take, List.length_drop]
  omega
theorem octs_words {l : List Int} (hb : Bytes l) : ∀ j, 8 * j ≤ l.length → octs (wordsU l j) = l.take (8 * j)
  | 0, _ => by simp [wordsU, octs]
  | j + 1, h => by
    have hc : ((l.drop (8 * j)).take 8).length = 8 := chunk_len (by omega)
    have hl := lay_num ((hb.drop (8 * j)).take 8)
    rw [hc] at hl
    rw [wordsU_succ, octs_append, octs_one, octs_words hb j (by omega), Int.toNat_natCast, hl, show 8 * (j + 1) = 8 * j + 8 from by omega, List.take_add]
theorem words_U64 {l : List Int} (hb : Bytes l) {n : Nat} : ∀ w ∈ wordsU l n, U64 w := by
  intro w hw
  obtain ⟨i, _, rfl⟩ := List.mem_map.1 hw
  have := num_lt8 ((hb.drop (8 * i)).take 8) (by rw [List.length_take]; omega)
  unfold U64
  omega
theorem words_eq {fu n : Nat} {l : List Int} (hb : Bytes l) (hl : l.length = 8 * n) (hn : n ≤ 100000) (hf : n + 8 < fu) : octet_Words.f fu l = some (wordsU l n) := by
  unfold octet_Words.f
  have : loopM (octet_Words.s0 fu) fu (l, []) = some (wordsU l n) := by
    refine loopM_run (S := fun j => (l.drop (8 * j), wordsU l j)) n (by simp [wordsU]) ?_ ?_ (by omega)
    · intro j hj
      unfold octet_Words.s0
      have hdl : (l.drop (8 * j)).length = 8 * n - 8 * j := by rw [List.length_drop, hl]
      have c1 : ((l.drop (8 * j)).length : Int) ≥ 8 := by omega
      have hc : ((l.drop (8 * j)).take 8).length = 8 := chunk_len (by omega)
      have hr : octet_Read.f fu (l.drop (8 * j)) = some ((num ((l.drop (8 * j)).take 8) : Nat) : Int) := by
        rw [read_long (by omega)]
        exact read_eq ((hb.drop _).take _) (by omega) (by omega)
      have e1 : cut (l.drop (8 * j)) 8 ((l.drop (8 * j)).length : Int) = l.drop (8 * (j + 1)) := by
        unfold cut
        rw [Int.toNat_natCast, List.take_length, show Int.toNat 8 = 8 from rfl, List.drop_drop]
        congr 1
      simp only [e1]
      rw [decide_eq_true c1, if_pos rfl, hr]
      simp only [Option.bind_some]
      rw [if_pos (by rw [wordsU_len]; exact Nat.le_trans (by simp only [List.length_cons, List.length_nil]; omega : _ ≤ 100001) (by decide)), if_pos c1, wordsU_succ]
    · unfold octet_Words.s0
      have : ¬ (((l.drop (8 * n)).length : Int) ≥ 8) := by rw [List.length_drop]; omega
      simp only [this, decide_false, Bool.false_eq_true, if_false]
  rw [this]
  rfl
def putAll : Dev → Int → List Int → Int × Dev
  | d, _, [] => (0, d)
  | d, k, w :: ws => if (storeD d k w).1 = 0 then putAll (storeD d k w).2 (k + 1) ws else storeD d k w
def sendD (d : Dev) (line first : Int) (ws : List Int) : Int × Dev := if (putAll d (8 * line + first) ws).1 = 0 then flushD (putAll d (8 * line + first) ws).2 line else putAll d (8 * line + first) ws
def inL (d : Dev) (line : Int) : Prop := 0 ≤ line ∧ line < ((d.cells.length / 8 : Nat) : Int)
instance (d : Dev) (line : Int) : Decidable (inL d line) := inferInstanceAs (Decidable (_ ∧ _))
def writeD (d : Dev) (line : Int) (b : List Int) : Int × Dev := if inL d line ∧ b.length = 64 then sendD d line 0 (wordsU b 8) else (2, d)
def lineC (d : Dev) (line : Int) : List Int := (List.range 8).map fun (i : Nat) => (ix d.cells (8 * line + (i : Int))).stored
def readD (d : Dev) (line : Int) : List Int × Int := if inL d line then if d.off = true then ([], 3) else (octs (lineC d line), 0) else ([], 2)
theorem put_ok {n : Nat} : ∀ {ws : List Int} {B k : Int} {d : Dev} (h : DevOk n B d) (hw : ∀ w ∈ ws, U64 w), DevOk n (B + (ws.length : Int)) (putAll d k ws).2
  | [], B, k, d, h, _ => h.up (by simp)
  | w :: ws, B, k, d, h, hw => by
    have h1 := store_ok (k := k) h (hw w (by simp))
    unfold putAll
    split
    · exact (put_ok h1 fun x hx => hw x (by simp [hx])).up (by simp only [List.length_cons]; omega)
    · exact h1.up (by simp only [List.length_cons]; omega)
theorem send_ok {n : Nat} {ws : List Int} {B k i : Int} {d : Dev} (h : DevOk n B d) (hw : ∀ w ∈ ws, U64 w) : DevOk n (B + (ws.length : Int) + 1) (sendD d k i ws).2 := by
  have h1 := put_ok (k := 8 * k + i) h hw
  unfold sendD
  split
  · exact flush_ok h1
  · exact h1.up (by omega)
theorem store_loop {fu n : Nat} {line first : Int} {ws : List Int} (hn : n ≤ 100000) (hw : ∀ w ∈ ws, U64 w) (hl : ws.length ≤ 1000) (hline : 0 ≤ line ∧ line ≤ 100000) (hfirst : 0 ≤ first ∧ first ≤ 1000) : ∀ (r j : Nat) (B : Int) (d : Dev) (k : Nat), j + r = ws.length → DevOk n B d → B + (r : Int) < 9223372036854775807 → r < k →
    loopM (press_store.s0 fu line first ws) k ((j : Int), d) = some (if (putAll d (8 * line + first + (j : Int)) (ws.drop j)).1 = 0 then .inr (putAll d (8 * line + first + (j : Int)) (ws.drop j)).2 else .inl (putAll d (8 * line + first + (j : Int)) (ws.drop j)))
  | r, j, B, d, 0, hj, h, hB, hk => by omega
  | 0, j, B, d, k + 1, hj, h, hB, hk => by
    unfold loopM
    have : j = ws.length := by omega
    subst this
    unfold press_store.s0
    rw [decide_eq_false (show ¬ ((ws.length : Int) < (ws.length : Int)) by omega), if_neg (by decide), List.drop_of_length_le (Nat.le_refl _)]
    rfl
  | r + 1, j, B, d, k + 1, hj, h, hB, hk => by
    have hjl : j < ws.length := by omega
    have hu := hw _ (List.getElem_mem hjl)
    have hst : pmem_Device_Store.f fu d (8 * line + first + (j : Int)) ws[j] = some (storeD d (8 * line + first + (j : Int)) ws[j]) := store_eq h (by omega) hu
    have w1 : IntKind.i64.wrap (line * 8) = 8 * line := by rw [w64 (by omega) (by omega)]; omega
    have w2 : IntKind.i64.wrap (8 * line + first) = 8 * line + first := w64 (by omega) (by omega)
    have w3 : IntKind.i64.wrap (8 * line + first + (j : Int)) = 8 * line + first + (j : Int) := w64 (by omega) (by omega)
    have hd : ws.drop j = ws[j] :: ws.drop (j + 1) := List.drop_eq_getElem_cons hjl
    unfold loopM
    have hs : press_store.s0 fu line first ws ((j : Int), d) = some (if (storeD d (8 * line + first + (j : Int)) ws[j]).1 = 0 then .inr (((j + 1 : Nat) : Int), (storeD d (8 * line + first + (j : Int)) ws[j]).2) else .inl (.inl (storeD d (8 * line + first + (j : Int)) ws[j]))) := by
      unfold press_store.s0
      simp only [w1, w2, w3]
      rw [decide_eq_true (show (j : Int) < (ws.length : Int) by omega), if_pos rfl, if_pos (by omega), ix_nat hjl, hst, next64 hjl (by omega)]
      simp only [Option.bind_some]
      by_cases e : (storeD d (8 * line + first + (j : Int)) ws[j]).1 = 0
      · rw [decide_eq_true e, if_neg (by decide), if_pos e]
      · rw [decide_eq_false e, if_pos (by decide), if_neg e]
    rw [hs, hd]
    unfold putAll
    by_cases e : (storeD d (8 * line + first + (j : Int)) ws[j]).1 = 0
    · have ih := store_loop (fu := fu) (n := n) (line := line) (first := first) hn hw hl hline hfirst r (j + 1) (B + 1) (storeD d (8 * line + first + (j : Int)) ws[j]).2 k (by omega) (store_ok h hu) (by omega) (by omega)
      rw [show 8 * line + first + ((j + 1 : Nat) : Int) = 8 * line + first + (j : Int) + 1 from by omega] at ih
      rw [if_pos e, if_pos e]
      exact ih
    · rw [if_neg e, if_neg e]
      simp only [e, if_false]
theorem send_eq {fu n : Nat} {B line first : Int} {ws : List Int} {d : Dev} (h : DevOk n B d) (hB : B + (ws.length : Int) + 1 < 9223372036854775807) (hn : n ≤ 100000) (hw : ∀ w ∈ ws, U64 w) (hl : ws.length ≤ 1000) (hline : 0 ≤ line ∧ line ≤ 100000) (hfirst : 0 ≤ first ∧ first ≤ 1000) (hf : 2000 < fu) : press_store.f fu d line first ws = some (sendD d line first ws) := by
  unfold press_store.f sendD
  have h1 := store_loop (fu := fu) hn hw hl hline hfirst ws.length 0 B d fu (by omega) h (by omega) (by omega)
  simp only [List.drop_zero, Int.natCast_zero, Int.add_zero] at h1
  have h2 := put_ok (k := 8 * line + first) h hw
  rw [h1]
  by_cases e : (putAll d (8 * line + first) ws).1 = 0
  · rw [if_pos e, if_pos e]
    simp only [Option.bind_some]
    rw [flush_eq h2 (by omega) (by omega) (by omega)]
    rfl
  · rw [if_neg e, if_neg e]
    rfl
theorem pmay_eq {fu : Nat} {d : Dev} {k : Int} (hl : d.cells.length ≤ 1000000) : press_may.f fu d k = some (if inL d k then 0 else 2) := by
  unfold press_may.f
  rw [lines_eq hl]
  by_cases h1 : k < 0
  · rw [decide_eq_true h1, if_neg (show ¬ inL d k from fun q => by have := q.1; omega)]
    rfl
  · rw [decide_eq_false h1, if_neg (by decide)]
    simp only [Option.bind_some]
    by_cases h2 : k ≥ ((d.cells.length / 8 : Nat) : Int)
    · rw [decide_eq_true h2, if_neg (show ¬ inL d k from fun q => by have := q.2; omega)]
      rfl
    · rw [decide_eq_false h2, if_pos (show inL d k from ⟨by omega, by omega⟩)]
      rfl
theorem write_eq {fu n : Nat} {B line : Int} {b : List Int} {d : Dev} (h : DevOk n B d) (hB : B + 9 < 9223372036854775807) (hn : n ≤ 100000) (hb : Bytes b) (hf : 2000 < fu) : press_Write.f fu d line b = some (writeD d line b) := by
  unfold press_Write.f writeD
  have hlen := h.len
  rw [pmay_eq (by omega)]
  simp only [Option.bind_some]
  by_cases hi : inL d line
  · rw [if_pos hi, if_neg (by decide)]
    by_cases hl : b.length = 64
    · have hw := words_U64 (n := 8) hb
      unfold inL at hi
      rw [decide_eq_true (show (b.length : Int) = 64 by omega), if_neg (by decide), if_pos ⟨hi, hl⟩, words_eq (n := 8) hb (by omega) (by decide) (by omega)]
      simp only [Option.bind_some]
      rw [send_eq h (by rw [wordsU_len]; omega) hn hw (by rw [wordsU_len]; decide) (by omega) (by decide) hf]
      rfl
    · rw [decide_eq_false (show ¬ (b.length : Int) = 64 by omega), if_pos (by decide), if_neg (fun q => hl q.2)]
  · rw [if_neg hi, if_pos (by decide), if_neg (fun q => hi q.1)]
theorem arr_set8 (a : Arr 8 Int) (j : Nat) (v : Int) (hj : j < 8) (f : Nat → Int) (hf : ∀ i, i < j → ix a.l (i : Int) = f i) (hv : v = f j) : ∀ i, i < j + 1 → ix (Arr.set a (j : Int) v).l (i : Int) = f i := by
  intro i hi
  have hl := a.h
  have e : (Arr.set a (j : Int) v).l = a.l.set j v := by simp [Arr.set]
  rw [e, ix_nat (by rw [List.length_set]; omega), List.getElem_set]
  by_cases h : j = i
  · subst h
    rw [if_pos rfl, hv]
  · rw [if_neg h, ← ix_nat (by omega)]
    exact hf i (by omega)
theorem read_dev {fu n : Nat} {B line : Int} {d : Dev} (h : DevOk n B d) (hn : n ≤ 100000) (hf : 2000 < fu) : press_Read.f fu d line = some (readD d line) := by
  unfold press_Read.f readD
  have hlen := h.len
  rw [pmay_eq (by omega)]
  simp only [Option.bind_some]
  by_cases hi : inL d line
  · rw [if_pos hi, if_neg (by decide), if_pos hi]
    have hin := hi
    unfold inL at hin
    have w1 : IntKind.i64.wrap (line * 8) = 8 * line := by rw [w64 (by omega) (by omega)]; omega
    have hld : ∀ j : Nat, j < 8 → pmem_Device_Load.f fu d (8 * line + (j : Int)) = some (if d.off = true then (0, 3) else ((ix d.cells (8 * line + (j : Int))).stored, 0)) := by
      intro j hj
      rw [load_eq]
      unfold loadD
      cases ho : d.off
      · rw [if_pos (may_zero.2 ⟨rfl, by omega, by omega⟩), if_neg (by decide)]
      · have : mayI true (8 * line + (j : Int)) (d.cells.length : Int) = 3 := rfl
        rw [this, if_neg (by decide), if_pos rfl]
    cases ho : d.off
    · rw [if_neg (by decide)]
      have loop : ∃ e, loopM (press_Read.s0 fu d line) fu (0, Arr.rep 8 (0 : Int)) = some e ∧ ∃ a : Arr 8 Int, e = .inr a ∧ ∀ i : Nat, i < 8 → ix a.l (i : Int) = (ix d.cells (8 * line + (i : Int))).stored := by
        refine loopM_inv (fun j s => ∃ a : Arr 8 Int, s = ((j : Int), a) ∧ ∀ i : Nat, i < j → ix a.l (i : Int) = (ix d.cells (8 * line + (i : Int))).stored) 8 _ ?_ ?_ (j := 0) ⟨_, rfl, fun i hi => by omega⟩ (by omega) (by omega)
        · rintro j _ hj ⟨a, rfl, ha⟩
          unfold press_Read.s0
          have w3 : IntKind.i64.wrap (8 * line + (j : Int)) = 8 * line + (j : Int) := w64 (by omega) (by omega)
          simp only [w1, w3]
          rw [decide_eq_true (show (j : Int) < 8 by omega), if_pos rfl, hld j hj, ho, if_neg (by decide), next64 hj (by decide)]
          simp only [Option.bind_some, decide_true, Bool.not_true, Bool.false_eq_true, if_false]
          rw [if_pos (by omega)]
          exact ⟨_, rfl, _, rfl, arr_set8 a j _ hj (fun i => (ix d.cells (8 * line + (i : Int))).stored) ha rfl⟩
        · rintro _ ⟨a, rfl, ha⟩
          unfold press_Read.s0
          rw [decide_eq_false (show ¬ (((8 : Nat) : Int) < 8) by decide), if_neg (by decide)]
          exact ⟨_, rfl, a, rfl, ha⟩
      obtain ⟨e, h1, a, rfl, ha⟩ := loop
      have hal : a.l = lineC d line := by
        apply List.ext_getElem (by rw [a.h]; simp [lineC])
        intro i h1 h2
        have : i < 8 := by rw [a.h] at h1; exact h1
        rw [← ix_nat h1, ha i this]
        simp [lineC]
      have hu : ∀ w ∈ lineC d line, U64 w := by
        intro w hw
        obtain ⟨i, hi8, rfl⟩ := List.mem_map.1 hw
        have := List.mem_range.1 hi8
        obtain ⟨p, hp⟩ : ∃ p : Nat, 8 * line + (i : Int) = (p : Int) := ⟨(8 * line + (i : Int)).toNat, by omega⟩
        rw [hp, ix_nat (by omega)]
        exact (h.val _ (List.getElem_mem _)).2.1
      rw [h1]
      simp only [Option.bind_some]
      rw [hal, octets_eq hu (by simp [lineC]) (by simp [lineC]; omega)]
      rfl
    · rw [if_pos rfl]
      have loop : loopM (press_Read.s0 fu d line) fu (0, Arr.rep 8 (0 : Int)) = some (.inl ([], 3)) := by
        obtain ⟨k, rfl⟩ : ∃ k, fu = k + 1 := ⟨fu - 1, by omega⟩
        unfold loopM
        have := hld 0 (by decide)
        rw [ho, if_pos rfl] at this
        unfold press_Read.s0
        have w3 : IntKind.i64.wrap (8 * line + 0) = 8 * line + ((0 : Nat) : Int) := by rw [w64 (by omega) (by omega)]; rfl
        simp only [w1, w3]
        rw [this]
        rfl
      rw [loop]
      rfl
  · rw [if_neg hi, if_pos (by decide), if_neg hi]
noncomputable def SO (n : Nat) (d : Dev) (a : AA) : S_shadow_Store := ⟨d, a.of n⟩
def writtenS (d : Dev) (a : AA) (k : Int) (b : List Int) : Int × Int × Dev × AA := if (writeD d k b).1 = 0 then (k, 0, (writeD d k b).2, a) else (0, (writeD d k b).1, (writeD d k b).2, a)
def makeS (n : Nat) (d : Dev) (a : AA) (b : List Int) : Int × Int × Dev × AA := if b.length = 64 then if (a.take n).2.1 = 0 then writtenS d (a.take n).2.2 (a.take n).1 b else (0, (a.take n).2.1, d, (a.take n).2.2) else (0, 2, d, a)
def turnS (n : Nat) (d : Dev) (a : AA) (k : Int) (b : List Int) : Int × Int × Dev × AA :=
  if b.length = 64 ∧ hasI n a.w k = true then
    if a.own n k = true then writtenS d a k b
    else if (makeS n d a b).2.1 = 0 then ((makeS n d a b).1, ((makeS n d a b).2.2.2.give n k).1, (makeS n d a b).2.2.1, ((makeS n d a b).2.2.2.give n k).2) else (0, (makeS n d a b).2.1, (makeS n d a b).2.2.1, (makeS n d a b).2.2.2)
  else (0, 2, d, a)
theorem write_dev {m : Nat} {B line : Int} {b : List Int} {d : Dev} (h : DevOk m B d) (hb : Bytes b) : DevOk m (B + 9) (writeD d line b).2 := by
  unfold writeD
  split
  · have := send_ok (k := line) (i := 0) h (words_U64 (n := 8) hb)
    exact this.up (by rw [wordsU_len]; omega)
  · exact h.up (by omega)
theorem written_eq {fu n m : Nat} {B k : Int} {b : List Int} {d : Dev} {a : AA} (h : DevOk m B d) (hB : B + 9 < 9223372036854775807) (hm : m ≤ 100000) (hb : Bytes b) (hf : 2000 < fu) : shadow_Store_written.f fu (SO n d a) k b = some ((writtenS d a k b).1, (writtenS d a k b).2.1, SO n (writtenS d a k b).2.2.1 (writtenS d a k b).2.2.2) := by
  unfold shadow_Store_written.f writtenS
  rw [show (SO n d a).device = d from rfl, write_eq h hB hm hb hf]
  simp only [Option.bind_some]
  by_cases e : (writeD d k b).1 = 0
  · rw [decide_eq_true e, if_neg (by decide), if_pos e]
    rfl
  · rw [decide_eq_false e, if_pos (by decide), if_neg e]
    rfl
theorem written_dev {m : Nat} {B k : Int} {b : List Int} {d : Dev} {a : AA} (h : DevOk m B d) (hb : Bytes b) : DevOk m (B + 9) (writtenS d a k b).2.2.1 ∧ (writtenS d a k b).2.2.2 = a := by
  have := write_dev (line := k) h hb
  unfold writtenS
  split <;> exact ⟨this, rfl⟩
theorem make_eq {fu n m : Nat} {B : Int} {b : List Int} {d : Dev} {a : AA} (h : DevOk m B d) (hB : B + 9 < 9223372036854775807) (hm : m ≤ 100000) (hb : Bytes b) (hf : 2000 < fu) (ha : AOk n a) (hn : n ≤ 90000) (hfn : n + 64 < fu) : shadow_Store_Make.f fu (SO n d a) b = some ((makeS n d a b).1, (makeS n d a b).2.1, SO n (makeS n d a b).2.2.1 (makeS n d a b).2.2.2) := by
  unfold shadow_Store_Make.f makeS
  by_cases e : b.length = 64
  · rw [decide_eq_true (show (b.length : Int) = 64 by omega), if_neg (by decide), if_pos e, show (SO n d a).blocks = a.of n from rfl, take_eq hn hfn ha]
    simp only [Option.bind_some]
    by_cases e2 : (a.take n).2.1 = 0
    · rw [decide_eq_true e2, if_neg (by decide), if_pos e2, show (⟨(SO n d a).device, (a.take n).2.2.of n⟩ : S_shadow_Store) = SO n d (a.take n).2.2 from rfl, written_eq h hB hm hb hf]
      rfl
    · rw [decide_eq_false e2, if_pos (by decide), if_neg e2]
      rfl
  · rw [decide_eq_false (show ¬ (b.length : Int) = 64 by omega), if_pos (by decide), if_neg e]
theorem make_ok {n m : Nat} {B : Int} {b : List Int} {d : Dev} {a : AA} (h : DevOk m B d) (hb : Bytes b) (ha : AOk n a) : DevOk m (B + 9) (makeS n d a b).2.2.1 ∧ AOk n (makeS n d a b).2.2.2 := by
  have ht := take_ok ha
  unfold makeS
  split
  · split
    · obtain ⟨h1, h2⟩ := written_dev (k := (a.take n).1) (a := (a.take n).2.2) h hb
      rw [h2]
      exact ⟨h1, ht⟩
    · exact ⟨h.up (by omega), ht⟩
  · exact ⟨h.up (by omega), ha⟩
theorem turn_eq {fu n m : Nat} {B k : Int} {b : List Int} {d : Dev} {a : AA} (h : DevOk m B d) (hB : B + 9 < 9223372036854775807) (hm : m ≤ 100000) (hb : Bytes b) (hf : 2000 < fu) (ha : AOk n a) (hn : n ≤ 90000) (hfn : n + 64 < fu) : shadow_Store_Turn.f fu (SO n d a) k b = some ((turnS n d a k b).1, (turnS n d a k b).2.1, SO n (turnS n d a k b).2.2.1 (turnS n d a k b).2.2.2) := by
  unfold shadow_Store_Turn.f turnS
  by_cases e : b.length = 64
  · rw [decide_eq_true (show (b.length : Int) = 64 by omega), if_neg (by decide), show (SO n d a).blocks = a.of n from rfl, works_eq hn hfn ha]
    simp only [Option.bind_some]
    rw [has_eq (by omega)]
    simp only [Option.bind_some]
    cases hh : hasI n a.w k
    · rw [Bool.not_false, if_pos rfl, if_neg (fun q => by simp at q)]
    · rw [Bool.not_true, if_neg (by decide), if_pos ⟨e, rfl⟩, own_eq hn]
      simp only [Option.bind_some]
      cases ho : a.own n k
      · rw [if_neg (by decide), if_neg (by decide), make_eq h hB hm hb hf ha hn hfn]
        simp only [Option.bind_some]
        obtain ⟨m1, m2⟩ := make_ok (n := n) h hb ha
        by_cases e2 : (makeS n d a b).2.1 = 0
        · rw [decide_eq_true e2, if_neg (by decide), if_pos e2, show (SO n (makeS n d a b).2.2.1 (makeS n d a b).2.2.2).blocks = (makeS n d a b).2.2.2.of n from rfl, give_eq hn hfn m2]
          rfl
        · rw [decide_eq_false e2, if_pos (by decide), if_neg e2]
      · rw [if_pos rfl, if_pos rfl, written_eq h hB hm hb hf]
        rfl
  · rw [decide_eq_false (show ¬ (b.length : Int) = 64 by omega), if_pos (by decide), if_neg (fun q => e q.1)]
theorem drop_eq {fu n : Nat} {k : Int} {d : Dev} {a : AA} (ha : AOk n a) (hn : n ≤ 90000) (hfn : n + 64 < fu) : shadow_Store_Drop.f fu (SO n d a) k = some ((a.give n k).1, SO n d (a.give n k).2) := by
  unfold shadow_Store_Drop.f
  rw [show (SO n d a).blocks = a.of n from rfl, give_eq hn hfn ha]
  rfl
theorem sget_eq {fu n m : Nat} {B k : Int} {d : Dev} {a : AA} (h : DevOk m B d) (hm : m ≤ 100000) (hf : 2000 < fu) : shadow_Store_Get.f fu (SO n d a) k = some (readD d k) := by
  unfold shadow_Store_Get.f
  rw [show (SO n d a).device = d from rfl, read_dev h hm hf]
  rfl
structure Clean (d : Dev) : Prop where
  off : d.off = false
  arm : d.armed = false
  pl : d.plan.list = []
theorem tick_clean {d : Dev} (h : Clean d) : tick d = ⟨d.cells, d.plan, false, false, d.left, d.steps + 1⟩ := by
  have hp : pick d.plan = -1 := by simp [pick, h.pl]
  have hn : nextP d.plan = d.plan := by simp [nextP, h.pl]
  unfold tick
  rw [hp, hn, evict_no _ (by decide), h.arm, h.off]
  rfl
theorem clean_with {d : Dev} {cs : List Cell} (h : Clean d) : Clean (tick (withC d cs)) ∧ (tick (withC d cs)).cells = cs := by
  have h' : Clean (withC d cs) := ⟨h.off, h.arm, h.pl⟩
  rw [tick_clean h']
  exact ⟨⟨rfl, rfl, h.pl⟩, rfl⟩
theorem putC_ix {cs : List Cell} {k w : Int} {i : Nat} (hi : i < cs.length) : ix (putC k w cs) (i : Int) = if (i : Int) = k then ⟨(ix cs (i : Int)).lasts, w, (ix cs (i : Int)).sent, (ix cs (i : Int)).flushed⟩ else ix cs (i : Int) := by
  have hl : i < (putC k w cs).length := by simpa [putC] using hi
  rw [ix_nat hl, ix_nat hi]
  simp only [putC, List.getElem_mapIdx]
theorem sendL_ix {cs : List Cell} {k : Int} {i : Nat} (hi : i < cs.length) : ix (sendL k cs) (i : Int) = if 8 * k ≤ (i : Int) ∧ (i : Int) < 8 * k + 8 then sendC (ix cs (i : Int)) else ix cs (i : Int) := by
  have hl : i < (sendL k cs).length := by simpa [sendL] using hi
  rw [ix_nat hl, ix_nat hi]
  simp only [sendL, List.getElem_mapIdx]
theorem put_clean : ∀ {ws : List Int} {k : Nat} {d : Dev}, Clean d → k + ws.length ≤ d.cells.length → (putAll d (k : Int) ws).1 = 0 ∧ Clean (putAll d (k : Int) ws).2 ∧ (putAll d (k : Int) ws).2.cells.length = d.cells.length ∧
    ∀ i : Nat, i < d.cells.length → ix (putAll d (k : Int) ws).2.cells (i : Int) = if k ≤ i ∧ i < k + ws.length then ⟨(ix d.cells (i : Int)).lasts, ix ws ((i - k : Nat) : Int), (ix d.cells (i : Int)).sent, (ix d.cells (i : Int)).flushed⟩ else ix d.cells (i : Int)
  | [], k, d, h, hk => ⟨rfl, h, rfl, fun i hi => by
    have : ¬ (k ≤ i ∧ i < k + ([] : List Int).length) := fun q => by have h1 := q.1; have h2 := q.2; simp only [List.length_nil] at h2; omega
    rw [if_neg this]
    rfl⟩
  | w :: ws, k, d, h, hk => by
    have hk : k + (ws.length + 1) ≤ d.cells.length := hk
    have hm : mayI d.off (k : Int) (d.cells.length : Int) = 0 := may_zero.2 ⟨h.off, by omega, by omega⟩
    have hs : storeD d (k : Int) w = (0, tick (withC d (putC (k : Int) w d.cells))) := by
      unfold storeD
      rw [if_pos hm]
    obtain ⟨c1, c2⟩ := clean_with (cs := putC (k : Int) w d.cells) h
    have hl : (putC (k : Int) w d.cells).length = d.cells.length := by simp [putC]
    obtain ⟨i1, i2, i3, i4⟩ := put_clean (ws := ws) (k := k + 1) c1 (by rw [c2, hl]; omega)
    have e : putAll d (k : Int) (w :: ws) = putAll (tick (withC d (putC (k : Int) w d.cells))) ((k + 1 : Nat) : Int) ws := by
      conv => lhs; unfold putAll
      rw [hs]
      simp only [if_true]
      rfl
    rw [e]
    rw [c2, hl] at i3 i4
    refine ⟨i1, i2, i3, fun i hi => ?_⟩
    rw [i4 i hi, putC_ix hi]
    by_cases e1 : i = k
    · subst e1
      have e9 : i ≤ i ∧ i < i + (w :: ws).length := ⟨Nat.le_refl _, by simp only [List.length_cons]; omega⟩
      rw [if_neg (by omega), if_pos rfl, if_pos e9, Nat.sub_self]
      rfl
    · rw [if_neg (show ¬ ((i : Int) = (k : Int)) by omega)]
      by_cases e2 : k + 1 ≤ i ∧ i < k + 1 + ws.length
      · rw [if_pos e2, if_pos (by simp only [List.length_cons]; omega)]
        obtain ⟨p, hp⟩ : ∃ p, i - k = p + 1 := ⟨i - k - 1, by omega⟩
        have hp2 : i - (k + 1) = p := by omega
        have e5 : ix (w :: ws) ((p + 1 : Nat) : Int) = ix ws (p : Int) := by
          unfold ix
          rw [Int.toNat_natCast, Int.toNat_natCast]
          rfl
        rw [hp, hp2, e5]
      · rw [if_neg e2, if_neg (by simp only [List.length_cons]; omega)]
theorem write_clean {d : Dev} {line : Nat} {b : List Int} (h : Clean d) (hi : 8 * line + 8 ≤ d.cells.length) (hb : b.length = 64) : (writeD d (line : Int) b).1 = 0 ∧ Clean (writeD d (line : Int) b).2 ∧ (writeD d (line : Int) b).2.cells.length = d.cells.length ∧
    ∀ i : Nat, i < d.cells.length → ix (writeD d (line : Int) b).2.cells (i : Int) = if i / 8 = line then ⟨(ix d.cells (i : Int)).lasts, ix (wordsU b 8) ((i - 8 * line : Nat) : Int), ix (wordsU b 8) ((i - 8 * line : Nat) : Int), true⟩ else ix d.cells (i : Int) := by
  have hin : inL d (line : Int) := ⟨by omega, by omega⟩
  obtain ⟨p1, p2, p3, p4⟩ := put_clean (ws := wordsU b 8) (k := 8 * line) h (by rw [wordsU_len]; exact hi)
  have ek : 8 * (line : Int) + 0 = ((8 * line : Nat) : Int) := by omega
  have hw : writeD d (line : Int) b = flushD (putAll d ((8 * line : Nat) : Int) (wordsU b 8)).2 (line : Int) := by
    unfold writeD
    rw [if_pos ⟨hin, hb⟩]
    unfold sendD
    rw [ek, if_pos p1]
  generalize putAll d ((8 * line : Nat) : Int) (wordsU b 8) = D at *
  have hm : mayI D.2.off (line : Int) ((D.2.cells.length / 8 : Nat) : Int) = 0 := may_zero.2 ⟨p2.off, by omega, by rw [p3]; omega⟩
  have hfl : flushD D.2 (line : Int) = (0, tick (withC D.2 (sendL (line : Int) D.2.cells))) := by
    unfold flushD
    rw [if_pos hm]
  obtain ⟨c1, c2⟩ := clean_with (cs := sendL (line : Int) D.2.cells) p2
  rw [hw, hfl]
  refine ⟨rfl, c1, by rw [c2]; simpa [sendL] using p3, fun i hi' => ?_⟩
  rw [c2, sendL_ix (by rw [p3]; exact hi'), p4 i hi', wordsU_len]
  by_cases e : i / 8 = line
  · rw [if_pos (by omega), if_pos (by omega), if_pos e]
    rfl
  · rw [if_neg (by omega), if_neg (by omega), if_neg e]
theorem wordsU_octs {b : List Int} (hb : Bytes b) (hl : b.length = 64) : octs (wordsU b 8) = b := by
  rw [octs_words hb 8 (by omega), List.take_of_length_le (by omega)]
theorem read_clean {d : Dev} {line : Nat} (h : Clean d) (hi : 8 * line + 8 ≤ d.cells.length) : readD d (line : Int) = (octs (lineC d (line : Int)), 0) := by
  unfold readD
  rw [if_pos (show inL d (line : Int) from ⟨by omega, by omega⟩), h.off, if_neg (by decide)]
theorem line_congr {d e : Dev} {k : Nat} (h : ∀ i : Nat, i < 8 → ix d.cells ((8 * k + i : Nat) : Int) = ix e.cells ((8 * k + i : Nat) : Int)) : lineC d (k : Int) = lineC e (k : Int) := by
  unfold lineC
  apply List.map_congr_left
  intro i hi
  have := h i (List.mem_range.1 hi)
  rw [show 8 * (k : Int) + (i : Int) = ((8 * k + i : Nat) : Int) by omega, this]
theorem line_written {d : Dev} {line : Nat} {b : List Int} (h : Clean d) (hi : 8 * line + 8 ≤ d.cells.length) (hb : Bytes b) (hl : b.length = 64) : octs (lineC (writeD d (line : Int) b).2 (line : Int)) = b := by
  obtain ⟨_, _, _, hw⟩ := write_clean h hi hl
  have : lineC (writeD d (line : Int) b).2 (line : Int) = wordsU b 8 := by
    apply List.ext_getElem (by simp [lineC, wordsU_len])
    intro i h1 h2
    have hi8 : i < 8 := by simpa [lineC] using h1
    simp only [lineC, List.getElem_map, List.getElem_range]
    rw [show 8 * (line : Int) + (i : Int) = ((8 * line + i : Nat) : Int) by omega, hw _ (by omega), if_pos (by omega), show 8 * line + i - 8 * line = i by omega]
    exact ix_nat h2
  rw [this, wordsU_octs hb hl]
abbrev FU : Nat := 200000
def ini (n : Nat) : Nat → Bool := addF n (fun _ => false) [0, 1]
def nul (n : Nat) : Nat → Bool := addF n (fun _ => false) []
def A0 (n : Nat) (r : Int) : AA := ⟨r, ini n, nul n, ini n, ini n⟩
theorem ini_low (n : Nat) : Low n (ini n) := addF_low fun k h => by cases h
theorem nul_low (n : Nat) : Low n (nul n) := addF_low fun k h => by cases h
theorem A0_ok {n : Nat} {r : Int} (hr : 0 ≤ r ∧ r ≤ 1000) : AOk n (A0 n r) := ⟨ini_low n, nul_low n, ini_low n, ini_low n, hr⟩
theorem made_eq {fu n : Nat} {r : Int} (hn : n ≤ 3072) (hf : n + 2000 < fu) (hr : 0 ≤ r ∧ r ≤ 1000) : rickyardlaw19_Made.f fu (n : Int) r = some (some (SO n (newD (8 * n)) (A0 n r)), some (newD (8 * n)), some ((A0 n r).of n)) := by
  unfold rickyardlaw19_Made.f
  rw [new_eq (by omega)]
  simp only [Option.bind_some, Option.elim_some]
  rw [of_eq (l := [0, 1]) hn (by decide) (by simp; omega), of_eq (l := []) hn (by decide) (by simp; omega)]
  simp only [Option.bind_some]
  rw [anew_eq (by omega) (by omega) (addF_low fun k h => by cases h) (addF_low fun k h => by cases h) hr.1]
  simp only [Option.bind_some, Option.elim_some]
  have ha := A0_ok (n := n) hr
  unfold shadow_New.f
  rw [show (⟨r, addF n (fun _ => false) [0, 1], addF n (fun _ => false) [], addF n (fun _ => false) [0, 1], addF n (fun _ => false) [0, 1]⟩ : AA) = A0 n r from rfl, works_eq (by omega) (by omega) ha]
  have hl : (newD (8 * n)).cells.length = 8 * n := by simp [newD]
  simp only [Option.bind_some, bits_Set_Size.f]
  rw [lines_eq (by omega), hl]
  simp only [Option.bind_some]
  rw [show (setOf n (A0 n r).w).size = (n : Int) from rfl, decide_eq_false (show ¬ ((n : Int) > ((8 * n / 8 : Nat) : Int)) by omega), if_neg (by decide)]
  rfl
theorem newD_clean (n : Nat) : Clean (newD n) := ⟨rfl, rfl, rfl⟩
structure SOk (n : Nat) (B : Int) (d : Dev) (a : AA) : Prop where
  dev : DevOk (8 * n) B d
  cl : Clean d
  al : AOk n a
theorem SOk.up {n : Nat} {B C : Int} {d : Dev} {a : AA} (h : SOk n B d a) (hc : B ≤ C) : SOk n C d a := ⟨h.dev.up hc, h.cl, h.al⟩
theorem SOk.len {n : Nat} {B : Int} {d : Dev} {a : AA} (h : SOk n B d a) : d.cells.length = 8 * n := h.dev.len
theorem writtenS_clean {d : Dev} {a : AA} {line : Nat} {b : List Int} (h : Clean d) (hi : 8 * line + 8 ≤ d.cells.length) (hb : b.length = 64) : writtenS d a (line : Int) b = ((line : Int), 0, (writeD d (line : Int) b).2, a) := by
  unfold writtenS
  rw [if_pos (write_clean h hi hb).1]
def ln (d : Dev) (j : Nat) : List Int := octs (lineC d (j : Int))
theorem octs_byt (ws : List Int) : Bytes (octs ws) := by
  intro x hx
  unfold octs at hx
  obtain ⟨w, _, hw⟩ := List.mem_flatMap.1 hx
  exact lay_bytes _ _ x hw
theorem ln_write {n : Nat} {B : Int} {d : Dev} {a : AA} {k : Nat} {b : List Int} (h : SOk n B d a) (hk : k < n) (hb : Bytes b) (hl : b.length = 64) :
    ln (writeD d (k : Int) b).2 k = b ∧ ∀ j, j < n → j ≠ k → ln (writeD d (k : Int) b).2 j = ln d j := by
  have hlen := h.len
  refine ⟨line_written h.cl (by omega) hb hl, fun j hj hne => ?_⟩
  unfold ln
  rw [line_congr fun i hi => ?_]
  rw [(write_clean (line := k) h.cl (by omega) hl).2.2.2 _ (by omega), if_neg (by omega)]
structure Wr (n : Nat) (B : Int) (d : Dev) (a : AA) (k : Nat) (b : List Int) (d' : Dev) (a' : AA) : Prop where
  so : SOk n (B + 9) d' a'
  lt : k < n
  new : ln d' k = b
  old : ∀ j, j < n → j ≠ k → ln d' j = ln d j
  m : a'.m = a.m
  c : a'.c = a.c
  e : a'.e = a.e
  r : a'.r = a.r
theorem put_w {n k j : Nat} {a : AA} (hk : k < n) : (a.put n k).w j = true ↔ a.w j = true ∨ j = k := by
  show addF n a.w [(k : Int)] j = true ↔ _
  unfold addF
  simp only [Bool.or_eq_true, Bool.and_eq_true, decide_eq_true_eq, List.mem_singleton]
  constructor
  · rintro (h | ⟨_, h⟩)
    · exact .inl h
    · exact .inr (by omega)
  · rintro (h | rfl)
    · exact .inl h
    · exact .inr ⟨hk, rfl⟩
theorem cut_w {k j : Nat} {a : AA} : (a.cut (k : Int)).w j = true ↔ a.w j = true ∧ j ≠ k := by
  show dropF a.w [(k : Int)] j = true ↔ _
  unfold dropF
  simp only [Bool.and_eq_true, Bool.not_eq_true', decide_eq_false_iff_not, List.mem_singleton]
  constructor
  · rintro ⟨h, h2⟩
    exact ⟨h, by omega⟩
  · rintro ⟨h, h2⟩
    exact ⟨h, by omega⟩
theorem make_line {n : Nat} {B : Int} {d : Dev} {a : AA} {b : List Int} (h : SOk n B d a) (hb : Bytes b) (hl : b.length = 64) (hr : a.r = 0) (hf : (a.free n).length ≠ 0) :
    ∃ (k : Nat) (d' : Dev), makeS n d a b = ((k : Int), 0, d', a.put n k) ∧ a.held k = false ∧ Wr n B d a k b d' (a.put n k) := by
  obtain ⟨l1, l2, l3⟩ := least_ok hf
  have ht := take_ok h.al
  have e : a.take n = ((a.least n : Int), 0, a.put n (a.least n)) := by
    unfold AA.take
    rw [if_neg (by rw [hr]; omega)]
  rw [e] at ht
  refine ⟨a.least n, (writeD d (a.least n : Int) b).2, ?_, l2, ?_⟩
  · unfold makeS
    rw [if_pos hl, e]
    simp only [if_true]
    exact writtenS_clean (line := a.least n) h.cl (by have := h.len; omega) hl
  · obtain ⟨s1, s2⟩ := ln_write h l1 hb hl
    exact ⟨⟨write_dev h.dev hb, (write_clean (line := a.least n) h.cl (by have := h.len; omega) hl).2.1, ht⟩, l1, s1, s2, rfl, rfl, rfl, rfl⟩
theorem has_w {n k : Nat} {f : Nat → Bool} (hk : k < n) : hasI n f (k : Int) = f k := by
  unfold hasI
  rw [decide_eq_true (show (0 : Int) ≤ (k : Int) by omega), decide_eq_true (show (k : Int) < (n : Int) by omega), Int.toNat_natCast]
  rfl
theorem give_line {n k : Nat} {a : AA} (hk : k < n) (hw : a.w k = true) : a.give n (k : Int) = (0, a.cut (k : Int)) := by
  unfold AA.give
  rw [has_w hk, if_pos hw]
theorem turn_line {n : Nat} {B : Int} {d : Dev} {a : AA} {b : List Int} {k : Nat} (h : SOk n B d a) (hb : Bytes b) (hl : b.length = 64) (hr : a.r = 0) (hf : (a.free n).length ≠ 0) (hk : k < n) (hw : a.w k = true) :
    ∃ (k' : Nat) (d' : Dev) (a' : AA), turnS n d a (k : Int) b = ((k' : Int), 0, d', a') ∧ Wr n B d a k' b d' a' ∧ (∀ j, a'.w j = true ↔ (a.w j = true ∧ j ≠ k) ∨ j = k') ∧ (k' = k ∧ a.m k = false ∨ k' ≠ k ∧ a.held k' = false) := by
  unfold turnS
  rw [if_pos ⟨hl, by rw [has_w hk]; exact hw⟩]
  unfold AA.own
  rw [has_w hk, has_w hk, hw]
  cases hm : a.m k with
  | false =>
    rw [if_pos (by rfl)]
    obtain ⟨s1, s2⟩ := ln_write h hk hb hl
    refine ⟨k, _, _, writtenS_clean (line := k) h.cl (by have := h.len; omega) hl, ⟨⟨write_dev h.dev hb, (write_clean (line := k) h.cl (by have := h.len; omega) hl).2.1, h.al⟩, hk, s1, s2, rfl, rfl, rfl, rfl⟩, fun j => ?_, .inl ⟨rfl, rfl⟩⟩
    by_cases e : j = k
    · subst e
      simp [hw]
    · simp [e]
  | true =>
    rw [if_neg (by decide)]
    obtain ⟨k', d', e1, e2, W⟩ := make_line h hb hl hr hf
    have hne : k' ≠ k := fun e => by
      unfold AA.held at e2
      rw [e, hw] at e2
      simp at e2
    have hw' : (a.put n k').w k = true := (put_w W.lt).2 (.inl hw)
    rw [e1, if_pos rfl]
    simp only
    rw [give_line hk hw']
    refine ⟨k', d', (a.put n k').cut (k : Int), rfl, ⟨⟨W.so.dev, W.so.cl, ?_⟩, W.lt, W.new, W.old, rfl, rfl, rfl, rfl⟩, fun j => ?_, .inr ⟨hne, e2⟩⟩
    · have := give_ok (k := (k : Int)) W.so.al
      rw [give_line hk hw'] at this
      exact this
    · rw [cut_w, put_w W.lt]
      constructor
      · rintro ⟨h1 | h1, h2⟩
        · exact .inl ⟨h1, h2⟩
        · exact .inr h1
      · rintro (⟨h1, h2⟩ | rfl)
        · exact ⟨.inl h1, h2⟩
        · exact ⟨.inr rfl, hne⟩
theorem cnt_or (f g : Nat → Bool) (n : Nat) : cnt (fun k => f k || g k) n ≤ cnt f n + cnt g n := by
  unfold cnt
  induction List.range n with
  | nil => simp
  | cons x l ih =>
    simp only [List.filter_cons]
    cases f x <;> cases g x <;> simp <;> omega
theorem cnt_mono {f g : Nat → Bool} {n : Nat} (h : ∀ k, k < n → f k = true → g k = true) : cnt f n ≤ cnt g n := by
  unfold cnt
  have : ∀ l : List Nat, (∀ k ∈ l, k < n) → (l.filter f).length ≤ (l.filter g).length := by
    intro l
    induction l with
    | nil => simp
    | cons x l ih =>
      intro hl
      have i := ih fun k hk => hl k (List.mem_cons_of_mem _ hk)
      have hx := h x (hl x List.mem_cons_self)
      simp only [List.filter_cons]
      cases hf : f x with
      | false => cases g x <;> simp <;> omega
      | true => rw [hx hf]; simp; omega
  exact this _ fun k hk => List.mem_range.1 hk
theorem cnt_one (x n : Nat) : cnt (fun k => decide (k = x)) n ≤ 1 := by
  induction n with
  | zero => simp [cnt]
  | succ n ih =>
    unfold cnt at ih ⊢
    rw [List.range_succ, List.filter_append, List.length_append]
    by_cases e : n = x
    · subst e
      have : ((List.range n).filter fun k => decide (k = n)) = [] := List.filter_eq_nil_iff.2 fun k hk => by have := List.mem_range.1 hk; simp; omega
      rw [this]
      simp
    · have : ([n].filter fun k => decide (k = x)) = [] := by simp [e]
      rw [this]
      simpa using ih
theorem cnt_mem : ∀ (l : List Nat) (n : Nat), cnt (fun k => decide (k ∈ l)) n ≤ l.length
  | [], n => by simp [cnt]
  | x :: l, n => by
    have h1 := cnt_or (fun k => decide (k = x)) (fun k => decide (k ∈ l)) n
    have h2 := cnt_one x n
    have h3 := cnt_mem l n
    have h4 : cnt (fun k => decide (k ∈ x :: l)) n ≤ cnt (fun k => decide (k = x) || decide (k ∈ l)) n := cnt_mono fun k _ h => by simpa using h
    rw [List.length_cons]
    omega
theorem free_ex {n : Nat} {a : AA} (l : List Nat) (M : Nat) (hw : ∀ j, a.w j = true → j ∈ l) (hc : ∀ j, a.c j = true ∨ a.e j = true → j ∈ [0, 1]) (hm : cnt a.m n ≤ M) (hn : l.length + 2 + M < n) : (a.free n).length ≠ 0 := by
  have h0 := cnt_not a.held n
  have h1 : cnt a.held n ≤ cnt (fun k => decide (k ∈ l) || (decide (k ∈ [0, 1]) || a.m k)) n := cnt_mono fun k _ h => by
    unfold AA.held at h
    simp only [Bool.or_eq_true] at h
    simp only [Bool.or_eq_true, decide_eq_true_eq]
    rcases h with ((h | h) | h) | h
    · exact .inl (hw k h)
    · exact .inr (.inl (hc k (.inl h)))
    · exact .inr (.inl (hc k (.inr h)))
    · exact .inr (.inr h)
  have h2 := cnt_or (fun k => decide (k ∈ l)) (fun k => decide (k ∈ [0, 1]) || a.m k) n
  have h3 := cnt_or (fun k => decide (k ∈ [0, 1])) a.m n
  have h4 := cnt_mem l n
  have h5 := cnt_mem [0, 1] n
  simp only [List.length_cons, List.length_nil] at h5
  have : (a.free n).length = ((List.range n).filter fun k => !a.held k).length := rfl
  omega
abbrev Ls := S_dir_listed
def nm (x : Ls) : List Int := rn x.q.Name
def qOf (b : List Int) : S_api_Queue := queueOf (b.drop 8) (ix b 5).toNat
def dOf (b : List Int) : List Int := dirOf (b.drop 8) (ix b 5).toNat
def lastOk (out : List Ls) (q : S_api_Queue) : Prop := out = [] ∨ cmpL (rn ((ix out ((out.length - 1 : Nat) : Int)).q.Name)) (rn q.Name) < 0
instance (out : List Ls) (q : S_api_Queue) : Decidable (lastOk out q) := inferInstanceAs (Decidable (_ ∨ _))
def rdL (g : Int → List Int × Int) : List Int → List Ls → List Ls × Int
  | [], out => (out, 0)
  | at_ :: r, out => if (g at_).2 ≠ 0 then ([], (g at_).2) else if GetQ (g at_).1 ∧ lastOk out (qOf (g at_).1) then rdL g r (out ++ [⟨qOf (g at_).1, at_⟩]) else ([], 31)
def readP (g : Int → List Int × Int) (k : Int) : List Ls × Int :=
  if k = 0 then ([], 0) else if (g k).2 ≠ 0 then ([], (g k).2) else if GetD (g k).1 then rdL g (dOf (g k).1) [] else ([], 31)
theorem getd_bytes (d : Dev) (k : Int) : Bytes (readD d k).1 ∧ (readD d k).1.length ≤ 64 := by
  unfold readD
  split
  · split
    · exact ⟨by intro x hx; simp at hx, by simp⟩
    · refine ⟨octs_byt _, ?_⟩
      rw [octs_len]
      simp [lineC]
  · exact ⟨by intro x hx; simp at hx, by simp⟩
theorem getQ_name {b : List Int} (h : GetQ b) : NameOk (qOf b).Name ∧ (qOf b).Name.length ≤ 24 := by
  refine ⟨h.2.2.2.1.1, ?_⟩
  unfold qOf queueOf
  simp only [List.length_map]
  unfold part
  have := h.2.2.1
  rw [List.length_take]
  omega
theorem read_from {fu n m : Nat} {B : Int} {d : Dev} {a : AA} {t5 : S_api_Dir × Bool} (hfu : 3000 < fu) (h : DevOk m B d) (hm : m ≤ 100000) (hl : t5.1.Queues.length ≤ 16) :
    ∀ (k i : Nat) (out : List Ls), i ≤ t5.1.Queues.length → t5.1.Queues.length - i < k → out.length ≤ i → (∀ x ∈ out, x.q.Name.length ≤ 24) →
    (loopM (dir_read.s0 fu (SO n d a) t5) k (out, (i : Int))).bind (fun e9 => match e9 with | Sum.inl p => some p | Sum.inr x11 => some (x11, 0)) = some (rdL (readD d) (t5.1.Queues.drop i) out)
  | 0, i, out, _, h2, _, _ => by omega
  | k + 1, i, out, h1, h2, h3, h4 => by
    have hu : loopM (dir_read.s0 fu (SO n d a) t5) (k + 1) (out, (i : Int)) = (match dir_read.s0 fu (SO n d a) t5 (out, (i : Int)) with | none => none | some (.inl e) => some e | some (.inr s') => loopM (dir_read.s0 fu (SO n d a) t5) k s') := by
      conv => lhs; unfold loopM
      generalize dir_read.s0 fu (SO n d a) t5 (out, (i : Int)) = q
      rcases q with _ | _ | _ <;> rfl
    rw [hu]
    generalize hqs : t5.1.Queues = qs at *
    by_cases e : i < qs.length
    · have c0 : (i : Int) < (qs.length : Int) := by omega
      have c1 : 0 ≤ (i : Int) ∧ (i : Int) < (qs.length : Int) := by omega
      have w3 : IntKind.i64.wrap ((i : Int) + 1) = ((i + 1 : Nat) : Int) := by rw [w64 (by omega) (by omega)]; omega
      rw [List.drop_eq_getElem_cons e]
      generalize hat : qs[i] = at_
      obtain ⟨gb, gl⟩ := getd_bytes d at_
      have hgq : label_GetQueue.f fu (readD d at_).1 = some (if GetQ (readD d at_).1 then (qOf (readD d at_).1, true) else (noQ, false)) := queueGet_eq (by omega) gb (by omega)
      have hst : dir_read.s0 fu (SO n d a) t5 (out, (i : Int)) = if (readD d at_).2 ≠ 0 then some (.inl (.inl ([], (readD d at_).2))) else if GetQ (readD d at_).1 ∧ lastOk out (qOf (readD d at_).1) then some (.inr (out ++ [⟨qOf (readD d at_).1, at_⟩], ((i + 1 : Nat) : Int))) else some (.inl (.inl ([], 31))) := by
        unfold dir_read.s0
        simp only [hqs]
        rw [decide_eq_true c0, if_pos rfl, if_pos c1, ix_nat e, hat, sget_eq h hm (by omega), Option.bind_some]
        by_cases e1 : (readD d at_).2 = 0
        · rw [decide_eq_true e1, if_neg (by decide), if_neg (by simpa using e1), hgq, Option.bind_some]
          by_cases e2 : GetQ (readD d at_).1
          · have hn := getQ_name e2
            have hlim : out.length + ([(⟨qOf (readD d at_).1, at_⟩ : Ls)] : List Ls).length ≤ LIM := lim_of' (by simp; omega)
            rw [if_pos e2]
            simp only
            rw [if_neg (by decide)]
            by_cases e3 : out = []
            · rw [decide_eq_false (show ¬ ((out.length : Int) > 0) by rw [e3]; simp), if_neg (by decide), if_pos (show GetQ (readD d at_).1 ∧ lastOk out (qOf (readD d at_).1) from ⟨e2, .inl e3⟩), w3]
              exact if_pos hlim
            · have hp : 0 < out.length := List.length_pos_iff.2 e3
              have w4 : IntKind.i64.wrap ((out.length : Int) - 1) = ((out.length - 1 : Nat) : Int) := by rw [w64 (by omega) (by omega)]; omega
              have c3 : 0 ≤ ((out.length - 1 : Nat) : Int) ∧ ((out.length - 1 : Nat) : Int) < (out.length : Int) := by omega
              have hl1 : (ix out ((out.length - 1 : Nat) : Int)).q.Name.length ≤ 24 := by
                rw [ix_nat (show out.length - 1 < out.length by omega)]
                exact h4 _ (List.getElem_mem _)
              rw [decide_eq_true (show (out.length : Int) > 0 by omega), if_pos rfl, w4, if_pos c3, compare_eq (by omega) (by omega) (show (qOf (readD d at_).1).Name.length ≤ 300 by omega), Option.bind_some, w3]
              by_cases e4 : cmpL (rn (ix out ((out.length - 1 : Nat) : Int)).q.Name) (rn (qOf (readD d at_).1).Name) < 0
              · rw [decide_eq_false (show ¬ (cmpL (rn (ix out ((out.length - 1 : Nat) : Int)).q.Name) (rn (qOf (readD d at_).1).Name) ≥ 0) by omega), if_neg (by decide), if_pos (show GetQ (readD d at_).1 ∧ lastOk out (qOf (readD d at_).1) from ⟨e2, .inr e4⟩)]
                exact if_pos hlim
              · have hno : ¬ (GetQ (readD d at_).1 ∧ lastOk out (qOf (readD d at_).1)) := by
                  rintro ⟨_, hx | hx⟩
                  · exact e3 hx
                  · exact e4 hx
                rw [decide_eq_true (show cmpL (rn (ix out ((out.length - 1 : Nat) : Int)).q.Name) (rn (qOf (readD d at_).1).Name) ≥ 0 by omega), if_pos rfl, if_neg hno]
          · have hno : ¬ (GetQ (readD d at_).1 ∧ lastOk out (qOf (readD d at_).1)) := fun x => e2 x.1
            rw [if_neg hno, if_neg e2]
            rfl
        · rw [decide_eq_false e1, if_pos (by decide), if_pos (by simpa using e1)]
      rw [hst]
      conv => rhs; unfold rdL
      by_cases e1 : (readD d at_).2 ≠ 0
      · rw [if_pos e1, if_pos e1]
        rfl
      · rw [if_neg e1, if_neg e1]
        by_cases e2 : GetQ (readD d at_).1 ∧ lastOk out (qOf (readD d at_).1)
        · rw [if_pos e2, if_pos e2]
          have := read_from (fu := fu) (n := n) (a := a) (t5 := t5) hfu h hm (by rw [hqs]; omega) k (i + 1) (out ++ [⟨qOf (readD d at_).1, at_⟩]) (by rw [hqs]; omega) (by rw [hqs]; omega) (by simp; omega) (fun x hx => by
            rcases List.mem_append.1 hx with hx | hx
            · exact h4 x hx
            · rw [List.mem_singleton.1 hx]
              exact (getQ_name e2.1).2)
          rw [hqs] at this
          exact this
        · rw [if_neg e2, if_neg e2]
          rfl
    · have c0 : ¬ ((i : Int) < (qs.length : Int)) := by omega
      have hst : dir_read.s0 fu (SO n d a) t5 (out, (i : Int)) = some (.inl (.inr out)) := by
        unfold dir_read.s0
        simp only [hqs]
        rw [decide_eq_false c0, if_neg (by decide)]
      rw [hst, List.drop_of_length_le (show qs.length ≤ i by omega)]
      rfl
theorem getD_len {b : List Int} (h : GetD b) : (dOf b).length ≤ 16 := h.2.2.2.1.1.2
theorem readP_eq {fu n m : Nat} {B : Int} {d : Dev} {a : AA} (hfu : 3000 < fu) (h : DevOk m B d) (hm : m ≤ 100000) (k : Int) : dir_read.f fu (SO n d a) k = some (readP (readD d) k) := by
  unfold dir_read.f readP
  by_cases e : k = 0
  · rw [decide_eq_true e, if_pos rfl, if_pos e]
  · rw [decide_eq_false e, if_neg (by decide), if_neg e, sget_eq h hm (by omega), Option.bind_some]
    obtain ⟨gb, gl⟩ := getd_bytes d k
    by_cases e1 : (readD d k).2 = 0
    · rw [decide_eq_true e1, if_neg (by decide), if_neg (by simpa using e1), dirGet_eq gb (by omega) (by omega), Option.bind_some]
      by_cases e2 : GetD (readD d k).1
      · rw [if_pos e2, if_pos e2]
        have := read_from (fu := fu) (n := n) (a := a) (t5 := ((⟨dOf (readD d k).1⟩ : S_api_Dir), true)) hfu h hm (getD_len e2) fu 0 [] (by omega) (by have := getD_len e2; show (dOf (readD d k).1).length - 0 < fu; omega) (by simp) (fun x hx => by simp at hx)
        exact this
      · rw [if_neg e2, if_neg e2]
        rfl
    · rw [decide_eq_false e1, if_pos (by decide), if_pos (by simpa using e1)]
def queB (q : S_api_Queue) : List Int := sealed (summed 5 (q.Name.length : Int) (queueE q))
def dirB (l : List Int) : List Int := sealed (summed 6 (l.length : Int) (rowE l l.length))
theorem queB_len {q : S_api_Queue} (hs : q.Name.length ≤ 300) (h : QueueOk q) : (queB q).length = 64 := (queueGet_put (fu := 400) (Nat.le_refl _) hs h).2
theorem queB_bytes {q : S_api_Queue} (hs : q.Name.length ≤ 300) (h : QueueOk q) : Bytes (queB q) := by
  have := h.len hs
  exact sealed_bytes (summed_bytes (by omega) (by omega) (queueE_bytes q))
theorem queB_get {q : S_api_Queue} (hs : q.Name.length ≤ 300) (h : QueueOk q) : GetQ (queB q) ∧ qOf (queB q) = q := by
  have h1 := (queueGet_put (fu := 400) (Nat.le_refl _) hs h).1
  have h2 := queueGet_eq (fu := 400) (Nat.le_refl _) (queB_bytes hs h) (by rw [queB_len hs h]; omega)
  unfold queB at h2 ⊢
  rw [h1] at h2
  have h2 := Option.some.inj h2
  split at h2
  · rename_i hg
    exact ⟨hg, (Prod.ext_iff.1 h2).1.symm⟩
  · exact absurd (show true = false from (Prod.ext_iff.1 h2).2) (by decide)
theorem dirB_len {l : List Int} (h : DirOk l) : (dirB l).length = 64 := (dirGet_put (fu := 400) h (by omega)).2
theorem dirB_bytes {l : List Int} (h : DirOk l) : Bytes (dirB l) := by
  have := h.1
  exact sealed_bytes (summed_bytes (by omega) (by omega) (rowE_bytes _ _))
theorem dirB_get {l : List Int} (h : DirOk l) : GetD (dirB l) ∧ dOf (dirB l) = l := by
  have h1 := (dirGet_put (fu := 400) h (by omega)).1
  have h2 := dirGet_eq (fu := 400) (dirB_bytes h) (by rw [dirB_len h]; omega) (by omega)
  unfold dirB at h2 ⊢
  rw [h1] at h2
  have h2 := Option.some.inj h2
  split at h2
  · rename_i hg
    refine ⟨hg, ?_⟩
    have := (Prod.ext_iff.1 h2).1
    injection this with this
    exact this.symm
  · exact absurd (show true = false from (Prod.ext_iff.1 h2).2) (by decide)
def Sorted (L : List Ls) : Prop := L.Pairwise fun x y => cmpL (nm x) (nm y) < 0
theorem rdL_ok {g : Int → List Int × Int} : ∀ (L2 L1 : List Ls), Sorted (L1 ++ L2) → (∀ x ∈ L2, g x.at_ = (queB x.q, 0) ∧ QueueOk x.q ∧ x.q.Name.length ≤ 300) → rdL g (L2.map (·.at_)) L1 = (L1 ++ L2, 0)
  | [], L1, _, _ => by simp [rdL]
  | x :: L2, L1, hs, h => by
    obtain ⟨h1, h2, h3⟩ := h x List.mem_cons_self
    obtain ⟨g1, g2⟩ := queB_get h3 h2
    rw [List.map_cons]
    unfold rdL
    rw [h1, if_neg (by simp)]
    have hl : lastOk L1 (qOf (queB x.q)) := by
      rw [g2]
      by_cases e : L1 = []
      · exact .inl e
      · right
        have hp : 0 < L1.length := List.length_pos_iff.2 e
        rw [ix_nat (show L1.length - 1 < L1.length by omega)]
        unfold Sorted at hs
        rw [List.pairwise_append] at hs
        exact hs.2.2 _ (List.getElem_mem _) x List.mem_cons_self
    rw [if_pos ⟨g1, hl⟩]
    simp only [g2]
    have := rdL_ok L2 (L1 ++ [x]) (by rw [List.append_assoc]; exact hs) fun y hy => h y (List.mem_cons_of_mem _ hy)
    rw [List.append_assoc] at this
    exact this
theorem list_eq' {fu n m : Nat} {B : Int} {d : Dev} {a : AA} {k : Int} {L : List Ls} {e : Int} (hfu : 3000 < fu) (h : DevOk m B d) (hm : m ≤ 100000) (hr : readP (readD d) k = (L, e)) (hL : L.length ≤ 100) : dir_List.f fu (SO n d a) k = some (L.map (·.q), e) := by
  unfold dir_List.f
  rw [readP_eq hfu h hm, Option.bind_some, hr]
  have : loopM (dir_List.s0 fu (L, e)) fu (([] : List S_api_Queue), 0) = some (L.map (·.q)) := by
    refine loopM_run (S := fun j => ((L.take j).map (·.q), (j : Int))) L.length (by simp) (fun j hj => ?_) ?_ (by omega)
    · have w3 : IntKind.i64.wrap ((j : Int) + 1) = ((j + 1 : Nat) : Int) := by rw [w64 (by omega) (by omega)]; omega
      unfold dir_List.s0
      rw [decide_eq_true (show (j : Int) < (L.length : Int) by omega), if_pos rfl, if_pos (show 0 ≤ (j : Int) ∧ (j : Int) < (L.length : Int) by omega), if_pos (lim_of' (by simp; omega)), w3]
      simp only [ix_nat hj, List.take_add_one, List.getElem?_eq_getElem hj, Option.toList_some, List.map_append, List.map_cons, List.map_nil]
    · unfold dir_List.s0
      simp
  rw [this]
  rfl
def cAt (L : List Ls) (s : List UInt8) (i : Nat) : Int := cmpL (nm (ix L (i : Int))) (rn s)
theorem cAt_mono {L : List Ls} (hs : Sorted L) {s : List UInt8} {p q : Nat} (hp : p < L.length) (hq : q < p) (h : cAt L s p < 0) : cAt L s q < 0 := by
  unfold cAt at h ⊢
  rw [ix_nat hp] at h
  rw [ix_nat (by omega)]
  exact cmpL_trans (List.pairwise_iff_getElem.1 hs q p (by omega) hp hq) h
theorem shr1 (x : Nat) : shR .u64 (x : Int) 1 = ((x / 2 : Nat) : Int) := by
  unfold shR
  show Int.fdiv (x : Int) (2 ^ min ((1 : Int).toNat) 64) = _
  rw [show (2 : Int) ^ min ((1 : Int).toNat) 64 = 2 from by decide, Int.fdiv_eq_ediv_of_nonneg _ (by decide)]
  omega
theorem search_from {fu : Nat} (hfu : 3000 < fu) {L : List Ls} {s : List UInt8} (hl : L.length ≤ 100) (hn : ∀ x ∈ L, x.q.Name.length ≤ 300) (hs : s.length ≤ 300) (hS : Sorted L) : ∀ (k i j : Nat), i ≤ j → j ≤ L.length → j - i < k → (∀ q, q < i → cAt L s q < 0) → (∀ q, j ≤ q → q < L.length → 0 ≤ cAt L s q) →
    ∃ p : Nat, loopM (slices_BinarySearchFunc_dir_place_1.s0 fu L s) k ((i : Int), (j : Int)) = some (p : Int) ∧ p ≤ L.length ∧ (∀ q, q < p → cAt L s q < 0) ∧ (∀ q, p ≤ q → q < L.length → 0 ≤ cAt L s q)
  | 0, i, j, _, _, h, _, _ => by omega
  | k + 1, i, j, h1, h2, h3, h4, h5 => by
    have hu : loopM (slices_BinarySearchFunc_dir_place_1.s0 fu L s) (k + 1) ((i : Int), (j : Int)) = (match slices_BinarySearchFunc_dir_place_1.s0 fu L s ((i : Int), (j : Int)) with | none => none | some (.inl e) => some e | some (.inr s') => loopM (slices_BinarySearchFunc_dir_place_1.s0 fu L s) k s') := by
      conv => lhs; unfold loopM
      generalize slices_BinarySearchFunc_dir_place_1.s0 fu L s ((i : Int), (j : Int)) = q
      rcases q with _ | _ | _ <;> rfl
    rw [hu]
    by_cases e : i < j
    · have hmid : IntKind.i64.wrap (shR .u64 (IntKind.u64.wrap (IntKind.i64.wrap ((i : Int) + (j : Int)))) 1) = (((i + j) / 2 : Nat) : Int) := by
        rw [w64 (n := (i : Int) + (j : Int)) (by omega) (by omega), wu64 (by omega) (by omega), show (i : Int) + (j : Int) = ((i + j : Nat) : Int) by omega, shr1, w64 (by omega) (by omega)]
      have hm1 : (i + j) / 2 < j := by omega
      have hm2 : i ≤ (i + j) / 2 := by omega
      generalize hmm : (i + j) / 2 = m at hmid hm1 hm2
      have hml : m < L.length := by omega
      have w3 : IntKind.i64.wrap ((m : Int) + 1) = ((m + 1 : Nat) : Int) := by rw [w64 (by omega) (by omega)]; omega
      have hc : dir_place_1.f fu (ix L (m : Int)) s = some (cAt L s m) := by
        unfold dir_place_1.f
        rw [compare_eq (by omega) (by rw [ix_nat hml]; exact hn _ (List.getElem_mem _)) hs]
        rfl
      have hst : slices_BinarySearchFunc_dir_place_1.s0 fu L s ((i : Int), (j : Int)) = if cAt L s m < 0 then some (.inr (((m + 1 : Nat) : Int), (j : Int))) else some (.inr ((i : Int), (m : Int))) := by
        unfold slices_BinarySearchFunc_dir_place_1.s0
        simp only [hmid]
        rw [decide_eq_true (show (i : Int) < (j : Int) by omega), if_pos rfl, if_pos (show 0 ≤ (m : Int) ∧ (m : Int) < (L.length : Int) by omega), hc, Option.bind_some, w3]
        by_cases q : cAt L s m < 0
        · rw [decide_eq_true q, if_pos rfl, if_pos q]
          rfl
        · rw [decide_eq_false q, if_neg (by decide), if_neg q]
          rfl
      rw [hst]
      by_cases q : cAt L s m < 0
      · rw [if_pos q]
        exact search_from hfu hl hn hs hS k (m + 1) j (by omega) h2 (by omega) (fun x hx => by
          rcases Nat.lt_or_ge x m with y | y
          · exact cAt_mono hS hml y q
          · rw [show x = m by omega]
            exact q) h5
      · rw [if_neg q]
        refine search_from hfu hl hn hs hS k i m hm2 (by omega) (by omega) h4 (fun x hx hx2 => ?_)
        rcases Nat.eq_or_lt_of_le hx with y | y
        · rw [← y]
          omega
        · have := mt (cAt_mono (s := s) hS hx2 y) q
          omega
    · refine ⟨i, ?_, by omega, h4, fun q hq hq2 => h5 q (by omega) hq2⟩
      have hst : slices_BinarySearchFunc_dir_place_1.s0 fu L s ((i : Int), (j : Int)) = some (.inl (i : Int)) := by
        unfold slices_BinarySearchFunc_dir_place_1.s0
        rw [decide_eq_false (show ¬ (i : Int) < (j : Int) by omega), if_neg (by decide)]
      rw [hst]
theorem place_eq {fu : Nat} (hfu : 3000 < fu) {L : List Ls} {s : List UInt8} (hl : L.length ≤ 100) (hn : ∀ x ∈ L, x.q.Name.length ≤ 300) (hs : s.length ≤ 300) (hS : Sorted L) :
    ∃ p : Nat, dir_place.f fu L s = some ((p : Int), decide (p < L.length ∧ cAt L s p = 0)) ∧ p ≤ L.length ∧ (∀ q, q < p → cAt L s q < 0) ∧ (∀ q, p ≤ q → q < L.length → 0 ≤ cAt L s q) := by
  obtain ⟨p, h1, h2, h3, h4⟩ := search_from hfu hl hn hs hS fu 0 L.length (by omega) (by omega) (by omega) (fun q hq => by omega) (fun q h1 h2 => by omega)
  refine ⟨p, ?_, h2, h3, h4⟩
  unfold dir_place.f slices_BinarySearchFunc_dir_place_1.f
  have e : ((0 : Nat) : Int) = 0 := rfl
  rw [e] at h1
  rw [h1, Option.bind_some]
  by_cases q : p < L.length
  · have hc : dir_place_1.f fu (ix L (p : Int)) s = some (cAt L s p) := by
      unfold dir_place_1.f
      rw [compare_eq (by omega) (by rw [ix_nat q]; exact hn _ (List.getElem_mem _)) hs]
      rfl
    rw [decide_eq_true (show (p : Int) < (L.length : Int) by omega), if_pos rfl, if_pos (show 0 ≤ (p : Int) ∧ (p : Int) < (L.length : Int) by omega), hc]
    simp [q]
  · rw [decide_eq_false (show ¬ (p : Int) < (L.length : Int) by omega), if_neg (by decide)]
    simp [q]
end Go.Proofs.YtdifnahlheogdaaDoor.Pure
namespace Go.Proofs.YtdifnahlheogdaaDoor
open Go Go.Xw Go.Yw
end Go.Proofs.YtdifnahlheogdaaDoor
namespace Go.Proofs.YtdifnahlheogdaaDoor.Pure
open Go Go.Xw Go.Yw
theorem dirOk_iff {l : List Int} : DirOk l ↔ (1 ≤ l.length ∧ l.length ≤ 16) ∧ (∀ x ∈ l, numOk x) ∧ l.Nodup := by
  unfold DirOk
  constructor
  · rintro ⟨h1, h2⟩
    refine ⟨h1, fun x hx => ?_, ?_⟩
    · obtain ⟨j, hj, rfl⟩ := List.getElem_of_mem hx
      have := (h2 j hj).1
      rwa [ix_nat hj] at this
    · rw [List.nodup_iff_pairwise_ne, List.pairwise_iff_getElem]
      intro i j hi hj hij e
      have := (h2 j hj).2
      rw [ix_nat hj] at this
      exact this (List.mem_take_iff_getElem.2 ⟨i, by omega, e⟩)
  · rintro ⟨h1, h2, h3⟩
    refine ⟨h1, fun j hj => ⟨?_, ?_⟩⟩
    · rw [ix_nat hj]
      exact h2 _ (List.getElem_mem _)
    · rw [ix_nat hj]
      intro hm
      obtain ⟨i, hi, e⟩ := List.mem_take_iff_getElem.1 hm
      rw [List.nodup_iff_pairwise_ne, List.pairwise_iff_getElem] at h3
      exact h3 i j (by omega) hj (by omega) e
def ats (L : List Ls) : List Int := L.map (·.at_)
structure MS (n : Nat) (B : Int) (M : Nat) (d : Dev) (a : AA) (k : Nat) (L : List Ls) : Prop where
  so : SOk n B d a
  r : a.r = 0
  q : ∀ x ∈ L, ∃ j : Nat, x.at_ = (j : Int) ∧ j < n ∧ ln d j = queB x.q ∧ QueueOk x.q ∧ x.q.Name.length ≤ 300
  ok : L ≠ [] → DirOk (ats L)
  so' : Sorted L
  kn : k ≠ 0 → 2 ≤ k ∧ k < n
  w : ∀ j : Nat, a.w j = true ↔ j = 0 ∨ j = 1 ∨ (k ≠ 0 ∧ j = k) ∨ (j : Int) ∈ ats L
  kd : k ≠ 0 → (k : Int) ∉ ats L
  ce : ∀ j, a.c j = true ∨ a.e j = true → j ∈ [0, 1]
  m : cnt a.m n ≤ M
structure DS (n : Nat) (B : Int) (M : Nat) (d : Dev) (a : AA) (k : Nat) (L : List Ls) : Prop extends MS n B M d a k L where
  dir : (k = 0 ∧ L = []) ∨ (k ≠ 0 ∧ L ≠ [] ∧ ln d k = dirB (ats L))
def Keep (n : Nat) (a : AA) (d d' : Dev) : Prop := ∀ j, j < n → a.m j = true → ln d' j = ln d j
theorem MS.len {n : Nat} {B : Int} {M : Nat} {d : Dev} {a : AA} {k : Nat} {L : List Ls} (h : MS n B M d a k L) : L.length ≤ 16 := by
  by_cases e : L = []
  · subst e; simp
  · have := (h.ok e).1.2
    simpa [ats] using this
theorem MS.names {n : Nat} {B : Int} {M : Nat} {d : Dev} {a : AA} {k : Nat} {L : List Ls} (h : MS n B M d a k L) : ∀ x ∈ L, x.q.Name.length ≤ 300 := fun x hx => by
  obtain ⟨_, _, _, _, _, h⟩ := h.q x hx
  exact h
theorem MS.free {n : Nat} {B : Int} {M : Nat} {d : Dev} {a : AA} {k : Nat} {L : List Ls} (h : MS n B M d a k L) (hn : 21 + M < n) : (a.free n).length ≠ 0 := by
  refine free_ex ([0, 1, k] ++ (ats L).map Int.toNat) M (fun j hj => ?_) h.ce h.m ?_
  · rcases (h.w j).1 hj with e | e | ⟨_, e⟩ | e
    · simp [e]
    · simp [e]
    · simp [e]
    · rw [List.mem_append]
      right
      exact List.mem_map.2 ⟨(j : Int), e, by simp⟩
  · have := h.len
    simp [ats]
    omega
theorem readD_ln {n : Nat} {B : Int} {d : Dev} {a : AA} (h : SOk n B d a) {j : Nat} (hj : j < n) : readD d (j : Int) = (ln d j, 0) := read_clean h.cl (by have := h.len; omega)
theorem DS.read {n : Nat} {B : Int} {M : Nat} {d : Dev} {a : AA} {k : Nat} {L : List Ls} (h : DS n B M d a k L) : readP (readD d) (k : Int) = (L, 0) := by
  unfold readP
  rcases h.dir with ⟨rfl, rfl⟩ | ⟨h1, h2, h3⟩
  · rfl
  · have hk := h.kn h1
    obtain ⟨g1, g2⟩ := dirB_get (h.ok h2)
    rw [if_neg (by omega), readD_ln h.so hk.2, h3, if_neg (by simp), if_pos g1, g2]
    refine rdL_ok L [] h.so' fun x hx => ?_
    obtain ⟨j, e1, e2, e3, e4, e5⟩ := h.q x hx
    rw [e1, readD_ln h.so e2, e3]
    exact ⟨rfl, e4, e5⟩
theorem MS.up {n : Nat} {B C : Int} {M : Nat} {d : Dev} {a : AA} {k : Nat} {L : List Ls} (h : MS n B M d a k L) (hc : B ≤ C) : MS n C M d a k L := ⟨h.so.up hc, h.r, h.q, h.ok, h.so', h.kn, h.w, h.kd, h.ce, h.m⟩
theorem DS.up {n : Nat} {B C : Int} {M : Nat} {d : Dev} {a : AA} {k : Nat} {L : List Ls} (h : DS n B M d a k L) (hc : B ≤ C) : DS n C M d a k L := ⟨h.toMS.up hc, h.dir⟩
theorem held_w {a : AA} {j k : Nat} (h : a.held k = false) (hj : a.w j = true) : j ≠ k := fun e => by
  unfold AA.held at h
  rw [← e, hj] at h
  simp at h
theorem held_m {a : AA} {j k : Nat} (h : a.held k = false) (hj : a.m j = true) : j ≠ k := fun e => by
  unfold AA.held at h
  rw [← e, hj] at h
  simp at h
theorem layloop {fu : Nat} (hfu : 3000 < fu) {L : List Ls} (hL : L.length ≤ 16) : loopM (dir_lay.s0 fu L) fu (0, ([] : List Int)) = some (ats L) := by
  refine loopM_run (S := fun j => ((j : Int), ats (L.take j))) L.length (by simp [ats]) (fun j hj => ?_) ?_ (by omega)
  · have w3 : IntKind.i64.wrap ((j : Int) + 1) = ((j + 1 : Nat) : Int) := by rw [w64 (by omega) (by omega)]; omega
    unfold dir_lay.s0
    rw [decide_eq_true (show (j : Int) < (L.length : Int) by omega), if_pos rfl, if_pos (show 0 ≤ (j : Int) ∧ (j : Int) < (L.length : Int) by omega), if_pos (lim_of' (by simp [ats]; omega)), w3]
    simp only [ix_nat hj, List.take_add_one, List.getElem?_eq_getElem hj, Option.toList_some, ats, List.map_append, List.map_cons, List.map_nil]
  · unfold dir_lay.s0
    simp
theorem lay_ok {fu n : Nat} {B : Int} {M : Nat} {d : Dev} {a : AA} {k : Nat} {L : List Ls} (hfu : 3000 + n < fu) (h : MS n B M d a k L) (hB : B + 9 < 9223372036854775807) (hn : 21 + M < n ∧ n ≤ 3072) (h0 : L = [] → k ≠ 0) :
    ∃ (k' : Nat) (d' : Dev) (a' : AA), dir_lay.f fu (SO n d a) (k : Int) L = some ((k' : Int), 0, SO n d' a') ∧ DS n (B + 9) M d' a' k' L ∧ a'.m = a.m ∧ Keep n a d d' := by
  unfold dir_lay.f
  have hL := h.len
  by_cases e : L = []
  · subst e
    have hk := h.kn (h0 rfl)
    have hw : a.w k = true := (h.w k).2 (.inr (.inr (.inl ⟨h0 rfl, rfl⟩)))
    rw [decide_eq_true (show ((([] : List Ls).length : Nat) : Int) = 0 by rfl), if_pos rfl, drop_eq h.so.al (by omega) (by omega), give_line hk.2 hw, Option.bind_some]
    refine ⟨0, d, a.cut (k : Int), rfl, ⟨⟨⟨h.so.dev.up (by omega), h.so.cl, ?_⟩, h.r, fun x hx => by simp at hx, fun x => absurd rfl x, List.Pairwise.nil, fun x => absurd rfl x, fun j => ?_, fun x => absurd rfl x, h.ce, h.m⟩, .inl ⟨rfl, rfl⟩⟩, rfl, fun j _ _ => rfl⟩
    · have := give_ok (k := (k : Int)) h.so.al
      rw [give_line hk.2 hw] at this
      exact this
    · rw [cut_w, h.w j]
      constructor
      · rintro ⟨e | e | ⟨_, e⟩ | e, h2⟩
        · exact .inl e
        · exact .inr (.inl e)
        · exact absurd e h2
        · simp [ats] at e
      · rintro (e | e | ⟨e, _⟩ | e)
        · exact ⟨.inl e, by omega⟩
        · exact ⟨.inr (.inl e), by omega⟩
        · exact absurd rfl e
        · simp [ats] at e
  · have hok := h.ok e
    have hp := List.length_pos_iff.2 e
    have hal : (ats L).length = L.length := by simp [ats]
    rw [decide_eq_false (show ¬ ((L.length : Int) = 0) by omega), if_neg (by decide), layloop (by omega) hL, Option.bind_some, dirPut_eq (by omega), Option.bind_some, if_pos hok]
    simp only
    rw [if_neg (by decide)]
    have hmem : ∀ {x : Ls}, x ∈ L → ∀ {j : Nat}, x.at_ = (j : Int) → a.w j = true := fun {x} hx {j} hj => (h.w j).2 (.inr (.inr (.inr (by rw [← hj]; exact List.mem_map_of_mem hx))))
    by_cases e0 : k = 0
    · subst e0
      obtain ⟨k', d', e1, e2, W⟩ := make_line (b := dirB (ats L)) h.so (dirB_bytes hok) (dirB_len hok) h.r (h.free hn.1)
      have w0 := held_w e2 ((h.w 0).2 (.inl rfl))
      have w1 := held_w e2 ((h.w 1).2 (.inr (.inl rfl)))
      rw [decide_eq_true (show ((0 : Nat) : Int) = 0 by rfl), if_pos rfl, show sealed (summed 6 ((ats L).length : Int) (rowE (ats L) (ats L).length)) = dirB (ats L) from rfl, make_eq h.so.dev hB (by omega) (dirB_bytes hok) (by omega) h.so.al (by omega) (by omega), e1, Option.bind_some]
      have hnk : (k' : Int) ∉ ats L := fun hx => by
        obtain ⟨x, hx, hxe⟩ := List.mem_map.1 hx
        exact held_w e2 (hmem hx hxe) rfl
      refine ⟨k', d', a.put n k', rfl, ⟨⟨W.so, h.r, fun x hx => ?_, fun _ => hok, h.so', fun _ => ⟨by omega, W.lt⟩, fun j => ?_, fun _ => hnk, h.ce, h.m⟩, .inr ⟨by omega, e, W.new⟩⟩, rfl, fun j hj hm => W.old j hj (held_m e2 hm)⟩
      · obtain ⟨j, f1, f2, f3, f4, f5⟩ := h.q x hx
        exact ⟨j, f1, f2, by rw [W.old j f2 (held_w e2 (hmem hx f1)), f3], f4, f5⟩
      · rw [put_w W.lt, h.w j]
        constructor
        · rintro ((f | f | ⟨f, _⟩ | f) | f)
          · exact .inl f
          · exact .inr (.inl f)
          · exact absurd rfl f
          · exact .inr (.inr (.inr f))
          · exact .inr (.inr (.inl ⟨by omega, f⟩))
        · rintro (f | f | ⟨_, f⟩ | f)
          · exact .inl (.inl f)
          · exact .inl (.inr (.inl f))
          · exact .inr f
          · exact .inl (.inr (.inr (.inr f)))
    · have hk := h.kn e0
      have hw : a.w k = true := (h.w k).2 (.inr (.inr (.inl ⟨e0, rfl⟩)))
      obtain ⟨k', d', a', e1, W, hw', hor⟩ := turn_line (b := dirB (ats L)) h.so (dirB_bytes hok) (dirB_len hok) h.r (h.free hn.1) hk.2 hw
      have w0 : k' ≠ 0 := by
        rcases hor with ⟨f, _⟩ | ⟨_, f⟩
        · omega
        · exact fun g => held_w f ((h.w 0).2 (.inl rfl)) g.symm
      have w1 : k' ≠ 1 := by
        rcases hor with ⟨f, _⟩ | ⟨_, f⟩
        · omega
        · exact fun g => held_w f ((h.w 1).2 (.inr (.inl rfl))) g.symm
      have hnk : (k' : Int) ∉ ats L := fun hx => by
        rcases hor with ⟨f, _⟩ | ⟨_, f⟩
        · rw [f] at hx
          exact h.kd e0 hx
        · obtain ⟨x, hx, hxe⟩ := List.mem_map.1 hx
          exact held_w f (hmem hx hxe) rfl
      have hne : ∀ {x : Ls}, x ∈ L → ∀ {j : Nat}, x.at_ = (j : Int) → j ≠ k' := fun {x} hx {j} hj g => hnk (by rw [← g, ← hj]; exact List.mem_map_of_mem hx)
      rw [decide_eq_false (show ¬ ((k : Int) = 0) by omega), if_neg (by decide), show sealed (summed 6 ((ats L).length : Int) (rowE (ats L) (ats L).length)) = dirB (ats L) from rfl, turn_eq h.so.dev hB (by omega) (dirB_bytes hok) (by omega) h.so.al (by omega) (by omega), e1, Option.bind_some]
      refine ⟨k', d', a', rfl, ⟨⟨W.so, W.r.trans h.r, fun x hx => ?_, fun _ => hok, h.so', fun _ => ⟨by omega, W.lt⟩, fun j => ?_, fun _ => hnk, by rw [W.c, W.e]; exact h.ce, by rw [W.m]; exact h.m⟩, .inr ⟨by omega, e, W.new⟩⟩, W.m, fun j hj hm => W.old j hj fun g => ?_⟩
      · obtain ⟨j, f1, f2, f3, f4, f5⟩ := h.q x hx
        exact ⟨j, f1, f2, by rw [W.old j f2 (hne hx f1), f3], f4, f5⟩
      · rw [hw' j, h.w j]
        constructor
        · rintro (⟨f | f | ⟨_, f⟩ | f, f2⟩ | f)
          · exact .inl f
          · exact .inr (.inl f)
          · exact absurd f f2
          · exact .inr (.inr (.inr f))
          · exact .inr (.inr (.inl ⟨w0, f⟩))
        · rintro (f | f | ⟨_, f⟩ | f)
          · exact .inl ⟨.inl f, by omega⟩
          · exact .inl ⟨.inr (.inl f), by omega⟩
          · exact .inr f
          · refine .inl ⟨.inr (.inr (.inr f)), fun g => ?_⟩
            rw [g] at f
            exact h.kd e0 f
      · rcases hor with ⟨f, f2⟩ | ⟨_, f⟩
        · rw [g, f, f2] at hm
          cases hm
        · exact held_m f hm g
def inL' (L : List Ls) (s : List UInt8) : Prop := ∃ x ∈ L, x.q.Name = s
theorem cAt_zero {L : List Ls} {s : List UInt8} {p : Nat} (hn : ∀ x ∈ L, x.q.Name.length ≤ 300 ∧ NameOk x.q.Name) (hs : s.length ≤ 300) (hp : p < L.length) : cAt L s p = 0 ↔ L[p].q.Name = s := by
  unfold cAt nm
  rw [ix_nat hp]
  have hx := hn _ (List.getElem_mem hp)
  constructor
  · intro h
    exact name_same hx.1 hs hx.2 (cmpL_zero h)
  · intro h
    rw [h]
    exact cmpL_self _
structure At' (L : List Ls) (s : List UInt8) (p : Nat) : Prop where
  le : p ≤ L.length
  lo : ∀ q, q < p → cAt L s q < 0
  hi : ∀ q, p ≤ q → q < L.length → 0 ≤ cAt L s q
theorem At'.found {L : List Ls} {s : List UInt8} {p : Nat} (h : At' L s p) (hS : Sorted L) (hn : ∀ x ∈ L, x.q.Name.length ≤ 300 ∧ NameOk x.q.Name) (hs : s.length ≤ 300) : (p < L.length ∧ cAt L s p = 0) ↔ inL' L s := by
  constructor
  · rintro ⟨h1, h2⟩
    exact ⟨L[p], List.getElem_mem h1, (cAt_zero hn hs h1).1 h2⟩
  · rintro ⟨x, hx, e⟩
    obtain ⟨i, hi, rfl⟩ := List.getElem_of_mem hx
    have h0 := (cAt_zero hn hs hi).2 e
    have h1 : p ≤ i := by
      rcases Nat.lt_or_ge i p with q | q
      · have := h.lo i q
        omega
      · exact q
    rcases Nat.eq_or_lt_of_le h1 with q | q
    · subst q
      exact ⟨hi, h0⟩
    · have h2 := h.hi p (Nat.le_refl _) (by omega)
      have h3 := List.pairwise_iff_getElem.1 hS p i (by omega) hi q
      unfold cAt at h0 h2
      rw [ix_nat (by omega)] at h0 h2
      rw [← cmpL_zero h0] at h2
      omega
theorem At'.ins {L : List Ls} {x : Ls} {p : Nat} (h : At' L x.q.Name p) (hS : Sorted L) (hno : ∀ q, p ≤ q → q < L.length → cAt L x.q.Name q ≠ 0) : Sorted (L.take p ++ x :: L.drop p) := by
  unfold Sorted at hS ⊢
  have hlt : ∀ y ∈ L.take p, cmpL (nm y) (nm x) < 0 := fun y hy => by
    obtain ⟨i, hi, e⟩ := List.mem_take_iff_getElem.1 hy
    have := h.lo i (by omega)
    unfold cAt at this
    rw [ix_nat (by omega)] at this
    rw [← e]
    exact this
  have hgt : ∀ y ∈ L.drop p, cmpL (nm x) (nm y) < 0 := fun y hy => by
    obtain ⟨i, hi, e⟩ := List.getElem_of_mem hy
    rw [List.getElem_drop] at e
    rw [List.length_drop] at hi
    have h1 := h.hi (p + i) (by omega) (by omega)
    have h2 := hno (p + i) (by omega) (by omega)
    unfold cAt at h1 h2
    rw [ix_nat (show p + i < L.length by omega), e] at h1 h2
    have := cmpL_swap (nm y) (nm x)
    unfold nm at this h1 h2 ⊢
    omega
  rw [List.pairwise_append]
  refine ⟨hS.sublist (List.take_sublist _ _), List.pairwise_cons.2 ⟨hgt, hS.sublist (List.drop_sublist _ _)⟩, fun y hy z hz => ?_⟩
  rcases List.mem_cons.1 hz with rfl | hz
  · exact hlt y hy
  · exact cmpL_trans (hlt y hy) (hgt z hz)
theorem MS.nameOk {n : Nat} {B : Int} {M : Nat} {d : Dev} {a : AA} {k : Nat} {L : List Ls} (h : MS n B M d a k L) : ∀ x ∈ L, x.q.Name.length ≤ 300 ∧ NameOk x.q.Name := fun x hx => by
  obtain ⟨_, _, _, _, h1, h⟩ := h.q x hx
  exact ⟨h, h1.1⟩
theorem MS.place {fu n : Nat} {B : Int} {M : Nat} {d : Dev} {a : AA} {k : Nat} {L : List Ls} (hfu : 3000 < fu) (h : MS n B M d a k L) {s : List UInt8} (hs : s.length ≤ 300) :
    ∃ p : Nat, dir_place.f fu L s = some ((p : Int), decide (p < L.length ∧ cAt L s p = 0)) ∧ At' L s p := by
  obtain ⟨p, h1, h2, h3, h4⟩ := place_eq hfu (L := L) (s := s) (by have := h.len; omega) h.names hs h.so'
  exact ⟨p, h1, h2, h3, h4⟩
def newQ (s : List UInt8) : S_api_Queue := ⟨s, 0, Arr.rep 12 (0 : Int)⟩
theorem newQ_ok {s : List UInt8} : QueueOk (newQ s) ↔ NameOk s := by
  unfold QueueOk newQ
  constructor
  · exact fun h => h.1
  · refine fun h => ⟨h, ⟨Int.le_refl _, by show (0 : Int) ≤ 4095; decide⟩, fun i hi => ?_⟩
    unfold rootOk
    have : ((0 : Int).toNat / 2 ^ i % 2) = 0 := by simp
    rw [this]
    refine ⟨fun _ => ?_, fun e => by omega⟩
    have e : (Arr.rep 12 (0 : Int)).l = List.replicate 12 0 := rfl
    show ix (Arr.rep 12 (0 : Int)).l (i : Int) = 0
    rw [e, ix_nat (by simpa using hi), List.getElem_replicate]
theorem add_ok {fu n : Nat} {B : Int} {M : Nat} {d : Dev} {a : AA} {k : Nat} {L : List Ls} {s : List UInt8} (hfu : 3000 + n < fu) (h : DS n B M d a k L) (hB : B + 18 < 9223372036854775807) (hn : 21 + M < n ∧ n ≤ 3072) (hs : s.length ≤ 300) :
    (¬ NameOk s ∧ dir_Add.f fu (SO n d a) (k : Int) s = some (0, 14, SO n d a)) ∨ (NameOk s ∧ inL' L s ∧ dir_Add.f fu (SO n d a) (k : Int) s = some (0, 16, SO n d a)) ∨ (NameOk s ∧ ¬ inL' L s ∧ L.length = 16 ∧ dir_Add.f fu (SO n d a) (k : Int) s = some (0, 20, SO n d a)) ∨
    (NameOk s ∧ ¬ inL' L s ∧ L.length < 16 ∧ ∃ (p k' : Nat) (at_ : Int) (d' : Dev) (a' : AA), dir_Add.f fu (SO n d a) (k : Int) s = some ((k' : Int), 0, SO n d' a') ∧ At' L s p ∧ DS n (B + 18) M d' a' k' (L.take p ++ ⟨newQ s, at_⟩ :: L.drop p) ∧ a'.m = a.m ∧ Keep n a d d') := by
  have hrd : dir_read.f fu (SO n d a) (k : Int) = some (L, 0) := by rw [readP_eq (by omega) h.so.dev (by omega), h.read]
  obtain ⟨p, hp, hat⟩ := h.toMS.place (fu := fu) (by omega) hs
  have hL := h.len
  unfold dir_Add.f
  rw [hrd]
  simp only [Option.bind_some, decide_true, Bool.not_true, Bool.false_eq_true, if_false]
  rw [show (⟨s, (0 : Int), (Arr.rep 12 (0 : Int))⟩ : S_api_Queue) = newQ s from rfl, queuePut_eq (by omega) hs, Option.bind_some]
  by_cases e1 : NameOk s
  · have hq := newQ_ok.2 e1
    rw [if_pos hq, hp]
    simp only [Option.bind_some, Bool.not_true, Bool.false_eq_true, if_false]
    rw [show sealed (summed 5 ((newQ s).Name.length : Int) (queueE (newQ s))) = queB (newQ s) from rfl]
    have hfd := hat.found h.so' h.nameOk hs
    by_cases e2 : p < L.length ∧ cAt L s p = 0
    · rw [decide_eq_true e2, if_pos rfl]
      exact .inr (.inl ⟨e1, hfd.1 e2, rfl⟩)
    · have hno := mt hfd.2 e2
      rw [decide_eq_false e2, if_neg (by decide)]
      by_cases e3 : L.length = 16
      · rw [decide_eq_true (show (L.length : Int) = 16 by omega), if_pos rfl]
        exact .inr (.inr (.inl ⟨e1, hno, e3, rfl⟩))
      · refine .inr (.inr (.inr ⟨e1, hno, by omega, ?_⟩))
        obtain ⟨j, d1, f1, f2, W⟩ := make_line (b := queB (newQ s)) h.so (queB_bytes hs hq) (queB_len hs hq) h.r (h.toMS.free hn.1)
        rw [decide_eq_false (show ¬ ((L.length : Int) = 16) by omega), if_neg (by decide), make_eq h.so.dev (by omega) (by omega) (queB_bytes hs hq) (by omega) h.so.al (by omega) (by omega), f1]
        simp only [Option.bind_some, decide_true, Bool.not_true, Bool.false_eq_true, if_false]
        have hins : slices_Insert.f fu L (p : Int) [(⟨newQ s, (j : Int)⟩ : Ls)] = some (L.take p ++ ⟨newQ s, (j : Int)⟩ :: L.drop p) := by
          unfold slices_Insert.f
          rw [if_pos ⟨⟨by omega, by have := hat.le; omega⟩, rfl, lim_of' (by omega)⟩, Int.toNat_natCast]
          rfl
        rw [hins, Option.bind_some]
        have w0 := held_w f2 ((h.w 0).2 (.inl rfl))
        have w1 := held_w f2 ((h.w 1).2 (.inr (.inl rfl)))
        have hmem : ∀ {x : Ls}, x ∈ L → ∀ {j : Nat}, x.at_ = (j : Int) → a.w j = true := fun {x} hx {j} hj => (h.w j).2 (.inr (.inr (.inr (by rw [← hj]; exact List.mem_map_of_mem hx))))
        have hjn : (j : Int) ∉ ats L := fun hx => by
          obtain ⟨x, hx, hxe⟩ := List.mem_map.1 hx
          exact held_w f2 (hmem hx hxe) rfl
        have hmL : ∀ {x : Ls}, x ∈ L.take p ++ ⟨newQ s, (j : Int)⟩ :: L.drop p ↔ x = ⟨newQ s, (j : Int)⟩ ∨ x ∈ L := fun {x} => by
          conv => rhs; rw [← List.take_append_drop p L]
          simp only [List.mem_append, List.mem_cons]
          constructor
          · rintro (g | g | g)
            · exact .inr (.inl g)
            · exact .inl g
            · exact .inr (.inr g)
          · rintro (g | g | g)
            · exact .inr (.inl g)
            · exact .inl g
            · exact .inr (.inr g)
        have hma : ∀ {i : Int}, i ∈ ats (L.take p ++ ⟨newQ s, (j : Int)⟩ :: L.drop p) ↔ i = (j : Int) ∨ i ∈ ats L := fun {i} => by
          unfold ats
          rw [List.mem_map, List.mem_map]
          constructor
          · rintro ⟨x, hx, e⟩
            rcases hmL.1 hx with rfl | hx
            · exact .inl e.symm
            · exact .inr ⟨x, hx, e⟩
          · rintro (e | ⟨x, hx, e⟩)
            · exact ⟨_, hmL.2 (.inl rfl), e.symm⟩
            · exact ⟨x, hmL.2 (.inr hx), e⟩
        have hMS : MS n (B + 9) M d1 (a.put n j) k (L.take p ++ ⟨newQ s, (j : Int)⟩ :: L.drop p) := by
          refine ⟨W.so, h.r, fun x hx => ?_, fun _ => ?_, hat.ins (x := ⟨newQ s, (j : Int)⟩) h.so' (fun q hq hq2 => ?_), h.kn, fun i => ?_, fun hk hx => ?_, h.ce, h.m⟩
          · rcases hmL.1 hx with rfl | hx
            · exact ⟨j, rfl, W.lt, W.new, hq, hs⟩
            · obtain ⟨i, g1, g2, g3, g4, g5⟩ := h.q x hx
              exact ⟨i, g1, g2, by rw [W.old i g2 (held_w f2 (hmem hx g1)), g3], g4, g5⟩
          · rw [dirOk_iff]
            have hlen : (ats (L.take p ++ ⟨newQ s, (j : Int)⟩ :: L.drop p)).length = L.length + 1 := by
              have := hat.le
              simp [ats]
              omega
            have hperm : (ats (L.take p ++ ⟨newQ s, (j : Int)⟩ :: L.drop p)).Nodup := by
              have hnd : (ats L).Nodup := by
                by_cases q : L = []
                · subst q; simp [ats]
                · exact (dirOk_iff.1 (h.ok q)).2.2
              unfold ats at hnd hjn ⊢
              have e : (L.take p ++ (⟨newQ s, (j : Int)⟩ : Ls) :: L.drop p).Perm ((⟨newQ s, (j : Int)⟩ : Ls) :: L) := by
                have := List.perm_middle (a := (⟨newQ s, (j : Int)⟩ : Ls)) (l₁ := L.take p) (l₂ := L.drop p)
                rwa [List.take_append_drop] at this
              rw [(e.map _).nodup_iff]
              exact List.nodup_cons.2 ⟨hjn, hnd⟩
            refine ⟨⟨by omega, by omega⟩, fun x hx => ?_, hperm⟩
            rcases hma.1 hx with rfl | hx
            · unfold numOk
              have := W.lt
              omega
            · have : L ≠ [] := fun q => by subst q; simp [ats] at hx
              exact (dirOk_iff.1 (h.ok this)).2.1 x hx
          · intro g
            exact hno ⟨L[q], List.getElem_mem hq2, (cAt_zero h.nameOk hs hq2).1 g⟩
          · rw [put_w W.lt, h.w i, hma]
            constructor
            · rintro ((g | g | g | g) | g)
              · exact .inl g
              · exact .inr (.inl g)
              · exact .inr (.inr (.inl g))
              · exact .inr (.inr (.inr (.inr g)))
              · exact .inr (.inr (.inr (.inl (by omega))))
            · rintro (g | g | g | g | g)
              · exact .inl (.inl g)
              · exact .inl (.inr (.inl g))
              · exact .inl (.inr (.inr (.inl g)))
              · exact .inr (by omega)
              · exact .inl (.inr (.inr (.inr g)))
          · rcases hma.1 hx with g | g
            · exact held_w f2 ((h.w k).2 (.inr (.inr (.inl ⟨hk, rfl⟩)))) (by omega)
            · exact h.kd hk g
        obtain ⟨k', d', a', g1, g2, g3, g4⟩ := lay_ok hfu hMS (by omega) hn (fun q => by simp at q)
        rw [g1]
        refine ⟨p, k', (j : Int), d', a', rfl, hat, g2.up (by omega), g3, fun i hi hm => ?_⟩
        rw [g4 i hi hm, W.old i hi (held_m f2 hm)]
  · rw [if_neg (mt newQ_ok.1 e1)]
    exact .inl ⟨e1, rfl⟩
theorem loopM_iv {σ ε : Type} {step : σ → Option (Sum ε σ)} (I : Nat → σ → Prop) (Q : ε → Prop) (N : Nat) (h : ∀ j s, j < N → I j s → (∃ s', step s = some (.inr s') ∧ I (j + 1) s') ∨ ∃ e, step s = some (.inl e) ∧ Q e) (he : ∀ s, I N s → ∃ e, step s = some (.inl e) ∧ Q e) :
    ∀ (m j k : Nat) (s : σ), m + j = N → m < k → I j s → ∃ e, loopM step k s = some e ∧ Q e
  | 0, j, k + 1, s, hm, _, hI => by
    obtain ⟨e, h1, h2⟩ := he s (by rw [← hm, Nat.zero_add]; exact hI)
    refine ⟨e, ?_, h2⟩
    unfold loopM
    rw [h1]
  | m + 1, j, k + 1, s, hm, hk, hI => by
    rcases h j s (by omega) hI with ⟨s', h1, h2⟩ | ⟨e, h1, h2⟩
    · obtain ⟨e, g1, g2⟩ := loopM_iv I Q N h he m (j + 1) k s' (by omega) (by omega) h2
      refine ⟨e, ?_, g2⟩
      unfold loopM
      rw [h1]
      exact g1
    · refine ⟨e, ?_, h2⟩
      unfold loopM
      rw [h1]
theorem ini_iff {n j : Nat} (hn : 2 ≤ n) : ini n j = true ↔ j = 0 ∨ j = 1 := by
  unfold ini addF
  simp only [Bool.false_or, Bool.and_eq_true, decide_eq_true_eq, List.mem_cons, List.not_mem_nil, or_false]
  omega
theorem made_ds {n : Nat} (hn : 2 ≤ n) : DS n 0 2 (newD (8 * n)) (A0 n 0) 0 [] := by
  refine ⟨⟨⟨newD_ok _, newD_clean _, A0_ok (by decide)⟩, rfl, fun x hx => by simp at hx, fun h => absurd rfl h, List.Pairwise.nil, fun h => absurd rfl h, fun j => ?_, fun h => absurd rfl h, fun j hj => ?_, ?_⟩, .inl ⟨rfl, rfl⟩⟩
  · show ini n j = true ↔ _
    rw [ini_iff hn]
    simp [ats]
  · rcases hj with hj | hj
    · have := (ini_iff hn).1 hj
      simpa using this
    · have hj : nul n j = true := hj
      unfold nul addF at hj
      simp at hj
  · have h1 : cnt (ini n) n ≤ cnt (fun k => decide (k ∈ [0, 1])) n := cnt_mono fun k _ h => by
      have := (ini_iff hn).1 h
      simpa using this
    exact Nat.le_trans h1 (cnt_mem _ _)
theorem awake25 : rickyardlaw25_awake.f FU = some true := by decide +kernel
def Named (L : List Ls) (ns : List (List UInt8)) : Prop := ∀ x ∈ L, x.q = newQ x.q.Name ∧ x.q.Name ∈ ns
theorem fu25 {x : Nat} (h : x ≤ 25) : x < FU := Nat.lt_of_le_of_lt h (by decide)
theorem order_loop {ns : List (List UInt8)} (hl : ns.length ≤ 25) : ∃ e, loopM (rickyardlaw25_DirOrder.s0 FU ns) FU (0, 0, 0, SO 120 (newD (8 * 120)) (A0 120 0)) = some e ∧
    (e = Sum.inl true ∨ ∃ (k : Nat) (d : Dev) (a : AA) (L : List Ls), e = Sum.inr ((k : Int), (L.length : Int), SO 120 d a) ∧ DS 120 (18 * (ns.length : Int)) 2 d a k L ∧ Named L ns) := by
  refine loopM_iv (fun j s => ∃ (k : Nat) (d : Dev) (a : AA) (L : List Ls), s = ((k : Int), (L.length : Int), (j : Int), SO 120 d a) ∧ DS 120 (18 * (j : Int)) 2 d a k L ∧ Named L ns) _ ns.length ?_ ?_ ns.length 0 FU _ (by omega) (fu25 (by omega)) ⟨0, _, _, [], rfl, made_ds (by omega), fun x hx => by simp at hx⟩
  · rintro j s hj ⟨k, d, a, L, rfl, hD, hN⟩
    have c0 : (j : Int) < (ns.length : Int) := by omega
    have c1 : 0 ≤ (j : Int) ∧ (j : Int) < (ns.length : Int) := by omega
    have w3 : IntKind.i64.wrap ((j : Int) + 1) = ((j + 1 : Nat) : Int) := by rw [w64 (by omega) (by omega)]; omega
    have hL := hD.toMS.len
    unfold rickyardlaw25_DirOrder.s0
    simp only [decide_eq_true c0, if_true, if_pos c1, ix_nat hj, w3]
    by_cases e1 : (ns[j].length : Int) > 100
    · right
      rw [decide_eq_true e1, if_pos rfl]
      exact ⟨_, rfl, .inl rfl⟩
    · left
      rw [decide_eq_false e1, if_neg (by decide)]
      have same : ∀ {er : Int}, er ≠ 0 → dir_Add.f FU (SO 120 d a) (k : Int) ns[j] = some (0, er, SO 120 d a) → ∃ s', ((dir_Add.f FU (SO 120 d a) (k : Int) ns[j]).bind fun t31 => (((if (decide (t31.2.1 = 0)) = true then some (t31.1, (IntKind.i64.wrap ((L.length : Int) + 1))) else some ((k : Int), (L.length : Int))) : Option (Int × Int)).bind fun x33 => some (Sum.inr (x33.1, x33.2, ((j + 1 : Nat) : Int), t31.2.2)))) = some (Sum.inr s' : Sum (Sum Bool (Int × Int × S_shadow_Store)) _) ∧ ∃ (k' : Nat) (d' : Dev) (a' : AA) (L' : List Ls), s' = ((k' : Int), (L'.length : Int), ((j + 1 : Nat) : Int), SO 120 d' a') ∧ DS 120 (18 * ((j + 1 : Nat) : Int)) 2 d' a' k' L' ∧ Named L' ns := fun {er} h0 h1 => by
        rw [h1]
        simp only [Option.bind_some]
        rw [decide_eq_false h0, if_neg (by decide)]
        exact ⟨_, rfl, k, d, a, L, rfl, hD.up (by omega), hN⟩
      rcases add_ok (fu := FU) (s := ns[j]) (by decide) hD (by omega) (by decide) (by omega) with ⟨_, q⟩ | ⟨_, _, q⟩ | ⟨_, _, _, q⟩ | ⟨_, _, hlt, p, k', at_, d', a', q, hat, hD', _, _⟩
      · exact same (by decide) q
      · exact same (by decide) q
      · exact same (by decide) q
      · have w4 : IntKind.i64.wrap ((L.length : Int) + 1) = ((L.length + 1 : Nat) : Int) := by rw [w64 (by omega) (by omega)]; omega
        rw [q]
        simp only [Option.bind_some, decide_true, if_true, w4]
        have hlen : (L.take p ++ (⟨newQ ns[j], at_⟩ : Ls) :: L.drop p).length = L.length + 1 := by
          have := hat.le
          rw [List.length_append, List.length_take, List.length_cons, List.length_drop]
          omega
        refine ⟨_, rfl, k', d', a', _, by rw [hlen], hD'.up (by omega), fun x hx => ?_⟩
        rcases List.mem_append.1 hx with h | h
        · exact hN x (List.mem_of_mem_take h)
        · rcases List.mem_cons.1 h with rfl | h
          · exact ⟨rfl, List.getElem_mem hj⟩
          · exact hN x (List.mem_of_mem_drop h)
  · rintro s ⟨k, d, a, L, rfl, hD, hN⟩
    refine ⟨_, by unfold rickyardlaw25_DirOrder.s0; rw [decide_eq_false (show ¬ ((ns.length : Int) < (ns.length : Int)) by omega), if_neg (by decide)], .inr ⟨k, d, a, L, rfl, hD, hN⟩⟩
theorem among_loop {fu : Nat} {ns : List (List UInt8)} {qs : List S_api_Queue} {e : Int} {i : Nat} (hl : ns.length ≤ 25) (hi : i < qs.length) (hf : 25 < fu) (hm : (qs[i]).Name ∈ ns) : loopM (rickyardlaw25_DirOrder.s2 fu ns (qs, e) (i : Int)) fu (false, 0) = some true := by
  refine loopM_run (S := fun j => (decide ((qs[i]).Name ∈ ns.take j), (j : Int))) ns.length (by simp) (fun j hj => ?_) ?_ (by omega)
  · have w3 : IntKind.i64.wrap ((j : Int) + 1) = ((j + 1 : Nat) : Int) := by rw [w64 (by omega) (by omega)]; omega
    unfold rickyardlaw25_DirOrder.s2
    rw [decide_eq_true (show (j : Int) < (ns.length : Int) by omega), if_pos rfl, w3, List.take_add_one, List.getElem?_eq_getElem hj]
    by_cases q : (qs[i]).Name ∈ ns.take j
    · rw [decide_eq_true q, if_pos rfl, decide_eq_true (List.mem_append.2 (.inl q))]
    · rw [decide_eq_false q]
      simp only [Bool.false_eq_true, if_false]
      rw [if_pos (show 0 ≤ (j : Int) ∧ (j : Int) < (ns.length : Int) by omega), if_pos (show 0 ≤ (i : Int) ∧ (i : Int) < (qs.length : Int) by omega), ix_nat hj, ix_nat hi]
      have : (ns[j] = (qs[i]).Name) ↔ (qs[i]).Name ∈ ns.take j ++ (some ns[j]).toList := by
        simp only [List.mem_append, Option.toList_some, List.mem_singleton]
        constructor
        · exact fun h => .inr h.symm
        · rintro (h | h)
          · exact absurd h q
          · exact h.symm
      rw [decide_eq_decide.2 this]
  · unfold rickyardlaw25_DirOrder.s2
    rw [decide_eq_false (show ¬ ((ns.length : Int) < (ns.length : Int)) by omega), if_neg (by decide), List.take_length, decide_eq_true hm]
theorem DirOrder : ∀ (a0 : List (List UInt8)), okv 9 (⟨.sl (.str), a0⟩ : PV G.toSg) → ∃ fu, rickyardlaw25_DirOrder.f fu a0 = some true := by
  intro ns _
  refine ⟨FU, ?_⟩
  unfold rickyardlaw25_DirOrder.f
  rw [awake25]
  simp only [Option.bind_some, Bool.not_true, Bool.false_eq_true, if_false]
  by_cases hl : (ns.length : Int) > 25
  · rw [decide_eq_true hl, if_pos rfl]
  · have hl : ns.length ≤ 25 := by omega
    have hm : rickyardlaw19_Made.f FU 120 0 = some (some (SO 120 (newD (8 * 120)) (A0 120 0)), some (newD (8 * 120)), some ((A0 120 0).of 120)) := made_eq (fu := FU) (n := 120) (r := 0) (by decide) (by decide) (by decide)
    rw [decide_eq_false (show ¬ ((ns.length : Int) > 25) by omega), if_neg (by decide), hm]
    simp only [Option.bind_some, Option.elim]
    obtain ⟨e, h1, h2⟩ := order_loop hl
    have h1' : loopM (rickyardlaw25_DirOrder.s0 FU ns) FU (0, 0, 0, (⟨newD (8 * 120), (A0 120 0).of 120⟩ : S_shadow_Store)) = some e := h1
    rw [h1']
    rcases h2 with rfl | ⟨k, d, a, L, rfl, hD, hN⟩
    · rfl
    · have hL := hD.toMS.len
      have hls : dir_List.f FU (SO 120 d a) (k : Int) = some (L.map (fun x : Ls => x.q), 0) := list_eq' (by decide) hD.so.dev (by decide) hD.read (by omega)
      simp only [Option.bind_some]
      rw [hls]
      simp only [Option.bind_some, decide_true, Bool.not_true, Bool.false_eq_true, if_false, List.length_map]
      have hloop : loopM (rickyardlaw25_DirOrder.s1 FU ns ((k : Int), (L.length : Int), SO 120 d a) (L.map (fun x : Ls => x.q), 0)) FU 0 = some (Sum.inr ()) := by
        refine loopM_run (S := fun j => (j : Int)) L.length rfl (fun j hj => ?_) ?_ (fu25 (by omega))
        · have w3 : IntKind.i64.wrap ((j : Int) + 1) = ((j + 1 : Nat) : Int) := by rw [w64 (by omega) (by omega)]; omega
          have hjm : j < (L.map (fun x : Ls => x.q)).length := by simpa using hj
          have hx := hN _ (List.getElem_mem hj)
          unfold rickyardlaw25_DirOrder.s1
          rw [decide_eq_true (show (j : Int) < (L.length : Int) by omega), if_pos rfl, among_loop (fu := FU) hl hjm (by decide) (by rw [List.getElem_map]; exact hx.2), Option.bind_some]
          have c1 : 0 ≤ (j : Int) ∧ (j : Int) < ((L.map (fun x : Ls => x.q)).length : Int) := by rw [List.length_map]; omega
          simp only [Bool.not_true, Bool.false_eq_true, if_false, if_pos c1, ix_nat hjm, List.getElem_map]
          rw [show (⟨L[j].q.Name, (0 : Int), (Arr.rep 12 (0 : Int))⟩ : S_api_Queue) = newQ L[j].q.Name from rfl, decide_eq_true hx.1]
          simp only [Bool.not_true, Bool.false_eq_true, if_false, w3]
          by_cases h0 : j = 0
          · subst h0
            rfl
          · have w4 : IntKind.i64.wrap ((j : Int) - 1) = ((j - 1 : Nat) : Int) := by rw [w64 (by omega) (by omega)]; omega
            have hjm2 : j - 1 < (L.map (fun x : Ls => x.q)).length := by omega
            have c2 : 0 ≤ ((j - 1 : Nat) : Int) ∧ ((j - 1 : Nat) : Int) < ((L.map (fun x : Ls => x.q)).length : Int) := by omega
            rw [decide_eq_true (show (j : Int) > 0 by omega), if_pos rfl, w4, if_pos c2, ix_nat hjm2, List.getElem_map]
            have hs := List.pairwise_iff_getElem.1 hD.so' (j - 1) j (by omega) hj (by omega)
            have n1 := hD.toMS.nameOk _ (List.getElem_mem (show j - 1 < L.length by omega))
            have n2 := hD.toMS.nameOk _ (List.getElem_mem hj)
            rw [name_less n1.1 n2.1 n1.2 n2.2 hs]
            rfl
        · unfold rickyardlaw25_DirOrder.s1
          rw [decide_eq_false (show ¬ ((L.length : Int) < (L.length : Int)) by omega), if_neg (by decide)]
      rw [hloop]
      rfl
end Go.Proofs.YtdifnahlheogdaaDoor.Pure
namespace Go.Proofs.YtdifnahlheogdaaDoor.dirOrder
open Go.ChangeShapes Go.WideShapes Go.ChangeAt Go.RowKit
open Go.ChangeMaps (open_string shut_string)
open Go Go.Xw Go.Yw
theorem own : ownKnob Tryd.prog.godebug = none := Facts.own
theorem laidOut : laidOutB Tryd.prog = true := Facts.laid
theorem closed : joinedFacts Tryd.pinned.checked.prog 8 Tryd.f8 Rows.dirOrderSpec Rows.dirOrderRow = true := by
  unfold joinedFacts
  rw [Facts.enter, Facts.lifts, Facts.make, Facts.laid, Facts.rowed, Facts.plain, Facts.heard]
  kernel_rfl
set_option maxRecDepth 100000 in
set_option maxHeartbeats 1000000 in
theorem lifted (os : Os) (started : os.Started) (H : Type) (enc : TypeId × Value → H) :
    ReturnsInHanded {} Tryd.checked os 8 .any (fun w args => (Rows.dirOrderSpec.pre enc Tryd.prog Tryd.f8 [] false w args ∧ laidMetH Tryd.prog Laid.L0 w) ∧ sizedMet enc Tryd.prog Tryd.f8 (OpenSpec.ofChange Rows.dirOrderSpec) false w args) (Rows.dirOrderSpec.post enc Tryd.prog Tryd.f8 false true false false) := by
  refine returnsInHanded_of_change_and (C := Tryd.checked) (X := fun w _ => laidMetH Tryd.prog Laid.L0 w) (fun _ _ _ hh h => h.of_heap hh) own started (by kernel_rfl) Tryd.func8
    (ChangeSpec.witness_shaped (enc := enc) (C := Tryd.checked) (os := os) (X := fun w _ => laidMetH Tryd.prog Laid.L0 w) false (World.doorLaid Tryd.prog 400 os) #[.slice none 0 0] 8 rfl (World.shaped_of_RefB (by kernel_rfl) (by kernel_rfl)) (by kernel_rfl) (by kernel_rfl) (by kernel_rfl) (Laid.met os _)) ?_
  intro W base args ds gs before hval0 hW _ _ hL _
  have hval : ∀ (j : Nat) t v, Tryd.f8.params[j]? = some t → args[j]? = some v → Value.okWide Tryd.prog W .any base t v := hval0
  have hW' := hW
  obtain ⟨p, q, hA0, hV, rfl, hfz, hnd⟩ := hW
  have hA : DataW.TrodAll enc Tryd.prog W 0 (fun _ => true) true Tryd.f8.params.toList args.toList ds p := hA0
  rw [Tryd.params8] at hA hval
  obtain ⟨v0, vs0, d0, ds0, p0, q0, hargs, rfl, rfl, h0, r0⟩ := trodAll_cons hA
  obtain ⟨rfl, rfl, rfl⟩ := trodAll_nil r0
  obtain rfl : args = #[v0] := by cases args; simp_all
  obtain ⟨rfl, rfl⟩ := trodVars_none hV
  have k0 := h0
  have lt0 : ∀ x ∈ p0, x.block < W.heap.size := by obtain ⟨m, hm⟩ := k0; exact DataW.trod_lt m _ _ _ hm
  obtain ⟨fu0, hf0⟩ := h0
  obtain ⟨a0, c0, o0⟩ := open_ok (Γ := G) gok full0 9 57 (.sl (.str)) (by kernel_rfl) enc _ _ _ _ _ _ hf0
  have w0 : VR (Γ := G) (fun _ => none) W (Low W) (.v (.sl (.str)) a0) v0 := arg_ok (P := Tryd.prog) (base := base) (n := 8) gok c0 (hval 0 57 v0 rfl rfl) (by kernel_rfl)
  obtain ⟨fu, hfu⟩ := Pure.DirOrder a0 o0
  refine Calls.mono (law_ok (rickyardlaw25_DirOrder.sc fu a0 true hfu) (.cons w0 .nil) (Laid.gl hL)) fun e W' hr => ?_
  obtain ⟨v, rfl, rfl, gr⟩ := hr
  have bel := Fr.below gr
  exact ⟨_, rfl, _, _, _, [], _, [], hW', trodAll_mk1 (shut_bool Tryd.underlying4 _), (trodAll_cons_mk (Below.trod laidOut (by kernel_rfl) (of_decide_eq_true (by kernel_rfl)) k0 bel lt0) trodAll_mk0), rfl, bel.frame _, fun h => by cases h⟩
theorem over : Rows.dirOrderRow.holds Tryd.pinned (OpenSpec.ofChange Rows.dirOrderSpec) :=
  OpenClaim.holds_of_wide 8 Tryd.f8 rfl rfl rfl rfl rfl rfl rfl ⟨rfl, rfl, rfl, rfl, rfl⟩ rfl rfl rfl rfl rfl (by kernel_rfl) Tryd.func8 closed
    (of_decide_eq_true (by kernel_rfl)) (by unfold Func.isWrapper; first | (rw [if_pos (by decide +kernel)]; kernel_rfl) | (rw [if_neg (by decide +kernel)]; exact ⟨rfl, rfl⟩))
    (fun os started H enc _ => lifted os started H enc)
theorem card : Rows.DirOrderCardSaid :=
  Claim7.holds_tied_plain_at .later [] [.data] true (true, "979bcd4b5e59f6cd4e5fd9cc72609fc7cce4b3df3e2b5c7c49de09907c292303") false
    over (fun _ h => by cases h) (by kernel_rfl) (fun _ h => by cases h) dirOrder_row_tie rfl ⟨rfl, rfl⟩ (by kernel_rfl) rfl
    (fun f fn hf hfn => by
      obtain rfl : f = 8 := Option.some.inj ((show Tryd.prog.funcNamed "rickyard/rickyardlaw25.DirOrder" = some 8 by kernel_rfl).symm.trans hf) |>.symm
      obtain rfl : fn = Tryd.f8 := (Option.some.inj (Tryd.func8.symm.trans hfn)).symm
      exact ⟨by kernel_rfl, fun j t ht => by
        rw [Tryd.params8] at ht
        have hm : t ∈ [57] := by simpa using Array.mem_of_getElem? ht
        have hall : ([57].all fun u => !Tryd.prog.wantsStandIn u) = true := by kernel_rfl
        exact (show Tryd.prog.wantsStandIn t = false by simpa using List.all_eq_true.1 hall t hm)⟩)
    (by kernel_rfl)
end Go.Proofs.YtdifnahlheogdaaDoor.dirOrder
namespace Go.Proofs.YtdifnahlheogdaaDoor
theorem dirOrder_holds : Rows.DirOrderCardSaid := dirOrder.card
#print axioms dirOrder_holds
end Go.Proofs.YtdifnahlheogdaaDoor
