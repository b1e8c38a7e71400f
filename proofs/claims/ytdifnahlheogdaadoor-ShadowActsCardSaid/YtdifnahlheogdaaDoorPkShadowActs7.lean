/- ShadowActs: texts merged, part 7 of 7. The last part proves that the law ShadowActs holds for every input. -/
import Derived.Test.YtdifnahlheogdaaDoorPkShadowActs6
import Derived.Test.YtdifnahlheogdaaDoorCards
import Derived.Test.YtdifnahlheogdaaDoorTie
import Derived.OpenShut
import Derived.ProofKit
import Derived.ChangeOld
import Derived.Below
import Derived.SizedLaws
import Derived.SevenTiedAt
set_option maxRecDepth 100000
set_option maxHeartbeats 4000000
set_option linter.unusedVariables false
set_option linter.unusedSimpArgs false
namespace Go.Proofs.YtdifnahlheogdaaDoor.Pure
open Go Go.Xw Go.Yw
structure SOk (n : Nat) (B : Int) (d : Dev) (a : AA) : Prop where
  dev : DevOk (8 * n) B d
  cl : Clean d
  al : AOk n a
theorem SOk.up {n : Nat} {B C : Int} {d : Dev} {a : AA} (h : SOk n B d a) (hc : B ≤ C) : SOk n C d a := ⟨h.dev.up hc, h.cl, h.al⟩
theorem SOk.len {n : Nat} {B : Int} {d : Dev} {a : AA} (h : SOk n B d a) : d.cells.length = 8 * n := h.dev.len
def Stay (n : Nat) (K : Nat → Bool) (d e : Dev) : Prop := ∀ i : Nat, i < 8 * n → (K (i / 8) = true → ix e.cells (i : Int) = ix d.cells (i : Int)) ∧ (ix e.cells (i : Int) = ix d.cells (i : Int) ∨ ∃ s, ix e.cells (i : Int) = ⟨(ix d.cells (i : Int)).lasts, s, s, true⟩)
theorem Stay.refl (n : Nat) (K : Nat → Bool) (d : Dev) : Stay n K d d := fun i _ => ⟨fun _ => rfl, .inl rfl⟩
def Grow (a a' : AA) : Prop := ∃ w', a' = a.setW w' ∧ ∀ k, w' k = true → a.w k = true ∨ a.held k = false
theorem Grow.refl (a : AA) : Grow a a := ⟨a.w, rfl, fun k h => .inl h⟩
theorem Grow.give {n : Nat} {a a' : AA} {k : Int} (h : Grow a a') : Grow a (a'.give n k).2 := by
  obtain ⟨w1, rfl, h1⟩ := h
  unfold AA.give
  split
  · exact ⟨_, rfl, fun j hj => h1 j (Bool.and_eq_true_iff.1 hj).1⟩
  · exact ⟨w1, rfl, h1⟩
theorem rest_eq {fu : Nat} {k m : Int} (hk : I64 k) (hm : 0 < m ∧ m ≤ 1000) : rickyardref01_Rest.f fu k m = some (k % m) := by
  unfold rickyardref01_Rest.f
  have e : m ≠ 0 := by omega
  rw [if_pos e, if_pos e]
  have h1 : -m < Int.tmod k m ∧ Int.tmod k m < m := by
    rcases Int.lt_or_le k 0 with h | h
    · have e1 : Int.tmod k m = -(Int.tmod (-k) m) := by rw [Int.neg_tmod, Int.neg_neg]
      have e2 : Int.tmod (-k) m = (-k) % m := Int.tmod_eq_emod_of_nonneg (by omega)
      have := Int.emod_nonneg (-k) e
      have := Int.emod_lt_of_pos (-k) hm.1
      omega
    · have e2 : Int.tmod k m = k % m := Int.tmod_eq_emod_of_nonneg h
      have := Int.emod_nonneg k e
      have := Int.emod_lt_of_pos k hm.1
      omega
  rw [w64 (by omega) (by omega), Int.tmod_eq_emod_of_nonneg (by omega), Int.add_emod_right]
  have h2 : Int.tmod k m = k - m * Int.tdiv k m := by have := Int.tmod_add_mul_tdiv k m; omega
  rw [h2, Int.sub_mul_emod_self_left]
def okX (x : S_rickyardlaw19_Act) : Prop := I64 x.Kind ∧ I64 x.At ∧ Bytes x.B
theorem small_ex {fu m : Nat} {acts : List S_rickyardlaw19_Act} (hm : m ≤ 1000) (hf : m < fu) : ∃ b, rickyardlaw19_small.f fu acts (m : Int) = some b ∧ (b = true → acts.length ≤ m) := by
  unfold rickyardlaw19_small.f
  by_cases h : (acts.length : Int) > (m : Int)
  · rw [decide_eq_true h, if_pos rfl]
    exact ⟨false, rfl, fun h => by cases h⟩
  · rw [decide_eq_false h, if_neg (by decide)]
    have hl : acts.length ≤ m := by omega
    have : ∃ e, loopM (rickyardlaw19_small.s0 fu acts) fu ((0 : Nat) : Int) = some e := by
      refine loopM_term (fun j => ((j : Nat) : Int)) acts.length (fun j hj => ?_) ?_ (by omega) (by omega)
      · unfold rickyardlaw19_small.s0
        have c1 : 0 ≤ (j : Int) ∧ (j : Int) < (acts.length : Int) := by omega
        rw [decide_eq_true c1.2, if_pos rfl, if_pos c1, next64 hj (by omega)]
        split
        · exact .inl ⟨_, rfl⟩
        · exact .inr rfl
      · unfold rickyardlaw19_small.s0
        rw [decide_eq_false (show ¬ ((acts.length : Int) < (acts.length : Int)) by omega), if_neg (by decide)]
        exact ⟨_, rfl⟩
    obtain ⟨e, h1⟩ := this
    rw [show ((0 : Nat) : Int) = 0 from rfl] at h1
    rw [h1]
    cases e with
    | inl b => exact ⟨b, rfl, fun _ => hl⟩
    | inr u => exact ⟨true, rfl, fun _ => hl⟩
theorem ints_eq {fu : Nat} {l : List Int} (hl : l.length ≤ 100000) (hf : l.length < fu) : rickyardref01_Ints.f fu l l = some true := by
  unfold rickyardref01_Ints.f
  rw [decide_eq_true (rfl : (l.length : Int) = (l.length : Int)), if_neg (by decide)]
  have : loopM (rickyardref01_Ints.s0 fu l l) fu 0 = some (.inr ()) := by
    refine loopM_run (S := fun j => ((j : Nat) : Int)) l.length rfl ?_ ?_ hf
    · intro j hj
      unfold rickyardref01_Ints.s0
      have c1 : 0 ≤ (j : Int) ∧ (j : Int) < (l.length : Int) := by omega
      rw [decide_eq_true c1.2, if_pos rfl, if_pos c1, if_pos c1, decide_eq_true (rfl : ix l (j : Int) = ix l (j : Int)), if_neg (by decide), next64 hj hl]
    · unfold rickyardref01_Ints.s0
      rw [decide_eq_false (show ¬ ((l.length : Int) < (l.length : Int)) by omega), if_neg (by decide)]
  rw [this]
  rfl
abbrev Ref := S_rickyardref05_Device
def sentD (d : Dev) : List Int := d.cells.map fun c => c.sent
def flushedD (d : Dev) : List Bool := d.cells.map fun c => c.flushed
def toM (d : Dev) (s : Int) : Ref := ⟨lastsD d, storedD d, sentD d, flushedD d, d.plan.list, s, if d.armed = true then d.left else -1, d.steps⟩
theorem set_same {α : Type} [Inhabited α] (l : List α) (k : Nat) (h : k < l.length) : l.set k (ix l (k : Int)) = l := by
  rw [ix_nat h]
  exact List.set_getElem_self h
theorem ix_map' {α β : Type} [Inhabited α] [Inhabited β] (f : α → β) (cs : List α) (k : Nat) (h : k < cs.length) : ix (cs.map f) (k : Int) = f (ix cs (k : Int)) := by
  rw [ix_nat (by simpa using h), ix_nat h, List.getElem_map]
theorem stored_keep {cs : List Cell} {k : Nat} {w : Int} (hl : k < cs.length) : (cs.set k (keepC (ix cs (k : Int)) w)).map (fun c => c.stored) = cs.map fun c => c.stored := by
  rw [List.map_set]
  have : (keepC (ix cs (k : Int)) w).stored = ix (cs.map fun c => c.stored) (k : Int) := by rw [ix_map' _ _ _ hl]; rfl
  rw [this, set_same _ _ (by simpa using hl)]
theorem rlast_eq {fu : Nat} {cs : List Cell} {k : Nat} {w : Int} {pl : List Int} {s le st : Int} (hl : k < cs.length) :
    rickyardref05_Device_last.f fu (⟨cs.map (fun c => c.lasts), cs.map (fun c => c.stored), cs.map (fun c => c.sent), cs.map (fun c => c.flushed), pl, s, le, st⟩ : Ref) (k : Int) w = some (⟨(cs.set k (keepC (ix cs (k : Int)) w)).map (fun c => c.lasts), (cs.set k (keepC (ix cs (k : Int)) w)).map (fun c => c.stored), (cs.set k (keepC (ix cs (k : Int)) w)).map (fun c => c.sent), (cs.set k (keepC (ix cs (k : Int)) w)).map (fun c => c.flushed), pl, s, le, st⟩ : Ref) := by
  unfold rickyardref05_Device_last.f
  simp only [List.length_map]
  rw [if_pos (by omega), if_pos (by omega), if_pos (by omega), Int.toNat_natCast, stored_keep hl, List.map_set, List.map_set, List.map_set]
  rfl
theorem rdstep_eq {fu n : Nat} {B s : Int} {d : Dev} (h : DevOk n B d) (hB : B < 9223372036854775807) (hs : 0 ≤ s ∧ s < 9223372036854775807) (hp : d.plan.list = []) (ho : d.off = false) : rickyardref05_Device_step.f fu (toM d s) = some (toM (tick d) (s + 1)) := by
  unfold rickyardref05_Device_step.f
  have hst := h.st
  have w1 : IntKind.i64.wrap (d.steps + 1) = d.steps + 1 := w64 (by omega) (by omega)
  have w2 : IntKind.i64.wrap (s + 1) = s + 1 := w64 (by omega) (by omega)
  have hq : pick d.plan = -1 := by simp [pick, hp]
  have hn : nextP d.plan = d.plan := by simp [nextP, hp]
  rw [show (toM d s).Plan = d.plan.list from rfl, hp, decide_eq_false (show ¬ ((([] : List Int).length : Int) > 0) by decide), if_neg (by decide), show (toM d s).Since = s from rfl, show (toM d s).Steps = d.steps from rfl, w1, w2, show (toM d s).Left = (if d.armed = true then d.left else -1) from rfl]
  have ht : tick d = ⟨d.cells, d.plan, if d.armed then decide (d.left - 1 = 0) else d.off, d.armed, if d.armed then d.left - 1 else d.left, d.steps + 1⟩ := by
    unfold tick
    rw [hq, hn, evict_no _ (by decide)]
  rw [ht]
  cases ha : d.armed
  · simp only [Bool.false_eq_true, if_false]
    rw [decide_eq_false (show ¬ ((-1 : Int) > 0) by decide), if_neg (by decide)]
    simp only [Option.bind_some, toM, lastsD, storedD, sentD, flushedD, hp]
    rfl
  · obtain ⟨l0, l1, l2⟩ := h.arm ha
    rw [ho] at l2
    have : d.left ≠ 0 := fun e => by rw [e] at l2; exact absurd l2 (by decide)
    simp only [if_true]
    rw [decide_eq_true (show d.left > 0 by omega), if_pos rfl, w64 (by omega) (by omega)]
    simp only [Option.bind_some, toM, lastsD, storedD, sentD, flushedD, hp]
    rfl
theorem rerror_eq {fu n : Nat} {B s k m : Int} {d : Dev} (h : DevOk n B d) : rickyardref05_Device_error.f fu (toM d s) k m = some (mayI d.off k m) := by
  unfold rickyardref05_Device_error.f mayI toM
  have hl : (if d.armed = true then d.left else -1) = 0 ↔ d.off = true := by
    cases ha : d.armed
    · have := h.una ha
      simp [this]
    · have := (h.arm ha).2.2
      rw [this]
      simp
  simp only []
  by_cases e : d.off = true
  · rw [decide_eq_true (hl.2 e), if_pos rfl, if_pos e]
  · rw [decide_eq_false (fun q => e (hl.1 q)), if_neg (by decide), if_neg e]
    by_cases h1 : k < 0
    · simp [h1]
    · by_cases h2 : k ≥ m <;> simp [h1, h2]
def inc (b : Prop) [Decidable b] (s : Int) : Int := if b then s + 1 else s
theorem with_toM (d : Dev) (cs : List Cell) (s : Int) : toM (withC d cs) s = ⟨cs.map (fun c => c.lasts), cs.map (fun c => c.stored), cs.map (fun c => c.sent), cs.map (fun c => c.flushed), d.plan.list, s, if d.armed = true then d.left else -1, d.steps⟩ := rfl
theorem rstore_eq {fu n : Nat} {B s k w : Int} {d : Dev} (h : DevOk n B d) (hB : B < 9223372036854775807) (hs : 0 ≤ s ∧ s < 9223372036854775807) (hp : d.plan.list = []) (hw : U64 w) : rickyardref05_Device_Store.f fu (toM d s) k w = some ((storeD d k w).1, toM (storeD d k w).2 (inc (mayI d.off k (d.cells.length : Int) = 0) s)) := by
  unfold rickyardref05_Device_Store.f storeD inc
  have hll : (toM d s).Lasts.length = d.cells.length := by simp [toM, lastsD]
  rw [hll, rerror_eq h]
  simp only [Option.bind_some]
  by_cases e : mayI d.off k (d.cells.length : Int) = 0
  · obtain ⟨ho, h0, h1⟩ := may_zero.1 e
    have hsl : (toM d s).Stored.length = d.cells.length := by simp [toM, storedD]
    rw [decide_eq_true e, if_pos rfl, hsl, if_pos ⟨h0, h1⟩, if_pos e, if_pos e]
    obtain ⟨j, rfl⟩ : ∃ j : Nat, k = (j : Int) := ⟨k.toNat, by omega⟩
    have hj : j < d.cells.length := by omega
    have hput : putC (j : Int) w d.cells = d.cells.set j ⟨(ix d.cells (j : Int)).lasts, w, (ix d.cells (j : Int)).sent, (ix d.cells (j : Int)).flushed⟩ := by
      rw [set_upd (fun c => ⟨c.lasts, w, c.sent, c.flushed⟩) hj]
      apply List.ext_getElem (by simp [putC])
      intro i h1 h2
      simp only [putC, List.getElem_mapIdx, Int.natCast_inj]
    have e1 : (⟨(toM d s).Lasts, (List.set (toM d s).Stored (Int.toNat (j : Int)) w), (toM d s).Sent, (toM d s).Flushed, (toM d s).Plan, (toM d s).Since, (toM d s).Left, (toM d s).Steps⟩ : Ref) = toM (withC d (putC (j : Int) w d.cells)) s := by
      rw [with_toM, hput, List.map_set, List.map_set, List.map_set, List.map_set]
      have a1 : (ix d.cells (j : Int)).lasts = ix (d.cells.map fun c => c.lasts) (j : Int) := (ix_map' _ _ _ hj).symm
      have a2 : (ix d.cells (j : Int)).sent = ix (d.cells.map fun c => c.sent) (j : Int) := (ix_map' _ _ _ hj).symm
      have a3 : (ix d.cells (j : Int)).flushed = ix (d.cells.map fun c => c.flushed) (j : Int) := (ix_map' (fun c : Cell => c.flushed) _ _ hj).symm
      simp only []
      rw [a1, a2, a3, set_same _ _ (by simpa using hj), set_same _ _ (by simpa using hj), set_same _ _ (by simpa using hj)]
      rfl
    have hok : DevOk n B (withC d (putC (j : Int) w d.cells)) := with_ok h (by simp [putC, h.len]) (mapIdx_ok h.val fun i c hc => by
      split
      · exact ⟨hc.1, hw, hc.2.2⟩
      · exact hc)
    rw [e1, rdstep_eq hok hB hs hp ho]
    simp only [Option.bind_some, e]
  · rw [decide_eq_false e, if_neg (by decide), if_neg e, if_neg e]
    rfl
theorem rload_eq {fu n : Nat} {B s k : Int} {d : Dev} (h : DevOk n B d) : rickyardref05_Device_Load.f fu (toM d s) k = some (loadD d k) := by
  unfold rickyardref05_Device_Load.f loadD
  have hll : (toM d s).Lasts.length = d.cells.length := by simp [toM, lastsD]
  have hsl : (toM d s).Stored.length = d.cells.length := by simp [toM, storedD]
  rw [hll, hsl, rerror_eq h]
  simp only [Option.bind_some]
  by_cases e : mayI d.off k (d.cells.length : Int) = 0
  · obtain ⟨ho, h0, h1⟩ := may_zero.1 e
    rw [decide_eq_true e, if_pos e, if_neg (by decide), if_pos ⟨h0, h1⟩]
    obtain ⟨j, rfl⟩ : ∃ j : Nat, k = (j : Int) := ⟨k.toNat, by omega⟩
    have : ix (toM d s).Stored (j : Int) = (ix d.cells (j : Int)).stored := ix_map' _ _ _ (by omega)
    rw [this]
  · rw [decide_eq_false e, if_neg e, if_pos (by decide)]
theorem sendL_lasts (k : Int) (cs : List Cell) : (sendL k cs).map (fun c => c.lasts) = cs.map fun c => c.lasts := by
  apply List.ext_getElem (by simp [sendL])
  intro i h1 h2
  simp only [sendL, List.getElem_map, List.getElem_mapIdx]
  split <;> rfl
theorem sendL_stored (k : Int) (cs : List Cell) : (sendL k cs).map (fun c => c.stored) = cs.map fun c => c.stored := by
  apply List.ext_getElem (by simp [sendL])
  intro i h1 h2
  simp only [sendL, List.getElem_map, List.getElem_mapIdx]
  split <;> rfl
theorem upd_sendL {cs : List Cell} {k : Nat} : upd (fun _ c => sendC c) (8 * k) 8 cs = sendL (k : Int) cs := by
  apply List.ext_getElem (by simp [upd, sendL])
  intro i h1 h2
  simp only [upd, sendL, List.getElem_mapIdx]
  by_cases c : 8 * k ≤ i ∧ i < 8 * k + 8
  · rw [if_pos c, if_pos (by omega)]
  · rw [if_neg c, if_neg (by omega)]
theorem rflush_eq {fu n : Nat} {B s k : Int} {d : Dev} (h : DevOk n B d) (hB : B < 9223372036854775807) (hn : n ≤ 100000) (hf : 8 < fu) (hs : 0 ≤ s ∧ s < 9223372036854775807) (hp : d.plan.list = []) : rickyardref05_Device_Flush.f fu (toM d s) k = some ((flushD d k).1, toM (flushD d k).2 (inc (mayI d.off k ((d.cells.length / 8 : Nat) : Int) = 0) s)) := by
  unfold rickyardref05_Device_Flush.f flushD inc
  have hlen := h.len
  have hll : (toM d s).Lasts.length = d.cells.length := by simp [toM, lastsD]
  have e0 : IntKind.i64.wrap (Int.tdiv (d.cells.length : Int) 8) = ((d.cells.length / 8 : Nat) : Int) := by
    rw [Int.tdiv_eq_ediv_of_nonneg (by omega), w64 (by omega) (by omega)]
    omega
  rw [hll, e0, rerror_eq h]
  simp only [Option.bind_some]
  by_cases e : mayI d.off k ((d.cells.length / 8 : Nat) : Int) = 0
  · obtain ⟨ho, h0, h1⟩ := may_zero.1 e
    rw [decide_eq_true e, if_pos rfl, if_pos e, if_pos e]
    obtain ⟨j, rfl⟩ : ∃ j : Nat, k = (j : Int) := ⟨k.toNat, by omega⟩
    have w1 : IntKind.i64.wrap (8 * (j : Int)) = ((8 * j : Nat) : Int) := by rw [w64 (by omega) (by omega)]; omega
    have w2 : IntKind.i64.wrap (((8 * j : Nat) : Int) + 8) = ((8 * j + 8 : Nat) : Int) := by rw [w64 (by omega) (by omega)]; omega
    have loop : loopM (rickyardref05_Device_Flush.s0 fu (toM d s) (j : Int)) fu (((8 * j : Nat) : Int), (toM d s).Sent, (toM d s).Flushed) = some ((sendL (j : Int) d.cells).map (fun c => c.sent), (sendL (j : Int) d.cells).map (fun c => c.flushed)) := by
      refine loopM_run (S := fun i => (((8 * j + i : Nat) : Int), (upd (fun _ c => sendC c) (8 * j) i d.cells).map (fun c => c.sent), (upd (fun _ c => sendC c) (8 * j) i d.cells).map (fun c => c.flushed))) 8 (by rw [upd_zero]; rfl) ?_ ?_ hf
      · intro i hi
        unfold rickyardref05_Device_Flush.s0
        have w3 : IntKind.i64.wrap (((8 * j + i : Nat) : Int) + 1) = ((8 * j + (i + 1) : Nat) : Int) := by rw [w64 (by omega) (by omega)]; omega
        have hsl : (toM d s).Stored.length = d.cells.length := by simp [toM, storedD]
        have e1 : ix (toM d s).Stored ((8 * j + i : Nat) : Int) = (ix d.cells ((8 * j + i : Nat) : Int)).stored := ix_map' _ _ _ (by omega)
        have hu := upd_set (fun _ c => sendC c) (8 * j) i d.cells (by omega)
        simp only [w1, w2, w3, List.length_map, upd_len, hsl, e1]
        rw [decide_eq_true (show ((8 * j + i : Nat) : Int) < ((8 * j + 8 : Nat) : Int) by omega), if_pos rfl, if_pos (by omega), if_pos (by omega), if_pos (by omega), Int.toNat_natCast, ← hu, List.map_set, List.map_set, ix_nat (by omega)]
        rfl
      · unfold rickyardref05_Device_Flush.s0
        simp only [w1, w2]
        rw [decide_eq_false (show ¬ ((8 * j + 8 : Nat) : Int) < ((8 * j + 8 : Nat) : Int) by omega), if_neg (by decide), upd_sendL]
    rw [w1, loop]
    have hok : DevOk n B (withC d (sendL (j : Int) d.cells)) := with_ok h (by simp [sendL, h.len]) (sendL_ok h.val)
    have e1 : (⟨(toM d s).Lasts, (toM d s).Stored, (sendL (j : Int) d.cells).map (fun c => c.sent), (sendL (j : Int) d.cells).map (fun c => c.flushed), (toM d s).Plan, (toM d s).Since, (toM d s).Left, (toM d s).Steps⟩ : Ref) = toM (withC d (sendL (j : Int) d.cells)) s := by
      rw [with_toM, sendL_lasts, sendL_stored]
      rfl
    simp only [Option.bind_some]
    rw [e1, rdstep_eq hok hB hs hp ho]
    simp only [Option.bind_some, e]
  · rw [decide_eq_false e, if_neg (by decide), if_neg e, if_neg e]
    rfl
theorem rfence_eq {fu n : Nat} {B s : Int} {d : Dev} (h : DevOk n B d) (hB : B < 9223372036854775807) (hn : n ≤ 100000) (hf : n < fu) (hs : 0 ≤ s ∧ s < 9223372036854775807) (hp : d.plan.list = []) : rickyardref05_Device_Fence.f fu (toM d s) = some ((fenceD d).1, toM (fenceD d).2 (inc (d.off = false) s)) := by
  unfold rickyardref05_Device_Fence.f fenceD inc
  have hlen := h.len
  rw [rerror_eq h]
  simp only [Option.bind_some]
  cases ho : d.off
  · have e : mayI false 0 1 = 0 := by decide
    rw [e]
    have loop : loopM (rickyardref05_Device_Fence.s0 fu) fu (0, toM d s) = some (toM (withC d (d.cells.map fenceC)) s) := by
      refine loopM_run (S := fun i => ((i : Int), toM (withC d (upd (fun _ c => fenceC c) 0 i d.cells)) s)) d.cells.length (by rw [upd_zero]; rfl) ?_ ?_ (by omega)
      · intro j hj
        have hlt : j < (upd (fun _ c => fenceC c) 0 j d.cells).length := by rw [upd_len]; omega
        have hnx : ix (upd (fun _ c => fenceC c) 0 j d.cells) (j : Int) = d.cells[j] := by
          rw [ix_nat hlt, upd_get, if_neg (by omega)]
        have hu := upd_set (fun _ c => fenceC c) 0 j d.cells (by omega)
        have hsm := upd_same (fun _ c => fenceC c) 0 j d.cells (by omega)
        simp only [Nat.zero_add] at hu hsm
        have hl := rlast_eq (fu := fu) (cs := upd (fun _ c => fenceC c) 0 j d.cells) (w := d.cells[j].sent) (pl := d.plan.list) (s := s) (le := if d.armed = true then d.left else -1) (st := d.steps) hlt
        rw [hnx] at hl
        have e1 : ix ((upd (fun _ c => fenceC c) 0 j d.cells).map fun c => c.flushed) (j : Int) = d.cells[j].flushed := by rw [ix_map' (fun c : Cell => c.flushed) _ _ hlt, hnx]
        have e2 : ix ((upd (fun _ c => fenceC c) 0 j d.cells).map fun c => c.sent) (j : Int) = d.cells[j].sent := by rw [ix_map' _ _ _ hlt, hnx]
        unfold rickyardref05_Device_Fence.s0
        rw [with_toM, with_toM]
        generalize hU : upd (fun _ c => fenceC c) 0 j d.cells = U at *
        have hUl : U.length = d.cells.length := by rw [← hU, upd_len]
        simp only [List.length_map, e1, e2, hUl]
        rw [decide_eq_true (show (j : Int) < (d.cells.length : Int) by omega), if_pos rfl, if_pos (by omega), next64 hj (by omega)]
        cases hfl : d.cells[j].flushed
        · have : fenceC d.cells[j] = d.cells[j] := by simp [fenceC, hfl]
          rw [← hsm this]
          simp only [Bool.false_eq_true, if_false, Option.bind_some]
        · have : fenceC d.cells[j] = keepC d.cells[j] d.cells[j].sent := by simp [fenceC, hfl]
          rw [this] at hu
          rw [if_pos rfl, if_pos (by omega), hl, ← hu]
          rfl
      · unfold rickyardref05_Device_Fence.s0
        have hLL : (toM (withC d (upd (fun _ c => fenceC c) 0 d.cells.length d.cells)) s).Lasts.length = d.cells.length := by simp [toM, lastsD, withC, upd_len]
        simp only [hLL]
        rw [decide_eq_false (show ¬ ((d.cells.length : Int) < (d.cells.length : Int)) by omega), if_neg (by decide), upd_all]
        have : (d.cells.mapIdx fun _ c => fenceC c) = d.cells.map fenceC := by
          apply List.ext_getElem (by simp)
          intro i h1 h2
          simp
        rw [this]
    rw [decide_eq_true rfl, if_pos rfl, loop]
    have hok : DevOk n B (withC d (d.cells.map fenceC)) := with_ok h (by simp [h.len]) (fun c hc => by
        obtain ⟨x, hx, rfl⟩ := List.mem_map.1 hc
        exact fence_okC (h.val x hx))
    simp only [Option.bind_some]
    rw [rdstep_eq hok hB hs hp ho]
    rfl
  · have e : mayI true 0 1 = 3 := by decide
    rw [e]
    rfl
theorem rarm_eq {fu n : Nat} {B s k : Int} {d : Dev} (h : DevOk n B d) : rickyardref05_Device_Arm.f fu (toM d s) k = some (toM (armD d k) s) := by
  unfold rickyardref05_Device_Arm.f
  have hl : (toM d s).Left = 0 ↔ d.off = true := by
    show (if d.armed = true then d.left else -1) = 0 ↔ _
    cases ha : d.armed
    · have := h.una ha
      simp [this]
    · have := (h.arm ha).2.2
      rw [this]
      simp
  unfold armD
  by_cases e : d.off = true
  · rw [decide_eq_true (hl.2 e), if_neg (by decide), if_pos e]
    rfl
  · rw [decide_eq_false (fun q => e (hl.1 q)), if_pos (by decide), if_neg e]
    have hm : mxI k (-1) = if decide (k ≥ 0) = true then k else -1 := by
      unfold mxI
      by_cases hk : k ≥ 0
      · rw [decide_eq_true hk]
        split <;> simp <;> omega
      · rw [decide_eq_false hk]
        split <;> simp <;> omega
    rw [hm]
    rfl
theorem rnew_eq {fu : Nat} {k : Nat} (hk : k ≤ 4096) : rickyardref05_New.f fu (k : Int) = some (toM (newD (8 * k)) 0) := by
  unfold rickyardref05_New.f
  have w : IntKind.i64.wrap (8 * (k : Int)) = ((8 * k : Nat) : Int) := by rw [w64 (by omega) (by omega)]; omega
  have c : 0 ≤ ((8 * k : Nat) : Int) ∧ Int.toNat ((8 * k : Nat) : Int) ≤ LIM := ⟨by omega, by rw [Int.toNat_natCast]; exact Nat.le_trans (by omega : _ ≤ 100000) (by decide)⟩
  rw [w, if_pos c, if_pos c, if_pos c, if_pos c, Int.toNat_natCast]
  unfold toM newD lastsD storedD sentD flushedD
  simp only [List.map_replicate]
  rfl
def refD (d : Dev) : Ref := toM d d.steps
structure RefOk (n : Nat) (B : Int) (d : Dev) : Prop where
  ok : DevOk n B d
  pl : d.plan.list = []
theorem RefOk.up {n : Nat} {B C : Int} {d : Dev} (h : RefOk n B d) (hc : B ≤ C) : RefOk n C d := ⟨h.ok.up hc, h.pl⟩
theorem RefOk.st {n : Nat} {B : Int} {d : Dev} (h : RefOk n B d) (hB : B < 9223372036854775807) : 0 ≤ d.steps ∧ d.steps < 9223372036854775807 := by have := h.ok.st; omega
theorem newR_ok (n : Nat) : RefOk n 0 (newD n) := ⟨newD_ok n, rfl⟩
theorem tick_pl {d : Dev} (h : d.plan.list = []) : (tick d).plan.list = [] := by
  unfold tick nextP
  rw [if_pos (by rw [h]; rfl)]
  exact h
theorem storeR {fu n : Nat} {B k w : Int} {d : Dev} (h : RefOk n B d) (hB : B < 9223372036854775807) (hw : U64 w) : rickyardref05_Device_Store.f fu (refD d) k w = some ((storeD d k w).1, refD (storeD d k w).2) ∧ RefOk n (B + 1) (storeD d k w).2 := by
  unfold refD
  rw [rstore_eq h.ok hB (h.st hB) h.pl hw]
  have ho := store_ok (k := k) h.ok hw
  unfold storeD at ho ⊢
  unfold inc
  by_cases e : mayI d.off k (d.cells.length : Int) = 0
  · rw [if_pos e] at ho ⊢
    rw [if_pos e]
    exact ⟨rfl, ho, tick_pl h.pl⟩
  · rw [if_neg e] at ho ⊢
    rw [if_neg e]
    exact ⟨rfl, ho, h.pl⟩
theorem flushR {fu n : Nat} {B k : Int} {d : Dev} (h : RefOk n B d) (hB : B < 9223372036854775807) (hn : n ≤ 100000) (hf : 8 < fu) : rickyardref05_Device_Flush.f fu (refD d) k = some ((flushD d k).1, refD (flushD d k).2) ∧ RefOk n (B + 1) (flushD d k).2 := by
  unfold refD
  rw [rflush_eq h.ok hB hn hf (h.st hB) h.pl]
  have ho := flush_ok (k := k) h.ok
  unfold flushD at ho ⊢
  unfold inc
  by_cases e : mayI d.off k ((d.cells.length / 8 : Nat) : Int) = 0
  · rw [if_pos e] at ho ⊢
    rw [if_pos e]
    exact ⟨rfl, ho, tick_pl h.pl⟩
  · rw [if_neg e] at ho ⊢
    rw [if_neg e]
    exact ⟨rfl, ho, h.pl⟩
theorem fenceR {fu n : Nat} {B : Int} {d : Dev} (h : RefOk n B d) (hB : B < 9223372036854775807) (hn : n ≤ 100000) (hf : n < fu) : rickyardref05_Device_Fence.f fu (refD d) = some ((fenceD d).1, refD (fenceD d).2) ∧ RefOk n (B + 1) (fenceD d).2 := by
  unfold refD
  rw [rfence_eq h.ok hB hn hf (h.st hB) h.pl]
  have ho := fence_ok h.ok
  unfold fenceD at ho ⊢
  unfold inc
  cases e : d.off
  · rw [e] at ho
    rw [if_neg (by decide)] at ho ⊢
    exact ⟨rfl, ho, tick_pl h.pl⟩
  · rw [e] at ho
    rw [if_pos rfl] at ho ⊢
    exact ⟨rfl, ho, h.pl⟩
theorem armR {fu n : Nat} {B k : Int} {d : Dev} (h : RefOk n B d) (hk : I64 k) : rickyardref05_Device_Arm.f fu (refD d) k = some (refD (armD d k)) ∧ RefOk n B (armD d k) := by
  unfold refD
  rw [rarm_eq h.ok]
  have ho := arm_ok h.ok hk
  unfold armD at ho ⊢
  split at ho
  · rename_i e
    rw [if_pos e]
    exact ⟨rfl, ho, h.pl⟩
  · rename_i e
    rw [if_neg e]
    exact ⟨rfl, ho, h.pl⟩
theorem putR {n : Nat} : ∀ {ws : List Int} {B k : Int} {d : Dev} (h : RefOk n B d) (hB : B + (ws.length : Int) < 9223372036854775807) (hw : ∀ w ∈ ws, U64 w), RefOk n (B + (ws.length : Int)) (putAll d k ws).2
  | [], B, k, d, h, _, _ => h.up (by simp)
  | w :: ws, B, k, d, h, hB, hw => by
    simp only [List.length_cons] at hB
    have h1 := (storeR (fu := 0) (k := k) h (by omega) (hw w (by simp))).2
    unfold putAll
    split
    · exact (putR h1 (by omega) fun x hx => hw x (by simp [hx])).up (by simp only [List.length_cons]; omega)
    · exact h1.up (by simp only [List.length_cons]; omega)
theorem sendR {n : Nat} {ws : List Int} {B k i : Int} {d : Dev} (h : RefOk n B d) (hB : B + (ws.length : Int) + 1 < 9223372036854775807) (hn : n ≤ 100000) (hw : ∀ w ∈ ws, U64 w) : RefOk n (B + (ws.length : Int) + 1) (sendD d k i ws).2 := by
  have h1 := putR (k := 8 * k + i) h (by omega) hw
  unfold sendD
  split
  · exact (flushR (fu := 100) h1 (by omega) hn (by decide)).2
  · exact h1.up (by omega)
theorem rlines_eq {fu : Nat} {d : Dev} (hl : d.cells.length ≤ 1000000) : rickyardref15_Lines.f fu (refD d) = some ((d.cells.length / 8 : Nat) : Int) := by
  unfold rickyardref15_Lines.f
  have : (refD d).Lasts.length = d.cells.length := by simp [refD, toM, lastsD]
  rw [this, Int.tdiv_eq_ediv_of_nonneg (by omega), w64 (by omega) (by omega)]
  congr 1
theorem rwrite_loop {fu n : Nat} {line : Int} {bs : List Int} (hn : n ≤ 100000) (hbs : Bytes bs) (hl : bs.length = 64) (hline : 0 ≤ line ∧ line ≤ 100000) (hf : 2000 < fu) : ∀ (r j : Nat) (B : Int) (d : Dev) (k : Nat), j + r = 8 → RefOk n B d → B + (r : Int) < 9223372036854775807 → r < k →
    loopM (rickyardref15_Write.s0 fu line bs) k ((j : Int), refD d) = some (if (putAll d (8 * line + (j : Int)) ((wordsU bs 8).drop j)).1 = 0 then .inr (refD (putAll d (8 * line + (j : Int)) ((wordsU bs 8).drop j)).2) else .inl ((putAll d (8 * line + (j : Int)) ((wordsU bs 8).drop j)).1, refD (putAll d (8 * line + (j : Int)) ((wordsU bs 8).drop j)).2))
  | r, j, B, d, 0, hj, h, hB, hk => by omega
  | 0, j, B, d, k + 1, hj, h, hB, hk => by
    unfold loopM
    have : j = 8 := by omega
    subst this
    unfold rickyardref15_Write.s0
    rw [decide_eq_false (show ¬ (((8 : Nat) : Int) < 8) by decide), if_neg (by decide), List.drop_of_length_le (by rw [wordsU_len]; exact Nat.le_refl _)]
    rfl
  | r + 1, j, B, d, k + 1, hj, h, hB, hk => by
    have hjl : j < 8 := by omega
    have hwl : (wordsU bs 8).length = 8 := wordsU_len _ _
    have hu := words_U64 (n := 8) hbs _ (List.getElem_mem (show j < (wordsU bs 8).length by omega))
    have hval : (wordsU bs 8)[j]'(by omega) = ((num ((bs.drop (8 * j)).take 8) : Nat) : Int) := by simp [wordsU]
    have hst := storeR (fu := fu) (k := 8 * line + (j : Int)) h (by omega) hu
    have w1 : IntKind.i64.wrap (8 * (j : Int)) = ((8 * j : Nat) : Int) := by rw [w64 (by omega) (by omega)]; omega
    have w2 : IntKind.i64.wrap (((8 * j : Nat) : Int) + 8) = ((8 * j + 8 : Nat) : Int) := by rw [w64 (by omega) (by omega)]; omega
    have w3 : IntKind.i64.wrap (8 * line) = 8 * line := w64 (by omega) (by omega)
    have w4 : IntKind.i64.wrap (8 * line + (j : Int)) = 8 * line + (j : Int) := w64 (by omega) (by omega)
    have hd : (wordsU bs 8).drop j = (wordsU bs 8)[j]'(by omega) :: (wordsU bs 8).drop (j + 1) := List.drop_eq_getElem_cons (by omega)
    have hcut : cut bs ((8 * j : Nat) : Int) ((8 * j + 8 : Nat) : Int) = (bs.drop (8 * j)).take 8 := by
      unfold cut
      rw [Int.toNat_natCast, Int.toNat_natCast, List.drop_take]
      congr 1
      omega
    have hnum : rickyardref01_Number.f fu (List.map toB (cut bs ((8 * j : Nat) : Int) ((8 * j + 8 : Nat) : Int))) = some ((wordsU bs 8)[j]'(by omega)) := by
      rw [hcut, rnumber_eq ((hbs.drop _).take _) (by rw [List.length_take]; omega) (by rw [List.length_take]; omega), hval]
    unfold loopM
    have hs : rickyardref15_Write.s0 fu line bs ((j : Int), refD d) = some (if (storeD d (8 * line + (j : Int)) ((wordsU bs 8)[j]'(by omega))).1 = 0 then .inr (((j + 1 : Nat) : Int), refD (storeD d (8 * line + (j : Int)) ((wordsU bs 8)[j]'(by omega))).2) else .inl (.inl ((storeD d (8 * line + (j : Int)) ((wordsU bs 8)[j]'(by omega))).1, refD (storeD d (8 * line + (j : Int)) ((wordsU bs 8)[j]'(by omega))).2))) := by
      unfold rickyardref15_Write.s0
      simp only [w1, w2, w3, w4]
      rw [decide_eq_true (show (j : Int) < 8 by omega), if_pos rfl, if_pos (by omega), hnum, next64 hjl (by decide)]
      simp only [Option.bind_some]
      rw [hst.1]
      simp only [Option.bind_some]
      by_cases e : (storeD d (8 * line + (j : Int)) ((wordsU bs 8)[j]'(by omega))).1 = 0
      · rw [decide_eq_true e, if_neg (by decide), if_pos e]
      · rw [decide_eq_false e, if_pos (by decide), if_neg e]
    rw [hs, hd]
    unfold putAll
    by_cases e : (storeD d (8 * line + (j : Int)) ((wordsU bs 8)[j]'(by omega))).1 = 0
    · have ih := rwrite_loop (fu := fu) (n := n) (line := line) hn hbs hl hline hf r (j + 1) (B + 1) (storeD d (8 * line + (j : Int)) ((wordsU bs 8)[j]'(by omega))).2 k (by omega) hst.2 (by omega) (by omega)
      rw [show 8 * line + ((j + 1 : Nat) : Int) = 8 * line + (j : Int) + 1 from by omega] at ih
      rw [if_pos e, if_pos e]
      exact ih
    · rw [if_neg e, if_neg e]
      simp only [e, if_false]
theorem rwrite_eq {fu n : Nat} {B line : Int} {bs : List Int} {d : Dev} (h : RefOk n B d) (hB : B + 9 < 9223372036854775807) (hn : n ≤ 100000) (hb : Bytes bs) (hf : 2000 < fu) : rickyardref15_Write.f fu (refD d) line bs = some ((writeD d line bs).1, refD (writeD d line bs).2) ∧ RefOk n (B + 9) (writeD d line bs).2 := by
  have hlen := h.ok.len
  have hno : ¬ (inL d line ∧ bs.length = 64) → some ((2 : Int), refD d) = some ((writeD d line bs).1, refD (writeD d line bs).2) ∧ RefOk n (B + 9) (writeD d line bs).2 := fun hi => by
    unfold writeD
    rw [if_neg hi]
    exact ⟨rfl, h.up (by omega)⟩
  unfold rickyardref15_Write.f
  rw [rlines_eq (by omega)]
  by_cases h1 : line < 0
  · rw [decide_eq_true h1, if_pos rfl]
    exact hno fun q => by have := q.1.1; omega
  rw [decide_eq_false h1, if_neg (by decide)]
  simp only [Option.bind_some]
  by_cases h2 : line ≥ ((d.cells.length / 8 : Nat) : Int)
  · rw [decide_eq_true h2, if_pos rfl]
    exact hno fun q => by have := q.1.2; omega
  rw [decide_eq_false h2, if_neg (by decide)]
  by_cases h3 : bs.length = 64
  · rw [decide_eq_true (show (bs.length : Int) = 64 by omega), if_neg (by decide)]
    have hi : inL d line ∧ bs.length = 64 := ⟨⟨by omega, by omega⟩, h3⟩
    unfold writeD
    rw [if_pos hi]
    have h1 := rwrite_loop (fu := fu) (line := line) hn hb hi.2 (by omega) hf 8 0 B d fu rfl h (by omega) (by omega)
    simp only [List.drop_zero] at h1
    rw [show (8 * line + ((0 : Nat) : Int)) = 8 * line + 0 from rfl, show (((0 : Nat) : Int)) = 0 from rfl] at h1
    have h2 := putR (k := 8 * line + 0) (ws := wordsU bs 8) h (by rw [wordsU_len]; omega) (words_U64 hb)
    rw [wordsU_len] at h2
    have h3 := flushR (fu := fu) (k := line) h2 (by omega) hn (by omega)
    have h4 := sendR (k := line) (i := 0) (ws := wordsU bs 8) h (by rw [wordsU_len]; omega) hn (words_U64 hb)
    rw [wordsU_len] at h4
    refine ⟨?_, h4.up (by omega)⟩
    rw [h1]
    unfold sendD
    by_cases e : (putAll d (8 * line + 0) (wordsU bs 8)).1 = 0
    · rw [if_pos e, if_pos e]
      simp only [Option.bind_some]
      rw [h3.1]
      rfl
    · rw [if_neg e, if_neg e]
      rfl
  · rw [decide_eq_false (show ¬ (bs.length : Int) = 64 by omega), if_pos (by decide)]
    exact hno fun q => h3 q.2
theorem rread_eq {fu n : Nat} {B line : Int} {d : Dev} (h : RefOk n B d) (hn : n ≤ 100000) (hf : 2000 < fu) : rickyardref15_Read.f fu (refD d) line = some ((readD d line).1.map toB, (readD d line).2) := by
  have hlen := h.ok.len
  have hno : ¬ inL d line → some (([] : List UInt8), (2 : Int)) = some ((readD d line).1.map toB, (readD d line).2) := fun hi => by
    unfold readD
    rw [if_neg hi]
    rfl
  unfold rickyardref15_Read.f
  rw [rlines_eq (by omega)]
  by_cases h1 : line < 0
  · rw [decide_eq_true h1, if_pos rfl]
    exact hno fun q => by have := q.1; omega
  rw [decide_eq_false h1, if_neg (by decide)]
  simp only [Option.bind_some]
  by_cases h2 : line ≥ ((d.cells.length / 8 : Nat) : Int)
  · rw [decide_eq_true h2, if_pos rfl]
    exact hno fun q => by have := q.2; omega
  rw [decide_eq_false h2, if_neg (by decide)]
  have hi : inL d line := ⟨by omega, by omega⟩
  unfold readD
  · rw [if_pos hi]
    have hin := hi
    unfold inL at hin
    have w1 : IntKind.i64.wrap (8 * line) = 8 * line := w64 (by omega) (by omega)
    have hld : ∀ j : Nat, j < 8 → rickyardref05_Device_Load.f fu (refD d) (8 * line + (j : Int)) = some (if d.off = true then (0, 3) else ((ix d.cells (8 * line + (j : Int))).stored, 0)) := by
      intro j hj
      unfold refD
      rw [rload_eq h.ok]
      unfold loadD
      cases ho : d.off
      · rw [if_pos (may_zero.2 ⟨rfl, by omega, by omega⟩), if_neg (by decide)]
      · have : mayI true (8 * line + (j : Int)) (d.cells.length : Int) = 3 := rfl
        rw [this, if_neg (by decide), if_pos rfl]
    cases ho : d.off
    · rw [if_neg (by decide)]
      have hcl : (lineC d line).length = 8 := by simp [lineC]
      have loop : loopM (rickyardref15_Read.s0 fu (refD d) line) fu ([], 0) = some (.inr ((octs (lineC d line)).map toB)) := by
        refine loopM_run (S := fun j => ((octs ((lineC d line).take j)).map toB, (j : Int))) 8 (by simp [octs]) ?_ ?_ (by omega)
        · intro j hj
          unfold rickyardref15_Read.s0
          have w3 : IntKind.i64.wrap (8 * line + (j : Int)) = 8 * line + (j : Int) := w64 (by omega) (by omega)
          obtain ⟨p, hp⟩ : ∃ p : Nat, 8 * line + (j : Int) = (p : Int) := ⟨(8 * line + (j : Int)).toNat, by omega⟩
          have hu : U64 (ix d.cells (8 * line + (j : Int))).stored := by
            rw [hp, ix_nat (by omega)]
            exact (h.ok.val _ (List.getElem_mem _)).2.1
          obtain ⟨v, hv⟩ : ∃ v : Nat, (ix d.cells (8 * line + (j : Int))).stored = (v : Int) := ⟨_, (Int.toNat_of_nonneg hu.1).symm⟩
          have hly : rickyardref01_Lay.f fu (v : Int) 8 = some ((lay v 8).map toB) := rlay_eq (n := 8) (by unfold U64 at hu; omega) (by decide) (by omega)
          have hnext : (lineC d line).take (j + 1) = (lineC d line).take j ++ [(v : Int)] := by
            rw [take_next (by omega), ← hv]
            simp [lineC]
          simp only [w1, w3]
          rw [decide_eq_true (show (j : Int) < 8 by omega), if_pos rfl, hld j hj, ho, if_neg (by decide), next64 hj (by decide), hv]
          simp only [Option.bind_some, decide_true, Bool.not_true, Bool.false_eq_true, if_false]
          rw [hly]
          simp only [Option.bind_some]
          rw [if_pos (by rw [List.length_map, List.length_map, octs_len, lay_len, List.length_take]; exact Nat.le_trans (by omega : _ ≤ 100) (by decide)), hnext, octs_append, octs_one, List.map_append, Int.toNat_natCast]
        · unfold rickyardref15_Read.s0
          rw [decide_eq_false (show ¬ (((8 : Nat) : Int) < 8) by decide), if_neg (by decide), List.take_of_length_le (by omega)]
      rw [loop]
      rfl
    · rw [if_pos rfl]
      have loop : loopM (rickyardref15_Read.s0 fu (refD d) line) fu ([], 0) = some (.inl ([], 3)) := by
        obtain ⟨k, rfl⟩ : ∃ k, fu = k + 1 := ⟨fu - 1, by omega⟩
        unfold loopM
        have := hld 0 (by decide)
        rw [ho, if_pos rfl] at this
        unfold rickyardref15_Read.s0
        have w3 : IntKind.i64.wrap (8 * line + 0) = 8 * line + ((0 : Nat) : Int) := by rw [w64 (by omega) (by omega)]; rfl
        simp only [w1, w3]
        rw [this]
        rfl
      rw [loop]
      rfl
theorem rhas_eq {fu : Nat} {l : List Int} {k : Int} (hl : l.length ≤ 100000) (hf : l.length < fu) : rickyardref10_Has.f fu l k = some (decide (k ∈ l)) := by
  unfold rickyardref10_Has.f
  have h : ∀ (r j c : Nat), j + r = l.length → r < c → loopM (rickyardref10_Has.s0 fu l k) c (j : Int) = some (if k ∈ l.drop j then .inl true else .inr ()) := by
    intro r
    induction r with
    | zero =>
      intro j c hj hc
      obtain ⟨c, rfl⟩ : ∃ d, c = d + 1 := ⟨c - 1, by omega⟩
      unfold loopM rickyardref10_Has.s0
      rw [decide_eq_false (show ¬ ((j : Int) < (l.length : Int)) by omega), if_neg (by decide), List.drop_of_length_le (by omega), if_neg (by simp)]
    | succ r ih =>
      intro j c hj hc
      obtain ⟨c, rfl⟩ : ∃ d, c = d + 1 := ⟨c - 1, by omega⟩
      have hjl : j < l.length := by omega
      have hs : rickyardref10_Has.s0 fu l k (j : Int) = some (if l[j] = k then .inl (.inl true) else .inr ((j + 1 : Nat) : Int)) := by
        unfold rickyardref10_Has.s0
        rw [decide_eq_true (show (j : Int) < (l.length : Int) by omega), if_pos rfl, if_pos (by omega), ix_nat hjl, next64 hjl (by omega)]
        by_cases e : l[j] = k
        · rw [decide_eq_true e, if_pos rfl, if_pos e]
        · rw [decide_eq_false e, if_neg (by decide), if_neg e]
      unfold loopM
      rw [hs, List.drop_eq_getElem_cons hjl]
      by_cases e : l[j] = k
      · rw [if_pos e, if_pos (by rw [e]; exact List.mem_cons_self)]
      · rw [if_neg e]
        simp only
        rw [ih (j + 1) c (by omega) (by omega)]
        have : (k ∈ l[j] :: l.drop (j + 1)) ↔ k ∈ l.drop (j + 1) := by
          rw [List.mem_cons]
          exact ⟨fun q => q.resolve_left fun z => e z.symm, .inr⟩
        by_cases e2 : k ∈ l.drop (j + 1)
        · rw [if_pos e2, if_pos (this.2 e2)]
        · rw [if_neg e2, if_neg (fun q => e2 (this.1 q))]
  have := h l.length 0 fu (by omega) hf
  rw [List.drop_zero] at this
  rw [show ((0 : Nat) : Int) = 0 from rfl] at this
  rw [this]
  by_cases e : k ∈ l
  · rw [if_pos e, decide_eq_true e]
    rfl
  · rw [if_neg e, decide_eq_false e]
    rfl
theorem els_le (n : Nat) (f : Nat → Bool) : (els n f).length ≤ n := by rw [els_len]; exact cnt_le f n
theorem hasE {n : Nat} {f : Nat → Bool} {k : Int} : decide (k ∈ els n f) = hasI n f k := by
  unfold hasI
  by_cases h : 0 ≤ k ∧ k < (n : Int)
  · obtain ⟨j, rfl⟩ : ∃ j : Nat, k = (j : Int) := ⟨k.toNat, by omega⟩
    rw [decide_eq_true h.1, decide_eq_true h.2, Int.toNat_natCast]
    cases e : f j
    · rw [decide_eq_false]
      · rfl
      · intro q
        have := (mem_els.1 q).2
        rw [e] at this
        cases this
    · rw [decide_eq_true (mem_els.2 ⟨by omega, e⟩)]
      rfl
  · have h1 : ¬ k ∈ els n f := by
      intro q
      obtain ⟨j, hj, rfl⟩ := List.mem_map.1 q
      have := List.mem_range.1 (List.mem_filter.1 hj).1
      exact h ⟨by omega, by omega⟩
    rw [decide_eq_false h1]
    by_cases h0 : 0 ≤ k
    · rw [decide_eq_true h0, decide_eq_false (fun q => h ⟨h0, q⟩)]
      rfl
    · rw [decide_eq_false h0]
      rfl
theorem rhasE {fu n : Nat} {f : Nat → Bool} {k : Int} (hn : n ≤ 100000) (hf : n < fu) : rickyardref10_Has.f fu (els n f) k = some (hasI n f k) := by
  have := els_le n f
  rw [rhas_eq (by omega) (by omega), hasE]
theorem add_loop {fu : Nat} {A R : List Int} {k : Int} (hA : ∀ x ∈ A, x < k) (hR : ∀ x ∈ R, k < x) (hl : (A ++ R).length ≤ 100000) : ∀ (r c : Nat), r ≤ R.length → r < c → loopM (rickyardref17_Add.s0 fu (A ++ R) k) c ((A.length + r : Nat) : Int) = some (A.length : Int) := by
  intro r
  rw [List.length_append] at hl
  induction r with
  | zero =>
    intro c hr hc
    obtain ⟨c, rfl⟩ : ∃ d, c = d + 1 := ⟨c - 1, by omega⟩
    unfold loopM rickyardref17_Add.s0
    by_cases e : A.length = 0
    · rw [decide_eq_false (show ¬ (((A.length + 0 : Nat) : Int) > 0) by omega), if_neg (by decide)]
      rfl
    · have w : IntKind.i64.wrap (((A.length + 0 : Nat) : Int) - 1) = ((A.length - 1 : Nat) : Int) := by rw [w64 (by omega) (by omega)]; omega
      have hx : ix (A ++ R) ((A.length - 1 : Nat) : Int) = A[A.length - 1]'(by omega) := by
        rw [ix_nat (by rw [List.length_append]; omega), List.getElem_append_left (by omega)]
      have := hA _ (List.getElem_mem (show A.length - 1 < A.length by omega))
      rw [decide_eq_true (show ((A.length + 0 : Nat) : Int) > 0 by omega), if_pos rfl, w, if_pos (by rw [List.length_append]; omega), hx, decide_eq_false (by omega), if_neg (by decide)]
      rfl
  | succ r ih =>
    intro c hr hc
    obtain ⟨c, rfl⟩ : ∃ d, c = d + 1 := ⟨c - 1, by omega⟩
    have w : IntKind.i64.wrap (((A.length + (r + 1) : Nat) : Int) - 1) = ((A.length + r : Nat) : Int) := by rw [w64 (by omega) (by omega)]; omega
    have hx : ix (A ++ R) ((A.length + r : Nat) : Int) = R[r]'(by omega) := by
      rw [ix_nat (by rw [List.length_append]; omega), List.getElem_append_right (by omega)]
      simp
    have := hR _ (List.getElem_mem (show r < R.length by omega))
    have hs : rickyardref17_Add.s0 fu (A ++ R) k ((A.length + (r + 1) : Nat) : Int) = some (.inr ((A.length + r : Nat) : Int)) := by
      unfold rickyardref17_Add.s0
      rw [decide_eq_true (show ((A.length + (r + 1) : Nat) : Int) > 0 by omega), if_pos rfl, w, if_pos (by rw [List.length_append]; omega), hx, decide_eq_true (by omega), if_pos rfl]
    unfold loopM
    rw [hs]
    exact ih c (by omega) (by omega)
theorem els_split {n k : Nat} {f : Nat → Bool} (hk : k < n) : els n f = (els k f ++ if f k = true then [(k : Int)] else []) ++ ((List.range (n - (k + 1))).filter fun i => f (k + 1 + i)).map fun i => ((k + 1 + i : Nat) : Int) := by
  have e1 : els n f = els ((k + 1) + (n - (k + 1))) f := by rw [show k + 1 + (n - (k + 1)) = n by omega]
  rw [e1, els_add]
  congr 1
  unfold els
  rw [List.range_succ, List.filter_append, List.map_append]
  congr 1
  cases e : f k
  · simp [e]
  · simp [e]
theorem els_congr {n : Nat} {f g : Nat → Bool} (h : ∀ k, k < n → f k = g k) : els n f = els n g := by
  unfold els
  congr 1
  exact List.filter_congr fun k hk => h k (List.mem_range.1 hk)
theorem raddE {fu n k : Nat} {f : Nat → Bool} (hn : n ≤ 90000) (hf : n < fu) (hk : k < n) (h0 : f k = false) : rickyardref17_Add.f fu (els n f) (n : Int) (k : Int) = some (els n (addF n f [(k : Int)])) := by
  unfold rickyardref17_Add.f
  have hh : hasI n f (k : Int) = false := by
    unfold hasI
    rw [Int.toNat_natCast, h0, Bool.and_false, Bool.and_false]
  have hle := els_le n f
  have hs := els_split (f := f) hk
  rw [h0, if_neg (by decide), List.append_nil] at hs
  have hs2 := els_split (f := addF n f [(k : Int)]) hk
  have h1 : addF n f [(k : Int)] k = true := by simp [addF, hk]
  rw [h1, if_pos rfl] at hs2
  have e1 : els k (addF n f [(k : Int)]) = els k f := els_congr fun i hi => by
    have : ¬ (i : Int) = (k : Int) := by omega
    simp [addF, this]
  have e2 : ((List.range (n - (k + 1))).filter fun i => addF n f [(k : Int)] (k + 1 + i)) = (List.range (n - (k + 1))).filter fun i => f (k + 1 + i) := List.filter_congr fun i hi => by
    have : ¬ ((k + 1 + i : Nat) : Int) = (k : Int) := by omega
    simp only [addF, List.mem_singleton, this, decide_false, Bool.and_false, Bool.or_false]
  rw [e1, e2] at hs2
  have hA : ∀ x ∈ els k f, x < (k : Int) := by
    intro x hx
    obtain ⟨j, hj, rfl⟩ := List.mem_map.1 hx
    have := List.mem_range.1 (List.mem_filter.1 hj).1
    omega
  have hR : ∀ x ∈ ((List.range (n - (k + 1))).filter fun i => f (k + 1 + i)).map fun i => ((k + 1 + i : Nat) : Int), (k : Int) < x := by
    intro x hx
    obtain ⟨j, hj, rfl⟩ := List.mem_map.1 hx
    omega
  rw [decide_eq_false (show ¬ ((k : Int) < 0) by omega), if_neg (by decide), decide_eq_false (show ¬ ((k : Int) ≥ (n : Int)) by omega), if_neg (by decide), rhasE (by omega) hf, hh]
  simp only [Option.bind_some, Bool.false_eq_true, if_false]
  rw [hs2]
  rw [hs] at hle ⊢
  generalize ((List.range (n - (k + 1))).filter fun i => f (k + 1 + i)).map (fun i => ((k + 1 + i : Nat) : Int)) = R at *
  generalize els k f = A at *
  have hl := add_loop (fu := fu) hA hR (by omega) R.length fu (Nat.le_refl _) (by rw [List.length_append] at hle; omega)
  rw [List.length_append] at hle
  rw [List.length_append, hl]
  have c1 : cut (A ++ R) 0 (A.length : Int) = A := by
    unfold cut
    simp
  have c2 : cut (A ++ R) (A.length : Int) ((A.length + R.length : Nat) : Int) = R := by
    unfold cut
    rw [Int.toNat_natCast, Int.toNat_natCast, List.take_of_length_le (by rw [List.length_append]; exact Nat.le_refl _), List.drop_left]
  simp only [Option.bind_some, c1, c2, List.nil_append, List.length_append, List.length_cons, List.length_nil]
  rw [if_pos (by omega), if_pos (Nat.le_trans (by omega : _ ≤ 100000) (by decide)), if_pos (Nat.le_trans (by omega : _ ≤ 100000) (by decide)), if_pos (by omega), if_pos (Nat.le_trans (by omega : _ ≤ 100000) (by decide))]
theorem rdrop_eq {fu : Nat} {l : List Int} {k : Int} (hl : l.length ≤ 100000) (hf : l.length < fu) : rickyardref17_Drop.f fu l k = some (l.filter fun x => !decide (x = k)) := by
  unfold rickyardref17_Drop.f
  have : loopM (rickyardref17_Drop.s0 fu l k) fu ([], 0) = some (l.filter fun x => !decide (x = k)) := by
    refine loopM_run (S := fun j => ((l.take j).filter (fun x => !decide (x = k)), (j : Int))) l.length (by simp) ?_ ?_ hf
    · intro j hj
      have hfl : ((l.take j).filter fun x => !decide (x = k)).length ≤ j := Nat.le_trans (List.length_filter_le _ _) (by rw [List.length_take]; omega)
      unfold rickyardref17_Drop.s0
      have c1 : 0 ≤ (j : Int) ∧ (j : Int) < (l.length : Int) := by omega
      simp only
      rw [decide_eq_true c1.2, if_pos rfl, if_pos c1, ix_nat hj, next64 hj hl, take_next hj, List.filter_append]
      by_cases e : l[j] = k
      · rw [decide_eq_true e, if_neg (by decide)]
        simp [e]
      · rw [decide_eq_false e, Bool.not_false, if_pos rfl, if_pos c1, if_pos (Nat.le_trans (by simp only [List.length_cons, List.length_nil]; omega : _ ≤ 100001) (by decide))]
        simp [e]
    · unfold rickyardref17_Drop.s0
      rw [decide_eq_false (show ¬ ((l.length : Int) < (l.length : Int)) by omega), if_neg (by decide), List.take_length]
  rw [this]
  rfl
theorem rdropE {fu n : Nat} {f : Nat → Bool} {k : Int} (hn : n ≤ 100000) (hf : n < fu) : rickyardref17_Drop.f fu (els n f) k = some (els n (dropF f [k])) := by
  have := els_le n f
  rw [rdrop_eq (by omega) (by omega)]
  refine congrArg some ?_
  unfold els
  rw [List.filter_map, List.filter_filter]
  congr 1
  refine List.filter_congr fun i _ => ?_
  simp only [dropF, List.mem_singleton, Function.comp]
  exact Bool.and_comm _ _
abbrev RefA := S_rickyardref18_Alloc
def refA (n : Nat) (a : AA) : RefA := ⟨(n : Int), a.r, els n a.c, els n a.e, els n a.m, els n a.w⟩
theorem hasN {n j : Nat} {f : Nat → Bool} (h : j < n) : hasI n f (j : Int) = f j := by
  unfold hasI
  rw [decide_eq_true (show (0 : Int) ≤ (j : Int) by omega), decide_eq_true (show (j : Int) < (n : Int) by omega), Int.toNat_natCast]
  rfl
theorem rfreeE {fu n : Nat} {a : AA} (hn : n ≤ 90000) (hf : n < fu) : rickyardref18_Alloc_Free.f fu (refA n a) = some ((a.free n).map fun (k : Nat) => (k : Int)) := by
  unfold rickyardref18_Alloc_Free.f
  have : loopM (rickyardref18_Alloc_Free.s0 fu (refA n a)) fu ([], 0) = some ((a.free n).map fun (k : Nat) => (k : Int)) := by
    refine loopM_run (S := fun j => (((List.range j).filter fun k => !a.held k).map (fun (k : Nat) => (k : Int)), (j : Int))) n (by simp) ?_ ?_ hf
    · intro j hj
      have hfl : (((List.range j).filter fun k => !a.held k).map fun (k : Nat) => (k : Int)).length ≤ j := by
        rw [List.length_map]
        exact Nat.le_trans (List.length_filter_le _ _) (by simp)
      unfold rickyardref18_Alloc_Free.s0
      simp only [show (refA n a).N = (n : Int) from rfl, show (refA n a).Committed = els n a.c from rfl, show (refA n a).Elder = els n a.e from rfl, show (refA n a).Mark = els n a.m from rfl, show (refA n a).Works = els n a.w from rfl]
      rw [decide_eq_true (show (j : Int) < (n : Int) by omega), if_pos rfl, rhasE (by omega) hf, rhasE (by omega) hf, rhasE (by omega) hf, rhasE (by omega) hf, hasN hj, hasN hj, hasN hj, hasN hj, next64 hj (by omega), List.range_succ, List.filter_append, List.map_append]
      have hh : a.held j = (((a.w j || a.c j) || a.e j) || a.m j) := rfl
      rw [if_pos (show List.length (((List.range j).filter fun k => !a.held k).map fun (k : Nat) => (k : Int)) + List.length [(j : Int)] ≤ LIM from Nat.le_trans (by simp only [List.length_cons, List.length_nil]; omega : _ ≤ 100001) (by decide))]
      cases e1 : a.c j <;> cases e2 : a.e j <;> cases e3 : a.m j <;> cases e4 : a.w j <;> simp [hh, e1, e2, e3, e4]
    · unfold rickyardref18_Alloc_Free.s0
      simp only [show (refA n a).N = (n : Int) from rfl]
      rw [decide_eq_false (show ¬ ((n : Int) < (n : Int)) by omega), if_neg (by decide)]
      rfl
  rw [this]
  rfl
theorem rtakeE {fu n : Nat} {a : AA} (hn : n ≤ 90000) (hf : n < fu) (h : AOk n a) : rickyardref18_Alloc_Take.f fu (refA n a) (refA n a).Reserve = some ((a.take n).1, (a.take n).2.1, refA n (a.take n).2.2) := by
  have hr := h.r
  unfold rickyardref18_Alloc_Take.f
  rw [rfreeE hn hf, show (refA n a).Reserve = a.r from rfl]
  simp only [Option.bind_some, List.length_map]
  unfold AA.take
  by_cases e : ((a.free n).length : Int) ≤ a.r
  · rw [decide_eq_true e, if_pos rfl, if_pos e]
  · obtain ⟨h1, h2, h3⟩ := least_ok (n := n) (a := a) (by omega)
    have hx : ix ((a.free n).map fun (k : Nat) => (k : Int)) 0 = (a.least n : Int) := by
      unfold AA.least
      cases e2 : a.free n with
      | nil => rw [e2] at e; exact absurd (by simp; omega) e
      | cons x l => rfl
    have hw : a.w (a.least n) = false := by
      cases e2 : a.w (a.least n)
      · rfl
      · unfold AA.held at h2
        rw [e2] at h2
        simp at h2
    rw [decide_eq_false e, if_neg (by decide), if_neg e, if_pos (by omega), hx, show (refA n a).N = (n : Int) from rfl, show (refA n a).Works = els n a.w from rfl, raddE hn hf h1 hw]
    simp only [Option.bind_some]
    rw [if_pos (by omega)]
    rfl
theorem rgiveE {fu n : Nat} {a : AA} {k : Int} (hn : n ≤ 90000) (hf : n < fu) : rickyardref18_Alloc_Give.f fu (refA n a) k = some ((a.give n k).1, refA n (a.give n k).2) := by
  unfold rickyardref18_Alloc_Give.f AA.give
  rw [show (refA n a).Works = els n a.w from rfl, rhasE (by omega) hf, rdropE (by omega) hf]
  simp only [Option.bind_some]
  cases hasI n a.w k <;> rfl
theorem rownE {fu n : Nat} {a : AA} {k : Int} (hn : n ≤ 90000) (hf : n < fu) : rickyardref18_Alloc_Own.f fu (refA n a) k = some (a.own n k) := by
  unfold rickyardref18_Alloc_Own.f AA.own
  rw [show (refA n a).Works = els n a.w from rfl, show (refA n a).Mark = els n a.m from rfl, rhasE (by omega) hf, rhasE (by omega) hf]
  simp only [Option.bind_some]
  cases hasI n a.w k <;> rfl
theorem rdo0 {fu n : Nat} {a : AA} : rickyardref18_Alloc_Do.f fu (refA n a) 0 = some (refA n a.mark) := rfl
theorem rdo1 {fu n : Nat} {a : AA} : rickyardref18_Alloc_Do.f fu (refA n a) 1 = some (refA n a.back) := rfl
theorem rdo2 {fu n : Nat} {a : AA} : rickyardref18_Alloc_Do.f fu (refA n a) 2 = some (refA n a.commit) := rfl
theorem rdo3 {fu n : Nat} {a : AA} : rickyardref18_Alloc_Do.f fu (refA n a) 3 = some (refA n a.abort) := rfl
abbrev RefS := S_rickyardref19_Store
def refS (n : Nat) (d : Dev) (a : AA) : RefS := ⟨refD d, refA n a⟩
structure ROk (n : Nat) (B : Int) (d : Dev) (a : AA) : Prop where
  dev : RefOk (8 * n) B d
  al : AOk n a
theorem ROk.up {n : Nat} {B C : Int} {d : Dev} {a : AA} (h : ROk n B d a) (hc : B ≤ C) : ROk n C d a := ⟨h.dev.up hc, h.al⟩
theorem writeR {n : Nat} {B line : Int} {b : List Int} {d : Dev} (h : RefOk n B d) (hB : B + 9 < 9223372036854775807) (hn : n ≤ 100000) (hb : Bytes b) : RefOk n (B + 9) (writeD d line b).2 := (rwrite_eq (fu := 2001) h hB hn hb (by decide)).2
theorem writtenR {n : Nat} {B k : Int} {b : List Int} {d : Dev} {a : AA} (h : ROk n B d a) (hB : B + 9 < 9223372036854775807) (hn : n ≤ 10000) (hb : Bytes b) : ROk n (B + 9) (writtenS d a k b).2.2.1 (writtenS d a k b).2.2.2 := by
  have := writeR (line := k) h.dev hB (by omega) hb
  unfold writtenS
  split <;> exact ⟨this, h.al⟩
theorem rmakeE {fu n : Nat} {B : Int} {b : List Int} {d : Dev} {a : AA} (h : ROk n B d a) (hB : B + 9 < 9223372036854775807) (hn : n ≤ 10000) (hb : Bytes b) (hf : 2000 < fu) (hf2 : n < fu) : rickyardref19_Store_Make.f fu (refS n d a) b = some ((makeS n d a b).1, (makeS n d a b).2.1, refS n (makeS n d a b).2.2.1 (makeS n d a b).2.2.2) ∧ ROk n (B + 9) (makeS n d a b).2.2.1 (makeS n d a b).2.2.2 := by
  unfold rickyardref19_Store_Make.f makeS
  by_cases e : b.length = 64
  · rw [decide_eq_true (show (b.length : Int) = 64 by omega), if_neg (by decide), if_pos e, show (refS n d a).A = refA n a from rfl, rtakeE (by omega) hf2 h.al]
    simp only [Option.bind_some]
    have ht := take_ok h.al
    by_cases e2 : (a.take n).2.1 = 0
    · rw [decide_eq_true e2, if_neg (by decide), if_pos e2, show (refS n d a).D = refD d from rfl, (rwrite_eq h.dev hB (by omega) hb hf).1]
      refine ⟨?_, writtenR ⟨h.dev, ht⟩ hB hn hb⟩
      simp only [Option.bind_some]
      unfold writtenS
      by_cases e3 : (writeD d (a.take n).1 b).1 = 0
      · rw [decide_eq_true e3, if_neg (by decide), if_pos e3]
        rfl
      · rw [decide_eq_false e3, if_pos (by decide), if_neg e3]
        rfl
    · rw [decide_eq_false e2, if_pos (by decide), if_neg e2]
      exact ⟨rfl, h.dev.up (by omega), ht⟩
  · rw [decide_eq_false (show ¬ (b.length : Int) = 64 by omega), if_pos (by decide), if_neg e]
    exact ⟨rfl, h.up (by omega)⟩
theorem make_has {n : Nat} {d : Dev} {a : AA} {b : List Int} {k : Int} (h : hasI n a.w k = true) : hasI n (makeS n d a b).2.2.2.w k = true := by
  have ht : hasI n (a.take n).2.2.w k = true := by
    unfold AA.take
    split
    · exact h
    · unfold hasI at h ⊢
      rw [Bool.and_eq_true, Bool.and_eq_true] at h ⊢
      refine ⟨h.1, h.2.1, ?_⟩
      show addF n a.w [(a.least n : Int)] k.toNat = true
      unfold addF
      rw [h.2.2]
      rfl
  unfold makeS writtenS
  split
  · split
    · split <;> exact ht
    · exact ht
  · exact h
theorem rturnE {fu n : Nat} {B k : Int} {b : List Int} {d : Dev} {a : AA} (h : ROk n B d a) (hB : B + 9 < 9223372036854775807) (hn : n ≤ 10000) (hb : Bytes b) (hf : 2000 < fu) (hf2 : n < fu) : rickyardref19_Store_Turn.f fu (refS n d a) k b = some ((turnS n d a k b).1, (turnS n d a k b).2.1, refS n (turnS n d a k b).2.2.1 (turnS n d a k b).2.2.2) ∧ ROk n (B + 9) (turnS n d a k b).2.2.1 (turnS n d a k b).2.2.2 := by
  unfold rickyardref19_Store_Turn.f turnS
  by_cases e : b.length = 64
  · rw [decide_eq_true (show (b.length : Int) = 64 by omega), if_neg (by decide), show (refS n d a).A = refA n a from rfl, show (refA n a).Works = els n a.w from rfl, rhasE (by omega) hf2]
    simp only [Option.bind_some]
    cases hh : hasI n a.w k
    · rw [Bool.not_false, if_pos rfl, if_neg (fun q => by simp at q)]
      exact ⟨rfl, h.up (by omega)⟩
    · rw [Bool.not_true, if_neg (by decide), if_pos ⟨e, rfl⟩, rownE (by omega) hf2]
      simp only [Option.bind_some]
      cases ho : a.own n k
      · rw [if_neg (by decide), if_neg (by decide)]
        obtain ⟨m1, m2⟩ := rmakeE (fu := fu) h hB hn hb hf hf2
        have hk := make_has (d := d) (b := b) hh
        rw [m1]
        simp only [Option.bind_some]
        by_cases e2 : (makeS n d a b).2.1 = 0
        · rw [decide_eq_true e2, if_neg (by decide), if_pos e2, show (refS n (makeS n d a b).2.2.1 (makeS n d a b).2.2.2).A = refA n (makeS n d a b).2.2.2 from rfl, rgiveE (by omega) hf2]
          have h0 : ((makeS n d a b).2.2.2.give n k).1 = 0 := by
            unfold AA.give
            rw [if_pos hk]
          rw [h0]
          exact ⟨rfl, m2.dev, give_ok m2.al⟩
        · rw [decide_eq_false e2, if_pos (by decide), if_neg e2]
          exact ⟨rfl, m2⟩
      · rw [if_pos rfl, if_pos rfl, show (refS n d a).D = refD d from rfl, (rwrite_eq h.dev hB (by omega) hb hf).1]
        refine ⟨?_, writtenR h hB hn hb⟩
        simp only [Option.bind_some]
        unfold writtenS
        by_cases e3 : (writeD d k b).1 = 0
        · rw [decide_eq_true e3, if_neg (by decide), if_pos e3]
          rfl
        · rw [decide_eq_false e3, if_pos (by decide), if_neg e3]
          rfl
  · rw [decide_eq_false (show ¬ (b.length : Int) = 64 by omega), if_pos (by decide), if_neg (fun q => e q.1)]
    exact ⟨rfl, h.up (by omega)⟩
theorem okX_of {l : List S_rickyardlaw19_Act} (h : okv 9 (⟨.sl (.st .S_rickyardlaw19_Act), l⟩ : PV G.toSg)) : ∀ x ∈ l, okX x := by
  intro x hx
  have h1 := h.2 x hx
  have hk := h1 ⟨.int .i64, x.Kind⟩ (List.mem_cons_self)
  have ha := h1 ⟨.int .i64, x.At⟩ (List.mem_cons_of_mem _ List.mem_cons_self)
  have hb := h1 ⟨.sl (.int .u8), x.B⟩ (List.mem_cons_of_mem _ (List.mem_cons_of_mem _ List.mem_cons_self))
  exact ⟨wf64.1 hk, wf64.1 ha, fun y hy => wf8.1 (hb.2 y hy)⟩
theorem acts_tail {fu n j : Nat} {B k f : Int} {d : Dev} {a : AA} (h : ROk n B d a) (hn : n ≤ 1000) (hj : j ≤ 1000) (hf : 100000 < fu) : ((if (!decide (k = k)) = true then some (Sum.inl (Sum.inl (false))) else (if (!decide (f = f)) = true then some (Sum.inl (Sum.inl (false))) else ((pmem_Device_Steps.f fu (SO n d a).device : Option Int).bind fun t131 => (if (!decide (t131 = (refS n d a).D.Steps)) = true then some (Sum.inl (Sum.inl (false))) else ((pmem_Device_View.f fu (SO n d a).device : Option (List Int)).bind fun t134 => ((rickyardref05_Text.f fu (refS n d a).D.Stored : Option (List UInt8)).bind fun t136 => (if (!decide ((List.map toB t134) = t136)) = true then some (Sum.inl (Sum.inl (false))) else ((pmem_Device_Image.f fu (SO n d a).device : Option (List Int)).bind fun t139 => ((rickyardref05_Text.f fu (refS n d a).D.Lasts : Option (List UInt8)).bind fun t141 => (if (!decide ((List.map toB t139) = t141)) = true then some (Sum.inl (Sum.inl (false))) else ((shadow_Store_Alloc.f fu (SO n d a) : Option Unit).bind fun t144 => ((alloc_Alloc_Works.f fu (SO n d a).blocks : Option S_bits_Set).bind fun t146 => ((bits_Set_List.f fu t146 : Option (List Int)).bind fun t148 => ((rickyardref01_Ints.f fu t148 (refS n d a).A.Works : Option Bool).bind fun t150 => (if (!t150) = true then some (Sum.inl (Sum.inl (false))) else some (Sum.inr ((IntKind.i64.wrap ((j : Int) + 1)), (SO n d a), (refS n d a)))))))))))))))))) : Option (Sum (Sum Bool (S_shadow_Store × S_rickyardref19_Store)) (Int × S_shadow_Store × S_rickyardref19_Store))) = some (.inr (((j + 1 : Nat) : Int), SO n d a, refS n d a)) := by
  have hlen := h.dev.ok.len
  have hl1 : (storedD d).length = 8 * n := by simp [storedD, hlen]
  have hl2 : (lastsD d).length = 8 * n := by simp [lastsD, hlen]
  have v1 : ∀ w ∈ storedD d, U64 w := fun w hw => by
    obtain ⟨c, hc, rfl⟩ := List.mem_map.1 hw
    exact (h.dev.ok.val c hc).2.1
  have v2 : ∀ w ∈ lastsD d, U64 w := fun w hw => by
    obtain ⟨c, hc, rfl⟩ := List.mem_map.1 hw
    exact (h.dev.ok.val c hc).1
  have hel := els_le n a.w
  rw [show (SO n d a).device = d from rfl, show (SO n d a).blocks = a.of n from rfl, show (refS n d a).D = refD d from rfl, show (refS n d a).A = refA n a from rfl, show (refD d).Steps = d.steps from rfl, show (refD d).Stored = storedD d from rfl, show (refD d).Lasts = lastsD d from rfl, show (refA n a).Works = els n a.w from rfl, steps_eq, view_eq h.dev.ok (by omega) (by omega), image_eq h.dev.ok (by omega) (by omega), text_eq v1 (by omega) (by omega), text_eq v2 (by omega) (by omega), works_eq (by omega) (by omega) h.al]
  simp only [Option.bind_some]
  rw [list_eq (by omega) (by omega) h.al.w]
  simp only [Option.bind_some]
  rw [ints_eq (by omega) (by omega), w64 (by omega) (by omega)]
  have hs : shadow_Store_Alloc.f fu (SO n d a) = some () := rfl
  rw [hs]
  simp
theorem acts_step {fu n j : Nat} {B : Int} {d : Dev} {a : AA} {a2 : List S_rickyardlaw19_Act} (h : ROk n B d a) (hn : n ≤ 1000) (hj : j < a2.length) (hl : a2.length ≤ 1000) (hB : B + 9 < 9223372036854775807) (hf : 100000 < fu) (hx : okX (ix a2 (j : Int))) : ∃ d' a', rickyardlaw19_ShadowActs.s0 fu a2 ((j : Int), SO n d a, refS n d a) = some (.inr (((j + 1 : Nat) : Int), SO n d' a', refS n d' a')) ∧ ROk n (B + 9) d' a' := by
  unfold rickyardlaw19_ShadowActs.s0
  have c1 : 0 ≤ (j : Int) ∧ (j : Int) < (a2.length : Int) := by omega
  have hu := h.up (show B ≤ B + 9 by omega)
  simp only
  rw [decide_eq_true c1.2, if_pos rfl, if_pos c1]
  generalize ix a2 (j : Int) = x at *
  rw [rest_eq hx.1 (by decide)]
  have hbl : (SO n d a).blocks = a.of n := rfl
  have hdv : (SO n d a).device = d := rfl
  have hrD : (refS n d a).D = refD d := rfl
  have hrA : (refS n d a).A = refA n a := rfl
  simp only [Option.bind_some, hbl, hdv, hrD, hrA]
  by_cases e0 : x.Kind % 10 = 0
  · obtain ⟨m1, m2⟩ := rmakeE (fu := fu) h hB (by omega) hx.2.2 (by omega) (by omega)
    rw [decide_eq_true e0, if_pos rfl, make_eq h.dev.ok hB (by omega) hx.2.2 (by omega) h.al (by omega) (by omega), m1]
    exact ⟨_, _, acts_tail m2 hn (by omega) hf, m2⟩
  rw [decide_eq_false e0, if_neg (by decide)]
  by_cases e1 : x.Kind % 10 = 1
  · obtain ⟨m1, m2⟩ := rturnE (fu := fu) (k := x.At) h hB (by omega) hx.2.2 (by omega) (by omega)
    rw [decide_eq_true e1, if_pos rfl, turn_eq h.dev.ok hB (by omega) hx.2.2 (by omega) h.al (by omega) (by omega), m1]
    exact ⟨_, _, acts_tail m2 hn (by omega) hf, m2⟩
  rw [decide_eq_false e1, if_neg (by decide)]
  by_cases e2 : x.Kind % 10 = 2
  · have m2 : ROk n (B + 9) d (a.give n x.At).2 := ⟨hu.dev, give_ok h.al⟩
    rw [decide_eq_true e2, if_pos rfl, drop_eq h.al (by omega) (by omega), rgiveE (by omega) (by omega)]
    exact ⟨_, _, acts_tail (k := 0) (f := (a.give n x.At).1) m2 hn (by omega) hf, m2⟩
  rw [decide_eq_false e2, if_neg (by decide)]
  by_cases e3 : x.Kind % 10 = 3
  · rw [decide_eq_true e3, if_pos rfl, sget_eq h.dev.ok (by omega) (by omega), rread_eq h.dev (by omega) (by omega)]
    simp only [Option.bind_some]
    rw [decide_true, Bool.not_true, if_neg (by decide)]
    exact ⟨_, _, acts_tail (k := 0) (f := (readD d x.At).2) hu hn (by omega) hf, hu⟩
  rw [decide_eq_false e3, if_neg (by decide)]
  by_cases e4 : x.Kind % 10 = 4
  · obtain ⟨m1, m2⟩ := fenceR (fu := fu) h.dev (by omega) (by omega) (by omega)
    have m3 : ROk n (B + 9) (fenceD d).2 a := ⟨m2.up (by omega), h.al⟩
    rw [decide_eq_true e4, if_pos rfl, ssure_eq h.dev.ok (by omega) (by omega) (by omega), m1]
    exact ⟨_, _, acts_tail (k := 0) (f := (fenceD d).1) m3 hn (by omega) hf, m3⟩
  rw [decide_eq_false e4, if_neg (by decide)]
  by_cases e5 : x.Kind % 10 = 5
  · have m2 : ROk n (B + 9) d a.mark := ⟨hu.dev, mark_ok h.al⟩
    rw [decide_eq_true e5, if_pos rfl, mark_eq (by omega) (by omega) h.al, rdo0]
    exact ⟨_, _, acts_tail (k := 0) (f := 0) m2 hn (by omega) hf, m2⟩
  rw [decide_eq_false e5, if_neg (by decide)]
  by_cases e6 : x.Kind % 10 = 6
  · have m2 : ROk n (B + 9) d a.back := ⟨hu.dev, back_ok h.al⟩
    rw [decide_eq_true e6, if_pos rfl, back_eq (by omega) (by omega) h.al, rdo1]
    exact ⟨_, _, acts_tail (k := 0) (f := 0) m2 hn (by omega) hf, m2⟩
  rw [decide_eq_false e6, if_neg (by decide)]
  by_cases e7 : x.Kind % 10 = 7
  · have m2 : ROk n (B + 9) d a.commit := ⟨hu.dev, commit_ok h.al⟩
    rw [decide_eq_true e7, if_pos rfl, commit_eq (by omega) (by omega) h.al, rdo2]
    exact ⟨_, _, acts_tail (k := 0) (f := 0) m2 hn (by omega) hf, m2⟩
  rw [decide_eq_false e7, if_neg (by decide)]
  by_cases e8 : x.Kind % 10 = 8
  · have m2 : ROk n (B + 9) d a.abort := ⟨hu.dev, abort_ok h.al⟩
    rw [decide_eq_true e8, if_pos rfl, abort_eq (by omega) (by omega) h.al, rdo3]
    exact ⟨_, _, acts_tail (k := 0) (f := 0) m2 hn (by omega) hf, m2⟩
  rw [decide_eq_false e8, if_neg (by decide)]
  by_cases e9 : x.Kind % 10 = 9
  · obtain ⟨m1, m2⟩ := armR (fu := fu) (k := x.At % 40) h.dev (by unfold I64; omega)
    have m3 : ROk n (B + 9) (armD d (x.At % 40)) a := ⟨m2.up (by omega), h.al⟩
    rw [decide_eq_true e9, if_pos rfl, rest_eq hx.2.1 (by decide)]
    simp only [Option.bind_some]
    rw [arm_eq, m1]
    exact ⟨_, _, acts_tail (k := 0) (f := 0) m3 hn (by omega) hf, m3⟩
  rw [decide_eq_false e9, if_neg (by decide)]
  exact ⟨_, _, acts_tail (k := 0) (f := 0) hu hn (by omega) hf, hu⟩
theorem wrap8 {x : Int} (h : 0 ≤ x ∧ x ≤ 255) : IntKind.i64.wrap x = x := w64 (by omega) (by omega)
theorem els01 {n : Nat} (hn : 2 ≤ n) : els n (ini n) = [0, 1] ∧ els n (nul n) = [] := by
  have h1 : els n (ini n) = els 2 (ini n) := els_low (fun k hk => by
    unfold ini addF at hk
    simp only [Bool.false_or, Bool.and_eq_true, decide_eq_true_eq, List.mem_cons, List.not_mem_nil, or_false] at hk
    omega) hn
  have h2 : els n (nul n) = els 0 (nul n) := els_low (fun k hk => by
    unfold nul addF at hk
    simp at hk) (by omega)
  have h3 : ini n 0 = true := by simp [ini, addF]; omega
  have h4 : ini n 1 = true := by simp [ini, addF]; omega
  rw [h1, h2]
  refine ⟨?_, rfl⟩
  show ((([0, 1] : List Nat)).filter (ini n)).map (fun (k : Nat) => (k : Int)) = [0, 1]
  simp [h3, h4]
theorem ShadowActs : ∀ (a0 : Int), okv 9 (⟨.int .u8, a0⟩ : PV G.toSg) → ∀ (a1 : Int), okv 9 (⟨.int .u8, a1⟩ : PV G.toSg) → ∀ (a2 : List S_rickyardlaw19_Act), okv 9 (⟨.sl (.st .S_rickyardlaw19_Act), a2⟩ : PV G.toSg) → ∃ fu, rickyardlaw19_ShadowActs.f fu a0 a1 a2 = some true := by
  intro a0 h0 a1 h1 a2 h2
  refine ⟨FU, ?_⟩
  have x2 := okX_of h2
  have b0 : 0 ≤ a0 ∧ a0 ≤ 255 := wf8.1 h0
  have b1 : 0 ≤ a1 ∧ a1 ≤ 255 := wf8.1 h1
  unfold rickyardlaw19_ShadowActs.f
  rw [awake19]
  simp only [Option.bind_some, Bool.not_true, Bool.false_eq_true, if_false]
  obtain ⟨c2, q2, l2⟩ := small_ex (fu := FU) (m := 30) (acts := a2) (by decide) (by decide)
  rw [show ((30 : Nat) : Int) = 30 from rfl] at q2
  rw [q2]
  cases c2
  · rfl
  have l2 := l2 rfl
  simp only [Option.bind_some, Bool.not_true, Bool.false_eq_true, if_false]
  have t0 : Int.tmod a0 12 = a0 % 12 := Int.tmod_eq_emod_of_nonneg b0.1
  have t1 : Int.tmod a1 4 = a1 % 4 := Int.tmod_eq_emod_of_nonneg b1.1
  rw [wrap8 b0, wrap8 b1, t0, t1, w64 (by omega) (by omega)]
  obtain ⟨n, hn⟩ : ∃ n : Nat, 2 + a0 % 12 = (n : Int) := ⟨(2 + a0 % 12).toNat, by omega⟩
  have hn2 : 2 ≤ n ∧ n ≤ 13 := by omega
  have hr : 0 ≤ a1 % 4 ∧ a1 % 4 ≤ 1000 := by omega
  rw [hn]
  generalize a1 % 4 = r at *
  have hfu : FU = 200000 := rfl
  rw [made_eq (by omega) (by rw [hfu]; omega) hr]
  simp only [Option.bind_some, Option.elim_some]
  rw [rnew_eq (by omega)]
  have hR : rickyardref18_New.f FU (n : Int) [0, 1] [] r = some (refA n (A0 n r)) := by
    unfold rickyardref18_New.f refA A0
    rw [(els01 hn2.1).1, (els01 hn2.1).2]
  rw [hR]
  simp only [Option.bind_some]
  rw [show (⟨newD (8 * n), (A0 n r).of n⟩ : S_shadow_Store) = SO n (newD (8 * n)) (A0 n r) from rfl, show (⟨toM (newD (8 * n)) 0, refA n (A0 n r)⟩ : S_rickyardref19_Store) = refS n (newD (8 * n)) (A0 n r) from rfl]
  have hs0 : ROk n 0 (newD (8 * n)) (A0 n r) := ⟨newR_ok _, A0_ok hr⟩
  obtain ⟨e, p1, d', a', rfl⟩ := loopM_inv (step := rickyardlaw19_ShadowActs.s0 FU a2) (fun j s => ∃ d a, s = ((j : Int), SO n d a, refS n d a) ∧ ROk n (9 * (j : Int)) d a) a2.length (fun e => ∃ d a, e = .inr (SO n d a, refS n d a)) (by
      rintro j s hj ⟨d, a, rfl, hs⟩
      have hx : okX (ix a2 (j : Int)) := by rw [ix_nat hj]; exact x2 _ (List.getElem_mem hj)
      obtain ⟨d', a', s1, s2⟩ := acts_step (fu := FU) hs (by omega) hj (by omega) (by omega) (by decide) hx
      exact ⟨_, s1, d', a', rfl, by rw [show 9 * ((j + 1 : Nat) : Int) = 9 * (j : Int) + 9 by omega]; exact s2⟩) (by
      rintro s ⟨d, a, rfl, hs⟩
      refine ⟨.inr (SO n d a, refS n d a), ?_, d, a, rfl⟩
      unfold rickyardlaw19_ShadowActs.s0
      rw [decide_eq_false (show ¬ ((a2.length : Int) < (a2.length : Int)) by omega), if_neg (by decide)]) (k := FU) (j := 0) (s := (0, SO n (newD (8 * n)) (A0 n r), refS n (newD (8 * n)) (A0 n r))) ⟨_, _, rfl, hs0⟩ (by omega) (by rw [hfu]; omega)
  rw [p1]
  rfl
end Go.Proofs.YtdifnahlheogdaaDoor.Pure
namespace Go.Proofs.YtdifnahlheogdaaDoor.shadowActs
open Go.ChangeShapes Go.WideShapes Go.ChangeAt Go.RowKit
open Go.ChangeMaps (open_string shut_string)
open Go Go.Xw Go.Yw
theorem own : ownKnob Tryd.prog.godebug = none := Facts.own
theorem laidOut : laidOutB Tryd.prog = true := Facts.laid
theorem closed : joinedFacts Tryd.pinned.checked.prog 7 Tryd.f7 Rows.shadowActsSpec Rows.shadowActsRow = true := by
  unfold joinedFacts
  rw [Facts.enter, Facts.lifts, Facts.make, Facts.laid, Facts.rowed, Facts.plain, Facts.heard]
  kernel_rfl
set_option maxRecDepth 100000 in
set_option maxHeartbeats 1000000 in
theorem lifted (os : Os) (started : os.Started) (H : Type) (enc : TypeId × Value → H) :
    ReturnsInHanded {} Tryd.checked os 7 .any (fun w args => (Rows.shadowActsSpec.pre enc Tryd.prog Tryd.f7 [] false w args ∧ laidMetH Tryd.prog Laid.L0 w) ∧ sizedMet enc Tryd.prog Tryd.f7 (OpenSpec.ofChange Rows.shadowActsSpec) false w args) (Rows.shadowActsSpec.post enc Tryd.prog Tryd.f7 false true false false) := by
  refine returnsInHanded_of_change_and (C := Tryd.checked) (X := fun w _ => laidMetH Tryd.prog Laid.L0 w) (fun _ _ _ hh h => h.of_heap hh) own started (by kernel_rfl) Tryd.func7
    (ChangeSpec.witness_shaped (enc := enc) (C := Tryd.checked) (os := os) (X := fun w _ => laidMetH Tryd.prog Laid.L0 w) false (World.doorLaid Tryd.prog 400 os) #[.int .u8 0, .int .u8 0, .slice none 0 0] 8 rfl (World.shaped_of_RefB (by kernel_rfl) (by kernel_rfl)) (by kernel_rfl) (by kernel_rfl) (by kernel_rfl) (Laid.met os _)) ?_
  intro W base args ds gs before hval0 hW _ _ hL _
  have hval : ∀ (j : Nat) t v, Tryd.f7.params[j]? = some t → args[j]? = some v → Value.okWide Tryd.prog W .any base t v := hval0
  have hW' := hW
  obtain ⟨p, q, hA0, hV, rfl, hfz, hnd⟩ := hW
  have hA : DataW.TrodAll enc Tryd.prog W 0 (fun _ => true) true Tryd.f7.params.toList args.toList ds p := hA0
  rw [Tryd.params7] at hA hval
  obtain ⟨v0, vs0, d0, ds0, p0, q0, hargs, rfl, rfl, h0, r0⟩ := trodAll_cons hA
  obtain ⟨v1, vs1, d1, ds1, p1, q1, rfl, rfl, rfl, h1, r1⟩ := trodAll_cons r0
  obtain ⟨v2, vs2, d2, ds2, p2, q2, rfl, rfl, rfl, h2, r2⟩ := trodAll_cons r1
  obtain ⟨rfl, rfl, rfl⟩ := trodAll_nil r2
  obtain rfl : args = #[v0, v1, v2] := by cases args; simp_all
  obtain ⟨rfl, rfl⟩ := trodVars_none hV
  have k0 := h0
  have lt0 : ∀ x ∈ p0, x.block < W.heap.size := by obtain ⟨m, hm⟩ := k0; exact DataW.trod_lt m _ _ _ hm
  obtain ⟨fu0, hf0⟩ := h0
  obtain ⟨a0, c0, o0⟩ := open_ok (Γ := G) gok full0 9 5 (.int .u8) (by kernel_rfl) enc _ _ _ _ _ _ hf0
  have w0 : VR (Γ := G) (fun _ => none) W (Low W) (.v (.int .u8) a0) v0 := arg_ok (P := Tryd.prog) (base := base) (n := 8) gok c0 (hval 0 5 v0 rfl rfl) (by kernel_rfl)
  obtain ⟨b0, rfl, rfl, rfl, y0⟩ := open_int Tryd.underlying5 (hval 0 5 v0 rfl rfl) k0
  have k1 := h1
  have lt1 : ∀ x ∈ p1, x.block < W.heap.size := by obtain ⟨m, hm⟩ := k1; exact DataW.trod_lt m _ _ _ hm
  obtain ⟨fu1, hf1⟩ := h1
  obtain ⟨a1, c1, o1⟩ := open_ok (Γ := G) gok full0 9 5 (.int .u8) (by kernel_rfl) enc _ _ _ _ _ _ hf1
  have w1 : VR (Γ := G) (fun _ => none) W (Low W) (.v (.int .u8) a1) v1 := arg_ok (P := Tryd.prog) (base := base) (n := 8) gok c1 (hval 1 5 v1 rfl rfl) (by kernel_rfl)
  obtain ⟨b1, rfl, rfl, rfl, y1⟩ := open_int Tryd.underlying5 (hval 1 5 v1 rfl rfl) k1
  have k2 := h2
  have lt2 : ∀ x ∈ p2, x.block < W.heap.size := by obtain ⟨m, hm⟩ := k2; exact DataW.trod_lt m _ _ _ hm
  obtain ⟨fu2, hf2⟩ := h2
  obtain ⟨a2, c2, o2⟩ := open_ok (Γ := G) gok full0 9 49 (.sl (.st SI.S_rickyardlaw19_Act)) (by kernel_rfl) enc _ _ _ _ _ _ hf2
  have w2 : VR (Γ := G) (fun _ => none) W (Low W) (.v (.sl (.st SI.S_rickyardlaw19_Act)) a2) v2 := arg_ok (P := Tryd.prog) (base := base) (n := 8) gok c2 (hval 2 49 v2 rfl rfl) (by kernel_rfl)
  obtain ⟨fu, hfu⟩ := Pure.ShadowActs a0 o0 a1 o1 a2 o2
  refine Calls.mono (law_ok (rickyardlaw19_ShadowActs.sc fu a0 a1 a2 true hfu) (.cons w0 (.cons w1 (.cons w2 .nil))) (Laid.gl hL)) fun e W' hr => ?_
  obtain ⟨v, rfl, rfl, gr⟩ := hr
  have bel := Fr.below gr
  exact ⟨_, rfl, _, _, _, [], _, [], hW', trodAll_mk1 (shut_bool Tryd.underlying4 _), (trodAll_cons_mk (shut_int Tryd.underlying5 y0) (trodAll_cons_mk (shut_int Tryd.underlying5 y1) (trodAll_cons_mk (Below.trod laidOut (by kernel_rfl) (of_decide_eq_true (by kernel_rfl)) k2 bel lt2) trodAll_mk0))), rfl, bel.frame _, fun h => by cases h⟩
theorem over : Rows.shadowActsRow.holds Tryd.pinned (OpenSpec.ofChange Rows.shadowActsSpec) :=
  OpenClaim.holds_of_wide 7 Tryd.f7 rfl rfl rfl rfl rfl rfl rfl ⟨rfl, rfl, rfl, rfl, rfl⟩ rfl rfl rfl rfl rfl (by kernel_rfl) Tryd.func7 closed
    (of_decide_eq_true (by kernel_rfl)) (by unfold Func.isWrapper; first | (rw [if_pos (by decide +kernel)]; kernel_rfl) | (rw [if_neg (by decide +kernel)]; exact ⟨rfl, rfl⟩))
    (fun os started H enc _ => lifted os started H enc)
theorem card : Rows.ShadowActsCardSaid :=
  Claim7.holds_tied_plain_at .later [] [.data] true (true, "979bcd4b5e59f6cd4e5fd9cc72609fc7cce4b3df3e2b5c7c49de09907c292303") false
    over (fun _ h => by cases h) (by kernel_rfl) (fun _ h => by cases h) shadowActs_row_tie rfl ⟨rfl, rfl⟩ (by kernel_rfl) rfl
    (fun f fn hf hfn => by
      obtain rfl : f = 7 := Option.some.inj ((show Tryd.prog.funcNamed "rickyard/rickyardlaw19.ShadowActs" = some 7 by kernel_rfl).symm.trans hf) |>.symm
      obtain rfl : fn = Tryd.f7 := (Option.some.inj (Tryd.func7.symm.trans hfn)).symm
      exact ⟨by kernel_rfl, fun j t ht => by
        rw [Tryd.params7] at ht
        have hm : t ∈ [5, 5, 49] := by simpa using Array.mem_of_getElem? ht
        have hall : ([5, 5, 49].all fun u => !Tryd.prog.wantsStandIn u) = true := by kernel_rfl
        exact (show Tryd.prog.wantsStandIn t = false by simpa using List.all_eq_true.1 hall t hm)⟩)
    (by kernel_rfl)
end Go.Proofs.YtdifnahlheogdaaDoor.shadowActs
namespace Go.Proofs.YtdifnahlheogdaaDoor
theorem shadowActs_holds : Rows.ShadowActsCardSaid := shadowActs.card
#print axioms shadowActs_holds
end Go.Proofs.YtdifnahlheogdaaDoor
