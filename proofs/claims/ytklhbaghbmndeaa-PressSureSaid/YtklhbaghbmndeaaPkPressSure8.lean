/- PressSure: texts merged, part 8 of 8. The last part proves that the law PressSure holds for every input. -/
import Derived.Test.YtklhbaghbmndeaaPkPressSure7
/- rickyard/rickyardref05.Same: its model, and that the Go function computes it: written by gen.py. -/
set_option linter.unusedVariables false
namespace Go.Proofs.Ytklhbaghbmndeaa
open Go Go.Xw
def rickyardref05_Same.s0 (fu : Nat) (a0 : List S_api_Fate) (a1 : List S_api_Fate) : Int → Option (Sum (Sum Bool Unit) Int) := fun s2 => (if (decide (s2 < (List.length a0 : Int))) = true then (if 0 ≤ s2 ∧ s2 < (List.length a0 : Int) then (if 0 ≤ s2 ∧ s2 < (List.length a1 : Int) then (if (!decide ((ix a0 s2) = (ix a1 s2))) = true then some (Sum.inl (Sum.inl (false))) else some (Sum.inr ((IntKind.i64.wrap (s2 + 1))))) else none) else none) else some (Sum.inl (Sum.inr ())))
def rickyardref05_Same.f (fu : Nat) (a0 : List S_api_Fate) (a1 : List S_api_Fate) : Option Bool := (if (!decide ((List.length a0 : Int) = (List.length a1 : Int))) = true then some (false) else ((loopM (rickyardref05_Same.s0 fu a0 a1) fu (0)).bind fun e3 => match e3 with | Sum.inl p => some p | Sum.inr x6 => some (true)))
set_option maxRecDepth 100000 in
set_option maxHeartbeats 400000 in
theorem rickyardref05_Same.ok (fu : Nat) (w : World) (a0 : List S_api_Fate) (V0_0 : Value) (R0_0 : Rd k_api_Fate w V0_0 a0) (a1 : List S_api_Fate) (V1_0 : Value) (R1_0 : Rd k_api_Fate w V1_0 a1) (r : Bool) (h : rickyardref05_Same.f fu a0 a1 = some r) :
  Calls Try.prog 46 (([V0_0, V1_0] : List Value).toArray) w (fun e w' => ∃ v, e = .returned v ∧ v = .bool r ∧ Gr w w') := by
 unfold rickyardref05_Same.f at h
 have fB : Gr w w := Fr.refl _ _
 refine calls_cw Try.func46 rfl Try.ntmps46 rfl ?_
 refine cw_seq ?_
 refine cw_region ?_
 refine ol_val (v := .bool false) (by exact xr_assign rfl rfl) rfl rfl rfl ?_
 refine ol_nil ?_
 refine cw_seq ?_
 refine cw_seq ?_
 refine cw_region ?_
 refine ol_val (v := V0_0) (by exact xr_move rfl rfl) rfl rfl rfl ?_
 refine ol_val (v := .int .i64 (List.length a0 : Int)) (by exact xr_lenR rfl Try.underlying52 rfl (R0_0.gr fB)) rfl rfl rfl ?_
 refine ol_val (v := V1_0) (by exact xr_move rfl rfl) rfl rfl rfl ?_
 refine ol_val (v := .int .i64 (List.length a1 : Int)) (by exact xr_lenR rfl Try.underlying52 rfl (R1_0.gr fB)) rfl rfl rfl ?_
 refine ol_val (v := .bool (!decide ((List.length a0 : Int) = (List.length a1 : Int)))) (by exact xr_neI rfl Try.underlying3 rfl rfl rfl) rfl rfl rfl ?_
 refine ol_nil ?_
 rcases is h with ⟨c1, h⟩ | ⟨c1, h⟩
 ·refine cw_condT rfl c1 ?_
  refine cw_seq ?_
  refine cw_region ?_
  refine ol_val (v := .bool false) (by exact xr_assign rfl rfl) rfl rfl rfl ?_
  refine ol_nil ?_
  refine cw_ret ?_
  repeat (first | with_reducible refine thn_r ?_ | with_reducible refine blk_r ?_)
  obtain rfl := Option.some.inj h
  refine fin_ret1 Try.results46 rfl ?_
  exact ⟨_, rfl, rfl, fB⟩
 refine cw_condF rfl c1 ?_
 refine cw_skip ?_
 refine cw_seq ?_
 refine cw_seq ?_
 refine cw_region ?_
 refine ol_val (v := .int .i64 0) (by exact xr_assign rfl rfl) rfl rfl rfl ?_
 refine ol_nil ?_
 obtain ⟨e3, l4, h5⟩ := bs h
 refine cw_mid (fun ρ' w' => ∃ x6, e3 = Sum.inr x6 ∧ Gr w w') ?_ ?_
 ·refine cw_block ?_
  refine cw_round (fun (s2 : Int) ρ' w' => ρ' 0 = V0_0 ∧ ρ' 1 = V1_0 ∧ ρ' 5 = .int .i64 s2 ∧ Gr w w') l4 ?_ ?_
  ·skip
   exact ⟨rfl, rfl, rfl, fB⟩
  rintro s2 x9 ρ7 w8 ⟨e0, e1, e5, fB⟩ h
  unfold rickyardref05_Same.s0 at h
  refine cw_seq ?_
  refine cw_seq ?_
  refine cw_region ?_
  refine ol_val (v := .int .i64 s2) (by exact xr_move rfl e5) rfl rfl rfl ?_
  refine ol_val (v := V0_0) (by exact xr_move rfl e0) rfl rfl rfl ?_
  refine ol_val (v := .int .i64 (List.length a0 : Int)) (by exact xr_lenR rfl Try.underlying52 rfl (R0_0.gr fB)) rfl rfl rfl ?_
  refine ol_val (v := .bool (decide (s2 < (List.length a0 : Int)))) (by exact xr_lss rfl rfl rfl) rfl rfl rfl ?_
  refine ol_nil ?_
  rcases is h with ⟨c10, h⟩ | ⟨c10, h⟩
  ·refine cw_condT rfl c10 ?_
   refine cw_skip ?_
   refine cw_seq ?_
   refine cw_block ?_
   refine cw_seq ?_
   obtain ⟨g11, h⟩ := gs h
   obtain ⟨g12, h⟩ := gs h
   refine cw_drawL 8 [fun vz wz => vz = (V0_0 : Value), fun vz wz => vz = (.int .i64 s2 : Value), fun vz wz => vz = (.pointer (some ⟨(sb V0_0), so V0_0 + Int.toNat s2 * 5, none⟩) : Value), fun vz wz => vz = (aggV [Seg.cell (.int .i64 ((ix a0 s2).At)), Seg.cell (.int .u64 ((ix a0 s2).Lasts)), Seg.cell (.bool ((ix a0 s2).Flushed)), Seg.cell (.int .u64 ((ix a0 s2).Sent)), Seg.cell (.int .u64 ((ix a0 s2).Stored))] : Value), fun vz wz => vz = (V1_0 : Value), fun vz wz => vz = (.int .i64 s2 : Value), fun vz wz => vz = (.pointer (some ⟨(sb V1_0), so V1_0 + Int.toNat s2 * 5, none⟩) : Value), fun vz wz => vz = (aggV [Seg.cell (.int .i64 ((ix a1 s2).At)), Seg.cell (.int .u64 ((ix a1 s2).Lasts)), Seg.cell (.bool ((ix a1 s2).Flushed)), Seg.cell (.int .u64 ((ix a1 s2).Sent)), Seg.cell (.int .u64 ((ix a1 s2).Stored))] : Value)] mo rfl ⟨fun _ _ _ h _ => h, fun _ _ _ h _ => h, fun _ _ _ h _ => h, fun _ _ _ h _ => h, fun _ _ _ h _ => h, fun _ _ _ h _ => h, fun _ _ _ h _ => h, fun _ _ _ h _ => h, trivial⟩ ?_ ?_
   ·refine ⟨?_, ?_, ?_, ?_, ?_, ?_, ?_, ?_, trivial⟩
    ·intro ρz wz hz hk hd
     exact sk_val (v := V0_0) (by exact xr_move rfl ((hk 0 rfl).trans e0)) rfl rfl
    ·intro ρz wz hz hk hd
     exact sk_val (v := .int .i64 s2) (by exact xr_move rfl ((hk 5 rfl).trans e5)) rfl rfl
    ·intro ρz wz hz hk hd
     have d17 := hd 0 rfl 17 rfl
     have d18 := hd 1 rfl 18 rfl
     exact sk_val (by exact xr_indexR (K := k_api_Fate) (v := V0_0) rfl Try.underlying52 sz55 d17 (R0_0.gr (fB.gr hz)) d18 g11.1 g11.2) rfl rfl
    ·intro ρz wz hz hk hd
     have d19 := hd 2 rfl 19 rfl
     exact sk_val (by exact xr_loadS (ss := [Seg.cell (.int .i64 ((ix a0 s2).At)), Seg.cell (.int .u64 ((ix a0 s2).Lasts)), Seg.cell (.bool ((ix a0 s2).Flushed)), Seg.cell (.int .u64 ((ix a0 s2).Sent)), Seg.cell (.int .u64 ((ix a0 s2).Stored))]) rfl ag55 sz55 rfl d19 ((R0_0.gr (fB.gr hz)).elem g11.1 g11.2)) rfl rfl
    ·intro ρz wz hz hk hd
     exact sk_val (v := V1_0) (by exact xr_move rfl ((hk 1 rfl).trans e1)) rfl rfl
    ·intro ρz wz hz hk hd
     exact sk_val (v := .int .i64 s2) (by exact xr_move rfl ((hk 5 rfl).trans e5)) rfl rfl
    ·intro ρz wz hz hk hd
     have d21 := hd 4 rfl 21 rfl
     have d22 := hd 5 rfl 22 rfl
     exact sk_val (by exact xr_indexR (K := k_api_Fate) (v := V1_0) rfl Try.underlying52 sz55 d21 (R1_0.gr (fB.gr hz)) d22 g12.1 g12.2) rfl rfl
    intro ρz wz hz hk hd
    have d23 := hd 6 rfl 23 rfl
    exact sk_val (by exact xr_loadS (ss := [Seg.cell (.int .i64 ((ix a1 s2).At)), Seg.cell (.int .u64 ((ix a1 s2).Lasts)), Seg.cell (.bool ((ix a1 s2).Flushed)), Seg.cell (.int .u64 ((ix a1 s2).Sent)), Seg.cell (.int .u64 ((ix a1 s2).Stored))]) rfl ag55 sz55 rfl d23 ((R1_0.gr (fB.gr hz)).elem g12.1 g12.2)) rfl rfl
   intro ρ13 w14 q15 hk hd
   have e0 := (hk 0 rfl).trans e0
   have e1 := (hk 1 rfl).trans e1
   have e5 := (hk 5 rfl).trans e5
   have e20 := hd 3 rfl 20 rfl
   have e24 := hd 7 rfl 24 rfl
   have fB := fB.gr q15
   refine ol_val (v := .bool (!decide ((ix a0 s2) = (ix a1 s2)))) (by exact xr_neA (a := (ix a0 s2)) (b := (ix a1 s2)) rfl eqa55 rfl Try.eqGuardType54 e20 e24 rfl rfl) rfl rfl rfl ?_
   refine ol_nil ?_
   rcases is h with ⟨c16, h⟩ | ⟨c16, h⟩
   ·refine cw_condT rfl c16 ?_
    refine cw_seq ?_
    refine cw_region ?_
    refine ol_val (v := .bool false) (by exact xr_assign rfl rfl) rfl rfl rfl ?_
    refine ol_nil ?_
    refine cw_ret ?_
    repeat (first | with_reducible refine thn_r ?_ | with_reducible refine blk_r ?_)
    obtain rfl := Option.some.inj h
    refine lp_ret ?_
    rintro rfl
    repeat (first | with_reducible refine thn_r ?_ | with_reducible refine blk_r ?_)
    have h := h5
    obtain rfl := Option.some.inj h
    refine fin_ret1 Try.results46 rfl ?_
    exact ⟨_, rfl, rfl, fB⟩
   refine cw_condF rfl c16 ?_
   refine cw_skip ?_
   refine blk_i ?_
   refine cw_region ?_
   refine ol_val (v := .int .i64 s2) (by exact xr_move rfl e5) rfl rfl rfl ?_
   refine ol_val (v := .int .i64 (IntKind.i64.wrap (s2 + 1))) (by exact xr_add rfl rfl rfl) rfl rfl rfl ?_
   refine ol_val (v := .int .i64 (IntKind.i64.wrap (s2 + 1))) (by exact xr_assign rfl rfl) rfl rfl rfl ?_
   refine ol_nil ?_
   obtain rfl := Option.some.inj h
   refine lp_in ?_
   exact ⟨e0, e1, rfl, fB⟩
  refine cw_condF rfl c10 ?_
  refine cw_exit ?_
  repeat (first | with_reducible refine thn_e ?_ | with_reducible refine blk_e rfl ?_)
  obtain rfl := Option.some.inj h
  refine lp_exit ?_
  rintro rfl
  refine thn_x ?_
  exact ⟨_, rfl, fB⟩
 rintro ρ17 w18 ⟨x6, rfl, fB⟩
 have h := h5
 refine cw_seq ?_
 refine cw_region ?_
 refine ol_val (v := .bool true) (by exact xr_assign rfl rfl) rfl rfl rfl ?_
 refine ol_nil ?_
 refine cw_ret ?_
 repeat (first | with_reducible refine thn_r ?_ | with_reducible refine blk_r ?_)
 obtain rfl := Option.some.inj h
 refine fin_ret1 Try.results46 rfl ?_
 exact ⟨_, rfl, rfl, fB⟩
end Go.Proofs.Ytklhbaghbmndeaa

/- The document's device: it does what the program's does. -/
set_option linter.unusedVariables false
set_option linter.unusedSimpArgs false
namespace Go.Proofs.Ytklhbaghbmndeaa.Pure
open Go Go.Xw
abbrev Ref := S_rickyardref05_Device
def sentD (d : Dev) : List Int := d.cells.map fun c => c.sent
def flushedD (d : Dev) : List Bool := d.cells.map fun c => c.flushed
/-- The document's device of the same state; s: how many steps there were since the plan was laid. -/
def toM (d : Dev) (s : Int) : Ref := ⟨lastsD d, storedD d, sentD d, flushedD d, d.plan.list, s, if d.armed = true then d.left else -1, d.steps⟩
/-- Where the plan stands. -/
def Since (d : Dev) (s : Int) : Prop := d.plan.list.length ≠ 0 → d.plan.at_ = s % (d.plan.list.length : Int)
theorem set_same {α : Type} [Inhabited α] (l : List α) (k : Nat) (h : k < l.length) : l.set k (ix l (k : Int)) = l := by
  rw [ix_nat h]
  exact List.set_getElem_self h
theorem ix_map' {α β : Type} [Inhabited α] [Inhabited β] (f : α → β) (cs : List α) (k : Nat) (h : k < cs.length) : ix (cs.map f) (k : Int) = f (ix cs (k : Int)) := by
  rw [ix_nat (by simpa using h), ix_nat h, List.getElem_map]
theorem evict_set {cs : List Cell} {p : Int} {k : Nat} (hp : 0 ≤ p) (hk : p % (cs.length : Int) = (k : Int)) (hl : k < cs.length) : evict p cs = cs.set k (keepC (ix cs (k : Int)) (ix cs (k : Int)).stored) := by
  rw [set_upd (fun c => keepC c c.stored) hl]
  apply List.ext_getElem (by simp [evict])
  intro i h1 h2
  simp only [evict, List.getElem_mapIdx, hk]
  by_cases e : i = k
  · rw [if_pos e, if_pos ⟨hp, by omega⟩]
  · rw [if_neg e, if_neg fun z => e (by omega)]
theorem stored_keep {cs : List Cell} {k : Nat} {w : Int} (hl : k < cs.length) : (cs.set k (keepC (ix cs (k : Int)) w)).map (fun c => c.stored) = cs.map fun c => c.stored := by
  rw [List.map_set]
  have : (keepC (ix cs (k : Int)) w).stored = ix (cs.map fun c => c.stored) (k : Int) := by rw [ix_map' _ _ _ hl]; rfl
  rw [this, set_same _ _ (by simpa using hl)]
/-- One value lasts. -/
theorem rlast_eq {fu : Nat} {cs : List Cell} {k : Nat} {w : Int} {pl : List Int} {s le st : Int} (hl : k < cs.length) :
    rickyardref05_Device_last.f fu (⟨cs.map (fun c => c.lasts), cs.map (fun c => c.stored), cs.map (fun c => c.sent), cs.map (fun c => c.flushed), pl, s, le, st⟩ : Ref) (k : Int) w = some (⟨(cs.set k (keepC (ix cs (k : Int)) w)).map (fun c => c.lasts), (cs.set k (keepC (ix cs (k : Int)) w)).map (fun c => c.stored), (cs.set k (keepC (ix cs (k : Int)) w)).map (fun c => c.sent), (cs.set k (keepC (ix cs (k : Int)) w)).map (fun c => c.flushed), pl, s, le, st⟩ : Ref) := by
  unfold rickyardref05_Device_last.f
  simp only [List.length_map]
  rw [if_pos (by omega), if_pos (by omega), if_pos (by omega), Int.toNat_natCast, stored_keep hl, List.map_set, List.map_set, List.map_set]
  rfl
theorem rdstep_eq {fu n : Nat} {B s : Int} {d : Dev} (h : DevOk n B d) (hB : B < 9223372036854775807) (hs : 0 ≤ s ∧ s < 9223372036854775807) (hS : Since d s) (ho : d.off = false) : rickyardref05_Device_step.f fu (toM d s) = some (toM (tick d) (s + 1)) := by
  unfold rickyardref05_Device_step.f toM
  simp only []
  have hst := h.st
  have w1 : IntKind.i64.wrap (d.steps + 1) = d.steps + 1 := w64 (by omega) (by omega)
  have w2 : IntKind.i64.wrap (s + 1) = s + 1 := w64 (by omega) (by omega)
  have hll : (lastsD d).length = d.cells.length := by simp [lastsD]
  have hsl : (storedD d).length = d.cells.length := by simp [storedD]
  -- what is evicted
  have hA : ∀ (E : List Cell), E = evict (pick d.plan) d.cells →
      ((if (if (decide ((List.length d.plan.list : Int) > 0)) = true then (decide ((List.length (lastsD d) : Int) > 0)) else false) = true then (if (List.length d.plan.list : Int) ≠ 0 then (if 0 ≤ (Int.tmod s (List.length d.plan.list : Int)) ∧ (Int.tmod s (List.length d.plan.list : Int)) < (List.length d.plan.list : Int) then (((if (decide ((ix d.plan.list (Int.tmod s (List.length d.plan.list : Int))) ≥ 0)) = true then (if (List.length (lastsD d) : Int) ≠ 0 then (if (List.length (lastsD d) : Int) ≠ 0 then (if 0 ≤ (Int.tmod (ix d.plan.list (Int.tmod s (List.length d.plan.list : Int))) (List.length (lastsD d) : Int)) ∧ (Int.tmod (ix d.plan.list (Int.tmod s (List.length d.plan.list : Int))) (List.length (lastsD d) : Int)) < (List.length (storedD d) : Int) then ((rickyardref05_Device_last.f fu (⟨lastsD d, storedD d, sentD d, flushedD d, d.plan.list, s, if d.armed = true then d.left else -1, d.steps⟩ : Ref) (Int.tmod (ix d.plan.list (Int.tmod s (List.length d.plan.list : Int))) (List.length (lastsD d) : Int)) (ix (storedD d) (Int.tmod (ix d.plan.list (Int.tmod s (List.length d.plan.list : Int))) (List.length (lastsD d) : Int))) : Option S_rickyardref05_Device).bind fun t86 => some (t86.Lasts, t86.Stored, t86.Sent, t86.Flushed, t86.Plan, t86.Since, t86.Left, t86.Steps)) else none) else none) else none) else some (lastsD d, storedD d, sentD d, flushedD d, d.plan.list, s, (if d.armed = true then d.left else -1), d.steps)) : Option ((List Int) × (List Int) × (List Int) × (List Bool) × (List Int) × Int × Int × Int)).bind fun x53 => some (x53.1, x53.2.1, x53.2.2.1, x53.2.2.2.1, x53.2.2.2.2.1, x53.2.2.2.2.2.1, x53.2.2.2.2.2.2.1, x53.2.2.2.2.2.2.2)) else none) else none) else some (lastsD d, storedD d, sentD d, flushedD d, d.plan.list, s, (if d.armed = true then d.left else -1), d.steps)) : Option ((List Int) × (List Int) × (List Int) × (List Bool) × (List Int) × Int × Int × Int))
      = some (E.map (fun c => c.lasts), E.map (fun c => c.stored), E.map (fun c => c.sent), E.map (fun c => c.flushed), d.plan.list, s, (if d.armed = true then d.left else -1), d.steps) := by
    rintro E rfl
    by_cases z : d.plan.list.length = 0
    · have z' : ¬ ((List.length d.plan.list : Int) > 0) := by omega
      rw [decide_eq_false z', if_neg (by simp)]
      have : pick d.plan = -1 := by unfold pick; rw [if_pos z]
      rw [this, evict_no _ (by decide)]
      rfl
    · have z' : (List.length d.plan.list : Int) > 0 := by omega
      have z2 : (List.length d.plan.list : Int) ≠ 0 := by omega
      rw [decide_eq_true z', if_pos rfl]
      by_cases zc : d.cells = []
      · have : ¬ ((List.length (lastsD d) : Int) > 0) := by rw [hll, zc]; decide
        rw [decide_eq_false this, if_neg (by simp), zc, evict_nil]
        simp [lastsD, storedD, sentD, flushedD, zc]
      · have hc0 : 0 < d.cells.length := List.length_pos_iff.2 zc
        have c1 : (List.length (lastsD d) : Int) > 0 := by rw [hll]; omega
        rw [decide_eq_true c1, if_pos rfl, if_pos z2, Int.tmod_eq_emod_of_nonneg hs.1]
        have m0 := Int.emod_nonneg s z2
        have m1 := Int.emod_lt_of_pos s z'
        rw [if_pos ⟨m0, m1⟩]
        have hpk : pick d.plan = ix d.plan.list (s % (d.plan.list.length : Int)) := by
          unfold pick
          rw [if_neg z, hS z]
        rw [← hpk]
        by_cases hp : pick d.plan ≥ 0
        · rw [decide_eq_true hp, if_pos rfl, Int.tmod_eq_emod_of_nonneg hp]
          have c2 : (List.length (lastsD d) : Int) ≠ 0 := by omega
          rw [if_pos c2, if_pos c2, hll, hsl]
          have n0 := Int.emod_nonneg (pick d.plan) (show (d.cells.length : Int) ≠ 0 by omega)
          have n1 := Int.emod_lt_of_pos (pick d.plan) (show (d.cells.length : Int) > 0 by omega)
          rw [if_pos ⟨n0, n1⟩]
          obtain ⟨k, hk⟩ : ∃ k : Nat, pick d.plan % (d.cells.length : Int) = (k : Int) := ⟨(pick d.plan % (d.cells.length : Int)).toNat, by omega⟩
          have hkl : k < d.cells.length := by omega
          have e1 : ix (storedD d) (k : Int) = (ix d.cells (k : Int)).stored := ix_map' _ _ _ hkl
          rw [hk, e1, evict_set hp hk hkl]
          have := rlast_eq (fu := fu) (cs := d.cells) (w := (ix d.cells (k : Int)).stored) (pl := d.plan.list) (s := s) (le := if d.armed = true then d.left else -1) (st := d.steps) hkl
          unfold lastsD storedD sentD flushedD
          rw [this]
          rfl
        · rw [decide_eq_false hp, if_neg (by decide), evict_no _ hp]
          rfl
  rw [hA _ rfl]
  simp only [Option.bind_some, w1, w2]
  have hl : (if d.armed = true then d.left else -1) > 0 ↔ d.armed = true := by
    cases ha : d.armed
    · simp
    · have := h.arm ha
      rw [ho] at this
      have : d.left ≠ 0 := of_decide_eq_false this.2.2.symm
      simp
      omega
  have np : (nextP d.plan).list = d.plan.list := by unfold nextP; split <;> rfl
  cases ha : d.armed
  · simp [tick, lastsD, storedD, sentD, flushedD, ha, np]
  · have h3 := h.arm ha
    have : d.left > 0 := by
      have := hl.2 ha
      rwa [ha, if_pos rfl] at this
    rw [if_pos rfl, decide_eq_true this, if_pos rfl, w64 (by omega) (by omega)]
    simp [tick, lastsD, storedD, sentD, flushedD, ha, np]
theorem rerror_eq {fu n : Nat} {B s k m : Int} {d : Dev} (h : DevOk n B d) : rickyardref05_Device_error.f fu (toM d s) k m = some (mayI d.off k m) := by
  unfold rickyardref05_Device_error.f mayI toM
  have hl : (if d.armed = true then d.left else -1) = 0 ↔ d.off = true := by
    cases ha : d.armed
    · have := h.una ha
      simp [this]
    · have := (h.arm ha).2.2
      rw [this]
      simp
  simp only []
  by_cases e : d.off = true
  · rw [decide_eq_true (hl.2 e), if_pos rfl, if_pos e]
  · rw [decide_eq_false (fun q => e (hl.1 q)), if_neg (by decide), if_neg e]
    by_cases h1 : k < 0
    · simp [h1]
    · by_cases h2 : k ≥ m <;> simp [h1, h2]
theorem eta8 {m : Ref} : (⟨m.Lasts, m.Stored, m.Sent, m.Flushed, m.Plan, m.Since, m.Left, m.Steps⟩ : Ref) = m := rfl
/-- How many steps there were since the plan was laid, behind a call. -/
def inc (b : Prop) [Decidable b] (s : Int) : Int := if b then s + 1 else s
theorem with_toM (d : Dev) (cs : List Cell) (s : Int) : toM (withC d cs) s = ⟨cs.map (fun c => c.lasts), cs.map (fun c => c.stored), cs.map (fun c => c.sent), cs.map (fun c => c.flushed), d.plan.list, s, if d.armed = true then d.left else -1, d.steps⟩ := rfl
theorem rstore_eq {fu n : Nat} {B s k w : Int} {d : Dev} (h : DevOk n B d) (hB : B < 9223372036854775807) (hs : 0 ≤ s ∧ s < 9223372036854775807) (hS : Since d s) (hw : U64 w) : rickyardref05_Device_Store.f fu (toM d s) k w = some ((storeD d k w).1, toM (storeD d k w).2 (inc (mayI d.off k (d.cells.length : Int) = 0) s)) := by
  unfold rickyardref05_Device_Store.f storeD inc
  have hll : (toM d s).Lasts.length = d.cells.length := by simp [toM, lastsD]
  rw [hll, rerror_eq h]
  simp only [Option.bind_some]
  by_cases e : mayI d.off k (d.cells.length : Int) = 0
  · obtain ⟨ho, h0, h1⟩ := may_zero.1 e
    have hsl : (toM d s).Stored.length = d.cells.length := by simp [toM, storedD]
    rw [decide_eq_true e, if_pos rfl, hsl, if_pos ⟨h0, h1⟩, if_pos e, if_pos e]
    obtain ⟨j, rfl⟩ : ∃ j : Nat, k = (j : Int) := ⟨k.toNat, by omega⟩
    have hj : j < d.cells.length := by omega
    have hput : putC (j : Int) w d.cells = d.cells.set j ⟨(ix d.cells (j : Int)).lasts, w, (ix d.cells (j : Int)).sent, (ix d.cells (j : Int)).flushed⟩ := by
      rw [set_upd (fun c => ⟨c.lasts, w, c.sent, c.flushed⟩) hj]
      apply List.ext_getElem (by simp [putC])
      intro i h1 h2
      simp only [putC, List.getElem_mapIdx, Int.natCast_inj]
    have e1 : (⟨(toM d s).Lasts, (List.set (toM d s).Stored (Int.toNat (j : Int)) w), (toM d s).Sent, (toM d s).Flushed, (toM d s).Plan, (toM d s).Since, (toM d s).Left, (toM d s).Steps⟩ : Ref) = toM (withC d (putC (j : Int) w d.cells)) s := by
      rw [with_toM, hput, List.map_set, List.map_set, List.map_set, List.map_set]
      have a1 : (ix d.cells (j : Int)).lasts = ix (d.cells.map fun c => c.lasts) (j : Int) := (ix_map' _ _ _ hj).symm
      have a2 : (ix d.cells (j : Int)).sent = ix (d.cells.map fun c => c.sent) (j : Int) := (ix_map' _ _ _ hj).symm
      have a3 : (ix d.cells (j : Int)).flushed = ix (d.cells.map fun c => c.flushed) (j : Int) := (ix_map' (fun c : Cell => c.flushed) _ _ hj).symm
      simp only []
      rw [a1, a2, a3, set_same _ _ (by simpa using hj), set_same _ _ (by simpa using hj), set_same _ _ (by simpa using hj)]
      rfl
    have hok : DevOk n B (withC d (putC (j : Int) w d.cells)) := with_ok h (by simp [putC, h.len]) (mapIdx_ok h.val fun i c hc => by
      split
      · exact ⟨hc.1, hw, hc.2.2⟩
      · exact hc)
    rw [e1, rdstep_eq hok hB hs hS ho]
    simp only [Option.bind_some, e]
  · rw [decide_eq_false e, if_neg (by decide), if_neg e, if_neg e]
    rfl
theorem rload_eq {fu n : Nat} {B s k : Int} {d : Dev} (h : DevOk n B d) : rickyardref05_Device_Load.f fu (toM d s) k = some (loadD d k) := by
  unfold rickyardref05_Device_Load.f loadD
  have hll : (toM d s).Lasts.length = d.cells.length := by simp [toM, lastsD]
  have hsl : (toM d s).Stored.length = d.cells.length := by simp [toM, storedD]
  rw [hll, hsl, rerror_eq h]
  simp only [Option.bind_some]
  by_cases e : mayI d.off k (d.cells.length : Int) = 0
  · obtain ⟨ho, h0, h1⟩ := may_zero.1 e
    rw [decide_eq_true e, if_pos e, if_neg (by decide), if_pos ⟨h0, h1⟩]
    obtain ⟨j, rfl⟩ : ∃ j : Nat, k = (j : Int) := ⟨k.toNat, by omega⟩
    have : ix (toM d s).Stored (j : Int) = (ix d.cells (j : Int)).stored := ix_map' _ _ _ (by omega)
    rw [this]
  · rw [decide_eq_false e, if_neg e, if_pos (by decide)]
end Go.Proofs.Ytklhbaghbmndeaa.Pure

/- The document's device, further: flush, fence, fates, crash, any act. -/
set_option linter.unusedVariables false
set_option linter.unusedSimpArgs false
namespace Go.Proofs.Ytklhbaghbmndeaa.Pure
open Go Go.Xw
theorem sendL_lasts (k : Int) (cs : List Cell) : (sendL k cs).map (fun c => c.lasts) = cs.map fun c => c.lasts := by
  apply List.ext_getElem (by simp [sendL])
  intro i h1 h2
  simp only [sendL, List.getElem_map, List.getElem_mapIdx]
  split <;> rfl
theorem sendL_stored (k : Int) (cs : List Cell) : (sendL k cs).map (fun c => c.stored) = cs.map fun c => c.stored := by
  apply List.ext_getElem (by simp [sendL])
  intro i h1 h2
  simp only [sendL, List.getElem_map, List.getElem_mapIdx]
  split <;> rfl
theorem upd_sendL {cs : List Cell} {k : Nat} : upd (fun _ c => sendC c) (8 * k) 8 cs = sendL (k : Int) cs := by
  apply List.ext_getElem (by simp [upd, sendL])
  intro i h1 h2
  simp only [upd, sendL, List.getElem_mapIdx]
  by_cases c : 8 * k ≤ i ∧ i < 8 * k + 8
  · rw [if_pos c, if_pos (by omega)]
  · rw [if_neg c, if_neg (by omega)]
theorem rflush_eq {fu n : Nat} {B s k : Int} {d : Dev} (h : DevOk n B d) (hB : B < 9223372036854775807) (hn : n ≤ 100000) (hf : 8 < fu) (hs : 0 ≤ s ∧ s < 9223372036854775807) (hS : Since d s) : rickyardref05_Device_Flush.f fu (toM d s) k = some ((flushD d k).1, toM (flushD d k).2 (inc (mayI d.off k ((d.cells.length / 8 : Nat) : Int) = 0) s)) := by
  unfold rickyardref05_Device_Flush.f flushD inc
  have hlen := h.len
  have hll : (toM d s).Lasts.length = d.cells.length := by simp [toM, lastsD]
  have e0 : IntKind.i64.wrap (Int.tdiv (d.cells.length : Int) 8) = ((d.cells.length / 8 : Nat) : Int) := by
    rw [Int.tdiv_eq_ediv_of_nonneg (by omega), w64 (by omega) (by omega)]
    omega
  rw [hll, e0, rerror_eq h]
  simp only [Option.bind_some]
  by_cases e : mayI d.off k ((d.cells.length / 8 : Nat) : Int) = 0
  · obtain ⟨ho, h0, h1⟩ := may_zero.1 e
    rw [decide_eq_true e, if_pos rfl, if_pos e, if_pos e]
    obtain ⟨j, rfl⟩ : ∃ j : Nat, k = (j : Int) := ⟨k.toNat, by omega⟩
    have w1 : IntKind.i64.wrap (8 * (j : Int)) = ((8 * j : Nat) : Int) := by rw [w64 (by omega) (by omega)]; omega
    have w2 : IntKind.i64.wrap (((8 * j : Nat) : Int) + 8) = ((8 * j + 8 : Nat) : Int) := by rw [w64 (by omega) (by omega)]; omega
    have loop : loopM (rickyardref05_Device_Flush.s1 fu (toM d s) (j : Int)) fu (((8 * j : Nat) : Int), (toM d s).Sent, (toM d s).Flushed) = some ((sendL (j : Int) d.cells).map (fun c => c.sent), (sendL (j : Int) d.cells).map (fun c => c.flushed)) := by
      refine loopM_run (S := fun i => (((8 * j + i : Nat) : Int), (upd (fun _ c => sendC c) (8 * j) i d.cells).map (fun c => c.sent), (upd (fun _ c => sendC c) (8 * j) i d.cells).map (fun c => c.flushed))) 8 (by rw [upd_zero]; rfl) ?_ ?_ hf
      · intro i hi
        unfold rickyardref05_Device_Flush.s1
        have w3 : IntKind.i64.wrap (((8 * j + i : Nat) : Int) + 1) = ((8 * j + (i + 1) : Nat) : Int) := by rw [w64 (by omega) (by omega)]; omega
        have hsl : (toM d s).Stored.length = d.cells.length := by simp [toM, storedD]
        have e1 : ix (toM d s).Stored ((8 * j + i : Nat) : Int) = (ix d.cells ((8 * j + i : Nat) : Int)).stored := ix_map' _ _ _ (by omega)
        have hu := upd_set (fun _ c => sendC c) (8 * j) i d.cells (by omega)
        simp only [w1, w2, w3, List.length_map, upd_len, hsl, e1]
        rw [decide_eq_true (show ((8 * j + i : Nat) : Int) < ((8 * j + 8 : Nat) : Int) by omega), if_pos rfl, if_pos (by omega), if_pos (by omega), if_pos (by omega), Int.toNat_natCast, ← hu, List.map_set, List.map_set, ix_nat (by omega)]
        rfl
      · unfold rickyardref05_Device_Flush.s1
        simp only [w1, w2]
        rw [decide_eq_false (show ¬ ((8 * j + 8 : Nat) : Int) < ((8 * j + 8 : Nat) : Int) by omega), if_neg (by decide), upd_sendL]
    rw [w1, loop]
    have hok : DevOk n B (withC d (sendL (j : Int) d.cells)) := with_ok h (by simp [sendL, h.len]) (sendL_ok h.val)
    have e1 : (⟨(toM d s).Lasts, (toM d s).Stored, (sendL (j : Int) d.cells).map (fun c => c.sent), (sendL (j : Int) d.cells).map (fun c => c.flushed), (toM d s).Plan, (toM d s).Since, (toM d s).Left, (toM d s).Steps⟩ : Ref) = toM (withC d (sendL (j : Int) d.cells)) s := by
      rw [with_toM, sendL_lasts, sendL_stored]
      rfl
    simp only [Option.bind_some]
    rw [e1, rdstep_eq hok hB hs hS ho]
    simp only [Option.bind_some, e]
  · rw [decide_eq_false e, if_neg (by decide), if_neg e, if_neg e]
    rfl
def tupM (i : Int) (m : Ref) := (i, m.Lasts, m.Stored, m.Sent, m.Flushed, m.Plan, m.Since, m.Left, m.Steps)
theorem rfence_eq {fu n : Nat} {B s : Int} {d : Dev} (h : DevOk n B d) (hB : B < 9223372036854775807) (hn : n ≤ 100000) (hf : n < fu) (hs : 0 ≤ s ∧ s < 9223372036854775807) (hS : Since d s) : rickyardref05_Device_Fence.f fu (toM d s) = some ((fenceD d).1, toM (fenceD d).2 (inc (d.off = false) s)) := by
  unfold rickyardref05_Device_Fence.f fenceD inc
  have hlen := h.len
  rw [rerror_eq h]
  simp only [Option.bind_some]
  cases ho : d.off
  · have e : mayI false 0 1 = 0 := by decide
    rw [e]
    have loop : loopM (rickyardref05_Device_Fence.s1 fu) fu (tupM 0 (toM d s)) = some ((toM (withC d (d.cells.map fenceC)) s).Lasts, (toM (withC d (d.cells.map fenceC)) s).Stored, (toM (withC d (d.cells.map fenceC)) s).Sent, (toM (withC d (d.cells.map fenceC)) s).Flushed, (toM (withC d (d.cells.map fenceC)) s).Plan, (toM (withC d (d.cells.map fenceC)) s).Since, (toM (withC d (d.cells.map fenceC)) s).Left, (toM (withC d (d.cells.map fenceC)) s).Steps) := by
      refine loopM_run (S := fun i => tupM (i : Int) (toM (withC d (upd (fun _ c => fenceC c) 0 i d.cells)) s)) d.cells.length (by rw [upd_zero]; rfl) ?_ ?_ (by omega)
      · intro j hj
        have hlt : j < (upd (fun _ c => fenceC c) 0 j d.cells).length := by rw [upd_len]; omega
        have hnx : ix (upd (fun _ c => fenceC c) 0 j d.cells) (j : Int) = d.cells[j] := by
          rw [ix_nat hlt, upd_get, if_neg (by omega)]
        have hu := upd_set (fun _ c => fenceC c) 0 j d.cells (by omega)
        have hsm := upd_same (fun _ c => fenceC c) 0 j d.cells (by omega)
        simp only [Nat.zero_add] at hu hsm
        have hl := rlast_eq (fu := fu) (cs := upd (fun _ c => fenceC c) 0 j d.cells) (w := d.cells[j].sent) (pl := d.plan.list) (s := s) (le := if d.armed = true then d.left else -1) (st := d.steps) hlt
        rw [hnx] at hl
        have e1 : ix ((upd (fun _ c => fenceC c) 0 j d.cells).map fun c => c.flushed) (j : Int) = d.cells[j].flushed := by rw [ix_map' (fun c : Cell => c.flushed) _ _ hlt, hnx]
        have e2 : ix ((upd (fun _ c => fenceC c) 0 j d.cells).map fun c => c.sent) (j : Int) = d.cells[j].sent := by rw [ix_map' _ _ _ hlt, hnx]
        unfold rickyardref05_Device_Fence.s1 tupM
        rw [with_toM, with_toM]
        generalize hU : upd (fun _ c => fenceC c) 0 j d.cells = U at *
        have hUl : U.length = d.cells.length := by rw [← hU, upd_len]
        simp only [List.length_map, e1, e2, hUl]
        rw [decide_eq_true (show (j : Int) < (d.cells.length : Int) by omega), if_pos rfl, if_pos (by omega), next64 hj (by omega)]
        cases hfl : d.cells[j].flushed
        · have : fenceC d.cells[j] = d.cells[j] := by simp [fenceC, hfl]
          rw [← hsm this]
          simp only [Bool.false_eq_true, if_false, Option.bind_some]
        · have : fenceC d.cells[j] = keepC d.cells[j] d.cells[j].sent := by simp [fenceC, hfl]
          rw [this] at hu
          rw [if_pos rfl, if_pos (by omega), hl, ← hu]
          rfl
      · unfold rickyardref05_Device_Fence.s1 tupM
        have hLL : (toM (withC d (upd (fun _ c => fenceC c) 0 d.cells.length d.cells)) s).Lasts.length = d.cells.length := by simp [toM, lastsD, withC, upd_len]
        simp only [hLL]
        rw [decide_eq_false (show ¬ ((d.cells.length : Int) < (d.cells.length : Int)) by omega), if_neg (by decide), upd_all]
        have : (d.cells.mapIdx fun _ c => fenceC c) = d.cells.map fenceC := by
          apply List.ext_getElem (by simp)
          intro i h1 h2
          simp
        rw [this]
    unfold tupM at loop
    rw [decide_eq_true rfl, if_pos rfl, loop]
    have hok : DevOk n B (withC d (d.cells.map fenceC)) := with_ok h (by simp [h.len]) (fun c hc => by
        obtain ⟨x, hx, rfl⟩ := List.mem_map.1 hc
        exact fence_okC (h.val x hx))
    simp only [Option.bind_some, eta8]
    rw [rdstep_eq hok hB hs hS ho]
    rfl
  · have e : mayI true 0 1 = 3 := by decide
    rw [e]
    rfl
theorem rarm_eq {fu n : Nat} {B s k : Int} {d : Dev} (h : DevOk n B d) : rickyardref05_Device_Arm.f fu (toM d s) k = some (toM (armD d k) s) := by
  unfold rickyardref05_Device_Arm.f
  have hl : (toM d s).Left = 0 ↔ d.off = true := by
    show (if d.armed = true then d.left else -1) = 0 ↔ _
    cases ha : d.armed
    · have := h.una ha
      simp [this]
    · have := (h.arm ha).2.2
      rw [this]
      simp
  unfold armD
  by_cases e : d.off = true
  · rw [decide_eq_true (hl.2 e), if_neg (by decide), if_pos e]
    rfl
  · rw [decide_eq_false (fun q => e (hl.1 q)), if_pos (by decide), if_neg e]
    have hm : mxI k (-1) = if decide (k ≥ 0) = true then k else -1 := by
      unfold mxI
      by_cases hk : k ≥ 0
      · rw [decide_eq_true hk]
        split <;> simp <;> omega
      · rw [decide_eq_false hk]
        split <;> simp <;> omega
    rw [hm]
    rfl
theorem rlay_eq' {fu : Nat} {s : Int} {d : Dev} {l : List Int} (hl : l.length ≤ 1000000) : rickyardref05_Device_Lay.f fu (toM d s) l = some (toM (planD d l) 0) := by
  unfold rickyardref05_Device_Lay.f
  rw [if_pos (by rw [List.length_nil]; exact Nat.le_trans (by omega : _ ≤ 1000000) (by decide))]
  rfl
theorem rfates_eq {fu n : Nat} {B s : Int} {d : Dev} (h : DevOk n B d) (hn : n ≤ 100000) (hf : n < fu) : rickyardref05_Device_Fates.f fu (toM d s) = some (fatesD d) := by
  unfold rickyardref05_Device_Fates.f
  have hl := h.len
  have hl1 : (toM d s).Lasts.length = d.cells.length := by simp [toM, lastsD]
  have hl2 : (toM d s).Stored.length = d.cells.length := by simp [toM, storedD]
  have hl3 : (toM d s).Sent.length = d.cells.length := by simp [toM, sentD]
  have hl4 : (toM d s).Flushed.length = d.cells.length := by simp [toM, flushedD]
  have : loopM (rickyardref05_Device_Fates.s0 fu (toM d s)) fu ([], 0) = some (fatesD d) := by
    refine loopM_run (S := fun j => (fatesU d j, (j : Int))) d.cells.length (by simp [fatesU]) ?_ ?_ (by omega)
    · intro j hj
      unfold rickyardref05_Device_Fates.s0
      have w3 : IntKind.i64.wrap ((j : Int) + 1) = ((j + 1 : Nat) : Int) := next64 hj (by omega)
      have c1 : 0 ≤ (j : Int) ∧ (j : Int) < (d.cells.length : Int) := by omega
      have hle := fatesU_le d j
      have a1 : ix (toM d s).Lasts (j : Int) = (ix d.cells (j : Int)).lasts := ix_map' _ _ _ hj
      have a2 : ix (toM d s).Stored (j : Int) = (ix d.cells (j : Int)).stored := ix_map' _ _ _ hj
      have a3 : ix (toM d s).Sent (j : Int) = (ix d.cells (j : Int)).sent := ix_map' _ _ _ hj
      have a4 : ix (toM d s).Flushed (j : Int) = (ix d.cells (j : Int)).flushed := ix_map' (fun c : Cell => c.flushed) _ _ hj
      simp only [w3, hl1, hl2, hl3, hl4, a1, a2, a3, a4]
      rw [decide_eq_true c1.2, if_pos rfl, if_pos c1, if_pos c1, if_pos c1, if_pos c1, if_pos c1, if_pos c1, if_pos c1, fatesU_succ]
      have hx : (if (ix d.cells (j : Int)).flushed = true then some true else some (!decide ((ix d.cells (j : Int)).stored = (ix d.cells (j : Int)).lasts))) = some (openC (ix d.cells (j : Int))) := by
        unfold openC
        cases (ix d.cells (j : Int)).flushed <;> rfl
      rw [hx]
      simp only [Option.bind_some]
      cases ho : openC (ix d.cells (j : Int))
      · simp
      · have hlim : (fatesU d j).length + List.length [(⟨(j : Int), (ix d.cells (j : Int)).lasts, (ix d.cells (j : Int)).flushed, (ix d.cells (j : Int)).sent, (ix d.cells (j : Int)).stored⟩ : S_api_Fate)] ≤ LIM := by
          simp only [List.length_cons, List.length_nil]
          exact Nat.le_trans (by omega : _ ≤ 100001) (by decide)
        rw [if_pos rfl, if_pos hlim]
        rfl
    · unfold rickyardref05_Device_Fates.s0
      simp only [hl1]
      rw [decide_eq_false (show ¬ ((d.cells.length : Int) < (d.cells.length : Int)) by omega), if_neg (by decide)]
      rfl
  rw [this]
  rfl
theorem rcrash_eq {fu n : Nat} {B s : Int} {d : Dev} {l : List Int} (h : DevOk n B d) (hn : n ≤ 100000) (hli : ∀ x ∈ l, I64 x) (hf : n < fu) : rickyardref05_Device_Crash.f fu (toM d s) l = some (toM (crashD d l) 0) := by
  unfold rickyardref05_Device_Crash.f
  have hl := h.len
  rw [rfates_eq h hn hf]
  have hfl : (fatesD d).length ≤ n := by
    have := fatesU_le d d.cells.length
    unfold fatesD
    omega
  simp only [Option.bind_some]
  have loop : ∃ e, loopM (rickyardref05_Device_Crash.s0 fu l (fatesD d)) fu (tupM 0 (toM d s)) = some e ∧ ∃ cs : List Cell, e = ((toM (withC d cs) s).Lasts, (toM (withC d cs) s).Stored, (toM (withC d cs) s).Sent, (toM (withC d cs) s).Flushed, (toM (withC d cs) s).Plan, (toM (withC d cs) s).Since, (toM (withC d cs) s).Left, (toM (withC d cs) s).Steps) ∧ cs.length = d.cells.length ∧ ∀ p : Nat, p < d.cells.length → ix cs (p : Int) = if openC (ix d.cells (p : Int)) = true then keepC (ix d.cells (p : Int)) (fateC (ix d.cells (p : Int)) (l.getD (opens d.cells p) 0)) else ix d.cells (p : Int) := by
    refine loopM_inv (fun j z => ∃ cs : List Cell, z = tupM (j : Int) (toM (withC d cs) s) ∧ cs.length = d.cells.length ∧ ∀ p : Nat, p < d.cells.length → ix cs (p : Int) = if openC (ix d.cells (p : Int)) = true ∧ opens d.cells p < j then keepC (ix d.cells (p : Int)) (fateC (ix d.cells (p : Int)) (l.getD (opens d.cells p) 0)) else ix d.cells (p : Int)) (fatesD d).length _ ?_ ?_ (j := 0) ⟨d.cells, rfl, rfl, fun p hp => ?_⟩ (by omega) (by omega)
    · rintro j _ hj ⟨cs, rfl, hcl, hcp⟩
      obtain ⟨p, hp, ho, hop, hfa⟩ := fates_at d d.cells.length (Nat.le_refl _) j hj
      have hfa' : ix (fatesD d) (j : Int) = fateD d p := hfa
      have c1 : 0 ≤ (j : Int) ∧ (j : Int) < ((fatesD d).length : Int) := by omega
      have hx : (if (decide ((j : Int) < (List.length l : Int))) = true then (if 0 ≤ (j : Int) ∧ (j : Int) < (List.length l : Int) then some ((ix l (j : Int))) else none) else some (0)) = some (l.getD j 0) := by
        by_cases hjl : j < l.length
        · rw [decide_eq_true (show (j : Int) < (l.length : Int) by omega), if_pos rfl, if_pos ⟨by omega, by omega⟩, ix_nat hjl, getD_of _ _ _ hjl]
        · rw [decide_eq_false (show ¬ (j : Int) < (l.length : Int) by omega), if_neg (by decide), List.getD_eq_getElem?_getD, List.getElem?_eq_none (by omega)]
          rfl
      have hval : rickyardref05_Value.f fu (fateD d p) (l.getD j 0) = some (fateC (ix d.cells (p : Int)) (l.getD j 0)) := value_fate (getD_I64 hli j)
      have hlast := rlast_eq (fu := fu) (cs := cs) (k := p) (w := fateC (ix d.cells (p : Int)) (l.getD j 0)) (pl := d.plan.list) (s := s) (le := if d.armed = true then d.left else -1) (st := d.steps) (by omega)
      have hcp' : ix cs (p : Int) = ix d.cells (p : Int) := by rw [hcp p hp, if_neg (fun q => by omega)]
      have a1 : (fateD d p).At = (p : Int) := rfl
      rw [hcp'] at hlast
      unfold rickyardref05_Device_Crash.s0 tupM
      simp only [hx, hfa', a1, eta8]
      rw [decide_eq_true c1.2, if_pos rfl]
      simp only [Option.bind_some]
      rw [if_pos c1, if_pos c1, hval]
      simp only [Option.bind_some]
      rw [with_toM, hlast, next64 hj (by omega)]
      refine ⟨_, rfl, cs.set p (keepC (ix d.cells (p : Int)) (fateC (ix d.cells (p : Int)) (l.getD j 0))), rfl, by rw [List.length_set]; exact hcl, fun q hq => ?_⟩
      by_cases e : q = p
      · subst e
        rw [ix_nat (by rw [List.length_set]; omega), List.getElem_set_self, if_pos ⟨ho, by omega⟩, hop]
      · rw [ix_nat (by rw [List.length_set]; omega), List.getElem_set_ne (fun z => e z.symm), ← ix_nat (l := cs) (by omega), hcp q hq]
        by_cases hoq : openC (ix d.cells (q : Int)) = true
        · have : opens d.cells q ≠ j := fun z => e (opens_inj hq hp hoq ho (by omega))
          by_cases hlt : opens d.cells q < j
          · rw [if_pos ⟨hoq, hlt⟩, if_pos ⟨hoq, by omega⟩]
          · rw [if_neg fun z => hlt z.2, if_neg fun z => by omega]
        · rw [if_neg fun z => hoq z.1, if_neg fun z => hoq z.1]
    · rintro _ ⟨cs, rfl, hcl, hcp⟩
      unfold rickyardref05_Device_Crash.s0 tupM
      rw [decide_eq_false (show ¬ (((fatesD d).length : Int) < ((fatesD d).length : Int)) by omega), if_neg (by decide)]
      refine ⟨_, rfl, cs, rfl, hcl, fun p hp => ?_⟩
      rw [hcp p hp]
      cases hoq : openC (ix d.cells (p : Int))
      · simp
      · have hlt := opens_lt (cs := d.cells) (p := p) (q := d.cells.length) (by omega) (Nat.le_refl _) hoq
        have hfl2 : (fatesD d).length = opens d.cells d.cells.length := fates_len d _ (Nat.le_refl _)
        rw [if_pos ⟨rfl, by omega⟩, if_pos rfl]
    · rw [if_neg fun z => by omega]
  obtain ⟨e, h1, cs, rfl, hcl, hcp⟩ := loop
  unfold tupM at h1
  rw [h1]
  simp only [Option.bind_some]
  have loop2 : loopM (rickyardref05_Device_Crash.s1 fu ((toM (withC d cs) s).Lasts, (toM (withC d cs) s).Stored, (toM (withC d cs) s).Sent, (toM (withC d cs) s).Flushed, (toM (withC d cs) s).Plan, (toM (withC d cs) s).Since, (toM (withC d cs) s).Left, (toM (withC d cs) s).Steps)) fu (0, (toM (withC d cs) s).Stored) = some (toM (withC d cs) s).Lasts := by
    have q1 : (toM (withC d cs) s).Lasts.length = d.cells.length := by simp [toM, lastsD, withC, hcl]
    have q2 : (toM (withC d cs) s).Stored.length = d.cells.length := by simp [toM, storedD, withC, hcl]
    generalize (toM (withC d cs) s).Lasts = LA at *
    generalize (toM (withC d cs) s).Stored = SA at *
    refine loopM_run (S := fun j => ((j : Int), upd (fun i _ => ix LA (i : Int)) 0 j SA)) d.cells.length (by rw [upd_zero]; rfl) ?_ ?_ (by omega)
    · intro j hj
      unfold rickyardref05_Device_Crash.s1
      have hu := upd_set (fun i _ => ix LA (i : Int)) 0 j SA (by omega)
      simp only [Nat.zero_add] at hu
      simp only [q1, upd_len, q2]
      rw [decide_eq_true (show (j : Int) < (d.cells.length : Int) by omega), if_pos rfl, if_pos (by omega), if_pos (by omega), next64 hj (by omega), Int.toNat_natCast, hu]
    · unfold rickyardref05_Device_Crash.s1
      simp only [q1]
      rw [decide_eq_false (show ¬ ((d.cells.length : Int) < (d.cells.length : Int)) by omega), if_neg (by decide)]
      refine congrArg (fun z => some (Sum.inl z)) ?_
      apply List.ext_getElem (by rw [upd_len]; omega)
      intro i h1 h2
      rw [upd_get, if_pos (by omega), ix_nat h2]
  rw [loop2]
  simp only [Option.bind_some]
  have hc : ∀ p (h1 : p < (crashD d l).cells.length), (crashD d l).cells[p] = crashC (ix d.cells (p : Int)) (l.getD (opens d.cells p) 0) := by
    intro p h1
    have hp : p < d.cells.length := by simpa [crashD, crashL] using h1
    rw [← ix_nat h1, crash_get hp]
  have hcl2 : (crashD d l).cells.length = d.cells.length := by simp [crashD, crashL]
  have x1 : cs.map (fun c => c.lasts) = lastsD (crashD d l) := by
    unfold lastsD
    apply List.ext_getElem (by simp [hcl, hcl2])
    intro p h1 h2
    have hp : p < d.cells.length := by simpa [hcl] using h1
    rw [List.getElem_map, List.getElem_map, ← ix_nat (l := cs) (by omega), hcp p hp, hc]
    unfold crashC
    split <;> rfl
  have x2 : cs.map (fun c => c.sent) = sentD (crashD d l) := by
    unfold sentD
    apply List.ext_getElem (by simp [hcl, hcl2])
    intro p h1 h2
    have hp : p < d.cells.length := by simpa [hcl] using h1
    rw [List.getElem_map, List.getElem_map, ← ix_nat (l := cs) (by omega), hcp p hp, hc]
    unfold crashC
    split <;> rfl
  have x3 : cs.map (fun c => c.flushed) = flushedD (crashD d l) := by
    unfold flushedD
    apply List.ext_getElem (by simp [hcl, hcl2])
    intro p h1 h2
    have hp : p < d.cells.length := by simpa [hcl] using h1
    rw [List.getElem_map, List.getElem_map, ← ix_nat (l := cs) (by omega), hcp p hp, hc]
    unfold crashC
    split <;> rfl
  rw [with_toM]
  simp only []
  rw [x1, x2, x3]
  show some (⟨lastsD (crashD d l), lastsD (crashD d l), sentD (crashD d l), flushedD (crashD d l), [], 0, -1, d.steps⟩ : Ref) = some ⟨lastsD (crashD d l), storedD (crashD d l), sentD (crashD d l), flushedD (crashD d l), [], 0, -1, d.steps⟩
  rw [crash_view]
/-- How many steps there were since the plan was laid, behind an act. -/
def since (d : Dev) (a : S_rickyardlaw05_Act) (s : Int) : Int :=
  if a.Kind % 7 = 0 then inc (mayI d.off a.At (d.cells.length : Int) = 0) s
  else if a.Kind % 7 = 2 then inc (mayI d.off a.At ((d.cells.length / 8 : Nat) : Int) = 0) s
  else if a.Kind % 7 = 3 then inc (d.off = false) s
  else if a.Kind % 7 = 5 ∨ a.Kind % 7 = 6 then 0
  else s
theorem refs_eq {fu n : Nat} {B s : Int} {d : Dev} {a : S_rickyardlaw05_Act} (h : DevOk n B d) (hB : B < 9223372036854775807) (hn : n ≤ 100000) (ha : okA a) (hf : n + 8 < fu) (hs : 0 ≤ s ∧ s < 9223372036854775807) (hS : Since d s) : rickyardlaw05_Refs.f fu (toM d s) a = some ((doD d a).1.1, (doD d a).1.2, toM (doD d a).2 (since d a s)) := by
  obtain ⟨hk, hat, hw, hL, hl⟩ := ha
  unfold rickyardlaw05_Refs.f doD since
  rw [rest7_eq hk (by decide), rstore_eq h hB hs hS hw, rload_eq h, rflush_eq h hB hn (by omega) hs hS, rfence_eq h hB hn (by omega) hs hS, rarm_eq h, rlay_eq' (by omega), rcrash_eq h hn hL (by omega)]
  simp only [Option.bind_some]
  have hr : 0 ≤ a.Kind % 7 ∧ a.Kind % 7 < 7 := by omega
  generalize a.Kind % 7 = r at *
  have : r = 0 ∨ r = 1 ∨ r = 2 ∨ r = 3 ∨ r = 4 ∨ r = 5 ∨ r = 6 := by omega
  rcases this with rfl | rfl | rfl | rfl | rfl | rfl | rfl
  · rfl
  · rfl
  · rfl
  · rfl
  · have e1 : (armD d a.At).cells = d.cells ∧ (armD d a.At).plan = d.plan := by
      unfold armD
      split <;> exact ⟨rfl, rfl⟩
    simp [toM, lastsD, storedD, sentD, flushedD, e1.1, e1.2]
  · rfl
  · rfl
end Go.Proofs.Ytklhbaghbmndeaa.Pure

/- The document's device: where the plan stands; lists of fates that are alike. -/
set_option linter.unusedVariables false
set_option linter.unusedSimpArgs false
namespace Go.Proofs.Ytklhbaghbmndeaa.Pure
open Go Go.Xw
theorem since_tick {d : Dev} {cs : List Cell} {s : Int} (h : Since d s) : Since (tick (withC d cs)) (s + 1) := by
  have hl : (tick (withC d cs)).plan.list = d.plan.list := by
    show (nextP d.plan).list = _
    unfold nextP
    split <;> rfl
  intro e
  rw [hl] at e
  rw [hl]
  show (nextP d.plan).at_ = _
  unfold nextP
  rw [if_neg e]
  show (d.plan.at_ + 1) % (d.plan.list.length : Int) = _
  rw [h e]
  exact Int.emod_add_emod _ _ _
theorem since_do {d : Dev} {a : S_rickyardlaw05_Act} {s : Int} (h : Since d s) : Since (doD d a).2 (since d a s) := by
  have hr : 0 ≤ a.Kind % 7 ∧ a.Kind % 7 < 7 := by omega
  unfold doD since
  generalize a.Kind % 7 = r at *
  have : r = 0 ∨ r = 1 ∨ r = 2 ∨ r = 3 ∨ r = 4 ∨ r = 5 ∨ r = 6 := by omega
  rcases this with rfl | rfl | rfl | rfl | rfl | rfl | rfl
  · show Since (storeD d a.At a.W).2 (inc (mayI d.off a.At (d.cells.length : Int) = 0) s)
    unfold storeD inc
    split
    · exact since_tick h
    · exact h
  · exact h
  · show Since (flushD d a.At).2 (inc (mayI d.off a.At ((d.cells.length / 8 : Nat) : Int) = 0) s)
    unfold flushD inc
    split
    · exact since_tick h
    · exact h
  · show Since (fenceD d).2 (inc (d.off = false) s)
    unfold fenceD inc
    cases ho : d.off
    · exact since_tick h
    · exact h
  · show Since (armD d a.At) s
    unfold armD
    split
    · exact h
    · exact h
  · show Since (planD d a.L) 0
    intro _
    show (0 : Int) = 0 % _
    simp
  · show Since (crashD d a.L) 0
    intro e
    exact absurd rfl e
theorem since_le {d : Dev} {a : S_rickyardlaw05_Act} {s : Int} (h : 0 ≤ s) : 0 ≤ since d a s ∧ since d a s ≤ s + 1 := by
  have hi : ∀ (b : Prop) [Decidable b], 0 ≤ inc b s ∧ inc b s ≤ s + 1 := by
    intro b _
    unfold inc
    split <;> omega
  unfold since
  split
  · exact hi _
  split
  · exact hi _
  split
  · exact hi _
  split <;> omega
theorem rnew_eq {fu : Nat} {k : Nat} (hk : k ≤ 4096) : rickyardref05_New.f fu (k : Int) = some (toM (newD (8 * k)) 0) := by
  unfold rickyardref05_New.f
  have w : IntKind.i64.wrap (8 * (k : Int)) = ((8 * k : Nat) : Int) := by rw [w64 (by omega) (by omega)]; omega
  have c : 0 ≤ ((8 * k : Nat) : Int) ∧ 8 * k ≤ LIM := ⟨by omega, Nat.le_trans (by omega : _ ≤ 100000) (by decide)⟩
  rw [w, Int.toNat_natCast, if_pos c, if_pos c, if_pos c, if_pos c]
  simp [toM, newD, lastsD, storedD, sentD, flushedD]
end Go.Proofs.Ytklhbaghbmndeaa.Pure

/- The document's device beside the program's: the same base of steps. -/
set_option linter.unusedVariables false
set_option linter.unusedSimpArgs false
namespace Go.Proofs.Ytklhbaghbmndeaa.Pure
open Go Go.Xw
/-- The document's device, where the plan was laid behind b steps. -/
def refD (d : Dev) (b : Int) : Ref := toM d (d.steps - b)
structure RefOk (n : Nat) (B : Int) (d : Dev) (b : Int) : Prop where
  ok : DevOk n B d
  b0 : 0 ≤ b
  b1 : b ≤ d.steps
  si : Since d (d.steps - b)
theorem RefOk.up {n : Nat} {B C b : Int} {d : Dev} (h : RefOk n B d b) (hc : B ≤ C) : RefOk n C d b := ⟨h.ok.up hc, h.b0, h.b1, h.si⟩
theorem RefOk.since0 {n : Nat} {B b : Int} {d : Dev} (h : RefOk n B d b) (hB : B < 9223372036854775807) : 0 ≤ d.steps - b ∧ d.steps - b < 9223372036854775807 := by
  have := h.ok.st
  have := h.b0
  have := h.b1
  omega
theorem newR_ok (n : Nat) : RefOk n 0 (newD n) 0 := ⟨newD_ok n, by decide, by simp [newD], fun h => absurd rfl h⟩
theorem storeR {fu n : Nat} {B b k w : Int} {d : Dev} (h : RefOk n B d b) (hB : B < 9223372036854775807) (hw : U64 w) : rickyardref05_Device_Store.f fu (refD d b) k w = some ((storeD d k w).1, refD (storeD d k w).2 b) ∧ RefOk n (B + 1) (storeD d k w).2 b := by
  have e : inc (mayI d.off k (d.cells.length : Int) = 0) (d.steps - b) = (storeD d k w).2.steps - b := by
    unfold inc storeD
    split
    · show d.steps - b + 1 = d.steps + 1 - b
      omega
    · rfl
  have hs := h.since0 hB
  refine ⟨?_, store_ok h.ok hw, h.b0, ?_, ?_⟩
  · unfold refD
    rw [rstore_eq h.ok hB hs h.si hw, e]
  · have := h.b1
    unfold storeD
    split
    · show b ≤ d.steps + 1
      omega
    · exact this
  · rw [← e]
    unfold storeD inc
    split
    · exact since_tick h.si
    · exact h.si
theorem flushR {fu n : Nat} {B b k : Int} {d : Dev} (h : RefOk n B d b) (hB : B < 9223372036854775807) (hn : n ≤ 100000) (hf : 8 < fu) : rickyardref05_Device_Flush.f fu (refD d b) k = some ((flushD d k).1, refD (flushD d k).2 b) ∧ RefOk n (B + 1) (flushD d k).2 b := by
  have e : inc (mayI d.off k ((d.cells.length / 8 : Nat) : Int) = 0) (d.steps - b) = (flushD d k).2.steps - b := by
    unfold inc flushD
    split
    · show d.steps - b + 1 = d.steps + 1 - b
      omega
    · rfl
  have hs := h.since0 hB
  refine ⟨?_, flush_ok h.ok, h.b0, ?_, ?_⟩
  · unfold refD
    rw [rflush_eq h.ok hB hn hf hs h.si, e]
  · have := h.b1
    unfold flushD
    split
    · show b ≤ d.steps + 1
      omega
    · exact this
  · rw [← e]
    unfold flushD inc
    split
    · exact since_tick h.si
    · exact h.si
theorem fenceR {fu n : Nat} {B b : Int} {d : Dev} (h : RefOk n B d b) (hB : B < 9223372036854775807) (hn : n ≤ 100000) (hf : n < fu) : rickyardref05_Device_Fence.f fu (refD d b) = some ((fenceD d).1, refD (fenceD d).2 b) ∧ RefOk n (B + 1) (fenceD d).2 b := by
  have e : inc (d.off = false) (d.steps - b) = (fenceD d).2.steps - b := by
    unfold inc fenceD
    cases ho : d.off
    · show d.steps - b + 1 = d.steps + 1 - b
      omega
    · rfl
  have hs := h.since0 hB
  refine ⟨?_, fence_ok h.ok, h.b0, ?_, ?_⟩
  · unfold refD
    rw [rfence_eq h.ok hB hn hf hs h.si, e]
  · have := h.b1
    unfold fenceD
    split
    · exact this
    · show b ≤ d.steps + 1
      omega
  · rw [← e]
    unfold fenceD inc
    cases ho : d.off
    · exact since_tick h.si
    · exact h.si
/-- The base behind an act. -/
def baseA (d : Dev) (a : S_rickyardlaw05_Act) (b : Int) : Int := if a.Kind % 7 = 5 ∨ a.Kind % 7 = 6 then (doD d a).2.steps else b
theorem doR {fu n : Nat} {B b : Int} {d : Dev} {a : S_rickyardlaw05_Act} (h : RefOk n B d b) (hB : B < 9223372036854775807) (hn : n ≤ 100000) (ha : okA a) (hf : n + 8 < fu) : rickyardlaw05_Refs.f fu (refD d b) a = some ((doD d a).1.1, (doD d a).1.2, refD (doD d a).2 (baseA d a b)) ∧ RefOk n (B + 1) (doD d a).2 (baseA d a b) := by
  have hs := h.since0 hB
  have e : since d a (d.steps - b) = (doD d a).2.steps - baseA d a b := by
    have hr : 0 ≤ a.Kind % 7 ∧ a.Kind % 7 < 7 := by omega
    unfold since baseA doD
    generalize a.Kind % 7 = r at *
    have : r = 0 ∨ r = 1 ∨ r = 2 ∨ r = 3 ∨ r = 4 ∨ r = 5 ∨ r = 6 := by omega
    rcases this with rfl | rfl | rfl | rfl | rfl | rfl | rfl
    · show inc (mayI d.off a.At (d.cells.length : Int) = 0) (d.steps - b) = (storeD d a.At a.W).2.steps - b
      unfold inc storeD
      split
      · show d.steps - b + 1 = d.steps + 1 - b
        omega
      · rfl
    · rfl
    · show inc (mayI d.off a.At ((d.cells.length / 8 : Nat) : Int) = 0) (d.steps - b) = (flushD d a.At).2.steps - b
      unfold inc flushD
      split
      · show d.steps - b + 1 = d.steps + 1 - b
        omega
      · rfl
    · show inc (d.off = false) (d.steps - b) = (fenceD d).2.steps - b
      unfold inc fenceD
      cases ho : d.off
      · show d.steps - b + 1 = d.steps + 1 - b
        omega
      · rfl
    · show d.steps - b = (armD d a.At).steps - b
      unfold armD
      split <;> rfl
    · show (0 : Int) = (planD d a.L).steps - (planD d a.L).steps
      omega
    · show (0 : Int) = (crashD d a.L).steps - (crashD d a.L).steps
      omega
  have hst := since_do (a := a) h.si
  rw [e] at hst
  have hle : 0 ≤ baseA d a b ∧ baseA d a b ≤ (doD d a).2.steps := by
    have hdo := do_ok h.ok ha
    have h0 := hdo.st
    have h1 : 0 ≤ since d a (d.steps - b) := (since_le hs.1).1
    rw [e] at h1
    refine ⟨?_, by omega⟩
    unfold baseA
    split
    · exact h0.1
    · exact h.b0
  refine ⟨?_, do_ok h.ok ha, hle.1, hle.2, hst⟩
  unfold refD
  rw [refs_eq h.ok hB hn ha hf hs h.si, e]
end Go.Proofs.Ytklhbaghbmndeaa.Pure

/- The first example of the blocks. -/
namespace Go.Proofs.Ytklhbaghbmndeaa.Pure
open Go Go.Xw
theorem awake15' : rickyardlaw15_awake.f FU = some true := by decide +kernel
end Go.Proofs.Ytklhbaghbmndeaa.Pure

/- Blocks written and read as the document tells it; what both do. -/
set_option linter.unusedVariables false
set_option linter.unusedSimpArgs false
namespace Go.Proofs.Ytklhbaghbmndeaa.Pure
open Go Go.Xw
theorem putR {n : Nat} {b : Int} : ∀ {ws : List Int} {B k : Int} {d : Dev} (h : RefOk n B d b) (hB : B + (ws.length : Int) < 9223372036854775807) (hw : ∀ w ∈ ws, U64 w), RefOk n (B + (ws.length : Int)) (putAll d k ws).2 b
  | [], B, k, d, h, _, _ => h.up (by simp)
  | w :: ws, B, k, d, h, hB, hw => by
    simp only [List.length_cons] at hB
    have h1 := (storeR (fu := 0) (k := k) h (by omega) (hw w (by simp))).2
    unfold putAll
    split
    · exact (putR h1 (by omega) fun x hx => hw x (by simp [hx])).up (by simp only [List.length_cons]; omega)
    · exact h1.up (by simp only [List.length_cons]; omega)
theorem sendR {n : Nat} {b : Int} {ws : List Int} {B k i : Int} {d : Dev} (h : RefOk n B d b) (hB : B + (ws.length : Int) + 1 < 9223372036854775807) (hn : n ≤ 100000) (hw : ∀ w ∈ ws, U64 w) : RefOk n (B + (ws.length : Int) + 1) (sendD d k i ws).2 b := by
  have h1 := putR (k := 8 * k + i) h (by omega) hw
  unfold sendD
  split
  · exact (flushR (fu := 100) h1 (by omega) hn (by decide)).2
  · exact h1.up (by omega)
theorem rlines_eq {fu : Nat} {d : Dev} {b : Int} (hl : d.cells.length ≤ 1000000) : rickyardref15_Lines.f fu (refD d b) = some ((d.cells.length / 8 : Nat) : Int) := by
  unfold rickyardref15_Lines.f
  have : (refD d b).Lasts.length = d.cells.length := by simp [refD, toM, lastsD]
  rw [this, Int.tdiv_eq_ediv_of_nonneg (by omega), w64 (by omega) (by omega)]
  congr 1
theorem rwrite_loop {fu n : Nat} {line b : Int} {bs : List Int} (hn : n ≤ 100000) (hbs : Bytes bs) (hl : bs.length = 64) (hline : 0 ≤ line ∧ line ≤ 100000) (hf : 2000 < fu) : ∀ (r j : Nat) (B : Int) (d : Dev) (k : Nat), j + r = 8 → RefOk n B d b → B + (r : Int) < 9223372036854775807 → r < k →
    loopM (rickyardref15_Write.s0 fu line bs) k (tupM (j : Int) (refD d b)) = some (if (putAll d (8 * line + (j : Int)) ((wordsU bs 8).drop j)).1 = 0 then .inr ((refD (putAll d (8 * line + (j : Int)) ((wordsU bs 8).drop j)).2 b).Lasts, (refD (putAll d (8 * line + (j : Int)) ((wordsU bs 8).drop j)).2 b).Stored, (refD (putAll d (8 * line + (j : Int)) ((wordsU bs 8).drop j)).2 b).Sent, (refD (putAll d (8 * line + (j : Int)) ((wordsU bs 8).drop j)).2 b).Flushed, (refD (putAll d (8 * line + (j : Int)) ((wordsU bs 8).drop j)).2 b).Plan, (refD (putAll d (8 * line + (j : Int)) ((wordsU bs 8).drop j)).2 b).Since, (refD (putAll d (8 * line + (j : Int)) ((wordsU bs 8).drop j)).2 b).Left, (refD (putAll d (8 * line + (j : Int)) ((wordsU bs 8).drop j)).2 b).Steps) else .inl ((putAll d (8 * line + (j : Int)) ((wordsU bs 8).drop j)).1, refD (putAll d (8 * line + (j : Int)) ((wordsU bs 8).drop j)).2 b))
  | r, j, B, d, 0, hj, h, hB, hk => by omega
  | 0, j, B, d, k + 1, hj, h, hB, hk => by
    unfold loopM
    have : j = 8 := by omega
    subst this
    unfold rickyardref15_Write.s0 tupM
    rw [decide_eq_false (show ¬ (((8 : Nat) : Int) < 8) by decide), if_neg (by decide), List.drop_of_length_le (by rw [wordsU_len]; exact Nat.le_refl _)]
    rfl
  | r + 1, j, B, d, k + 1, hj, h, hB, hk => by
    have hjl : j < 8 := by omega
    have hwl : (wordsU bs 8).length = 8 := wordsU_len _ _
    have hu := words_U64 (n := 8) hbs _ (List.getElem_mem (show j < (wordsU bs 8).length by omega))
    have hval : (wordsU bs 8)[j]'(by omega) = ((num ((bs.drop (8 * j)).take 8) : Nat) : Int) := by simp [wordsU]
    have hst := storeR (fu := fu) (k := 8 * line + (j : Int)) h (by omega) hu
    have w1 : IntKind.i64.wrap (8 * (j : Int)) = ((8 * j : Nat) : Int) := by rw [w64 (by omega) (by omega)]; omega
    have w2 : IntKind.i64.wrap (((8 * j : Nat) : Int) + 8) = ((8 * j + 8 : Nat) : Int) := by rw [w64 (by omega) (by omega)]; omega
    have w3 : IntKind.i64.wrap (8 * line) = 8 * line := w64 (by omega) (by omega)
    have w4 : IntKind.i64.wrap (8 * line + (j : Int)) = 8 * line + (j : Int) := w64 (by omega) (by omega)
    have hd : (wordsU bs 8).drop j = (wordsU bs 8)[j]'(by omega) :: (wordsU bs 8).drop (j + 1) := List.drop_eq_getElem_cons (by omega)
    have hcut : cut bs ((8 * j : Nat) : Int) ((8 * j + 8 : Nat) : Int) = (bs.drop (8 * j)).take 8 := by
      unfold cut
      rw [Int.toNat_natCast, Int.toNat_natCast, List.drop_take]
      congr 1
      omega
    have hnum : rickyardref01_Number.f fu (List.map toB (cut bs ((8 * j : Nat) : Int) ((8 * j + 8 : Nat) : Int))) = some ((wordsU bs 8)[j]'(by omega)) := by
      rw [hcut, rnumber_eq ((hbs.drop _).take _) (by rw [List.length_take]; omega) (by rw [List.length_take]; omega), hval]
    unfold loopM
    have hs : rickyardref15_Write.s0 fu line bs (tupM (j : Int) (refD d b)) = some (if (storeD d (8 * line + (j : Int)) ((wordsU bs 8)[j]'(by omega))).1 = 0 then .inr (tupM ((j + 1 : Nat) : Int) (refD (storeD d (8 * line + (j : Int)) ((wordsU bs 8)[j]'(by omega))).2 b)) else .inl (.inl ((storeD d (8 * line + (j : Int)) ((wordsU bs 8)[j]'(by omega))).1, refD (storeD d (8 * line + (j : Int)) ((wordsU bs 8)[j]'(by omega))).2 b))) := by
      unfold rickyardref15_Write.s0 tupM
      simp only [eta8, w1, w2, w3, w4]
      rw [decide_eq_true (show (j : Int) < 8 by omega), if_pos rfl, if_pos (by omega), hnum, next64 hjl (by decide)]
      simp only [Option.bind_some]
      rw [hst.1]
      simp only [Option.bind_some]
      by_cases e : (storeD d (8 * line + (j : Int)) ((wordsU bs 8)[j]'(by omega))).1 = 0
      · rw [decide_eq_true e, if_neg (by decide), if_pos e]
      · rw [decide_eq_false e, if_pos (by decide), if_neg e]
    rw [hs, hd]
    unfold putAll
    by_cases e : (storeD d (8 * line + (j : Int)) ((wordsU bs 8)[j]'(by omega))).1 = 0
    · have ih := rwrite_loop (fu := fu) (n := n) (line := line) (b := b) hn hbs hl hline hf r (j + 1) (B + 1) (storeD d (8 * line + (j : Int)) ((wordsU bs 8)[j]'(by omega))).2 k (by omega) hst.2 (by omega) (by omega)
      rw [show 8 * line + ((j + 1 : Nat) : Int) = 8 * line + (j : Int) + 1 from by omega] at ih
      rw [if_pos e, if_pos e]
      exact ih
    · rw [if_neg e, if_neg e]
      simp only [e, if_false]
theorem rwrite_eq {fu n : Nat} {B line b : Int} {bs : List Int} {d : Dev} (h : RefOk n B d b) (hB : B + 9 < 9223372036854775807) (hn : n ≤ 100000) (hb : Bytes bs) (hf : 2000 < fu) : rickyardref15_Write.f fu (refD d b) line bs = some ((writeD d line bs).1, refD (writeD d line bs).2 b) ∧ RefOk n (B + 9) (writeD d line bs).2 b := by
  have hlen := h.ok.len
  have hc : (if (decide (line < 0)) = true then some (true) else ((rickyardref15_Lines.f fu (refD d b) : Option Int).bind fun t22 => (if (decide (line ≥ t22)) = true then some (true) else some ((!decide ((List.length bs : Int) = 64)))))) = some (decide (¬ (inL d line ∧ bs.length = 64))) := by
    rw [rlines_eq (by omega)]
    by_cases h1 : line < 0
    · rw [decide_eq_true h1, if_pos rfl, decide_eq_true (show ¬ (inL d line ∧ bs.length = 64) from fun q => by have q1 := q.1.1; have q2 := q.1.2; have q3 := q.2; omega)]
    · rw [decide_eq_false h1, if_neg (by decide)]
      simp only [Option.bind_some]
      by_cases h2 : line ≥ ((d.cells.length / 8 : Nat) : Int)
      · rw [decide_eq_true h2, if_pos rfl, decide_eq_true (show ¬ (inL d line ∧ bs.length = 64) from fun q => by have q1 := q.1.1; have q2 := q.1.2; have q3 := q.2; omega)]
      · rw [decide_eq_false h2, if_neg (by decide)]
        by_cases h3 : bs.length = 64
        · rw [decide_eq_true (show (bs.length : Int) = 64 by omega), decide_eq_false (show ¬ ¬ (inL d line ∧ bs.length = 64) from fun q => q ⟨⟨by omega, by omega⟩, by omega⟩)]
          rfl
        · rw [decide_eq_false (show ¬ (bs.length : Int) = 64 by omega), decide_eq_true (show ¬ (inL d line ∧ bs.length = 64) from fun q => by have q1 := q.1.1; have q2 := q.1.2; have q3 := q.2; omega)]
          rfl
  unfold rickyardref15_Write.f writeD
  rw [hc]
  simp only [Option.bind_some]
  by_cases hi : inL d line ∧ bs.length = 64
  · rw [decide_eq_false (fun q => q hi), if_neg (by decide), if_pos hi]
    have hin := hi.1
    unfold inL at hin
    have h1 := rwrite_loop (fu := fu) (line := line) (b := b) hn hb hi.2 (by omega) hf 8 0 B d fu rfl h (by omega) (by omega)
    simp only [List.drop_zero] at h1
    rw [show (8 * line + ((0 : Nat) : Int)) = 8 * line + 0 from rfl] at h1
    have h2 := putR (k := 8 * line + 0) (ws := wordsU bs 8) h (by rw [wordsU_len]; omega) (words_U64 hb)
    rw [wordsU_len] at h2
    have h3 := flushR (fu := fu) (k := line) h2 (by omega) hn (by omega)
    have h4 := sendR (k := line) (i := 0) (ws := wordsU bs 8) h (by rw [wordsU_len]; omega) hn (words_U64 hb)
    rw [wordsU_len] at h4
    refine ⟨?_, h4.up (by omega)⟩
    unfold tupM at h1
    rw [show (((0 : Nat) : Int)) = 0 from rfl] at h1
    rw [h1]
    unfold sendD
    by_cases e : (putAll d (8 * line + 0) (wordsU bs 8)).1 = 0
    · rw [if_pos e, if_pos e]
      simp only [Option.bind_some, eta8]
      rw [h3.1]
      rfl
    · rw [if_neg e, if_neg e]
      rfl
  · rw [decide_eq_true hi, if_pos rfl, if_neg hi]
    exact ⟨rfl, h.up (by omega)⟩
theorem rword_eq {fu n : Nat} {B line b i w : Int} {d : Dev} (h : RefOk n B d b) (hB : B + 9 < 9223372036854775807) (hn : n ≤ 100000) (hw : U64 w) (hf : 2000 < fu) : rickyardref15_Word.f fu (refD d b) line i w = some ((wordD d line i w).1, refD (wordD d line i w).2 b) ∧ RefOk n (B + 9) (wordD d line i w).2 b := by
  have hlen := h.ok.len
  have hc : (if (decide (line < 0)) = true then some (true) else ((rickyardref15_Lines.f fu (refD d b) : Option Int).bind fun t22 => (if (decide (line ≥ t22)) = true then some (true) else (if (decide (i < 0)) = true then some (true) else some ((decide (i > 7))))))) = some (decide (¬ (inL d line ∧ 0 ≤ i ∧ i < 8))) := by
    rw [rlines_eq (by omega)]
    by_cases h1 : line < 0
    · rw [decide_eq_true h1, if_pos rfl, decide_eq_true (show ¬ (inL d line ∧ 0 ≤ i ∧ i < 8) from fun q => by have q1 := q.1.1; have q2 := q.1.2; have q3 := q.2; omega)]
    · rw [decide_eq_false h1, if_neg (by decide)]
      simp only [Option.bind_some]
      by_cases h2 : line ≥ ((d.cells.length / 8 : Nat) : Int)
      · rw [decide_eq_true h2, if_pos rfl, decide_eq_true (show ¬ (inL d line ∧ 0 ≤ i ∧ i < 8) from fun q => by have q1 := q.1.1; have q2 := q.1.2; have q3 := q.2; omega)]
      · rw [decide_eq_false h2, if_neg (by decide)]
        by_cases h3 : i < 0
        · rw [decide_eq_true h3, if_pos rfl, decide_eq_true (show ¬ (inL d line ∧ 0 ≤ i ∧ i < 8) from fun q => by have q1 := q.1.1; have q2 := q.1.2; have q3 := q.2; omega)]
        · rw [decide_eq_false h3, if_neg (by decide)]
          by_cases h4 : i > 7
          · rw [decide_eq_true h4, decide_eq_true (show ¬ (inL d line ∧ 0 ≤ i ∧ i < 8) from fun q => by have q1 := q.1.1; have q2 := q.1.2; have q3 := q.2; omega)]
          · rw [decide_eq_false h4, decide_eq_false (show ¬ ¬ (inL d line ∧ 0 ≤ i ∧ i < 8) from fun q => q ⟨⟨by omega, by omega⟩, by omega⟩)]
  unfold rickyardref15_Word.f wordD
  rw [hc]
  simp only [Option.bind_some]
  by_cases hi : inL d line ∧ 0 ≤ i ∧ i < 8
  · rw [decide_eq_false (fun q => q hi), if_neg (by decide), if_pos hi]
    have hin := hi.1
    unfold inL at hin
    have w1 : IntKind.i64.wrap (8 * line) = 8 * line := w64 (by omega) (by omega)
    have w2 : IntKind.i64.wrap (8 * line + i) = 8 * line + i := w64 (by omega) (by omega)
    have h1 := storeR (fu := fu) (k := 8 * line + i) h (by omega) hw
    have h2 := flushR (fu := fu) (k := line) h1.2 (by omega) hn (by omega)
    rw [w1, w2, h1.1]
    unfold sendD putAll putAll
    simp only [Option.bind_some]
    by_cases e : (storeD d (8 * line + i) w).1 = 0
    · rw [decide_eq_true e, if_neg (by decide), if_pos e, if_pos rfl, h2.1]
      exact ⟨rfl, h2.2.up (by omega)⟩
    · rw [decide_eq_false e, if_pos (by decide), if_neg e, if_neg e]
      exact ⟨rfl, h1.2.up (by omega)⟩
  · rw [decide_eq_true hi, if_pos rfl, if_neg hi]
    exact ⟨rfl, h.up (by omega)⟩
theorem rread_eq {fu n : Nat} {B line b : Int} {d : Dev} (h : RefOk n B d b) (hn : n ≤ 100000) (hf : 2000 < fu) : rickyardref15_Read.f fu (refD d b) line = some ((readD d line).1.map toB, (readD d line).2) := by
  have hlen := h.ok.len
  have hc : (if (decide (line < 0)) = true then some (true) else ((rickyardref15_Lines.f fu (refD d b) : Option Int).bind fun t4 => some ((decide (line ≥ t4))))) = some (decide (¬ inL d line)) := by
    rw [rlines_eq (by omega)]
    by_cases h1 : line < 0
    · rw [decide_eq_true h1, if_pos rfl, decide_eq_true (show ¬ inL d line from fun q => by have q1 := q.1; have q2 := q.2; omega)]
    · rw [decide_eq_false h1, if_neg (by decide)]
      simp only [Option.bind_some]
      by_cases h2 : line ≥ ((d.cells.length / 8 : Nat) : Int)
      · rw [decide_eq_true h2, decide_eq_true (show ¬ inL d line from fun q => by have q1 := q.1; have q2 := q.2; omega)]
      · rw [decide_eq_false h2, decide_eq_false (show ¬ ¬ inL d line from fun q => q ⟨by omega, by omega⟩)]
  unfold rickyardref15_Read.f readD
  rw [hc]
  simp only [Option.bind_some]
  by_cases hi : inL d line
  · rw [decide_eq_false (fun q => q hi), if_neg (by decide), if_pos hi]
    have hin := hi
    unfold inL at hin
    have w1 : IntKind.i64.wrap (8 * line) = 8 * line := w64 (by omega) (by omega)
    have hld : ∀ j : Nat, j < 8 → rickyardref05_Device_Load.f fu (refD d b) (8 * line + (j : Int)) = some (if d.off = true then (0, 3) else ((ix d.cells (8 * line + (j : Int))).stored, 0)) := by
      intro j hj
      unfold refD
      rw [rload_eq h.ok]
      unfold loadD
      cases ho : d.off
      · rw [if_pos (may_zero.2 ⟨rfl, by omega, by omega⟩), if_neg (by decide)]
      · have : mayI true (8 * line + (j : Int)) (d.cells.length : Int) = 3 := rfl
        rw [this, if_neg (by decide), if_pos rfl]
    cases ho : d.off
    · rw [if_neg (by decide)]
      have hcl : (lineC d line).length = 8 := by simp [lineC]
      have loop : loopM (rickyardref15_Read.s0 fu (refD d b) line) fu ([], 0) = some (.inr ((octs (lineC d line)).map toB)) := by
        refine loopM_run (S := fun j => ((octs ((lineC d line).take j)).map toB, (j : Int))) 8 (by simp [octs]) ?_ ?_ (by omega)
        · intro j hj
          unfold rickyardref15_Read.s0
          have w3 : IntKind.i64.wrap (8 * line + (j : Int)) = 8 * line + (j : Int) := w64 (by omega) (by omega)
          obtain ⟨p, hp⟩ : ∃ p : Nat, 8 * line + (j : Int) = (p : Int) := ⟨(8 * line + (j : Int)).toNat, by omega⟩
          have hu : U64 (ix d.cells (8 * line + (j : Int))).stored := by
            rw [hp, ix_nat (by omega)]
            exact (h.ok.val _ (List.getElem_mem _)).2.1
          obtain ⟨v, hv⟩ : ∃ v : Nat, (ix d.cells (8 * line + (j : Int))).stored = (v : Int) := ⟨_, (Int.toNat_of_nonneg hu.1).symm⟩
          have hly : rickyardref01_Lay.f fu (v : Int) 8 = some ((lay v 8).map toB) := rlay_eq (n := 8) (by unfold U64 at hu; omega) (by decide) (by omega)
          have hnext : (lineC d line).take (j + 1) = (lineC d line).take j ++ [(v : Int)] := by
            rw [take_next (by omega), ← hv]
            simp [lineC]
          simp only [w1, w3]
          rw [decide_eq_true (show (j : Int) < 8 by omega), if_pos rfl, hld j hj, ho, if_neg (by decide), next64 hj (by decide), hv]
          simp only [Option.bind_some, decide_true, Bool.not_true, Bool.false_eq_true, if_false]
          rw [hly]
          simp only [Option.bind_some]
          rw [if_pos (by rw [List.length_map, List.length_map, octs_len, lay_len, List.length_take]; exact Nat.le_trans (by omega : _ ≤ 100) (by decide)), hnext, octs_append, octs_one, List.map_append, Int.toNat_natCast]
        · unfold rickyardref15_Read.s0
          rw [decide_eq_false (show ¬ (((8 : Nat) : Int) < 8) by decide), if_neg (by decide), List.take_of_length_le (by omega)]
      rw [loop]
      rfl
    · rw [if_pos rfl]
      have loop : loopM (rickyardref15_Read.s0 fu (refD d b) line) fu ([], 0) = some (.inl ([], 3)) := by
        obtain ⟨k, rfl⟩ : ∃ k, fu = k + 1 := ⟨fu - 1, by omega⟩
        unfold loopM
        have := hld 0 (by decide)
        rw [ho, if_pos rfl] at this
        unfold rickyardref15_Read.s0
        have w3 : IntKind.i64.wrap (8 * line + 0) = 8 * line + ((0 : Nat) : Int) := by rw [w64 (by omega) (by omega)]; rfl
        simp only [w1, w3]
        rw [this]
        rfl
      rw [loop]
      rfl
  · rw [decide_eq_true hi, if_pos rfl, if_neg hi]
    rfl
def doP (d : Dev) (a : S_rickyardlaw15_Act) : Dev :=
  if a.Kind = 0 then (writeD d a.At a.B).2 else if a.Kind = 1 then (wordD d a.At a.I a.A.W).2 else if a.Kind = 2 then (fenceD d).2 else if a.Kind = 3 then d else (doD d a.A).2
def baseP (d : Dev) (a : S_rickyardlaw15_Act) (b : Int) : Int := if a.Kind = 0 ∨ a.Kind = 1 ∨ a.Kind = 2 ∨ a.Kind = 3 then b else baseA d a.A b
def okP (a : S_rickyardlaw15_Act) : Prop := okA a.A ∧ Bytes a.B
theorem doP_eq {fu n : Nat} {B b : Int} {d : Dev} {a : S_rickyardlaw15_Act} (h : RefOk n B d b) (hB : B + 9 < 9223372036854775807) (hn : n ≤ 100000) (ha : okP a) (hf : n + 2000 < fu) : rickyardlaw15_do.f fu d (refD d b) a = some (true, doP d a, refD (doP d a) (baseP d a b)) ∧ RefOk n (B + 9) (doP d a) (baseP d a b) := by
  unfold rickyardlaw15_do.f doP baseP
  by_cases k0 : a.Kind = 0
  · have h1 := rwrite_eq (fu := fu) (line := a.At) h hB hn ha.2 (by omega)
    rw [decide_eq_true k0, if_pos rfl, if_pos k0, if_pos (.inl k0), write_eq h.ok (by omega) hn ha.2 (by omega), h1.1]
    simp only [Option.bind_some, decide_true]
    exact ⟨trivial, h1.2⟩
  rw [decide_eq_false k0, if_neg (by decide), if_neg k0]
  by_cases k1 : a.Kind = 1
  · have h1 := rword_eq (fu := fu) (line := a.At) (i := a.I) h hB hn ha.1.2.2.1 (by omega)
    rw [decide_eq_true k1, if_pos rfl, if_pos k1, if_pos (.inr (.inl k1)), word_eq h.ok (by omega) hn ha.1.2.2.1 (by omega), h1.1]
    simp only [Option.bind_some, decide_true]
    exact ⟨trivial, h1.2⟩
  rw [decide_eq_false k1, if_neg (by decide), if_neg k1]
  by_cases k2 : a.Kind = 2
  · have h1 := fenceR (fu := fu) h (by omega) hn (by omega)
    rw [decide_eq_true k2, if_pos rfl, if_pos k2, if_pos (.inr (.inr (.inl k2))), sure_eq h.ok (by omega) hn (by omega), h1.1]
    simp only [Option.bind_some, decide_true]
    exact ⟨trivial, h1.2.up (by omega)⟩
  rw [decide_eq_false k2, if_neg (by decide), if_neg k2]
  by_cases k3 : a.Kind = 3
  · rw [decide_eq_true k3, if_pos rfl, if_pos k3, if_pos (.inr (.inr (.inr k3))), read_dev h.ok hn (by omega), rread_eq h hn (by omega)]
    simp only [Option.bind_some, decide_true, if_true]
    exact ⟨trivial, h.up (by omega)⟩
  rw [decide_eq_false k3, if_neg (by decide), if_neg k3, if_neg (by omega)]
  have h1 := doR (fu := fu) h (by omega) hn ha.1 (by omega)
  rw [do_eq h.ok (by omega) hn ha.1 (by omega), h1.1]
  simp only [Option.bind_some]
  exact ⟨trivial, h1.2.up (by omega)⟩
/-- The same act on two devices. -/
theorem doP2_eq {fu n m : Nat} {B C b : Int} {d e : Dev} {a : S_rickyardlaw15_Act} (hd : DevOk m C d) (hC : C + 9 < 9223372036854775807) (hm : m ≤ 100000) (h : RefOk n B e b) (hB : B + 9 < 9223372036854775807) (hn : n ≤ 100000) (ha : okP a) (hf : n + 2000 < fu) (hg : m + 2000 < fu) : (∃ x, rickyardlaw15_do.f fu d (refD e b) a = some (x, doP d a, refD (doP e a) (baseP e a b))) ∧ DevOk m (C + 9) (doP d a) ∧ RefOk n (B + 9) (doP e a) (baseP e a b) := by
  have hdp : DevOk m (C + 9) (doP d a) := by
    unfold doP
    split
    · unfold writeD
      split
      · have := send_ok (k := a.At) (i := 0) (ws := wordsU a.B 8) hd (words_U64 ha.2)
        rw [wordsU_len] at this
        exact this.up (by omega)
      · exact hd.up (by omega)
    split
    · unfold wordD
      split
      · have := send_ok (k := a.At) (i := a.I) (ws := [a.A.W]) hd (fun x hx => by rw [List.mem_singleton.1 hx]; exact ha.1.2.2.1)
        exact this.up (by simp only [List.length_cons, List.length_nil]; omega)
      · exact hd.up (by omega)
    split
    · exact (fence_ok hd).up (by omega)
    split
    · exact hd.up (by omega)
    · exact (do_ok hd ha.1).up (by omega)
  refine ⟨?_, hdp, (doP_eq (fu := fu) h hB hn ha hf).2⟩
  unfold rickyardlaw15_do.f doP baseP
  by_cases k0 : a.Kind = 0
  · have h1 := rwrite_eq (fu := fu) (line := a.At) h hB hn ha.2 (by omega)
    rw [decide_eq_true k0, if_pos rfl, if_pos k0, if_pos k0, if_pos (.inl k0), write_eq hd (by omega) hm ha.2 (by omega), h1.1]
    exact ⟨_, rfl⟩
  rw [decide_eq_false k0, if_neg (by decide), if_neg k0, if_neg k0]
  by_cases k1 : a.Kind = 1
  · have h1 := rword_eq (fu := fu) (line := a.At) (i := a.I) h hB hn ha.1.2.2.1 (by omega)
    rw [decide_eq_true k1, if_pos rfl, if_pos k1, if_pos k1, if_pos (.inr (.inl k1)), word_eq hd (by omega) hm ha.1.2.2.1 (by omega), h1.1]
    exact ⟨_, rfl⟩
  rw [decide_eq_false k1, if_neg (by decide), if_neg k1, if_neg k1]
  by_cases k2 : a.Kind = 2
  · have h1 := fenceR (fu := fu) h (by omega) hn (by omega)
    rw [decide_eq_true k2, if_pos rfl, if_pos k2, if_pos k2, if_pos (.inr (.inr (.inl k2))), sure_eq hd (by omega) hm (by omega), h1.1]
    exact ⟨_, rfl⟩
  rw [decide_eq_false k2, if_neg (by decide), if_neg k2, if_neg k2]
  by_cases k3 : a.Kind = 3
  · rw [decide_eq_true k3, if_pos rfl, if_pos k3, if_pos k3, if_pos (.inr (.inr (.inr k3))), read_dev hd hm (by omega), rread_eq h hn (by omega)]
    exact ⟨_, rfl⟩
  rw [decide_eq_false k3, if_neg (by decide), if_neg k3, if_neg k3, if_neg (by omega)]
  have h1 := doR (fu := fu) h (by omega) hn ha.1 (by omega)
  rw [do_eq hd (by omega) hm ha.1 (by omega), h1.1]
  exact ⟨_, rfl⟩
/-- Acts that aren't too great. -/
def SmallP (acts : List S_rickyardlaw15_Act) (m : Nat) : Prop := acts.length ≤ m ∧ ∀ a ∈ acts, a.B.length ≤ 200 ∧ a.A.L.length ≤ 40
instance (acts : List S_rickyardlaw15_Act) (m : Nat) : Decidable (SmallP acts m) := inferInstanceAs (Decidable (_ ∧ _))
theorem smallP_eq {fu m : Nat} {acts : List S_rickyardlaw15_Act} (hm : m ≤ 1000) (hf : m < fu) : rickyardlaw15_small.f fu acts (m : Int) = some (decide (SmallP acts m)) := by
  unfold rickyardlaw15_small.f
  by_cases h1 : acts.length ≤ m
  · have c : ¬ (acts.length : Int) > (m : Int) := by omega
    rw [decide_eq_false c, if_neg (by decide)]
    have hs : ∀ j : Nat, j < acts.length → rickyardlaw15_small.s0 fu acts (j : Int) = some (if (ix acts (j : Int)).B.length ≤ 200 ∧ (ix acts (j : Int)).A.L.length ≤ 40 then .inr ((j + 1 : Nat) : Int) else .inl (.inl false)) := by
      intro j hj
      unfold rickyardlaw15_small.s0
      have c1 : 0 ≤ (j : Int) ∧ (j : Int) < (acts.length : Int) := by omega
      rw [decide_eq_true c1.2, if_pos rfl, if_pos c1, if_pos c1, next64 hj (by omega)]
      by_cases e1 : (ix acts (j : Int)).B.length ≤ 200
      · rw [decide_eq_false (show ¬ ((ix acts (j : Int)).B.length : Int) > 200 by omega), if_neg (by decide)]
        by_cases e : (ix acts (j : Int)).A.L.length ≤ 40
        · rw [decide_eq_false (show ¬ ((ix acts (j : Int)).A.L.length : Int) > 40 by omega), if_pos ⟨e1, e⟩]
          rfl
        · rw [decide_eq_true (show ((ix acts (j : Int)).A.L.length : Int) > 40 by omega), if_neg (fun q => e q.2)]
          rfl
      · rw [decide_eq_true (show ((ix acts (j : Int)).B.length : Int) > 200 by omega), if_pos rfl, if_neg (fun q => e1 q.1)]
        rfl
    by_cases h2 : ∀ a ∈ acts, a.B.length ≤ 200 ∧ a.A.L.length ≤ 40
    · have : loopM (rickyardlaw15_small.s0 fu acts) fu 0 = some (.inr ()) := by
        refine loopM_run (S := fun j => (j : Int)) acts.length rfl (fun j hj => by rw [hs j hj, ix_nat hj, if_pos (h2 _ (List.getElem_mem hj))]) ?_ (by omega)
        unfold rickyardlaw15_small.s0
        rw [decide_eq_false (show ¬ ((acts.length : Int) < (acts.length : Int)) by omega), if_neg (by decide)]
      rw [this, decide_eq_true (show SmallP acts m from ⟨h1, h2⟩)]
      rfl
    · have : loopM (rickyardlaw15_small.s0 fu acts) fu 0 = some (.inl false) := by
        refine loopM_bad (S := fun j => (j : Int)) acts.length (fun j => (ix acts (j : Int)).B.length ≤ 200 ∧ (ix acts (j : Int)).A.L.length ≤ 40) rfl ?_ (fun j hj _ hg => by rw [hs j hj, if_pos hg]) (fun j hj _ hg => by rw [hs j hj, if_neg hg]) (by omega)
        apply Classical.byContradiction
        intro hx
        refine h2 fun a ha => ?_
        obtain ⟨i, hi, rfl⟩ := List.getElem_of_mem ha
        refine Classical.byContradiction fun hg => hx ⟨i, hi, ?_⟩
        rw [ix_nat hi]
        exact hg
      rw [this, decide_eq_false (show ¬ SmallP acts m from fun q => h2 q.2)]
      rfl
  · have c : (acts.length : Int) > (m : Int) := by omega
    rw [decide_eq_true c, if_pos rfl, decide_eq_false (show ¬ SmallP acts m from fun q => h1 q.1)]
theorem okP_of {a : S_rickyardlaw15_Act} (h : ok_rickyardlaw15_Act a) (hl : a.A.L.length ≤ 40) : okP a := by
  obtain ⟨_, _, _, hB, hA⟩ := h
  exact ⟨okA_of hA hl, fun x hx => wf8.1 (hB.1 x hx)⟩
end Go.Proofs.Ytklhbaghbmndeaa.Pure

/- The pure statement of PressSure. -/
set_option linter.unusedVariables false
set_option linter.unusedSimpArgs false
namespace Go.Proofs.Ytklhbaghbmndeaa.Pure
open Go Go.Xw
def tupS (i : Int) (d : Dev) (m : Ref) := (i, d.cells, d.plan.list, d.plan.at_, d.off, d.armed, d.left, d.steps, m.Lasts, m.Stored, m.Sent, m.Flushed, m.Plan, m.Since, m.Left, m.Steps)
theorem PressSure : ∀ (a0 : Arr 64 Int) (a1 : Int) (a2 : List S_rickyardlaw15_Act), (∀ x ∈ a0.l, (Lit.int .u8 x).wf = true) → (Lit.int .u8 a1).wf = true → ((∀ x ∈ a2, ok_rickyardlaw15_Act x) ∧ List.length a2 ≤ maxLen) → ∃ fu, rickyardlaw15_PressSure.f fu a0 a1 a2 = some true := by
  intro blk at0 acts hblk hat hacts
  refine ⟨FU, ?_⟩
  unfold rickyardlaw15_PressSure.f
  have hsm : rickyardlaw15_small.f FU acts 30 = some (decide (SmallP acts 30)) := smallP_eq (m := 30) (by decide) (by decide)
  rw [awake15', hsm]
  simp only [Option.bind_some, Bool.not_true, Bool.false_eq_true, if_false]
  by_cases hS : SmallP acts 30
  rotate_left
  · rw [decide_eq_false hS]
    rfl
  rw [decide_eq_true hS]
  have h8 := wf8.1 hat
  obtain ⟨k, hw⟩ : ∃ k : Nat, Int.tmod (IntKind.i64.wrap at0) 5 = (k : Int) := ⟨(at0 % 5).toNat, by
    rw [w64 (by omega) (by omega), Int.tmod_eq_emod_of_nonneg h8.1]
    omega⟩
  have hk : k ≤ 4 := by
    rw [w64 (by omega) (by omega), Int.tmod_eq_emod_of_nonneg h8.1] at hw
    omega
  have hb : Bytes blk.l := fun x hx => wf8.1 (hblk x hx)
  have hbl : blk.l.length = 64 := blk.h
  have hnew : pmem_New.f FU 5 = some (some (newD 40), 0) := new_eq (k := 5) (by decide)
  have hrn : rickyardref05_New.f FU 5 = some (refD (newD 40) 0) := rnew_eq (k := 5) (by decide)
  have hun : Un (newD 40) := ⟨rfl, rfl⟩
  have hin : inL (newD 40) (k : Int) := by
    unfold inL
    have : (newD 40).cells.length = 40 := by simp [newD]
    omega
  obtain ⟨a1, a2, a3⟩ := un_write hun hin hbl
  have hwr : press_Write.f FU (newD 40) (k : Int) blk.l = some (writeD (newD 40) (k : Int) blk.l) := write_eq (newD_ok 40) (by decide) (by decide) hb (by decide)
  have hd1 : DevOk 40 9 (writeD (newD 40) (k : Int) blk.l).2 := by
    unfold writeD
    rw [if_pos ⟨hin, hbl⟩]
    have := send_ok (k := (k : Int)) (i := 0) (newD_ok 40) (words_U64 (n := 8) hb)
    rw [wordsU_len] at this
    exact this
  have hst2 := fun j hj => write_st2 (d := newD 40) (line := k) a1 j hj
  generalize hD1 : writeD (newD 40) (k : Int) blk.l = W at *
  have hsu : press_Sure.f FU W.2 = some (fenceD W.2) := sure_eq hd1 (by decide) (by decide) (by decide)
  obtain ⟨b1, b2, b3⟩ := un_fence a2
  have hd2 : DevOk 40 10 (fenceD W.2).2 := fence_ok hd1
  have hlen1 := hd1.len
  have hcell : ∀ i : Nat, i < 8 → CellP (fun x => x = ix (wordsU blk.l 8) (i : Int)) (cellA (fenceD W.2).2 (8 * k + i)) := fun i hi => st2_fence (by omega) (hst2 i hi) a2.2
  generalize hD2 : (fenceD W.2).2 = D at *
  have hst : D.steps = 10 := by
    rw [b3, a3]
    rfl
  simp only [Bool.not_true, Bool.false_eq_true, if_false]
  rw [hnew]
  simp only [Option.bind_some, Option.elim_some, hw]
  rw [hwr]
  simp only [Option.bind_some, a1, decide_true, Bool.not_true, Bool.false_eq_true, if_false]
  rw [hsu]
  simp only [Option.bind_some, b1, decide_true, Bool.not_true, Bool.false_eq_true, if_false, hD2]
  rw [steps_eq, hst]
  simp only [Option.bind_some, decide_true, Bool.not_true, Bool.false_eq_true, if_false]
  rw [hrn]
  simp only [Option.bind_some]
  have hokA : ∀ a ∈ acts, okP a := fun a h => okP_of (hacts.1 a h) (hS.2 a h).2
  have loop : ∃ e, loopM (rickyardlaw15_PressSure.s0 FU at0 acts) FU (tupS 0 D (refD (newD 40) 0)) = some e ∧ ∃ (d : Dev) (m : Ref), e = (d.cells, d.plan.list, d.plan.at_, d.off, d.armed, d.left, d.steps, m.Lasts, m.Stored, m.Sent, m.Flushed, m.Plan, m.Since, m.Left, m.Steps) ∧ DevOk 40 1000 d ∧ ∀ i : Nat, i < 8 → CellP (fun x => x = ix (wordsU blk.l 8) (i : Int)) (cellA d (8 * k + i)) := by
    refine loopM_inv (fun j z => ∃ (d e : Dev) (b : Int), z = tupS (j : Int) d (refD e b) ∧ DevOk 40 (10 + 9 * (j : Int)) d ∧ RefOk 40 (9 * (j : Int)) e b ∧ ∀ i : Nat, i < 8 → CellP (fun x => x = ix (wordsU blk.l 8) (i : Int)) (cellA d (8 * k + i))) acts.length _ ?_ ?_ (j := 0) ⟨_, _, 0, rfl, hd2, newR_ok _, hcell⟩ (by omega) (by have := hS.1; show _ < 200000; omega)
    · rintro j _ hj ⟨d, e, b, rfl, hd, he, hi⟩
      have hS1 := hS.1
      have c1 : 0 ≤ (j : Int) ∧ (j : Int) < (acts.length : Int) := by omega
      have hoa := hokA _ (List.getElem_mem hj)
      obtain ⟨⟨x, hdo⟩, hdp, hep⟩ := doP2_eq (fu := FU) hd (by omega) (by decide) he (by omega) (by decide) hoa (by decide) (by decide)
      have hlen := hd.len
      have hrec : (⟨(ix acts (j : Int)).Kind, (ix acts (j : Int)).At, (ix acts (j : Int)).I, (ix acts (j : Int)).B, (ix acts (j : Int)).A⟩ : S_rickyardlaw15_Act) = acts[j] := by
        rw [ix_nat hj]
      have w1 : IntKind.i64.wrap (8 * (k : Int)) = ((8 * k : Nat) : Int) := by rw [w64 (by omega) (by omega)]; omega
      have w2 : IntKind.i64.wrap (((8 * k : Nat) : Int) + 8) = ((8 * k + 8 : Nat) : Int) := by rw [w64 (by omega) (by omega)]; omega
      unfold rickyardlaw15_PressSure.s0 tupS
      simp only [eta, eta8, hrec, hw, w1, w2]
      rw [decide_eq_true c1.2, if_pos rfl, if_pos c1, next64 hj (by omega), ix_nat hj, rest7_eq hoa.1.1 (by decide)]
      simp only [Option.bind_some]
      rw [hdo]
      generalize hQ : acts[j] = a at *
      have hgo : ∀ (hskip : ¬ (a.Kind = 0 ∨ a.Kind = 1) ∨ a.At ≠ (k : Int)) (hskip2 : (a.Kind = 0 ∨ a.Kind = 1 ∨ a.Kind = 2 ∨ a.Kind = 3) ∨ (a.A.Kind % 7 = 0 → ¬ (((8 * k : Nat) : Int) ≤ a.A.At ∧ a.A.At < ((8 * k + 8 : Nat) : Int)))), ∀ i : Nat, i < 8 → CellP (fun x => x = ix (wordsU blk.l 8) (i : Int)) (cellA (doP d a) (8 * k + i)) := by
        intro s1 s2 i hi8
        have hc := hi i hi8
        have hil : 8 * k + i < d.cells.length := by omega
        unfold doP
        split
        · rename_i k0
          exact cell_write hil hc fun q hq e => by exfalso; omega
        split
        · rename_i k1
          exact cell_word hil hc fun q0 q1 e => by exfalso; omega
        split
        · exact cell_fence hil hc
        split
        · exact hc
        · exact cell_do hil hc fun q0 e => by
            exfalso
            have := s2.resolve_left (by omega) q0
            omega
      have hstay : ∃ (d' e' : Dev) (b' : Int), tupS ((j + 1 : Nat) : Int) d (refD e b) = tupS ((j + 1 : Nat) : Int) d' (refD e' b') ∧ DevOk 40 (10 + 9 * ((j + 1 : Nat) : Int)) d' ∧ RefOk 40 (9 * ((j + 1 : Nat) : Int)) e' b' ∧ ∀ i : Nat, i < 8 → CellP (fun x => x = ix (wordsU blk.l 8) (i : Int)) (cellA d' (8 * k + i)) := ⟨d, e, b, rfl, hd.up (by omega), he.up (by omega), hi⟩
      by_cases hkind : a.Kind = 0 ∨ a.Kind = 1 ∨ a.Kind = 2 ∨ a.Kind = 3
      · have hc : ¬ (if (!decide (a.Kind = 0)) = true then (if (!decide (a.Kind = 1)) = true then (if (!decide (a.Kind = 2)) = true then (!decide (a.Kind = 3)) else false) else false) else false) = true := by
          rcases hkind with h | h | h | h <;> simp [h]
        rw [if_neg hc]
        by_cases hatk : a.At = (k : Int)
        · rw [decide_eq_true hatk, if_pos rfl]
          exact ⟨_, rfl, hstay⟩
        · rw [decide_eq_false hatk, if_neg (by decide)]
          exact ⟨_, rfl, doP d a, doP e a, baseP e a b, rfl, hdp.up (by omega), hep.up (by omega), hgo (.inr hatk) (.inl hkind)⟩
      · have hc : (if (!decide (a.Kind = 0)) = true then (if (!decide (a.Kind = 1)) = true then (if (!decide (a.Kind = 2)) = true then (!decide (a.Kind = 3)) else false) else false) else false) = true := by
          have h0 : ¬ a.Kind = 0 := fun h => hkind (.inl h)
          have h1 : ¬ a.Kind = 1 := fun h => hkind (.inr (.inl h))
          have h2 : ¬ a.Kind = 2 := fun h => hkind (.inr (.inr (.inl h)))
          have h3 : ¬ a.Kind = 3 := fun h => hkind (.inr (.inr (.inr h)))
          simp [h0, h1, h2, h3]
        rw [if_pos hc]
        by_cases hs : a.A.Kind % 7 = 0 ∧ ((8 * k : Nat) : Int) ≤ a.A.At ∧ a.A.At < ((8 * k + 8 : Nat) : Int)
        · have hif : (if (decide (a.A.Kind % 7 = 0)) = true then (if (decide (a.A.At ≥ ((8 * k : Nat) : Int))) = true then (decide (a.A.At < ((8 * k + 8 : Nat) : Int))) else false) else false) = true := by
            rw [decide_eq_true hs.1, if_pos rfl, decide_eq_true (show a.A.At ≥ ((8 * k : Nat) : Int) from hs.2.1), if_pos rfl, decide_eq_true hs.2.2]
          rw [if_pos hif]
          exact ⟨_, rfl, hstay⟩
        · have hif : ¬ (if (decide (a.A.Kind % 7 = 0)) = true then (if (decide (a.A.At ≥ ((8 * k : Nat) : Int))) = true then (decide (a.A.At < ((8 * k + 8 : Nat) : Int))) else false) else false) = true := by
            intro q
            by_cases h0 : a.A.Kind % 7 = 0
            · rw [decide_eq_true h0, if_pos rfl] at q
              by_cases h1 : a.A.At ≥ ((8 * k : Nat) : Int)
              · rw [decide_eq_true h1, if_pos rfl] at q
                exact hs ⟨h0, h1, of_decide_eq_true q⟩
              · rw [decide_eq_false h1, if_neg (by decide)] at q
                cases q
            · rw [decide_eq_false h0, if_neg (by decide)] at q
              cases q
          rw [if_neg hif]
          exact ⟨_, rfl, doP d a, doP e a, baseP e a b, rfl, hdp.up (by omega), hep.up (by omega), hgo (.inl fun q => hkind (by omega)) (.inr fun h0 q => hs ⟨h0, q⟩)⟩
    · rintro _ ⟨d, e, b, rfl, hd, he, hi⟩
      have hS1 := hS.1
      unfold rickyardlaw15_PressSure.s0 tupS
      rw [decide_eq_false (show ¬ ((acts.length : Int) < (acts.length : Int)) by omega), if_neg (by decide)]
      exact ⟨_, rfl, d, refD e b, rfl, hd.up (by omega), hi⟩
  obtain ⟨e, h1, d, m, rfl, hd, hi⟩ := loop
  unfold tupS at h1
  rw [hst] at h1
  rw [h1]
  simp only [Option.bind_some, eta]
  have hlen := hd.len
  have hcr : pmem_Device_Crash.f FU d [] = some (crashD d []) := crash_eq hd (by decide) (by simp) (by decide)
  have hdc : DevOk 40 1000 (crashD d []) := crash_ok hd
  have hic : ∀ i : Nat, i < 8 → CellP (fun x => x = ix (wordsU blk.l 8) (i : Int)) (cellA (crashD d []) (8 * k + i)) := fun i hi8 => cell_crash (by omega) (hi i hi8)
  have e1 : lineC (crashD d []) (k : Int) = wordsU blk.l 8 := lineC_of (wordsU_len _ _) fun i hi8 => (hic i hi8).2.1
  have e2 : lineL (crashD d []) (k : Int) = wordsU blk.l 8 := lineL_of (wordsU_len _ _) fun i hi8 => (hic i hi8).1
  have hinc : inL (crashD d []) (k : Int) := by
    unfold inL
    rw [hdc.len]
    omega
  have hrd : press_Read.f FU (crashD d []) (k : Int) = some (blk.l, 0) := by
    rw [read_dev hdc (by decide) (by decide)]
    unfold readD
    rw [if_pos hinc, e1, octs_words8 hb hbl]
    rfl
  have hla : press_Lasts.f FU (crashD d []) (k : Int) = some (blk.l, true) := by
    rw [plasts_eq hdc (by decide) (by decide), if_pos hinc, e2, octs_words8 hb hbl]
  rw [hcr]
  simp only [Option.bind_some]
  rw [hrd, hla]
  simp
end Go.Proofs.Ytklhbaghbmndeaa.Pure

/- The law PressSure holds for every input: the row, out of the walk of the law's function and of its pure statement. Written by rows.py. -/
namespace Go.Proofs.Ytklhbaghbmndeaa.pressSure
open Go.ChangeShapes Go.WideShapes Go.ChangeAt Go.RowKit
open Go.ChangeMaps (open_string shut_string)
open Go Go.Xw
set_option linter.unusedVariables false
theorem own : ownKnob Try.prog.godebug = none := Facts.own
theorem laidOut : laidOutB Try.prog = true := Facts.laid
theorem closed : joinedFacts Try.pinned.checked.prog 12 Try.f12 Rows.pressSureSpec Rows.pressSureRow = true := by
  unfold joinedFacts
  rw [Facts.enter, Facts.lifts, Facts.make, Facts.laid, Facts.rowed, Facts.plain, Facts.heard]
  kernel_rfl
theorem enc_seg {α : Type} (K : Kd α) (a : α) : K.enc a = cellsOf [Kd.seg K a] := by simp [cellsOf, Kd.seg]
def start : Input := ⟨#[], #[.agg #[.int .u8 0, .int .u8 0, .int .u8 0, .int .u8 0, .int .u8 0, .int .u8 0, .int .u8 0, .int .u8 0, .int .u8 0, .int .u8 0, .int .u8 0, .int .u8 0, .int .u8 0, .int .u8 0, .int .u8 0, .int .u8 0, .int .u8 0, .int .u8 0, .int .u8 0, .int .u8 0, .int .u8 0, .int .u8 0, .int .u8 0, .int .u8 0, .int .u8 0, .int .u8 0, .int .u8 0, .int .u8 0, .int .u8 0, .int .u8 0, .int .u8 0, .int .u8 0, .int .u8 0, .int .u8 0, .int .u8 0, .int .u8 0, .int .u8 0, .int .u8 0, .int .u8 0, .int .u8 0, .int .u8 0, .int .u8 0, .int .u8 0, .int .u8 0, .int .u8 0, .int .u8 0, .int .u8 0, .int .u8 0, .int .u8 0, .int .u8 0, .int .u8 0, .int .u8 0, .int .u8 0, .int .u8 0, .int .u8 0, .int .u8 0, .int .u8 0, .int .u8 0, .int .u8 0, .int .u8 0, .int .u8 0, .int .u8 0, .int .u8 0, .int .u8 0], .int .u8 0, .slice none 0 0], []⟩
set_option maxRecDepth 100000 in
set_option maxHeartbeats 1000000 in
theorem lifted (os : Os) (started : os.Started) (H : Type) (enc : TypeId × Value → H) :
    ReturnsInHanded {} Try.checked os 12 .any (Rows.pressSureSpec.pre6 enc Try.prog Try.f12 Rows.pressSureRow.domain false) (Rows.pressSureSpec.post enc Try.prog Try.f12 false true false false) := by
  refine returnsInHanded_of_change_sized (C := Try.checked) own started (by kernel_rfl) Try.func12
    (ChangeSpec.witness6 (enc := enc) (C := Try.checked) false start 8 (by kernel_rfl) (by kernel_rfl) (by kernel_rfl) (by kernel_rfl)) ?_
  intro W base args ds gs before hval0 hW hcnd hsz0 _
  have hval : ∀ (j : Nat) t v, Try.f12.params[j]? = some t → args[j]? = some v → Value.okWide Try.prog W .any base t v := hval0
  have hW' := hW
  obtain ⟨p, q, hA0, hV, rfl, hfz, hnd⟩ := hW
  have hA : DataW.TrodAll enc Try.prog W 0 (fun _ => true) true Try.f12.params.toList args.toList ds p := hA0
  rw [Try.params12] at hA hval
  obtain ⟨v0, vs0, d0, ds0, p0, q0, hargs, rfl, rfl, h0, r0⟩ := trodAll_cons hA
  obtain ⟨v1, vs1, d1, ds1, p1, q1, rfl, rfl, rfl, h1, r1⟩ := trodAll_cons r0
  obtain ⟨v2, vs2, d2, ds2, p2, q2, rfl, rfl, rfl, h2, r2⟩ := trodAll_cons r1
  obtain ⟨rfl, rfl, rfl⟩ := trodAll_nil r2
  obtain rfl : args = #[v0, v1, v2] := by cases args; simp_all
  obtain ⟨rfl, rfl⟩ := trodVars_none hV
  have k0 := h0
  have lt0 : ∀ x ∈ p0, x.block < W.heap.size := by obtain ⟨m, hm⟩ := k0; exact DataW.trod_lt m _ _ _ hm
  obtain ⟨fu0, hf0⟩ := h0
  obtain ⟨a0, e0, o0⟩ := (opn_arr Try.underlying71 (by kernel_rfl) (by kernel_rfl) (opn_int Try.underlying5)) enc _ _ _ _ _ _ hf0
  obtain rfl := agg_of (by kernel_rfl) (hval 0 71 v0 rfl rfl) (e0.trans (enc_seg _ _))
  obtain ⟨a1, rfl, rfl, rfl, w1⟩ := open_int Try.underlying5 (hval 1 5 v1 rfl rfl) h1
  have k2 := h2
  have lt2 : ∀ x ∈ p2, x.block < W.heap.size := by obtain ⟨m, hm⟩ := k2; exact DataW.trod_lt m _ _ _ hm
  obtain ⟨fu2, hf2⟩ := h2
  obtain ⟨aa2, len2, cap2, rfl⟩ := okWide_slice Try.underlying82 (hval 2 82 v2 rfl rfl)
  obtain ⟨a2, V2_0, e2, R2_0, o2, l2, _⟩ := (opn_sliceN (n := 8) (D := D_rickyardlaw15_Act) (ok := ok_rickyardlaw15_Act) (w := W) Try.underlying82 (by kernel_rfl) (by decide) (fun enc base sp held fuel cs x h => by obtain ⟨a, V0, V1, R0, R1, e, o⟩ := opn_rickyardlaw15_Act enc base sp held fuel cs x h; exact ⟨a, ⟨V0, R0, V1, R1, e⟩, o, by rw [e, len_cellsOf]; rfl, by rw [e]; exact one_cellsOf _⟩)) enc _ _ _ _ _ _ hf2
  obtain rfl : Value.slice aa2 len2 cap2 = V2_0 := by simpa [Value.cells] using e2
  obtain ⟨fu, hfu⟩ := Pure.PressSure a0 a1 a2 o0 w1 ⟨o2, l2⟩
  refine Calls.mono (rickyardlaw15_PressSure.ok fu W a0 a1 a2 _ R2_0 true hfu) fun e W' hr => ?_
  obtain ⟨v, rfl, rfl, gr⟩ := hr
  have bel := Fr.below gr
  exact ⟨_, rfl, _, _, _, [], _, [], hW', trodAll_mk1 (shut_bool Try.underlying4 _), (trodAll_cons_mk (Below.trod laidOut (by kernel_rfl) (of_decide_eq_true (by kernel_rfl)) k0 bel lt0) (trodAll_cons_mk (shut_int Try.underlying5 w1) (trodAll_cons_mk (Below.trod laidOut (by kernel_rfl) (of_decide_eq_true (by kernel_rfl)) k2 bel lt2) trodAll_mk0))), rfl, bel.frame _, fun h => by cases h⟩
theorem over : Rows.pressSureRow.holds Try.pinned (OpenSpec.ofChange Rows.pressSureSpec) :=
  OpenClaim.holds_of_wide 12 Try.f12 rfl rfl rfl rfl rfl rfl rfl ⟨rfl, rfl, rfl, rfl, rfl⟩ rfl rfl rfl rfl rfl (by kernel_rfl) Try.func12 closed
    (of_decide_eq_true (by kernel_rfl)) (by unfold Func.isWrapper; first | (rw [if_pos (by decide +kernel)]; kernel_rfl) | (rw [if_neg (by decide +kernel)]; exact ⟨rfl, rfl⟩))
    (fun os started H enc _ => lifted os started H enc)
theorem proved : Rows.PressSureSaid := over
end Go.Proofs.Ytklhbaghbmndeaa.pressSure
namespace Go.Proofs.Ytklhbaghbmndeaa
/-- The law holds. -/
theorem pressSure_holds : Rows.PressSureSaid := pressSure.proved
#print axioms pressSure_holds
end Go.Proofs.Ytklhbaghbmndeaa
