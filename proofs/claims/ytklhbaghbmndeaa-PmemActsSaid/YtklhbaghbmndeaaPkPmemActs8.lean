/- PmemActs: texts merged, part 8 of 8. The last part proves that the law PmemActs holds for every input. -/
import Derived.Test.YtklhbaghbmndeaaPkPmemActs7
/- The pure statement of PmemActs. -/
set_option linter.unusedVariables false
set_option linter.unusedSimpArgs false
namespace Go.Proofs.Ytklhbaghbmndeaa.Pure
open Go Go.Xw
def tupB (i : Int) (d : Dev) (m : Ref) := (i, d.cells, d.plan.list, d.plan.at_, d.off, d.armed, d.left, d.steps, m.Lasts, m.Stored, m.Sent, m.Flushed, m.Plan, m.Since, m.Left, m.Steps)
theorem left_off {n : Nat} {B s : Int} {d : Dev} (h : DevOk n B d) : (!d.off) = (!decide ((toM d s).Left = 0)) := by
  have hl : (toM d s).Left = 0 ↔ d.off = true := by
    show (if d.armed = true then d.left else -1) = 0 ↔ _
    cases ha : d.armed
    · have := h.una ha
      simp [this]
    · have := (h.arm ha).2.2
      rw [this]
      simp
  cases ho : d.off
  · rw [decide_eq_false fun q => by rw [hl.1 q] at ho; cases ho]
  · rw [decide_eq_true (hl.2 ho)]
theorem PmemActs : ∀ (a0 : Int) (a1 : List S_rickyardlaw05_Act), (Lit.int .i64 a0).wf = true → ((∀ x ∈ a1, ok_rickyardlaw05_Act x) ∧ List.length a1 ≤ maxLen) → ∃ fu, rickyardlaw05_PmemActs.f fu a0 a1 = some true := by
  intro n acts hn hacts
  refine ⟨FU, ?_⟩
  unfold rickyardlaw05_PmemActs.f
  have hsm : rickyardlaw05_Small.f FU acts 60 = some (decide (Small acts 60)) := small_eq (m := 60) (by decide) (by decide)
  rw [awake05, hsm]
  simp only [Option.bind_some, Bool.not_true, Bool.false_eq_true, if_false]
  by_cases hS : Small acts 60
  rotate_left
  · rw [decide_eq_false hS]
    rfl
  rw [decide_eq_true hS]
  have hI : I64 n := wf64.1 hn
  by_cases hbad : n < 0 ∨ n > 4096
  · have hnew : pmem_New.f FU n = some (none, 2) := by
      unfold pmem_New.f
      rcases hbad with h | h
      · rw [decide_eq_true h]
        rfl
      · rw [decide_eq_true (show n > 4096 from h)]
        by_cases h0 : n < 0
        · rw [decide_eq_true h0]; rfl
        · rw [decide_eq_false h0]; rfl
    have h20 : (if (decide (n > 20)) = true then some ((decide (n ≤ 4096))) else some (false)) = some false := by
      rcases hbad with h | h
      · rw [decide_eq_false (show ¬ n > 20 by omega), if_neg (by decide)]
      · rw [decide_eq_true (show n > 20 by omega), if_pos rfl, decide_eq_false (show ¬ n ≤ 4096 by omega)]
    have hor : (if (decide (n < 0)) = true then true else (decide (n > 4096))) = true := by
      rcases hbad with h | h
      · rw [decide_eq_true h, if_pos rfl]
      · rw [decide_eq_false (show ¬ n < 0 by omega), if_neg (by decide), decide_eq_true h]
    simp only [Bool.not_true, Bool.false_eq_true, if_false]
    rw [h20]
    simp only [Option.bind_some, Bool.false_eq_true, if_false]
    rw [hnew]
    simp only [Option.bind_some, Option.elim_none]
    rw [if_pos hor]
    rfl
  by_cases h20 : n > 20
  · rw [decide_eq_true h20, decide_eq_true (show n ≤ 4096 by omega)]
    rfl
  obtain ⟨k, rfl⟩ : ∃ k : Nat, n = (k : Int) := ⟨n.toNat, by omega⟩
  have hk : k ≤ 20 := by omega
  rw [decide_eq_false h20]
  simp only [Bool.not_true, Bool.false_eq_true, if_false, Option.bind_some]
  have hnew : pmem_New.f FU (k : Int) = some (some (newD (8 * k)), 0) := new_eq (by omega)
  have hrn : rickyardref05_New.f FU (k : Int) = some (toM (newD (8 * k)) 0) := rnew_eq (by omega)
  have hd0 := newD_ok (8 * k)
  have hln : pmem_Device_Lines.f FU (newD (8 * k)) = some (k : Int) := by
    rw [lines_eq (by rw [hd0.len]; omega), hd0.len]
    congr 2
    omega
  rw [hnew, hrn]
  simp only [Option.bind_some, Option.elim_some]
  rw [hln, decide_eq_false (show ¬ (k : Int) < 0 by omega), decide_eq_false (show ¬ (k : Int) > 4096 by omega)]
  simp only [Option.bind_some, decide_true, Bool.not_true, Bool.false_eq_true, if_false]
  have hokA : ∀ a ∈ acts, okA a := fun a h => okA_of (hacts.1 a h) (hS.2 a h)
  have loop : ∃ e, loopM (rickyardlaw05_PmemActs.s0 FU acts) FU (tupB 0 (newD (8 * k)) (toM (newD (8 * k)) 0)) = some e ∧ ∃ z, e = .inr z := by
    refine loopM_inv (fun j z => ∃ (d : Dev) (s : Int), z = tupB (j : Int) d (toM d s) ∧ DevOk (8 * k) (j : Int) d ∧ 0 ≤ s ∧ s ≤ (j : Int) ∧ Since d s) acts.length _ ?_ ?_ (j := 0) ⟨_, 0, rfl, hd0, by omega, by omega, fun h => absurd rfl h⟩ (by omega) (by have := hS.1; show _ < 200000; omega)
    · rintro j _ hj ⟨d, s, rfl, hd, hs0, hs1, hsi⟩
      have hS1 := hS.1
      have c1 : 0 ≤ (j : Int) ∧ (j : Int) < (acts.length : Int) := by omega
      have hoa := hokA _ (List.getElem_mem hj)
      have hdo : rickyardlaw05_Do.f FU d acts[j] = some ((doD d acts[j]).1.1, (doD d acts[j]).1.2, (doD d acts[j]).2) := do_eq hd (by omega) (by omega) hoa (by show _ < 200000; omega)
      have hre : rickyardlaw05_Refs.f FU (toM d s) acts[j] = some ((doD d acts[j]).1.1, (doD d acts[j]).1.2, toM (doD d acts[j]).2 (since d acts[j] s)) := refs_eq hd (by omega) (by omega) hoa (by show _ < 200000; omega) (by omega) hsi
      have hd3 := do_ok hd hoa
      have hs3 := since_do (a := acts[j]) hsi
      have hs4 := since_le (d := d) (a := acts[j]) hs0
      unfold rickyardlaw05_PmemActs.s0 tupB
      simp only [eta, eta8]
      rw [decide_eq_true c1.2, if_pos rfl, if_pos c1, ix_nat hj, next64 hj (by omega), hdo]
      simp only [Option.bind_some]
      rw [if_pos c1, hre]
      generalize (doD d acts[j]).2 = D at *
      generalize since d acts[j] s = S at *
      have i1 : pmem_Device_Image.f FU D = some (octs (lastsD D)) := image_eq hd3 (by omega) (by show _ < 200000; omega)
      have i2 : pmem_Device_View.f FU D = some (octs (storedD D)) := view_eq hd3 (by omega) (by show _ < 200000; omega)
      have i3 : pmem_Device_Fates.f FU D = some (fatesD D) := fates_eq hd3 (by omega) (by show _ < 200000; omega)
      have i4 : rickyardref05_Device_Fates.f FU (toM D S) = some (fatesD D) := rfates_eq hd3 (by omega) (by show _ < 200000; omega)
      have hfl : (fatesD D).length ≤ 8 * k := by
        have := fatesU_le D D.cells.length
        have := hd3.len
        unfold fatesD
        omega
      have i5 : rickyardref05_Same.f FU (fatesD D) (fatesD D) = some true := same_eq (by omega) (by show _ < 200000; omega)
      have hlen := hd3.len
      have i6 : rickyardref05_Text.f FU (toM D S).Lasts = some ((octs (lastsD D)).map toB) := text_eq (fun w hw => by
        obtain ⟨c, hc, rfl⟩ := List.mem_map.1 hw
        exact (hd3.val c hc).1) (by simp [toM, lastsD, hlen]; omega) (by simp only [toM, lastsD, List.length_map, hlen]; show _ < 200000; omega)
      have i7 : rickyardref05_Text.f FU (toM D S).Stored = some ((octs (storedD D)).map toB) := text_eq (fun w hw => by
        obtain ⟨c, hc, rfl⟩ := List.mem_map.1 hw
        exact (hd3.val c hc).2.1) (by simp [toM, storedD, hlen]; omega) (by simp only [toM, storedD, List.length_map, hlen]; show _ < 200000; omega)
      have i8 := left_off (s := S) hd3
      have i9 : (toM D S).Steps = D.steps := rfl
      simp only [Option.bind_some]
      rw [steps_eq, up_eq, i1, i2, i3, i4, i6, i7, i8, i9]
      simp only [Option.bind_some, decide_true, Bool.not_true, Bool.false_eq_true, if_false]
      rw [i5]
      simp only [Option.bind_some, decide_true, Bool.not_true, Bool.false_eq_true, if_false]
      exact ⟨tupB ((j + 1 : Nat) : Int) D (toM D S), rfl, D, S, rfl, hd3.up (by omega), by omega, by omega, hs3⟩
    · rintro _ ⟨d, s, rfl, _⟩
      unfold rickyardlaw05_PmemActs.s0 tupB
      rw [decide_eq_false (show ¬ ((acts.length : Int) < (acts.length : Int)) by omega), if_neg (by decide)]
      exact ⟨_, rfl, _, rfl⟩
  obtain ⟨e, h1, z, rfl⟩ := loop
  unfold tupB at h1
  rw [h1]
  rfl
end Go.Proofs.Ytklhbaghbmndeaa.Pure

/- The law PmemActs holds for every input: the row, out of the walk of the law's function and of its pure statement. Written by rows.py. -/
namespace Go.Proofs.Ytklhbaghbmndeaa.pmemActs
open Go.ChangeShapes Go.WideShapes Go.ChangeAt Go.RowKit
open Go.ChangeMaps (open_string shut_string)
open Go Go.Xw
set_option linter.unusedVariables false
theorem own : ownKnob Try.prog.godebug = none := Facts.own
theorem laidOut : laidOutB Try.prog = true := Facts.laid
theorem closed : joinedFacts Try.pinned.checked.prog 7 Try.f7 Rows.pmemActsSpec Rows.pmemActsRow = true := by
  unfold joinedFacts
  rw [Facts.enter, Facts.lifts, Facts.make, Facts.laid, Facts.rowed, Facts.plain, Facts.heard]
  kernel_rfl
theorem enc_seg {α : Type} (K : Kd α) (a : α) : K.enc a = cellsOf [Kd.seg K a] := by simp [cellsOf, Kd.seg]
def start : Input := ⟨#[], #[.int .i64 0, .slice none 0 0], []⟩
set_option maxRecDepth 100000 in
set_option maxHeartbeats 1000000 in
theorem lifted (os : Os) (started : os.Started) (H : Type) (enc : TypeId × Value → H) :
    ReturnsInHanded {} Try.checked os 7 .any (Rows.pmemActsSpec.pre6 enc Try.prog Try.f7 Rows.pmemActsRow.domain false) (Rows.pmemActsSpec.post enc Try.prog Try.f7 false true false false) := by
  refine returnsInHanded_of_change_sized (C := Try.checked) own started (by kernel_rfl) Try.func7
    (ChangeSpec.witness6 (enc := enc) (C := Try.checked) false start 8 (by kernel_rfl) (by kernel_rfl) (by kernel_rfl) (by kernel_rfl)) ?_
  intro W base args ds gs before hval0 hW hcnd hsz0 _
  have hval : ∀ (j : Nat) t v, Try.f7.params[j]? = some t → args[j]? = some v → Value.okWide Try.prog W .any base t v := hval0
  have hW' := hW
  obtain ⟨p, q, hA0, hV, rfl, hfz, hnd⟩ := hW
  have hA : DataW.TrodAll enc Try.prog W 0 (fun _ => true) true Try.f7.params.toList args.toList ds p := hA0
  rw [Try.params7] at hA hval
  obtain ⟨v0, vs0, d0, ds0, p0, q0, hargs, rfl, rfl, h0, r0⟩ := trodAll_cons hA
  obtain ⟨v1, vs1, d1, ds1, p1, q1, rfl, rfl, rfl, h1, r1⟩ := trodAll_cons r0
  obtain ⟨rfl, rfl, rfl⟩ := trodAll_nil r1
  obtain rfl : args = #[v0, v1] := by cases args; simp_all
  obtain ⟨rfl, rfl⟩ := trodVars_none hV
  obtain ⟨a0, rfl, rfl, rfl, w0⟩ := open_int Try.underlying3 (hval 0 3 v0 rfl rfl) h0
  have k1 := h1
  have lt1 : ∀ x ∈ p1, x.block < W.heap.size := by obtain ⟨m, hm⟩ := k1; exact DataW.trod_lt m _ _ _ hm
  obtain ⟨fu1, hf1⟩ := h1
  obtain ⟨aa1, len1, cap1, rfl⟩ := okWide_slice Try.underlying24 (hval 1 24 v1 rfl rfl)
  obtain ⟨a1, V1_0, e1, R1_0, o1, l1, _⟩ := (opn_sliceN (n := 4) (D := D_rickyardlaw05_Act) (ok := ok_rickyardlaw05_Act) (w := W) Try.underlying24 (by kernel_rfl) (by decide) (fun enc base sp held fuel cs x h => by obtain ⟨a, V0, R0, e, o⟩ := opn_rickyardlaw05_Act enc base sp held fuel cs x h; exact ⟨a, ⟨V0, R0, e⟩, o, by rw [e, len_cellsOf]; rfl, by rw [e]; exact one_cellsOf _⟩)) enc _ _ _ _ _ _ hf1
  obtain rfl : Value.slice aa1 len1 cap1 = V1_0 := by simpa [Value.cells] using e1
  obtain ⟨fu, hfu⟩ := Pure.PmemActs a0 a1 w0 ⟨o1, l1⟩
  refine Calls.mono (rickyardlaw05_PmemActs.ok fu W a0 a1 _ R1_0 true hfu) fun e W' hr => ?_
  obtain ⟨v, rfl, rfl, gr⟩ := hr
  have bel := Fr.below gr
  exact ⟨_, rfl, _, _, _, [], _, [], hW', trodAll_mk1 (shut_bool Try.underlying4 _), (trodAll_cons_mk (shut_int Try.underlying3 w0) (trodAll_cons_mk (Below.trod laidOut (by kernel_rfl) (of_decide_eq_true (by kernel_rfl)) k1 bel lt1) trodAll_mk0)), rfl, bel.frame _, fun h => by cases h⟩
theorem over : Rows.pmemActsRow.holds Try.pinned (OpenSpec.ofChange Rows.pmemActsSpec) :=
  OpenClaim.holds_of_wide 7 Try.f7 rfl rfl rfl rfl rfl rfl rfl ⟨rfl, rfl, rfl, rfl, rfl⟩ rfl rfl rfl rfl rfl (by kernel_rfl) Try.func7 closed
    (of_decide_eq_true (by kernel_rfl)) (by unfold Func.isWrapper; first | (rw [if_pos (by decide +kernel)]; kernel_rfl) | (rw [if_neg (by decide +kernel)]; exact ⟨rfl, rfl⟩))
    (fun os started H enc _ => lifted os started H enc)
theorem proved : Rows.PmemActsSaid := over
end Go.Proofs.Ytklhbaghbmndeaa.pmemActs
namespace Go.Proofs.Ytklhbaghbmndeaa
/-- The law holds. -/
theorem pmemActs_holds : Rows.PmemActsSaid := pmemActs.proved
#print axioms pmemActs_holds
end Go.Proofs.Ytklhbaghbmndeaa
