/- DirElder: texts merged, part 8 of 8. The last part proves that the law DirElder holds for every input. -/
import Derived.Test.YtdifnahlheogdaaGreatDoorPkDirElder7
import Derived.Test.YtdifnahlheogdaaGreatDoorCards
import Derived.Test.YtdifnahlheogdaaGreatDoorTie
import Derived.OpenShut
import Derived.ProofKit
import Derived.ChangeOld
import Derived.Below
import Derived.SizedLaws
import Derived.SevenTiedAt
set_option maxRecDepth 100000
set_option maxHeartbeats 4000000
set_option linter.unusedVariables false
set_option linter.unusedSimpArgs false
set_option linter.unusedSectionVars false
namespace Go.Proofs.YtdifnahlheogdaaGreatDoor.Pure
open Go Go.Xw Go.Yw
theorem ahead_loop {l : List S_rickyardlaw25_Act} (hl : l.length ≤ 15) (hs : ∀ x ∈ l, x.Q.Name.length ≤ 100) (hk : ∀ x ∈ l, okA x) : ∃ e, loopM (rickyardlaw25_DirElder.s0 FU l) FU (0, [], 0, SO 120 (newD (8 * 120)) (A0 120 0)) = some e ∧ ∃ (k : Nat) (d : Dev) (a : AA) (L : List Ls), e = Sum.inr ((k : Int), qsOf L, SO 120 d a) ∧ DS 120 1000 19 d a k L := by
  refine loopM_iv (fun j s => ∃ (k : Nat) (d : Dev) (a : AA) (L : List Ls), s = ((k : Int), qsOf L, (j : Int), SO 120 d a) ∧ DS 120 (18 * (j : Int)) 19 d a k L) _ l.length ?_ ?_ l.length 0 FU _ (by omega) (Nat.lt_of_le_of_lt hl (by decide)) ⟨0, _, _, [], rfl, (made_ds (by omega)).wide (by omega)⟩
  · rintro j s hj ⟨k, d, a, L, rfl, hD⟩
    left
    have w3 : IntKind.i64.wrap ((j : Int) + 1) = ((j + 1 : Nat) : Int) := by rw [w64 (by omega) (by omega)]; omega
    have c1 : 0 ≤ (j : Int) ∧ (j : Int) < (l.length : Int) := by omega
    have hx := List.getElem_mem hj
    obtain ⟨k', d', a', L', e1, hD', _, _⟩ := actd_ok (fu := FU) (x := l[j]) (by decide) hD (by omega) (by decide) (by have := hs _ hx; omega) (hk _ hx).k
    refine ⟨((k' : Int), qsOf L', ((j + 1 : Nat) : Int), SO 120 d' a'), ?_, k', d', a', L', rfl, hD'.up (by omega)⟩
    unfold rickyardlaw25_DirElder.s0
    simp only [decide_eq_true c1.2, if_true, if_pos c1, ix_nat hj]
    rw [e1]
    simp only [Option.bind_some, Bool.not_true, Bool.false_eq_true, if_false, w3]
  · rintro s ⟨k, d, a, L, rfl, hD⟩
    exact ⟨_, by unfold rickyardlaw25_DirElder.s0; rw [decide_eq_false (show ¬ ((l.length : Int) < (l.length : Int)) by omega), if_neg (by decide)], k, d, a, L, rfl, hD.up (by omega)⟩
structure Old (d d0 : Dev) (a : AA) (k : Nat) (L : List Ls) : Prop where
  m : ∀ j : Nat, (j : Int) ∈ Wl k L → a.m j = true
  s : ∀ j : Nat, (j : Int) ∈ Wl k L → j < 120 → ln d j = ln d0 j
theorem behind_loop {l : List S_rickyardlaw25_Act} (hl : l.length ≤ 15) (hs : ∀ x ∈ l, x.Q.Name.length ≤ 100) (hk : ∀ x ∈ l, okA x) {k0 : Nat} {d0 : Dev} {a0 : AA} {L0 : List Ls} (hD0 : DS 120 1000 19 d0 a0 k0 L0) (hO : Old d0 d0 a0 k0 L0) :
    ∃ e, loopM (rickyardlaw25_DirElder.s1 FU l) FU ((k0 : Int), qsOf L0, 0, SO 120 d0 a0) = some e ∧ ∃ (k : Nat) (d : Dev) (a : AA) (L : List Ls), e = Sum.inr (SO 120 d a) ∧ DS 120 2000 19 d a k L ∧ Old d d0 a k0 L0 := by
  refine loopM_iv (fun j s => ∃ (k : Nat) (d : Dev) (a : AA) (L : List Ls), s = ((k : Int), qsOf L, (j : Int), SO 120 d a) ∧ DS 120 (1000 + 18 * (j : Int)) 19 d a k L ∧ Old d d0 a k0 L0) _ l.length ?_ ?_ l.length 0 FU _ (by omega) (Nat.lt_of_le_of_lt hl (by decide)) ⟨k0, _, _, L0, rfl, hD0.up (by omega), hO⟩
  · rintro j s hj ⟨k, d, a, L, rfl, hD, hO⟩
    left
    have w3 : IntKind.i64.wrap ((j : Int) + 1) = ((j + 1 : Nat) : Int) := by rw [w64 (by omega) (by omega)]; omega
    have c1 : 0 ≤ (j : Int) ∧ (j : Int) < (l.length : Int) := by omega
    have hx := List.getElem_mem hj
    obtain ⟨k', d', a', L', e1, hD', hm, hkp⟩ := actd_ok (fu := FU) (x := l[j]) (by decide) hD (by omega) (by decide) (by have := hs _ hx; omega) (hk _ hx).k
    refine ⟨((k' : Int), qsOf L', ((j + 1 : Nat) : Int), SO 120 d' a'), ?_, k', d', a', L', rfl, hD'.up (by omega), ⟨fun i hi => by rw [hm]; exact hO.m i hi, fun i hi h120 => by rw [hkp i h120 (hO.m i hi), hO.s i hi h120]⟩⟩
    unfold rickyardlaw25_DirElder.s1
    simp only [decide_eq_true c1.2, if_true, if_pos c1, ix_nat hj]
    rw [e1]
    simp only [Option.bind_some, Bool.not_true, Bool.false_eq_true, if_false, w3]
  · rintro s ⟨k, d, a, L, rfl, hD, hO⟩
    exact ⟨_, by unfold rickyardlaw25_DirElder.s1; rw [decide_eq_false (show ¬ ((l.length : Int) < (l.length : Int)) by omega), if_neg (by decide)], k, d, a, L, rfl, hD.up (by omega), hO⟩
theorem w_Wl {n : Nat} {B : Int} {M : Nat} {d : Dev} {a : AA} {k : Nat} {L : List Ls} (h : DS n B M d a k L) {j : Nat} (hj : (j : Int) ∈ Wl k L) : a.w j = true := by
  rw [h.w j]
  unfold Wl at hj
  simp only [List.mem_cons, List.mem_append] at hj
  by_cases q : k = 0
  · rw [if_pos q] at hj
    rcases hj with g | g | g | g
    · exact .inl (by omega)
    · exact .inr (.inl (by omega))
    · simp at g
    · exact .inr (.inr (.inr g))
  · rw [if_neg q, List.mem_singleton] at hj
    rcases hj with g | g | g | g
    · exact .inl (by omega)
    · exact .inr (.inl (by omega))
    · exact .inr (.inr (.inl ⟨q, by omega⟩))
    · exact .inr (.inr (.inr g))
theorem elder_read {B B' : Int} {M M' : Nat} {d d0 : Dev} {a0 a : AA} {k0 k : Nat} {L0 L : List Ls} (h0 : DS 120 B M d0 a0 k0 L0) (h : DS 120 B' M' d a k L) (hO : Old d d0 a k0 L0) : readP (readD d) (k0 : Int) = (L0, 0) := by
  unfold readP
  rcases h0.dir with ⟨rfl, rfl⟩ | ⟨h1, h2, h3⟩
  · rfl
  · have hk := h0.kn h1
    obtain ⟨g1, g2⟩ := dirB_get (h0.ok h2)
    have hkW : (k0 : Int) ∈ Wl k0 L0 := by
      unfold Wl
      rw [if_neg h1]
      simp
    rw [if_neg (by omega), readD_ln h.so hk.2, hO.s k0 hkW hk.2, h3, if_neg (by simp), if_pos g1, g2]
    refine rdL_ok L0 [] h0.so' fun x hx => ?_
    obtain ⟨j, e1, e2, e3, e4, e5⟩ := h0.q x hx
    have hjW : (j : Int) ∈ Wl k0 L0 := by
      unfold Wl
      refine List.mem_cons_of_mem _ (List.mem_cons_of_mem _ (List.mem_append.2 (.inr ?_)))
      rw [← e1]
      exact List.mem_map_of_mem hx
    rw [e1, readD_ln h.so e2, hO.s j hjW e2, e3]
    exact ⟨rfl, e4, e5⟩
theorem DirElder : ∀ (a0 : List S_rickyardlaw25_Act), okv 9 (⟨.sl (.st .S_rickyardlaw25_Act), a0⟩ : PV G.toSg) → ∀ (a1 : List S_rickyardlaw25_Act), okv 9 (⟨.sl (.st .S_rickyardlaw25_Act), a1⟩ : PV G.toSg) → ∃ fu, rickyardlaw25_DirElder.f fu a0 a1 = some true := by
  intro l h0 l2 h02
  refine ⟨FU, ?_⟩
  obtain ⟨b, hb, hb2⟩ := small_ok (fu := FU) (m := 15) (acts := l) (by decide) (by decide)
  have hb' : rickyardlaw25_small.f FU l 15 = some b := hb
  obtain ⟨c, hc, hc2⟩ := small_ok (fu := FU) (m := 15) (acts := l2) (by decide) (by decide)
  have hc' : rickyardlaw25_small.f FU l2 15 = some c := hc
  have hm : rickyardlaw19_Made.f FU 120 0 = some (some (SO 120 (newD (8 * 120)) (A0 120 0)), some (newD (8 * 120)), some ((A0 120 0).of 120)) := made_eq (fu := FU) (n := 120) (r := 0) (by decide) (by decide) (by decide)
  unfold rickyardlaw25_DirElder.f
  rw [awake25]
  simp only [Option.bind_some, Bool.not_true, Bool.false_eq_true, if_false]
  rw [hb']
  simp only [Option.bind_some]
  cases b with
  | false => rfl
  | true =>
    simp only [Bool.not_true, Bool.false_eq_true, if_false]
    rw [hc']
    simp only [Option.bind_some]
    cases c with
    | false => rfl
    | true =>
      obtain ⟨h1, h2⟩ := hb2 rfl
      obtain ⟨h3, h4⟩ := hc2 rfl
      simp only [Bool.not_true, Bool.false_eq_true, if_false]
      rw [hm]
      simp only [Option.bind_some, Option.elim]
      obtain ⟨e, g1, k, d, a, L, rfl, hD⟩ := ahead_loop h1 h2 (okA_of h0)
      have g1' : loopM (rickyardlaw25_DirElder.s0 FU l) FU (0, [], 0, (⟨newD (8 * 120), (A0 120 0).of 120⟩ : S_shadow_Store)) = some (Sum.inr ((k : Int), qsOf L, SO 120 d a)) := g1
      rw [g1']
      simp only [Option.bind_some]
      have hmk : alloc_Alloc_Mark.f FU (SO 120 d a).blocks = some (a.mark.of 120) := mark_eq (by decide) (by decide) hD.so.al
      rw [hmk]
      simp only [Option.bind_some]
      have hD1 := hD.mark (by omega)
      obtain ⟨e2, g2, k2, d2, a2, L2, rfl, hD2, hO⟩ := behind_loop h3 h4 (okA_of h02) hD1 ⟨fun j hj => w_Wl hD hj, fun _ _ _ => rfl⟩
      have g2' : loopM (rickyardlaw25_DirElder.s1 FU l2) FU ((k : Int), qsOf L, 0, (⟨(SO 120 d a).device, a.mark.of 120⟩ : S_shadow_Store)) = some (Sum.inr (SO 120 d2 a2)) := g2
      rw [g2']
      simp only [Option.bind_some]
      have hL := hD.toMS.len
      have hls : dir_List.f FU (SO 120 d2 a2) (k : Int) = some (qsOf L, 0) := list_eq' (by decide) hD2.so.dev (by decide) (elder_read hD1 hD2 hO) (by omega)
      rw [hls]
      simp only [Option.bind_some, decide_true, if_true]
      rw [same_eq (by rw [qsOf_len]; omega) (by decide)]
      rfl
end Go.Proofs.YtdifnahlheogdaaGreatDoor.Pure
namespace Go.Proofs.YtdifnahlheogdaaGreatDoor.dirElder
open Go.ChangeShapes Go.WideShapes Go.ChangeAt Go.RowKit
open Go.ChangeMaps (open_string shut_string)
open Go Go.Xw Go.Yw
theorem own : ownKnob Tryz.prog.godebug = none := Facts.own
theorem laidOut : laidOutB Tryz.prog = true := Facts.laid
theorem closed : joinedFacts Tryz.pinned.checked.prog 4 Tryz.f4 Rows.dirElderSpec Rows.dirElderRow = true := by
  unfold joinedFacts
  rw [Facts.enter, Facts.lifts, Facts.make, Facts.laid, Facts.rowed, Facts.plain, Facts.heard]
  kernel_rfl
set_option maxRecDepth 100000 in
set_option maxHeartbeats 1000000 in
theorem lifted (os : Os) (started : os.Started) (H : Type) (enc : TypeId × Value → H) :
    ReturnsInHanded {} Tryz.checked os 4 .any (fun w args => (Rows.dirElderSpec.pre enc Tryz.prog Tryz.f4 [] false w args ∧ laidMetH Tryz.prog Laid.L0 w) ∧ sizedMet enc Tryz.prog Tryz.f4 (OpenSpec.ofChange Rows.dirElderSpec) false w args) (Rows.dirElderSpec.post enc Tryz.prog Tryz.f4 false true false false) := by
  refine returnsInHanded_of_change_and (C := Tryz.checked) (X := fun w _ => laidMetH Tryz.prog Laid.L0 w) (fun _ _ _ hh h => h.of_heap hh) own started (by kernel_rfl) Tryz.func4
    (ChangeSpec.witness_shaped (enc := enc) (C := Tryz.checked) (os := os) (X := fun w _ => laidMetH Tryz.prog Laid.L0 w) false (World.doorLaid Tryz.prog 400 os) #[.slice none 0 0, .slice none 0 0] 8 rfl (World.shaped_of_RefB (by kernel_rfl) (by kernel_rfl)) (by kernel_rfl) (by kernel_rfl) (by kernel_rfl) (Laid.met os _)) ?_
  intro W base args ds gs before hval0 hW _ _ hL _
  have hval : ∀ (j : Nat) t v, Tryz.f4.params[j]? = some t → args[j]? = some v → Value.okWide Tryz.prog W .any base t v := hval0
  have hW' := hW
  obtain ⟨p, q, hA0, hV, rfl, hfz, hnd⟩ := hW
  have hA : DataW.TrodAll enc Tryz.prog W 0 (fun _ => true) true Tryz.f4.params.toList args.toList ds p := hA0
  rw [Tryz.params4] at hA hval
  obtain ⟨v0, vs0, d0, ds0, p0, q0, hargs, rfl, rfl, h0, r0⟩ := trodAll_cons hA
  obtain ⟨v1, vs1, d1, ds1, p1, q1, rfl, rfl, rfl, h1, r1⟩ := trodAll_cons r0
  obtain ⟨rfl, rfl, rfl⟩ := trodAll_nil r1
  obtain rfl : args = #[v0, v1] := by cases args; simp_all
  obtain ⟨rfl, rfl⟩ := trodVars_none hV
  have k0 := h0
  have lt0 : ∀ x ∈ p0, x.block < W.heap.size := by obtain ⟨m, hm⟩ := k0; exact DataW.trod_lt m _ _ _ hm
  obtain ⟨fu0, hf0⟩ := h0
  obtain ⟨a0, c0, o0⟩ := open_ok (Γ := G) gok full0 9 51 (.sl (.st SI.S_rickyardlaw25_Act)) (by kernel_rfl) enc _ _ _ _ _ _ hf0
  have w0 : VR (Γ := G) (fun _ => none) W (Low W) (.v (.sl (.st SI.S_rickyardlaw25_Act)) a0) v0 := arg_ok (P := Tryz.prog) (base := base) (n := 8) gok c0 (hval 0 51 v0 rfl rfl) (by kernel_rfl)
  have k1 := h1
  have lt1 : ∀ x ∈ p1, x.block < W.heap.size := by obtain ⟨m, hm⟩ := k1; exact DataW.trod_lt m _ _ _ hm
  obtain ⟨fu1, hf1⟩ := h1
  obtain ⟨a1, c1, o1⟩ := open_ok (Γ := G) gok full0 9 51 (.sl (.st SI.S_rickyardlaw25_Act)) (by kernel_rfl) enc _ _ _ _ _ _ hf1
  have w1 : VR (Γ := G) (fun _ => none) W (Low W) (.v (.sl (.st SI.S_rickyardlaw25_Act)) a1) v1 := arg_ok (P := Tryz.prog) (base := base) (n := 8) gok c1 (hval 1 51 v1 rfl rfl) (by kernel_rfl)
  obtain ⟨fu, hfu⟩ := Pure.DirElder a0 o0 a1 o1
  refine Calls.mono (law_ok (rickyardlaw25_DirElder.sc fu a0 a1 true hfu) (.cons w0 (.cons w1 .nil)) (Laid.gl hL)) fun e W' hr => ?_
  obtain ⟨v, rfl, rfl, gr⟩ := hr
  have bel := Fr.below gr
  exact ⟨_, rfl, _, _, _, [], _, [], hW', trodAll_mk1 (shut_bool Tryz.underlying4 _), (trodAll_cons_mk (Below.trod laidOut (by kernel_rfl) (of_decide_eq_true (by kernel_rfl)) k0 bel lt0) (trodAll_cons_mk (Below.trod laidOut (by kernel_rfl) (of_decide_eq_true (by kernel_rfl)) k1 bel lt1) trodAll_mk0)), rfl, bel.frame _, fun h => by cases h⟩
theorem over : Rows.dirElderRow.holds Tryz.pinned (OpenSpec.ofChange Rows.dirElderSpec) :=
  OpenClaim.holds_of_wide 4 Tryz.f4 rfl rfl rfl rfl rfl rfl rfl ⟨rfl, rfl, rfl, rfl, rfl⟩ rfl rfl rfl rfl rfl (by kernel_rfl) Tryz.func4 closed
    (of_decide_eq_true (by kernel_rfl)) (by unfold Func.isWrapper; first | (rw [if_pos (by decide +kernel)]; kernel_rfl) | (rw [if_neg (by decide +kernel)]; exact ⟨rfl, rfl⟩))
    (fun os started H enc _ => lifted os started H enc)
theorem card : Rows.DirElderCardSaid :=
  Claim7.holds_tied_plain_at .later [] [.data] true (true, "3490497729f6ac32662a439c723bf86548de1a2b70af1bdc62943a223396cb6b") false
    over (fun _ h => by cases h) (by kernel_rfl) (fun _ h => by cases h) dirElder_row_tie rfl ⟨rfl, rfl⟩ (by kernel_rfl) rfl
    (fun f fn hf hfn => by
      obtain rfl : f = 4 := Option.some.inj ((show Tryz.prog.funcNamed "rickyard/rickyardlaw25.DirElder" = some 4 by kernel_rfl).symm.trans hf) |>.symm
      obtain rfl : fn = Tryz.f4 := (Option.some.inj (Tryz.func4.symm.trans hfn)).symm
      exact ⟨by kernel_rfl, fun j t ht => by
        rw [Tryz.params4] at ht
        have hm : t ∈ [51, 51] := by simpa using Array.mem_of_getElem? ht
        have hall : ([51, 51].all fun u => !Tryz.prog.wantsStandIn u) = true := by kernel_rfl
        exact (show Tryz.prog.wantsStandIn t = false by simpa using List.all_eq_true.1 hall t hm)⟩)
    (by kernel_rfl)
end Go.Proofs.YtdifnahlheogdaaGreatDoor.dirElder
namespace Go.Proofs.YtdifnahlheogdaaGreatDoor
theorem dirElder_holds : Rows.DirElderCardSaid := dirElder.card
#print axioms dirElder_holds
end Go.Proofs.YtdifnahlheogdaaGreatDoor
