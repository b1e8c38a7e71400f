/- RootCommits: texts merged, part 7 of 7. The last part proves that the law RootCommits holds for every input. -/
import Derived.Test.YtklhbaghbmndeaaPkRootCommits6
set_option maxRecDepth 100000
set_option maxHeartbeats 4000000
set_option linter.unusedVariables false
set_option linter.unusedSimpArgs false
namespace Go.Proofs.Ytklhbaghbmndeaa.rootCommits
open Go.ChangeShapes Go.WideShapes Go.ChangeAt Go.RowKit
open Go.ChangeMaps (open_string shut_string)
open Go Go.Xw
theorem own : ownKnob Try.prog.godebug = none := Facts.own
theorem laidOut : laidOutB Try.prog = true := Facts.laid
theorem closed : joinedFacts Try.pinned.checked.prog 21 Try.f21 Rows.rootCommitsSpec Rows.rootCommitsRow = true := by
  unfold joinedFacts
  rw [Facts.enter, Facts.lifts, Facts.make, Facts.laid, Facts.rowed, Facts.plain, Facts.heard]
  kernel_rfl
theorem enc_seg {α : Type} (K : Kd α) (a : α) : K.enc a = cellsOf [Kd.seg K a] := by simp [cellsOf, Kd.seg]
def start : Input := ⟨#[], #[.agg #[.int .i64 0, .int .i64 0, .int .i64 0, .int .i64 0, .int .i64 0, .int .i64 0, .int .i64 0, .int .i64 0, .slice none 0 0, .int .i64 0, .int .i64 0, .int .i64 0, .int .i64 0, .int .i64 0, .int .i64 0, .int .i64 0, .int .i64 0, .slice none 0 0, .int .i64 0, .int .i64 0, .int .i64 0, .int .i64 0, .int .i64 0, .int .i64 0, .int .i64 0, .int .i64 0, .slice none 0 0], .agg #[.int .u8 0, .slice none 0 0, .slice none 0 0]], []⟩
set_option maxRecDepth 100000 in
set_option maxHeartbeats 1000000 in
theorem lifted (os : Os) (started : os.Started) (H : Type) (enc : TypeId × Value → H) :
    ReturnsInHanded {} Try.checked os 21 .any (Rows.rootCommitsSpec.pre6 enc Try.prog Try.f21 Rows.rootCommitsRow.domain false) (Rows.rootCommitsSpec.post enc Try.prog Try.f21 false true false false) := by
  refine returnsInHanded_of_change_sized (C := Try.checked) own started (by kernel_rfl) Try.func21
    (ChangeSpec.witness6 (enc := enc) (C := Try.checked) false start 8 (by kernel_rfl) (by kernel_rfl) (by kernel_rfl) (by kernel_rfl)) ?_
  intro W base args ds gs before hval0 hW hcnd hsz0 _
  have hval : ∀ (j : Nat) t v, Try.f21.params[j]? = some t → args[j]? = some v → Value.okWide Try.prog W .any base t v := hval0
  have hW' := hW
  obtain ⟨p, q, hA0, hV, rfl, hfz, hnd⟩ := hW
  have hA : DataW.TrodAll enc Try.prog W 0 (fun _ => true) true Try.f21.params.toList args.toList ds p := hA0
  rw [Try.params21] at hA hval
  obtain ⟨v0, vs0, d0, ds0, p0, q0, hargs, rfl, rfl, h0, r0⟩ := trodAll_cons hA
  obtain ⟨v1, vs1, d1, ds1, p1, q1, rfl, rfl, rfl, h1, r1⟩ := trodAll_cons r0
  obtain ⟨rfl, rfl, rfl⟩ := trodAll_nil r1
  obtain rfl : args = #[v0, v1] := by cases args; simp_all
  obtain ⟨rfl, rfl⟩ := trodVars_none hV
  have k0 := h0
  have lt0 : ∀ x ∈ p0, x.block < W.heap.size := by obtain ⟨m, hm⟩ := k0; exact DataW.trod_lt m _ _ _ hm
  obtain ⟨fu0, hf0⟩ := h0
  obtain ⟨C0, a0, E0, e0, o0⟩ := (opn_arrN (n := 9) (D := D_api_Super) (ok := ok_api_Super) (w := W) Try.underlying127 (by kernel_rfl) (by kernel_rfl) (by decide) (fun enc base sp held fuel cs x h => by obtain ⟨a, V0, R0, e, o⟩ := opn_api_Super enc base sp held fuel cs x h; exact ⟨a, ⟨V0, R0, e⟩, o, by rw [e, len_cellsOf]; rfl, by rw [e]; exact one_cellsOf _⟩)) enc _ _ _ _ _ _ hf0
  obtain rfl := agg_of (by kernel_rfl) (hval 0 127 v0 rfl rfl) e0
  have k1 := h1
  have lt1 : ∀ x ∈ p1, x.block < W.heap.size := by obtain ⟨m, hm⟩ := k1; exact DataW.trod_lt m _ _ _ hm
  obtain ⟨fu1, hf1⟩ := h1
  obtain ⟨a1, V1_0, V1_1, R1_0, R1_1, e1, o1⟩ := opn_rickyardlaw16_Cut enc _ _ _ _ _ _ hf1
  obtain rfl := agg_of (by kernel_rfl) (hval 1 129 v1 rfl rfl) e1
  obtain ⟨fu, hfu⟩ := Pure.RootCommits a0 a1 o0 o1
  refine Calls.mono (rickyardlaw16_RootCommits.ok fu W a0 _ E0 a1 _ R1_0 _ R1_1 true hfu) fun e W' hr => ?_
  obtain ⟨v, rfl, rfl, gr⟩ := hr
  have bel := Fr.below gr
  exact ⟨_, rfl, _, _, _, [], _, [], hW', trodAll_mk1 (shut_bool Try.underlying4 _), (trodAll_cons_mk (Below.trod laidOut (by kernel_rfl) (of_decide_eq_true (by kernel_rfl)) k0 bel lt0) (trodAll_cons_mk (Below.trod laidOut (by kernel_rfl) (of_decide_eq_true (by kernel_rfl)) k1 bel lt1) trodAll_mk0)), rfl, bel.frame _, fun h => by cases h⟩
theorem over : Rows.rootCommitsRow.holds Try.pinned (OpenSpec.ofChange Rows.rootCommitsSpec) :=
  OpenClaim.holds_of_wide 21 Try.f21 rfl rfl rfl rfl rfl rfl rfl ⟨rfl, rfl, rfl, rfl, rfl⟩ rfl rfl rfl rfl rfl (by kernel_rfl) Try.func21 closed
    (of_decide_eq_true (by kernel_rfl)) (by unfold Func.isWrapper; first | (rw [if_pos (by decide +kernel)]; kernel_rfl) | (rw [if_neg (by decide +kernel)]; exact ⟨rfl, rfl⟩))
    (fun os started H enc _ => lifted os started H enc)
theorem proved : Rows.RootCommitsSaid := over
end Go.Proofs.Ytklhbaghbmndeaa.rootCommits
namespace Go.Proofs.Ytklhbaghbmndeaa
theorem rootCommits_holds : Rows.RootCommitsSaid := rootCommits.proved
#print axioms rootCommits_holds
end Go.Proofs.Ytklhbaghbmndeaa
