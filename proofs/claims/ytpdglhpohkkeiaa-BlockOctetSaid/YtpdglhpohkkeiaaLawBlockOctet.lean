/- The law BlockOctet holds for every input: the row, out of the walk of the law's function and of its pure statement. Written by rows.py. -/
import Derived.Test.YtpdglhpohkkeiaaFacts
import Derived.Test.YtpdglhpohkkeiaaFrickyardlaw07BlockOctet
import Derived.Test.YtpdglhpohkkeiaaOpen
import Derived.Test.YtpdglhpohkkeiaaPureBlockOctet
namespace Go.Proofs.Ytpdglhpohkkeiaa.blockOctet
open Go.ChangeShapes Go.WideShapes Go.ChangeAt Go.RowKit
open Go.ChangeMaps (open_string shut_string)
open Go Go.Xw
set_option linter.unusedVariables false
theorem own : ownKnob Try.prog.godebug = none := Facts.own
theorem laidOut : laidOutB Try.prog = true := Facts.laid
theorem closed : joinedFacts Try.pinned.checked.prog 8 Try.f8 Rows.blockOctetSpec Rows.blockOctetRow = true := by
  unfold joinedFacts
  rw [Facts.enter, Facts.lifts, Facts.make, Facts.laid, Facts.rowed, Facts.plain, Facts.heard]
  kernel_rfl
theorem enc_seg {α : Type} (K : Kd α) (a : α) : K.enc a = cellsOf [Kd.seg K a] := by simp [cellsOf, Kd.seg]
def start : Input := ⟨#[], #[.int .u8 0, .int .u8 0, .int .i64 0], []⟩
set_option maxRecDepth 100000 in
set_option maxHeartbeats 1000000 in
theorem lifted (os : Os) (started : os.Started) (H : Type) (enc : TypeId × Value → H) :
    ReturnsInHanded {} Try.checked os 8 .any (Rows.blockOctetSpec.pre6 enc Try.prog Try.f8 Rows.blockOctetRow.domain false) (Rows.blockOctetSpec.post enc Try.prog Try.f8 false true false false) := by
  refine returnsInHanded_of_change_sized (C := Try.checked) own started (by kernel_rfl) Try.func8
    (ChangeSpec.witness6 (enc := enc) (C := Try.checked) false start 8 (by kernel_rfl) (by kernel_rfl) (by kernel_rfl) (by kernel_rfl)) ?_
  intro W base args ds gs before hval0 hW hcnd hsz0 _
  have hval : ∀ (j : Nat) t v, Try.f8.params[j]? = some t → args[j]? = some v → Value.okWide Try.prog W .any base t v := hval0
  have hW' := hW
  obtain ⟨p, q, hA0, hV, rfl, hfz, hnd⟩ := hW
  have hA : DataW.TrodAll enc Try.prog W 0 (fun _ => true) true Try.f8.params.toList args.toList ds p := hA0
  rw [Try.params8] at hA hval
  obtain ⟨v0, vs0, d0, ds0, p0, q0, hargs, rfl, rfl, h0, r0⟩ := trodAll_cons hA
  obtain ⟨v1, vs1, d1, ds1, p1, q1, rfl, rfl, rfl, h1, r1⟩ := trodAll_cons r0
  obtain ⟨v2, vs2, d2, ds2, p2, q2, rfl, rfl, rfl, h2, r2⟩ := trodAll_cons r1
  obtain ⟨rfl, rfl, rfl⟩ := trodAll_nil r2
  obtain rfl : args = #[v0, v1, v2] := by cases args; simp_all
  obtain ⟨rfl, rfl⟩ := trodVars_none hV
  obtain ⟨a0, rfl, rfl, rfl, w0⟩ := open_int Try.underlying5 (hval 0 5 v0 rfl rfl) h0
  obtain ⟨a1, rfl, rfl, rfl, w1⟩ := open_int Try.underlying5 (hval 1 5 v1 rfl rfl) h1
  obtain ⟨a2, rfl, rfl, rfl, w2⟩ := open_int Try.underlying3 (hval 2 3 v2 rfl rfl) h2
  obtain ⟨fu, hfu⟩ := Pure.BlockOctet a0 a1 a2 w0 w1 w2
  refine Calls.mono (rickyardlaw07_BlockOctet.ok fu W a0 a1 a2 true hfu) fun e W' hr => ?_
  obtain ⟨v, rfl, rfl, gr⟩ := hr
  have bel := Fr.below gr
  exact ⟨_, rfl, _, _, _, [], _, [], hW', trodAll_mk1 (shut_bool Try.underlying4 _), (trodAll_cons_mk (shut_int Try.underlying5 w0) (trodAll_cons_mk (shut_int Try.underlying5 w1) (trodAll_cons_mk (shut_int Try.underlying3 w2) trodAll_mk0))), rfl, bel.frame _, fun h => by cases h⟩
theorem over : Rows.blockOctetRow.holds Try.pinned (OpenSpec.ofChange Rows.blockOctetSpec) :=
  OpenClaim.holds_of_wide 8 Try.f8 rfl rfl rfl rfl rfl rfl rfl ⟨rfl, rfl, rfl, rfl, rfl⟩ rfl rfl rfl rfl rfl (by kernel_rfl) Try.func8 closed
    (of_decide_eq_true (by kernel_rfl)) (by unfold Func.isWrapper; first | (rw [if_pos (by decide +kernel)]; kernel_rfl) | (rw [if_neg (by decide +kernel)]; exact ⟨rfl, rfl⟩))
    (fun os started H enc _ => lifted os started H enc)
theorem proved : Rows.BlockOctetSaid := over
end Go.Proofs.Ytpdglhpohkkeiaa.blockOctet
namespace Go.Proofs.Ytpdglhpohkkeiaa
/-- The law holds. -/
theorem blockOctet_holds : Rows.BlockOctetSaid := blockOctet.proved
#print axioms blockOctet_holds
end Go.Proofs.Ytpdglhpohkkeiaa
