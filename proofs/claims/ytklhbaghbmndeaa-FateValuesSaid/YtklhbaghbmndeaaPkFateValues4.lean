/- FateValues: texts merged, part 4 of 8. The last part proves that the law FateValues holds for every input. -/
import Derived.Test.YtklhbaghbmndeaaPkFateValues3
/- What the laws' arguments open into: written by rows.py. -/
set_option linter.unusedVariables false
set_option linter.unusedSimpArgs false
namespace Go.Proofs.Ytklhbaghbmndeaa
open Go Go.Xw
def ok_rickyardlaw05_Act (a : S_rickyardlaw05_Act) : Prop := (Lit.int .i64 a.Kind).wf = true ∧ (Lit.int .i64 a.At).wf = true ∧ (Lit.int .u64 a.W).wf = true ∧ ((∀ x ∈ a.L, (Lit.int .i64 x).wf = true) ∧ List.length a.L ≤ maxLen)
theorem opn_rickyardlaw05_Act {w : World} {H : Type} (enc : TypeId × Value → H) (base : Nat) (sp : Nat → Bool) (held : Bool) (fuel : Nat) (cs : List Value) (x : DataW H × List MemPlace) (h : DataW.trod enc Try.prog w base sp held fuel 39 cs = some x) : ∃ a : S_rickyardlaw05_Act, ∃ V0 : Value, ∃ R0 : Rd (kI .i64) w V0 a.L, cs = cellsOf [Seg.cell (.int .i64 a.Kind), Seg.cell (.int .i64 a.At), Seg.cell (.int .u64 a.W), Seg.cell V0 R0.one] ∧ ok_rickyardlaw05_Act a := by
  obtain ⟨hl, m, hf⟩ := trod_st Try.underlying39 h
  obtain ⟨y0, h0⟩ := hf 0 _ rfl
  have c0 : Try.prog.cellsOf 3 = 1 := by kernel_rfl
  obtain ⟨b0, e0, o0⟩ := (opn_int Try.underlying3) enc base sp held m _ y0 h0
  have e0 : (cs.drop 0).take 1 = (kI .i64).enc b0 := (congrArg (fun n => (cs.drop 0).take n) c0).symm.trans e0
  obtain ⟨y1, h1⟩ := hf 1 _ rfl
  have c1 : Try.prog.cellsOf 3 = 1 := by kernel_rfl
  obtain ⟨b1, e1, o1⟩ := (opn_int Try.underlying3) enc base sp held m _ y1 h1
  have e1 : (cs.drop 1).take 1 = (kI .i64).enc b1 := (congrArg (fun n => (cs.drop 1).take n) c1).symm.trans e1
  obtain ⟨y2, h2⟩ := hf 2 _ rfl
  have c2 : Try.prog.cellsOf 22 = 1 := by kernel_rfl
  obtain ⟨b2, e2, o2⟩ := (opn_int Try.underlying22) enc base sp held m _ y2 h2
  have e2 : (cs.drop 2).take 1 = (kI .u64).enc b2 := (congrArg (fun n => (cs.drop 2).take n) c2).symm.trans e2
  obtain ⟨y3, h3⟩ := hf 3 _ rfl
  have c3 : Try.prog.cellsOf 25 = 1 := by kernel_rfl
  obtain ⟨b3, W3, e3, r3, o3, l3, _⟩ := (opn_slice (K := (kI .i64)) Try.underlying25 (by kernel_rfl) (by decide) (opn_int Try.underlying3)) enc base sp held m _ y3 h3
  have e3 : (cs.drop 3).take 1 = [W3] := (congrArg (fun n => (cs.drop 3).take n) c3).symm.trans e3
  have hn : cs.drop 4 = [] := List.drop_eq_nil_of_le (by rw [hl]; exact Nat.le_of_eq (by kernel_rfl))
  have hc : cs = (kI .i64).enc b0 ++ ((kI .i64).enc b1 ++ ((kI .u64).enc b2 ++ ([W3] ++ []))) := (fld_cons (o := 0) (n := 1) e0 (fld_cons (o := 1) (n := 1) e1 (fld_cons (o := 2) (n := 1) e2 (fld_cons (o := 3) (n := 1) e3 hn))))
  refine ⟨⟨b0, b1, b2, b3⟩, W3, r3, ?_, o0, o1, o2, ⟨o3, l3⟩⟩
  rw [hc]
  simp [kA, kI, kB, kS, kT, cellsOf, Seg.cell, Kd.seg]
def ok_rickyardlaw05_Fenced (a : S_rickyardlaw05_Fenced) : Prop := (Lit.int .i64 a.Line).wf = true ∧ (∀ x ∈ a.Ws.l, (Lit.int .u64 x).wf = true) ∧ ((∀ x ∈ a.Acts, ok_rickyardlaw05_Act x) ∧ List.length a.Acts ≤ maxLen) ∧ ((∀ x ∈ a.L, (Lit.int .i64 x).wf = true) ∧ List.length a.L ≤ maxLen)
theorem opn_rickyardlaw05_Fenced {w : World} {H : Type} (enc : TypeId × Value → H) (base : Nat) (sp : Nat → Bool) (held : Bool) (fuel : Nat) (cs : List Value) (x : DataW H × List MemPlace) (h : DataW.trod enc Try.prog w base sp held fuel 27 cs = some x) : ∃ a : S_rickyardlaw05_Fenced, ∃ V0 : Value, ∃ V1 : Value, ∃ R0 : RdN 4 D_rickyardlaw05_Act w V0 a.Acts, ∃ R1 : Rd (kI .i64) w V1 a.L, cs = cellsOf [Seg.cell (.int .i64 a.Line), Kd.seg (kA 8 (kI .u64)) a.Ws, Seg.cell V0 R0.one, Seg.cell V1 R1.one] ∧ ok_rickyardlaw05_Fenced a := by
  obtain ⟨hl, m, hf⟩ := trod_st Try.underlying27 h
  obtain ⟨y0, h0⟩ := hf 0 _ rfl
  have c0 : Try.prog.cellsOf 3 = 1 := by kernel_rfl
  obtain ⟨b0, e0, o0⟩ := (opn_int Try.underlying3) enc base sp held m _ y0 h0
  have e0 : (cs.drop 0).take 1 = (kI .i64).enc b0 := (congrArg (fun n => (cs.drop 0).take n) c0).symm.trans e0
  obtain ⟨y1, h1⟩ := hf 1 _ rfl
  have c1 : Try.prog.cellsOf 23 = 8 := by kernel_rfl
  obtain ⟨b1, e1, o1⟩ := (opn_arr Try.underlying23 (by kernel_rfl) (by kernel_rfl) (opn_int Try.underlying22)) enc base sp held m _ y1 h1
  have e1 : (cs.drop 1).take 8 = (kA 8 (kI .u64)).enc b1 := (congrArg (fun n => (cs.drop 1).take n) c1).symm.trans e1
  obtain ⟨y2, h2⟩ := hf 2 _ rfl
  have c2 : Try.prog.cellsOf 24 = 1 := by kernel_rfl
  obtain ⟨b2, W2, e2, r2, o2, l2, _⟩ := (opn_sliceN (n := 4) (D := D_rickyardlaw05_Act) (ok := ok_rickyardlaw05_Act) (w := w) Try.underlying24 (by kernel_rfl) (by decide) (fun enc base sp held fuel cs x h => by obtain ⟨a, V0, R0, e, o⟩ := opn_rickyardlaw05_Act enc base sp held fuel cs x h; exact ⟨a, ⟨V0, R0, e⟩, o, by rw [e, len_cellsOf]; rfl, by rw [e]; exact one_cellsOf _⟩)) enc base sp held m _ y2 h2
  have e2 : (cs.drop 9).take 1 = [W2] := (congrArg (fun n => (cs.drop 9).take n) c2).symm.trans e2
  obtain ⟨y3, h3⟩ := hf 3 _ rfl
  have c3 : Try.prog.cellsOf 25 = 1 := by kernel_rfl
  obtain ⟨b3, W3, e3, r3, o3, l3, _⟩ := (opn_slice (K := (kI .i64)) Try.underlying25 (by kernel_rfl) (by decide) (opn_int Try.underlying3)) enc base sp held m _ y3 h3
  have e3 : (cs.drop 10).take 1 = [W3] := (congrArg (fun n => (cs.drop 10).take n) c3).symm.trans e3
  have hn : cs.drop 11 = [] := List.drop_eq_nil_of_le (by rw [hl]; exact Nat.le_of_eq (by kernel_rfl))
  have hc : cs = (kI .i64).enc b0 ++ ((kA 8 (kI .u64)).enc b1 ++ ([W2] ++ ([W3] ++ []))) := (fld_cons (o := 0) (n := 1) e0 (fld_cons (o := 1) (n := 8) e1 (fld_cons (o := 9) (n := 1) e2 (fld_cons (o := 10) (n := 1) e3 hn))))
  refine ⟨⟨b0, b1, b2, b3⟩, W2, W3, r2, r3, ?_, o0, o1, ⟨o2, l2⟩, ⟨o3, l3⟩⟩
  rw [hc]
  simp [kA, kI, kB, kS, kT, cellsOf, Seg.cell, Kd.seg]
def ok_api_Fate (a : S_api_Fate) : Prop := (Lit.int .i64 a.At).wf = true ∧ (Lit.int .u64 a.Lasts).wf = true ∧ True ∧ (Lit.int .u64 a.Sent).wf = true ∧ (Lit.int .u64 a.Stored).wf = true
theorem opn_api_Fate {w : World} : Opn Try.prog w 55 k_api_Fate ok_api_Fate := by
  intro H enc base sp held fuel cs x h
  obtain ⟨hl, m, hf⟩ := trod_st Try.underlying55 h
  obtain ⟨y0, h0⟩ := hf 0 _ rfl
  have c0 : Try.prog.cellsOf 3 = 1 := by kernel_rfl
  obtain ⟨b0, e0, o0⟩ := (opn_int Try.underlying3) enc base sp held m _ y0 h0
  have e0 : (cs.drop 0).take 1 = (kI .i64).enc b0 := (congrArg (fun n => (cs.drop 0).take n) c0).symm.trans e0
  obtain ⟨y1, h1⟩ := hf 1 _ rfl
  have c1 : Try.prog.cellsOf 22 = 1 := by kernel_rfl
  obtain ⟨b1, e1, o1⟩ := (opn_int Try.underlying22) enc base sp held m _ y1 h1
  have e1 : (cs.drop 1).take 1 = (kI .u64).enc b1 := (congrArg (fun n => (cs.drop 1).take n) c1).symm.trans e1
  obtain ⟨y2, h2⟩ := hf 2 _ rfl
  have c2 : Try.prog.cellsOf 4 = 1 := by kernel_rfl
  obtain ⟨b2, e2, o2⟩ := (opn_bool Try.underlying4) enc base sp held m _ y2 h2
  have e2 : (cs.drop 2).take 1 = kB.enc b2 := (congrArg (fun n => (cs.drop 2).take n) c2).symm.trans e2
  obtain ⟨y3, h3⟩ := hf 3 _ rfl
  have c3 : Try.prog.cellsOf 22 = 1 := by kernel_rfl
  obtain ⟨b3, e3, o3⟩ := (opn_int Try.underlying22) enc base sp held m _ y3 h3
  have e3 : (cs.drop 3).take 1 = (kI .u64).enc b3 := (congrArg (fun n => (cs.drop 3).take n) c3).symm.trans e3
  obtain ⟨y4, h4⟩ := hf 4 _ rfl
  have c4 : Try.prog.cellsOf 22 = 1 := by kernel_rfl
  obtain ⟨b4, e4, o4⟩ := (opn_int Try.underlying22) enc base sp held m _ y4 h4
  have e4 : (cs.drop 4).take 1 = (kI .u64).enc b4 := (congrArg (fun n => (cs.drop 4).take n) c4).symm.trans e4
  have hn : cs.drop 5 = [] := List.drop_eq_nil_of_le (by rw [hl]; exact Nat.le_of_eq (by kernel_rfl))
  have hc : cs = (kI .i64).enc b0 ++ ((kI .u64).enc b1 ++ (kB.enc b2 ++ ((kI .u64).enc b3 ++ ((kI .u64).enc b4 ++ [])))) := (fld_cons (o := 0) (n := 1) e0 (fld_cons (o := 1) (n := 1) e1 (fld_cons (o := 2) (n := 1) e2 (fld_cons (o := 3) (n := 1) e3 (fld_cons (o := 4) (n := 1) e4 hn)))))
  refine ⟨⟨b0, b1, b2, b3, b4⟩, ?_, o0, o1, o2, o3, o4⟩
  rw [hc]
  simp [kA, kI, kB, kS, kT, cellsOf, Seg.cell, Kd.seg, k_api_Fate, segs_api_Fate]
def ok_api_Geometry (a : S_api_Geometry) : Prop := (Lit.int .i64 a.Blocks).wf = true ∧ (Lit.int .i64 a.Slots).wf = true ∧ (Lit.int .i64 a.Gens).wf = true
theorem opn_api_Geometry {w : World} : Opn Try.prog w 106 k_api_Geometry ok_api_Geometry := by
  intro H enc base sp held fuel cs x h
  obtain ⟨hl, m, hf⟩ := trod_st Try.underlying106 h
  obtain ⟨y0, h0⟩ := hf 0 _ rfl
  have c0 : Try.prog.cellsOf 3 = 1 := by kernel_rfl
  obtain ⟨b0, e0, o0⟩ := (opn_int Try.underlying3) enc base sp held m _ y0 h0
  have e0 : (cs.drop 0).take 1 = (kI .i64).enc b0 := (congrArg (fun n => (cs.drop 0).take n) c0).symm.trans e0
  obtain ⟨y1, h1⟩ := hf 1 _ rfl
  have c1 : Try.prog.cellsOf 3 = 1 := by kernel_rfl
  obtain ⟨b1, e1, o1⟩ := (opn_int Try.underlying3) enc base sp held m _ y1 h1
  have e1 : (cs.drop 1).take 1 = (kI .i64).enc b1 := (congrArg (fun n => (cs.drop 1).take n) c1).symm.trans e1
  obtain ⟨y2, h2⟩ := hf 2 _ rfl
  have c2 : Try.prog.cellsOf 3 = 1 := by kernel_rfl
  obtain ⟨b2, e2, o2⟩ := (opn_int Try.underlying3) enc base sp held m _ y2 h2
  have e2 : (cs.drop 2).take 1 = (kI .i64).enc b2 := (congrArg (fun n => (cs.drop 2).take n) c2).symm.trans e2
  have hn : cs.drop 3 = [] := List.drop_eq_nil_of_le (by rw [hl]; exact Nat.le_of_eq (by kernel_rfl))
  have hc : cs = (kI .i64).enc b0 ++ ((kI .i64).enc b1 ++ ((kI .i64).enc b2 ++ [])) := (fld_cons (o := 0) (n := 1) e0 (fld_cons (o := 1) (n := 1) e1 (fld_cons (o := 2) (n := 1) e2 hn)))
  refine ⟨⟨b0, b1, b2⟩, ?_, o0, o1, o2⟩
  rw [hc]
  simp [kA, kI, kB, kS, kT, cellsOf, Seg.cell, Kd.seg, k_api_Fate, k_api_Geometry, k_api_Tickets, segs_api_Fate, segs_api_Geometry, segs_api_Tickets]
def ok_api_Tickets (a : S_api_Tickets) : Prop := ok_api_Geometry a.Geometry ∧ (Lit.int .i64 a.Top).wf = true ∧ (Lit.int .i64 a.High).wf = true ∧ (Lit.int .i64 a.Free).wf = true
theorem opn_api_Tickets {w : World} : Opn Try.prog w 108 k_api_Tickets ok_api_Tickets := by
  intro H enc base sp held fuel cs x h
  obtain ⟨hl, m, hf⟩ := trod_st Try.underlying108 h
  obtain ⟨y0, h0⟩ := hf 0 _ rfl
  have c0 : Try.prog.cellsOf 106 = 3 := by kernel_rfl
  obtain ⟨b0, e0, o0⟩ := (opn_api_Geometry (w := w)) enc base sp held m _ y0 h0
  have e0 : (cs.drop 0).take 3 = k_api_Geometry.enc b0 := (congrArg (fun n => (cs.drop 0).take n) c0).symm.trans e0
  obtain ⟨y1, h1⟩ := hf 1 _ rfl
  have c1 : Try.prog.cellsOf 3 = 1 := by kernel_rfl
  obtain ⟨b1, e1, o1⟩ := (opn_int Try.underlying3) enc base sp held m _ y1 h1
  have e1 : (cs.drop 3).take 1 = (kI .i64).enc b1 := (congrArg (fun n => (cs.drop 3).take n) c1).symm.trans e1
  obtain ⟨y2, h2⟩ := hf 2 _ rfl
  have c2 : Try.prog.cellsOf 3 = 1 := by kernel_rfl
  obtain ⟨b2, e2, o2⟩ := (opn_int Try.underlying3) enc base sp held m _ y2 h2
  have e2 : (cs.drop 4).take 1 = (kI .i64).enc b2 := (congrArg (fun n => (cs.drop 4).take n) c2).symm.trans e2
  obtain ⟨y3, h3⟩ := hf 3 _ rfl
  have c3 : Try.prog.cellsOf 3 = 1 := by kernel_rfl
  obtain ⟨b3, e3, o3⟩ := (opn_int Try.underlying3) enc base sp held m _ y3 h3
  have e3 : (cs.drop 5).take 1 = (kI .i64).enc b3 := (congrArg (fun n => (cs.drop 5).take n) c3).symm.trans e3
  have hn : cs.drop 6 = [] := List.drop_eq_nil_of_le (by rw [hl]; exact Nat.le_of_eq (by kernel_rfl))
  have hc : cs = k_api_Geometry.enc b0 ++ ((kI .i64).enc b1 ++ ((kI .i64).enc b2 ++ ((kI .i64).enc b3 ++ []))) := (fld_cons (o := 0) (n := 3) e0 (fld_cons (o := 3) (n := 1) e1 (fld_cons (o := 4) (n := 1) e2 (fld_cons (o := 5) (n := 1) e3 hn))))
  refine ⟨⟨b0, b1, b2, b3⟩, ?_, o0, o1, o2, o3⟩
  rw [hc]
  simp [kA, kI, kB, kS, kT, cellsOf, Seg.cell, Kd.seg, k_api_Fate, k_api_Geometry, k_api_Tickets, segs_api_Fate, segs_api_Geometry, segs_api_Tickets]
def ok_api_Super (a : S_api_Super) : Prop := (Lit.int .i64 a.Epoch).wf = true ∧ ok_api_Tickets a.Tickets ∧ (Lit.int .i64 a.Dir).wf = true ∧ ((∀ x ∈ a.Charts, (Lit.int .i64 x).wf = true) ∧ List.length a.Charts ≤ maxLen)
theorem opn_api_Super {w : World} {H : Type} (enc : TypeId × Value → H) (base : Nat) (sp : Nat → Bool) (held : Bool) (fuel : Nat) (cs : List Value) (x : DataW H × List MemPlace) (h : DataW.trod enc Try.prog w base sp held fuel 110 cs = some x) : ∃ a : S_api_Super, ∃ V0 : Value, ∃ R0 : Rd (kI .i64) w V0 a.Charts, cs = cellsOf [Seg.cell (.int .i64 a.Epoch), Seg.cell (.int .i64 a.Tickets.Geometry.Blocks), Seg.cell (.int .i64 a.Tickets.Geometry.Slots), Seg.cell (.int .i64 a.Tickets.Geometry.Gens), Seg.cell (.int .i64 a.Tickets.Top), Seg.cell (.int .i64 a.Tickets.High), Seg.cell (.int .i64 a.Tickets.Free), Seg.cell (.int .i64 a.Dir), Seg.cell V0 R0.one] ∧ ok_api_Super a := by
  obtain ⟨hl, m, hf⟩ := trod_st Try.underlying110 h
  obtain ⟨y0, h0⟩ := hf 0 _ rfl
  have c0 : Try.prog.cellsOf 3 = 1 := by kernel_rfl
  obtain ⟨b0, e0, o0⟩ := (opn_int Try.underlying3) enc base sp held m _ y0 h0
  have e0 : (cs.drop 0).take 1 = (kI .i64).enc b0 := (congrArg (fun n => (cs.drop 0).take n) c0).symm.trans e0
  obtain ⟨y1, h1⟩ := hf 1 _ rfl
  have c1 : Try.prog.cellsOf 108 = 6 := by kernel_rfl
  obtain ⟨b1, e1, o1⟩ := (opn_api_Tickets (w := w)) enc base sp held m _ y1 h1
  have e1 : (cs.drop 1).take 6 = k_api_Tickets.enc b1 := (congrArg (fun n => (cs.drop 1).take n) c1).symm.trans e1
  obtain ⟨y2, h2⟩ := hf 2 _ rfl
  have c2 : Try.prog.cellsOf 3 = 1 := by kernel_rfl
  obtain ⟨b2, e2, o2⟩ := (opn_int Try.underlying3) enc base sp held m _ y2 h2
  have e2 : (cs.drop 7).take 1 = (kI .i64).enc b2 := (congrArg (fun n => (cs.drop 7).take n) c2).symm.trans e2
  obtain ⟨y3, h3⟩ := hf 3 _ rfl
  have c3 : Try.prog.cellsOf 25 = 1 := by kernel_rfl
  obtain ⟨b3, W3, e3, r3, o3, l3, _⟩ := (opn_slice (K := (kI .i64)) Try.underlying25 (by kernel_rfl) (by decide) (opn_int Try.underlying3)) enc base sp held m _ y3 h3
  have e3 : (cs.drop 8).take 1 = [W3] := (congrArg (fun n => (cs.drop 8).take n) c3).symm.trans e3
  have hn : cs.drop 9 = [] := List.drop_eq_nil_of_le (by rw [hl]; exact Nat.le_of_eq (by kernel_rfl))
  have hc : cs = (kI .i64).enc b0 ++ (k_api_Tickets.enc b1 ++ ((kI .i64).enc b2 ++ ([W3] ++ []))) := (fld_cons (o := 0) (n := 1) e0 (fld_cons (o := 1) (n := 6) e1 (fld_cons (o := 7) (n := 1) e2 (fld_cons (o := 8) (n := 1) e3 hn))))
  refine ⟨⟨b0, b1, b2, b3⟩, W3, r3, ?_, o0, o1, o2, ⟨o3, l3⟩⟩
  rw [hc]
  simp [kA, kI, kB, kS, kT, cellsOf, Seg.cell, Kd.seg, k_api_Fate, k_api_Geometry, k_api_Tickets, segs_api_Fate, segs_api_Geometry, segs_api_Tickets]
def ok_rickyardlaw16_Cut (a : S_rickyardlaw16_Cut) : Prop := (Lit.int .u8 a.Steps).wf = true ∧ ((∀ x ∈ a.Plan, (Lit.int .i64 x).wf = true) ∧ List.length a.Plan ≤ maxLen) ∧ ((∀ x ∈ a.L, (Lit.int .i64 x).wf = true) ∧ List.length a.L ≤ maxLen)
theorem opn_rickyardlaw16_Cut {w : World} {H : Type} (enc : TypeId × Value → H) (base : Nat) (sp : Nat → Bool) (held : Bool) (fuel : Nat) (cs : List Value) (x : DataW H × List MemPlace) (h : DataW.trod enc Try.prog w base sp held fuel 129 cs = some x) : ∃ a : S_rickyardlaw16_Cut, ∃ V0 : Value, ∃ V1 : Value, ∃ R0 : Rd (kI .i64) w V0 a.Plan, ∃ R1 : Rd (kI .i64) w V1 a.L, cs = cellsOf [Seg.cell (.int .u8 a.Steps), Seg.cell V0 R0.one, Seg.cell V1 R1.one] ∧ ok_rickyardlaw16_Cut a := by
  obtain ⟨hl, m, hf⟩ := trod_st Try.underlying129 h
  obtain ⟨y0, h0⟩ := hf 0 _ rfl
  have c0 : Try.prog.cellsOf 5 = 1 := by kernel_rfl
  obtain ⟨b0, e0, o0⟩ := (opn_int Try.underlying5) enc base sp held m _ y0 h0
  have e0 : (cs.drop 0).take 1 = (kI .u8).enc b0 := (congrArg (fun n => (cs.drop 0).take n) c0).symm.trans e0
  obtain ⟨y1, h1⟩ := hf 1 _ rfl
  have c1 : Try.prog.cellsOf 25 = 1 := by kernel_rfl
  obtain ⟨b1, W1, e1, r1, o1, l1, _⟩ := (opn_slice (K := (kI .i64)) Try.underlying25 (by kernel_rfl) (by decide) (opn_int Try.underlying3)) enc base sp held m _ y1 h1
  have e1 : (cs.drop 1).take 1 = [W1] := (congrArg (fun n => (cs.drop 1).take n) c1).symm.trans e1
  obtain ⟨y2, h2⟩ := hf 2 _ rfl
  have c2 : Try.prog.cellsOf 25 = 1 := by kernel_rfl
  obtain ⟨b2, W2, e2, r2, o2, l2, _⟩ := (opn_slice (K := (kI .i64)) Try.underlying25 (by kernel_rfl) (by decide) (opn_int Try.underlying3)) enc base sp held m _ y2 h2
  have e2 : (cs.drop 2).take 1 = [W2] := (congrArg (fun n => (cs.drop 2).take n) c2).symm.trans e2
  have hn : cs.drop 3 = [] := List.drop_eq_nil_of_le (by rw [hl]; exact Nat.le_of_eq (by kernel_rfl))
  have hc : cs = (kI .u8).enc b0 ++ ([W1] ++ ([W2] ++ [])) := (fld_cons (o := 0) (n := 1) e0 (fld_cons (o := 1) (n := 1) e1 (fld_cons (o := 2) (n := 1) e2 hn)))
  refine ⟨⟨b0, b1, b2⟩, W1, W2, r1, r2, ?_, o0, ⟨o1, l1⟩, ⟨o2, l2⟩⟩
  rw [hc]
  simp [kA, kI, kB, kS, kT, cellsOf, Seg.cell, Kd.seg, k_api_Fate, k_api_Geometry, k_api_Tickets, segs_api_Fate, segs_api_Geometry, segs_api_Tickets]
end Go.Proofs.Ytklhbaghbmndeaa

/- Rows turned one by one. -/
set_option linter.unusedVariables false
set_option linter.unusedSimpArgs false
namespace Go.Proofs.Ytklhbaghbmndeaa.Pure
open Go Go.Xw
/-- Of the places from `lo` on the first `j`, each turned by `g`. -/
def upd {α : Type} (g : Nat → α → α) (lo j : Nat) (cs : List α) : List α := cs.mapIdx fun i c => if lo ≤ i ∧ i < lo + j then g i c else c
theorem upd_len {α : Type} (g : Nat → α → α) (lo j : Nat) (cs : List α) : (upd g lo j cs).length = cs.length := by simp [upd]
theorem upd_zero {α : Type} (g : Nat → α → α) (lo : Nat) (cs : List α) : upd g lo 0 cs = cs := by
  apply List.ext_getElem (by simp [upd])
  intro i h1 h2
  simp only [upd, List.getElem_mapIdx]
  rw [if_neg (by omega)]
theorem upd_get {α : Type} (g : Nat → α → α) (lo j : Nat) (cs : List α) (i : Nat) (h : i < (upd g lo j cs).length) : (upd g lo j cs)[i] = if lo ≤ i ∧ i < lo + j then g i (cs[i]'(by simpa [upd] using h)) else cs[i]'(by simpa [upd] using h) := by
  simp only [upd, List.getElem_mapIdx]
theorem upd_next {α : Type} (g : Nat → α → α) (lo j : Nat) (cs : List α) (h : lo + j < cs.length) : (upd g lo j cs)[lo + j]'(by rw [upd_len]; exact h) = cs[lo + j] := by
  rw [upd_get, if_neg (by omega)]
theorem upd_set {α : Type} (g : Nat → α → α) (lo j : Nat) (cs : List α) (h : lo + j < cs.length) : (upd g lo j cs).set (lo + j) (g (lo + j) cs[lo + j]) = upd g lo (j + 1) cs := by
  apply List.ext_getElem (by simp [upd])
  intro i h1 h2
  rw [List.getElem_set, upd_get g lo (j + 1)]
  by_cases e : lo + j = i
  · subst e
    rw [if_pos rfl, if_pos (by omega)]
  · rw [if_neg e, upd_get]
    by_cases c : lo ≤ i ∧ i < lo + j
    · rw [if_pos c, if_pos (by omega)]
    · rw [if_neg c, if_neg (by omega)]
theorem upd_same {α : Type} (g : Nat → α → α) (lo j : Nat) (cs : List α) (h : lo + j < cs.length) (e : g (lo + j) cs[lo + j] = cs[lo + j]) : upd g lo j cs = upd g lo (j + 1) cs := by
  apply List.ext_getElem (by simp [upd])
  intro i h1 h2
  rw [upd_get g lo j, upd_get g lo (j + 1)]
  by_cases e' : lo + j = i
  · subst e'
    rw [if_neg (by omega), if_pos (by omega), e]
  · by_cases c : lo ≤ i ∧ i < lo + j
    · rw [if_pos c, if_pos (by omega)]
    · rw [if_neg c, if_neg (by omega)]
theorem upd_all {α : Type} (g : Nat → α → α) (cs : List α) : upd g 0 cs.length cs = cs.mapIdx g := by
  apply List.ext_getElem (by simp [upd])
  intro i h1 h2
  rw [upd_get, if_pos ⟨by omega, by rw [upd_len] at h1; omega⟩, List.getElem_mapIdx]
theorem getD_set {α : Type} (cs : List α) (i k : Nat) (v d : α) (hi : i < cs.length) : (cs.set i v).getD k d = if i = k then v else cs.getD k d := by
  simp only [List.getD_eq_getElem?_getD, List.getElem?_set]
  by_cases h : i = k
  · subst h
    simp [hi]
  · simp [h]
theorem getD_of {α : Type} (cs : List α) (i : Nat) (d : α) (hi : i < cs.length) : cs.getD i d = cs[i] := by
  simp [List.getD_eq_getElem?_getD, List.getElem?_eq_getElem hi]
end Go.Proofs.Ytklhbaghbmndeaa.Pure

/- rickyard/crc.step: its model, and that the Go function computes it: written by gen.py. -/
set_option linter.unusedVariables false
namespace Go.Proofs.Ytklhbaghbmndeaa
open Go Go.Xw
def crc_step.f (fu : Nat) (a0 : Int) : Option Int := (if (decide ((bAnd .u32 a0 1) = 1)) = true then some ((bXor .u32 (shR .u32 a0 1) 2197175160)) else some ((shR .u32 a0 1)))
set_option maxRecDepth 100000 in
set_option maxHeartbeats 400000 in
theorem crc_step.ok (fu : Nat) (w : World) (a0 : Int) (r : Int) (h : crc_step.f fu a0 = some r) :
    Calls Try.prog 156 (([.int .u32 a0] : List Value).toArray) w (fun e w' => ∃ v, e = .returned v ∧ v = .int .u32 r ∧ Gr w w') := by
  unfold crc_step.f at h
  have fB : Gr w w := Fr.refl _ _
  refine calls_cw Try.func156 rfl Try.ntmps156 rfl ?_
  refine cw_seq ?_
  refine cw_region ?_
  refine ol_val (v := .int .u32 0) (by exact xr_assign rfl rfl) rfl rfl rfl ?_
  refine ol_nil ?_
  refine cw_seq ?_
  refine cw_seq ?_
  refine cw_region ?_
  refine ol_val (v := .int .u32 a0) (by exact xr_move rfl rfl) rfl rfl rfl ?_
  refine ol_val (v := .int .u32 (bAnd .u32 a0 1)) (by exact xr_and rfl rfl rfl) rfl rfl rfl ?_
  refine ol_val (v := .bool (decide ((bAnd .u32 a0 1) = 1))) (by exact xr_eqI rfl Try.underlying191 rfl rfl rfl) rfl rfl rfl ?_
  refine ol_nil ?_
  rcases is h with ⟨c1, h⟩ | ⟨c1, h⟩
  · refine cw_condT rfl c1 ?_
    refine cw_seq ?_
    refine cw_region ?_
    refine ol_val (v := .int .u32 a0) (by exact xr_move rfl rfl) rfl rfl rfl ?_
    refine ol_val (v := .int .u32 (shR .u32 a0 1)) (by exact xr_shr rfl rfl rfl (by decide)) rfl rfl rfl ?_
    refine ol_val (v := .int .u32 (bXor .u32 (shR .u32 a0 1) 2197175160)) (by exact xr_xor rfl rfl rfl) rfl rfl rfl ?_
    refine ol_val (v := .int .u32 (bXor .u32 (shR .u32 a0 1) 2197175160)) (by exact xr_assign rfl rfl) rfl rfl rfl ?_
    refine ol_nil ?_
    refine cw_ret ?_
    repeat (first | with_reducible refine thn_r ?_ | with_reducible refine blk_r ?_)
    obtain rfl := Option.some.inj h
    refine fin_ret1 Try.results156 rfl ?_
    exact ⟨_, rfl, rfl, fB⟩
  · refine cw_condF rfl c1 ?_
    refine cw_skip ?_
    refine cw_seq ?_
    refine cw_region ?_
    refine ol_val (v := .int .u32 a0) (by exact xr_move rfl rfl) rfl rfl rfl ?_
    refine ol_val (v := .int .u32 (shR .u32 a0 1)) (by exact xr_shr rfl rfl rfl (by decide)) rfl rfl rfl ?_
    refine ol_val (v := .int .u32 (shR .u32 a0 1)) (by exact xr_assign rfl rfl) rfl rfl rfl ?_
    refine ol_nil ?_
    refine cw_ret ?_
    repeat (first | with_reducible refine thn_r ?_ | with_reducible refine blk_r ?_)
    obtain rfl := Option.some.inj h
    refine fin_ret1 Try.results156 rfl ?_
    exact ⟨_, rfl, rfl, fB⟩
end Go.Proofs.Ytklhbaghbmndeaa

/- rickyard/crc.Table: its model, and that the Go function computes it: written by gen.py. -/
set_option linter.unusedVariables false
namespace Go.Proofs.Ytklhbaghbmndeaa
open Go Go.Xw
def crc_Table.s3 (fu : Nat) : (Int × Int) → Option (Sum Int (Int × Int)) := fun s22 => (if (decide (s22.2 < 4)) = true then ((crc_step.f fu s22.1 : Option Int).bind fun t30 => some (Sum.inr (t30, (IntKind.i64.wrap (s22.2 + 1))))) else some (Sum.inl (s22.1)))
def crc_Table.s2 (fu : Nat) : (Int × (Arr 16 Int)) → Option (Sum (Arr 16 Int) (Int × (Arr 16 Int))) := fun s14 => (if (decide (s14.1 < 16)) = true then ((loopM (crc_Table.s3 fu) fu ((IntKind.u32.wrap s14.1), 0)).bind fun e23 => (if 0 ≤ s14.1 ∧ s14.1 < 16 then some (Sum.inr ((IntKind.i64.wrap (s14.1 + 1)), (Arr.set s14.2 s14.1 e23))) else none)) else some (Sum.inl (s14.2)))
def crc_Table.f (fu : Nat) : Option (Arr 16 Int) := ((loopM (crc_Table.s2 fu) fu (0, (Arr.rep 16 (0 : Int)))).bind fun e15 => some (e15))
set_option maxRecDepth 100000 in
set_option maxHeartbeats 400000 in
theorem crc_Table.ok (fu : Nat) (w : World)  (r : (Arr 16 Int)) (h : crc_Table.f fu = some r) :
    Calls Try.prog 154 (([] : List Value).toArray) w (fun e w' => ∃ v, e = .returned v ∧ v = aggV [Kd.seg (kA 16 (kI .u32)) r] ∧ Gr w w') := by
  unfold crc_Table.f at h
  have fB : Gr w w := Fr.refl _ _
  refine calls_cw Try.func154 rfl Try.ntmps154 rfl ?_
  refine cw_seq ?_
  refine cw_region ?_
  refine ol_op (by exact opv_alloc (ss := [Kd.seg (kA 16 (kI .u32)) (Arr.rep 16 (0 : Int))]) rfl ze205 rfl) rfl rfl rfl ?_
  rintro _ w6 ⟨G1, rfl, b2, q3, z4⟩
  have z4 := Nat.le_trans fB.size z4
  have fB := fB.gr q3
  refine ol_nil ?_
  refine cw_seq ?_
  refine cw_region ?_
  refine ol_op (by exact opv_alloc (ss := [Kd.seg (kA 16 (kI .u32)) (Arr.rep 16 (0 : Int))]) rfl ze205 rfl) rfl rfl rfl ?_
  rintro _ w12 ⟨G7, rfl, b8, q9, z10⟩
  have n13 := b2.ne z10
  have z10 := Nat.le_trans fB.size z10
  have b2 := b2.gr q9
  have fB := fB.gr q9
  refine ol_nil ?_
  refine cw_seq ?_
  refine cw_seq ?_
  refine cw_region ?_
  refine ol_val (v := .int .i64 0) (by exact xr_move rfl rfl) rfl rfl rfl ?_
  refine ol_nil ?_
  obtain ⟨e15, l16, h17⟩ := bs h
  refine cw_mid (fun ρ' w' => ρ' 0 = .pointer (some ⟨G1, 0, none⟩) ∧ ρ' 1 = .pointer (some ⟨G7, 0, none⟩) ∧ Blk w' G1 205 [Kd.seg (kA 16 (kI .u32)) (Arr.rep 16 (0 : Int))] ∧ Blk w' G7 205 [Kd.seg (kA 16 (kI .u32)) e15] ∧ Gr w w') ?_ ?_
  · refine cw_block ?_
    refine cw_round (fun (s14 : Int × (Arr 16 Int)) ρ' w' => ρ' 0 = .pointer (some ⟨G1, 0, none⟩) ∧ ρ' 1 = .pointer (some ⟨G7, 0, none⟩) ∧ ρ' 4 = .int .i64 s14.1 ∧ Blk w' G1 205 [Kd.seg (kA 16 (kI .u32)) (Arr.rep 16 (0 : Int))] ∧ Blk w' G7 205 [Kd.seg (kA 16 (kI .u32)) s14.2] ∧ Gr w w') l16 ?_ ?_
    · skip
      exact ⟨rfl, rfl, rfl, b2, b8, fB⟩
    · rintro s14 x20 ρ18 w19 ⟨e0, e1, e4, b2, b8, fB⟩ h
      unfold crc_Table.s2 at h
      refine cw_seq ?_
      refine cw_region ?_
      refine ol_val (v := .bool (decide (s14.1 < 16))) (by exact xr_lss rfl e4 rfl) rfl rfl rfl ?_
      refine ol_nil ?_
      refine cw_seq ?_
      rcases is h with ⟨c21, h⟩ | ⟨c21, h⟩
      · refine cw_condT rfl c21 ?_
        refine cw_skip ?_
        refine cw_seq ?_
        refine cw_block ?_
        refine cw_seq ?_
        refine cw_region ?_
        refine ol_val (v := .int .i64 s14.1) (by exact xr_move rfl e4) rfl rfl rfl ?_
        refine ol_val (v := .int .i64 s14.1) (by exact xr_assign rfl rfl) rfl rfl rfl ?_
        refine ol_nil ?_
        refine cw_seq ?_
        refine cw_region ?_
        refine ol_val (v := .int .i64 s14.1) (by exact xr_move rfl rfl) rfl rfl rfl ?_
        refine ol_val (v := .int .u32 (IntKind.u32.wrap s14.1)) (by exact xr_conv rfl Try.underlying3 Try.underlying191 rfl) rfl rfl rfl ?_
        refine ol_val (v := .int .u32 (IntKind.u32.wrap s14.1)) (by exact xr_assign rfl rfl) rfl rfl rfl ?_
        refine ol_nil ?_
        refine cw_seq ?_
        refine cw_seq ?_
        refine cw_region ?_
        refine ol_val (v := .int .i64 0) (by exact xr_move rfl rfl) rfl rfl rfl ?_
        refine ol_nil ?_
        obtain ⟨e23, l24, h25⟩ := bs h
        refine cw_mid (fun ρ' w' => ρ' 0 = .pointer (some ⟨G1, 0, none⟩) ∧ ρ' 1 = .pointer (some ⟨G7, 0, none⟩) ∧ ρ' 2 = .int .i64 s14.1 ∧ ρ' 3 = .int .u32 e23 ∧ ρ' 4 = .int .i64 s14.1 ∧ Blk w' G1 205 [Kd.seg (kA 16 (kI .u32)) (Arr.rep 16 (0 : Int))] ∧ Blk w' G7 205 [Kd.seg (kA 16 (kI .u32)) s14.2] ∧ Gr w w') ?_ ?_
        · refine cw_block ?_
          refine cw_round (fun (s22 : Int × Int) ρ' w' => ρ' 0 = .pointer (some ⟨G1, 0, none⟩) ∧ ρ' 1 = .pointer (some ⟨G7, 0, none⟩) ∧ ρ' 2 = .int .i64 s14.1 ∧ ρ' 3 = .int .u32 s22.1 ∧ ρ' 4 = .int .i64 s14.1 ∧ ρ' 9 = .int .i64 s22.2 ∧ Blk w' G1 205 [Kd.seg (kA 16 (kI .u32)) (Arr.rep 16 (0 : Int))] ∧ Blk w' G7 205 [Kd.seg (kA 16 (kI .u32)) s14.2] ∧ Gr w w') l24 ?_ ?_
          · skip
            exact ⟨e0, e1, rfl, rfl, e4, rfl, b2, b8, fB⟩
          · rintro s22 x28 ρ26 w27 ⟨e0, e1, e2, e3, e4, e9, b2, b8, fB⟩ h
            unfold crc_Table.s3 at h
            refine cw_seq ?_
            refine cw_region ?_
            refine ol_val (v := .bool (decide (s22.2 < 4))) (by exact xr_lss rfl e9 rfl) rfl rfl rfl ?_
            refine ol_nil ?_
            refine cw_seq ?_
            rcases is h with ⟨c29, h⟩ | ⟨c29, h⟩
            · refine cw_condT rfl c29 ?_
              refine cw_skip ?_
              refine cw_seq ?_
              refine cw_block ?_
              refine cw_region ?_
              refine ol_val (v := .int .u32 s22.1) (by exact xr_move rfl e3) rfl rfl rfl ?_
              obtain ⟨t30, k31, h⟩ := bs h
              refine ol_op (by exact opv_call rfl cal156 (ac rfl an) (crc_step.ok fu _ s22.1 _ k31)) rfl rfl rfl ?_
              rintro _ w33 ⟨rfl, q32⟩
              have b2 := b2.gr q32
              have b8 := b8.gr q32
              have fB := fB.gr q32
              refine ol_val (v := .int .u32 t30) (by exact xr_assign rfl rfl) rfl rfl rfl ?_
              refine ol_nil ?_
              refine blk_i ?_
              refine cw_region ?_
              refine ol_val (v := .int .i64 (IntKind.i64.wrap (s22.2 + 1))) (by exact xr_add rfl e9 rfl) rfl rfl rfl ?_
              refine ol_val (v := .int .i64 (IntKind.i64.wrap (s22.2 + 1))) (by exact xr_move rfl rfl) rfl rfl rfl ?_
              refine ol_nil ?_
              obtain rfl := Option.some.inj h
              refine lp_in ?_
              exact ⟨e0, e1, e2, rfl, e4, rfl, b2, b8, fB⟩
            · refine cw_condF rfl c29 ?_
              refine cw_exit ?_
              repeat (first | with_reducible refine thn_e ?_ | with_reducible refine blk_e rfl ?_)
              obtain rfl := Option.some.inj h
              refine lp_exit ?_
              rintro rfl
              refine thn_x ?_
              exact ⟨e0, e1, e2, e3, e4, b2, b8, fB⟩
        · rintro ρ34 w35 ⟨e0, e1, e2, e3, e4, b2, b8, fB⟩
          have h := h25
          refine cw_region ?_
          refine ol_val (v := .int .i64 s14.1) (by exact xr_move rfl e2) rfl rfl rfl ?_
          refine ol_val (v := .int .u32 e23) (by exact xr_move rfl e3) rfl rfl rfl ?_
          obtain ⟨g36, h⟩ := gs h
          refine ol_val (v := .pointer (some ⟨G7, 0 + Int.toNat s14.1 * 1, none⟩)) (by exact xr_indexA (p := 0) (s := 1) rfl Try.underlying205 sz191 e1 rfl g36.1 g36.2) rfl rfl rfl ?_
          refine ol_op0 (by exact opv_store (ss' := [Kd.seg (kA 16 (kI .u32)) (Arr.set s14.2 s14.1 e23)]) (xs := cellsOf [Seg.cell (.int .u32 e23)]) rfl sz191 rfl rfl rfl (len_cellsOf _) (one_cellsOf _) b8 (Spl.seg_in _ 0 (Kd.seg (kA 16 (kI .u32)) (Arr.set s14.2 s14.1 e23)) rfl rfl (Spl.arr s14.2 s14.1 e23 g36.1 g36.2 (Spl.whole ((Kd.len _ _).trans (Kd.len _ _).symm))))) rfl rfl ?_
          rintro _ w38 ⟨b8, q37⟩
          have b2 := b2.wr q37 n13
          have fB := fB.wr q37 z10
          refine ol_nil ?_
          refine blk_i ?_
          refine cw_region ?_
          refine ol_val (v := .int .i64 (IntKind.i64.wrap (s14.1 + 1))) (by exact xr_add rfl e4 rfl) rfl rfl rfl ?_
          refine ol_val (v := .int .i64 (IntKind.i64.wrap (s14.1 + 1))) (by exact xr_move rfl rfl) rfl rfl rfl ?_
          refine ol_nil ?_
          obtain rfl := Option.some.inj h
          refine lp_in ?_
          exact ⟨e0, e1, rfl, b2, b8, fB⟩
      · refine cw_condF rfl c21 ?_
        refine cw_exit ?_
        repeat (first | with_reducible refine thn_e ?_ | with_reducible refine blk_e rfl ?_)
        obtain rfl := Option.some.inj h
        refine lp_exit ?_
        rintro rfl
        refine thn_x ?_
        exact ⟨e0, e1, b2, b8, fB⟩
  · rintro ρ39 w40 ⟨e0, e1, b2, b8, fB⟩
    have h := h17
    refine cw_seq ?_
    refine cw_region ?_
    refine ol_val (v := aggV [Kd.seg (kA 16 (kI .u32)) e15]) (by exact xr_loadS (ss := [Kd.seg (kA 16 (kI .u32)) e15]) rfl ag205 sz205 rfl e1 (b8.segs 0 1 rfl)) rfl rfl rfl ?_
    refine ol_op0 (by exact opv_store (ss' := [Kd.seg (kA 16 (kI .u32)) e15]) (xs := cellsOf [Kd.seg (kA 16 (kI .u32)) e15]) rfl sz205 e0 rfl rfl (len_cellsOf _) (one_cellsOf _) b2 (Spl.segs _ 0 1 [Kd.seg (kA 16 (kI .u32)) e15] rfl rfl)) rfl rfl ?_
    rintro _ w42 ⟨b2, q41⟩
    have fB := fB.wr q41 z4
    refine ol_nil ?_
    refine cw_ret ?_
    repeat (first | with_reducible refine thn_r ?_ | with_reducible refine blk_r ?_)
    obtain rfl := Option.some.inj h
    refine fin_cell Try.results154 e0 ag205 sz205 b2 (by rfl) ?_
    exact ⟨_, rfl, rfl, fB⟩
end Go.Proofs.Ytklhbaghbmndeaa

/- rickyard/crc.register: its model, and that the Go function computes it: written by gen.py. -/
set_option linter.unusedVariables false
namespace Go.Proofs.Ytklhbaghbmndeaa
open Go Go.Xw
def crc_register.s0 (fu : Nat) (a0 : Arr 16 Int) (a2 : List Int) : (Int × Int) → Option (Sum Int (Int × Int)) := fun s1 => (if (decide (s1.2 < (List.length a2 : Int))) = true then (if 0 ≤ s1.2 ∧ s1.2 < (List.length a2 : Int) then (if 0 ≤ (bAnd .u32 (bXor .u32 s1.1 (IntKind.u32.wrap (ix a2 s1.2))) 15) ∧ (bAnd .u32 (bXor .u32 s1.1 (IntKind.u32.wrap (ix a2 s1.2))) 15) < 16 then (if 0 ≤ (bAnd .u32 (bXor .u32 (shR .u32 (bXor .u32 s1.1 (IntKind.u32.wrap (ix a2 s1.2))) 4) (Arr.get a0 (bAnd .u32 (bXor .u32 s1.1 (IntKind.u32.wrap (ix a2 s1.2))) 15))) 15) ∧ (bAnd .u32 (bXor .u32 (shR .u32 (bXor .u32 s1.1 (IntKind.u32.wrap (ix a2 s1.2))) 4) (Arr.get a0 (bAnd .u32 (bXor .u32 s1.1 (IntKind.u32.wrap (ix a2 s1.2))) 15))) 15) < 16 then some (Sum.inr ((bXor .u32 (shR .u32 (bXor .u32 (shR .u32 (bXor .u32 s1.1 (IntKind.u32.wrap (ix a2 s1.2))) 4) (Arr.get a0 (bAnd .u32 (bXor .u32 s1.1 (IntKind.u32.wrap (ix a2 s1.2))) 15))) 4) (Arr.get a0 (bAnd .u32 (bXor .u32 (shR .u32 (bXor .u32 s1.1 (IntKind.u32.wrap (ix a2 s1.2))) 4) (Arr.get a0 (bAnd .u32 (bXor .u32 s1.1 (IntKind.u32.wrap (ix a2 s1.2))) 15))) 15))), (IntKind.i64.wrap (s1.2 + 1)))) else none) else none) else none) else some (Sum.inl (s1.1)))
def crc_register.f (fu : Nat) (a0 : Arr 16 Int) (a1 : Int) (a2 : List Int) : Option Int := ((loopM (crc_register.s0 fu a0 a2) fu (a1, 0)).bind fun e2 => some (e2))
set_option maxRecDepth 100000 in
set_option maxHeartbeats 400000 in
theorem crc_register.ok (fu : Nat) (w : World) (a0 : Arr 16 Int) (G_0 : Nat) (b_0 : Blk w G_0 205 [Kd.seg (kA 16 (kI .u32)) a0]) (a1 : Int) (a2 : List Int) (V2_0 : Value) (R2_0 : Rd (kI .u8) w V2_0 a2) (r : Int) (h : crc_register.f fu a0 a1 a2 = some r) :
    Calls Try.prog 155 (([.pointer (some ⟨G_0, 0, none⟩), .int .u32 a1, V2_0] : List Value).toArray) w (fun e w' => ∃ v, e = .returned v ∧ v = .int .u32 r ∧ Gr w w') := by
  unfold crc_register.f at h
  have fB : Gr w w := Fr.refl _ _
  refine calls_cw Try.func155 rfl Try.ntmps155 rfl ?_
  refine cw_seq ?_
  refine cw_region ?_
  refine ol_val (v := .int .u32 0) (by exact xr_assign rfl rfl) rfl rfl rfl ?_
  refine ol_nil ?_
  refine cw_seq ?_
  refine cw_seq ?_
  refine cw_region ?_
  refine ol_val (v := V2_0) (by exact xr_move rfl rfl) rfl rfl rfl ?_
  refine ol_val (v := .int .i64 (List.length a2 : Int)) (by exact xr_lenR rfl Try.underlying43 rfl (R2_0.gr fB)) rfl rfl rfl ?_
  refine ol_val (v := .int .i64 0) (by exact xr_move rfl rfl) rfl rfl rfl ?_
  refine ol_nil ?_
  obtain ⟨e2, l3, h4⟩ := bs h
  refine cw_mid (fun ρ' w' => ρ' 1 = .int .u32 e2 ∧ Blk w' G_0 205 [Kd.seg (kA 16 (kI .u32)) a0] ∧ Gr w w') ?_ ?_
  · refine cw_block ?_
    refine cw_round (fun (s1 : Int × Int) ρ' w' => ρ' 0 = .pointer (some ⟨G_0, 0, none⟩) ∧ ρ' 1 = .int .u32 s1.1 ∧ ρ' 9 = V2_0 ∧ ρ' 10 = .int .i64 (List.length a2 : Int) ∧ ρ' 11 = .int .i64 s1.2 ∧ Blk w' G_0 205 [Kd.seg (kA 16 (kI .u32)) a0] ∧ Gr w w') l3 ?_ ?_
    · skip
      exact ⟨rfl, rfl, rfl, rfl, rfl, b_0, fB⟩
    · rintro s1 x7 ρ5 w6 ⟨e0, e1, e9, e10, e11, b_0, fB⟩ h
      unfold crc_register.s0 at h
      refine cw_seq ?_
      refine cw_region ?_
      refine ol_val (v := .bool (decide (s1.2 < (List.length a2 : Int)))) (by exact xr_lss rfl e11 e10) rfl rfl rfl ?_
      refine ol_nil ?_
      refine cw_seq ?_
      rcases is h with ⟨c8, h⟩ | ⟨c8, h⟩
      · refine cw_condT rfl c8 ?_
        refine cw_skip ?_
        refine cw_seq ?_
        refine cw_block ?_
        refine cw_seq ?_
        refine cw_region ?_
        obtain ⟨g9, h⟩ := gs h
        refine ol_val (v := .pointer (some ⟨(sb V2_0), so V2_0 + Int.toNat s1.2 * 1, none⟩)) (by exact xr_indexR (K := (kI .u8)) (v := V2_0) rfl Try.underlying43 sz5 e9 (R2_0.gr fB) e11 g9.1 g9.2) rfl rfl rfl ?_
        refine ol_val (v := .int .u8 (ix a2 s1.2)) (by exact xr_load1 (v := .int .u8 (ix a2 s1.2)) rfl ag5 rfl ((R2_0.gr fB).elem g9.1 g9.2)) rfl rfl rfl ?_
        refine ol_val (v := .int .u8 (ix a2 s1.2)) (by exact xr_assign rfl rfl) rfl rfl rfl ?_
        refine ol_nil ?_
        refine cw_seq ?_
        refine cw_region ?_
        refine ol_val (v := .int .u32 s1.1) (by exact xr_move rfl e1) rfl rfl rfl ?_
        refine ol_val (v := .int .u8 (ix a2 s1.2)) (by exact xr_move rfl rfl) rfl rfl rfl ?_
        refine ol_val (v := .int .u32 (IntKind.u32.wrap (ix a2 s1.2))) (by exact xr_conv rfl Try.underlying5 Try.underlying191 rfl) rfl rfl rfl ?_
        refine ol_val (v := .int .u32 (bXor .u32 s1.1 (IntKind.u32.wrap (ix a2 s1.2)))) (by exact xr_xor rfl rfl rfl) rfl rfl rfl ?_
        refine ol_val (v := .int .u32 (bXor .u32 s1.1 (IntKind.u32.wrap (ix a2 s1.2)))) (by exact xr_assign rfl rfl) rfl rfl rfl ?_
        refine ol_nil ?_
        refine cw_seq ?_
        refine cw_region ?_
        refine ol_val (v := .int .u32 (bXor .u32 s1.1 (IntKind.u32.wrap (ix a2 s1.2)))) (by exact xr_move rfl rfl) rfl rfl rfl ?_
        refine ol_val (v := .int .u32 (shR .u32 (bXor .u32 s1.1 (IntKind.u32.wrap (ix a2 s1.2))) 4)) (by exact xr_shr rfl rfl rfl (by decide)) rfl rfl rfl ?_
        refine ol_val (v := .pointer (some ⟨G_0, 0, none⟩)) (by exact xr_move rfl e0) rfl rfl rfl ?_
        refine ol_val (v := .int .u32 (bXor .u32 s1.1 (IntKind.u32.wrap (ix a2 s1.2)))) (by exact xr_move rfl rfl) rfl rfl rfl ?_
        refine ol_val (v := .int .u32 (bAnd .u32 (bXor .u32 s1.1 (IntKind.u32.wrap (ix a2 s1.2))) 15)) (by exact xr_and rfl rfl rfl) rfl rfl rfl ?_
        refine ol_val (v := .pointer (some ⟨G_0, 0, none⟩)) (by exact xr_nilCheck rfl rfl) rfl rfl rfl ?_
        obtain ⟨g10, h⟩ := gs h
        refine ol_val (v := .pointer (some ⟨G_0, 0 + Int.toNat (bAnd .u32 (bXor .u32 s1.1 (IntKind.u32.wrap (ix a2 s1.2))) 15) * 1, none⟩)) (by exact xr_indexA (p := 0) (s := 1) rfl Try.underlying205 sz191 rfl rfl g10.1 g10.2) rfl rfl rfl ?_
        refine ol_val (v := .int .u32 (Arr.get a0 (bAnd .u32 (bXor .u32 s1.1 (IntKind.u32.wrap (ix a2 s1.2))) 15))) (by exact xr_load1 (v := .int .u32 (Arr.get a0 (bAnd .u32 (bXor .u32 s1.1 (IntKind.u32.wrap (ix a2 s1.2))) 15))) rfl ag191 rfl (At.arr (a := a0) (b_0.seg 0 rfl rfl) g10.1 g10.2)) rfl rfl rfl ?_
        refine ol_val (v := .int .u32 (bXor .u32 (shR .u32 (bXor .u32 s1.1 (IntKind.u32.wrap (ix a2 s1.2))) 4) (Arr.get a0 (bAnd .u32 (bXor .u32 s1.1 (IntKind.u32.wrap (ix a2 s1.2))) 15)))) (by exact xr_xor rfl rfl rfl) rfl rfl rfl ?_
        refine ol_val (v := .int .u32 (bXor .u32 (shR .u32 (bXor .u32 s1.1 (IntKind.u32.wrap (ix a2 s1.2))) 4) (Arr.get a0 (bAnd .u32 (bXor .u32 s1.1 (IntKind.u32.wrap (ix a2 s1.2))) 15)))) (by exact xr_assign rfl rfl) rfl rfl rfl ?_
        refine ol_nil ?_
        refine cw_region ?_
        refine ol_val (v := .int .u32 (bXor .u32 (shR .u32 (bXor .u32 s1.1 (IntKind.u32.wrap (ix a2 s1.2))) 4) (Arr.get a0 (bAnd .u32 (bXor .u32 s1.1 (IntKind.u32.wrap (ix a2 s1.2))) 15)))) (by exact xr_move rfl rfl) rfl rfl rfl ?_
        refine ol_val (v := .int .u32 (shR .u32 (bXor .u32 (shR .u32 (bXor .u32 s1.1 (IntKind.u32.wrap (ix a2 s1.2))) 4) (Arr.get a0 (bAnd .u32 (bXor .u32 s1.1 (IntKind.u32.wrap (ix a2 s1.2))) 15))) 4)) (by exact xr_shr rfl rfl rfl (by decide)) rfl rfl rfl ?_
        refine ol_val (v := .pointer (some ⟨G_0, 0, none⟩)) (by exact xr_move rfl e0) rfl rfl rfl ?_
        refine ol_val (v := .int .u32 (bXor .u32 (shR .u32 (bXor .u32 s1.1 (IntKind.u32.wrap (ix a2 s1.2))) 4) (Arr.get a0 (bAnd .u32 (bXor .u32 s1.1 (IntKind.u32.wrap (ix a2 s1.2))) 15)))) (by exact xr_move rfl rfl) rfl rfl rfl ?_
        refine ol_val (v := .int .u32 (bAnd .u32 (bXor .u32 (shR .u32 (bXor .u32 s1.1 (IntKind.u32.wrap (ix a2 s1.2))) 4) (Arr.get a0 (bAnd .u32 (bXor .u32 s1.1 (IntKind.u32.wrap (ix a2 s1.2))) 15))) 15)) (by exact xr_and rfl rfl rfl) rfl rfl rfl ?_
        refine ol_val (v := .pointer (some ⟨G_0, 0, none⟩)) (by exact xr_nilCheck rfl rfl) rfl rfl rfl ?_
        obtain ⟨g11, h⟩ := gs h
        refine ol_val (v := .pointer (some ⟨G_0, 0 + Int.toNat (bAnd .u32 (bXor .u32 (shR .u32 (bXor .u32 s1.1 (IntKind.u32.wrap (ix a2 s1.2))) 4) (Arr.get a0 (bAnd .u32 (bXor .u32 s1.1 (IntKind.u32.wrap (ix a2 s1.2))) 15))) 15) * 1, none⟩)) (by exact xr_indexA (p := 0) (s := 1) rfl Try.underlying205 sz191 rfl rfl g11.1 g11.2) rfl rfl rfl ?_
        refine ol_val (v := .int .u32 (Arr.get a0 (bAnd .u32 (bXor .u32 (shR .u32 (bXor .u32 s1.1 (IntKind.u32.wrap (ix a2 s1.2))) 4) (Arr.get a0 (bAnd .u32 (bXor .u32 s1.1 (IntKind.u32.wrap (ix a2 s1.2))) 15))) 15))) (by exact xr_load1 (v := .int .u32 (Arr.get a0 (bAnd .u32 (bXor .u32 (shR .u32 (bXor .u32 s1.1 (IntKind.u32.wrap (ix a2 s1.2))) 4) (Arr.get a0 (bAnd .u32 (bXor .u32 s1.1 (IntKind.u32.wrap (ix a2 s1.2))) 15))) 15))) rfl ag191 rfl (At.arr (a := a0) (b_0.seg 0 rfl rfl) g11.1 g11.2)) rfl rfl rfl ?_
        refine ol_val (v := .int .u32 (bXor .u32 (shR .u32 (bXor .u32 (shR .u32 (bXor .u32 s1.1 (IntKind.u32.wrap (ix a2 s1.2))) 4) (Arr.get a0 (bAnd .u32 (bXor .u32 s1.1 (IntKind.u32.wrap (ix a2 s1.2))) 15))) 4) (Arr.get a0 (bAnd .u32 (bXor .u32 (shR .u32 (bXor .u32 s1.1 (IntKind.u32.wrap (ix a2 s1.2))) 4) (Arr.get a0 (bAnd .u32 (bXor .u32 s1.1 (IntKind.u32.wrap (ix a2 s1.2))) 15))) 15)))) (by exact xr_xor rfl rfl rfl) rfl rfl rfl ?_
        refine ol_val (v := .int .u32 (bXor .u32 (shR .u32 (bXor .u32 (shR .u32 (bXor .u32 s1.1 (IntKind.u32.wrap (ix a2 s1.2))) 4) (Arr.get a0 (bAnd .u32 (bXor .u32 s1.1 (IntKind.u32.wrap (ix a2 s1.2))) 15))) 4) (Arr.get a0 (bAnd .u32 (bXor .u32 (shR .u32 (bXor .u32 s1.1 (IntKind.u32.wrap (ix a2 s1.2))) 4) (Arr.get a0 (bAnd .u32 (bXor .u32 s1.1 (IntKind.u32.wrap (ix a2 s1.2))) 15))) 15)))) (by exact xr_assign rfl rfl) rfl rfl rfl ?_
        refine ol_nil ?_
        refine blk_i ?_
        refine cw_region ?_
        refine ol_val (v := .int .i64 (IntKind.i64.wrap (s1.2 + 1))) (by exact xr_add rfl e11 rfl) rfl rfl rfl ?_
        refine ol_val (v := .int .i64 (IntKind.i64.wrap (s1.2 + 1))) (by exact xr_move rfl rfl) rfl rfl rfl ?_
        refine ol_nil ?_
        obtain rfl := Option.some.inj h
        refine lp_in ?_
        exact ⟨e0, rfl, e9, e10, rfl, b_0, fB⟩
      · refine cw_condF rfl c8 ?_
        refine cw_exit ?_
        repeat (first | with_reducible refine thn_e ?_ | with_reducible refine blk_e rfl ?_)
        obtain rfl := Option.some.inj h
        refine lp_exit ?_
        rintro rfl
        refine thn_x ?_
        exact ⟨e1, b_0, fB⟩
  · rintro ρ12 w13 ⟨e1, b_0, fB⟩
    have h := h4
    refine cw_seq ?_
    refine cw_region ?_
    refine ol_val (v := .int .u32 e2) (by exact xr_move rfl e1) rfl rfl rfl ?_
    refine ol_val (v := .int .u32 e2) (by exact xr_assign rfl rfl) rfl rfl rfl ?_
    refine ol_nil ?_
    refine cw_ret ?_
    repeat (first | with_reducible refine thn_r ?_ | with_reducible refine blk_r ?_)
    obtain rfl := Option.some.inj h
    refine fin_ret1 Try.results155 rfl ?_
    exact ⟨_, rfl, rfl, fB⟩
end Go.Proofs.Ytklhbaghbmndeaa

/- rickyard/crc.Sum: its model, and that the Go function computes it: written by gen.py. -/
set_option linter.unusedVariables false
namespace Go.Proofs.Ytklhbaghbmndeaa
open Go Go.Xw
def crc_Sum.s0 (fu : Nat) (a0 : List (List Int)) (t1 : (Arr 16 Int)) : (Int × Int) → Option (Sum Int (Int × Int)) := fun s13 => (if (decide (s13.2 < (List.length a0 : Int))) = true then (if 0 ≤ s13.2 ∧ s13.2 < (List.length a0 : Int) then ((crc_register.f fu t1 s13.1 (ix a0 s13.2) : Option Int).bind fun t23 => some (Sum.inr (t23, (IntKind.i64.wrap (s13.2 + 1))))) else none) else some (Sum.inl (s13.1)))
def crc_Sum.f (fu : Nat) (a0 : List (List Int)) : Option Int := ((crc_Table.f fu : Option (Arr 16 Int)).bind fun t1 => ((loopM (crc_Sum.s0 fu a0 t1) fu (4294967295, 0)).bind fun e14 => some ((bXor .u32 e14 4294967295))))
set_option maxRecDepth 100000 in
set_option maxHeartbeats 400000 in
theorem crc_Sum.ok (fu : Nat) (w : World) (a0 : List (List Int)) (V0_0 : Value) (R0_0 : Rds (kI .u8) w V0_0 a0) (r : Int) (h : crc_Sum.f fu a0 = some r) :
    Calls Try.prog 149 (([V0_0] : List Value).toArray) w (fun e w' => ∃ v, e = .returned v ∧ v = .int .u32 r ∧ Gr w w') := by
  unfold crc_Sum.f at h
  have fB : Gr w w := Fr.refl _ _
  refine calls_cw Try.func149 rfl Try.ntmps149 rfl ?_
  refine cw_seq ?_
  refine cw_region ?_
  refine ol_val (v := .int .u32 0) (by exact xr_assign rfl rfl) rfl rfl rfl ?_
  refine ol_nil ?_
  refine cw_seq ?_
  refine cw_region ?_
  obtain ⟨t1, k2, h⟩ := bs h
  refine ol_op (by exact opv_call rfl cal154 an (crc_Table.ok fu _ _ k2)) rfl rfl rfl ?_
  rintro _ w4 ⟨rfl, q3⟩
  have fB := fB.gr q3
  refine ol_op (by exact opv_alloc (ss := [Kd.seg (kA 16 (kI .u32)) (Arr.rep 16 (0 : Int))]) rfl ze205 rfl) rfl rfl rfl ?_
  rintro _ w10 ⟨G5, rfl, b6, q7, z8⟩
  have z8 := Nat.le_trans fB.size z8
  have fB := fB.gr q7
  refine ol_op0 (by exact opv_store (ss' := [Kd.seg (kA 16 (kI .u32)) t1]) (xs := cellsOf [Kd.seg (kA 16 (kI .u32)) t1]) rfl sz205 rfl rfl rfl (len_cellsOf _) (one_cellsOf _) b6 (Spl.segs _ 0 1 [Kd.seg (kA 16 (kI .u32)) t1] rfl rfl)) rfl rfl ?_
  rintro _ w12 ⟨b6, q11⟩
  have fB := fB.wr q11 z8
  refine ol_val (v := .int .u32 4294967295) (by exact xr_assign rfl rfl) rfl rfl rfl ?_
  refine ol_nil ?_
  refine cw_seq ?_
  refine cw_seq ?_
  refine cw_region ?_
  refine ol_val (v := V0_0) (by exact xr_move rfl rfl) rfl rfl rfl ?_
  refine ol_val (v := .int .i64 (List.length a0 : Int)) (by exact xr_lenRs rfl Try.underlying100 rfl (R0_0.gr fB)) rfl rfl rfl ?_
  refine ol_val (v := .int .i64 0) (by exact xr_move rfl rfl) rfl rfl rfl ?_
  refine ol_nil ?_
  obtain ⟨e14, l15, h16⟩ := bs h
  refine cw_mid (fun ρ' w' => ρ' 4 = .int .u32 e14 ∧ Gr w w') ?_ ?_
  · refine cw_block ?_
    refine cw_round (fun (s13 : Int × Int) ρ' w' => ρ' 3 = .pointer (some ⟨G5, 0, none⟩) ∧ ρ' 4 = .int .u32 s13.1 ∧ ρ' 8 = V0_0 ∧ ρ' 9 = .int .i64 (List.length a0 : Int) ∧ ρ' 10 = .int .i64 s13.2 ∧ Blk w' G5 205 [Kd.seg (kA 16 (kI .u32)) t1] ∧ Gr w w') l15 ?_ ?_
    · skip
      exact ⟨rfl, rfl, rfl, rfl, rfl, b6, fB⟩
    · rintro s13 x19 ρ17 w18 ⟨e3, e4, e8, e9, e10, b6, fB⟩ h
      unfold crc_Sum.s0 at h
      refine cw_seq ?_
      refine cw_region ?_
      refine ol_val (v := .bool (decide (s13.2 < (List.length a0 : Int)))) (by exact xr_lss rfl e10 e9) rfl rfl rfl ?_
      refine ol_nil ?_
      refine cw_seq ?_
      rcases is h with ⟨c20, h⟩ | ⟨c20, h⟩
      · refine cw_condT rfl c20 ?_
        refine cw_skip ?_
        refine cw_seq ?_
        refine cw_block ?_
        refine cw_seq ?_
        refine cw_region ?_
        obtain ⟨g21, h⟩ := gs h
        refine ol_val (v := .pointer (some ⟨(sb V0_0), so V0_0 + Int.toNat s13.2 * 1, none⟩)) (by exact xr_indexRs (v := V0_0) rfl Try.underlying100 sz43 e8 (R0_0.gr fB) e10 g21.1 g21.2) rfl rfl rfl ?_
        refine ol_val (v := inner w18 V0_0 s13.2) (by exact xr_load1 (v := inner w18 V0_0 s13.2) rfl ag43 rfl ((R0_0.gr fB).elem g21.1 g21.2).1) rfl rfl rfl ?_
        have r22 : Rd (kI .u8) w18 (inner w18 V0_0 s13.2) (ix a0 s13.2) := ((R0_0.gr fB).elem g21.1 g21.2).2
        refine ol_val (v := inner w18 V0_0 s13.2) (by exact xr_assign rfl rfl) rfl rfl rfl ?_
        refine ol_nil ?_
        refine cw_region ?_
        refine ol_val (v := .int .u32 s13.1) (by exact xr_move rfl e4) rfl rfl rfl ?_
        refine ol_val (v := inner w18 V0_0 s13.2) (by exact xr_move rfl rfl) rfl rfl rfl ?_
        obtain ⟨t23, k24, h⟩ := bs h
        refine ol_op (by exact opv_call rfl cal155 (ac e3 (ac rfl (ac rfl an))) (crc_register.ok fu _ t1 G5 b6 s13.1 (ix a0 s13.2) (inner w18 V0_0 s13.2) (r22) _ k24)) rfl rfl rfl ?_
        rintro _ w26 ⟨rfl, q25⟩
        have b6 := b6.gr q25
        have fB := fB.gr q25
        refine ol_val (v := .int .u32 t23) (by exact xr_assign rfl rfl) rfl rfl rfl ?_
        refine ol_nil ?_
        refine blk_i ?_
        refine cw_region ?_
        refine ol_val (v := .int .i64 (IntKind.i64.wrap (s13.2 + 1))) (by exact xr_add rfl e10 rfl) rfl rfl rfl ?_
        refine ol_val (v := .int .i64 (IntKind.i64.wrap (s13.2 + 1))) (by exact xr_move rfl rfl) rfl rfl rfl ?_
        refine ol_nil ?_
        obtain rfl := Option.some.inj h
        refine lp_in ?_
        exact ⟨e3, rfl, e8, e9, rfl, b6, fB⟩
      · refine cw_condF rfl c20 ?_
        refine cw_exit ?_
        repeat (first | with_reducible refine thn_e ?_ | with_reducible refine blk_e rfl ?_)
        obtain rfl := Option.some.inj h
        refine lp_exit ?_
        rintro rfl
        refine thn_x ?_
        exact ⟨e4, fB⟩
  · rintro ρ27 w28 ⟨e4, fB⟩
    have h := h16
    refine cw_seq ?_
    refine cw_region ?_
    refine ol_val (v := .int .u32 e14) (by exact xr_move rfl e4) rfl rfl rfl ?_
    refine ol_val (v := .int .u32 (bXor .u32 e14 4294967295)) (by exact xr_xor rfl rfl rfl) rfl rfl rfl ?_
    refine ol_val (v := .int .u32 (bXor .u32 e14 4294967295)) (by exact xr_assign rfl rfl) rfl rfl rfl ?_
    refine ol_nil ?_
    refine cw_ret ?_
    repeat (first | with_reducible refine thn_r ?_ | with_reducible refine blk_r ?_)
    obtain rfl := Option.some.inj h
    refine fin_ret1 Try.results149 rfl ?_
    exact ⟨_, rfl, rfl, fB⟩
end Go.Proofs.Ytklhbaghbmndeaa

/- rickyard/rickyardref02.Step: its model, and that the Go function computes it: written by gen.py. -/
set_option linter.unusedVariables false
namespace Go.Proofs.Ytklhbaghbmndeaa
open Go Go.Xw
def rickyardref02_Step.f (fu : Nat) (a0 : Int) : Option Int := (if (decide ((Int.tmod a0 2) = 1)) = true then some ((bXor .u32 (IntKind.u32.wrap (Int.tdiv a0 2)) 2197175160)) else some ((IntKind.u32.wrap (Int.tdiv a0 2))))
set_option maxRecDepth 100000 in
set_option maxHeartbeats 400000 in
theorem rickyardref02_Step.ok (fu : Nat) (w : World) (a0 : Int) (r : Int) (h : rickyardref02_Step.f fu a0 = some r) :
    Calls Try.prog 153 (([.int .u32 a0] : List Value).toArray) w (fun e w' => ∃ v, e = .returned v ∧ v = .int .u32 r ∧ Gr w w') := by
  unfold rickyardref02_Step.f at h
  have fB : Gr w w := Fr.refl _ _
  refine calls_cw Try.func153 rfl Try.ntmps153 rfl ?_
  refine cw_seq ?_
  refine cw_region ?_
  refine ol_val (v := .int .u32 0) (by exact xr_assign rfl rfl) rfl rfl rfl ?_
  refine ol_nil ?_
  refine cw_seq ?_
  refine cw_seq ?_
  refine cw_region ?_
  refine ol_val (v := .int .u32 a0) (by exact xr_move rfl rfl) rfl rfl rfl ?_
  refine ol_val (v := .int .u32 (Int.tmod a0 2)) (by exact xr_rem rfl rfl rfl (by decide)) rfl rfl rfl ?_
  refine ol_val (v := .bool (decide ((Int.tmod a0 2) = 1))) (by exact xr_eqI rfl Try.underlying191 rfl rfl rfl) rfl rfl rfl ?_
  refine ol_nil ?_
  rcases is h with ⟨c1, h⟩ | ⟨c1, h⟩
  · refine cw_condT rfl c1 ?_
    refine cw_seq ?_
    refine cw_region ?_
    refine ol_val (v := .int .u32 a0) (by exact xr_move rfl rfl) rfl rfl rfl ?_
    refine ol_val (v := .int .u32 (IntKind.u32.wrap (Int.tdiv a0 2))) (by exact xr_quo rfl rfl rfl (by decide)) rfl rfl rfl ?_
    refine ol_val (v := .int .u32 (bXor .u32 (IntKind.u32.wrap (Int.tdiv a0 2)) 2197175160)) (by exact xr_xor rfl rfl rfl) rfl rfl rfl ?_
    refine ol_val (v := .int .u32 (bXor .u32 (IntKind.u32.wrap (Int.tdiv a0 2)) 2197175160)) (by exact xr_assign rfl rfl) rfl rfl rfl ?_
    refine ol_nil ?_
    refine cw_ret ?_
    repeat (first | with_reducible refine thn_r ?_ | with_reducible refine blk_r ?_)
    obtain rfl := Option.some.inj h
    refine fin_ret1 Try.results153 rfl ?_
    exact ⟨_, rfl, rfl, fB⟩
  · refine cw_condF rfl c1 ?_
    refine cw_skip ?_
    refine cw_seq ?_
    refine cw_region ?_
    refine ol_val (v := .int .u32 a0) (by exact xr_move rfl rfl) rfl rfl rfl ?_
    refine ol_val (v := .int .u32 (IntKind.u32.wrap (Int.tdiv a0 2))) (by exact xr_quo rfl rfl rfl (by decide)) rfl rfl rfl ?_
    refine ol_val (v := .int .u32 (IntKind.u32.wrap (Int.tdiv a0 2))) (by exact xr_assign rfl rfl) rfl rfl rfl ?_
    refine ol_nil ?_
    refine cw_ret ?_
    repeat (first | with_reducible refine thn_r ?_ | with_reducible refine blk_r ?_)
    obtain rfl := Option.some.inj h
    refine fin_ret1 Try.results153 rfl ?_
    exact ⟨_, rfl, rfl, fB⟩
end Go.Proofs.Ytklhbaghbmndeaa

/- rickyard/rickyardref02.Steps: its model, and that the Go function computes it: written by gen.py. -/
set_option linter.unusedVariables false
namespace Go.Proofs.Ytklhbaghbmndeaa
open Go Go.Xw
def rickyardref02_Steps.s0 (fu : Nat) (a1 : Int) : (Int × Int) → Option (Sum Int (Int × Int)) := fun s1 => (if (decide (s1.2 < a1)) = true then ((rickyardref02_Step.f fu s1.1 : Option Int).bind fun t9 => some (Sum.inr (t9, (IntKind.i64.wrap (s1.2 + 1))))) else some (Sum.inl (s1.1)))
def rickyardref02_Steps.f (fu : Nat) (a0 : Int) (a1 : Int) : Option Int := ((loopM (rickyardref02_Steps.s0 fu a1) fu (a0, 0)).bind fun e2 => some (e2))
set_option maxRecDepth 100000 in
set_option maxHeartbeats 400000 in
theorem rickyardref02_Steps.ok (fu : Nat) (w : World) (a0 : Int) (a1 : Int) (r : Int) (h : rickyardref02_Steps.f fu a0 a1 = some r) :
    Calls Try.prog 148 (([.int .u32 a0, .int .i64 a1] : List Value).toArray) w (fun e w' => ∃ v, e = .returned v ∧ v = .int .u32 r ∧ Gr w w') := by
  unfold rickyardref02_Steps.f at h
  have fB : Gr w w := Fr.refl _ _
  refine calls_cw Try.func148 rfl Try.ntmps148 rfl ?_
  refine cw_seq ?_
  refine cw_region ?_
  refine ol_val (v := .int .u32 0) (by exact xr_assign rfl rfl) rfl rfl rfl ?_
  refine ol_nil ?_
  refine cw_seq ?_
  refine cw_seq ?_
  refine cw_region ?_
  refine ol_val (v := .int .i64 0) (by exact xr_assign rfl rfl) rfl rfl rfl ?_
  refine ol_nil ?_
  obtain ⟨e2, l3, h4⟩ := bs h
  refine cw_mid (fun ρ' w' => ρ' 0 = .int .u32 e2 ∧ Gr w w') ?_ ?_
  · refine cw_block ?_
    refine cw_round (fun (s1 : Int × Int) ρ' w' => ρ' 0 = .int .u32 s1.1 ∧ ρ' 1 = .int .i64 a1 ∧ ρ' 5 = .int .i64 s1.2 ∧ Gr w w') l3 ?_ ?_
    · skip
      exact ⟨rfl, rfl, rfl, fB⟩
    · rintro s1 x7 ρ5 w6 ⟨e0, e1, e5, fB⟩ h
      unfold rickyardref02_Steps.s0 at h
      refine cw_seq ?_
      refine cw_seq ?_
      refine cw_region ?_
      refine ol_val (v := .int .i64 s1.2) (by exact xr_move rfl e5) rfl rfl rfl ?_
      refine ol_val (v := .int .i64 a1) (by exact xr_move rfl e1) rfl rfl rfl ?_
      refine ol_val (v := .bool (decide (s1.2 < a1))) (by exact xr_lss rfl rfl rfl) rfl rfl rfl ?_
      refine ol_nil ?_
      rcases is h with ⟨c8, h⟩ | ⟨c8, h⟩
      · refine cw_condT rfl c8 ?_
        refine cw_skip ?_
        refine cw_seq ?_
        refine cw_block ?_
        refine cw_region ?_
        refine ol_val (v := .int .u32 s1.1) (by exact xr_move rfl e0) rfl rfl rfl ?_
        obtain ⟨t9, k10, h⟩ := bs h
        refine ol_op (by exact opv_call rfl cal153 (ac rfl an) (rickyardref02_Step.ok fu _ s1.1 _ k10)) rfl rfl rfl ?_
        rintro _ w12 ⟨rfl, q11⟩
        have fB := fB.gr q11
        refine ol_val (v := .int .u32 t9) (by exact xr_assign rfl rfl) rfl rfl rfl ?_
        refine ol_nil ?_
        refine blk_i ?_
        refine cw_region ?_
        refine ol_val (v := .int .i64 s1.2) (by exact xr_move rfl e5) rfl rfl rfl ?_
        refine ol_val (v := .int .i64 (IntKind.i64.wrap (s1.2 + 1))) (by exact xr_add rfl rfl rfl) rfl rfl rfl ?_
        refine ol_val (v := .int .i64 (IntKind.i64.wrap (s1.2 + 1))) (by exact xr_assign rfl rfl) rfl rfl rfl ?_
        refine ol_nil ?_
        obtain rfl := Option.some.inj h
        refine lp_in ?_
        exact ⟨rfl, e1, rfl, fB⟩
      · refine cw_condF rfl c8 ?_
        refine cw_exit ?_
        repeat (first | with_reducible refine thn_e ?_ | with_reducible refine blk_e rfl ?_)
        obtain rfl := Option.some.inj h
        refine lp_exit ?_
        rintro rfl
        refine thn_x ?_
        exact ⟨e0, fB⟩
  · rintro ρ13 w14 ⟨e0, fB⟩
    have h := h4
    refine cw_seq ?_
    refine cw_region ?_
    refine ol_val (v := .int .u32 e2) (by exact xr_move rfl e0) rfl rfl rfl ?_
    refine ol_val (v := .int .u32 e2) (by exact xr_assign rfl rfl) rfl rfl rfl ?_
    refine ol_nil ?_
    refine cw_ret ?_
    repeat (first | with_reducible refine thn_r ?_ | with_reducible refine blk_r ?_)
    obtain rfl := Option.some.inj h
    refine fin_ret1 Try.results148 rfl ?_
    exact ⟨_, rfl, rfl, fB⟩
end Go.Proofs.Ytklhbaghbmndeaa

/- rickyard/rickyardref02.Sum: its model, and that the Go function computes it: written by gen.py. -/
set_option linter.unusedVariables false
namespace Go.Proofs.Ytklhbaghbmndeaa
open Go Go.Xw
def rickyardref02_Sum.s0 (fu : Nat) (a0 : List Int) : (Int × Int) → Option (Sum Int (Int × Int)) := fun s1 => (if (decide (s1.2 < (List.length a0 : Int))) = true then (if 0 ≤ s1.2 ∧ s1.2 < (List.length a0 : Int) then ((rickyardref02_Steps.f fu (bXor .u32 s1.1 (IntKind.u32.wrap (ix a0 s1.2))) 8 : Option Int).bind fun t10 => some (Sum.inr (t10, (IntKind.i64.wrap (s1.2 + 1))))) else none) else some (Sum.inl (s1.1)))
def rickyardref02_Sum.f (fu : Nat) (a0 : List Int) : Option Int := ((loopM (rickyardref02_Sum.s0 fu a0) fu (4294967295, 0)).bind fun e2 => some ((IntKind.u32.wrap (4294967295 - e2))))
set_option maxRecDepth 100000 in
set_option maxHeartbeats 400000 in
theorem rickyardref02_Sum.ok (fu : Nat) (w : World) (a0 : List Int) (V0_0 : Value) (R0_0 : Rd (kI .u8) w V0_0 a0) (r : Int) (h : rickyardref02_Sum.f fu a0 = some r) :
    Calls Try.prog 139 (([V0_0] : List Value).toArray) w (fun e w' => ∃ v, e = .returned v ∧ v = .int .u32 r ∧ Gr w w') := by
  unfold rickyardref02_Sum.f at h
  have fB : Gr w w := Fr.refl _ _
  refine calls_cw Try.func139 rfl Try.ntmps139 rfl ?_
  refine cw_seq ?_
  refine cw_region ?_
  refine ol_val (v := .int .u32 0) (by exact xr_assign rfl rfl) rfl rfl rfl ?_
  refine ol_nil ?_
  refine cw_seq ?_
  refine cw_region ?_
  refine ol_val (v := .int .u32 4294967295) (by exact xr_assign rfl rfl) rfl rfl rfl ?_
  refine ol_nil ?_
  refine cw_seq ?_
  refine cw_seq ?_
  refine cw_region ?_
  refine ol_val (v := .int .i64 0) (by exact xr_assign rfl rfl) rfl rfl rfl ?_
  refine ol_nil ?_
  obtain ⟨e2, l3, h4⟩ := bs h
  refine cw_mid (fun ρ' w' => ρ' 3 = .int .u32 e2 ∧ Gr w w') ?_ ?_
  · refine cw_block ?_
    refine cw_round (fun (s1 : Int × Int) ρ' w' => ρ' 0 = V0_0 ∧ ρ' 3 = .int .u32 s1.1 ∧ ρ' 4 = .int .i64 s1.2 ∧ Gr w w') l3 ?_ ?_
    · skip
      exact ⟨rfl, rfl, rfl, fB⟩
    · rintro s1 x7 ρ5 w6 ⟨e0, e3, e4, fB⟩ h
      unfold rickyardref02_Sum.s0 at h
      refine cw_seq ?_
      refine cw_seq ?_
      refine cw_region ?_
      refine ol_val (v := .int .i64 s1.2) (by exact xr_move rfl e4) rfl rfl rfl ?_
      refine ol_val (v := V0_0) (by exact xr_move rfl e0) rfl rfl rfl ?_
      refine ol_val (v := .int .i64 (List.length a0 : Int)) (by exact xr_lenR rfl Try.underlying43 rfl (R0_0.gr fB)) rfl rfl rfl ?_
      refine ol_val (v := .bool (decide (s1.2 < (List.length a0 : Int)))) (by exact xr_lss rfl rfl rfl) rfl rfl rfl ?_
      refine ol_nil ?_
      rcases is h with ⟨c8, h⟩ | ⟨c8, h⟩
      · refine cw_condT rfl c8 ?_
        refine cw_skip ?_
        refine cw_seq ?_
        refine cw_block ?_
        refine cw_region ?_
        refine ol_val (v := .int .u32 s1.1) (by exact xr_move rfl e3) rfl rfl rfl ?_
        refine ol_val (v := V0_0) (by exact xr_move rfl e0) rfl rfl rfl ?_
        refine ol_val (v := .int .i64 s1.2) (by exact xr_move rfl e4) rfl rfl rfl ?_
        obtain ⟨g9, h⟩ := gs h
        refine ol_val (v := .pointer (some ⟨(sb V0_0), so V0_0 + Int.toNat s1.2 * 1, none⟩)) (by exact xr_indexR (K := (kI .u8)) (v := V0_0) rfl Try.underlying43 sz5 rfl (R0_0.gr fB) rfl g9.1 g9.2) rfl rfl rfl ?_
        refine ol_val (v := .int .u8 (ix a0 s1.2)) (by exact xr_load1 (v := .int .u8 (ix a0 s1.2)) rfl ag5 rfl ((R0_0.gr fB).elem g9.1 g9.2)) rfl rfl rfl ?_
        refine ol_val (v := .int .u32 (IntKind.u32.wrap (ix a0 s1.2))) (by exact xr_conv rfl Try.underlying5 Try.underlying191 rfl) rfl rfl rfl ?_
        refine ol_val (v := .int .u32 (bXor .u32 s1.1 (IntKind.u32.wrap (ix a0 s1.2)))) (by exact xr_xor rfl rfl rfl) rfl rfl rfl ?_
        obtain ⟨t10, k11, h⟩ := bs h
        refine ol_op (by exact opv_call rfl cal148 (ac rfl (ac rfl an)) (rickyardref02_Steps.ok fu _ (bXor .u32 s1.1 (IntKind.u32.wrap (ix a0 s1.2))) 8 _ k11)) rfl rfl rfl ?_
        rintro _ w13 ⟨rfl, q12⟩
        have fB := fB.gr q12
        refine ol_val (v := .int .u32 t10) (by exact xr_assign rfl rfl) rfl rfl rfl ?_
        refine ol_nil ?_
        refine blk_i ?_
        refine cw_region ?_
        refine ol_val (v := .int .i64 s1.2) (by exact xr_move rfl e4) rfl rfl rfl ?_
        refine ol_val (v := .int .i64 (IntKind.i64.wrap (s1.2 + 1))) (by exact xr_add rfl rfl rfl) rfl rfl rfl ?_
        refine ol_val (v := .int .i64 (IntKind.i64.wrap (s1.2 + 1))) (by exact xr_assign rfl rfl) rfl rfl rfl ?_
        refine ol_nil ?_
        obtain rfl := Option.some.inj h
        refine lp_in ?_
        exact ⟨e0, rfl, rfl, fB⟩
      · refine cw_condF rfl c8 ?_
        refine cw_exit ?_
        repeat (first | with_reducible refine thn_e ?_ | with_reducible refine blk_e rfl ?_)
        obtain rfl := Option.some.inj h
        refine lp_exit ?_
        rintro rfl
        refine thn_x ?_
        exact ⟨e3, fB⟩
  · rintro ρ14 w15 ⟨e3, fB⟩
    have h := h4
    refine cw_seq ?_
    refine cw_region ?_
    refine ol_val (v := .int .u32 e2) (by exact xr_move rfl e3) rfl rfl rfl ?_
    refine ol_val (v := .int .u32 (IntKind.u32.wrap (4294967295 - e2))) (by exact xr_sub rfl rfl rfl) rfl rfl rfl ?_
    refine ol_val (v := .int .u32 (IntKind.u32.wrap (4294967295 - e2))) (by exact xr_assign rfl rfl) rfl rfl rfl ?_
    refine ol_nil ?_
    refine cw_ret ?_
    repeat (first | with_reducible refine thn_r ?_ | with_reducible refine blk_r ?_)
    obtain rfl := Option.some.inj h
    refine fin_ret1 Try.results139 rfl ?_
    exact ⟨_, rfl, rfl, fB⟩
end Go.Proofs.Ytklhbaghbmndeaa

/- Sums in plain words: steps of one bit over words of 32 bits; the program's halves of octets and the document's single steps tell the same. -/
set_option linter.unusedVariables false
set_option linter.unusedSimpArgs false
namespace Go.Proofs.Ytklhbaghbmndeaa.Pure
open Go Go.Xw
def I32 (x : BitVec 32) : Int := (x.toNat : Int)
theorem I32_lt (x : BitVec 32) : 0 ≤ I32 x ∧ I32 x ≤ 4294967295 := by
  unfold I32
  have := x.isLt
  omega
theorem ofI (x : BitVec 32) : BitVec.ofInt 32 (I32 x) = x := by
  unfold I32
  rw [BitVec.ofInt_natCast, BitVec.ofNat_toNat, BitVec.setWidth_eq]
theorem I32_of {n : Int} (h0 : 0 ≤ n) (h1 : n ≤ 4294967295) : n = I32 (BitVec.ofNat 32 n.toNat) := by
  unfold I32
  rw [BitVec.toNat_ofNat, Nat.mod_eq_of_lt (by omega)]
  omega
theorem wI32 (x : BitVec 32) : IntKind.u32.wrap (I32 x) = I32 x := wu32 (I32_lt x).1 (I32_lt x).2
theorem bx32 (x y : BitVec 32) : bXor .u32 (I32 x) (I32 y) = I32 (x ^^^ y) := by
  unfold bXor
  show IntKind.u32.wrap (((BitVec.ofInt 32 (I32 x) ^^^ BitVec.ofInt 32 (I32 y)).toNat : Nat) : Int) = _
  rw [ofI, ofI]
  exact wI32 _
theorem ba32 (x y : BitVec 32) : bAnd .u32 (I32 x) (I32 y) = I32 (x &&& y) := by
  unfold bAnd
  show IntKind.u32.wrap (((BitVec.ofInt 32 (I32 x) &&& BitVec.ofInt 32 (I32 y)).toNat : Nat) : Int) = _
  rw [ofI, ofI]
  exact wI32 _
theorem sr32 (x : BitVec 32) (n : Nat) (hn : n ≤ 32) : shR .u32 (I32 x) (n : Int) = I32 (x >>> n) := by
  unfold shR I32
  rw [BitVec.toNat_ushiftRight, Nat.shiftRight_eq_div_pow]
  show Int.fdiv (x.toNat : Int) (2 ^ min ((n : Int).toNat) 32) = _
  rw [Int.toNat_natCast, Nat.min_eq_left hn, Int.fdiv_eq_ediv_of_nonneg _ (Int.le_of_lt (Int.pow_pos (by decide)))]
  simp
def poly : BitVec 32 := 2197175160#32
def stp (x : BitVec 32) : BitVec 32 := (x >>> 1) ^^^ (if x.getLsbD 0 then poly else 0#32)
theorem lsb_and (x : BitVec 32) : (I32 (x &&& 1#32) = 1) ↔ x.getLsbD 0 = true := by
  unfold I32
  rw [BitVec.toNat_and]
  show ((x.toNat &&& 1 : Nat) : Int) = 1 ↔ x.toNat.testBit 0 = true
  rw [Nat.and_one_is_mod, Nat.testBit_zero]
  simp
  omega
theorem step_eq (fu : Nat) (x : BitVec 32) : crc_step.f fu (I32 x) = some (I32 (stp x)) := by
  unfold crc_step.f stp
  have e1 : bAnd .u32 (I32 x) 1 = I32 (x &&& 1#32) := ba32 x 1#32
  have e2 : shR .u32 (I32 x) 1 = I32 (x >>> 1) := sr32 x 1 (by decide)
  have e3 : bXor .u32 (I32 (x >>> 1)) 2197175160 = I32 (x >>> 1 ^^^ poly) := bx32 (x >>> 1) poly
  rw [e1, e2, e3]
  by_cases h : x.getLsbD 0 = true
  · rw [if_pos (by simpa using (lsb_and x).2 h), if_pos h]
  · rw [if_neg (by simpa using fun e => h ((lsb_and x).1 e)), if_neg h]
    simp
theorem rstep_eq (fu : Nat) (x : BitVec 32) : rickyardref02_Step.f fu (I32 x) = some (I32 (stp x)) := by
  unfold rickyardref02_Step.f stp
  have hb := I32_lt x
  have e1 : Int.tmod (I32 x) 2 = I32 (x &&& 1#32) := by
    rw [Int.tmod_eq_emod_of_nonneg hb.1]
    unfold I32
    rw [BitVec.toNat_and]
    show ((x.toNat : Int)) % 2 = ((x.toNat &&& 1 : Nat) : Int)
    rw [Nat.and_one_is_mod]
    omega
  have e2 : Int.tdiv (I32 x) 2 = I32 (x >>> 1) := by
    rw [Int.tdiv_eq_ediv_of_nonneg hb.1]
    unfold I32
    rw [BitVec.toNat_ushiftRight, Nat.shiftRight_eq_div_pow]
    omega
  have e3 : bXor .u32 (I32 (x >>> 1)) 2197175160 = I32 (x >>> 1 ^^^ poly) := bx32 (x >>> 1) poly
  rw [e1, e2, wI32, e3]
  by_cases h : x.getLsbD 0 = true
  · rw [if_pos (by simpa using (lsb_and x).2 h), if_pos h]
  · rw [if_neg (by simpa using fun e => h ((lsb_and x).1 e)), if_neg h]
    simp
theorem xor4 (a b p q : BitVec 32) : (a ^^^ b) ^^^ (p ^^^ q) = (a ^^^ p) ^^^ (b ^^^ q) := by
  rw [BitVec.xor_assoc, ← BitVec.xor_assoc b, BitVec.xor_comm b p, BitVec.xor_assoc p, ← BitVec.xor_assoc]
theorem sel_xor (a b : Bool) (p : BitVec 32) : (if (a ^^ b) = true then p else 0#32) = (if a = true then p else 0#32) ^^^ (if b = true then p else 0#32) := by
  cases a <;> cases b <;> simp
theorem stp_xor (x y : BitVec 32) : stp (x ^^^ y) = stp x ^^^ stp y := by
  unfold stp
  rw [BitVec.ushiftRight_xor_distrib, BitVec.getLsbD_xor, sel_xor, xor4]
def stps : Nat → BitVec 32 → BitVec 32
  | 0, x => x
  | n + 1, x => stps n (stp x)
theorem stps_xor : ∀ (n : Nat) (x y : BitVec 32), stps n (x ^^^ y) = stps n x ^^^ stps n y
  | 0, x, y => rfl
  | n + 1, x, y => by
    unfold stps
    rw [stp_xor, stps_xor n]
theorem stps_add (m : Nat) : ∀ (n : Nat) (x : BitVec 32), stps (n + m) x = stps m (stps n x)
  | 0, x => by simp [stps]
  | n + 1, x => by
    rw [Nat.add_right_comm]
    show stps (n + m) (stp x) = stps m (stps n (stp x))
    exact stps_add m n (stp x)
theorem stps_succ (n : Nat) (x : BitVec 32) : stps (n + 1) x = stp (stps n x) := stps_add 1 n x
theorem stp_even {x : BitVec 32} (h : x.getLsbD 0 = false) : stp x = x >>> 1 := by
  unfold stp
  rw [h]
  simp
theorem stps_high (x : BitVec 32) : ∀ n, (∀ j, j < n → x.getLsbD j = false) → stps n x = x >>> n
  | 0, _ => by simp [stps]
  | n + 1, h => by
    rw [stps_succ, stps_high x n fun j hj => h j (by omega)]
    rw [stp_even (by rw [BitVec.getLsbD_ushiftRight]; exact h (n + 0) (by omega)), ← BitVec.shiftRight_add]
theorem low_bit (n j : Nat) (hj : j < n) (hn : n ≤ 32) : (BitVec.ofNat 32 (2 ^ n - 1)).getLsbD j = true := by
  rw [BitVec.getLsbD_ofNat, Nat.testBit_two_pow_sub_one]
  simp
  omega
theorem high_bit (n j : Nat) (hj : n ≤ j) : (BitVec.ofNat 32 (2 ^ n - 1)).getLsbD j = false := by
  rw [BitVec.getLsbD_ofNat, Nat.testBit_two_pow_sub_one]
  simp
  omega
/-- n steps: what is above the lowest n bits moves down, the lowest n bits make the rest. -/
theorem stps_split (n : Nat) (hn : n ≤ 32) (x : BitVec 32) : stps n x = (x >>> n) ^^^ stps n (x &&& BitVec.ofNat 32 (2 ^ n - 1)) := by
  have e : x = (x &&& ~~~ BitVec.ofNat 32 (2 ^ n - 1)) ^^^ (x &&& BitVec.ofNat 32 (2 ^ n - 1)) := by
    apply BitVec.eq_of_getLsbD_eq
    intro i hi
    rw [BitVec.getLsbD_xor, BitVec.getLsbD_and, BitVec.getLsbD_and, BitVec.getLsbD_not]
    cases x.getLsbD i <;> cases (BitVec.ofNat 32 (2 ^ n - 1)).getLsbD i <;> simp [hi]
  conv => lhs; rw [e]
  rw [stps_xor, stps_high]
  · congr 1
    apply BitVec.eq_of_getLsbD_eq
    intro i hi
    rw [BitVec.getLsbD_ushiftRight, BitVec.getLsbD_ushiftRight, BitVec.getLsbD_and, BitVec.getLsbD_not, high_bit n (n + i) (by omega)]
    by_cases h : n + i < 32
    · simp [h]
    · have : x.getLsbD (n + i) = false := BitVec.getLsbD_of_ge _ _ (by omega)
      simp [this]
  · intro j hj
    rw [BitVec.getLsbD_and, BitVec.getLsbD_not, low_bit n j hj hn]
    simp
/-- Steps lose nothing. -/
theorem stp_inj0 {x : BitVec 32} (h : stp x = 0#32) : x = 0#32 := by
  unfold stp at h
  have hp : poly.getLsbD 31 = true := by decide
  have h31 : (stp x).getLsbD 31 = x.getLsbD 0 := by
    unfold stp
    rw [BitVec.getLsbD_xor, BitVec.getLsbD_ushiftRight, BitVec.getLsbD_of_ge x (1 + 31) (by omega)]
    cases x.getLsbD 0 <;> simp [hp]
  have h0 : x.getLsbD 0 = false := by
    rw [← h31]
    unfold stp
    rw [h]
    simp
  simp only [h0] at h
  apply BitVec.eq_of_getLsbD_eq
  intro i hi
  cases i with
  | zero => rw [h0]; simp
  | succ i =>
    have := congrArg (fun z => z.getLsbD i) h
    simp [BitVec.getLsbD_ushiftRight] at this
    rw [Nat.add_comm] at this
    simpa using this
theorem stps_inj0 : ∀ (n : Nat) {x : BitVec 32}, stps n x = 0#32 → x = 0#32
  | 0, x, h => h
  | n + 1, x, h => stp_inj0 (stps_inj0 n h)
def Bytes (l : List Int) : Prop := ∀ x ∈ l, 0 ≤ x ∧ x ≤ 255
def b32 (c : Int) : BitVec 32 := BitVec.ofNat 32 c.toNat
theorem b32_eq {c : Int} (h : 0 ≤ c ∧ c ≤ 255) : IntKind.u32.wrap c = I32 (b32 c) := by
  rw [wu32 h.1 (by omega)]
  exact I32_of h.1 (by omega)
def take8 (x : BitVec 32) (c : Int) : BitVec 32 := stps 8 (x ^^^ b32 c)
def regs (x : BitVec 32) (l : List Int) : BitVec 32 := l.foldl take8 x
def tabL : List Int := (List.range 16).map fun i => I32 (stps 4 (BitVec.ofNat 32 i))
def tabA : Arr 16 Int := ⟨tabL, rfl⟩
theorem table_at (n : Nat) : crc_Table.f (n + 20) = some tabA := by kernel_rfl
theorem table_eq {fu : Nat} (h : 20 ≤ fu) : crc_Table.f fu = some tabA := by
  obtain ⟨n, rfl⟩ : ∃ n, fu = n + 20 := ⟨fu - 20, by omega⟩
  exact table_at n
theorem tab_get : ∀ i : Fin 16, Arr.get tabA ((i : Nat) : Int) = I32 (stps 4 (BitVec.ofNat 32 (i : Nat))) := by decide +kernel
theorem nib (x : BitVec 32) : bXor .u32 (shR .u32 (I32 x) 4) (Arr.get tabA (bAnd .u32 (I32 x) 15)) = I32 (stps 4 x) := by
  have e1 : bAnd .u32 (I32 x) 15 = I32 (x &&& 15#32) := ba32 x 15#32
  have e2 : shR .u32 (I32 x) 4 = I32 (x >>> 4) := sr32 x 4 (by decide)
  have hlt : (x &&& 15#32).toNat < 16 := by
    rw [BitVec.toNat_and]
    exact Nat.lt_of_le_of_lt Nat.and_le_right (by decide)
  have e3 : Arr.get tabA (I32 (x &&& 15#32)) = I32 (stps 4 (x &&& 15#32)) := by
    have := tab_get ⟨(x &&& 15#32).toNat, hlt⟩
    simp only [BitVec.ofNat_toNat, BitVec.setWidth_eq] at this
    exact this
  rw [e1, e2, e3, bx32]
  exact congrArg I32 (stps_split 4 (by decide) x).symm
theorem nib_in (x : BitVec 32) : 0 ≤ bAnd .u32 (I32 x) 15 ∧ bAnd .u32 (I32 x) 15 < 16 := by
  have e1 : bAnd .u32 (I32 x) 15 = I32 (x &&& 15#32) := ba32 x 15#32
  have hlt : (x &&& 15#32).toNat < 16 := by
    rw [BitVec.toNat_and]
    exact Nat.lt_of_le_of_lt Nat.and_le_right (by decide)
  rw [e1]
  unfold I32
  omega
theorem ix_nat {α : Type} [Inhabited α] {l : List α} {j : Nat} (h : j < l.length) : ix l (j : Int) = l[j] := by
  simp [ix, List.getD_eq_getElem?_getD, List.getElem?_eq_getElem h]
theorem take_next {α : Type} {l : List α} {j : Nat} (h : j < l.length) : l.take (j + 1) = l.take j ++ [l[j]] := by
  rw [List.take_add_one, List.getElem?_eq_getElem h]
  rfl
theorem reg_eq {fu : Nat} {x : BitVec 32} {l : List Int} (hb : Bytes l) (hl : l.length ≤ 9000000000000000000) (hf : l.length < fu) : crc_register.f fu tabA (I32 x) l = some (I32 (regs x l)) := by
  unfold crc_register.f
  have : loopM (crc_register.s0 fu tabA l) fu (I32 x, 0) = some (I32 (regs x l)) := by
    refine loopM_run (S := fun j => (I32 (regs x (l.take j)), (j : Int))) l.length (by simp [regs]) ?_ ?_ hf
    · intro j hj
      unfold crc_register.s0
      have h1 : (j : Int) < (l.length : Int) := by omega
      have w3 : IntKind.i64.wrap ((j : Int) + 1) = ((j + 1 : Nat) : Int) := by rw [w64 (by omega) (by omega)]; omega
      have hc := hb _ (List.getElem_mem hj)
      have e1 : bXor .u32 (I32 (regs x (l.take j))) (IntKind.u32.wrap (ix l (j : Int))) = I32 (regs x (l.take j) ^^^ b32 l[j]) := by
        rw [ix_nat hj, b32_eq hc, bx32]
      have e2 : regs x (l.take (j + 1)) = stps 4 (stps 4 (regs x (l.take j) ^^^ b32 l[j])) := by
        rw [take_next hj]
        unfold regs
        rw [List.foldl_append]
        exact stps_add 4 4 _
      simp only [h1, decide_true, if_true, e1, nib, w3, e2]
      rw [if_pos ⟨by omega, trivial⟩, if_pos (nib_in _), if_pos (nib_in _)]
    · unfold crc_register.s0
      simp
  rw [this]
  rfl
def ones : BitVec 32 := 4294967295#32
def crc (l : List Int) : BitVec 32 := regs ones l ^^^ ones
theorem regs_append (x : BitVec 32) (a b : List Int) : regs x (a ++ b) = regs (regs x a) b := by
  unfold regs
  rw [List.foldl_append]
theorem sum_eq {fu : Nat} {l : List Int} (hb : Bytes l) (hl : l.length ≤ 9000000000000000000) (hf : l.length + 20 < fu) : crc_Sum.f fu [l] = some (I32 (crc l)) := by
  unfold crc_Sum.f
  rw [table_eq (by omega)]
  have : loopM (crc_Sum.s0 fu [l] tabA) fu (4294967295, 0) = some (I32 (regs ones l)) := by
    refine loopM_run (S := fun j => (if j = 0 then I32 ones else I32 (regs ones l), (j : Int))) 1 rfl ?_ ?_ (by omega)
    · intro j hj
      obtain rfl : j = 0 := by omega
      unfold crc_Sum.s0
      have e0 : ix [l] ((0 : Nat) : Int) = l := rfl
      have w3 : IntKind.i64.wrap (((0 : Nat) : Int) + 1) = ((0 + 1 : Nat) : Int) := by decide
      simp only [e0, w3, if_true, reg_eq hb hl (by omega : l.length < fu)]
      simp
    · unfold crc_Sum.s0
      simp
  simp only [Option.bind_some]
  rw [this]
  simp only [Option.bind_some]
  exact congrArg some (bx32 _ ones)
theorem rsteps_eq {fu : Nat} {x : BitVec 32} (hf : 8 < fu) : rickyardref02_Steps.f fu (I32 x) 8 = some (I32 (stps 8 x)) := by
  unfold rickyardref02_Steps.f
  have : loopM (rickyardref02_Steps.s0 fu 8) fu (I32 x, 0) = some (I32 (stps 8 x)) := by
    refine loopM_run (S := fun j => (I32 (stps j x), (j : Int))) 8 rfl ?_ ?_ hf
    · intro j hj
      unfold rickyardref02_Steps.s0
      have h1 : (j : Int) < 8 := by omega
      have w3 : IntKind.i64.wrap ((j : Int) + 1) = ((j + 1 : Nat) : Int) := by rw [w64 (by omega) (by omega)]; omega
      simp only [h1, decide_true, if_true, rstep_eq, w3, stps_succ]
      rfl
    · unfold rickyardref02_Steps.s0
      simp
  rw [this]
  rfl
theorem rsum_eq {fu : Nat} {l : List Int} (hb : Bytes l) (hl : l.length ≤ 9000000000000000000) (hf : l.length + 20 < fu) : rickyardref02_Sum.f fu l = some (I32 (crc l)) := by
  unfold rickyardref02_Sum.f
  have : loopM (rickyardref02_Sum.s0 fu l) fu (4294967295, 0) = some (I32 (regs ones l)) := by
    refine loopM_run (S := fun j => (I32 (regs ones (l.take j)), (j : Int))) l.length (by simp [regs]; rfl) ?_ ?_ (by omega)
    · intro j hj
      unfold rickyardref02_Sum.s0
      have h1 : (j : Int) < (l.length : Int) := by omega
      have w3 : IntKind.i64.wrap ((j : Int) + 1) = ((j + 1 : Nat) : Int) := by rw [w64 (by omega) (by omega)]; omega
      have hc := hb _ (List.getElem_mem hj)
      have e1 : bXor .u32 (I32 (regs ones (l.take j))) (IntKind.u32.wrap (ix l (j : Int))) = I32 (regs ones (l.take j) ^^^ b32 l[j]) := by
        rw [ix_nat hj, b32_eq hc, bx32]
      have e2 : regs ones (l.take (j + 1)) = stps 8 (regs ones (l.take j) ^^^ b32 l[j]) := by
        rw [take_next hj]
        unfold regs
        rw [List.foldl_append]
        rfl
      simp only [h1, decide_true, if_true, e1, w3, e2, rsteps_eq (by omega : 8 < fu)]
      rw [if_pos ⟨by omega, trivial⟩]
      rfl
    · unfold rickyardref02_Sum.s0
      simp
  rw [this]
  have e : IntKind.u32.wrap (4294967295 - I32 (regs ones l)) = I32 (crc l) := by
    have hlt := (regs ones l).isLt
    have h2 : (crc l).toNat = 4294967295 - (regs ones l).toNat := by
      unfold crc
      have : regs ones l ^^^ ones = ~~~ (regs ones l) := by
        apply BitVec.eq_of_getLsbD_eq
        intro i hi
        have ho : ones.getLsbD i = true := by
          have := low_bit 32 i hi (by decide)
          exact this
        rw [BitVec.getLsbD_xor, BitVec.getLsbD_not, ho]
        simp [hi]
      rw [this, BitVec.toNat_not]
    unfold I32
    rw [h2, wu32 (by omega) (by omega)]
    omega
  simp only [Option.bind_some, e]
end Go.Proofs.Ytklhbaghbmndeaa.Pure

/- rickyard/octet.there: its model, and that the Go function computes it: written by gen.py. -/
set_option linter.unusedVariables false
namespace Go.Proofs.Ytklhbaghbmndeaa
open Go Go.Xw
def octet_there.f (fu : Nat) (a0 : List Int) (a1 : Int) (a2 : Int) : Option Bool := some ((if (decide (a1 ≥ 0)) = true then (if (decide (a2 ≥ 0)) = true then (if (decide (a2 ≤ (List.length a0 : Int))) = true then (decide (a1 ≤ (IntKind.i64.wrap ((List.length a0 : Int) - a2)))) else false) else false) else false))
set_option maxRecDepth 100000 in
set_option maxHeartbeats 400000 in
theorem octet_there.ok (fu : Nat) (w : World) (a0 : List Int) (V0_0 : Value) (R0_0 : Rd (kI .u8) w V0_0 a0) (a1 : Int) (a2 : Int) (r : Bool) (h : octet_there.f fu a0 a1 a2 = some r) :
    Calls Try.prog 147 (([V0_0, .int .i64 a1, .int .i64 a2] : List Value).toArray) w (fun e w' => ∃ v, e = .returned v ∧ v = .bool r ∧ Gr w w') := by
  unfold octet_there.f at h
  have fB : Gr w w := Fr.refl _ _
  refine calls_cw Try.func147 rfl Try.ntmps147 rfl ?_
  refine cw_seq ?_
  refine cw_region ?_
  refine ol_val (v := .bool false) (by exact xr_assign rfl rfl) rfl rfl rfl ?_
  refine ol_nil ?_
  refine cw_seq ?_
  refine cw_mid (fun ρ' w' => ρ' 6 = .bool (if (decide (a1 ≥ 0)) = true then (if (decide (a2 ≥ 0)) = true then (if (decide (a2 ≤ (List.length a0 : Int))) = true then (decide (a1 ≤ (IntKind.i64.wrap ((List.length a0 : Int) - a2)))) else false) else false) else false) ∧ w = w') ?_ ?_
  · skip
    refine cw_region ?_
    refine ol_val (v := .int .i64 a1) (by exact xr_move rfl rfl) rfl rfl rfl ?_
    refine ol_val (v := .bool (decide (a1 ≥ 0))) (by exact xr_geq rfl rfl rfl) rfl rfl rfl ?_
    refine ol_val (v := .bool (decide (a1 ≥ 0))) (by exact xr_move rfl rfl) rfl rfl rfl ?_
    rcases bt (decide (a1 ≥ 0)) with c1 | c1
    · skip
      refine ol_gval (v := .int .i64 a2) (by exact xr_move rfl rfl) rfl rfl rfl rfl rfl c1 ?_
      refine ol_gval (v := .bool (decide (a2 ≥ 0))) (by exact xr_geq rfl rfl rfl) rfl rfl rfl rfl rfl c1 ?_
      refine ol_val (v := .bool (decide (a2 ≥ 0))) (by exact xr_pickT rfl rfl c1 rfl) rfl rfl rfl ?_
      refine ol_val (v := .bool (decide (a2 ≥ 0))) (by exact xr_move rfl rfl) rfl rfl rfl ?_
      rcases bt (decide (a2 ≥ 0)) with c2 | c2
      · skip
        refine ol_gval (v := .int .i64 a2) (by exact xr_move rfl rfl) rfl rfl rfl rfl rfl c2 ?_
        refine ol_gval (v := V0_0) (by exact xr_move rfl rfl) rfl rfl rfl rfl rfl c2 ?_
        refine ol_gval (v := .int .i64 (List.length a0 : Int)) (by exact xr_lenR rfl Try.underlying43 rfl (R0_0.gr fB)) rfl rfl rfl rfl rfl c2 ?_
        refine ol_gval (v := .bool (decide (a2 ≤ (List.length a0 : Int)))) (by exact xr_leq rfl rfl rfl) rfl rfl rfl rfl rfl c2 ?_
        refine ol_val (v := .bool (decide (a2 ≤ (List.length a0 : Int)))) (by exact xr_pickT rfl rfl c2 rfl) rfl rfl rfl ?_
        refine ol_val (v := .bool (decide (a2 ≤ (List.length a0 : Int)))) (by exact xr_move rfl rfl) rfl rfl rfl ?_
        rcases bt (decide (a2 ≤ (List.length a0 : Int))) with c3 | c3
        · skip
          refine ol_gval (v := .int .i64 a1) (by exact xr_move rfl rfl) rfl rfl rfl rfl rfl c3 ?_
          refine ol_gval (v := V0_0) (by exact xr_move rfl rfl) rfl rfl rfl rfl rfl c3 ?_
          refine ol_gval (v := .int .i64 (List.length a0 : Int)) (by exact xr_lenR rfl Try.underlying43 rfl (R0_0.gr fB)) rfl rfl rfl rfl rfl c3 ?_
          refine ol_gval (v := .int .i64 a2) (by exact xr_move rfl rfl) rfl rfl rfl rfl rfl c3 ?_
          refine ol_gval (v := .int .i64 (IntKind.i64.wrap ((List.length a0 : Int) - a2))) (by exact xr_sub rfl rfl rfl) rfl rfl rfl rfl rfl c3 ?_
          refine ol_gval (v := .bool (decide (a1 ≤ (IntKind.i64.wrap ((List.length a0 : Int) - a2))))) (by exact xr_leq rfl rfl rfl) rfl rfl rfl rfl rfl c3 ?_
          refine ol_val (v := .bool (decide (a1 ≤ (IntKind.i64.wrap ((List.length a0 : Int) - a2))))) (by exact xr_pickT rfl rfl c3 rfl) rfl rfl rfl ?_
          refine ol_val (v := .bool (decide (a1 ≤ (IntKind.i64.wrap ((List.length a0 : Int) - a2))))) (by exact xr_assign rfl rfl) rfl rfl rfl ?_
          refine ol_nil ?_
          refine thn_i ?_
          exact ⟨(rfl).trans (congrArg (fun z => (.bool z : Value)) (show (decide (a1 ≤ (IntKind.i64.wrap ((List.length a0 : Int) - a2)))) = (if (decide (a1 ≥ 0)) = true then (if (decide (a2 ≥ 0)) = true then (if (decide (a2 ≤ (List.length a0 : Int))) = true then (decide (a1 ≤ (IntKind.i64.wrap ((List.length a0 : Int) - a2)))) else false) else false) else false) from by rw [ite_t c1, ite_t c2, ite_t c3])), rfl⟩
        · skip
          refine ol_gskip rfl rfl rfl rfl rfl c3 ?_
          refine ol_gskip rfl rfl rfl rfl rfl c3 ?_
          refine ol_gskip rfl rfl rfl rfl rfl c3 ?_
          refine ol_gskip rfl rfl rfl rfl rfl c3 ?_
          refine ol_gskip rfl rfl rfl rfl rfl c3 ?_
          refine ol_gskip rfl rfl rfl rfl rfl c3 ?_
          refine ol_val (v := .bool false) (by exact xr_pickF rfl rfl c3 rfl) rfl rfl rfl ?_
          refine ol_val (v := .bool false) (by exact xr_assign rfl rfl) rfl rfl rfl ?_
          refine ol_nil ?_
          refine thn_i ?_
          exact ⟨(rfl).trans (congrArg (fun z => (.bool z : Value)) (show false = (if (decide (a1 ≥ 0)) = true then (if (decide (a2 ≥ 0)) = true then (if (decide (a2 ≤ (List.length a0 : Int))) = true then (decide (a1 ≤ (IntKind.i64.wrap ((List.length a0 : Int) - a2)))) else false) else false) else false) from by rw [ite_t c1, ite_t c2, ite_f c3])), rfl⟩
      · skip
        refine ol_gskip rfl rfl rfl rfl rfl c2 ?_
        refine ol_gskip rfl rfl rfl rfl rfl c2 ?_
        refine ol_gskip rfl rfl rfl rfl rfl c2 ?_
        refine ol_gskip rfl rfl rfl rfl rfl c2 ?_
        refine ol_val (v := .bool false) (by exact xr_pickF rfl rfl c2 rfl) rfl rfl rfl ?_
        refine ol_val (v := .bool false) (by exact xr_move rfl rfl) rfl rfl rfl ?_
        refine ol_gskip rfl rfl rfl rfl rfl rfl ?_
        refine ol_gskip rfl rfl rfl rfl rfl rfl ?_
        refine ol_gskip rfl rfl rfl rfl rfl rfl ?_
        refine ol_gskip rfl rfl rfl rfl rfl rfl ?_
        refine ol_gskip rfl rfl rfl rfl rfl rfl ?_
        refine ol_gskip rfl rfl rfl rfl rfl rfl ?_
        refine ol_val (v := .bool false) (by exact xr_pickF rfl rfl rfl rfl) rfl rfl rfl ?_
        refine ol_val (v := .bool false) (by exact xr_assign rfl rfl) rfl rfl rfl ?_
        refine ol_nil ?_
        refine thn_i ?_
        exact ⟨(rfl).trans (congrArg (fun z => (.bool z : Value)) (show false = (if (decide (a1 ≥ 0)) = true then (if (decide (a2 ≥ 0)) = true then (if (decide (a2 ≤ (List.length a0 : Int))) = true then (decide (a1 ≤ (IntKind.i64.wrap ((List.length a0 : Int) - a2)))) else false) else false) else false) from by rw [ite_t c1, ite_f c2])), rfl⟩
    · skip
      refine ol_gskip rfl rfl rfl rfl rfl c1 ?_
      refine ol_gskip rfl rfl rfl rfl rfl c1 ?_
      refine ol_val (v := .bool false) (by exact xr_pickF rfl rfl c1 rfl) rfl rfl rfl ?_
      refine ol_val (v := .bool false) (by exact xr_move rfl rfl) rfl rfl rfl ?_
      refine ol_gskip rfl rfl rfl rfl rfl rfl ?_
      refine ol_gskip rfl rfl rfl rfl rfl rfl ?_
      refine ol_gskip rfl rfl rfl rfl rfl rfl ?_
      refine ol_gskip rfl rfl rfl rfl rfl rfl ?_
      refine ol_val (v := .bool false) (by exact xr_pickF rfl rfl rfl rfl) rfl rfl rfl ?_
      refine ol_val (v := .bool false) (by exact xr_move rfl rfl) rfl rfl rfl ?_
      refine ol_gskip rfl rfl rfl rfl rfl rfl ?_
      refine ol_gskip rfl rfl rfl rfl rfl rfl ?_
      refine ol_gskip rfl rfl rfl rfl rfl rfl ?_
      refine ol_gskip rfl rfl rfl rfl rfl rfl ?_
      refine ol_gskip rfl rfl rfl rfl rfl rfl ?_
      refine ol_gskip rfl rfl rfl rfl rfl rfl ?_
      refine ol_val (v := .bool false) (by exact xr_pickF rfl rfl rfl rfl) rfl rfl rfl ?_
      refine ol_val (v := .bool false) (by exact xr_assign rfl rfl) rfl rfl rfl ?_
      refine ol_nil ?_
      refine thn_i ?_
      exact ⟨(rfl).trans (congrArg (fun z => (.bool z : Value)) (show false = (if (decide (a1 ≥ 0)) = true then (if (decide (a2 ≥ 0)) = true then (if (decide (a2 ≤ (List.length a0 : Int))) = true then (decide (a1 ≤ (IntKind.i64.wrap ((List.length a0 : Int) - a2)))) else false) else false) else false) from by rw [ite_f c1])), rfl⟩
  · skip
    rintro ρ4 _ ⟨e6, rfl⟩
    refine cw_ret ?_
    repeat (first | with_reducible refine thn_r ?_ | with_reducible refine blk_r ?_)
    obtain rfl := Option.some.inj h
    refine fin_ret1 Try.results147 e6 ?_
    exact ⟨_, rfl, rfl, fB⟩
end Go.Proofs.Ytklhbaghbmndeaa

/- rickyard/octet.Noughts: its model, and that the Go function computes it: written by gen.py. -/
set_option linter.unusedVariables false
namespace Go.Proofs.Ytklhbaghbmndeaa
open Go Go.Xw
def octet_Noughts.s0 (fu : Nat) (a0 : List Int) (a1 : Int) (a2 : Int) : Int → Option (Sum (Sum Bool Unit) Int) := fun s8 => (if (decide (s8 < (List.length (cut a0 a1 (IntKind.i64.wrap (a1 + a2))) : Int))) = true then (if 0 ≤ s8 ∧ s8 < (List.length (cut a0 a1 (IntKind.i64.wrap (a1 + a2))) : Int) then (if (!decide ((ix (cut a0 a1 (IntKind.i64.wrap (a1 + a2))) s8) = 0)) = true then some (Sum.inl (Sum.inl (false))) else some (Sum.inr ((IntKind.i64.wrap (s8 + 1))))) else none) else some (Sum.inl (Sum.inr ())))
def octet_Noughts.f (fu : Nat) (a0 : List Int) (a1 : Int) (a2 : Int) : Option Bool := ((octet_there.f fu a0 a1 a2 : Option Bool).bind fun t1 => (if (!t1) = true then some (false) else (if (0 : Int) ≤ a1 ∧ a1 ≤ (IntKind.i64.wrap (a1 + a2)) ∧ (IntKind.i64.wrap (a1 + a2)) ≤ (List.length a0 : Int) then ((loopM (octet_Noughts.s0 fu a0 a1 a2) fu (0)).bind fun e9 => match e9 with | Sum.inl p => some p | Sum.inr x12 => some (true)) else none)))
set_option maxRecDepth 100000 in
set_option maxHeartbeats 400000 in
theorem octet_Noughts.ok (fu : Nat) (w : World) (a0 : List Int) (V0_0 : Value) (R0_0 : Rd (kI .u8) w V0_0 a0) (a1 : Int) (a2 : Int) (r : Bool) (h : octet_Noughts.f fu a0 a1 a2 = some r) :
    Calls Try.prog 133 (([V0_0, .int .i64 a1, .int .i64 a2] : List Value).toArray) w (fun e w' => ∃ v, e = .returned v ∧ v = .bool r ∧ Gr w w') := by
  unfold octet_Noughts.f at h
  have fB : Gr w w := Fr.refl _ _
  refine calls_cw Try.func133 rfl Try.ntmps133 rfl ?_
  refine cw_seq ?_
  refine cw_region ?_
  refine ol_val (v := .bool false) (by exact xr_assign rfl rfl) rfl rfl rfl ?_
  refine ol_nil ?_
  refine cw_seq ?_
  refine cw_seq ?_
  refine cw_region ?_
  refine ol_val (v := V0_0) (by exact xr_move rfl rfl) rfl rfl rfl ?_
  refine ol_val (v := .int .i64 a1) (by exact xr_move rfl rfl) rfl rfl rfl ?_
  refine ol_val (v := .int .i64 a2) (by exact xr_move rfl rfl) rfl rfl rfl ?_
  obtain ⟨t1, k2, h⟩ := bs h
  refine ol_op (by exact opv_call rfl cal147 (ac rfl (ac rfl (ac rfl an))) (octet_there.ok fu _ a0 V0_0 (R0_0.gr fB) a1 a2 _ k2)) rfl rfl rfl ?_
  rintro _ w4 ⟨rfl, q3⟩
  have fB := fB.gr q3
  refine ol_val (v := .bool (!t1)) (by exact xr_not rfl rfl) rfl rfl rfl ?_
  refine ol_nil ?_
  rcases is h with ⟨c5, h⟩ | ⟨c5, h⟩
  · refine cw_condT rfl c5 ?_
    refine cw_seq ?_
    refine cw_region ?_
    refine ol_val (v := .bool false) (by exact xr_assign rfl rfl) rfl rfl rfl ?_
    refine ol_nil ?_
    refine cw_ret ?_
    repeat (first | with_reducible refine thn_r ?_ | with_reducible refine blk_r ?_)
    obtain rfl := Option.some.inj h
    refine fin_ret1 Try.results133 rfl ?_
    exact ⟨_, rfl, rfl, fB⟩
  · refine cw_condF rfl c5 ?_
    refine cw_skip ?_
    refine cw_seq ?_
    refine cw_seq ?_
    refine cw_region ?_
    refine ol_val (v := V0_0) (by exact xr_move rfl rfl) rfl rfl rfl ?_
    refine ol_val (v := .int .i64 a1) (by exact xr_move rfl rfl) rfl rfl rfl ?_
    refine ol_val (v := .int .i64 a1) (by exact xr_move rfl rfl) rfl rfl rfl ?_
    refine ol_val (v := .int .i64 a2) (by exact xr_move rfl rfl) rfl rfl rfl ?_
    refine ol_val (v := .int .i64 (IntKind.i64.wrap (a1 + a2))) (by exact xr_add rfl rfl rfl) rfl rfl rfl ?_
    obtain ⟨g7, h⟩ := gs h
    refine ol_val (v := subv 1 V0_0 (Int.toNat a1) (Int.toNat (IntKind.i64.wrap (a1 + a2)))) (by exact xr_slice_lh (K := (kI .u8)) (v := V0_0) rfl Try.underlying43 sz5 rfl (R0_0.gr fB) rfl rfl g7.1 g7.2.1 g7.2.2) rfl rfl rfl ?_
    have r6 : Rd (kI .u8) w4 (subv 1 V0_0 (Int.toNat a1) (Int.toNat (IntKind.i64.wrap (a1 + a2)))) (cut a0 a1 (IntKind.i64.wrap (a1 + a2))) := (R0_0.gr fB).cut (lo := a1) (hi := (IntKind.i64.wrap (a1 + a2))) g7.1 g7.2.1 g7.2.2
    refine ol_val (v := .int .i64 (List.length (cut a0 a1 (IntKind.i64.wrap (a1 + a2))) : Int)) (by exact xr_lenR rfl Try.underlying43 rfl r6) rfl rfl rfl ?_
    refine ol_val (v := .int .i64 0) (by exact xr_move rfl rfl) rfl rfl rfl ?_
    refine ol_nil ?_
    obtain ⟨e9, l10, h11⟩ := bs h
    refine cw_mid (fun ρ' w' => ∃ x12, e9 = Sum.inr x12 ∧ Gr w w') ?_ ?_
    · refine cw_block ?_
      refine cw_round (fun (s8 : Int) ρ' w' => ∃ r6 : Rd (kI .u8) w' (subv 1 V0_0 (Int.toNat a1) (Int.toNat (IntKind.i64.wrap (a1 + a2)))) (cut a0 a1 (IntKind.i64.wrap (a1 + a2))), ρ' 19 = subv 1 V0_0 (Int.toNat a1) (Int.toNat (IntKind.i64.wrap (a1 + a2))) ∧ ρ' 20 = .int .i64 (List.length (cut a0 a1 (IntKind.i64.wrap (a1 + a2))) : Int) ∧ ρ' 21 = .int .i64 s8 ∧ Gr w w') l10 ?_ ?_
      · skip
        exact ⟨r6, rfl, rfl, rfl, fB⟩
      · rintro s8 x15 ρ13 w14 ⟨r6, e19, e20, e21, fB⟩ h
        unfold octet_Noughts.s0 at h
        refine cw_seq ?_
        refine cw_region ?_
        refine ol_val (v := .bool (decide (s8 < (List.length (cut a0 a1 (IntKind.i64.wrap (a1 + a2))) : Int)))) (by exact xr_lss rfl e21 e20) rfl rfl rfl ?_
        refine ol_nil ?_
        refine cw_seq ?_
        rcases is h with ⟨c16, h⟩ | ⟨c16, h⟩
        · refine cw_condT rfl c16 ?_
          refine cw_skip ?_
          refine cw_seq ?_
          refine cw_block ?_
          refine cw_seq ?_
          refine cw_region ?_
          obtain ⟨g17, h⟩ := gs h
          refine ol_val (v := .pointer (some ⟨(sb (subv 1 V0_0 (Int.toNat a1) (Int.toNat (IntKind.i64.wrap (a1 + a2))))), so (subv 1 V0_0 (Int.toNat a1) (Int.toNat (IntKind.i64.wrap (a1 + a2)))) + Int.toNat s8 * 1, none⟩)) (by exact xr_indexR (K := (kI .u8)) (v := subv 1 V0_0 (Int.toNat a1) (Int.toNat (IntKind.i64.wrap (a1 + a2)))) rfl Try.underlying43 sz5 e19 r6 e21 g17.1 g17.2) rfl rfl rfl ?_
          refine ol_val (v := .int .u8 (ix (cut a0 a1 (IntKind.i64.wrap (a1 + a2))) s8)) (by exact xr_load1 (v := .int .u8 (ix (cut a0 a1 (IntKind.i64.wrap (a1 + a2))) s8)) rfl ag5 rfl (r6.elem g17.1 g17.2)) rfl rfl rfl ?_
          refine ol_val (v := .int .u8 (ix (cut a0 a1 (IntKind.i64.wrap (a1 + a2))) s8)) (by exact xr_assign rfl rfl) rfl rfl rfl ?_
          refine ol_nil ?_
          refine cw_seq ?_
          refine cw_region ?_
          refine ol_val (v := .int .u8 (ix (cut a0 a1 (IntKind.i64.wrap (a1 + a2))) s8)) (by exact xr_move rfl rfl) rfl rfl rfl ?_
          refine ol_val (v := .bool (!decide ((ix (cut a0 a1 (IntKind.i64.wrap (a1 + a2))) s8) = 0))) (by exact xr_neI rfl Try.underlying5 rfl rfl rfl) rfl rfl rfl ?_
          refine ol_nil ?_
          rcases is h with ⟨c18, h⟩ | ⟨c18, h⟩
          · refine cw_condT rfl c18 ?_
            refine cw_seq ?_
            refine cw_region ?_
            refine ol_val (v := .bool false) (by exact xr_assign rfl rfl) rfl rfl rfl ?_
            refine ol_nil ?_
            refine cw_ret ?_
            repeat (first | with_reducible refine thn_r ?_ | with_reducible refine blk_r ?_)
            obtain rfl := Option.some.inj h
            refine lp_ret ?_
            rintro rfl
            repeat (first | with_reducible refine thn_r ?_ | with_reducible refine blk_r ?_)
            have h := h11
            obtain rfl := Option.some.inj h
            refine fin_ret1 Try.results133 rfl ?_
            exact ⟨_, rfl, rfl, fB⟩
          · refine cw_condF rfl c18 ?_
            refine cw_skip ?_
            refine blk_i ?_
            refine cw_region ?_
            refine ol_val (v := .int .i64 (IntKind.i64.wrap (s8 + 1))) (by exact xr_add rfl e21 rfl) rfl rfl rfl ?_
            refine ol_val (v := .int .i64 (IntKind.i64.wrap (s8 + 1))) (by exact xr_move rfl rfl) rfl rfl rfl ?_
            refine ol_nil ?_
            obtain rfl := Option.some.inj h
            refine lp_in ?_
            exact ⟨r6, e19, e20, rfl, fB⟩
        · refine cw_condF rfl c16 ?_
          refine cw_exit ?_
          repeat (first | with_reducible refine thn_e ?_ | with_reducible refine blk_e rfl ?_)
          obtain rfl := Option.some.inj h
          refine lp_exit ?_
          rintro rfl
          refine thn_x ?_
          exact ⟨_, rfl, fB⟩
    · rintro ρ19 w20 ⟨x12, rfl, fB⟩
      have h := h11
      refine cw_seq ?_
      refine cw_region ?_
      refine ol_val (v := .bool true) (by exact xr_assign rfl rfl) rfl rfl rfl ?_
      refine ol_nil ?_
      refine cw_ret ?_
      repeat (first | with_reducible refine thn_r ?_ | with_reducible refine blk_r ?_)
      obtain rfl := Option.some.inj h
      refine fin_ret1 Try.results133 rfl ?_
      exact ⟨_, rfl, rfl, fB⟩
end Go.Proofs.Ytklhbaghbmndeaa

/- rickyard/rickyardref01.Octet: its model, and that the Go function computes it: written by gen.py. -/
set_option linter.unusedVariables false
namespace Go.Proofs.Ytklhbaghbmndeaa
open Go Go.Xw
def rickyardref01_Octet.s0 (fu : Nat) (a1 : Int) : (Int × Int) → Option (Sum Int (Int × Int)) := fun s1 => (if (decide (s1.2 < a1)) = true then some (Sum.inr ((IntKind.u64.wrap (Int.tdiv s1.1 256)), (IntKind.i64.wrap (s1.2 + 1)))) else some (Sum.inl (s1.1)))
def rickyardref01_Octet.f (fu : Nat) (a0 : Int) (a1 : Int) : Option Int := ((loopM (rickyardref01_Octet.s0 fu a1) fu (a0, 0)).bind fun e2 => some ((IntKind.u8.wrap (Int.tmod e2 256))))
set_option maxRecDepth 100000 in
set_option maxHeartbeats 400000 in
theorem rickyardref01_Octet.ok (fu : Nat) (w : World) (a0 : Int) (a1 : Int) (r : Int) (h : rickyardref01_Octet.f fu a0 a1 = some r) :
    Calls Try.prog 137 (([.int .u64 a0, .int .i64 a1] : List Value).toArray) w (fun e w' => ∃ v, e = .returned v ∧ v = .int .u8 r ∧ Gr w w') := by
  unfold rickyardref01_Octet.f at h
  have fB : Gr w w := Fr.refl _ _
  refine calls_cw Try.func137 rfl Try.ntmps137 rfl ?_
  refine cw_seq ?_
  refine cw_region ?_
  refine ol_val (v := .int .u8 0) (by exact xr_assign rfl rfl) rfl rfl rfl ?_
  refine ol_nil ?_
  refine cw_seq ?_
  refine cw_seq ?_
  refine cw_region ?_
  refine ol_val (v := .int .i64 0) (by exact xr_assign rfl rfl) rfl rfl rfl ?_
  refine ol_nil ?_
  obtain ⟨e2, l3, h4⟩ := bs h
  refine cw_mid (fun ρ' w' => ρ' 0 = .int .u64 e2 ∧ Gr w w') ?_ ?_
  · refine cw_block ?_
    refine cw_round (fun (s1 : Int × Int) ρ' w' => ρ' 0 = .int .u64 s1.1 ∧ ρ' 1 = .int .i64 a1 ∧ ρ' 5 = .int .i64 s1.2 ∧ Gr w w') l3 ?_ ?_
    · skip
      exact ⟨rfl, rfl, rfl, fB⟩
    · rintro s1 x7 ρ5 w6 ⟨e0, e1, e5, fB⟩ h
      unfold rickyardref01_Octet.s0 at h
      refine cw_seq ?_
      refine cw_seq ?_
      refine cw_region ?_
      refine ol_val (v := .int .i64 s1.2) (by exact xr_move rfl e5) rfl rfl rfl ?_
      refine ol_val (v := .int .i64 a1) (by exact xr_move rfl e1) rfl rfl rfl ?_
      refine ol_val (v := .bool (decide (s1.2 < a1))) (by exact xr_lss rfl rfl rfl) rfl rfl rfl ?_
      refine ol_nil ?_
      rcases is h with ⟨c8, h⟩ | ⟨c8, h⟩
      · refine cw_condT rfl c8 ?_
        refine cw_skip ?_
        refine cw_seq ?_
        refine cw_block ?_
        refine cw_region ?_
        refine ol_val (v := .int .u64 s1.1) (by exact xr_move rfl e0) rfl rfl rfl ?_
        refine ol_val (v := .int .u64 (IntKind.u64.wrap (Int.tdiv s1.1 256))) (by exact xr_quo rfl rfl rfl (by decide)) rfl rfl rfl ?_
        refine ol_val (v := .int .u64 (IntKind.u64.wrap (Int.tdiv s1.1 256))) (by exact xr_assign rfl rfl) rfl rfl rfl ?_
        refine ol_nil ?_
        refine blk_i ?_
        refine cw_region ?_
        refine ol_val (v := .int .i64 s1.2) (by exact xr_move rfl e5) rfl rfl rfl ?_
        refine ol_val (v := .int .i64 (IntKind.i64.wrap (s1.2 + 1))) (by exact xr_add rfl rfl rfl) rfl rfl rfl ?_
        refine ol_val (v := .int .i64 (IntKind.i64.wrap (s1.2 + 1))) (by exact xr_assign rfl rfl) rfl rfl rfl ?_
        refine ol_nil ?_
        obtain rfl := Option.some.inj h
        refine lp_in ?_
        exact ⟨rfl, e1, rfl, fB⟩
      · refine cw_condF rfl c8 ?_
        refine cw_exit ?_
        repeat (first | with_reducible refine thn_e ?_ | with_reducible refine blk_e rfl ?_)
        obtain rfl := Option.some.inj h
        refine lp_exit ?_
        rintro rfl
        refine thn_x ?_
        exact ⟨e0, fB⟩
  · rintro ρ9 w10 ⟨e0, fB⟩
    have h := h4
    refine cw_seq ?_
    refine cw_region ?_
    refine ol_val (v := .int .u64 e2) (by exact xr_move rfl e0) rfl rfl rfl ?_
    refine ol_val (v := .int .u64 (Int.tmod e2 256)) (by exact xr_rem rfl rfl rfl (by decide)) rfl rfl rfl ?_
    refine ol_val (v := .int .u8 (IntKind.u8.wrap (Int.tmod e2 256))) (by exact xr_conv rfl Try.underlying22 Try.underlying5 rfl) rfl rfl rfl ?_
    refine ol_val (v := .int .u8 (IntKind.u8.wrap (Int.tmod e2 256))) (by exact xr_assign rfl rfl) rfl rfl rfl ?_
    refine ol_nil ?_
    refine cw_ret ?_
    repeat (first | with_reducible refine thn_r ?_ | with_reducible refine blk_r ?_)
    obtain rfl := Option.some.inj h
    refine fin_ret1 Try.results137 rfl ?_
    exact ⟨_, rfl, rfl, fB⟩
end Go.Proofs.Ytklhbaghbmndeaa

/- rickyard/rickyardref01.Lay: its model, and that the Go function computes it: written by gen.py. -/
set_option linter.unusedVariables false
namespace Go.Proofs.Ytklhbaghbmndeaa
open Go Go.Xw
def rickyardref01_Lay.s0 (fu : Nat) (a0 : Int) (a1 : Int) : ((List UInt8) × Int) → Option (Sum (List UInt8) ((List UInt8) × Int)) := fun s1 => (if (decide (s1.2 < a1)) = true then ((rickyardref01_Octet.f fu a0 s1.2 : Option Int).bind fun t9 => (if List.length s1.1 + List.length (List.map toB [t9]) ≤ LIM then some (Sum.inr ((s1.1 ++ (List.map toB [t9])), (IntKind.i64.wrap (s1.2 + 1)))) else none)) else some (Sum.inl (s1.1)))
def rickyardref01_Lay.f (fu : Nat) (a0 : Int) (a1 : Int) : Option (List UInt8) := ((loopM (rickyardref01_Lay.s0 fu a0 a1) fu ([], 0)).bind fun e2 => some (e2))
set_option maxRecDepth 100000 in
set_option maxHeartbeats 400000 in
theorem rickyardref01_Lay.ok (fu : Nat) (w : World) (a0 : Int) (a1 : Int) (r : (List UInt8)) (h : rickyardref01_Lay.f fu a0 a1 = some r) :
    Calls Try.prog 117 (([.int .u64 a0, .int .i64 a1] : List Value).toArray) w (fun e w' => ∃ v, e = .returned v ∧ v = sv r ∧ Gr w w') := by
  unfold rickyardref01_Lay.f at h
  have fB : Gr w w := Fr.refl _ _
  refine calls_cw Try.func117 rfl Try.ntmps117 rfl ?_
  refine cw_seq ?_
  refine cw_region ?_
  refine ol_val (v := sv []) (by exact xr_assign rfl rfl) rfl rfl rfl ?_
  refine ol_nil ?_
  refine cw_seq ?_
  refine cw_region ?_
  refine ol_val (v := sv []) (by exact xr_assign rfl rfl) rfl rfl rfl ?_
  refine ol_nil ?_
  refine cw_seq ?_
  refine cw_seq ?_
  refine cw_region ?_
  refine ol_val (v := .int .i64 0) (by exact xr_assign rfl rfl) rfl rfl rfl ?_
  refine ol_nil ?_
  obtain ⟨e2, l3, h4⟩ := bs h
  refine cw_mid (fun ρ' w' => ρ' 5 = sv e2 ∧ Gr w w') ?_ ?_
  · refine cw_block ?_
    refine cw_round (fun (s1 : (List UInt8) × Int) ρ' w' => ρ' 0 = .int .u64 a0 ∧ ρ' 1 = .int .i64 a1 ∧ ρ' 5 = sv s1.1 ∧ ρ' 6 = .int .i64 s1.2 ∧ Gr w w') l3 ?_ ?_
    · skip
      exact ⟨rfl, rfl, rfl, rfl, fB⟩
    · rintro s1 x7 ρ5 w6 ⟨e0, e1, e5, e6, fB⟩ h
      unfold rickyardref01_Lay.s0 at h
      refine cw_seq ?_
      refine cw_seq ?_
      refine cw_region ?_
      refine ol_val (v := .int .i64 s1.2) (by exact xr_move rfl e6) rfl rfl rfl ?_
      refine ol_val (v := .int .i64 a1) (by exact xr_move rfl e1) rfl rfl rfl ?_
      refine ol_val (v := .bool (decide (s1.2 < a1))) (by exact xr_lss rfl rfl rfl) rfl rfl rfl ?_
      refine ol_nil ?_
      rcases is h with ⟨c8, h⟩ | ⟨c8, h⟩
      · refine cw_condT rfl c8 ?_
        refine cw_skip ?_
        refine cw_seq ?_
        refine cw_block ?_
        refine cw_region ?_
        refine ol_val (v := sv s1.1) (by exact xr_move rfl e5) rfl rfl rfl ?_
        refine ol_val (v := .int .u64 a0) (by exact xr_move rfl e0) rfl rfl rfl ?_
        refine ol_val (v := .int .i64 s1.2) (by exact xr_move rfl e6) rfl rfl rfl ?_
        obtain ⟨t9, k10, h⟩ := bs h
        refine ol_op (by exact opv_call rfl cal137 (ac rfl (ac rfl an)) (rickyardref01_Octet.ok fu _ a0 s1.2 _ k10)) rfl rfl rfl ?_
        rintro _ w12 ⟨rfl, q11⟩
        have fB := fB.gr q11
        refine ol_op (by exact opv_buildSlice (K := (kI .u8)) (xs := [t9]) (vals := [.int .u8 t9]) rfl Try.underlying43 el5 rfl rfl ⟨rfl, rfl, trivial⟩ rfl rfl rfl fB.size) rfl rfl rfl ?_
        rintro v13 w18 ⟨o15, q14, z16⟩
        have fB := fB.gr q14
        refine ol_val (v := sv (List.map toB [t9])) (by exact xr_toStr rfl Try.underlying43 Try.underlying5 Try.underlying9 rfl o15.rd) rfl rfl rfl ?_
        obtain ⟨g19, h⟩ := gs h
        refine ol_val (v := sv (s1.1 ++ (List.map toB [t9]))) (by exact xr_addStr rfl rfl rfl g19) rfl rfl rfl ?_
        refine ol_val (v := sv (s1.1 ++ (List.map toB [t9]))) (by exact xr_assign rfl rfl) rfl rfl rfl ?_
        refine ol_nil ?_
        refine blk_i ?_
        refine cw_region ?_
        refine ol_val (v := .int .i64 s1.2) (by exact xr_move rfl e6) rfl rfl rfl ?_
        refine ol_val (v := .int .i64 (IntKind.i64.wrap (s1.2 + 1))) (by exact xr_add rfl rfl rfl) rfl rfl rfl ?_
        refine ol_val (v := .int .i64 (IntKind.i64.wrap (s1.2 + 1))) (by exact xr_assign rfl rfl) rfl rfl rfl ?_
        refine ol_nil ?_
        obtain rfl := Option.some.inj h
        refine lp_in ?_
        exact ⟨e0, e1, rfl, rfl, fB⟩
      · refine cw_condF rfl c8 ?_
        refine cw_exit ?_
        repeat (first | with_reducible refine thn_e ?_ | with_reducible refine blk_e rfl ?_)
        obtain rfl := Option.some.inj h
        refine lp_exit ?_
        rintro rfl
        refine thn_x ?_
        exact ⟨e5, fB⟩
  · rintro ρ20 w21 ⟨e5, fB⟩
    have h := h4
    refine cw_seq ?_
    refine cw_region ?_
    refine ol_val (v := sv e2) (by exact xr_move rfl e5) rfl rfl rfl ?_
    refine ol_val (v := sv e2) (by exact xr_assign rfl rfl) rfl rfl rfl ?_
    refine ol_nil ?_
    refine cw_ret ?_
    repeat (first | with_reducible refine thn_r ?_ | with_reducible refine blk_r ?_)
    obtain rfl := Option.some.inj h
    refine fin_ret1 Try.results117 rfl ?_
    exact ⟨_, rfl, rfl, fB⟩
end Go.Proofs.Ytklhbaghbmndeaa

/- Numbers as octets, in plain words. -/
set_option linter.unusedVariables false
set_option linter.unusedSimpArgs false
namespace Go.Proofs.Ytklhbaghbmndeaa.Pure
open Go Go.Xw
def lay (v n : Nat) : List Int := (List.range n).map fun i => ((v / 256 ^ i % 256 : Nat) : Int)
theorem lay_len (v n : Nat) : (lay v n).length = n := by simp [lay]
theorem lay_succ (v n : Nat) : lay v (n + 1) = lay v n ++ [((v / 256 ^ n % 256 : Nat) : Int)] := by
  simp [lay, List.range_succ]
theorem lay_bytes (v n : Nat) : Bytes (lay v n) := by
  intro x hx
  simp only [lay, List.mem_map] at hx
  obtain ⟨i, _, rfl⟩ := hx
  omega
theorem wu8_mod {n : Nat} : IntKind.u8.wrap (n : Int) = ((n % 256 : Nat) : Int) := by
  unfold IntKind.wrap
  simp only [IntKind.signed, IntKind.bits]
  simp
theorem shr64 (n : Nat) : shR .u64 (n : Int) 8 = ((n / 256 : Nat) : Int) := by
  unfold shR
  show Int.fdiv (n : Int) (2 ^ min ((8 : Int).toNat) 64) = _
  rw [show (2 : Int) ^ min ((8 : Int).toNat) 64 = 256 from by decide, Int.fdiv_eq_ediv_of_nonneg _ (by decide)]
  omega
theorem wn64 (q : Nat) (h : q < 18446744073709551616) : IntKind.u64.wrap (q : Int) = (q : Int) := wu64 (by omega) (by omega)
theorem tdn (q : Nat) : Int.tdiv (q : Int) 256 = ((q / 256 : Nat) : Int) := by
  rw [Int.tdiv_eq_ediv_of_nonneg (by omega)]
  omega
theorem tmn (q : Nat) : Int.tmod (q : Int) 256 = ((q % 256 : Nat) : Int) := by
  rw [Int.tmod_eq_emod_of_nonneg (by omega)]
  omega
theorem wn8 (q : Nat) : IntKind.u8.wrap ((q % 256 : Nat) : Int) = ((q % 256 : Nat) : Int) := wu8 (by omega) (by omega)
theorem olay_eq {fu v n : Nat} (hn : n ≤ 8) (hf : n < fu) : octet_Lay.f fu (v : Int) (n : Int) = some (lay v n) := by
  unfold octet_Lay.f
  have h0 : ¬ ((n : Int) < 0) := by omega
  have h8 : ¬ ((n : Int) > 8) := by omega
  have hL : Int.toNat (n : Int) ≤ LIM := by
    have : (8 : Nat) ≤ LIM := by decide
    omega
  simp only [h0, h8, decide_false, Bool.false_eq_true, if_false]
  rw [if_pos ⟨by omega, hL⟩]
  have : loopM (octet_Lay.s0 fu (n : Int)) fu ((v : Int), 0, List.replicate (Int.toNat (n : Int)) (0 : Int)) = some (lay v n) := by
    refine loopM_run (S := fun j => (((v / 256 ^ j : Nat) : Int), (j : Int), lay v j ++ List.replicate (n - j) (0 : Int))) n (by simp [lay]) ?_ ?_ hf
    · intro j hj
      unfold octet_Lay.s0
      have w3 : IntKind.i64.wrap ((j : Int) + 1) = ((j + 1 : Nat) : Int) := by rw [w64 (by omega) (by omega)]; omega
      have e1 : (List.replicate (Int.toNat (n : Int)) (0 : Int)).length = n := by simp
      have e2 : (lay v j ++ List.replicate (n - j) (0 : Int)).length = n := by rw [List.length_append, lay_len, List.length_replicate]; omega
      have e3 : List.set (lay v j ++ List.replicate (n - j) (0 : Int)) (Int.toNat (j : Int)) (IntKind.u8.wrap ((v / 256 ^ j : Nat) : Int)) = lay v (j + 1) ++ List.replicate (n - (j + 1)) (0 : Int) := by
        rw [Int.toNat_natCast, List.set_append, if_neg (by rw [lay_len]; omega), lay_len, Nat.sub_self, wu8_mod, lay_succ, show n - j = n - (j + 1) + 1 from by omega, List.replicate_succ]
        simp
      have e4 : shR .u64 ((v / 256 ^ j : Nat) : Int) 8 = ((v / 256 ^ (j + 1) : Nat) : Int) := by
        rw [shr64, Nat.div_div_eq_div_mul, Nat.pow_succ]
      have h1 : (j : Int) < (n : Int) := by omega
      simp only [e1, e2, e3, e4, w3, h1, decide_true, if_true]
      rw [if_pos ⟨by omega, trivial⟩]
    · unfold octet_Lay.s0
      simp
  rw [this]
  rfl
theorem roctet_eq {fu v i : Nat} (hv : v < 18446744073709551616) (hi : i ≤ 1000) (hf : i < fu) : rickyardref01_Octet.f fu (v : Int) (i : Int) = some ((v / 256 ^ i % 256 : Nat) : Int) := by
  unfold rickyardref01_Octet.f
  have : loopM (rickyardref01_Octet.s0 fu (i : Int)) fu ((v : Int), 0) = some ((v / 256 ^ i : Nat) : Int) := by
    refine loopM_run (S := fun j => (((v / 256 ^ j : Nat) : Int), (j : Int))) i (by simp) ?_ ?_ hf
    · intro j hj
      unfold rickyardref01_Octet.s0
      have w3 : IntKind.i64.wrap ((j : Int) + 1) = ((j + 1 : Nat) : Int) := by rw [w64 (by omega) (by omega)]; omega
      have h1 : (j : Int) < (i : Int) := by omega
      have hle : v / 256 ^ j ≤ v := Nat.div_le_self _ _
      have e1 : Int.tdiv ((v / 256 ^ j : Nat) : Int) 256 = ((v / 256 ^ (j + 1) : Nat) : Int) := by
        rw [tdn, Nat.pow_succ, ← Nat.div_div_eq_div_mul]
      have hle2 : v / 256 ^ (j + 1) ≤ v := Nat.div_le_self _ _
      have e2 : IntKind.u64.wrap ((v / 256 ^ (j + 1) : Nat) : Int) = ((v / 256 ^ (j + 1) : Nat) : Int) := wn64 _ (Nat.lt_of_le_of_lt hle2 hv)
      simp only [h1, decide_true, if_true, e1, e2, w3]
    · unfold rickyardref01_Octet.s0
      simp
  rw [this]
  simp only [Option.bind_some, tmn, wn8]
theorem rlay_eq {fu v n : Nat} (hv : v < 18446744073709551616) (hn : n ≤ 8) (hf : n < fu) : rickyardref01_Lay.f fu (v : Int) (n : Int) = some ((lay v n).map toB) := by
  unfold rickyardref01_Lay.f
  have : loopM (rickyardref01_Lay.s0 fu (v : Int) (n : Int)) fu ([], 0) = some ((lay v n).map toB) := by
    refine loopM_run (S := fun j => ((lay v j).map toB, (j : Int))) n (by simp [lay]) ?_ ?_ hf
    · intro j hj
      unfold rickyardref01_Lay.s0
      have w3 : IntKind.i64.wrap ((j : Int) + 1) = ((j + 1 : Nat) : Int) := by rw [w64 (by omega) (by omega)]; omega
      have h1 : (j : Int) < (n : Int) := by omega
      have hlim : ((lay v j).map toB).length + ([((v / 256 ^ j % 256 : Nat) : Int)].map toB).length ≤ LIM := by
        have : (9 : Nat) ≤ LIM := by decide
        simp only [List.length_map, lay_len, List.length_cons, List.length_nil]
        omega
      simp only [h1, decide_true, if_true, roctet_eq (fu := fu) hv (by omega : j ≤ 1000) (by omega), Option.bind_some, w3]
      rw [if_pos hlim, lay_succ, List.map_append]
    · unfold rickyardref01_Lay.s0
      simp
  rw [this]
  rfl
def num : List Int → Nat
  | [] => 0
  | c :: l => c.toNat + 256 * num l
theorem num_append : ∀ (a b : List Int), num (a ++ b) = num a + 256 ^ a.length * num b
  | [], b => by simp [num]
  | c :: a, b => by
    simp only [List.cons_append, num, num_append a b, List.length_cons, Nat.pow_succ]
    rw [Nat.mul_add, Nat.add_assoc, ← Nat.mul_assoc, Nat.mul_comm 256 (256 ^ a.length)]
theorem num_lt : ∀ {l : List Int}, Bytes l → num l < 256 ^ l.length
  | [], _ => by simp [num]
  | c :: l, h => by
    have h1 := h c (by simp)
    have h2 := num_lt (l := l) fun x hx => h x (by simp [hx])
    simp only [num, List.length_cons, Nat.pow_succ]
    omega
theorem lay_num : ∀ {l : List Int}, Bytes l → lay (num l) l.length = l
  | [], _ => rfl
  | c :: l, h => by
    have h1 := h c (by simp)
    have h2 := lay_num (l := l) fun x hx => h x (by simp [hx])
    have e : lay (num (c :: l)) (l.length + 1) = c :: lay (num l) l.length := by
      unfold lay
      rw [List.range_succ_eq_map, List.map_cons, List.map_map]
      congr 1
      · simp only [num, Nat.pow_zero, Nat.div_one]
        omega
      · apply List.map_congr_left
        intro i hi
        simp only [Function.comp, num, Nat.succ_eq_add_one, Nat.pow_succ]
        rw [Nat.mul_comm (256 ^ i) 256, ← Nat.div_div_eq_div_mul, show (c.toNat + 256 * num l) / 256 = num l from by omega]
    rw [List.length_cons, e, h2]
theorem num_lay (v : Nat) : ∀ n, num (lay v n) = v % 256 ^ n
  | 0 => by simp [lay, num, Nat.mod_one]
  | n + 1 => by
    rw [lay_succ, num_append, num_lay v n, lay_len]
    simp only [num]
    rw [Int.toNat_natCast, Nat.mul_zero, Nat.add_zero, Nat.pow_succ, Nat.mod_mul]
theorem or_add (a c j : Nat) (ha : a < 256 ^ j) : a ||| c * 256 ^ j = a + 256 ^ j * c := by
  have e : 256 ^ j = 2 ^ (8 * j) := by rw [Nat.pow_mul]
  rw [e] at ha ⊢
  rw [Nat.mul_comm c, Nat.or_comm, ← Nat.two_pow_add_eq_or_of_lt ha, Nat.add_comm]
theorem read_eq {fu : Nat} {l : List Int} (hb : Bytes l) (hl : l.length ≤ 8) (hf : l.length < fu) : octet_Read.f fu l = some ((num l : Nat) : Int) := by
  unfold octet_Read.f
  have hm : mnI (l.length : Int) 8 = (l.length : Int) := by
    unfold mnI
    split <;> omega
  have hc : cut l 0 (l.length : Int) = l := by
    unfold cut
    simp
  rw [hm, if_pos ⟨by omega, Int.le_refl _⟩]
  have : loopM (octet_Read.s0 fu l) fu (0, 0) = some ((num l : Nat) : Int) := by
    refine loopM_run (S := fun j => (((num (l.take j) : Nat) : Int), (j : Int))) l.length (by simp [num]) ?_ ?_ hf
    · intro j hj
      unfold octet_Read.s0
      rw [hm, hc]
      have h1 : (j : Int) < (l.length : Int) := by omega
      have w3 : IntKind.i64.wrap ((j : Int) + 1) = ((j + 1 : Nat) : Int) := by rw [w64 (by omega) (by omega)]; omega
      have w4 : IntKind.i64.wrap (8 * (j : Int)) = ((8 * j : Nat) : Int) := by rw [w64 (by omega) (by omega)]; omega
      have hcb := hb _ (List.getElem_mem hj)
      obtain ⟨c, hc'⟩ : ∃ c : Nat, l[j] = (c : Int) := ⟨l[j].toNat, by omega⟩
      have hlt : num (l.take j) < 256 ^ j := by
        have := num_lt (l := l.take j) fun x hx => hb x (List.mem_of_mem_take hx)
        rwa [List.length_take, Nat.min_eq_left (by omega)] at this
      have e256 : (256 : Nat) ^ j * 256 ≤ 256 ^ 8 := by
        rw [← Nat.pow_succ]
        exact Nat.pow_le_pow_right (by decide) (by omega)
      have e8 : (256 : Nat) ^ 8 = 18446744073709551616 := by decide
      have hcj : c * 256 ^ j < 18446744073709551616 := by
        have : c * 256 ^ j ≤ 255 * 256 ^ j := Nat.mul_le_mul_right _ (by omega)
        have : 0 < 256 ^ j := Nat.pow_pos (by decide)
        omega
      have e1 : shL .u64 (IntKind.u64.wrap (ix l (j : Int))) ((8 * j : Nat) : Int) = ((c * 256 ^ j : Nat) : Int) := by
        rw [ix_nat hj, hc', wu64 (by omega) (by omega)]
        unfold shL
        rw [Int.toNat_natCast, Nat.min_eq_left (by show 8 * j ≤ 64; omega)]
        have : (c : Int) * 2 ^ (8 * j) = ((c * 256 ^ j : Nat) : Int) := by
          have h256 : ((256 ^ j : Nat) : Int) = 2 ^ (8 * j) := by
            rw [Int.natCast_pow, Int.pow_mul]
            exact congrArg (fun z : Int => z ^ j) (by decide : ((256 : Nat) : Int) = 2 ^ 8)
          rw [Int.natCast_mul, h256]
        rw [this, wu64 (by omega) (by omega)]
      have e2 : bOr .u64 ((num (l.take j) : Nat) : Int) ((c * 256 ^ j : Nat) : Int) = ((num (l.take (j + 1)) : Nat) : Int) := by
        unfold bOr
        show IntKind.u64.wrap (((BitVec.ofInt 64 ((num (l.take j) : Nat) : Int) ||| BitVec.ofInt 64 ((c * 256 ^ j : Nat) : Int)).toNat : Nat) : Int) = _
        rw [BitVec.ofInt_natCast, BitVec.ofInt_natCast, BitVec.toNat_or, BitVec.toNat_ofNat, BitVec.toNat_ofNat, Nat.mod_eq_of_lt (by omega), Nat.mod_eq_of_lt (by omega), or_add _ _ _ hlt, take_next hj, num_append]
        have hs : num (l.take j) + 256 ^ j * c < 18446744073709551616 := by
          rw [Nat.mul_comm]
          have : c * 256 ^ j ≤ 255 * 256 ^ j := Nat.mul_le_mul_right _ (by omega)
          omega
        rw [wu64 (by omega) (by omega)]
        simp only [num, hc', Int.toNat_natCast, List.length_take, Nat.min_eq_left (by omega : j ≤ l.length), Nat.mul_zero, Nat.add_zero]
      simp only [h1, decide_true, if_true, w4, e1, e2, w3]
      rw [if_pos ⟨by omega, trivial⟩, if_pos (by omega)]
    · unfold octet_Read.s0
      rw [hm, hc]
      simp
  rw [this]
  rfl
end Go.Proofs.Ytklhbaghbmndeaa.Pure

/- (*rickyard/pmem.Device).Fence: its model, and that the Go function computes it: written by gen.py. -/
set_option linter.unusedVariables false
namespace Go.Proofs.Ytklhbaghbmndeaa
open Go Go.Xw
def pmem_Device_Fence.s0 (fu : Nat) (a0 : S_pmem_Device) : (Int × (List S_pmem_cell)) → Option (Sum (List S_pmem_cell) (Int × (List S_pmem_cell))) := fun s12 => (if (decide (s12.1 < (List.length a0.cells : Int))) = true then (if 0 ≤ s12.1 ∧ s12.1 < (List.length s12.2 : Int) then (((if (ix s12.2 s12.1).flushed = true then ((pmem_cell_keep__i0.f fu (ix s12.2 s12.1) ((ix s12.2 s12.1).sent) : Option S_pmem_cell).bind fun t31 => some ((List.set s12.2 (Int.toNat s12.1) t31))) else some (s12.2)) : Option (List S_pmem_cell)).bind fun x21 => some (Sum.inr ((IntKind.i64.wrap (s12.1 + 1)), x21))) else none) else some (Sum.inl (s12.2)))
def pmem_Device_Fence.f (fu : Nat) (a0 : S_pmem_Device) : Option (Int × S_pmem_Device) := ((pmem_Device_may.f fu a0 0 1 : Option Int).bind fun t7 => (if (!decide (t7 = 0)) = true then some (t7, a0) else ((loopM (pmem_Device_Fence.s0 fu a0) fu (0, a0.cells)).bind fun e13 => ((pmem_Device_step.f fu (⟨e13, a0.plan, a0.off, a0.armed, a0.left, a0.steps⟩ : S_pmem_Device) : Option S_pmem_Device).bind fun t43 => some (0, t43)))))
set_option maxRecDepth 100000 in
set_option maxHeartbeats 400000 in
theorem pmem_Device_Fence.ok (fu : Nat) (w : World) (a0 : S_pmem_Device) (G_0 : Nat) (V0_0 : Value) (O0_0 : Own k_pmem_cell 142 w 0 V0_0 a0.cells) (V0_1 : Value) (O0_1 : Own (kI .i64) 3 w 0 V0_1 a0.plan.list) (b_0 : Blk w G_0 139 [Seg.cell V0_0 O0_0.one, Seg.cell V0_1 O0_1.one, Seg.cell (.int .i64 a0.plan.at_), Seg.cell (.bool a0.off), Seg.cell (.bool a0.armed), Seg.cell (.int .i64 a0.left), Seg.cell (.int .i64 a0.steps)]) (r : Int × S_pmem_Device) (h : pmem_Device_Fence.f fu a0 = some r) :
    Calls Try.prog 30 (([.pointer (some ⟨G_0, 0, none⟩)] : List Value).toArray) w (fun e w' => ∃ v, e = .returned v ∧ ∃ u1 : Value, ∃ u4 : Value, ∃ o2 : Own k_pmem_cell 142 w' 0 u1 r.2.cells, ∃ m3 : ∀ g, Value.ownBlock u1 = some g → w.heap.size ≤ g ∨ (g = G_0 ∨ some g = Value.ownBlock V0_0 ∨ some g = Value.ownBlock V0_1), ∃ o5 : Own (kI .i64) 3 w' 0 u4 r.2.plan.list, ∃ m6 : ∀ g, Value.ownBlock u4 = some g → w.heap.size ≤ g ∨ (g = G_0 ∨ some g = Value.ownBlock V0_0 ∨ some g = Value.ownBlock V0_1), v = .int .i64 r.1 ∧ Blk w' G_0 139 [Seg.cell u1 o2.one, Seg.cell u4 o5.one, Seg.cell (.int .i64 r.2.plan.at_), Seg.cell (.bool r.2.off), Seg.cell (.bool r.2.armed), Seg.cell (.int .i64 r.2.left), Seg.cell (.int .i64 r.2.steps)] ∧ Fr (fun j => j = G_0 ∨ some j = Value.ownBlock V0_0 ∨ some j = Value.ownBlock V0_1) w w') := by
  unfold pmem_Device_Fence.f at h
  have fB : Fr (fun j => j = G_0 ∨ some j = Value.ownBlock V0_0 ∨ some j = Value.ownBlock V0_1) w w := Fr.refl _ _
  have M0_0 : ∀ g, Value.ownBlock V0_0 = some g → w.heap.size ≤ g ∨ (g = G_0 ∨ some g = Value.ownBlock V0_0 ∨ some g = Value.ownBlock V0_1) := fun g hg => .inr (.inr (.inl hg.symm))
  have M0_1 : ∀ g, Value.ownBlock V0_1 = some g → w.heap.size ≤ g ∨ (g = G_0 ∨ some g = Value.ownBlock V0_0 ∨ some g = Value.ownBlock V0_1) := fun g hg => .inr (.inr (.inr hg.symm))
  refine calls_cw Try.func30 rfl Try.ntmps30 rfl ?_
  refine cw_seq ?_
  refine cw_region ?_
  refine ol_val (v := .int .i64 0) (by exact xr_assign rfl rfl) rfl rfl rfl ?_
  refine ol_nil ?_
  refine cw_seq ?_
  refine cw_seq ?_
  refine cw_region ?_
  refine ol_val (v := .pointer (some ⟨G_0, 0, none⟩)) (by exact xr_move rfl rfl) rfl rfl rfl ?_
  obtain ⟨t7, k8, h⟩ := bs h
  refine ol_op (by exact opv_call rfl cal83 (ac rfl (ac rfl (ac rfl an))) (pmem_Device_may.ok fu _ a0 G_0 V0_0 (O0_0.rd) V0_1 (O0_1.rd) b_0 0 1 _ k8)) rfl rfl rfl ?_
  rintro _ w10 ⟨rfl, q9⟩
  have b_0 := b_0.gr q9
  have O0_0 := O0_0.gr q9
  have O0_1 := O0_1.gr q9
  have fB := fB.gr q9
  refine ol_val (v := .int .i64 t7) (by exact xr_assign rfl rfl) rfl rfl rfl ?_
  refine ol_nil ?_
  refine cw_seq ?_
  refine cw_region ?_
  refine ol_val (v := .int .i64 t7) (by exact xr_move rfl rfl) rfl rfl rfl ?_
  refine ol_val (v := .bool (!decide (t7 = 0))) (by exact xr_neI rfl Try.underlying31 rfl rfl rfl) rfl rfl rfl ?_
  refine ol_nil ?_
  rcases is h with ⟨c11, h⟩ | ⟨c11, h⟩
  · refine cw_condT rfl c11 ?_
    refine cw_seq ?_
    refine cw_region ?_
    refine ol_val (v := .int .i64 t7) (by exact xr_move rfl rfl) rfl rfl rfl ?_
    refine ol_val (v := .int .i64 t7) (by exact xr_assign rfl rfl) rfl rfl rfl ?_
    refine ol_nil ?_
    refine cw_ret ?_
    repeat (first | with_reducible refine thn_r ?_ | with_reducible refine blk_r ?_)
    obtain rfl := Option.some.inj h
    refine fin_ret1 Try.results30 rfl ?_
    exact ⟨_, rfl, V0_0, V0_1, O0_0, M0_0, O0_1, M0_1, rfl, b_0, fB⟩
  · refine cw_condF rfl c11 ?_
    refine cw_skip ?_
    refine cw_seq ?_
    refine cw_seq ?_
    refine cw_region ?_
    refine ol_val (v := .pointer (some ⟨G_0, 0, none⟩)) (by exact xr_move rfl rfl) rfl rfl rfl ?_
    refine ol_val (v := .pointer (some ⟨G_0, 0, none⟩)) (by exact xr_nilCheck rfl rfl) rfl rfl rfl ?_
    refine ol_val (v := .pointer (some ⟨G_0, 0, none⟩)) (by exact xr_fieldAddr (p := 0) (q := 0) rfl fl139_0 rfl) rfl rfl rfl ?_
    refine ol_val (v := V0_0) (by exact xr_load1 (v := V0_0) rfl ag135 rfl (b_0.seg 0 rfl rfl)) rfl rfl rfl ?_
    refine ol_val (v := .int .i64 (List.length a0.cells : Int)) (by exact xr_lenR rfl Try.underlying135 rfl O0_0.rd) rfl rfl rfl ?_
    refine ol_val (v := .int .i64 0) (by exact xr_move rfl rfl) rfl rfl rfl ?_
    refine ol_nil ?_
    obtain ⟨e13, l14, h15⟩ := bs h
    refine cw_mid (fun ρ' w' => ∃ O0_0 : Own k_pmem_cell 142 w' 0 V0_0 e13, ∃ O0_1 : Own (kI .i64) 3 w' 0 V0_1 a0.plan.list, ρ' 0 = .pointer (some ⟨G_0, 0, none⟩) ∧ Blk w' G_0 139 [Seg.cell V0_0 O0_0.one, Seg.cell V0_1 O0_1.one, Seg.cell (.int .i64 a0.plan.at_), Seg.cell (.bool a0.off), Seg.cell (.bool a0.armed), Seg.cell (.int .i64 a0.left), Seg.cell (.int .i64 a0.steps)] ∧ Fr (fun j => j = G_0 ∨ some j = Value.ownBlock V0_0 ∨ some j = Value.ownBlock V0_1) w w') ?_ ?_
    · refine cw_block ?_
      refine cw_round (fun (s12 : Int × (List S_pmem_cell)) ρ' w' => ∃ O0_0 : Own k_pmem_cell 142 w' 0 V0_0 s12.2, ∃ O0_1 : Own (kI .i64) 3 w' 0 V0_1 a0.plan.list, ρ' 0 = .pointer (some ⟨G_0, 0, none⟩) ∧ ρ' 15 = .int .i64 (List.length a0.cells : Int) ∧ ρ' 16 = .int .i64 s12.1 ∧ Blk w' G_0 139 [Seg.cell V0_0 O0_0.one, Seg.cell V0_1 O0_1.one, Seg.cell (.int .i64 a0.plan.at_), Seg.cell (.bool a0.off), Seg.cell (.bool a0.armed), Seg.cell (.int .i64 a0.left), Seg.cell (.int .i64 a0.steps)] ∧ Fr (fun j => j = G_0 ∨ some j = Value.ownBlock V0_0 ∨ some j = Value.ownBlock V0_1) w w') l14 ?_ ?_
      · skip
        exact ⟨O0_0, O0_1, rfl, rfl, rfl, b_0, fB⟩
      · rintro s12 x18 ρ16 w17 ⟨O0_0, O0_1, e0, e15, e16, b_0, fB⟩ h
        unfold pmem_Device_Fence.s0 at h
        refine cw_seq ?_
        refine cw_region ?_
        refine ol_val (v := .bool (decide (s12.1 < (List.length a0.cells : Int)))) (by exact xr_lss rfl e16 e15) rfl rfl rfl ?_
        refine ol_nil ?_
        refine cw_seq ?_
        rcases is h with ⟨c19, h⟩ | ⟨c19, h⟩
        · refine cw_condT rfl c19 ?_
          refine cw_skip ?_
          refine cw_seq ?_
          refine cw_block ?_
          refine cw_seq ?_
          refine cw_region ?_
          refine ol_val (v := .int .i64 s12.1) (by exact xr_move rfl e16) rfl rfl rfl ?_
          refine ol_val (v := .int .i64 s12.1) (by exact xr_assign rfl rfl) rfl rfl rfl ?_
          refine ol_nil ?_
          refine cw_seq ?_
          refine cw_region ?_
          refine ol_val (v := .pointer (some ⟨G_0, 0, none⟩)) (by exact xr_move rfl e0) rfl rfl rfl ?_
          refine ol_val (v := .pointer (some ⟨G_0, 0, none⟩)) (by exact xr_nilCheck rfl rfl) rfl rfl rfl ?_
          refine ol_val (v := .pointer (some ⟨G_0, 0, none⟩)) (by exact xr_fieldAddr (p := 0) (q := 0) rfl fl139_0 rfl) rfl rfl rfl ?_
          refine ol_val (v := V0_0) (by exact xr_load1 (v := V0_0) rfl ag135 rfl (b_0.seg 0 rfl rfl)) rfl rfl rfl ?_
          refine ol_val (v := .int .i64 s12.1) (by exact xr_move rfl rfl) rfl rfl rfl ?_
          obtain ⟨g20, h⟩ := gs h
          refine ol_val (v := .pointer (some ⟨(sb V0_0), so V0_0 + Int.toNat s12.1 * 4, none⟩)) (by exact xr_indexR (K := k_pmem_cell) (v := V0_0) rfl Try.underlying135 sz142 rfl O0_0.rd rfl g20.1 g20.2) rfl rfl rfl ?_
          refine ol_val (v := .pointer (some ⟨(sb V0_0), so V0_0 + Int.toNat s12.1 * 4, none⟩)) (by exact xr_assign rfl rfl) rfl rfl rfl ?_
          refine ol_nil ?_
          refine cw_seq ?_
          refine cw_region ?_
          refine ol_val (v := .pointer (some ⟨(sb V0_0), so V0_0 + Int.toNat s12.1 * 4, none⟩)) (by exact xr_move rfl rfl) rfl rfl rfl ?_
          refine ol_val (v := .pointer (some ⟨(sb V0_0), so V0_0 + Int.toNat s12.1 * 4, none⟩)) (by exact xr_nilCheck rfl rfl) rfl rfl rfl ?_
          refine ol_val (v := .pointer (some ⟨(sb V0_0), so V0_0 + Int.toNat s12.1 * 4 + 3, none⟩)) (by exact xr_fieldAddr (p := so V0_0 + Int.toNat s12.1 * 4) (q := 3) rfl fl142_3 rfl) rfl rfl rfl ?_
          refine ol_val (v := .bool ((ix s12.2 s12.1).flushed)) (by exact xr_load1 (v := .bool ((ix s12.2 s12.1).flushed)) rfl ag4 rfl (At.segs (ss := segs_pmem_cell (ix s12.2 s12.1)) (O0_0.rd.elem g20.1 g20.2) 3 1 rfl)) rfl rfl rfl ?_
          refine ol_nil ?_
          obtain ⟨x21, j22, h23⟩ := bs h
          refine cw_mid (fun ρ' w' => ∃ O0_0 : Own k_pmem_cell 142 w' 0 V0_0 x21, ∃ O0_1 : Own (kI .i64) 3 w' 0 V0_1 a0.plan.list, ρ' 0 = .pointer (some ⟨G_0, 0, none⟩) ∧ ρ' 15 = .int .i64 (List.length a0.cells : Int) ∧ ρ' 16 = .int .i64 s12.1 ∧ Blk w' G_0 139 [Seg.cell V0_0 O0_0.one, Seg.cell V0_1 O0_1.one, Seg.cell (.int .i64 a0.plan.at_), Seg.cell (.bool a0.off), Seg.cell (.bool a0.armed), Seg.cell (.int .i64 a0.left), Seg.cell (.int .i64 a0.steps)] ∧ Fr (fun j => j = G_0 ∨ some j = Value.ownBlock V0_0 ∨ some j = Value.ownBlock V0_1) w w') ?_ ?_
          · have h := j22
            rcases is h with ⟨c24, h⟩ | ⟨c24, h⟩
            · refine cw_condT rfl c24 ?_
              refine cw_region ?_
              refine ol_val (v := .pointer (some ⟨(sb V0_0), so V0_0 + Int.toNat s12.1 * 4, none⟩)) (by exact xr_move rfl rfl) rfl rfl rfl ?_
              refine ol_val (v := .pointer (some ⟨(sb V0_0), so V0_0 + Int.toNat s12.1 * 4, none⟩)) (by exact xr_move rfl rfl) rfl rfl rfl ?_
              refine ol_val (v := .pointer (some ⟨(sb V0_0), so V0_0 + Int.toNat s12.1 * 4, none⟩)) (by exact xr_nilCheck rfl rfl) rfl rfl rfl ?_
              refine ol_val (v := .pointer (some ⟨(sb V0_0), so V0_0 + Int.toNat s12.1 * 4 + 2, none⟩)) (by exact xr_fieldAddr (p := so V0_0 + Int.toNat s12.1 * 4) (q := 2) rfl fl142_2 rfl) rfl rfl rfl ?_
              refine ol_val (v := .int .u64 ((ix s12.2 s12.1).sent)) (by exact xr_load1 (v := .int .u64 ((ix s12.2 s12.1).sent)) rfl ag22 rfl (At.segs (ss := segs_pmem_cell (ix s12.2 s12.1)) (O0_0.rd.elem g20.1 g20.2) 2 1 rfl)) rfl rfl rfl ?_
              obtain ⟨t31, k32, h⟩ := bs h
              have f35 := off_ty b_0 O0_0 (by decide)
              have f36 := OffV.ty O0_1 O0_0 (by decide)
              obtain ⟨X25, Y26, h27, h28, b29, k30⟩ := Own.sub (K := k_pmem_cell) (i := s12.1) (ss := [Seg.cell (.int .u64 ((ix s12.2 s12.1).lasts)), Seg.cell (.int .u64 ((ix s12.2 s12.1).stored)), Seg.cell (.int .u64 ((ix s12.2 s12.1).sent)), Seg.cell (.bool ((ix s12.2 s12.1).flushed))]) O0_0 g20.1 g20.2 rfl
              refine ol_op (by exact opv_call rfl cal85 (ac (ptrE (q := List.length X25) rfl h27) (ac rfl an)) (pmem_cell_keep__i0.ok fu _ (ix s12.2 s12.1) (sb V0_0) 142 X25 Y26 b29 ((ix s12.2 s12.1).sent) _ k32)) rfl rfl rfl ?_
              rintro _ w38 ⟨rfl, b34, q33⟩
              have O0_0 := k30 _ t31 [Seg.cell (.int .u64 t31.lasts), Seg.cell (.int .u64 t31.stored), Seg.cell (.int .u64 t31.sent), Seg.cell (.bool t31.flushed)] rfl b34
              have q33 := fr_own q33 h28
              have b_0 := b_0.wrO q33 f35
              have O0_1 := O0_1.wrV q33 f36
              have fB := fB.wrM q33 M0_0
              refine ol_nil ?_
              obtain rfl := Option.some.inj h
              refine thn_i ?_
              exact ⟨O0_0, O0_1, e0, e15, e16, b_0, fB⟩
            · refine cw_condF rfl c24 ?_
              refine cw_skip ?_
              obtain rfl := Option.some.inj h
              refine thn_i ?_
              exact ⟨O0_0, O0_1, e0, e15, e16, b_0, fB⟩
          · rintro ρ39 w40 ⟨O0_0, O0_1, e0, e15, e16, b_0, fB⟩
            have h := h23
            refine blk_i ?_
            refine cw_region ?_
            refine ol_val (v := .int .i64 (IntKind.i64.wrap (s12.1 + 1))) (by exact xr_add rfl e16 rfl) rfl rfl rfl ?_
            refine ol_val (v := .int .i64 (IntKind.i64.wrap (s12.1 + 1))) (by exact xr_move rfl rfl) rfl rfl rfl ?_
            refine ol_nil ?_
            obtain rfl := Option.some.inj h
            refine lp_in ?_
            exact ⟨O0_0, O0_1, e0, e15, rfl, b_0, fB⟩
        · refine cw_condF rfl c19 ?_
          refine cw_exit ?_
          repeat (first | with_reducible refine thn_e ?_ | with_reducible refine blk_e rfl ?_)
          obtain rfl := Option.some.inj h
          refine lp_exit ?_
          rintro rfl
          refine thn_x ?_
          exact ⟨O0_0, O0_1, e0, b_0, fB⟩
    · rintro ρ41 w42 ⟨O0_0, O0_1, e0, b_0, fB⟩
      have h := h15
      refine cw_seq ?_
      refine cw_region ?_
      refine ol_val (v := .pointer (some ⟨G_0, 0, none⟩)) (by exact xr_move rfl e0) rfl rfl rfl ?_
      obtain ⟨t43, k44, h⟩ := bs h
      have c54 : ∀ k, (k = G_0 ∨ some k = Value.ownBlock V0_0 ∨ some k = Value.ownBlock V0_1) → (w.heap.size ≤ k ∨ (k = G_0 ∨ some k = Value.ownBlock V0_0 ∨ some k = Value.ownBlock V0_1)) := (cv_or (cv_eq (.inr (.inl rfl))) (cv_or (cv_own M0_0) (cv_own M0_1)))
      refine ol_op (by exact opv_call rfl cal84 (ac rfl an) (pmem_Device_step.ok fu _ (⟨e13, a0.plan, a0.off, a0.armed, a0.left, a0.steps⟩ : S_pmem_Device) G_0 V0_0 (Own.base O0_0 (Nat.zero_le _)) V0_1 (Own.base O0_1 (Nat.zero_le _)) b_0 _ k44)) rfl rfl rfl ?_
      rintro _ w55 ⟨u46, u50, o47, m48, o51, m52, rfl, b_0, q45⟩
      have m48 : ∀ g, Value.ownBlock u46 = some g → w.heap.size ≤ g ∨ (g = G_0 ∨ some g = Value.ownBlock V0_0 ∨ some g = Value.ownBlock V0_1) := fun g hg => (m48 g hg).elim (fun x => .inl (Nat.le_trans fB.size x)) (c54 g)
      have m52 : ∀ g, Value.ownBlock u50 = some g → w.heap.size ≤ g ∨ (g = G_0 ∨ some g = Value.ownBlock V0_0 ∨ some g = Value.ownBlock V0_1) := fun g hg => (m52 g hg).elim (fun x => .inl (Nat.le_trans fB.size x)) (c54 g)
      have fB := fB.call q45 c54
      refine ol_nil ?_
      refine cw_seq ?_
      refine cw_region ?_
      refine ol_val (v := .int .i64 0) (by exact xr_assign rfl rfl) rfl rfl rfl ?_
      refine ol_nil ?_
      refine cw_ret ?_
      repeat (first | with_reducible refine thn_r ?_ | with_reducible refine blk_r ?_)
      obtain rfl := Option.some.inj h
      refine fin_ret1 Try.results30 rfl ?_
      exact ⟨_, rfl, u46, u50, o47, m48, o51, m52, rfl, b_0, fB⟩
end Go.Proofs.Ytklhbaghbmndeaa

/- (*rickyard/pmem.cell).fate: its model, and that the Go function computes it: written by gen.py. -/
set_option linter.unusedVariables false
namespace Go.Proofs.Ytklhbaghbmndeaa
open Go Go.Xw
def pmem_cell_fate__r0.f (fu : Nat) (a0 : S_pmem_cell) (a1 : Int) : Option Int := (((if (decide ((Int.tmod a1 3) = 1)) = true then some ((decide ((Int.tmod a1 3) = 1))) else some ((decide ((Int.tmod a1 3) = (-2))))) : Option Bool).bind fun x1 => (((if x1 = true then (if a0.flushed = true then some (Sum.inl (a0.sent)) else some (Sum.inr ())) else (((if (decide ((Int.tmod a1 3) = 2)) = true then some ((decide ((Int.tmod a1 3) = 2))) else some ((decide ((Int.tmod a1 3) = (-1))))) : Option Bool).bind fun x13 => (if x13 = true then some (Sum.inl (a0.stored)) else some (Sum.inr ())))) : Option (Sum Int Unit)).bind fun x7 => match x7 with | Sum.inl p => some p | Sum.inr x10 => some (a0.lasts)))
set_option maxRecDepth 100000 in
set_option maxHeartbeats 400000 in
theorem pmem_cell_fate__r0.ok (fu : Nat) (w : World) (a0 : S_pmem_cell) (G_0 p_0 : Nat) (A_0 : At w G_0 p_0 (cellsOf [Seg.cell (.int .u64 a0.lasts), Seg.cell (.int .u64 a0.stored), Seg.cell (.int .u64 a0.sent), Seg.cell (.bool a0.flushed)])) (a1 : Int) (r : Int) (h : pmem_cell_fate__r0.f fu a0 a1 = some r) :
    Calls Try.prog 87 (([.pointer (some ⟨G_0, p_0, none⟩), .int .i64 a1] : List Value).toArray) w (fun e w' => ∃ v, e = .returned v ∧ v = .int .u64 r ∧ Gr w w') := by
  unfold pmem_cell_fate__r0.f at h
  have fB : Gr w w := Fr.refl _ _
  refine calls_cw Try.func87 rfl Try.ntmps87 rfl ?_
  refine cw_seq ?_
  refine cw_region ?_
  refine ol_val (v := .int .u64 0) (by exact xr_assign rfl rfl) rfl rfl rfl ?_
  refine ol_nil ?_
  refine cw_seq ?_
  refine cw_seq ?_
  refine cw_region ?_
  refine ol_val (v := .int .i64 a1) (by exact xr_move rfl rfl) rfl rfl rfl ?_
  refine ol_val (v := .int .i64 (Int.tmod a1 3)) (by exact xr_rem rfl rfl rfl (by decide)) rfl rfl rfl ?_
  refine ol_nil ?_
  refine cw_block ?_
  refine cw_seq ?_
  refine cw_seq ?_
  refine cw_region ?_
  refine ol_val (v := .bool (decide ((Int.tmod a1 3) = 1))) (by exact xr_eqI rfl Try.underlying3 rfl rfl rfl) rfl rfl rfl ?_
  refine ol_val (v := .bool (decide ((Int.tmod a1 3) = 1))) (by exact xr_assign rfl rfl) rfl rfl rfl ?_
  refine ol_nil ?_
  obtain ⟨x1, j2, h3⟩ := bs h
  refine cw_mid (fun ρ' w' => ρ' 0 = .pointer (some ⟨G_0, p_0, none⟩) ∧ ρ' 6 = .int .i64 (Int.tmod a1 3) ∧ ρ' 7 = .bool x1 ∧ Gr w w') ?_ ?_
  · have h := j2
    rcases is h with ⟨c4, h⟩ | ⟨c4, h⟩
    · refine cw_condT rfl c4 ?_
      refine cw_skip ?_
      obtain rfl := Option.some.inj h
      refine thn_i ?_
      exact ⟨rfl, rfl, rfl, fB⟩
    · refine cw_condF rfl c4 ?_
      refine cw_region ?_
      refine ol_val (v := .bool (decide ((Int.tmod a1 3) = (-2)))) (by exact xr_eqI rfl Try.underlying3 rfl rfl rfl) rfl rfl rfl ?_
      refine ol_val (v := .bool (decide ((Int.tmod a1 3) = (-2)))) (by exact xr_assign rfl rfl) rfl rfl rfl ?_
      refine ol_nil ?_
      obtain rfl := Option.some.inj h
      refine thn_i ?_
      exact ⟨rfl, rfl, rfl, fB⟩
  · rintro ρ5 w6 ⟨e0, e6, e7, fB⟩
    have h := h3
    obtain ⟨x7, j8, h9⟩ := bs h
    refine cw_mid (fun ρ' w' => ∃ x10, x7 = Sum.inr x10 ∧ ρ' 0 = .pointer (some ⟨G_0, p_0, none⟩) ∧ Gr w w') ?_ ?_
    · have h := j8
      rcases is h with ⟨c11, h⟩ | ⟨c11, h⟩
      · refine cw_condT e7 c11 ?_
        refine cw_seq ?_
        refine cw_region ?_
        refine ol_val (v := .pointer (some ⟨G_0, p_0, none⟩)) (by exact xr_move rfl e0) rfl rfl rfl ?_
        refine ol_val (v := .pointer (some ⟨G_0, p_0, none⟩)) (by exact xr_nilCheck rfl rfl) rfl rfl rfl ?_
        refine ol_val (v := .pointer (some ⟨G_0, p_0 + 3, none⟩)) (by exact xr_fieldAddr (p := p_0) (q := 3) rfl fl142_3 rfl) rfl rfl rfl ?_
        refine ol_val (v := .bool a0.flushed) (by exact xr_load1 (v := .bool a0.flushed) rfl ag4 rfl (At.segs (ss := [Seg.cell (.int .u64 a0.lasts), Seg.cell (.int .u64 a0.stored), Seg.cell (.int .u64 a0.sent), Seg.cell (.bool a0.flushed)]) (At.gr A_0 fB) 3 1 rfl)) rfl rfl rfl ?_
        refine ol_nil ?_
        rcases is h with ⟨c12, h⟩ | ⟨c12, h⟩
        · refine cw_condT rfl c12 ?_
          refine cw_seq ?_
          refine cw_region ?_
          refine ol_val (v := .pointer (some ⟨G_0, p_0, none⟩)) (by exact xr_move rfl e0) rfl rfl rfl ?_
          refine ol_val (v := .pointer (some ⟨G_0, p_0, none⟩)) (by exact xr_nilCheck rfl rfl) rfl rfl rfl ?_
          refine ol_val (v := .pointer (some ⟨G_0, p_0 + 2, none⟩)) (by exact xr_fieldAddr (p := p_0) (q := 2) rfl fl142_2 rfl) rfl rfl rfl ?_
          refine ol_val (v := .int .u64 a0.sent) (by exact xr_load1 (v := .int .u64 a0.sent) rfl ag22 rfl (At.segs (ss := [Seg.cell (.int .u64 a0.lasts), Seg.cell (.int .u64 a0.stored), Seg.cell (.int .u64 a0.sent), Seg.cell (.bool a0.flushed)]) (At.gr A_0 fB) 2 1 rfl)) rfl rfl rfl ?_
          refine ol_val (v := .int .u64 a0.sent) (by exact xr_assign rfl rfl) rfl rfl rfl ?_
          refine ol_nil ?_
          refine cw_ret ?_
          repeat (first | with_reducible refine thn_r ?_ | with_reducible refine blk_r ?_)
          obtain rfl := Option.some.inj h
          have h := h9
          obtain rfl := Option.some.inj h
          refine fin_ret1 Try.results87 rfl ?_
          exact ⟨_, rfl, rfl, fB⟩
        · refine cw_condF rfl c12 ?_
          refine cw_skip ?_
          obtain rfl := Option.some.inj h
          refine thn_i ?_
          exact ⟨_, rfl, e0, fB⟩
      · refine cw_condF e7 c11 ?_
        refine cw_seq ?_
        refine cw_seq ?_
        refine cw_region ?_
        refine ol_val (v := .bool (decide ((Int.tmod a1 3) = 2))) (by exact xr_eqI rfl Try.underlying3 rfl e6 rfl) rfl rfl rfl ?_
        refine ol_val (v := .bool (decide ((Int.tmod a1 3) = 2))) (by exact xr_assign rfl rfl) rfl rfl rfl ?_
        refine ol_nil ?_
        obtain ⟨x13, j14, h15⟩ := bs h
        refine cw_mid (fun ρ' w' => ρ' 0 = .pointer (some ⟨G_0, p_0, none⟩) ∧ ρ' 18 = .bool x13 ∧ Gr w w') ?_ ?_
        · have h := j14
          rcases is h with ⟨c16, h⟩ | ⟨c16, h⟩
          · refine cw_condT rfl c16 ?_
            refine cw_skip ?_
            obtain rfl := Option.some.inj h
            refine thn_i ?_
            exact ⟨e0, rfl, fB⟩
          · refine cw_condF rfl c16 ?_
            refine cw_region ?_
            refine ol_val (v := .bool (decide ((Int.tmod a1 3) = (-1)))) (by exact xr_eqI rfl Try.underlying3 rfl e6 rfl) rfl rfl rfl ?_
            refine ol_val (v := .bool (decide ((Int.tmod a1 3) = (-1)))) (by exact xr_assign rfl rfl) rfl rfl rfl ?_
            refine ol_nil ?_
            obtain rfl := Option.some.inj h
            refine thn_i ?_
            exact ⟨e0, rfl, fB⟩
        · rintro ρ17 w18 ⟨e0, e18, fB⟩
          have h := h15
          rcases is h with ⟨c19, h⟩ | ⟨c19, h⟩
          · refine cw_condT e18 c19 ?_
            refine cw_seq ?_
            refine cw_region ?_
            refine ol_val (v := .pointer (some ⟨G_0, p_0, none⟩)) (by exact xr_move rfl e0) rfl rfl rfl ?_
            refine ol_val (v := .pointer (some ⟨G_0, p_0, none⟩)) (by exact xr_nilCheck rfl rfl) rfl rfl rfl ?_
            refine ol_val (v := .pointer (some ⟨G_0, p_0 + 1, none⟩)) (by exact xr_fieldAddr (p := p_0) (q := 1) rfl fl142_1 rfl) rfl rfl rfl ?_
            refine ol_val (v := .int .u64 a0.stored) (by exact xr_load1 (v := .int .u64 a0.stored) rfl ag22 rfl (At.segs (ss := [Seg.cell (.int .u64 a0.lasts), Seg.cell (.int .u64 a0.stored), Seg.cell (.int .u64 a0.sent), Seg.cell (.bool a0.flushed)]) (At.gr A_0 fB) 1 1 rfl)) rfl rfl rfl ?_
            refine ol_val (v := .int .u64 a0.stored) (by exact xr_assign rfl rfl) rfl rfl rfl ?_
            refine ol_nil ?_
            refine cw_ret ?_
            repeat (first | with_reducible refine thn_r ?_ | with_reducible refine blk_r ?_)
            obtain rfl := Option.some.inj h
            have h := h9
            obtain rfl := Option.some.inj h
            refine fin_ret1 Try.results87 rfl ?_
            exact ⟨_, rfl, rfl, fB⟩
          · refine cw_condF e18 c19 ?_
            refine cw_skip ?_
            obtain rfl := Option.some.inj h
            refine thn_i ?_
            exact ⟨_, rfl, e0, fB⟩
    · rintro ρ20 w21 ⟨x10, rfl, e0, fB⟩
      have h := h9
      refine blk_i ?_
      refine cw_seq ?_
      refine cw_region ?_
      refine ol_val (v := .pointer (some ⟨G_0, p_0, none⟩)) (by exact xr_move rfl e0) rfl rfl rfl ?_
      refine ol_val (v := .pointer (some ⟨G_0, p_0, none⟩)) (by exact xr_nilCheck rfl rfl) rfl rfl rfl ?_
      refine ol_val (v := .pointer (some ⟨G_0, p_0 + 0, none⟩)) (by exact xr_fieldAddr (p := p_0) (q := 0) rfl fl142_0 rfl) rfl rfl rfl ?_
      refine ol_val (v := .int .u64 a0.lasts) (by exact xr_load1 (v := .int .u64 a0.lasts) rfl ag22 rfl (At.segs (ss := [Seg.cell (.int .u64 a0.lasts), Seg.cell (.int .u64 a0.stored), Seg.cell (.int .u64 a0.sent), Seg.cell (.bool a0.flushed)]) (At.gr A_0 fB) 0 1 rfl)) rfl rfl rfl ?_
      refine ol_val (v := .int .u64 a0.lasts) (by exact xr_assign rfl rfl) rfl rfl rfl ?_
      refine ol_nil ?_
      refine cw_ret ?_
      repeat (first | with_reducible refine thn_r ?_ | with_reducible refine blk_r ?_)
      obtain rfl := Option.some.inj h
      refine fin_ret1 Try.results87 rfl ?_
      exact ⟨_, rfl, rfl, fB⟩
end Go.Proofs.Ytklhbaghbmndeaa

/- (*rickyard/pmem.Device).Crash: its model, and that the Go function computes it: written by gen.py. -/
set_option linter.unusedVariables false
namespace Go.Proofs.Ytklhbaghbmndeaa
open Go Go.Xw
def pmem_Device_Crash.s0 (fu : Nat) (a0 : S_pmem_Device) : ((List Int) × Int × (List S_pmem_cell)) → Option (Sum (List S_pmem_cell) ((List Int) × Int × (List S_pmem_cell))) := fun s7 => (if (decide (s7.2.1 < (List.length a0.cells : Int))) = true then (if 0 ≤ s7.2.1 ∧ s7.2.1 < (List.length s7.2.2 : Int) then ((pmem_cell_open__r0.f fu (ix s7.2.2 s7.2.1) : Option Bool).bind fun t21 => (((if t21 = true then (((if (decide ((List.length s7.1 : Int) > 0)) = true then (if (0 : Int) < (List.length s7.1 : Int) then (if (1 : Int) ≤ (List.length s7.1 : Int) then some ((cut s7.1 1 (List.length s7.1 : Int)), (ix s7.1 0)) else none) else none) else some (s7.1, 0)) : Option ((List Int) × Int)).bind fun x34 => ((pmem_cell_fate__r0.f fu (ix s7.2.2 s7.2.1) x34.2 : Option Int).bind fun t52 => ((pmem_cell_keep__i0.f fu (ix s7.2.2 s7.2.1) t52 : Option S_pmem_cell).bind fun t62 => some (x34.1, (List.set s7.2.2 (Int.toNat s7.2.1) t62))))) else some (s7.1, s7.2.2)) : Option ((List Int) × (List S_pmem_cell))).bind fun x25 => (if s7.2.1 < (List.length x25.2 : Int) then (if s7.2.1 < (List.length x25.2 : Int) then some (Sum.inr (x25.1, (IntKind.i64.wrap (s7.2.1 + 1)), (List.set x25.2 (Int.toNat s7.2.1) (⟨(ix x25.2 s7.2.1).lasts, (ix x25.2 s7.2.1).lasts, (ix x25.2 s7.2.1).sent, (ix x25.2 s7.2.1).flushed⟩ : S_pmem_cell)))) else none) else none))) else none) else some (Sum.inl (s7.2.2)))
def pmem_Device_Crash.f (fu : Nat) (a0 : S_pmem_Device) (a1 : List Int) : Option S_pmem_Device := ((loopM (pmem_Device_Crash.s0 fu a0) fu (a1, 0, a0.cells)).bind fun e8 => some ((⟨e8, (⟨[], (0 : Int)⟩ : S_pmem_plan), false, false, 0, a0.steps⟩ : S_pmem_Device)))
set_option maxRecDepth 100000 in
set_option maxHeartbeats 400000 in
theorem pmem_Device_Crash.ok (fu : Nat) (w : World) (a0 : S_pmem_Device) (G_0 : Nat) (V0_0 : Value) (O0_0 : Own k_pmem_cell 142 w 0 V0_0 a0.cells) (V0_1 : Value) (O0_1 : Own (kI .i64) 3 w 0 V0_1 a0.plan.list) (b_0 : Blk w G_0 139 [Seg.cell V0_0 O0_0.one, Seg.cell V0_1 O0_1.one, Seg.cell (.int .i64 a0.plan.at_), Seg.cell (.bool a0.off), Seg.cell (.bool a0.armed), Seg.cell (.int .i64 a0.left), Seg.cell (.int .i64 a0.steps)]) (a1 : List Int) (V1_0 : Value) (R1_0 : Rd (kI .i64) w V1_0 a1) (NR1_0_P0 : OffR V1_0 a1 G_0) (NR1_0_R0_0 : OffRV V1_0 a1 V0_0) (NR1_0_R0_1 : OffRV V1_0 a1 V0_1) (r : S_pmem_Device) (h : pmem_Device_Crash.f fu a0 a1 = some r) :
    Calls Try.prog 32 (([.pointer (some ⟨G_0, 0, none⟩), V1_0] : List Value).toArray) w (fun e w' => ∃ v, e = .returned v ∧ ∃ u1 : Value, ∃ u4 : Value, ∃ o2 : Own k_pmem_cell 142 w' 0 u1 r.cells, ∃ m3 : ∀ g, Value.ownBlock u1 = some g → w.heap.size ≤ g ∨ (g = G_0 ∨ some g = Value.ownBlock V0_0 ∨ some g = Value.ownBlock V0_1), ∃ o5 : Own (kI .i64) 3 w' 0 u4 r.plan.list, ∃ m6 : ∀ g, Value.ownBlock u4 = some g → w.heap.size ≤ g ∨ (g = G_0 ∨ some g = Value.ownBlock V0_0 ∨ some g = Value.ownBlock V0_1), v = .tuple #[] ∧ Blk w' G_0 139 [Seg.cell u1 o2.one, Seg.cell u4 o5.one, Seg.cell (.int .i64 r.plan.at_), Seg.cell (.bool r.off), Seg.cell (.bool r.armed), Seg.cell (.int .i64 r.left), Seg.cell (.int .i64 r.steps)] ∧ Fr (fun j => j = G_0 ∨ some j = Value.ownBlock V0_0 ∨ some j = Value.ownBlock V0_1) w w') := by
  unfold pmem_Device_Crash.f at h
  have fB : Fr (fun j => j = G_0 ∨ some j = Value.ownBlock V0_0 ∨ some j = Value.ownBlock V0_1) w w := Fr.refl _ _
  have M0_0 : ∀ g, Value.ownBlock V0_0 = some g → w.heap.size ≤ g ∨ (g = G_0 ∨ some g = Value.ownBlock V0_0 ∨ some g = Value.ownBlock V0_1) := fun g hg => .inr (.inr (.inl hg.symm))
  have M0_1 : ∀ g, Value.ownBlock V0_1 = some g → w.heap.size ≤ g ∨ (g = G_0 ∨ some g = Value.ownBlock V0_0 ∨ some g = Value.ownBlock V0_1) := fun g hg => .inr (.inr (.inr hg.symm))
  refine calls_cw Try.func32 rfl Try.ntmps32 rfl ?_
  refine cw_seq ?_
  refine cw_seq ?_
  refine cw_region ?_
  refine ol_val (v := .pointer (some ⟨G_0, 0, none⟩)) (by exact xr_move rfl rfl) rfl rfl rfl ?_
  refine ol_val (v := .pointer (some ⟨G_0, 0, none⟩)) (by exact xr_nilCheck rfl rfl) rfl rfl rfl ?_
  refine ol_val (v := .pointer (some ⟨G_0, 0, none⟩)) (by exact xr_fieldAddr (p := 0) (q := 0) rfl fl139_0 rfl) rfl rfl rfl ?_
  refine ol_val (v := V0_0) (by exact xr_load1 (v := V0_0) rfl ag135 rfl (b_0.seg 0 rfl rfl)) rfl rfl rfl ?_
  refine ol_val (v := .int .i64 (List.length a0.cells : Int)) (by exact xr_lenR rfl Try.underlying135 rfl O0_0.rd) rfl rfl rfl ?_
  refine ol_val (v := .int .i64 0) (by exact xr_move rfl rfl) rfl rfl rfl ?_
  refine ol_nil ?_
  obtain ⟨e8, l9, h10⟩ := bs h
  refine cw_mid (fun ρ' w' => ∃ O0_0 : Own k_pmem_cell 142 w' 0 V0_0 e8, ∃ O0_1 : Own (kI .i64) 3 w' 0 V0_1 a0.plan.list, ρ' 0 = .pointer (some ⟨G_0, 0, none⟩) ∧ Blk w' G_0 139 [Seg.cell V0_0 O0_0.one, Seg.cell V0_1 O0_1.one, Seg.cell (.int .i64 a0.plan.at_), Seg.cell (.bool a0.off), Seg.cell (.bool a0.armed), Seg.cell (.int .i64 a0.left), Seg.cell (.int .i64 a0.steps)] ∧ Fr (fun j => j = G_0 ∨ some j = Value.ownBlock V0_0 ∨ some j = Value.ownBlock V0_1) w w') ?_ ?_
  · refine cw_block ?_
    refine cw_round (fun (s7 : (List Int) × Int × (List S_pmem_cell)) ρ' w' => ∃ v11 : Value, ∃ O0_0 : Own k_pmem_cell 142 w' 0 V0_0 s7.2.2, ∃ O0_1 : Own (kI .i64) 3 w' 0 V0_1 a0.plan.list, ∃ r12 : Rd (kI .i64) w' v11 s7.1, OffR v11 s7.1 G_0 ∧ OffRV v11 s7.1 V0_0 ∧ OffRV v11 s7.1 V0_1 ∧ ρ' 0 = .pointer (some ⟨G_0, 0, none⟩) ∧ ρ' 1 = v11 ∧ ρ' 11 = .int .i64 (List.length a0.cells : Int) ∧ ρ' 12 = .int .i64 s7.2.1 ∧ Blk w' G_0 139 [Seg.cell V0_0 O0_0.one, Seg.cell V0_1 O0_1.one, Seg.cell (.int .i64 a0.plan.at_), Seg.cell (.bool a0.off), Seg.cell (.bool a0.armed), Seg.cell (.int .i64 a0.left), Seg.cell (.int .i64 a0.steps)] ∧ Fr (fun j => j = G_0 ∨ some j = Value.ownBlock V0_0 ∨ some j = Value.ownBlock V0_1) w w') l9 ?_ ?_
    · skip
      exact ⟨V1_0, O0_0, O0_1, R1_0, NR1_0_P0, NR1_0_R0_0, NR1_0_R0_1, rfl, rfl, rfl, rfl, b_0, fB⟩
    · rintro s7 x18 ρ16 w17 ⟨v11, O0_0, O0_1, r12, a13, a14, a15, e0, e1, e11, e12, b_0, fB⟩ h
      unfold pmem_Device_Crash.s0 at h
      refine cw_seq ?_
      refine cw_region ?_
      refine ol_val (v := .bool (decide (s7.2.1 < (List.length a0.cells : Int)))) (by exact xr_lss rfl e12 e11) rfl rfl rfl ?_
      refine ol_nil ?_
      refine cw_seq ?_
      rcases is h with ⟨c19, h⟩ | ⟨c19, h⟩
      · refine cw_condT rfl c19 ?_
        refine cw_skip ?_
        refine cw_seq ?_
        refine cw_block ?_
        refine cw_seq ?_
        refine cw_region ?_
        refine ol_val (v := .int .i64 s7.2.1) (by exact xr_move rfl e12) rfl rfl rfl ?_
        refine ol_val (v := .int .i64 s7.2.1) (by exact xr_assign rfl rfl) rfl rfl rfl ?_
        refine ol_nil ?_
        refine cw_seq ?_
        refine cw_region ?_
        refine ol_val (v := .pointer (some ⟨G_0, 0, none⟩)) (by exact xr_move rfl e0) rfl rfl rfl ?_
        refine ol_val (v := .pointer (some ⟨G_0, 0, none⟩)) (by exact xr_nilCheck rfl rfl) rfl rfl rfl ?_
        refine ol_val (v := .pointer (some ⟨G_0, 0, none⟩)) (by exact xr_fieldAddr (p := 0) (q := 0) rfl fl139_0 rfl) rfl rfl rfl ?_
        refine ol_val (v := V0_0) (by exact xr_load1 (v := V0_0) rfl ag135 rfl (b_0.seg 0 rfl rfl)) rfl rfl rfl ?_
        refine ol_val (v := .int .i64 s7.2.1) (by exact xr_move rfl rfl) rfl rfl rfl ?_
        obtain ⟨g20, h⟩ := gs h
        refine ol_val (v := .pointer (some ⟨(sb V0_0), so V0_0 + Int.toNat s7.2.1 * 4, none⟩)) (by exact xr_indexR (K := k_pmem_cell) (v := V0_0) rfl Try.underlying135 sz142 rfl O0_0.rd rfl g20.1 g20.2) rfl rfl rfl ?_
        refine ol_val (v := .pointer (some ⟨(sb V0_0), so V0_0 + Int.toNat s7.2.1 * 4, none⟩)) (by exact xr_assign rfl rfl) rfl rfl rfl ?_
        refine ol_nil ?_
        refine cw_seq ?_
        refine cw_seq ?_
        refine cw_region ?_
        refine ol_val (v := .pointer (some ⟨(sb V0_0), so V0_0 + Int.toNat s7.2.1 * 4, none⟩)) (by exact xr_move rfl rfl) rfl rfl rfl ?_
        obtain ⟨t21, k22, h⟩ := bs h
        refine ol_op (by exact opv_call rfl cal86 (ac rfl an) (pmem_cell_open__r0.ok fu _ (ix s7.2.2 s7.2.1) (sb V0_0) (so V0_0 + Int.toNat s7.2.1 * 4) (show At _ _ _ (cellsOf [Seg.cell (.int .u64 ((ix s7.2.2 s7.2.1).lasts)), Seg.cell (.int .u64 ((ix s7.2.2 s7.2.1).stored)), Seg.cell (.int .u64 ((ix s7.2.2 s7.2.1).sent)), Seg.cell (.bool ((ix s7.2.2 s7.2.1).flushed))]) from (O0_0.rd.elem g20.1 g20.2)) _ k22)) rfl rfl rfl ?_
        rintro _ w24 ⟨rfl, q23⟩
        have b_0 := b_0.gr q23
        have O0_0 := O0_0.gr q23
        have O0_1 := O0_1.gr q23
        have r12 := r12.gr q23
        have fB := fB.gr q23
        refine ol_nil ?_
        obtain ⟨x25, j26, h27⟩ := bs h
        refine cw_mid (fun ρ' w' => ∃ v28 : Value, ∃ O0_0 : Own k_pmem_cell 142 w' 0 V0_0 x25.2, ∃ O0_1 : Own (kI .i64) 3 w' 0 V0_1 a0.plan.list, ∃ r29 : Rd (kI .i64) w' v28 x25.1, OffR v28 x25.1 G_0 ∧ OffRV v28 x25.1 V0_0 ∧ OffRV v28 x25.1 V0_1 ∧ ρ' 0 = .pointer (some ⟨G_0, 0, none⟩) ∧ ρ' 1 = v28 ∧ ρ' 5 = .pointer (some ⟨(sb V0_0), so V0_0 + Int.toNat s7.2.1 * 4, none⟩) ∧ ρ' 11 = .int .i64 (List.length a0.cells : Int) ∧ ρ' 12 = .int .i64 s7.2.1 ∧ Blk w' G_0 139 [Seg.cell V0_0 O0_0.one, Seg.cell V0_1 O0_1.one, Seg.cell (.int .i64 a0.plan.at_), Seg.cell (.bool a0.off), Seg.cell (.bool a0.armed), Seg.cell (.int .i64 a0.left), Seg.cell (.int .i64 a0.steps)] ∧ Fr (fun j => j = G_0 ∨ some j = Value.ownBlock V0_0 ∨ some j = Value.ownBlock V0_1) w w') ?_ ?_
        · have h := j26
          rcases is h with ⟨c33, h⟩ | ⟨c33, h⟩
          · refine cw_condT rfl c33 ?_
            refine cw_seq ?_
            refine cw_region ?_
            refine ol_val (v := .int .i64 0) (by exact xr_assign rfl rfl) rfl rfl rfl ?_
            refine ol_nil ?_
            refine cw_seq ?_
            refine cw_seq ?_
            refine cw_region ?_
            refine ol_val (v := v11) (by exact xr_move rfl e1) rfl rfl rfl ?_
            refine ol_val (v := .int .i64 (List.length s7.1 : Int)) (by exact xr_lenR rfl Try.underlying25 rfl r12) rfl rfl rfl ?_
            refine ol_val (v := .bool (decide ((List.length s7.1 : Int) > 0))) (by exact xr_gtr rfl rfl rfl) rfl rfl rfl ?_
            refine ol_nil ?_
            obtain ⟨x34, j35, h36⟩ := bs h
            refine cw_mid (fun ρ' w' => ∃ v37 : Value, ∃ O0_0 : Own k_pmem_cell 142 w' 0 V0_0 s7.2.2, ∃ O0_1 : Own (kI .i64) 3 w' 0 V0_1 a0.plan.list, ∃ r38 : Rd (kI .i64) w' v37 x34.1, OffR v37 x34.1 G_0 ∧ OffRV v37 x34.1 V0_0 ∧ OffRV v37 x34.1 V0_1 ∧ ρ' 0 = .pointer (some ⟨G_0, 0, none⟩) ∧ ρ' 1 = v37 ∧ ρ' 5 = .pointer (some ⟨(sb V0_0), so V0_0 + Int.toNat s7.2.1 * 4, none⟩) ∧ ρ' 6 = .int .i64 x34.2 ∧ ρ' 11 = .int .i64 (List.length a0.cells : Int) ∧ ρ' 12 = .int .i64 s7.2.1 ∧ Blk w' G_0 139 [Seg.cell V0_0 O0_0.one, Seg.cell V0_1 O0_1.one, Seg.cell (.int .i64 a0.plan.at_), Seg.cell (.bool a0.off), Seg.cell (.bool a0.armed), Seg.cell (.int .i64 a0.left), Seg.cell (.int .i64 a0.steps)] ∧ Fr (fun j => j = G_0 ∨ some j = Value.ownBlock V0_0 ∨ some j = Value.ownBlock V0_1) w w') ?_ ?_
            · have h := j35
              rcases is h with ⟨c42, h⟩ | ⟨c42, h⟩
              · refine cw_condT rfl c42 ?_
                obtain ⟨g43, h⟩ := gs h
                obtain ⟨g45, h⟩ := gs h
                refine cw_drawL 6 [fun vz wz => vz = (v11 : Value), fun vz wz => vz = (.pointer (some ⟨(sb v11), so v11 + Int.toNat 0 * 1, none⟩) : Value), fun vz wz => vz = (.int .i64 (ix s7.1 0) : Value), fun vz wz => vz = (v11 : Value), fun vz wz => ∃ r44 : Rd (kI .i64) wz (subv 1 v11 (Int.toNat 1) (List.length s7.1)) (cut s7.1 1 (List.length s7.1 : Int)), vz = (subv 1 v11 (Int.toNat 1) (List.length s7.1) : Value), fun vz wz => vz = (.int .i64 (ix s7.1 0) : Value)] mo rfl ⟨fun _ _ _ h _ => h, fun _ _ _ h _ => h, fun _ _ _ h _ => h, fun _ _ _ h _ => h, fun _ _ _ ⟨r44, h⟩ q => ⟨r44.gr q, h⟩, fun _ _ _ h _ => h, trivial⟩ ?_ ?_
                · refine ⟨?_, ?_, ?_, ?_, ?_, ?_, trivial⟩
                  · intro ρz wz hz hk hd
                    exact sk_val (v := v11) (by exact xr_move rfl ((hk 1 rfl).trans e1)) rfl rfl
                  · intro ρz wz hz hk hd
                    have d26 := hd 0 rfl 26 rfl
                    exact sk_val (v := .pointer (some ⟨(sb v11), so v11 + Int.toNat 0 * 1, none⟩)) (by exact xr_indexR (K := (kI .i64)) (v := v11) rfl Try.underlying25 sz3 d26 (r12.gr hz) rfl (by decide) g43) rfl rfl
                  · intro ρz wz hz hk hd
                    have d27 := hd 1 rfl 27 rfl
                    exact sk_val (v := .int .i64 (ix s7.1 0)) (by exact xr_load1 (v := .int .i64 (ix s7.1 0)) rfl ag3 d27 ((r12.gr hz).elem (by decide) g43)) rfl rfl
                  · intro ρz wz hz hk hd
                    exact sk_val (v := v11) (by exact xr_move rfl ((hk 1 rfl).trans e1)) rfl rfl
                  · intro ρz wz hz hk hd
                    have d29 := hd 3 rfl 29 rfl
                    exact sk_val (by exact xr_slice_l (K := (kI .i64)) (v := v11) rfl Try.underlying25 sz3 d29 (r12.gr hz) rfl (by decide) g45) rfl ⟨(r12.gr hz).cut (lo := 1) (hi := (List.length s7.1 : Int)) (by decide) g45 (Int.le_refl _), rfl⟩
                  · intro ρz wz hz hk hd
                    have d28 := hd 2 rfl 28 rfl
                    exact sk_val (v := .int .i64 (ix s7.1 0)) (by exact xr_assign rfl d28) rfl rfl
                · intro ρ46 w47 q48 hk hd
                  have e0 := (hk 0 rfl).trans e0
                  have e5 := (hk 5 rfl).trans rfl
                  have e6 := hd 5 rfl 6 rfl
                  have e11 := (hk 11 rfl).trans e11
                  have e12 := (hk 12 rfl).trans e12
                  obtain ⟨r49, e30⟩ := hd 4 rfl 30 rfl
                  have b_0 := b_0.gr q48
                  have O0_0 := O0_0.gr q48
                  have O0_1 := O0_1.gr q48
                  have fB := fB.gr q48
                  refine ol_val (v := subv 1 v11 (Int.toNat 1) (List.length s7.1)) (by exact xr_assign rfl e30) rfl rfl rfl ?_
                  refine ol_nil ?_
                  obtain rfl := Option.some.inj h
                  refine thn_i ?_
                  exact ⟨(subv 1 v11 (Int.toNat 1) (List.length s7.1)), O0_0, O0_1, r49, (OffR.cut a13), (OffRV.cut a14), (OffRV.cut a15), e0, rfl, e5, e6, e11, e12, b_0, fB⟩
              · refine cw_condF rfl c42 ?_
                refine cw_skip ?_
                obtain rfl := Option.some.inj h
                refine thn_i ?_
                exact ⟨v11, O0_0, O0_1, r12, a13, a14, a15, e0, e1, rfl, rfl, e11, e12, b_0, fB⟩
            · rintro ρ50 w51 ⟨v37, O0_0, O0_1, r38, a39, a40, a41, e0, e1, e5, e6, e11, e12, b_0, fB⟩
              have h := h36
              refine cw_region ?_
              refine ol_val (v := .pointer (some ⟨(sb V0_0), so V0_0 + Int.toNat s7.2.1 * 4, none⟩)) (by exact xr_move rfl e5) rfl rfl rfl ?_
              refine ol_val (v := .pointer (some ⟨(sb V0_0), so V0_0 + Int.toNat s7.2.1 * 4, none⟩)) (by exact xr_move rfl e5) rfl rfl rfl ?_
              refine ol_val (v := .int .i64 x34.2) (by exact xr_move rfl e6) rfl rfl rfl ?_
              obtain ⟨t52, k53, h⟩ := bs h
              refine ol_op (by exact opv_call rfl cal87 (ac rfl (ac rfl an)) (pmem_cell_fate__r0.ok fu _ (ix s7.2.2 s7.2.1) (sb V0_0) (so V0_0 + Int.toNat s7.2.1 * 4) (show At _ _ _ (cellsOf [Seg.cell (.int .u64 ((ix s7.2.2 s7.2.1).lasts)), Seg.cell (.int .u64 ((ix s7.2.2 s7.2.1).stored)), Seg.cell (.int .u64 ((ix s7.2.2 s7.2.1).sent)), Seg.cell (.bool ((ix s7.2.2 s7.2.1).flushed))]) from (O0_0.rd.elem g20.1 g20.2)) x34.2 _ k53)) rfl rfl rfl ?_
              rintro _ w55 ⟨rfl, q54⟩
              have b_0 := b_0.gr q54
              have O0_0 := O0_0.gr q54
              have O0_1 := O0_1.gr q54
              have r38 := r38.gr q54
              have fB := fB.gr q54
              obtain ⟨t62, k63, h⟩ := bs h
              have f66 := off_ty b_0 O0_0 (by decide)
              have f67 := OffV.ty O0_1 O0_0 (by decide)
              obtain ⟨X56, Y57, h58, h59, b60, k61⟩ := Own.sub (K := k_pmem_cell) (i := s7.2.1) (ss := [Seg.cell (.int .u64 ((ix s7.2.2 s7.2.1).lasts)), Seg.cell (.int .u64 ((ix s7.2.2 s7.2.1).stored)), Seg.cell (.int .u64 ((ix s7.2.2 s7.2.1).sent)), Seg.cell (.bool ((ix s7.2.2 s7.2.1).flushed))]) O0_0 g20.1 g20.2 rfl
              refine ol_op (by exact opv_call rfl cal85 (ac (ptrE (q := List.length X56) rfl h58) (ac rfl an)) (pmem_cell_keep__i0.ok fu _ (ix s7.2.2 s7.2.1) (sb V0_0) 142 X56 Y57 b60 t52 _ k63)) rfl rfl rfl ?_
              rintro _ w69 ⟨rfl, b65, q64⟩
              have O0_0 := k61 _ t62 [Seg.cell (.int .u64 t62.lasts), Seg.cell (.int .u64 t62.stored), Seg.cell (.int .u64 t62.sent), Seg.cell (.bool t62.flushed)] rfl b65
              have q64 := fr_own q64 h59
              have b_0 := b_0.wrO q64 f66
              have O0_1 := O0_1.wrV q64 f67
              have fB := fB.wrM q64 M0_0
              have r38 := r38.wrV q64 a40
              refine ol_nil ?_
              obtain rfl := Option.some.inj h
              refine thn_i ?_
              exact ⟨v37, O0_0, O0_1, r38, a39, a40, a41, e0, e1, e5, e11, e12, b_0, fB⟩
          · refine cw_condF rfl c33 ?_
            refine cw_skip ?_
            obtain rfl := Option.some.inj h
            refine thn_i ?_
            exact ⟨v11, O0_0, O0_1, r12, a13, a14, a15, e0, e1, rfl, e11, e12, b_0, fB⟩
        · rintro ρ70 w71 ⟨v28, O0_0, O0_1, r29, a30, a31, a32, e0, e1, e5, e11, e12, b_0, fB⟩
          have h := h27
          refine cw_region ?_
          refine ol_val (v := .pointer (some ⟨(sb V0_0), so V0_0 + Int.toNat s7.2.1 * 4, none⟩)) (by exact xr_move rfl e5) rfl rfl rfl ?_
          refine ol_val (v := .pointer (some ⟨(sb V0_0), so V0_0 + Int.toNat s7.2.1 * 4, none⟩)) (by exact xr_move rfl e5) rfl rfl rfl ?_
          refine ol_val (v := .pointer (some ⟨(sb V0_0), so V0_0 + Int.toNat s7.2.1 * 4, none⟩)) (by exact xr_nilCheck rfl rfl) rfl rfl rfl ?_
          refine ol_val (v := .pointer (some ⟨(sb V0_0), so V0_0 + Int.toNat s7.2.1 * 4 + 0, none⟩)) (by exact xr_fieldAddr (p := so V0_0 + Int.toNat s7.2.1 * 4) (q := 0) rfl fl142_0 rfl) rfl rfl rfl ?_
          obtain ⟨g72, h⟩ := gs h
          refine ol_val (v := .int .u64 ((ix x25.2 s7.2.1).lasts)) (by exact xr_load1 (v := .int .u64 ((ix x25.2 s7.2.1).lasts)) rfl ag22 rfl (At.segs (ss := segs_pmem_cell (ix x25.2 s7.2.1)) (O0_0.rd.elem g20.1 g72) 0 1 rfl)) rfl rfl rfl ?_
          refine ol_val (v := .pointer (some ⟨(sb V0_0), so V0_0 + Int.toNat s7.2.1 * 4, none⟩)) (by exact xr_nilCheck rfl rfl) rfl rfl rfl ?_
          refine ol_val (v := .pointer (some ⟨(sb V0_0), so V0_0 + Int.toNat s7.2.1 * 4 + 1, none⟩)) (by exact xr_fieldAddr (p := so V0_0 + Int.toNat s7.2.1 * 4) (q := 1) rfl fl142_1 rfl) rfl rfl rfl ?_
          obtain ⟨g74, h⟩ := gs h
          have f75 := off_ty b_0 O0_0 (by decide)
          have f76 := OffV.ty O0_1 O0_0 (by decide)
          refine ol_op0 (by exact opv_storeRow (z := (⟨(ix x25.2 s7.2.1).lasts, (ix x25.2 s7.2.1).lasts, (ix x25.2 s7.2.1).sent, (ix x25.2 s7.2.1).flushed⟩ : S_pmem_cell)) (xs := cellsOf [Seg.cell (.int .u64 ((ix x25.2 s7.2.1).lasts))]) rfl sz22 rfl rfl rfl (len_cellsOf _) (one_cellsOf _) O0_0 g20.1 g74 (Spl.segs (segs_pmem_cell (ix x25.2 s7.2.1)) 1 1 [Seg.cell (.int .u64 ((ix x25.2 s7.2.1).lasts))] rfl rfl) rfl) rfl rfl ?_
          rintro _ w78 ⟨O0_0, q73⟩
          have b_0 := b_0.wrO q73 f75
          have O0_1 := O0_1.wrV q73 f76
          have fB := fB.wrM q73 M0_0
          have r29 := r29.wrV q73 a31
          refine ol_nil ?_
          refine blk_i ?_
          refine cw_region ?_
          refine ol_val (v := .int .i64 (IntKind.i64.wrap (s7.2.1 + 1))) (by exact xr_add rfl e12 rfl) rfl rfl rfl ?_
          refine ol_val (v := .int .i64 (IntKind.i64.wrap (s7.2.1 + 1))) (by exact xr_move rfl rfl) rfl rfl rfl ?_
          refine ol_nil ?_
          obtain rfl := Option.some.inj h
          refine lp_in ?_
          exact ⟨v28, O0_0, O0_1, r29, a30, a31, a32, e0, e1, e11, rfl, b_0, fB⟩
      · refine cw_condF rfl c19 ?_
        refine cw_exit ?_
        repeat (first | with_reducible refine thn_e ?_ | with_reducible refine blk_e rfl ?_)
        obtain rfl := Option.some.inj h
        refine lp_exit ?_
        rintro rfl
        refine thn_x ?_
        exact ⟨O0_0, O0_1, e0, b_0, fB⟩
  · rintro ρ79 w80 ⟨O0_0, O0_1, e0, b_0, fB⟩
    have h := h10
    refine cw_seq ?_
    refine cw_region ?_
    refine ol_val (v := .pointer (some ⟨G_0, 0, none⟩)) (by exact xr_move rfl e0) rfl rfl rfl ?_
    refine ol_val (v := aggV [Seg.cell (.slice none 0 0) (by rfl), Seg.cell (.int .i64 (0 : Int))]) (by exact xr_build (vals := []) rfl trivial (bl137_ _)) rfl rfl rfl ?_
    refine ol_val (v := .pointer (some ⟨G_0, 0, none⟩)) (by exact xr_nilCheck rfl rfl) rfl rfl rfl ?_
    refine ol_val (v := .pointer (some ⟨G_0, 1, none⟩)) (by exact xr_fieldAddr (p := 0) (q := 1) rfl fl139_1 rfl) rfl rfl rfl ?_
    have f82 := off_ty b_0 O0_0 (by decide)
    refine ol_op0 (by exact opv_store (ss' := [Seg.cell V0_0 O0_0.one, Seg.cell (.slice none 0 0) (by rfl), Seg.cell (.int .i64 (0 : Int)), Seg.cell (.bool a0.off), Seg.cell (.bool a0.armed), Seg.cell (.int .i64 a0.left), Seg.cell (.int .i64 a0.steps)]) (xs := cellsOf [Seg.cell (.slice none 0 0) (by rfl), Seg.cell (.int .i64 (0 : Int))]) rfl sz137 rfl rfl rfl (len_cellsOf _) (one_cellsOf _) b_0 (Spl.segs _ 1 2 [Seg.cell (.slice none 0 0) (by rfl), Seg.cell (.int .i64 (0 : Int))] rfl rfl)) rfl rfl ?_
    rintro _ w83 ⟨b_0, q81⟩
    have O0_0 := O0_0.wr q81 f82
    have fB := fB.wrS q81 (.inl rfl)
    refine ol_nil ?_
    refine cw_region ?_
    refine ol_val (v := .pointer (some ⟨G_0, 0, none⟩)) (by exact xr_move rfl e0) rfl rfl rfl ?_
    refine ol_val (v := .pointer (some ⟨G_0, 0, none⟩)) (by exact xr_move rfl e0) rfl rfl rfl ?_
    refine ol_val (v := .pointer (some ⟨G_0, 0, none⟩)) (by exact xr_move rfl e0) rfl rfl rfl ?_
    refine ol_val (v := .pointer (some ⟨G_0, 0, none⟩)) (by exact xr_nilCheck rfl rfl) rfl rfl rfl ?_
    refine ol_val (v := .pointer (some ⟨G_0, 3, none⟩)) (by exact xr_fieldAddr (p := 0) (q := 3) rfl fl139_2 rfl) rfl rfl rfl ?_
    have f85 := off_ty b_0 O0_0 (by decide)
    refine ol_op0 (by exact opv_store (ss' := [Seg.cell V0_0 O0_0.one, Seg.cell (.slice none 0 0) (by rfl), Seg.cell (.int .i64 (0 : Int)), Seg.cell (.bool false), Seg.cell (.bool a0.armed), Seg.cell (.int .i64 a0.left), Seg.cell (.int .i64 a0.steps)]) (xs := cellsOf [Seg.cell (.bool false)]) rfl sz4 rfl rfl rfl (len_cellsOf _) (one_cellsOf _) b_0 (Spl.segs _ 3 1 [Seg.cell (.bool false)] rfl rfl)) rfl rfl ?_
    rintro _ w86 ⟨b_0, q84⟩
    have O0_0 := O0_0.wr q84 f85
    have fB := fB.wrS q84 (.inl rfl)
    refine ol_val (v := .pointer (some ⟨G_0, 0, none⟩)) (by exact xr_nilCheck rfl rfl) rfl rfl rfl ?_
    refine ol_val (v := .pointer (some ⟨G_0, 4, none⟩)) (by exact xr_fieldAddr (p := 0) (q := 4) rfl fl139_3 rfl) rfl rfl rfl ?_
    have f88 := off_ty b_0 O0_0 (by decide)
    refine ol_op0 (by exact opv_store (ss' := [Seg.cell V0_0 O0_0.one, Seg.cell (.slice none 0 0) (by rfl), Seg.cell (.int .i64 (0 : Int)), Seg.cell (.bool false), Seg.cell (.bool false), Seg.cell (.int .i64 a0.left), Seg.cell (.int .i64 a0.steps)]) (xs := cellsOf [Seg.cell (.bool false)]) rfl sz4 rfl rfl rfl (len_cellsOf _) (one_cellsOf _) b_0 (Spl.segs _ 4 1 [Seg.cell (.bool false)] rfl rfl)) rfl rfl ?_
    rintro _ w89 ⟨b_0, q87⟩
    have O0_0 := O0_0.wr q87 f88
    have fB := fB.wrS q87 (.inl rfl)
    refine ol_val (v := .pointer (some ⟨G_0, 0, none⟩)) (by exact xr_nilCheck rfl rfl) rfl rfl rfl ?_
    refine ol_val (v := .pointer (some ⟨G_0, 5, none⟩)) (by exact xr_fieldAddr (p := 0) (q := 5) rfl fl139_4 rfl) rfl rfl rfl ?_
    have f91 := off_ty b_0 O0_0 (by decide)
    refine ol_op0 (by exact opv_store (ss' := [Seg.cell V0_0 O0_0.one, Seg.cell (.slice none 0 0) (by rfl), Seg.cell (.int .i64 (0 : Int)), Seg.cell (.bool false), Seg.cell (.bool false), Seg.cell (.int .i64 0), Seg.cell (.int .i64 a0.steps)]) (xs := cellsOf [Seg.cell (.int .i64 0)]) rfl sz3 rfl rfl rfl (len_cellsOf _) (one_cellsOf _) b_0 (Spl.segs _ 5 1 [Seg.cell (.int .i64 0)] rfl rfl)) rfl rfl ?_
    rintro _ w92 ⟨b_0, q90⟩
    have O0_0 := O0_0.wr q90 f91
    have fB := fB.wrS q90 (.inl rfl)
    refine ol_nil ?_
    obtain rfl := Option.some.inj h
    refine fin_end0 Try.results32 ?_
    exact ⟨_, rfl, V0_0, (.slice none 0 0), O0_0, M0_0, Own.nil _ _ _ _, ms_nil, rfl, b_0, fB⟩
end Go.Proofs.Ytklhbaghbmndeaa

/- slices.Clone[[]int,int]: its model, and that the Go function computes it: written by gen.py. -/
set_option linter.unusedVariables false
namespace Go.Proofs.Ytklhbaghbmndeaa
open Go Go.Xw
def slices_Clone_1.f (fu : Nat) (a0 : List Int) : Option (List Int) := (if List.length a0 ≤ LIM then some a0 else none)
set_option maxRecDepth 100000 in
theorem slices_Clone_1.ok (fu : Nat) (w : World) (a0 : List Int) (V0_0 : Value) (R0_0 : Rd (kI .i64) w V0_0 a0) (r : List Int) (h : slices_Clone_1.f fu a0 = some r) :
    Calls Try.prog 90 (([V0_0] : List Value).toArray) w (fun e w' => ∃ v, e = .returned v ∧ ∃ u1 : Value, ∃ o2 : Own (kI .i64) 3 w' w.heap.size u1 r, v = u1 ∧ Gr w w') := by
  unfold slices_Clone_1.f at h
  obtain ⟨g, h⟩ := gs h
  obtain rfl := Option.some.inj h
  have fB : Gr w w := Fr.refl _ _
  refine calls_cw Try.func90 rfl Try.ntmps90 rfl ?_
  refine cw_seq ?_
  refine cw_region ?_
  refine ol_val (v := .slice none 0 0) (by exact xr_assign rfl rfl) rfl rfl rfl ?_
  refine ol_nil ?_
  refine cw_seq ?_
  refine cw_seq ?_
  refine cw_region ?_
  refine ol_val (v := V0_0) (by exact xr_move rfl rfl) rfl rfl rfl ?_
  refine ol_val (v := .bool (isNilV V0_0)) (by exact xr_eqNil rfl Try.underlying25 rfl rfl R0_0) rfl rfl rfl ?_
  refine ol_nil ?_
  rcases bt (isNilV V0_0) with c | c
  · refine cw_condT rfl c ?_
    obtain rfl := R0_0.isNil c
    refine cw_seq ?_
    refine cw_region ?_
    refine ol_val (v := .slice none 0 0) (by exact xr_assign rfl rfl) rfl rfl rfl ?_
    refine ol_nil ?_
    refine cw_ret ?_
    repeat (first | with_reducible refine thn_r ?_ | with_reducible refine blk_r ?_)
    refine fin_ret1 Try.results90 rfl ?_
    exact ⟨_, rfl, _, Own.nil _ _ _ _, rfl, fB⟩
  · refine cw_condF rfl c ?_
    refine cw_skip ?_
    refine cw_seq ?_
    refine cw_region ?_
    refine ol_op (by exact opv_buildSlice (K := (kI .i64)) (xs := ([] : List Int)) (vals := []) rfl Try.underlying25 el3 rfl rfl trivial rfl rfl rfl fB.size) rfl rfl rfl ?_
    rintro v1 w1 ⟨o1, q1, z1⟩
    refine ol_val (v := V0_0) (by exact xr_move rfl rfl) rfl rfl rfl ?_
    refine ol_op (by exact opv_append (K := (kI .i64)) rfl Try.underlying25 el3 rfl rfl rfl rfl rfl o1 (R0_0.gr q1) (by simpa using g) (fB.gr q1).size) rfl rfl rfl ?_
    rintro v2 w2 ⟨o2, q2, n2⟩
    refine ol_val (v := v2) (by exact xr_assign rfl rfl) rfl rfl rfl ?_
    refine ol_nil ?_
    refine cw_ret ?_
    repeat (first | with_reducible refine thn_r ?_ | with_reducible refine blk_r ?_)
    refine fin_ret1 Try.results90 rfl ?_
    exact ⟨_, rfl, v2, o2, rfl, (fB.gr q1).wrO q2 o1.geO⟩
end Go.Proofs.Ytklhbaghbmndeaa

/- (*rickyard/pmem.Device).Plan: its model, and that the Go function computes it: written by gen.py. -/
set_option linter.unusedVariables false
namespace Go.Proofs.Ytklhbaghbmndeaa
open Go Go.Xw
def pmem_Device_Plan.f (fu : Nat) (a0 : S_pmem_Device) (a1 : List Int) : Option S_pmem_Device := ((slices_Clone_1.f fu a1 : Option (List Int)).bind fun t7 => some ((⟨a0.cells, (⟨t7, (0 : Int)⟩ : S_pmem_plan), a0.off, a0.armed, a0.left, a0.steps⟩ : S_pmem_Device)))
set_option maxRecDepth 100000 in
set_option maxHeartbeats 400000 in
theorem pmem_Device_Plan.ok (fu : Nat) (w : World) (a0 : S_pmem_Device) (G_0 : Nat) (V0_0 : Value) (O0_0 : Own k_pmem_cell 142 w 0 V0_0 a0.cells) (V0_1 : Value) (O0_1 : Own (kI .i64) 3 w 0 V0_1 a0.plan.list) (b_0 : Blk w G_0 139 [Seg.cell V0_0 O0_0.one, Seg.cell V0_1 O0_1.one, Seg.cell (.int .i64 a0.plan.at_), Seg.cell (.bool a0.off), Seg.cell (.bool a0.armed), Seg.cell (.int .i64 a0.left), Seg.cell (.int .i64 a0.steps)]) (a1 : List Int) (V1_0 : Value) (R1_0 : Rd (kI .i64) w V1_0 a1) (NR1_0_P0 : OffR V1_0 a1 G_0) (NR1_0_R0_0 : OffRV V1_0 a1 V0_0) (NR1_0_R0_1 : OffRV V1_0 a1 V0_1) (r : S_pmem_Device) (h : pmem_Device_Plan.f fu a0 a1 = some r) :
    Calls Try.prog 35 (([.pointer (some ⟨G_0, 0, none⟩), V1_0] : List Value).toArray) w (fun e w' => ∃ v, e = .returned v ∧ ∃ u1 : Value, ∃ u4 : Value, ∃ o2 : Own k_pmem_cell 142 w' 0 u1 r.cells, ∃ m3 : ∀ g, Value.ownBlock u1 = some g → w.heap.size ≤ g ∨ (g = G_0 ∨ some g = Value.ownBlock V0_0 ∨ some g = Value.ownBlock V0_1), ∃ o5 : Own (kI .i64) 3 w' 0 u4 r.plan.list, ∃ m6 : ∀ g, Value.ownBlock u4 = some g → w.heap.size ≤ g ∨ (g = G_0 ∨ some g = Value.ownBlock V0_0 ∨ some g = Value.ownBlock V0_1), v = .tuple #[] ∧ Blk w' G_0 139 [Seg.cell u1 o2.one, Seg.cell u4 o5.one, Seg.cell (.int .i64 r.plan.at_), Seg.cell (.bool r.off), Seg.cell (.bool r.armed), Seg.cell (.int .i64 r.left), Seg.cell (.int .i64 r.steps)] ∧ Fr (fun j => j = G_0 ∨ some j = Value.ownBlock V0_0 ∨ some j = Value.ownBlock V0_1) w w') := by
  unfold pmem_Device_Plan.f at h
  have fB : Fr (fun j => j = G_0 ∨ some j = Value.ownBlock V0_0 ∨ some j = Value.ownBlock V0_1) w w := Fr.refl _ _
  have M0_0 : ∀ g, Value.ownBlock V0_0 = some g → w.heap.size ≤ g ∨ (g = G_0 ∨ some g = Value.ownBlock V0_0 ∨ some g = Value.ownBlock V0_1) := fun g hg => .inr (.inr (.inl hg.symm))
  have M0_1 : ∀ g, Value.ownBlock V0_1 = some g → w.heap.size ≤ g ∨ (g = G_0 ∨ some g = Value.ownBlock V0_0 ∨ some g = Value.ownBlock V0_1) := fun g hg => .inr (.inr (.inr hg.symm))
  refine calls_cw Try.func35 rfl Try.ntmps35 rfl ?_
  refine cw_region ?_
  refine ol_val (v := .pointer (some ⟨G_0, 0, none⟩)) (by exact xr_move rfl rfl) rfl rfl rfl ?_
  refine ol_val (v := V1_0) (by exact xr_move rfl rfl) rfl rfl rfl ?_
  obtain ⟨t7, k8, h⟩ := bs h
  refine ol_op (by exact opv_call rfl cal90 (ac rfl an) (slices_Clone_1.ok fu _ a1 V1_0 (R1_0) _ k8)) rfl rfl rfl ?_
  rintro u9 w13 ⟨_, o10, rfl, q12⟩
  have a14 := OffV.call O0_1 o10
  have o10 := Own.base o10 fB.size
  have b_0 := b_0.gr q12
  have O0_0 := O0_0.gr q12
  have O0_1 := O0_1.gr q12
  have fB := fB.gr q12
  refine ol_val (v := aggV [Seg.cell u9 o10.one, Seg.cell (.int .i64 (0 : Int))]) (by exact xr_buildS (vals := [(0, u9)]) (res := [Seg.cell u9 o10.one, Seg.cell (.int .i64 (0 : Int))]) rfl ⟨rfl, rfl, trivial⟩ Try.underlying137 ze137 pl137 (fl_cons (xs := cellsOf [Seg.cell u9 o10.one]) (cs' := cellsOf [Seg.cell u9 o10.one, Seg.cell (.int .i64 (0 : Int))]) rfl (cells_one o10.one) (len_cellsOf _) (Spl.segs [Seg.cell (.slice none 0 0) (by rfl), Seg.cell (.int .i64 (0 : Int))] 0 1 [Seg.cell u9 o10.one] rfl rfl) fl_nil)) rfl rfl rfl ?_
  refine ol_val (v := .pointer (some ⟨G_0, 0, none⟩)) (by exact xr_nilCheck rfl rfl) rfl rfl rfl ?_
  refine ol_val (v := .pointer (some ⟨G_0, 1, none⟩)) (by exact xr_fieldAddr (p := 0) (q := 1) rfl fl139_1 rfl) rfl rfl rfl ?_
  have f16 := off_ty b_0 O0_0 (by decide)
  have f17 := off_ty b_0 o10 (by decide)
  refine ol_op0 (by exact opv_store (ss' := [Seg.cell V0_0 O0_0.one, Seg.cell u9 o10.one, Seg.cell (.int .i64 (0 : Int)), Seg.cell (.bool a0.off), Seg.cell (.bool a0.armed), Seg.cell (.int .i64 a0.left), Seg.cell (.int .i64 a0.steps)]) (xs := cellsOf [Seg.cell u9 o10.one, Seg.cell (.int .i64 (0 : Int))]) rfl sz137 rfl rfl rfl (len_cellsOf _) (one_cellsOf _) b_0 (Spl.segs _ 1 2 [Seg.cell u9 o10.one, Seg.cell (.int .i64 (0 : Int))] rfl rfl)) rfl rfl ?_
  rintro _ w18 ⟨b_0, q15⟩
  have O0_0 := O0_0.wr q15 f16
  have o10 := o10.wr q15 f17
  have fB := fB.wrS q15 (.inl rfl)
  refine ol_nil ?_
  obtain rfl := Option.some.inj h
  refine fin_end0 Try.results35 ?_
  exact ⟨_, rfl, V0_0, u9, O0_0, M0_0, (Own.base o10 (Nat.zero_le _)), (ms_geO o10), rfl, b_0, fB⟩
end Go.Proofs.Ytklhbaghbmndeaa

/- (*rickyard/pmem.Device).Arm: its model, and that the Go function computes it: written by gen.py. -/
set_option linter.unusedVariables false
namespace Go.Proofs.Ytklhbaghbmndeaa
open Go Go.Xw
def pmem_Device_Arm.f (fu : Nat) (a0 : S_pmem_Device) (a1 : Int) : Option S_pmem_Device := (if a0.off = true then some (a0) else some ((⟨a0.cells, a0.plan, (decide (a1 = 0)), (decide (a1 ≥ 0)), a1, a0.steps⟩ : S_pmem_Device)))
set_option maxRecDepth 100000 in
set_option maxHeartbeats 400000 in
theorem pmem_Device_Arm.ok (fu : Nat) (w : World) (a0 : S_pmem_Device) (G_0 : Nat) (V0_0 : Value) (R0_0 : Rd k_pmem_cell w V0_0 a0.cells) (N0_0 : OffR V0_0 a0.cells G_0) (V0_1 : Value) (R0_1 : Rd (kI .i64) w V0_1 a0.plan.list) (N0_1 : OffR V0_1 a0.plan.list G_0) (b_0 : Blk w G_0 139 [Seg.cell V0_0 R0_0.one, Seg.cell V0_1 R0_1.one, Seg.cell (.int .i64 a0.plan.at_), Seg.cell (.bool a0.off), Seg.cell (.bool a0.armed), Seg.cell (.int .i64 a0.left), Seg.cell (.int .i64 a0.steps)]) (a1 : Int) (r : S_pmem_Device) (h : pmem_Device_Arm.f fu a0 a1 = some r) :
    Calls Try.prog 38 (([.pointer (some ⟨G_0, 0, none⟩), .int .i64 a1] : List Value).toArray) w (fun e w' => ∃ v, e = .returned v ∧ v = .tuple #[] ∧ Blk w' G_0 139 [Seg.cell V0_0 R0_0.one, Seg.cell V0_1 R0_1.one, Seg.cell (.int .i64 r.plan.at_), Seg.cell (.bool r.off), Seg.cell (.bool r.armed), Seg.cell (.int .i64 r.left), Seg.cell (.int .i64 r.steps)] ∧ Fr (fun j => j = G_0) w w') := by
  unfold pmem_Device_Arm.f at h
  have fB : Fr (fun j => j = G_0) w w := Fr.refl _ _
  refine calls_cw Try.func38 rfl Try.ntmps38 rfl ?_
  refine cw_seq ?_
  refine cw_seq ?_
  refine cw_region ?_
  refine ol_val (v := .pointer (some ⟨G_0, 0, none⟩)) (by exact xr_move rfl rfl) rfl rfl rfl ?_
  refine ol_val (v := .pointer (some ⟨G_0, 0, none⟩)) (by exact xr_nilCheck rfl rfl) rfl rfl rfl ?_
  refine ol_val (v := .pointer (some ⟨G_0, 3, none⟩)) (by exact xr_fieldAddr (p := 0) (q := 3) rfl fl139_2 rfl) rfl rfl rfl ?_
  refine ol_val (v := .bool a0.off) (by exact xr_load1 (v := .bool a0.off) rfl ag4 rfl (b_0.seg 3 rfl rfl)) rfl rfl rfl ?_
  refine ol_nil ?_
  rcases is h with ⟨c1, h⟩ | ⟨c1, h⟩
  · refine cw_condT rfl c1 ?_
    refine cw_ret ?_
    repeat (first | with_reducible refine thn_r ?_ | with_reducible refine blk_r ?_)
    obtain rfl := Option.some.inj h
    refine fin_ret0 Try.results38 ?_
    exact ⟨_, rfl, rfl, b_0, fB⟩
  · refine cw_condF rfl c1 ?_
    refine cw_skip ?_
    refine cw_seq ?_
    refine cw_region ?_
    refine ol_val (v := .pointer (some ⟨G_0, 0, none⟩)) (by exact xr_move rfl rfl) rfl rfl rfl ?_
    refine ol_val (v := .pointer (some ⟨G_0, 0, none⟩)) (by exact xr_move rfl rfl) rfl rfl rfl ?_
    refine ol_val (v := .int .i64 a1) (by exact xr_move rfl rfl) rfl rfl rfl ?_
    refine ol_val (v := .bool (decide (a1 ≥ 0))) (by exact xr_geq rfl rfl rfl) rfl rfl rfl ?_
    refine ol_val (v := .int .i64 a1) (by exact xr_move rfl rfl) rfl rfl rfl ?_
    refine ol_val (v := .pointer (some ⟨G_0, 0, none⟩)) (by exact xr_nilCheck rfl rfl) rfl rfl rfl ?_
    refine ol_val (v := .pointer (some ⟨G_0, 4, none⟩)) (by exact xr_fieldAddr (p := 0) (q := 4) rfl fl139_3 rfl) rfl rfl rfl ?_
    refine ol_op0 (by exact opv_store (ss' := [Seg.cell V0_0 R0_0.one, Seg.cell V0_1 R0_1.one, Seg.cell (.int .i64 a0.plan.at_), Seg.cell (.bool a0.off), Seg.cell (.bool (decide (a1 ≥ 0))), Seg.cell (.int .i64 a0.left), Seg.cell (.int .i64 a0.steps)]) (xs := cellsOf [Seg.cell (.bool (decide (a1 ≥ 0)))]) rfl sz4 rfl rfl rfl (len_cellsOf _) (one_cellsOf _) b_0 (Spl.segs _ 4 1 [Seg.cell (.bool (decide (a1 ≥ 0)))] rfl rfl)) rfl rfl ?_
    rintro _ w3 ⟨b_0, q2⟩
    have R0_0 := R0_0.wr q2 N0_0
    have R0_1 := R0_1.wr q2 N0_1
    have fB := fB.wrS q2 rfl
    refine ol_val (v := .pointer (some ⟨G_0, 0, none⟩)) (by exact xr_nilCheck rfl rfl) rfl rfl rfl ?_
    refine ol_val (v := .pointer (some ⟨G_0, 5, none⟩)) (by exact xr_fieldAddr (p := 0) (q := 5) rfl fl139_4 rfl) rfl rfl rfl ?_
    refine ol_op0 (by exact opv_store (ss' := [Seg.cell V0_0 R0_0.one, Seg.cell V0_1 R0_1.one, Seg.cell (.int .i64 a0.plan.at_), Seg.cell (.bool a0.off), Seg.cell (.bool (decide (a1 ≥ 0))), Seg.cell (.int .i64 a1), Seg.cell (.int .i64 a0.steps)]) (xs := cellsOf [Seg.cell (.int .i64 a1)]) rfl sz3 rfl rfl rfl (len_cellsOf _) (one_cellsOf _) b_0 (Spl.segs _ 5 1 [Seg.cell (.int .i64 a1)] rfl rfl)) rfl rfl ?_
    rintro _ w5 ⟨b_0, q4⟩
    have R0_0 := R0_0.wr q4 N0_0
    have R0_1 := R0_1.wr q4 N0_1
    have fB := fB.wrS q4 rfl
    refine ol_nil ?_
    refine cw_region ?_
    refine ol_val (v := .pointer (some ⟨G_0, 0, none⟩)) (by exact xr_move rfl rfl) rfl rfl rfl ?_
    refine ol_val (v := .int .i64 a1) (by exact xr_move rfl rfl) rfl rfl rfl ?_
    refine ol_val (v := .bool (decide (a1 = 0))) (by exact xr_eqI rfl Try.underlying3 rfl rfl rfl) rfl rfl rfl ?_
    refine ol_val (v := .pointer (some ⟨G_0, 0, none⟩)) (by exact xr_nilCheck rfl rfl) rfl rfl rfl ?_
    refine ol_val (v := .pointer (some ⟨G_0, 3, none⟩)) (by exact xr_fieldAddr (p := 0) (q := 3) rfl fl139_2 rfl) rfl rfl rfl ?_
    refine ol_op0 (by exact opv_store (ss' := [Seg.cell V0_0 R0_0.one, Seg.cell V0_1 R0_1.one, Seg.cell (.int .i64 a0.plan.at_), Seg.cell (.bool (decide (a1 = 0))), Seg.cell (.bool (decide (a1 ≥ 0))), Seg.cell (.int .i64 a1), Seg.cell (.int .i64 a0.steps)]) (xs := cellsOf [Seg.cell (.bool (decide (a1 = 0)))]) rfl sz4 rfl rfl rfl (len_cellsOf _) (one_cellsOf _) b_0 (Spl.segs _ 3 1 [Seg.cell (.bool (decide (a1 = 0)))] rfl rfl)) rfl rfl ?_
    rintro _ w7 ⟨b_0, q6⟩
    have R0_0 := R0_0.wr q6 N0_0
    have R0_1 := R0_1.wr q6 N0_1
    have fB := fB.wrS q6 rfl
    refine ol_nil ?_
    obtain rfl := Option.some.inj h
    refine fin_end0 Try.results38 ?_
    exact ⟨_, rfl, rfl, b_0, fB⟩
end Go.Proofs.Ytklhbaghbmndeaa

/- (*rickyard/pmem.Device).Load: its model, and that the Go function computes it: written by gen.py. -/
set_option linter.unusedVariables false
namespace Go.Proofs.Ytklhbaghbmndeaa
open Go Go.Xw
def pmem_Device_Load.f (fu : Nat) (a0 : S_pmem_Device) (a1 : Int) : Option (Int × Int) := ((pmem_Device_may.f fu a0 a1 (List.length a0.cells : Int) : Option Int).bind fun t1 => (if (!decide (t1 = 0)) = true then some (0, t1) else (if 0 ≤ a1 ∧ a1 < (List.length a0.cells : Int) then some ((ix a0.cells a1).stored, 0) else none)))
set_option maxRecDepth 100000 in
set_option maxHeartbeats 400000 in
theorem pmem_Device_Load.ok (fu : Nat) (w : World) (a0 : S_pmem_Device) (G_0 : Nat) (V0_0 : Value) (R0_0 : Rd k_pmem_cell w V0_0 a0.cells) (V0_1 : Value) (R0_1 : Rd (kI .i64) w V0_1 a0.plan.list) (b_0 : Blk w G_0 139 [Seg.cell V0_0 R0_0.one, Seg.cell V0_1 R0_1.one, Seg.cell (.int .i64 a0.plan.at_), Seg.cell (.bool a0.off), Seg.cell (.bool a0.armed), Seg.cell (.int .i64 a0.left), Seg.cell (.int .i64 a0.steps)]) (a1 : Int) (r : Int × Int) (h : pmem_Device_Load.f fu a0 a1 = some r) :
    Calls Try.prog 82 (([.pointer (some ⟨G_0, 0, none⟩), .int .i64 a1] : List Value).toArray) w (fun e w' => ∃ v, e = .returned v ∧ v = .tuple #[.int .u64 r.1, .int .i64 r.2] ∧ Gr w w') := by
  unfold pmem_Device_Load.f at h
  have fB : Gr w w := Fr.refl _ _
  refine calls_cw Try.func82 rfl Try.ntmps82 rfl ?_
  refine cw_seq ?_
  refine cw_region ?_
  refine ol_val (v := .int .u64 0) (by exact xr_assign rfl rfl) rfl rfl rfl ?_
  refine ol_val (v := .int .i64 0) (by exact xr_assign rfl rfl) rfl rfl rfl ?_
  refine ol_nil ?_
  refine cw_seq ?_
  refine cw_seq ?_
  refine cw_region ?_
  refine ol_val (v := .pointer (some ⟨G_0, 0, none⟩)) (by exact xr_move rfl rfl) rfl rfl rfl ?_
  refine ol_val (v := .int .i64 a1) (by exact xr_move rfl rfl) rfl rfl rfl ?_
  refine ol_val (v := .pointer (some ⟨G_0, 0, none⟩)) (by exact xr_move rfl rfl) rfl rfl rfl ?_
  refine ol_val (v := .pointer (some ⟨G_0, 0, none⟩)) (by exact xr_nilCheck rfl rfl) rfl rfl rfl ?_
  refine ol_val (v := .pointer (some ⟨G_0, 0, none⟩)) (by exact xr_fieldAddr (p := 0) (q := 0) rfl fl139_0 rfl) rfl rfl rfl ?_
  refine ol_val (v := V0_0) (by exact xr_load1 (v := V0_0) rfl ag135 rfl (b_0.seg 0 rfl rfl)) rfl rfl rfl ?_
  refine ol_val (v := .int .i64 (List.length a0.cells : Int)) (by exact xr_lenR rfl Try.underlying135 rfl (R0_0.gr fB)) rfl rfl rfl ?_
  obtain ⟨t1, k2, h⟩ := bs h
  refine ol_op (by exact opv_call rfl cal83 (ac rfl (ac rfl (ac rfl an))) (pmem_Device_may.ok fu _ a0 G_0 V0_0 (R0_0.gr fB) V0_1 (R0_1.gr fB) b_0 a1 (List.length a0.cells : Int) _ k2)) rfl rfl rfl ?_
  rintro _ w4 ⟨rfl, q3⟩
  have b_0 := b_0.gr q3
  have fB := fB.gr q3
  refine ol_val (v := .int .i64 t1) (by exact xr_assign rfl rfl) rfl rfl rfl ?_
  refine ol_nil ?_
  refine cw_seq ?_
  refine cw_region ?_
  refine ol_val (v := .int .i64 t1) (by exact xr_move rfl rfl) rfl rfl rfl ?_
  refine ol_val (v := .bool (!decide (t1 = 0))) (by exact xr_neI rfl Try.underlying31 rfl rfl rfl) rfl rfl rfl ?_
  refine ol_nil ?_
  rcases is h with ⟨c5, h⟩ | ⟨c5, h⟩
  · refine cw_condT rfl c5 ?_
    refine cw_seq ?_
    refine cw_region ?_
    refine ol_val (v := .int .i64 t1) (by exact xr_move rfl rfl) rfl rfl rfl ?_
    refine ol_val (v := .int .u64 0) (by exact xr_assign rfl rfl) rfl rfl rfl ?_
    refine ol_val (v := .int .i64 t1) (by exact xr_assign rfl rfl) rfl rfl rfl ?_
    refine ol_nil ?_
    refine cw_ret ?_
    repeat (first | with_reducible refine thn_r ?_ | with_reducible refine blk_r ?_)
    obtain rfl := Option.some.inj h
    refine fin_ret2 Try.results82 rfl rfl ?_
    exact ⟨_, rfl, rfl, fB⟩
  · refine cw_condF rfl c5 ?_
    refine cw_skip ?_
    refine cw_seq ?_
    refine cw_region ?_
    refine ol_val (v := .pointer (some ⟨G_0, 0, none⟩)) (by exact xr_move rfl rfl) rfl rfl rfl ?_
    refine ol_val (v := .pointer (some ⟨G_0, 0, none⟩)) (by exact xr_nilCheck rfl rfl) rfl rfl rfl ?_
    refine ol_val (v := .pointer (some ⟨G_0, 0, none⟩)) (by exact xr_fieldAddr (p := 0) (q := 0) rfl fl139_0 rfl) rfl rfl rfl ?_
    refine ol_val (v := V0_0) (by exact xr_load1 (v := V0_0) rfl ag135 rfl (b_0.seg 0 rfl rfl)) rfl rfl rfl ?_
    refine ol_val (v := .int .i64 a1) (by exact xr_move rfl rfl) rfl rfl rfl ?_
    obtain ⟨g6, h⟩ := gs h
    refine ol_val (v := .pointer (some ⟨(sb V0_0), so V0_0 + Int.toNat a1 * 4, none⟩)) (by exact xr_indexR (K := k_pmem_cell) (v := V0_0) rfl Try.underlying135 sz142 rfl (R0_0.gr fB) rfl g6.1 g6.2) rfl rfl rfl ?_
    refine ol_val (v := .pointer (some ⟨(sb V0_0), so V0_0 + Int.toNat a1 * 4 + 1, none⟩)) (by exact xr_fieldAddr (p := so V0_0 + Int.toNat a1 * 4) (q := 1) rfl fl142_1 rfl) rfl rfl rfl ?_
    refine ol_val (v := .int .u64 ((ix a0.cells a1).stored)) (by exact xr_load1 (v := .int .u64 ((ix a0.cells a1).stored)) rfl ag22 rfl (At.segs (ss := segs_pmem_cell (ix a0.cells a1)) ((R0_0.gr fB).elem g6.1 g6.2) 1 1 rfl)) rfl rfl rfl ?_
    refine ol_val (v := .int .u64 ((ix a0.cells a1).stored)) (by exact xr_assign rfl rfl) rfl rfl rfl ?_
    refine ol_val (v := .int .i64 0) (by exact xr_assign rfl rfl) rfl rfl rfl ?_
    refine ol_nil ?_
    refine cw_ret ?_
    repeat (first | with_reducible refine thn_r ?_ | with_reducible refine blk_r ?_)
    obtain rfl := Option.some.inj h
    refine fin_ret2 Try.results82 rfl rfl ?_
    exact ⟨_, rfl, rfl, fB⟩
end Go.Proofs.Ytklhbaghbmndeaa
