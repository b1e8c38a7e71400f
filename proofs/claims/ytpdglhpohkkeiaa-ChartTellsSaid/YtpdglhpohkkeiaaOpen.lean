/- What the laws' arguments open into: written by rows.py. -/
import Derived.Test.YtpdglhpohkkeiaaBase
import Derived.Test.YtpdglhpohkkeiaaXOpen
set_option linter.unusedVariables false
set_option linter.unusedSimpArgs false
namespace Go.Proofs.Ytpdglhpohkkeiaa
open Go Go.Xw
def ok_api_Chart (a : S_api_Chart) : Prop := (Lit.int .i64 a.Place).wf = true ∧ (∀ x ∈ a.Bits.l, (Lit.int .u8 x).wf = true)
theorem opn_api_Chart {w : World} : Opn Try.prog w 24 k_api_Chart ok_api_Chart := by
  intro H enc base sp held fuel cs x h
  obtain ⟨hl, m, hf⟩ := trod_st Try.underlying24 h
  obtain ⟨y0, h0⟩ := hf 0 _ rfl
  have c0 : Try.prog.cellsOf 3 = 1 := by kernel_rfl
  obtain ⟨b0, e0, o0⟩ := (opn_int Try.underlying3) enc base sp held m _ y0 h0
  have e0 : (cs.drop 0).take 1 = (kI .i64).enc b0 := (congrArg (fun n => (cs.drop 0).take n) c0).symm.trans e0
  obtain ⟨y1, h1⟩ := hf 1 _ rfl
  have c1 : Try.prog.cellsOf 22 = 48 := by kernel_rfl
  obtain ⟨b1, e1, o1⟩ := (opn_arr Try.underlying22 (by kernel_rfl) (by kernel_rfl) (opn_int Try.underlying5)) enc base sp held m _ y1 h1
  have e1 : (cs.drop 1).take 48 = (kA 48 (kI .u8)).enc b1 := (congrArg (fun n => (cs.drop 1).take n) c1).symm.trans e1
  have hn : cs.drop 49 = [] := List.drop_eq_nil_of_le (by rw [hl]; exact Nat.le_of_eq (by kernel_rfl))
  have hc : cs = (kI .i64).enc b0 ++ ((kA 48 (kI .u8)).enc b1 ++ []) := (fld_cons (o := 0) (n := 1) e0 (fld_cons (o := 1) (n := 48) e1 hn))
  refine ⟨⟨b0, b1⟩, ?_, o0, o1⟩
  rw [hc]
  simp [kA, kI, kB, kS, kT, cellsOf, Seg.cell, Kd.seg, k_api_Chart, segs_api_Chart]
def ok_api_Seat (a : S_api_Seat) : Prop := True ∧ (Lit.int .i64 a.Gen).wf = true ∧ (Lit.int .i64 a.Next).wf = true
theorem opn_api_Seat {w : World} : Opn Try.prog w 59 k_api_Seat ok_api_Seat := by
  intro H enc base sp held fuel cs x h
  obtain ⟨hl, m, hf⟩ := trod_st Try.underlying59 h
  obtain ⟨y0, h0⟩ := hf 0 _ rfl
  have c0 : Try.prog.cellsOf 4 = 1 := by kernel_rfl
  obtain ⟨b0, e0, o0⟩ := (opn_bool Try.underlying4) enc base sp held m _ y0 h0
  have e0 : (cs.drop 0).take 1 = kB.enc b0 := (congrArg (fun n => (cs.drop 0).take n) c0).symm.trans e0
  obtain ⟨y1, h1⟩ := hf 1 _ rfl
  have c1 : Try.prog.cellsOf 3 = 1 := by kernel_rfl
  obtain ⟨b1, e1, o1⟩ := (opn_int Try.underlying3) enc base sp held m _ y1 h1
  have e1 : (cs.drop 1).take 1 = (kI .i64).enc b1 := (congrArg (fun n => (cs.drop 1).take n) c1).symm.trans e1
  obtain ⟨y2, h2⟩ := hf 2 _ rfl
  have c2 : Try.prog.cellsOf 3 = 1 := by kernel_rfl
  obtain ⟨b2, e2, o2⟩ := (opn_int Try.underlying3) enc base sp held m _ y2 h2
  have e2 : (cs.drop 2).take 1 = (kI .i64).enc b2 := (congrArg (fun n => (cs.drop 2).take n) c2).symm.trans e2
  have hn : cs.drop 3 = [] := List.drop_eq_nil_of_le (by rw [hl]; exact Nat.le_of_eq (by kernel_rfl))
  have hc : cs = kB.enc b0 ++ ((kI .i64).enc b1 ++ ((kI .i64).enc b2 ++ [])) := (fld_cons (o := 0) (n := 1) e0 (fld_cons (o := 1) (n := 1) e1 (fld_cons (o := 2) (n := 1) e2 hn)))
  refine ⟨⟨b0, b1, b2⟩, ?_, o0, o1, o2⟩
  rw [hc]
  simp [kA, kI, kB, kS, kT, cellsOf, Seg.cell, Kd.seg, k_api_Chart, k_api_Seat, k_api_Leaf, segs_api_Chart, segs_api_Seat, segs_api_Leaf]
def ok_api_Leaf (a : S_api_Leaf) : Prop := (∀ x ∈ a.Seats.l, ok_api_Seat x)
theorem opn_api_Leaf {w : World} : Opn Try.prog w 62 k_api_Leaf ok_api_Leaf := by
  intro H enc base sp held fuel cs x h
  obtain ⟨hl, m, hf⟩ := trod_st Try.underlying62 h
  obtain ⟨y0, h0⟩ := hf 0 _ rfl
  have c0 : Try.prog.cellsOf 60 = 21 := by kernel_rfl
  obtain ⟨b0, e0, o0⟩ := (opn_arr Try.underlying60 (by kernel_rfl) (by kernel_rfl) (opn_api_Seat (w := w))) enc base sp held m _ y0 h0
  have e0 : (cs.drop 0).take 21 = (kA 7 k_api_Seat).enc b0 := (congrArg (fun n => (cs.drop 0).take n) c0).symm.trans e0
  have hn : cs.drop 21 = [] := List.drop_eq_nil_of_le (by rw [hl]; exact Nat.le_of_eq (by kernel_rfl))
  have hc : cs = (kA 7 k_api_Seat).enc b0 ++ [] := (fld_cons (o := 0) (n := 21) e0 hn)
  refine ⟨⟨b0⟩, ?_, o0⟩
  rw [hc]
  simp [kA, kI, kB, kS, kT, cellsOf, Seg.cell, Kd.seg, k_api_Chart, k_api_Seat, k_api_Leaf, segs_api_Chart, segs_api_Seat, segs_api_Leaf]
def ok_api_Fan (a : S_api_Fan) : Prop := (∀ x ∈ a.Kids.l, (Lit.int .i64 x).wf = true)
theorem opn_api_Fan {w : World} : Opn Try.prog w 74 k_api_Fan ok_api_Fan := by
  intro H enc base sp held fuel cs x h
  obtain ⟨hl, m, hf⟩ := trod_st Try.underlying74 h
  obtain ⟨y0, h0⟩ := hf 0 _ rfl
  have c0 : Try.prog.cellsOf 72 = 16 := by kernel_rfl
  obtain ⟨b0, e0, o0⟩ := (opn_arr Try.underlying72 (by kernel_rfl) (by kernel_rfl) (opn_int Try.underlying3)) enc base sp held m _ y0 h0
  have e0 : (cs.drop 0).take 16 = (kA 16 (kI .i64)).enc b0 := (congrArg (fun n => (cs.drop 0).take n) c0).symm.trans e0
  have hn : cs.drop 16 = [] := List.drop_eq_nil_of_le (by rw [hl]; exact Nat.le_of_eq (by kernel_rfl))
  have hc : cs = (kA 16 (kI .i64)).enc b0 ++ [] := (fld_cons (o := 0) (n := 16) e0 hn)
  refine ⟨⟨b0⟩, ?_, o0⟩
  rw [hc]
  simp [kA, kI, kB, kS, kT, cellsOf, Seg.cell, Kd.seg, k_api_Chart, k_api_Seat, k_api_Leaf, k_api_Fan, segs_api_Chart, segs_api_Seat, segs_api_Leaf, segs_api_Fan]
def ok_api_Geometry (a : S_api_Geometry) : Prop := (Lit.int .i64 a.Blocks).wf = true ∧ (Lit.int .i64 a.Slots).wf = true ∧ (Lit.int .i64 a.Gens).wf = true
theorem opn_api_Geometry {w : World} : Opn Try.prog w 81 k_api_Geometry ok_api_Geometry := by
  intro H enc base sp held fuel cs x h
  obtain ⟨hl, m, hf⟩ := trod_st Try.underlying81 h
  obtain ⟨y0, h0⟩ := hf 0 _ rfl
  have c0 : Try.prog.cellsOf 3 = 1 := by kernel_rfl
  obtain ⟨b0, e0, o0⟩ := (opn_int Try.underlying3) enc base sp held m _ y0 h0
  have e0 : (cs.drop 0).take 1 = (kI .i64).enc b0 := (congrArg (fun n => (cs.drop 0).take n) c0).symm.trans e0
  obtain ⟨y1, h1⟩ := hf 1 _ rfl
  have c1 : Try.prog.cellsOf 3 = 1 := by kernel_rfl
  obtain ⟨b1, e1, o1⟩ := (opn_int Try.underlying3) enc base sp held m _ y1 h1
  have e1 : (cs.drop 1).take 1 = (kI .i64).enc b1 := (congrArg (fun n => (cs.drop 1).take n) c1).symm.trans e1
  obtain ⟨y2, h2⟩ := hf 2 _ rfl
  have c2 : Try.prog.cellsOf 3 = 1 := by kernel_rfl
  obtain ⟨b2, e2, o2⟩ := (opn_int Try.underlying3) enc base sp held m _ y2 h2
  have e2 : (cs.drop 2).take 1 = (kI .i64).enc b2 := (congrArg (fun n => (cs.drop 2).take n) c2).symm.trans e2
  have hn : cs.drop 3 = [] := List.drop_eq_nil_of_le (by rw [hl]; exact Nat.le_of_eq (by kernel_rfl))
  have hc : cs = (kI .i64).enc b0 ++ ((kI .i64).enc b1 ++ ((kI .i64).enc b2 ++ [])) := (fld_cons (o := 0) (n := 1) e0 (fld_cons (o := 1) (n := 1) e1 (fld_cons (o := 2) (n := 1) e2 hn)))
  refine ⟨⟨b0, b1, b2⟩, ?_, o0, o1, o2⟩
  rw [hc]
  simp [kA, kI, kB, kS, kT, cellsOf, Seg.cell, Kd.seg, k_api_Chart, k_api_Seat, k_api_Leaf, k_api_Fan, k_api_Geometry, k_api_Tickets, segs_api_Chart, segs_api_Seat, segs_api_Leaf, segs_api_Fan, segs_api_Geometry, segs_api_Tickets]
def ok_api_Tickets (a : S_api_Tickets) : Prop := ok_api_Geometry a.Geometry ∧ (Lit.int .i64 a.Top).wf = true ∧ (Lit.int .i64 a.High).wf = true ∧ (Lit.int .i64 a.Free).wf = true
theorem opn_api_Tickets {w : World} : Opn Try.prog w 83 k_api_Tickets ok_api_Tickets := by
  intro H enc base sp held fuel cs x h
  obtain ⟨hl, m, hf⟩ := trod_st Try.underlying83 h
  obtain ⟨y0, h0⟩ := hf 0 _ rfl
  have c0 : Try.prog.cellsOf 81 = 3 := by kernel_rfl
  obtain ⟨b0, e0, o0⟩ := (opn_api_Geometry (w := w)) enc base sp held m _ y0 h0
  have e0 : (cs.drop 0).take 3 = k_api_Geometry.enc b0 := (congrArg (fun n => (cs.drop 0).take n) c0).symm.trans e0
  obtain ⟨y1, h1⟩ := hf 1 _ rfl
  have c1 : Try.prog.cellsOf 3 = 1 := by kernel_rfl
  obtain ⟨b1, e1, o1⟩ := (opn_int Try.underlying3) enc base sp held m _ y1 h1
  have e1 : (cs.drop 3).take 1 = (kI .i64).enc b1 := (congrArg (fun n => (cs.drop 3).take n) c1).symm.trans e1
  obtain ⟨y2, h2⟩ := hf 2 _ rfl
  have c2 : Try.prog.cellsOf 3 = 1 := by kernel_rfl
  obtain ⟨b2, e2, o2⟩ := (opn_int Try.underlying3) enc base sp held m _ y2 h2
  have e2 : (cs.drop 4).take 1 = (kI .i64).enc b2 := (congrArg (fun n => (cs.drop 4).take n) c2).symm.trans e2
  obtain ⟨y3, h3⟩ := hf 3 _ rfl
  have c3 : Try.prog.cellsOf 3 = 1 := by kernel_rfl
  obtain ⟨b3, e3, o3⟩ := (opn_int Try.underlying3) enc base sp held m _ y3 h3
  have e3 : (cs.drop 5).take 1 = (kI .i64).enc b3 := (congrArg (fun n => (cs.drop 5).take n) c3).symm.trans e3
  have hn : cs.drop 6 = [] := List.drop_eq_nil_of_le (by rw [hl]; exact Nat.le_of_eq (by kernel_rfl))
  have hc : cs = k_api_Geometry.enc b0 ++ ((kI .i64).enc b1 ++ ((kI .i64).enc b2 ++ ((kI .i64).enc b3 ++ []))) := (fld_cons (o := 0) (n := 3) e0 (fld_cons (o := 3) (n := 1) e1 (fld_cons (o := 4) (n := 1) e2 (fld_cons (o := 5) (n := 1) e3 hn))))
  refine ⟨⟨b0, b1, b2, b3⟩, ?_, o0, o1, o2, o3⟩
  rw [hc]
  simp [kA, kI, kB, kS, kT, cellsOf, Seg.cell, Kd.seg, k_api_Chart, k_api_Seat, k_api_Leaf, k_api_Fan, k_api_Geometry, k_api_Tickets, segs_api_Chart, segs_api_Seat, segs_api_Leaf, segs_api_Fan, segs_api_Geometry, segs_api_Tickets]
def ok_api_Super (a : S_api_Super) : Prop := (Lit.int .i64 a.Epoch).wf = true ∧ ok_api_Tickets a.Tickets ∧ (Lit.int .i64 a.Dir).wf = true ∧ ((∀ x ∈ a.Charts, (Lit.int .i64 x).wf = true) ∧ List.length a.Charts ≤ maxLen)
theorem opn_api_Super {w : World} {H : Type} (enc : TypeId × Value → H) (base : Nat) (sp : Nat → Bool) (held : Bool) (fuel : Nat) (cs : List Value) (x : DataW H × List MemPlace) (h : DataW.trod enc Try.prog w base sp held fuel 85 cs = some x) : ∃ a : S_api_Super, ∃ V0 : Value, ∃ R0 : Rd (kI .i64) w V0 a.Charts, cs = cellsOf [Seg.cell (.int .i64 a.Epoch), Seg.cell (.int .i64 a.Tickets.Geometry.Blocks), Seg.cell (.int .i64 a.Tickets.Geometry.Slots), Seg.cell (.int .i64 a.Tickets.Geometry.Gens), Seg.cell (.int .i64 a.Tickets.Top), Seg.cell (.int .i64 a.Tickets.High), Seg.cell (.int .i64 a.Tickets.Free), Seg.cell (.int .i64 a.Dir), Seg.cell V0 R0.one] ∧ ok_api_Super a := by
  obtain ⟨hl, m, hf⟩ := trod_st Try.underlying85 h
  obtain ⟨y0, h0⟩ := hf 0 _ rfl
  have c0 : Try.prog.cellsOf 3 = 1 := by kernel_rfl
  obtain ⟨b0, e0, o0⟩ := (opn_int Try.underlying3) enc base sp held m _ y0 h0
  have e0 : (cs.drop 0).take 1 = (kI .i64).enc b0 := (congrArg (fun n => (cs.drop 0).take n) c0).symm.trans e0
  obtain ⟨y1, h1⟩ := hf 1 _ rfl
  have c1 : Try.prog.cellsOf 83 = 6 := by kernel_rfl
  obtain ⟨b1, e1, o1⟩ := (opn_api_Tickets (w := w)) enc base sp held m _ y1 h1
  have e1 : (cs.drop 1).take 6 = k_api_Tickets.enc b1 := (congrArg (fun n => (cs.drop 1).take n) c1).symm.trans e1
  obtain ⟨y2, h2⟩ := hf 2 _ rfl
  have c2 : Try.prog.cellsOf 3 = 1 := by kernel_rfl
  obtain ⟨b2, e2, o2⟩ := (opn_int Try.underlying3) enc base sp held m _ y2 h2
  have e2 : (cs.drop 7).take 1 = (kI .i64).enc b2 := (congrArg (fun n => (cs.drop 7).take n) c2).symm.trans e2
  obtain ⟨y3, h3⟩ := hf 3 _ rfl
  have c3 : Try.prog.cellsOf 29 = 1 := by kernel_rfl
  obtain ⟨b3, W3, e3, r3, o3, l3, _⟩ := (opn_slice (K := (kI .i64)) Try.underlying29 (by kernel_rfl) (by decide) (opn_int Try.underlying3)) enc base sp held m _ y3 h3
  have e3 : (cs.drop 8).take 1 = [W3] := (congrArg (fun n => (cs.drop 8).take n) c3).symm.trans e3
  have hn : cs.drop 9 = [] := List.drop_eq_nil_of_le (by rw [hl]; exact Nat.le_of_eq (by kernel_rfl))
  have hc : cs = (kI .i64).enc b0 ++ (k_api_Tickets.enc b1 ++ ((kI .i64).enc b2 ++ ([W3] ++ []))) := (fld_cons (o := 0) (n := 1) e0 (fld_cons (o := 1) (n := 6) e1 (fld_cons (o := 7) (n := 1) e2 (fld_cons (o := 8) (n := 1) e3 hn))))
  refine ⟨⟨b0, b1, b2, b3⟩, W3, r3, ?_, o0, o1, o2, ⟨o3, l3⟩⟩
  rw [hc]
  simp [kA, kI, kB, kS, kT, cellsOf, Seg.cell, Kd.seg, k_api_Chart, k_api_Seat, k_api_Leaf, k_api_Fan, k_api_Geometry, k_api_Tickets, segs_api_Chart, segs_api_Seat, segs_api_Leaf, segs_api_Fan, segs_api_Geometry, segs_api_Tickets]
def ok_api_Handle (a : S_api_Handle) : Prop := (Lit.int .i64 a.Slot).wf = true ∧ (Lit.int .i64 a.Gen).wf = true
theorem opn_api_Handle {w : World} : Opn Try.prog w 94 k_api_Handle ok_api_Handle := by
  intro H enc base sp held fuel cs x h
  obtain ⟨hl, m, hf⟩ := trod_st Try.underlying94 h
  obtain ⟨y0, h0⟩ := hf 0 _ rfl
  have c0 : Try.prog.cellsOf 3 = 1 := by kernel_rfl
  obtain ⟨b0, e0, o0⟩ := (opn_int Try.underlying3) enc base sp held m _ y0 h0
  have e0 : (cs.drop 0).take 1 = (kI .i64).enc b0 := (congrArg (fun n => (cs.drop 0).take n) c0).symm.trans e0
  obtain ⟨y1, h1⟩ := hf 1 _ rfl
  have c1 : Try.prog.cellsOf 3 = 1 := by kernel_rfl
  obtain ⟨b1, e1, o1⟩ := (opn_int Try.underlying3) enc base sp held m _ y1 h1
  have e1 : (cs.drop 1).take 1 = (kI .i64).enc b1 := (congrArg (fun n => (cs.drop 1).take n) c1).symm.trans e1
  have hn : cs.drop 2 = [] := List.drop_eq_nil_of_le (by rw [hl]; exact Nat.le_of_eq (by kernel_rfl))
  have hc : cs = (kI .i64).enc b0 ++ ((kI .i64).enc b1 ++ []) := (fld_cons (o := 0) (n := 1) e0 (fld_cons (o := 1) (n := 1) e1 hn))
  refine ⟨⟨b0, b1⟩, ?_, o0, o1⟩
  rw [hc]
  simp [kA, kI, kB, kS, kT, cellsOf, Seg.cell, Kd.seg, k_api_Chart, k_api_Seat, k_api_Leaf, k_api_Fan, k_api_Geometry, k_api_Tickets, k_api_Handle, k_api_Entry, segs_api_Chart, segs_api_Seat, segs_api_Leaf, segs_api_Fan, segs_api_Geometry, segs_api_Tickets, segs_api_Handle, segs_api_Entry]
def ok_api_Entry (a : S_api_Entry) : Prop := ok_api_Handle a.Handle ∧ (Lit.int .i64 a.Key).wf = true ∧ (Lit.int .i64 a.Value).wf = true
theorem opn_api_Entry {w : World} : Opn Try.prog w 96 k_api_Entry ok_api_Entry := by
  intro H enc base sp held fuel cs x h
  obtain ⟨hl, m, hf⟩ := trod_st Try.underlying96 h
  obtain ⟨y0, h0⟩ := hf 0 _ rfl
  have c0 : Try.prog.cellsOf 94 = 2 := by kernel_rfl
  obtain ⟨b0, e0, o0⟩ := (opn_api_Handle (w := w)) enc base sp held m _ y0 h0
  have e0 : (cs.drop 0).take 2 = k_api_Handle.enc b0 := (congrArg (fun n => (cs.drop 0).take n) c0).symm.trans e0
  obtain ⟨y1, h1⟩ := hf 1 _ rfl
  have c1 : Try.prog.cellsOf 3 = 1 := by kernel_rfl
  obtain ⟨b1, e1, o1⟩ := (opn_int Try.underlying3) enc base sp held m _ y1 h1
  have e1 : (cs.drop 2).take 1 = (kI .i64).enc b1 := (congrArg (fun n => (cs.drop 2).take n) c1).symm.trans e1
  obtain ⟨y2, h2⟩ := hf 2 _ rfl
  have c2 : Try.prog.cellsOf 3 = 1 := by kernel_rfl
  obtain ⟨b2, e2, o2⟩ := (opn_int Try.underlying3) enc base sp held m _ y2 h2
  have e2 : (cs.drop 3).take 1 = (kI .i64).enc b2 := (congrArg (fun n => (cs.drop 3).take n) c2).symm.trans e2
  have hn : cs.drop 4 = [] := List.drop_eq_nil_of_le (by rw [hl]; exact Nat.le_of_eq (by kernel_rfl))
  have hc : cs = k_api_Handle.enc b0 ++ ((kI .i64).enc b1 ++ ((kI .i64).enc b2 ++ [])) := (fld_cons (o := 0) (n := 2) e0 (fld_cons (o := 2) (n := 1) e1 (fld_cons (o := 3) (n := 1) e2 hn)))
  refine ⟨⟨b0, b1, b2⟩, ?_, o0, o1, o2⟩
  rw [hc]
  simp [kA, kI, kB, kS, kT, cellsOf, Seg.cell, Kd.seg, k_api_Chart, k_api_Seat, k_api_Leaf, k_api_Fan, k_api_Geometry, k_api_Tickets, k_api_Handle, k_api_Entry, segs_api_Chart, segs_api_Seat, segs_api_Leaf, segs_api_Fan, segs_api_Geometry, segs_api_Tickets, segs_api_Handle, segs_api_Entry]
def ok_api_Node (a : S_api_Node) : Prop := ok_api_Entry a.Entry ∧ ((∀ x ∈ a.Kids, (Lit.int .i64 x).wf = true) ∧ List.length a.Kids ≤ maxLen)
theorem opn_api_Node {w : World} {H : Type} (enc : TypeId × Value → H) (base : Nat) (sp : Nat → Bool) (held : Bool) (fuel : Nat) (cs : List Value) (x : DataW H × List MemPlace) (h : DataW.trod enc Try.prog w base sp held fuel 98 cs = some x) : ∃ a : S_api_Node, ∃ V0 : Value, ∃ R0 : Rd (kI .i64) w V0 a.Kids, cs = cellsOf [Seg.cell (.int .i64 a.Entry.Handle.Slot), Seg.cell (.int .i64 a.Entry.Handle.Gen), Seg.cell (.int .i64 a.Entry.Key), Seg.cell (.int .i64 a.Entry.Value), Seg.cell V0 R0.one] ∧ ok_api_Node a := by
  obtain ⟨hl, m, hf⟩ := trod_st Try.underlying98 h
  obtain ⟨y0, h0⟩ := hf 0 _ rfl
  have c0 : Try.prog.cellsOf 96 = 4 := by kernel_rfl
  obtain ⟨b0, e0, o0⟩ := (opn_api_Entry (w := w)) enc base sp held m _ y0 h0
  have e0 : (cs.drop 0).take 4 = k_api_Entry.enc b0 := (congrArg (fun n => (cs.drop 0).take n) c0).symm.trans e0
  obtain ⟨y1, h1⟩ := hf 1 _ rfl
  have c1 : Try.prog.cellsOf 29 = 1 := by kernel_rfl
  obtain ⟨b1, W1, e1, r1, o1, l1, _⟩ := (opn_slice (K := (kI .i64)) Try.underlying29 (by kernel_rfl) (by decide) (opn_int Try.underlying3)) enc base sp held m _ y1 h1
  have e1 : (cs.drop 4).take 1 = [W1] := (congrArg (fun n => (cs.drop 4).take n) c1).symm.trans e1
  have hn : cs.drop 5 = [] := List.drop_eq_nil_of_le (by rw [hl]; exact Nat.le_of_eq (by kernel_rfl))
  have hc : cs = k_api_Entry.enc b0 ++ ([W1] ++ []) := (fld_cons (o := 0) (n := 4) e0 (fld_cons (o := 4) (n := 1) e1 hn))
  refine ⟨⟨b0, b1⟩, W1, r1, ?_, o0, ⟨o1, l1⟩⟩
  rw [hc]
  simp [kA, kI, kB, kS, kT, cellsOf, Seg.cell, Kd.seg, k_api_Chart, k_api_Seat, k_api_Leaf, k_api_Fan, k_api_Geometry, k_api_Tickets, k_api_Handle, k_api_Entry, segs_api_Chart, segs_api_Seat, segs_api_Leaf, segs_api_Fan, segs_api_Geometry, segs_api_Tickets, segs_api_Handle, segs_api_Entry]
def ok_api_Queue (a : S_api_Queue) : Prop := List.length a.Name ≤ maxLen ∧ (Lit.int .i64 a.Count).wf = true ∧ (∀ x ∈ a.Roots.l, (Lit.int .i64 x).wf = true)
theorem opn_api_Queue {w : World} : Opn Try.prog w 111 k_api_Queue ok_api_Queue := by
  intro H enc base sp held fuel cs x h
  obtain ⟨hl, m, hf⟩ := trod_st Try.underlying111 h
  obtain ⟨y0, h0⟩ := hf 0 _ rfl
  have c0 : Try.prog.cellsOf 9 = 1 := by kernel_rfl
  obtain ⟨b0, e0, o0⟩ := (opn_str Try.underlying9) enc base sp held m _ y0 h0
  have e0 : (cs.drop 0).take 1 = kS.enc b0 := (congrArg (fun n => (cs.drop 0).take n) c0).symm.trans e0
  obtain ⟨y1, h1⟩ := hf 1 _ rfl
  have c1 : Try.prog.cellsOf 3 = 1 := by kernel_rfl
  obtain ⟨b1, e1, o1⟩ := (opn_int Try.underlying3) enc base sp held m _ y1 h1
  have e1 : (cs.drop 1).take 1 = (kI .i64).enc b1 := (congrArg (fun n => (cs.drop 1).take n) c1).symm.trans e1
  obtain ⟨y2, h2⟩ := hf 2 _ rfl
  have c2 : Try.prog.cellsOf 109 = 12 := by kernel_rfl
  obtain ⟨b2, e2, o2⟩ := (opn_arr Try.underlying109 (by kernel_rfl) (by kernel_rfl) (opn_int Try.underlying3)) enc base sp held m _ y2 h2
  have e2 : (cs.drop 2).take 12 = (kA 12 (kI .i64)).enc b2 := (congrArg (fun n => (cs.drop 2).take n) c2).symm.trans e2
  have hn : cs.drop 14 = [] := List.drop_eq_nil_of_le (by rw [hl]; exact Nat.le_of_eq (by kernel_rfl))
  have hc : cs = kS.enc b0 ++ ((kI .i64).enc b1 ++ ((kA 12 (kI .i64)).enc b2 ++ [])) := (fld_cons (o := 0) (n := 1) e0 (fld_cons (o := 1) (n := 1) e1 (fld_cons (o := 2) (n := 12) e2 hn)))
  refine ⟨⟨b0, b1, b2⟩, ?_, o0, o1, o2⟩
  rw [hc]
  simp [kA, kI, kB, kS, kT, cellsOf, Seg.cell, Kd.seg, k_api_Chart, k_api_Seat, k_api_Leaf, k_api_Fan, k_api_Geometry, k_api_Tickets, k_api_Handle, k_api_Entry, k_api_Queue, segs_api_Chart, segs_api_Seat, segs_api_Leaf, segs_api_Fan, segs_api_Geometry, segs_api_Tickets, segs_api_Handle, segs_api_Entry, segs_api_Queue]
def ok_api_Dir (a : S_api_Dir) : Prop := ((∀ x ∈ a.Queues, (Lit.int .i64 x).wf = true) ∧ List.length a.Queues ≤ maxLen)
theorem opn_api_Dir {w : World} {H : Type} (enc : TypeId × Value → H) (base : Nat) (sp : Nat → Bool) (held : Bool) (fuel : Nat) (cs : List Value) (x : DataW H × List MemPlace) (h : DataW.trod enc Try.prog w base sp held fuel 120 cs = some x) : ∃ a : S_api_Dir, ∃ V0 : Value, ∃ R0 : Rd (kI .i64) w V0 a.Queues, cs = cellsOf [Seg.cell V0 R0.one] ∧ ok_api_Dir a := by
  obtain ⟨hl, m, hf⟩ := trod_st Try.underlying120 h
  obtain ⟨y0, h0⟩ := hf 0 _ rfl
  have c0 : Try.prog.cellsOf 29 = 1 := by kernel_rfl
  obtain ⟨b0, W0, e0, r0, o0, l0, _⟩ := (opn_slice (K := (kI .i64)) Try.underlying29 (by kernel_rfl) (by decide) (opn_int Try.underlying3)) enc base sp held m _ y0 h0
  have e0 : (cs.drop 0).take 1 = [W0] := (congrArg (fun n => (cs.drop 0).take n) c0).symm.trans e0
  have hn : cs.drop 1 = [] := List.drop_eq_nil_of_le (by rw [hl]; exact Nat.le_of_eq (by kernel_rfl))
  have hc : cs = [W0] ++ [] := (fld_cons (o := 0) (n := 1) e0 hn)
  refine ⟨⟨b0⟩, W0, r0, ?_, ⟨o0, l0⟩⟩
  rw [hc]
  simp [kA, kI, kB, kS, kT, cellsOf, Seg.cell, Kd.seg, k_api_Chart, k_api_Seat, k_api_Leaf, k_api_Fan, k_api_Geometry, k_api_Tickets, k_api_Handle, k_api_Entry, k_api_Queue, segs_api_Chart, segs_api_Seat, segs_api_Leaf, segs_api_Fan, segs_api_Geometry, segs_api_Tickets, segs_api_Handle, segs_api_Entry, segs_api_Queue]
end Go.Proofs.Ytpdglhpohkkeiaa
