/- What the laws' arguments open into: written by rows.py. -/
import Derived.Test.YtjhajfkfhdnciaaBase
import Derived.Test.YtjhajfkfhdnciaaXOpen
set_option linter.unusedVariables false
set_option linter.unusedSimpArgs false
namespace Go.Proofs.Ytjhajfkfhdnciaa
open Go Go.Xw
def ok_api_Seat (a : S_api_Seat) : Prop := True ∧ (Lit.int .i64 a.Gen).wf = true ∧ (Lit.int .i64 a.Next).wf = true
theorem opn_api_Seat {w : World} : Opn Try.prog w 58 k_api_Seat ok_api_Seat := by
  intro H enc base sp held fuel cs x h
  obtain ⟨hl, m, hf⟩ := trod_st Try.underlying58 h
  obtain ⟨y0, h0⟩ := hf 0 _ rfl
  have c0 : Try.prog.cellsOf 4 = 1 := by kernel_rfl
  obtain ⟨b0, e0, o0⟩ := (opn_bool Try.underlying4) enc base sp held m _ y0 h0
  have e0 : (cs.drop 0).take 1 = kB.enc b0 := (congrArg (fun n => (cs.drop 0).take n) c0).symm.trans e0
  obtain ⟨y1, h1⟩ := hf 1 _ rfl
  have c1 : Try.prog.cellsOf 3 = 1 := by kernel_rfl
  obtain ⟨b1, e1, o1⟩ := (opn_int Try.underlying3) enc base sp held m _ y1 h1
  have e1 : (cs.drop 1).take 1 = (kI .i64).enc b1 := (congrArg (fun n => (cs.drop 1).take n) c1).symm.trans e1
  obtain ⟨y2, h2⟩ := hf 2 _ rfl
  have c2 : Try.prog.cellsOf 3 = 1 := by kernel_rfl
  obtain ⟨b2, e2, o2⟩ := (opn_int Try.underlying3) enc base sp held m _ y2 h2
  have e2 : (cs.drop 2).take 1 = (kI .i64).enc b2 := (congrArg (fun n => (cs.drop 2).take n) c2).symm.trans e2
  have hn : cs.drop 3 = [] := List.drop_eq_nil_of_le (by rw [hl]; exact Nat.le_of_eq (by kernel_rfl))
  have hc : cs = kB.enc b0 ++ ((kI .i64).enc b1 ++ ((kI .i64).enc b2 ++ [])) := (fld_cons (o := 0) (n := 1) e0 (fld_cons (o := 1) (n := 1) e1 (fld_cons (o := 2) (n := 1) e2 hn)))
  refine ⟨⟨b0, b1, b2⟩, ?_, o0, o1, o2⟩
  rw [hc]
  simp [kA, kI, kB, kS, kT, cellsOf, Seg.cell, Kd.seg, k_api_Seat, k_api_Leaf, segs_api_Seat, segs_api_Leaf]
def ok_api_Leaf (a : S_api_Leaf) : Prop := (∀ x ∈ a.Seats.l, ok_api_Seat x)
theorem opn_api_Leaf {w : World} : Opn Try.prog w 61 k_api_Leaf ok_api_Leaf := by
  intro H enc base sp held fuel cs x h
  obtain ⟨hl, m, hf⟩ := trod_st Try.underlying61 h
  obtain ⟨y0, h0⟩ := hf 0 _ rfl
  have c0 : Try.prog.cellsOf 59 = 21 := by kernel_rfl
  obtain ⟨b0, e0, o0⟩ := (opn_arr Try.underlying59 (by kernel_rfl) (by kernel_rfl) (opn_api_Seat (w := w))) enc base sp held m _ y0 h0
  have e0 : (cs.drop 0).take 21 = (kA 7 k_api_Seat).enc b0 := (congrArg (fun n => (cs.drop 0).take n) c0).symm.trans e0
  have hn : cs.drop 21 = [] := List.drop_eq_nil_of_le (by rw [hl]; exact Nat.le_of_eq (by kernel_rfl))
  have hc : cs = (kA 7 k_api_Seat).enc b0 ++ [] := (fld_cons (o := 0) (n := 21) e0 hn)
  refine ⟨⟨b0⟩, ?_, o0⟩
  rw [hc]
  simp [kA, kI, kB, kS, kT, cellsOf, Seg.cell, Kd.seg, k_api_Seat, k_api_Leaf, segs_api_Seat, segs_api_Leaf]
def ok_api_Fan (a : S_api_Fan) : Prop := (∀ x ∈ a.Kids.l, (Lit.int .i64 x).wf = true)
theorem opn_api_Fan {w : World} : Opn Try.prog w 73 k_api_Fan ok_api_Fan := by
  intro H enc base sp held fuel cs x h
  obtain ⟨hl, m, hf⟩ := trod_st Try.underlying73 h
  obtain ⟨y0, h0⟩ := hf 0 _ rfl
  have c0 : Try.prog.cellsOf 71 = 16 := by kernel_rfl
  obtain ⟨b0, e0, o0⟩ := (opn_arr Try.underlying71 (by kernel_rfl) (by kernel_rfl) (opn_int Try.underlying3)) enc base sp held m _ y0 h0
  have e0 : (cs.drop 0).take 16 = (kA 16 (kI .i64)).enc b0 := (congrArg (fun n => (cs.drop 0).take n) c0).symm.trans e0
  have hn : cs.drop 16 = [] := List.drop_eq_nil_of_le (by rw [hl]; exact Nat.le_of_eq (by kernel_rfl))
  have hc : cs = (kA 16 (kI .i64)).enc b0 ++ [] := (fld_cons (o := 0) (n := 16) e0 hn)
  refine ⟨⟨b0⟩, ?_, o0⟩
  rw [hc]
  simp [kA, kI, kB, kS, kT, cellsOf, Seg.cell, Kd.seg, k_api_Seat, k_api_Leaf, k_api_Fan, segs_api_Seat, segs_api_Leaf, segs_api_Fan]
def ok_api_Chart (a : S_api_Chart) : Prop := (Lit.int .i64 a.Place).wf = true ∧ (∀ x ∈ a.Bits.l, (Lit.int .u8 x).wf = true)
theorem opn_api_Chart {w : World} : Opn Try.prog w 81 k_api_Chart ok_api_Chart := by
  intro H enc base sp held fuel cs x h
  obtain ⟨hl, m, hf⟩ := trod_st Try.underlying81 h
  obtain ⟨y0, h0⟩ := hf 0 _ rfl
  have c0 : Try.prog.cellsOf 3 = 1 := by kernel_rfl
  obtain ⟨b0, e0, o0⟩ := (opn_int Try.underlying3) enc base sp held m _ y0 h0
  have e0 : (cs.drop 0).take 1 = (kI .i64).enc b0 := (congrArg (fun n => (cs.drop 0).take n) c0).symm.trans e0
  obtain ⟨y1, h1⟩ := hf 1 _ rfl
  have c1 : Try.prog.cellsOf 79 = 48 := by kernel_rfl
  obtain ⟨b1, e1, o1⟩ := (opn_arr Try.underlying79 (by kernel_rfl) (by kernel_rfl) (opn_int Try.underlying5)) enc base sp held m _ y1 h1
  have e1 : (cs.drop 1).take 48 = (kA 48 (kI .u8)).enc b1 := (congrArg (fun n => (cs.drop 1).take n) c1).symm.trans e1
  have hn : cs.drop 49 = [] := List.drop_eq_nil_of_le (by rw [hl]; exact Nat.le_of_eq (by kernel_rfl))
  have hc : cs = (kI .i64).enc b0 ++ ((kA 48 (kI .u8)).enc b1 ++ []) := (fld_cons (o := 0) (n := 1) e0 (fld_cons (o := 1) (n := 48) e1 hn))
  refine ⟨⟨b0, b1⟩, ?_, o0, o1⟩
  rw [hc]
  simp [kA, kI, kB, kS, kT, cellsOf, Seg.cell, Kd.seg, k_api_Seat, k_api_Leaf, k_api_Fan, k_api_Chart, segs_api_Seat, segs_api_Leaf, segs_api_Fan, segs_api_Chart]
end Go.Proofs.Ytjhajfkfhdnciaa
