/- DirDamage: texts merged, part 5 of 7. The last part proves that the law DirDamage holds for every input. -/
import Derived.Test.YtdifnahlheogdaaGreatDoorPkDirDamage4
import Derived.Shelf.RegionOpenPlain
import Derived.WalkKit
import Derived.Lib.Walk
import Derived.Lib.AppendZeros
import Derived.Lib.Overlaps
import Derived.Laws.Externs
import Derived.Laws.CopyRow
import Derived.Deep.AppendSrc
set_option maxRecDepth 100000
set_option maxHeartbeats 4000000
set_option linter.unusedVariables false
set_option linter.unusedSimpArgs false
set_option linter.unusedSectionVars false
namespace Go.Proofs.YtdifnahlheogdaaGreatDoor
open Go Go.Xw Go.Yw
def bits_OnesCount64.f (fu : Nat) (a0 : Int) : Option Int := some ((bAnd .i64 (IntKind.i64.wrap (IntKind.u64.wrap ((IntKind.u64.wrap ((IntKind.u64.wrap ((bAnd .u64 (IntKind.u64.wrap ((shR .u64 (IntKind.u64.wrap ((bAnd .u64 (shR .u64 (IntKind.u64.wrap ((bAnd .u64 (shR .u64 a0 1) 6148914691236517205) + (bAnd .u64 a0 6148914691236517205))) 2) 3689348814741910323) + (bAnd .u64 (IntKind.u64.wrap ((bAnd .u64 (shR .u64 a0 1) 6148914691236517205) + (bAnd .u64 a0 6148914691236517205))) 3689348814741910323))) 4) + (IntKind.u64.wrap ((bAnd .u64 (shR .u64 (IntKind.u64.wrap ((bAnd .u64 (shR .u64 a0 1) 6148914691236517205) + (bAnd .u64 a0 6148914691236517205))) 2) 3689348814741910323) + (bAnd .u64 (IntKind.u64.wrap ((bAnd .u64 (shR .u64 a0 1) 6148914691236517205) + (bAnd .u64 a0 6148914691236517205))) 3689348814741910323))))) 1085102592571150095) + (shR .u64 (bAnd .u64 (IntKind.u64.wrap ((shR .u64 (IntKind.u64.wrap ((bAnd .u64 (shR .u64 (IntKind.u64.wrap ((bAnd .u64 (shR .u64 a0 1) 6148914691236517205) + (bAnd .u64 a0 6148914691236517205))) 2) 3689348814741910323) + (bAnd .u64 (IntKind.u64.wrap ((bAnd .u64 (shR .u64 a0 1) 6148914691236517205) + (bAnd .u64 a0 6148914691236517205))) 3689348814741910323))) 4) + (IntKind.u64.wrap ((bAnd .u64 (shR .u64 (IntKind.u64.wrap ((bAnd .u64 (shR .u64 a0 1) 6148914691236517205) + (bAnd .u64 a0 6148914691236517205))) 2) 3689348814741910323) + (bAnd .u64 (IntKind.u64.wrap ((bAnd .u64 (shR .u64 a0 1) 6148914691236517205) + (bAnd .u64 a0 6148914691236517205))) 3689348814741910323))))) 1085102592571150095) 8))) + (shR .u64 (IntKind.u64.wrap ((bAnd .u64 (IntKind.u64.wrap ((shR .u64 (IntKind.u64.wrap ((bAnd .u64 (shR .u64 (IntKind.u64.wrap ((bAnd .u64 (shR .u64 a0 1) 6148914691236517205) + (bAnd .u64 a0 6148914691236517205))) 2) 3689348814741910323) + (bAnd .u64 (IntKind.u64.wrap ((bAnd .u64 (shR .u64 a0 1) 6148914691236517205) + (bAnd .u64 a0 6148914691236517205))) 3689348814741910323))) 4) + (IntKind.u64.wrap ((bAnd .u64 (shR .u64 (IntKind.u64.wrap ((bAnd .u64 (shR .u64 a0 1) 6148914691236517205) + (bAnd .u64 a0 6148914691236517205))) 2) 3689348814741910323) + (bAnd .u64 (IntKind.u64.wrap ((bAnd .u64 (shR .u64 a0 1) 6148914691236517205) + (bAnd .u64 a0 6148914691236517205))) 3689348814741910323))))) 1085102592571150095) + (shR .u64 (bAnd .u64 (IntKind.u64.wrap ((shR .u64 (IntKind.u64.wrap ((bAnd .u64 (shR .u64 (IntKind.u64.wrap ((bAnd .u64 (shR .u64 a0 1) 6148914691236517205) + (bAnd .u64 a0 6148914691236517205))) 2) 3689348814741910323) + (bAnd .u64 (IntKind.u64.wrap ((bAnd .u64 (shR .u64 a0 1) 6148914691236517205) + (bAnd .u64 a0 6148914691236517205))) 3689348814741910323))) 4) + (IntKind.u64.wrap ((bAnd .u64 (shR .u64 (IntKind.u64.wrap ((bAnd .u64 (shR .u64 a0 1) 6148914691236517205) + (bAnd .u64 a0 6148914691236517205))) 2) 3689348814741910323) + (bAnd .u64 (IntKind.u64.wrap ((bAnd .u64 (shR .u64 a0 1) 6148914691236517205) + (bAnd .u64 a0 6148914691236517205))) 3689348814741910323))))) 1085102592571150095) 8))) 16))) + (shR .u64 (IntKind.u64.wrap ((IntKind.u64.wrap ((bAnd .u64 (IntKind.u64.wrap ((shR .u64 (IntKind.u64.wrap ((bAnd .u64 (shR .u64 (IntKind.u64.wrap ((bAnd .u64 (shR .u64 a0 1) 6148914691236517205) + (bAnd .u64 a0 6148914691236517205))) 2) 3689348814741910323) + (bAnd .u64 (IntKind.u64.wrap ((bAnd .u64 (shR .u64 a0 1) 6148914691236517205) + (bAnd .u64 a0 6148914691236517205))) 3689348814741910323))) 4) + (IntKind.u64.wrap ((bAnd .u64 (shR .u64 (IntKind.u64.wrap ((bAnd .u64 (shR .u64 a0 1) 6148914691236517205) + (bAnd .u64 a0 6148914691236517205))) 2) 3689348814741910323) + (bAnd .u64 (IntKind.u64.wrap ((bAnd .u64 (shR .u64 a0 1) 6148914691236517205) + (bAnd .u64 a0 6148914691236517205))) 3689348814741910323))))) 1085102592571150095) + (shR .u64 (bAnd .u64 (IntKind.u64.wrap ((shR .u64 (IntKind.u64.wrap ((bAnd .u64 (shR .u64 (IntKind.u64.wrap ((bAnd .u64 (shR .u64 a0 1) 6148914691236517205) + (bAnd .u64 a0 6148914691236517205))) 2) 3689348814741910323) + (bAnd .u64 (IntKind.u64.wrap ((bAnd .u64 (shR .u64 a0 1) 6148914691236517205) + (bAnd .u64 a0 6148914691236517205))) 3689348814741910323))) 4) + (IntKind.u64.wrap ((bAnd .u64 (shR .u64 (IntKind.u64.wrap ((bAnd .u64 (shR .u64 a0 1) 6148914691236517205) + (bAnd .u64 a0 6148914691236517205))) 2) 3689348814741910323) + (bAnd .u64 (IntKind.u64.wrap ((bAnd .u64 (shR .u64 a0 1) 6148914691236517205) + (bAnd .u64 a0 6148914691236517205))) 3689348814741910323))))) 1085102592571150095) 8))) + (shR .u64 (IntKind.u64.wrap ((bAnd .u64 (IntKind.u64.wrap ((shR .u64 (IntKind.u64.wrap ((bAnd .u64 (shR .u64 (IntKind.u64.wrap ((bAnd .u64 (shR .u64 a0 1) 6148914691236517205) + (bAnd .u64 a0 6148914691236517205))) 2) 3689348814741910323) + (bAnd .u64 (IntKind.u64.wrap ((bAnd .u64 (shR .u64 a0 1) 6148914691236517205) + (bAnd .u64 a0 6148914691236517205))) 3689348814741910323))) 4) + (IntKind.u64.wrap ((bAnd .u64 (shR .u64 (IntKind.u64.wrap ((bAnd .u64 (shR .u64 a0 1) 6148914691236517205) + (bAnd .u64 a0 6148914691236517205))) 2) 3689348814741910323) + (bAnd .u64 (IntKind.u64.wrap ((bAnd .u64 (shR .u64 a0 1) 6148914691236517205) + (bAnd .u64 a0 6148914691236517205))) 3689348814741910323))))) 1085102592571150095) + (shR .u64 (bAnd .u64 (IntKind.u64.wrap ((shR .u64 (IntKind.u64.wrap ((bAnd .u64 (shR .u64 (IntKind.u64.wrap ((bAnd .u64 (shR .u64 a0 1) 6148914691236517205) + (bAnd .u64 a0 6148914691236517205))) 2) 3689348814741910323) + (bAnd .u64 (IntKind.u64.wrap ((bAnd .u64 (shR .u64 a0 1) 6148914691236517205) + (bAnd .u64 a0 6148914691236517205))) 3689348814741910323))) 4) + (IntKind.u64.wrap ((bAnd .u64 (shR .u64 (IntKind.u64.wrap ((bAnd .u64 (shR .u64 a0 1) 6148914691236517205) + (bAnd .u64 a0 6148914691236517205))) 2) 3689348814741910323) + (bAnd .u64 (IntKind.u64.wrap ((bAnd .u64 (shR .u64 a0 1) 6148914691236517205) + (bAnd .u64 a0 6148914691236517205))) 3689348814741910323))))) 1085102592571150095) 8))) 16))) 32)))) 127))
theorem bits_OnesCount64.sc (fu : Nat) (a0 : Int) (r : Int) (h : bits_OnesCount64.f fu a0 = some r) : SC Tryz.prog CT 45 [vi .u64 a0] [] (vi .i64 r) [] := by
 unfold bits_OnesCount64.f at h
 refine sq Tryz.func45 r (fun r => vi .i64 r) (fun r => []) fun X => ?_
 refine ⟨by decide, ?_⟩
 refine ⟨by decide, ?_⟩
 refine ⟨by decide, ?_⟩
 refine ⟨by decide, ?_⟩
 refine ⟨by decide, ?_⟩
 refine ⟨by decide, ?_⟩
 exact fk h
def bits_Set_Count.s0 (fu : Nat) (a0 : S_bits_Set) : (Int × Int) → Option (Sum Int (Int × Int)) := fun s1 => (if (decide (s1.2 < (List.length a0.words : Int))) then if 0 ≤ s1.2 ∧ s1.2 < (List.length a0.words : Int) then ((bits_OnesCount64.f fu (ix a0.words s1.2)).bind fun t7 => some (Sum.inr ((IntKind.i64.wrap (s1.1 + t7)), (IntKind.i64.wrap (s1.2 + 1))))) else none else some (Sum.inl (s1.1)))
def bits_Set_Count.f (fu : Nat) (a0 : S_bits_Set) : Option Int := ((loopM (bits_Set_Count.s0 fu a0) fu (0, 0)).bind fun e2 => some (e2))
theorem bits_Set_Count.sc (fu : Nat) (a0 : S_bits_Set) (r : Int) (h : bits_Set_Count.f fu a0 = some r) : SC Tryz.prog CT 22 [.ptr 0 0] [bS 1 a0, rS a0] (vi .i64 r) [bS 1 a0, rS a0] := by
 unfold bits_Set_Count.f at h
 refine sq Tryz.func22 r (fun r => vi .i64 r) (fun r => [bS 1 a0, rS a0]) fun X => ?_
 refine bk h fun e2 l3 h => ?_
 refine t_cutx cok 0 (fun (e2 : Int) => ⟨[(3, vi .i64 e2)], [bS 1 a0, rS a0]⟩) e2 ?_ ?_
 ·skip
  have h4 := h
  refine t_loop cok (fun (s1 : Int × Int) => ⟨[(3, vi .i64 s1.1), (9, .sl 1 1 []), (10, vi .i64 (List.length a0.words : Int)), (11, vi .i64 s1.2)], [bS 1 a0, rS a0]⟩) l3 (by kernel_rfl) (fun s1 x5 h => ?_)
  unfold bits_Set_Count.s0 at h
  refine t_cond cok ?_
  refine bi h (fun c6 h => ?_) (fun c6 h => ?_)
  ·skip
   refine ag h fun h => ?_
   refine bk h fun t7 k8 h => ?_
   refine cl4 cok.g (bits_OnesCount64.sc fu _ _ k8) (vi .i64 t7) [] 2 ?_
   exact lik h
  exact lpx h fun hy => ek (sj hy)
 exact fk h
def bits_Set_Gap.s0 (fu : Nat) (a0 : S_bits_Set) : Int → Option (Sum (Sum Int Unit) Int) := fun s1 => (if (decide (s1 < a0.size)) then ((bits_Set_Has.f fu a0 s1).bind fun t8 => (if (!t8) then some (Sum.inl (Sum.inl (s1))) else some (Sum.inr ((IntKind.i64.wrap (s1 + 1)))))) else some (Sum.inl (Sum.inr ())))
def bits_Set_Gap.f (fu : Nat) (a0 : S_bits_Set) (a1 : Int) : Option Int := ((loopM (bits_Set_Gap.s0 fu a0) fu ((mxI a1 0))).bind fun e2 => match e2 with | Sum.inl p => some p | Sum.inr x4 => some ((-1)))
theorem bits_Set_Gap.sc (fu : Nat) (a0 : S_bits_Set) (a1 : Int) (r : Int) (h : bits_Set_Gap.f fu a0 a1 = some r) : SC Tryz.prog CT 117 [.ptr 0 0, vi .i64 a1] [bS 1 a0, rS a0] (vi .i64 r) [bS 1 a0, rS a0] := by
 unfold bits_Set_Gap.f at h
 refine sq Tryz.func117 r (fun r => vi .i64 r) (fun r => [bS 1 a0, rS a0]) fun X => ?_
 refine bk h fun e2 l3 h => ?_
 refine t_cutxS cok 0 (fun (_x : Unit) => ⟨[], [bS 1 a0, rS a0]⟩) e2 ?_ (fun x4 hy => ?_)
 ·skip
  have h5 := h
  refine t_loop cok (fun (s1 : Int) => ⟨[(0, .ptr 0 0), (5, vi .i64 s1)], [bS 1 a0, rS a0]⟩) l3 (by kernel_rfl) (fun s1 x6 h => ?_)
  unfold bits_Set_Gap.s0 at h
  refine t_cond cok ?_
  refine bi h (fun c7 h => ?_) (fun c7 h => ?_)
  ·skip
   refine bk h fun t8 k9 h => ?_
   refine cl4 cok.g (bits_Set_Has.sc fu _ _ _ k9) (vb t8) [(0, bS 1 a0), (1, rS a0)] 4 ?_
   refine t_cond cok ?_
   refine bi h (fun c10 h => ?_) (fun c10 h => ?_)
   ·skip
    refine lpr h (fun hy => ?_)
    have h := h5
    rw [← hy] at h
    exact fk h
   exact lik h
  exact lpx h fun hy => esk (sj hy)
 subst hy
 exact fk h
def alloc_Alloc_take.f (fu : Nat) (a0 : S_alloc_Alloc) (a1 : Int) : Option (Int × Int × S_alloc_Alloc) := ((alloc_Alloc_held.f fu a0).bind fun t1 => ((bits_Set_Size.f fu t1).bind fun t3 => ((bits_Set_Count.f fu t1).bind fun t5 => (if (decide ((IntKind.i64.wrap (t3 - t5)) ≤ a1)) then some (0, 10, a0) else ((bits_Set_Gap.f fu t1 0).bind fun t8 => ((bits_Set_Add.f fu a0.sets.2.2.2 [t8]).bind fun t10 => some (t8, 0, (⟨a0.reserve, (a0.sets.1, a0.sets.2.1, a0.sets.2.2.1, t10)⟩ : S_alloc_Alloc))))))))
theorem alloc_Alloc_take.sc (fu : Nat) (a0 : S_alloc_Alloc) (a1 : Int) (r : Int × Int × S_alloc_Alloc) (h : alloc_Alloc_take.f fu a0 a1 = some r) : SC Tryz.prog CT 96 [.ptr 0 0, vi .i64 a1] [bA 1 3 5 7 a0, bS 2 a0.sets.1, rS a0.sets.1, bS 4 a0.sets.2.1, rS a0.sets.2.1, bS 6 a0.sets.2.2.1, rS a0.sets.2.2.1, bS 8 a0.sets.2.2.2, rS a0.sets.2.2.2] (.tup [vi .i64 r.1, vi .i64 r.2.1]) [bA 1 3 5 7 r.2.2, bS 2 r.2.2.sets.1, rS r.2.2.sets.1, bS 4 r.2.2.sets.2.1, rS r.2.2.sets.2.1, bS 6 r.2.2.sets.2.2.1, rS r.2.2.sets.2.2.1, bS 8 r.2.2.sets.2.2.2, rS r.2.2.sets.2.2.2] := by
 unfold alloc_Alloc_take.f at h
 refine sq Tryz.func96 r (fun r => .tup [vi .i64 r.1, vi .i64 r.2.1]) (fun r => [bA 1 3 5 7 r.2.2, bS 2 r.2.2.sets.1, rS r.2.2.sets.1, bS 4 r.2.2.sets.2.1, rS r.2.2.sets.2.1, bS 6 r.2.2.sets.2.2.1, rS r.2.2.sets.2.2.1, bS 8 r.2.2.sets.2.2.2, rS r.2.2.sets.2.2.2]) fun X => ?_
 refine bk h fun t1 k2 h => ?_
 refine cl4 cok.g (alloc_Alloc_held.sc fu _ _ k2) (.ptr 18 0) [(0, bA 1 3 5 7 a0), (1, bS 2 a0.sets.1), (2, rS a0.sets.1), (3, bS 4 a0.sets.2.1), (4, rS a0.sets.2.1), (5, bS 6 a0.sets.2.2.1), (6, rS a0.sets.2.2.1), (7, bS 8 a0.sets.2.2.2), (8, rS a0.sets.2.2.2), (18, bS 19 t1), (19, rS t1)] 20 ?_
 refine bk h fun t3 k4 h => ?_
 refine cl4 cok.g (bits_Set_Size.sc fu _ _ k4) (vi .i64 t3) [(18, bS 19 t1), (19, rS t1)] 22 ?_
 refine bk h fun t5 k6 h => ?_
 refine cl4 cok.g (bits_Set_Count.sc fu _ _ k6) (vi .i64 t5) [(18, bS 19 t1), (19, rS t1)] 24 ?_
 refine t_cond cok ?_
 refine bi h (fun c7 h => ?_) (fun c7 h => ?_)
 ·skip
  exact fk h
 refine bk h fun t8 k9 h => ?_
 refine cl4 cok.g (bits_Set_Gap.sc fu _ _ _ k9) (vi .i64 t8) [(18, bS 19 t1), (19, rS t1)] 26 ?_
 refine ⟨by decide, ?_⟩
 refine bk h fun t10 k11 h => ?_
 refine cl4 cok.g (bits_Set_Add.sc fu _ _ _ k11) (.tup []) [(7, bS 8 t10), (8, rS t10)] 29 ?_
 exact fk h
def alloc_Alloc_Take.f (fu : Nat) (a0 : S_alloc_Alloc) : Option (Int × Int × S_alloc_Alloc) := ((alloc_Alloc_take.f fu a0 a0.reserve).bind fun t1 => some (t1.1, t1.2.1, t1.2.2))
theorem alloc_Alloc_Take.sc (fu : Nat) (a0 : S_alloc_Alloc) (r : Int × Int × S_alloc_Alloc) (h : alloc_Alloc_Take.f fu a0 = some r) : SC Tryz.prog CT 73 [.ptr 0 0] [bA 1 3 5 7 a0, bS 2 a0.sets.1, rS a0.sets.1, bS 4 a0.sets.2.1, rS a0.sets.2.1, bS 6 a0.sets.2.2.1, rS a0.sets.2.2.1, bS 8 a0.sets.2.2.2, rS a0.sets.2.2.2] (.tup [vi .i64 r.1, vi .i64 r.2.1]) [bA 1 3 5 7 r.2.2, bS 2 r.2.2.sets.1, rS r.2.2.sets.1, bS 4 r.2.2.sets.2.1, rS r.2.2.sets.2.1, bS 6 r.2.2.sets.2.2.1, rS r.2.2.sets.2.2.1, bS 8 r.2.2.sets.2.2.2, rS r.2.2.sets.2.2.2] := by
 unfold alloc_Alloc_Take.f at h
 refine sq Tryz.func73 r (fun r => .tup [vi .i64 r.1, vi .i64 r.2.1]) (fun r => [bA 1 3 5 7 r.2.2, bS 2 r.2.2.sets.1, rS r.2.2.sets.1, bS 4 r.2.2.sets.2.1, rS r.2.2.sets.2.1, bS 6 r.2.2.sets.2.2.1, rS r.2.2.sets.2.2.1, bS 8 r.2.2.sets.2.2.2, rS r.2.2.sets.2.2.2]) fun X => ?_
 refine bk h fun t1 k2 h => ?_
 refine cl4 cok.g (alloc_Alloc_take.sc fu _ _ _ k2) (.tup [vi .i64 t1.1, vi .i64 t1.2.1]) [(0, bA 1 3 5 7 t1.2.2), (1, bS 2 t1.2.2.sets.1), (2, rS t1.2.2.sets.1), (3, bS 4 t1.2.2.sets.2.1), (4, rS t1.2.2.sets.2.1), (5, bS 6 t1.2.2.sets.2.2.1), (6, rS t1.2.2.sets.2.2.1), (7, bS 8 t1.2.2.sets.2.2.2), (8, rS t1.2.2.sets.2.2.2)] 18 ?_
 exact fk h
def pmem_cell_keep__i0.f (fu : Nat) (a0l : List S_pmem_cell) (a0i : Int) (a1 : Int) : Option (List S_pmem_cell) := some ((updR (updR (updR a0l a0i fun w => (⟨a1, w.stored, w.sent, w.flushed⟩ : S_pmem_cell)) a0i fun w => (⟨w.lasts, w.stored, 0, w.flushed⟩ : S_pmem_cell)) a0i fun w => (⟨w.lasts, w.stored, w.sent, false⟩ : S_pmem_cell)))
theorem pmem_cell_keep__i0.sc (fu : Nat) (a0l : List S_pmem_cell) (a0i : Int) (a1 : Int) (r : (List S_pmem_cell)) (h : pmem_cell_keep__i0.f fu a0l a0i a1 = some r) : SC Tryz.prog CT 132 [.pel 0 4 [] a0i 0, vi .u64 a1] [.row (.st .S_pmem_cell) 75 (a0l : List S_pmem_cell)] (.tup []) [.row (.st .S_pmem_cell) 75 (r : List S_pmem_cell)] := by
 unfold pmem_cell_keep__i0.f at h
 refine sq Tryz.func132 r (fun r => .tup []) (fun r => [.row (.st .S_pmem_cell) 75 (r : List S_pmem_cell)]) fun X => ?_
 exact fiN h (by kernel_rfl)
def pmem_plan_next__i0_1.f (fu : Nat) (a0 : S_pmem_Device) : Option (Int × S_pmem_Device) := (if (decide ((List.length a0.plan.list : Int) = 0)) then some ((-1), a0) else if 0 ≤ a0.plan.at_ ∧ a0.plan.at_ < (List.length a0.plan.list : Int) then if (List.length a0.plan.list : Int) ≠ 0 then some ((ix a0.plan.list a0.plan.at_), (⟨a0.cells, (⟨a0.plan.list, (Int.tmod (IntKind.i64.wrap (a0.plan.at_ + 1)) (List.length a0.plan.list : Int))⟩ : S_pmem_plan), a0.off, a0.armed, a0.left, a0.steps⟩ : S_pmem_Device)) else none else none)
theorem pmem_plan_next__i0_1.sc (fu : Nat) (a0 : S_pmem_Device) (r : Int × S_pmem_Device) (h : pmem_plan_next__i0_1.f fu a0 = some r) : SC Tryz.prog CT 131 [.ptr 0 1] [bD 1 2 a0, rD a0, rP a0] (vi .i64 r.1) [bD 1 2 r.2, rD r.2, rP r.2] := by
 unfold pmem_plan_next__i0_1.f at h
 refine sq Tryz.func131 r (fun r => vi .i64 r.1) (fun r => [bD 1 2 r.2, rD r.2, rP r.2]) fun X => ?_
 refine t_cond cok ?_
 refine bi h (fun c1 h => ?_) (fun c1 h => ?_)
 ·skip
  exact fk h
 refine t_draw cok mo [⟨0, false, [0], [], 0, []⟩, ⟨1, false, [10], [], 0, [0]⟩, ⟨2, false, [11], [], 0, [0, 1]⟩, ⟨3, false, [12], [0], 0, [0, 1, 2]⟩, ⟨4, false, [0], [], 0, []⟩, ⟨5, false, [14], [], 0, [4]⟩, ⟨6, false, [15], [], 0, [4, 5]⟩, ⟨7, false, [16], [0], 0, [4, 5, 6]⟩, ⟨8, false, [13, 17], [2], 0, cl 8⟩, ⟨9, false, [18], [2], 0, cl 9⟩, ⟨10, false, [19], [], 0, cl 10⟩] (by kernel_rfl) ?_
 refine ag h fun h => ?_
 refine t_draw cok mo [⟨0, false, [0], [], 0, []⟩, ⟨1, false, [0], [], 0, []⟩, ⟨2, false, [21], [], 0, [1]⟩, ⟨3, false, [22], [], 0, [1, 2]⟩, ⟨4, false, [23], [0], 0, [1, 2, 3]⟩, ⟨5, false, [24], [], 0, [1, 2, 3, 4]⟩, ⟨6, false, [0], [], 0, []⟩, ⟨7, false, [26], [], 0, [6]⟩, ⟨8, false, [27], [], 0, [6, 7]⟩, ⟨9, false, [28], [0], 0, [6, 7, 8]⟩, ⟨10, false, [29], [2], 0, [6, 7, 8, 9]⟩, ⟨11, false, [25, 30], [], 0, [1, 2, 3, 4, 5, 6, 7, 8, 9, 10]⟩, ⟨12, false, [20], [], 0, cl 12⟩, ⟨13, false, [32], [], 0, cl 13⟩, ⟨14, true, [31, 33], [0], 0, cl 14⟩] (by kernel_rfl) ?_
 refine ag h fun h => ?_
 exact fk h
def pmem_Device_step.f (fu : Nat) (a0 : S_pmem_Device) : Option S_pmem_Device := ((pmem_plan_next__i0_1.f fu (⟨a0.cells, a0.plan, a0.off, a0.armed, a0.left, (IntKind.i64.wrap (a0.steps + 1))⟩ : S_pmem_Device)).bind fun t1 => (if (decide (t1.1 ≥ 0)) then (((if (decide ((List.length t1.2.cells : Int) > 0)) then if (List.length t1.2.cells : Int) ≠ 0 then if 0 ≤ (Int.tmod t1.1 (List.length t1.2.cells : Int)) ∧ (Int.tmod t1.1 (List.length t1.2.cells : Int)) < (List.length t1.2.cells : Int) then ((pmem_cell_keep__i0.f fu t1.2.cells (Int.tmod t1.1 (List.length t1.2.cells : Int)) ((ix t1.2.cells (Int.tmod t1.1 (List.length t1.2.cells : Int))).stored)).bind fun t8 => some (t8)) else none else none else some (t1.2.cells)) : Option (List S_pmem_cell)).bind fun x4 => (((if t1.2.armed then some ((decide ((IntKind.i64.wrap (t1.2.left - 1)) = 0)), (IntKind.i64.wrap (t1.2.left - 1))) else some (t1.2.off, t1.2.left)) : Option (Bool × Int)).bind fun x10 => some ((⟨x4, t1.2.plan, x10.1, t1.2.armed, x10.2, t1.2.steps⟩ : S_pmem_Device)))) else (((if t1.2.armed then some ((decide ((IntKind.i64.wrap (t1.2.left - 1)) = 0)), (IntKind.i64.wrap (t1.2.left - 1))) else some (t1.2.off, t1.2.left)) : Option (Bool × Int)).bind fun x14 => some ((⟨t1.2.cells, t1.2.plan, x14.1, t1.2.armed, x14.2, t1.2.steps⟩ : S_pmem_Device)))))
theorem pmem_Device_step.sc (fu : Nat) (a0 : S_pmem_Device) (r : S_pmem_Device) (h : pmem_Device_step.f fu a0 = some r) : SC Tryz.prog CT 130 [.ptr 0 0] [bD 1 2 a0, rD a0, rP a0] (.tup []) [bD 1 2 r, rD r, rP r] := by
 unfold pmem_Device_step.f at h
 refine sq Tryz.func130 r (fun r => .tup []) (fun r => [bD 1 2 r, rD r, rP r]) fun X => ?_
 refine bk h fun t1 k2 h => ?_
 refine cl4 cok.g (pmem_plan_next__i0_1.sc fu _ _ k2) (vi .i64 t1.1) [(0, bD 1 2 t1.2), (1, rD t1.2), (2, rP t1.2)] 6 ?_
 refine t_reg cok ?_
 refine bi h (fun c3 h => ?_) (fun c3 h => ?_)
 ·skip
  refine bk h fun x4 j5 h => ?_
  refine t_cut cok (fun (x4 : (List S_pmem_cell)) => ⟨[(0, .ptr 0 0)], [bD 1 2 t1.2, .row (.st .S_pmem_cell) 75 (x4 : List S_pmem_cell), rP t1.2]⟩) x4 ?_ ?_
  ·skip
   have h6 := h
   have h := j5
   refine t_cond cok ?_
   refine bi h (fun c7 h => ?_) (fun c7 h => ?_)
   ·skip
    refine t_draw cok mo [⟨0, false, [0], [], 0, []⟩, ⟨1, false, [25], [], 0, [0]⟩, ⟨2, false, [26], [], 0, [0, 1]⟩, ⟨3, false, [27], [0], 0, [0, 1, 2]⟩, ⟨4, false, [2], [], 0, []⟩, ⟨5, false, [0], [], 0, []⟩, ⟨6, false, [30], [], 0, [5]⟩, ⟨7, false, [31], [], 0, [5, 6]⟩, ⟨8, false, [32], [0], 0, [5, 6, 7]⟩, ⟨9, false, [33], [1], 0, [5, 6, 7, 8]⟩, ⟨10, false, [29, 34], [], 0, [4, 5, 6, 7, 8, 9]⟩, ⟨11, false, [28, 35], [1], 0, cl 11⟩, ⟨12, false, [36], [], 0, cl 12⟩] (by kernel_rfl) ?_
    refine ag h fun h => ?_
    refine ag h fun h => ?_
    refine bk h fun t8 k9 h => ?_
    refine cl4 cok.g (pmem_cell_keep__i0.sc fu _ _ _ _ k9) (.tup []) [(1, .row (.st .S_pmem_cell) 75 (t8 : List S_pmem_cell))] 7 ?_
    exact ek h
   exact ek h
  refine bk h fun x10 j11 h => ?_
  refine t_cut cok (fun (x10 : Bool × Int) => ⟨[], [.box 70 (.agg [.sl 1 4 [], .agg [.sl 2 1 [], vi .i64 t1.2.plan.at_], vb x10.1, vb t1.2.armed, vi .i64 x10.2, vi .i64 t1.2.steps]), .row (.st .S_pmem_cell) 75 (x4 : List S_pmem_cell), rP t1.2]⟩) x10 ?_ ?_
  ·skip
   have h12 := h
   have h := j11
   refine t_cond cok ?_
   refine bi h (fun c13 h => ?_) (fun c13 h => ?_)
   ·skip
    exact ek h
   exact ek h
  exact fiN h (by kernel_rfl)
 refine t_cond cok ?_
 refine bk h fun x14 j15 h => ?_
 refine t_cut cok (fun (x14 : Bool × Int) => ⟨[], [.box 70 (.agg [.sl 1 4 [], .agg [.sl 2 1 [], vi .i64 t1.2.plan.at_], vb x14.1, vb t1.2.armed, vi .i64 x14.2, vi .i64 t1.2.steps]), rD t1.2, rP t1.2]⟩) x14 ?_ ?_
 ·skip
  have h16 := h
  have h := j15
  refine t_cond cok ?_
  refine bi h (fun c17 h => ?_) (fun c17 h => ?_)
  ·skip
   exact ek h
  exact ek h
 exact fiN h (by kernel_rfl)
def pmem_Device_Flush.s0 (fu : Nat) (a1 : Int) : (Int × (List S_pmem_cell)) → Option (Sum (List S_pmem_cell) (Int × (List S_pmem_cell))) := fun s6 => (if (decide (s6.1 < 8)) then if 0 ≤ (IntKind.i64.wrap ((IntKind.i64.wrap (a1 * 8)) + s6.1)) ∧ (IntKind.i64.wrap ((IntKind.i64.wrap (a1 * 8)) + s6.1)) < (List.length s6.2 : Int) then some (Sum.inr ((IntKind.i64.wrap (s6.1 + 1)), (updR (updR s6.2 (IntKind.i64.wrap ((IntKind.i64.wrap (a1 * 8)) + s6.1)) fun w => (⟨w.lasts, w.stored, (ix s6.2 (IntKind.i64.wrap ((IntKind.i64.wrap (a1 * 8)) + s6.1))).stored, w.flushed⟩ : S_pmem_cell)) (IntKind.i64.wrap ((IntKind.i64.wrap (a1 * 8)) + s6.1)) fun w => (⟨w.lasts, w.stored, w.sent, true⟩ : S_pmem_cell)))) else none else some (Sum.inl (s6.2)))
def pmem_Device_Flush.f (fu : Nat) (a0 : S_pmem_Device) (a1 : Int) : Option (Int × S_pmem_Device) := ((pmem_Device_Lines.f fu a0).bind fun t1 => ((pmem_Device_may.f fu a0 a1 t1).bind fun t3 => (if (!decide (t3 = 0)) then some (t3, a0) else ((loopM (pmem_Device_Flush.s0 fu a1) fu (0, a0.cells)).bind fun e7 => ((pmem_Device_step.f fu (⟨e7, a0.plan, a0.off, a0.armed, a0.left, a0.steps⟩ : S_pmem_Device)).bind fun t12 => some (0, t12))))))
theorem pmem_Device_Flush.sc (fu : Nat) (a0 : S_pmem_Device) (a1 : Int) (r : Int × S_pmem_Device) (h : pmem_Device_Flush.f fu a0 a1 = some r) : SC Tryz.prog CT 128 [.ptr 0 0, vi .i64 a1] [bD 1 2 a0, rD a0, rP a0] (vi .i64 r.1) [bD 1 2 r.2, rD r.2, rP r.2] := by
 unfold pmem_Device_Flush.f at h
 refine sq Tryz.func128 r (fun r => vi .i64 r.1) (fun r => [bD 1 2 r.2, rD r.2, rP r.2]) fun X => ?_
 refine bk h fun t1 k2 h => ?_
 refine cl4 cok.g (pmem_Device_Lines.sc fu _ _ k2) (vi .i64 t1) [(0, bD 1 2 a0), (1, rD a0), (2, rP a0)] 6 ?_
 refine bk h fun t3 k4 h => ?_
 refine cl4 cok.g (pmem_Device_may.sc fu _ _ _ _ k4) (vi .i64 t3) [(0, bD 1 2 a0), (1, rD a0), (2, rP a0)] 9 ?_
 refine t_cond cok ?_
 refine bi h (fun c5 h => ?_) (fun c5 h => ?_)
 ·skip
  exact fk h
 refine bk h fun e7 l8 h => ?_
 refine t_cutx cok 0 (fun (e7 : (List S_pmem_cell)) => ⟨[(0, .ptr 0 0)], [bD 1 2 a0, .row (.st .S_pmem_cell) 75 (e7 : List S_pmem_cell), rP a0]⟩) e7 ?_ ?_
 ·skip
  have h9 := h
  refine t_loop cok (fun (s6 : Int × (List S_pmem_cell)) => ⟨[(0, .ptr 0 0), (1, vi .i64 a1), (16, vi .i64 s6.1)], [bD 1 2 a0, .row (.st .S_pmem_cell) 75 (s6.2 : List S_pmem_cell), rP a0]⟩) l8 (by kernel_rfl) (fun s6 x10 h => ?_)
  unfold pmem_Device_Flush.s0 at h
  refine t_cond cok ?_
  refine bi h (fun c11 h => ?_) (fun c11 h => ?_)
  ·skip
   refine ag h fun h => ?_
   exact lik h
  exact lpx h fun hy => ek (sj hy)
 refine bk h fun t12 k13 h => ?_
 refine cl4 cok.g (pmem_Device_step.sc fu _ _ k13) (.tup []) [(0, bD 1 2 t12), (1, rD t12), (2, rP t12)] 6 ?_
 exact fk h
def pmem_Device_Store.f (fu : Nat) (a0 : S_pmem_Device) (a1 : Int) (a2 : Int) : Option (Int × S_pmem_Device) := ((pmem_Device_may.f fu a0 a1 (List.length a0.cells : Int)).bind fun t1 => (if (!decide (t1 = 0)) then some (t1, a0) else if 0 ≤ a1 ∧ a1 < (List.length a0.cells : Int) then ((pmem_Device_step.f fu (⟨(updR a0.cells a1 fun w => (⟨w.lasts, a2, w.sent, w.flushed⟩ : S_pmem_cell)), a0.plan, a0.off, a0.armed, a0.left, a0.steps⟩ : S_pmem_Device)).bind fun t4 => some (0, t4)) else none))
theorem pmem_Device_Store.sc (fu : Nat) (a0 : S_pmem_Device) (a1 : Int) (a2 : Int) (r : Int × S_pmem_Device) (h : pmem_Device_Store.f fu a0 a1 a2 = some r) : SC Tryz.prog CT 127 [.ptr 0 0, vi .i64 a1, vi .u64 a2] [bD 1 2 a0, rD a0, rP a0] (vi .i64 r.1) [bD 1 2 r.2, rD r.2, rP r.2] := by
 unfold pmem_Device_Store.f at h
 refine sq Tryz.func127 r (fun r => vi .i64 r.1) (fun r => [bD 1 2 r.2, rD r.2, rP r.2]) fun X => ?_
 refine bk h fun t1 k2 h => ?_
 refine cl4 cok.g (pmem_Device_may.sc fu _ _ _ _ k2) (vi .i64 t1) [(0, bD 1 2 a0), (1, rD a0), (2, rP a0)] 6 ?_
 refine t_cond cok ?_
 refine bi h (fun c3 h => ?_) (fun c3 h => ?_)
 ·skip
  exact fk h
 refine ag h fun h => ?_
 refine bk h fun t4 k5 h => ?_
 refine cl4 cok.g (pmem_Device_step.sc fu _ _ k5) (.tup []) [(0, bD 1 2 t4), (1, rD t4), (2, rP t4)] 9 ?_
 exact fk h
def press_store.s0 (fu : Nat) (a1 : Int) (a2 : Int) (a3 : List Int) : (Int × S_pmem_Device) → Option (Sum (Sum (Int × S_pmem_Device) S_pmem_Device) (Int × S_pmem_Device)) := fun s1 => (if (decide (s1.1 < (List.length a3 : Int))) then if 0 ≤ s1.1 ∧ s1.1 < (List.length a3 : Int) then ((pmem_Device_Store.f fu s1.2 (IntKind.i64.wrap ((IntKind.i64.wrap ((IntKind.i64.wrap (a1 * 8)) + a2)) + s1.1)) (ix a3 s1.1)).bind fun t8 => (if (!decide (t8.1 = 0)) then some (Sum.inl (Sum.inl (t8.1, t8.2))) else some (Sum.inr ((IntKind.i64.wrap (s1.1 + 1)), t8.2)))) else none else some (Sum.inl (Sum.inr (s1.2))))
def press_store.f (fu : Nat) (a0 : S_pmem_Device) (a1 : Int) (a2 : Int) (a3 : List Int) : Option (Int × S_pmem_Device) := ((loopM (press_store.s0 fu a1 a2 a3) fu (0, a0)).bind fun e2 => match e2 with | Sum.inl p => some p | Sum.inr x4 => ((pmem_Device_Flush.f fu x4 a1).bind fun t11 => some (t11.1, t11.2)))
theorem press_store.sc (fu : Nat) (a0 : S_pmem_Device) (a1 : Int) (a2 : Int) (a3 : List Int) (r : Int × S_pmem_Device) (h : press_store.f fu a0 a1 a2 a3 = some r) : SC Tryz.prog CT 118 [.ptr 0 0, vi .i64 a1, vi .i64 a2, .v (.sl (.int .u64)) (a3 : List Int)] [bD 1 2 a0, rD a0, rP a0] (vi .i64 r.1) [bD 1 2 r.2, rD r.2, rP r.2] := by
 unfold press_store.f at h
 refine sq Tryz.func118 r (fun r => vi .i64 r.1) (fun r => [bD 1 2 r.2, rD r.2, rP r.2]) fun X => ?_
 refine bk h fun e2 l3 h => ?_
 refine t_cutxS cok 0 (fun (x4 : S_pmem_Device) => ⟨[(0, .ptr 0 0), (1, vi .i64 a1)], [bD 1 2 x4, rD x4, rP x4]⟩) e2 ?_ (fun x4 hy => ?_)
 ·skip
  have h5 := h
  refine t_loop cok (fun (s1 : Int × S_pmem_Device) => ⟨[(0, .ptr 0 0), (1, vi .i64 a1), (2, vi .i64 a2), (12, .v (.sl (.int .u64)) (a3 : List Int)), (13, vi .i64 (List.length a3 : Int)), (14, vi .i64 s1.1)], [bD 1 2 s1.2, rD s1.2, rP s1.2]⟩) l3 (by kernel_rfl) (fun s1 x6 h => ?_)
  unfold press_store.s0 at h
  refine t_cond cok ?_
  refine bi h (fun c7 h => ?_) (fun c7 h => ?_)
  ·skip
   refine ag h fun h => ?_
   refine bk h fun t8 k9 h => ?_
   refine cl4 cok.g (pmem_Device_Store.sc fu _ _ _ _ k9) (vi .i64 t8.1) [(0, bD 1 2 t8.2), (1, rD t8.2), (2, rP t8.2)] 6 ?_
   refine t_cond cok ?_
   refine bi h (fun c10 h => ?_) (fun c10 h => ?_)
   ·skip
    refine lpr h (fun hy => ?_)
    have h := h5
    rw [← hy] at h
    exact fk h
   exact lik h
  exact lpx h fun hy => esk (sj hy)
 subst hy
 refine bk h fun t11 k12 h => ?_
 refine cl4 cok.g (pmem_Device_Flush.sc fu _ _ _ k12) (vi .i64 t11.1) [(0, bD 1 2 t11.2), (1, rD t11.2), (2, rP t11.2)] 6 ?_
 exact fk h
def press_Write.f (fu : Nat) (a0 : S_pmem_Device) (a1 : Int) (a2 : List Int) : Option (Int × S_pmem_Device) := ((press_may.f fu a0 a1).bind fun t1 => (if (!decide (t1 = 0)) then some (t1, a0) else (if (!decide ((List.length a2 : Int) = 64)) then some (2, a0) else ((octet_Words.f fu a2).bind fun t5 => ((press_store.f fu a0 a1 0 t5).bind fun t7 => some (t7.1, t7.2))))))
theorem press_Write.sc (fu : Nat) (a0 : S_pmem_Device) (a1 : Int) (a2 : List Int) (r : Int × S_pmem_Device) (h : press_Write.f fu a0 a1 a2 = some r) : SC Tryz.prog CT 97 [.ptr 0 0, vi .i64 a1, .v (.sl (.int .u8)) (a2 : List Int)] [bD 1 2 a0, rD a0, rP a0] (vi .i64 r.1) [bD 1 2 r.2, rD r.2, rP r.2] := by
 unfold press_Write.f at h
 refine sq Tryz.func97 r (fun r => vi .i64 r.1) (fun r => [bD 1 2 r.2, rD r.2, rP r.2]) fun X => ?_
 refine bk h fun t1 k2 h => ?_
 refine cl4 cok.g (press_may.sc fu _ _ _ k2) (vi .i64 t1) [(0, bD 1 2 a0), (1, rD a0), (2, rP a0)] 6 ?_
 refine t_cond cok ?_
 refine bi h (fun c3 h => ?_) (fun c3 h => ?_)
 ·skip
  exact fk h
 refine t_cond cok ?_
 refine bi h (fun c4 h => ?_) (fun c4 h => ?_)
 ·skip
  exact fk h
 refine bk h fun t5 k6 h => ?_
 refine cl4 cok.g (octet_Words.sc fu _ _ k6) (.sl 6 1 []) [(6, .row (.int .u64) 73 (t5 : List Int))] 7 ?_
 refine bk h fun t7 k8 h => ?_
 refine cl4 cok.g (press_store.sc fu _ _ _ _ _ k8) (vi .i64 t7.1) [(0, bD 1 2 t7.2), (1, rD t7.2), (2, rP t7.2)] 10 ?_
 exact fk h
def shadow_Store_written.f (fu : Nat) (a0 : S_shadow_Store) (a1 : Int) (a2 : List Int) : Option (Int × Int × S_shadow_Store) := ((press_Write.f fu a0.device a1 a2).bind fun t1 => (if (!decide (t1.1 = 0)) then some (0, t1.1, (⟨t1.2, a0.blocks⟩ : S_shadow_Store)) else some (a1, 0, (⟨t1.2, a0.blocks⟩ : S_shadow_Store))))
theorem shadow_Store_written.sc (fu : Nat) (a0 : S_shadow_Store) (a1 : Int) (a2 : List Int) (r : Int × Int × S_shadow_Store) (h : shadow_Store_written.f fu a0 a1 a2 = some r) : SC Tryz.prog CT 74 [.ptr 0 0, vi .i64 a1, .v (.sl (.int .u8)) (a2 : List Int)] [.box 85 (.agg [.ptr 1 0, .ptr 4 0]), bD 2 3 a0.device, rD a0.device, rP a0.device, bA 5 7 9 11 a0.blocks, bS 6 a0.blocks.sets.1, rS a0.blocks.sets.1, bS 8 a0.blocks.sets.2.1, rS a0.blocks.sets.2.1, bS 10 a0.blocks.sets.2.2.1, rS a0.blocks.sets.2.2.1, bS 12 a0.blocks.sets.2.2.2, rS a0.blocks.sets.2.2.2] (.tup [vi .i64 r.1, vi .i64 r.2.1]) [.box 85 (.agg [.ptr 1 0, .ptr 4 0]), bD 2 3 r.2.2.device, rD r.2.2.device, rP r.2.2.device, bA 5 7 9 11 r.2.2.blocks, bS 6 r.2.2.blocks.sets.1, rS r.2.2.blocks.sets.1, bS 8 r.2.2.blocks.sets.2.1, rS r.2.2.blocks.sets.2.1, bS 10 r.2.2.blocks.sets.2.2.1, rS r.2.2.blocks.sets.2.2.1, bS 12 r.2.2.blocks.sets.2.2.2, rS r.2.2.blocks.sets.2.2.2] := by
 unfold shadow_Store_written.f at h
 refine sq Tryz.func74 r (fun r => .tup [vi .i64 r.1, vi .i64 r.2.1]) (fun r => [.box 85 (.agg [.ptr 1 0, .ptr 4 0]), bD 2 3 r.2.2.device, rD r.2.2.device, rP r.2.2.device, bA 5 7 9 11 r.2.2.blocks, bS 6 r.2.2.blocks.sets.1, rS r.2.2.blocks.sets.1, bS 8 r.2.2.blocks.sets.2.1, rS r.2.2.blocks.sets.2.1, bS 10 r.2.2.blocks.sets.2.2.1, rS r.2.2.blocks.sets.2.2.1, bS 12 r.2.2.blocks.sets.2.2.2, rS r.2.2.blocks.sets.2.2.2]) fun X => ?_
 refine bk h fun t1 k2 h => ?_
 refine cl4 cok.g (press_Write.sc fu _ _ _ _ k2) (vi .i64 t1.1) [(1, bD 2 3 t1.2), (2, rD t1.2), (3, rP t1.2)] 16 ?_
 refine t_cond cok ?_
 refine bi h (fun c3 h => ?_) (fun c3 h => ?_)
 ·skip
  exact fk h
 exact fk h
def shadow_Store_Make.f (fu : Nat) (a0 : S_shadow_Store) (a1 : List Int) : Option (Int × Int × S_shadow_Store) := (if (!decide ((List.length a1 : Int) = 64)) then some (0, 2, a0) else ((alloc_Alloc_Take.f fu a0.blocks).bind fun t2 => (if (!decide (t2.2.1 = 0)) then some (0, t2.2.1, (⟨a0.device, t2.2.2⟩ : S_shadow_Store)) else ((shadow_Store_written.f fu (⟨a0.device, t2.2.2⟩ : S_shadow_Store) t2.1 a1).bind fun t5 => some (t5.1, t5.2.1, t5.2.2)))))
theorem shadow_Store_Make.sc (fu : Nat) (a0 : S_shadow_Store) (a1 : List Int) (r : Int × Int × S_shadow_Store) (h : shadow_Store_Make.f fu a0 a1 = some r) : SC Tryz.prog CT 47 [.ptr 0 0, .v (.sl (.int .u8)) (a1 : List Int)] [.box 85 (.agg [.ptr 1 0, .ptr 4 0]), bD 2 3 a0.device, rD a0.device, rP a0.device, bA 5 7 9 11 a0.blocks, bS 6 a0.blocks.sets.1, rS a0.blocks.sets.1, bS 8 a0.blocks.sets.2.1, rS a0.blocks.sets.2.1, bS 10 a0.blocks.sets.2.2.1, rS a0.blocks.sets.2.2.1, bS 12 a0.blocks.sets.2.2.2, rS a0.blocks.sets.2.2.2] (.tup [vi .i64 r.1, vi .i64 r.2.1]) [.box 85 (.agg [.ptr 1 0, .ptr 4 0]), bD 2 3 r.2.2.device, rD r.2.2.device, rP r.2.2.device, bA 5 7 9 11 r.2.2.blocks, bS 6 r.2.2.blocks.sets.1, rS r.2.2.blocks.sets.1, bS 8 r.2.2.blocks.sets.2.1, rS r.2.2.blocks.sets.2.1, bS 10 r.2.2.blocks.sets.2.2.1, rS r.2.2.blocks.sets.2.2.1, bS 12 r.2.2.blocks.sets.2.2.2, rS r.2.2.blocks.sets.2.2.2] := by
 unfold shadow_Store_Make.f at h
 refine sq Tryz.func47 r (fun r => .tup [vi .i64 r.1, vi .i64 r.2.1]) (fun r => [.box 85 (.agg [.ptr 1 0, .ptr 4 0]), bD 2 3 r.2.2.device, rD r.2.2.device, rP r.2.2.device, bA 5 7 9 11 r.2.2.blocks, bS 6 r.2.2.blocks.sets.1, rS r.2.2.blocks.sets.1, bS 8 r.2.2.blocks.sets.2.1, rS r.2.2.blocks.sets.2.1, bS 10 r.2.2.blocks.sets.2.2.1, rS r.2.2.blocks.sets.2.2.1, bS 12 r.2.2.blocks.sets.2.2.2, rS r.2.2.blocks.sets.2.2.2]) fun X => ?_
 refine t_cond cok ?_
 refine bi h (fun c1 h => ?_) (fun c1 h => ?_)
 ·skip
  exact fk h
 refine bk h fun t2 k3 h => ?_
 refine cl4 cok.g (alloc_Alloc_Take.sc fu _ _ k3) (.tup [vi .i64 t2.1, vi .i64 t2.2.1]) [(4, bA 5 7 9 11 t2.2.2), (5, bS 6 t2.2.2.sets.1), (6, rS t2.2.2.sets.1), (7, bS 8 t2.2.2.sets.2.1), (8, rS t2.2.2.sets.2.1), (9, bS 10 t2.2.2.sets.2.2.1), (10, rS t2.2.2.sets.2.2.1), (11, bS 12 t2.2.2.sets.2.2.2), (12, rS t2.2.2.sets.2.2.2)] 22 ?_
 refine t_cond cok ?_
 refine bi h (fun c4 h => ?_) (fun c4 h => ?_)
 ·skip
  exact fk h
 refine bk h fun t5 k6 h => ?_
 refine cl4 cok.g (shadow_Store_written.sc fu _ _ _ _ k6) (.tup [vi .i64 t5.1, vi .i64 t5.2.1]) [(0, .box 85 (.agg [.ptr 1 0, .ptr 4 0])), (1, bD 2 3 t5.2.2.device), (2, rD t5.2.2.device), (3, rP t5.2.2.device), (4, bA 5 7 9 11 t5.2.2.blocks), (5, bS 6 t5.2.2.blocks.sets.1), (6, rS t5.2.2.blocks.sets.1), (7, bS 8 t5.2.2.blocks.sets.2.1), (8, rS t5.2.2.blocks.sets.2.1), (9, bS 10 t5.2.2.blocks.sets.2.2.1), (10, rS t5.2.2.blocks.sets.2.2.1), (11, bS 12 t5.2.2.blocks.sets.2.2.2), (12, rS t5.2.2.blocks.sets.2.2.2)] 35 ?_
 exact fk h
def alloc_Alloc_Own.f (fu : Nat) (a0 : S_alloc_Alloc) (a1 : Int) : Option Bool := ((bits_Set_Has.f fu a0.sets.2.2.2 a1).bind fun t1 => (if t1 then ((bits_Set_Has.f fu a0.sets.2.2.1 a1).bind fun t4 => some ((!t4))) else some (false)))
theorem alloc_Alloc_Own.sc (fu : Nat) (a0 : S_alloc_Alloc) (a1 : Int) (r : Bool) (h : alloc_Alloc_Own.f fu a0 a1 = some r) : SC Tryz.prog CT 91 [.ptr 0 0, vi .i64 a1] [bA 1 3 5 7 a0, bS 2 a0.sets.1, rS a0.sets.1, bS 4 a0.sets.2.1, rS a0.sets.2.1, bS 6 a0.sets.2.2.1, rS a0.sets.2.2.1, bS 8 a0.sets.2.2.2, rS a0.sets.2.2.2] (vb r) [bA 1 3 5 7 a0, bS 2 a0.sets.1, rS a0.sets.1, bS 4 a0.sets.2.1, rS a0.sets.2.1, bS 6 a0.sets.2.2.1, rS a0.sets.2.2.1, bS 8 a0.sets.2.2.2, rS a0.sets.2.2.2] := by
 unfold alloc_Alloc_Own.f at h
 refine sq Tryz.func91 r (fun r => vb r) (fun r => [bA 1 3 5 7 a0, bS 2 a0.sets.1, rS a0.sets.1, bS 4 a0.sets.2.1, rS a0.sets.2.1, bS 6 a0.sets.2.2.1, rS a0.sets.2.2.1, bS 8 a0.sets.2.2.2, rS a0.sets.2.2.2]) fun X => ?_
 refine t_reg cok ?_
 refine ⟨by decide, ?_⟩
 refine bk h fun t1 k2 h => ?_
 refine cl4 cok.g (bits_Set_Has.sc fu _ _ _ k2) (vb t1) [(7, bS 8 a0.sets.2.2.2), (8, rS a0.sets.2.2.2)] 11 ?_
 refine bi h (fun c3 h => ?_) (fun c3 h => ?_)
 ·skip
  refine ⟨by decide, ?_⟩
  refine bk h fun t4 k5 h => ?_
  refine cl4 cok.g (bits_Set_Has.sc fu _ _ _ k5) (vb t4) [(5, bS 6 a0.sets.2.2.1), (6, rS a0.sets.2.2.1)] 13 ?_
  exact fk h
 exact fk h
def alloc_Alloc_Works.f (fu : Nat) (a0 : S_alloc_Alloc) : Option S_bits_Set := ((alloc_copied.f fu a0.sets.2.2.2).bind fun t1 => some (t1))
theorem alloc_Alloc_Works.sc (fu : Nat) (a0 : S_alloc_Alloc) (r : S_bits_Set) (h : alloc_Alloc_Works.f fu a0 = some r) : SC Tryz.prog CT 21 [.ptr 0 0] [bA 1 3 5 7 a0, bS 2 a0.sets.1, rS a0.sets.1, bS 4 a0.sets.2.1, rS a0.sets.2.1, bS 6 a0.sets.2.2.1, rS a0.sets.2.2.1, bS 8 a0.sets.2.2.2, rS a0.sets.2.2.2] (.ptr 9 0) [bA 1 3 5 7 a0, bS 2 a0.sets.1, rS a0.sets.1, bS 4 a0.sets.2.1, rS a0.sets.2.1, bS 6 a0.sets.2.2.1, rS a0.sets.2.2.1, bS 8 a0.sets.2.2.2, rS a0.sets.2.2.2, bS 10 r, rS r] := by
 unfold alloc_Alloc_Works.f at h
 refine sq Tryz.func21 r (fun r => .ptr 9 0) (fun r => [bA 1 3 5 7 a0, bS 2 a0.sets.1, rS a0.sets.1, bS 4 a0.sets.2.1, rS a0.sets.2.1, bS 6 a0.sets.2.2.1, rS a0.sets.2.2.1, bS 8 a0.sets.2.2.2, rS a0.sets.2.2.2, bS 10 r, rS r]) fun X => ?_
 refine ⟨by decide, ?_⟩
 refine bk h fun t1 k2 h => ?_
 refine cl4 cok.g (alloc_copied.sc fu _ _ k2) (.ptr 11 0) [(7, bS 8 a0.sets.2.2.2), (8, rS a0.sets.2.2.2), (11, bS 12 t1), (12, rS t1)] 13 ?_
 exact fk h
def shadow_Store_Turn.f (fu : Nat) (a0 : S_shadow_Store) (a1 : Int) (a2 : List Int) : Option (Int × Int × S_shadow_Store) := (if (!decide ((List.length a2 : Int) = 64)) then some (0, 2, a0) else ((alloc_Alloc_Works.f fu a0.blocks).bind fun t2 => ((bits_Set_Has.f fu t2 a1).bind fun t4 => (if (!t4) then some (0, 2, a0) else ((alloc_Alloc_Own.f fu a0.blocks a1).bind fun t7 => (if t7 then ((shadow_Store_written.f fu a0 a1 a2).bind fun t10 => some (t10.1, t10.2.1, t10.2.2)) else ((shadow_Store_Make.f fu a0 a2).bind fun t12 => (if (!decide (t12.2.1 = 0)) then some (0, t12.2.1, t12.2.2) else ((alloc_Alloc_Give.f fu t12.2.2.blocks a1).bind fun t15 => some (t12.1, t15.1, (⟨t12.2.2.device, t15.2⟩ : S_shadow_Store)))))))))))
theorem shadow_Store_Turn.sc (fu : Nat) (a0 : S_shadow_Store) (a1 : Int) (a2 : List Int) (r : Int × Int × S_shadow_Store) (h : shadow_Store_Turn.f fu a0 a1 a2 = some r) : SC Tryz.prog CT 65 [.ptr 0 0, vi .i64 a1, .v (.sl (.int .u8)) (a2 : List Int)] [.box 85 (.agg [.ptr 1 0, .ptr 4 0]), bD 2 3 a0.device, rD a0.device, rP a0.device, bA 5 7 9 11 a0.blocks, bS 6 a0.blocks.sets.1, rS a0.blocks.sets.1, bS 8 a0.blocks.sets.2.1, rS a0.blocks.sets.2.1, bS 10 a0.blocks.sets.2.2.1, rS a0.blocks.sets.2.2.1, bS 12 a0.blocks.sets.2.2.2, rS a0.blocks.sets.2.2.2] (.tup [vi .i64 r.1, vi .i64 r.2.1]) [.box 85 (.agg [.ptr 1 0, .ptr 4 0]), bD 2 3 r.2.2.device, rD r.2.2.device, rP r.2.2.device, bA 5 7 9 11 r.2.2.blocks, bS 6 r.2.2.blocks.sets.1, rS r.2.2.blocks.sets.1, bS 8 r.2.2.blocks.sets.2.1, rS r.2.2.blocks.sets.2.1, bS 10 r.2.2.blocks.sets.2.2.1, rS r.2.2.blocks.sets.2.2.1, bS 12 r.2.2.blocks.sets.2.2.2, rS r.2.2.blocks.sets.2.2.2] := by
 unfold shadow_Store_Turn.f at h
 refine sq Tryz.func65 r (fun r => .tup [vi .i64 r.1, vi .i64 r.2.1]) (fun r => [.box 85 (.agg [.ptr 1 0, .ptr 4 0]), bD 2 3 r.2.2.device, rD r.2.2.device, rP r.2.2.device, bA 5 7 9 11 r.2.2.blocks, bS 6 r.2.2.blocks.sets.1, rS r.2.2.blocks.sets.1, bS 8 r.2.2.blocks.sets.2.1, rS r.2.2.blocks.sets.2.1, bS 10 r.2.2.blocks.sets.2.2.1, rS r.2.2.blocks.sets.2.2.1, bS 12 r.2.2.blocks.sets.2.2.2, rS r.2.2.blocks.sets.2.2.2]) fun X => ?_
 refine t_reg cok ?_
 refine bi h (fun c1 h => ?_) (fun c1 h => ?_)
 ·skip
  refine t_cond cok ?_
  exact fk h
 refine bk h fun t2 k3 h => ?_
 refine cl4 cok.g (alloc_Alloc_Works.sc fu _ _ k3) (.ptr 22 0) [(4, bA 5 7 9 11 a0.blocks), (5, bS 6 a0.blocks.sets.1), (6, rS a0.blocks.sets.1), (7, bS 8 a0.blocks.sets.2.1), (8, rS a0.blocks.sets.2.1), (9, bS 10 a0.blocks.sets.2.2.1), (10, rS a0.blocks.sets.2.2.1), (11, bS 12 a0.blocks.sets.2.2.2), (12, rS a0.blocks.sets.2.2.2), (22, bS 23 t2), (23, rS t2)] 24 ?_
 refine bk h fun t4 k5 h => ?_
 refine cl4 cok.g (bits_Set_Has.sc fu _ _ _ k5) (vb t4) [(22, bS 23 t2), (23, rS t2)] 26 ?_
 refine t_cond cok ?_
 refine bi h (fun c6 h => ?_) (fun c6 h => ?_)
 ·skip
  exact fk h
 refine bk h fun t7 k8 h => ?_
 refine cl4 cok.g (alloc_Alloc_Own.sc fu _ _ _ k8) (vb t7) [(4, bA 5 7 9 11 a0.blocks), (5, bS 6 a0.blocks.sets.1), (6, rS a0.blocks.sets.1), (7, bS 8 a0.blocks.sets.2.1), (8, rS a0.blocks.sets.2.1), (9, bS 10 a0.blocks.sets.2.2.1), (10, rS a0.blocks.sets.2.2.1), (11, bS 12 a0.blocks.sets.2.2.2), (12, rS a0.blocks.sets.2.2.2)] 35 ?_
 refine t_cond cok ?_
 refine bi h (fun c9 h => ?_) (fun c9 h => ?_)
 ·skip
  refine bk h fun t10 k11 h => ?_
  refine cl4 cok.g (shadow_Store_written.sc fu _ _ _ _ k11) (.tup [vi .i64 t10.1, vi .i64 t10.2.1]) [(0, .box 85 (.agg [.ptr 1 0, .ptr 4 0])), (1, bD 2 3 t10.2.2.device), (2, rD t10.2.2.device), (3, rP t10.2.2.device), (4, bA 5 7 9 11 t10.2.2.blocks), (5, bS 6 t10.2.2.blocks.sets.1), (6, rS t10.2.2.blocks.sets.1), (7, bS 8 t10.2.2.blocks.sets.2.1), (8, rS t10.2.2.blocks.sets.2.1), (9, bS 10 t10.2.2.blocks.sets.2.2.1), (10, rS t10.2.2.blocks.sets.2.2.1), (11, bS 12 t10.2.2.blocks.sets.2.2.2), (12, rS t10.2.2.blocks.sets.2.2.2)] 48 ?_
  exact fk h
 refine bk h fun t12 k13 h => ?_
 refine cl4 cok.g (shadow_Store_Make.sc fu _ _ _ k13) (.tup [vi .i64 t12.1, vi .i64 t12.2.1]) [(0, .box 85 (.agg [.ptr 1 0, .ptr 4 0])), (1, bD 2 3 t12.2.2.device), (2, rD t12.2.2.device), (3, rP t12.2.2.device), (4, bA 5 7 9 11 t12.2.2.blocks), (5, bS 6 t12.2.2.blocks.sets.1), (6, rS t12.2.2.blocks.sets.1), (7, bS 8 t12.2.2.blocks.sets.2.1), (8, rS t12.2.2.blocks.sets.2.1), (9, bS 10 t12.2.2.blocks.sets.2.2.1), (10, rS t12.2.2.blocks.sets.2.2.1), (11, bS 12 t12.2.2.blocks.sets.2.2.2), (12, rS t12.2.2.blocks.sets.2.2.2)] 48 ?_
 refine t_cond cok ?_
 refine bi h (fun c14 h => ?_) (fun c14 h => ?_)
 ·skip
  exact fk h
 refine bk h fun t15 k16 h => ?_
 refine cl4 cok.g (alloc_Alloc_Give.sc fu _ _ _ k16) (vi .i64 t15.1) [(4, bA 5 7 9 11 t15.2), (5, bS 6 t15.2.sets.1), (6, rS t15.2.sets.1), (7, bS 8 t15.2.sets.2.1), (8, rS t15.2.sets.2.1), (9, bS 10 t15.2.sets.2.2.1), (10, rS t15.2.sets.2.2.1), (11, bS 12 t15.2.sets.2.2.2), (12, rS t15.2.sets.2.2.2)] 57 ?_
 exact fk h
def dir_lay.s0 (fu : Nat) (a2 : List S_dir_listed) : (Int × (List Int)) → Option (Sum (List Int) (Int × (List Int))) := fun s4 => (if (decide (s4.1 < (List.length a2 : Int))) then if 0 ≤ s4.1 ∧ s4.1 < (List.length a2 : Int) then if List.length s4.2 + List.length [(ix a2 s4.1).at_] ≤ LIM then some (Sum.inr ((IntKind.i64.wrap (s4.1 + 1)), (s4.2 ++ [(ix a2 s4.1).at_]))) else none else none else some (Sum.inl (s4.2)))
def dir_lay.f (fu : Nat) (a0 : S_shadow_Store) (a1 : Int) (a2 : List S_dir_listed) : Option (Int × Int × S_shadow_Store) := (if (decide ((List.length a2 : Int) = 0)) then ((shadow_Store_Drop.f fu a0 a1).bind fun t2 => some (0, t2.1, t2.2)) else ((loopM (dir_lay.s0 fu a2) fu (0, ([] : List Int))).bind fun e5 => ((label_PutDir.f fu (⟨e5⟩ : S_api_Dir)).bind fun t10 => (if (!t10.2) then some (0, 31, a0) else (if (decide (a1 = 0)) then ((shadow_Store_Make.f fu a0 t10.1).bind fun t14 => some (t14.1, t14.2.1, t14.2.2)) else ((shadow_Store_Turn.f fu a0 a1 t10.1).bind fun t16 => some (t16.1, t16.2.1, t16.2.2)))))))
theorem dir_lay.sc (fu : Nat) (a0 : S_shadow_Store) (a1 : Int) (a2 : List S_dir_listed) (r : Int × Int × S_shadow_Store) (h : dir_lay.f fu a0 a1 a2 = some r) : SC Tryz.prog CT 48 [.ptr 0 0, vi .i64 a1, .v (.sl (.st .S_dir_listed)) (a2 : List S_dir_listed)] [.box 85 (.agg [.ptr 1 0, .ptr 4 0]), bD 2 3 a0.device, rD a0.device, rP a0.device, bA 5 7 9 11 a0.blocks, bS 6 a0.blocks.sets.1, rS a0.blocks.sets.1, bS 8 a0.blocks.sets.2.1, rS a0.blocks.sets.2.1, bS 10 a0.blocks.sets.2.2.1, rS a0.blocks.sets.2.2.1, bS 12 a0.blocks.sets.2.2.2, rS a0.blocks.sets.2.2.2] (.tup [vi .i64 r.1, vi .i64 r.2.1]) [.box 85 (.agg [.ptr 1 0, .ptr 4 0]), bD 2 3 r.2.2.device, rD r.2.2.device, rP r.2.2.device, bA 5 7 9 11 r.2.2.blocks, bS 6 r.2.2.blocks.sets.1, rS r.2.2.blocks.sets.1, bS 8 r.2.2.blocks.sets.2.1, rS r.2.2.blocks.sets.2.1, bS 10 r.2.2.blocks.sets.2.2.1, rS r.2.2.blocks.sets.2.2.1, bS 12 r.2.2.blocks.sets.2.2.2, rS r.2.2.blocks.sets.2.2.2] := by
 unfold dir_lay.f at h
 refine sq Tryz.func48 r (fun r => .tup [vi .i64 r.1, vi .i64 r.2.1]) (fun r => [.box 85 (.agg [.ptr 1 0, .ptr 4 0]), bD 2 3 r.2.2.device, rD r.2.2.device, rP r.2.2.device, bA 5 7 9 11 r.2.2.blocks, bS 6 r.2.2.blocks.sets.1, rS r.2.2.blocks.sets.1, bS 8 r.2.2.blocks.sets.2.1, rS r.2.2.blocks.sets.2.1, bS 10 r.2.2.blocks.sets.2.2.1, rS r.2.2.blocks.sets.2.2.1, bS 12 r.2.2.blocks.sets.2.2.2, rS r.2.2.blocks.sets.2.2.2]) fun X => ?_
 refine t_cond cok ?_
 refine bi h (fun c1 h => ?_) (fun c1 h => ?_)
 ·skip
  refine bk h fun t2 k3 h => ?_
  refine cl4 cok.g (shadow_Store_Drop.sc fu _ _ _ k3) (vi .i64 t2.1) [(0, .box 85 (.agg [.ptr 1 0, .ptr 4 0])), (1, bD 2 3 t2.2.device), (2, rD t2.2.device), (3, rP t2.2.device), (4, bA 5 7 9 11 t2.2.blocks), (5, bS 6 t2.2.blocks.sets.1), (6, rS t2.2.blocks.sets.1), (7, bS 8 t2.2.blocks.sets.2.1), (8, rS t2.2.blocks.sets.2.1), (9, bS 10 t2.2.blocks.sets.2.2.1), (10, rS t2.2.blocks.sets.2.2.1), (11, bS 12 t2.2.blocks.sets.2.2.2), (12, rS t2.2.blocks.sets.2.2.2)] 26 ?_
  exact fk h
 refine bk h fun e5 l6 h => ?_
 refine t_cutx cok 0 (fun (e5 : (List Int)) => ⟨[(0, .ptr 0 0), (1, vi .i64 a1), (8, .ptr 13 0)], [.box 85 (.agg [.ptr 1 0, .ptr 4 0]), bD 2 3 a0.device, rD a0.device, rP a0.device, bA 5 7 9 11 a0.blocks, bS 6 a0.blocks.sets.1, rS a0.blocks.sets.1, bS 8 a0.blocks.sets.2.1, rS a0.blocks.sets.2.1, bS 10 a0.blocks.sets.2.2.1, rS a0.blocks.sets.2.2.1, bS 12 a0.blocks.sets.2.2.2, rS a0.blocks.sets.2.2.2, .box 121 (.agg [.sl 14 1 []]), .row (.int .i64) 3 (e5 : List Int)]⟩) e5 ?_ ?_
 ·skip
  have h7 := h
  refine t_loop cok (fun (s4 : Int × (List Int)) => ⟨[(0, .ptr 0 0), (1, vi .i64 a1), (8, .ptr 13 0), (19, .v (.sl (.st .S_dir_listed)) (a2 : List S_dir_listed)), (20, vi .i64 (List.length a2 : Int)), (21, vi .i64 s4.1)], [.box 85 (.agg [.ptr 1 0, .ptr 4 0]), bD 2 3 a0.device, rD a0.device, rP a0.device, bA 5 7 9 11 a0.blocks, bS 6 a0.blocks.sets.1, rS a0.blocks.sets.1, bS 8 a0.blocks.sets.2.1, rS a0.blocks.sets.2.1, bS 10 a0.blocks.sets.2.2.1, rS a0.blocks.sets.2.2.1, bS 12 a0.blocks.sets.2.2.2, rS a0.blocks.sets.2.2.2, .box 121 (.agg [.sl 14 1 []]), .row (.int .i64) 3 (s4.2 : List Int)]⟩) l6 (by kernel_rfl) (fun s4 x8 h => ?_)
  unfold dir_lay.s0 at h
  refine t_cond cok ?_
  refine bi h (fun c9 h => ?_) (fun c9 h => ?_)
  ·skip
   refine ag h fun h => ?_
   refine ag h fun h => ?_
   exact lik h
  exact lpx h fun hy => ek (sj hy)
 refine bk h fun t10 k11 h => ?_
 refine cl4 cok.g (label_PutDir.sc fu _ _ k11) (.tup [.sl 15 1 [], vb t10.2]) [(15, .row (.int .u8) 5 (t10.1 : List Int))] 16 ?_
 refine t_cond cok ?_
 refine bi h (fun c12 h => ?_) (fun c12 h => ?_)
 ·skip
  exact fk h
 refine t_cond cok ?_
 refine bi h (fun c13 h => ?_) (fun c13 h => ?_)
 ·skip
  refine bk h fun t14 k15 h => ?_
  refine cl4 cok.g (shadow_Store_Make.sc fu _ _ _ k15) (.tup [vi .i64 t14.1, vi .i64 t14.2.1]) [(0, .box 85 (.agg [.ptr 1 0, .ptr 4 0])), (1, bD 2 3 t14.2.2.device), (2, rD t14.2.2.device), (3, rP t14.2.2.device), (4, bA 5 7 9 11 t14.2.2.blocks), (5, bS 6 t14.2.2.blocks.sets.1), (6, rS t14.2.2.blocks.sets.1), (7, bS 8 t14.2.2.blocks.sets.2.1), (8, rS t14.2.2.blocks.sets.2.1), (9, bS 10 t14.2.2.blocks.sets.2.2.1), (10, rS t14.2.2.blocks.sets.2.2.1), (11, bS 12 t14.2.2.blocks.sets.2.2.2), (12, rS t14.2.2.blocks.sets.2.2.2)] 29 ?_
  exact fk h
 refine bk h fun t16 k17 h => ?_
 refine cl4 cok.g (shadow_Store_Turn.sc fu _ _ _ _ k17) (.tup [vi .i64 t16.1, vi .i64 t16.2.1]) [(0, .box 85 (.agg [.ptr 1 0, .ptr 4 0])), (1, bD 2 3 t16.2.2.device), (2, rD t16.2.2.device), (3, rP t16.2.2.device), (4, bA 5 7 9 11 t16.2.2.blocks), (5, bS 6 t16.2.2.blocks.sets.1), (6, rS t16.2.2.blocks.sets.1), (7, bS 8 t16.2.2.blocks.sets.2.1), (8, rS t16.2.2.blocks.sets.2.1), (9, bS 10 t16.2.2.blocks.sets.2.2.1), (10, rS t16.2.2.blocks.sets.2.2.1), (11, bS 12 t16.2.2.blocks.sets.2.2.2), (12, rS t16.2.2.blocks.sets.2.2.2)] 29 ?_
 exact fk h
def label_PutQueue.s0 (fu : Nat) (a0 : S_api_Queue) : ((List Int) × Int) → Option (Sum (List Int) ((List Int) × Int)) := fun s6 => (if (decide (s6.2 < 12)) then if 0 ≤ s6.2 ∧ s6.2 < 12 then ((octet_Lay.f fu (IntKind.u64.wrap (Arr.get a0.Roots s6.2)) 2).bind fun t12 => if List.length s6.1 + List.length t12 ≤ LIM then some (Sum.inr ((s6.1 ++ t12), (IntKind.i64.wrap (s6.2 + 1)))) else none) else none else some (Sum.inl (s6.1)))
def label_PutQueue.f (fu : Nat) (a0 : S_api_Queue) : Option ((List Int) × Bool) := ((label_RightQueue.f fu a0).bind fun t1 => (if (!t1) then some ([], false) else ((octet_Lay.f fu (IntKind.u64.wrap a0.Count) 4).bind fun t4 => ((loopM (label_PutQueue.s0 fu a0) fu (t4, 0)).bind fun e7 => if List.length e7 + List.length a0.Name ≤ LIM then ((block_Seal.f fu 5 (List.length a0.Name : Int) (e7 ++ (List.map ofB a0.Name))).bind fun t14 => some (t14.1, t14.2)) else none))))
theorem label_PutQueue.sc (fu : Nat) (a0 : S_api_Queue) (r : (List Int) × Bool) (h : label_PutQueue.f fu a0 = some r) : SC Tryz.prog CT 46 [.v (.st .S_api_Queue) (a0 : S_api_Queue)] [] (.tup [.sl 0 1 [], vb r.2]) [.row (.int .u8) 5 (r.1 : List Int)] := by
 unfold label_PutQueue.f at h
 refine sq Tryz.func46 r (fun r => .tup [.sl 0 1 [], vb r.2]) (fun r => [.row (.int .u8) 5 (r.1 : List Int)]) fun X => ?_
 refine bk h fun t1 k2 h => ?_
 refine cl4 cok.g (label_RightQueue.sc fu _ _ k2) (vb t1) [] 1 ?_
 refine t_cond cok ?_
 refine bi h (fun c3 h => ?_) (fun c3 h => ?_)
 ·skip
  exact fk h
 refine bk h fun t4 k5 h => ?_
 refine cl4 cok.g (octet_Lay.sc fu _ _ _ k5) (.sl 1 1 []) [(1, .row (.int .u8) 5 (t4 : List Int))] 2 ?_
 refine bk h fun e7 l8 h => ?_
 refine t_cutx cok 0 (fun (e7 : (List Int)) => ⟨[(1, .ptr 0 0), (4, .sl 1 1 [])], [.box 46 (.v (.st .S_api_Queue) (a0 : S_api_Queue)), .row (.int .u8) 5 (e7 : List Int)]⟩) e7 ?_ ?_
 ·skip
  have h9 := h
  refine t_loop cok (fun (s6 : (List Int) × Int) => ⟨[(1, .ptr 0 0), (4, .sl 1 1 []), (15, .v (.arr 12 (.int .i64)) (a0.Roots : Arr 12 Int)), (16, vi .i64 s6.2)], [.box 46 (.v (.st .S_api_Queue) (a0 : S_api_Queue)), .row (.int .u8) 5 (s6.1 : List Int)]⟩) l8 (by kernel_rfl) (fun s6 x10 h => ?_)
  unfold label_PutQueue.s0 at h
  refine t_cond cok ?_
  refine bi h (fun c11 h => ?_) (fun c11 h => ?_)
  ·skip
   refine ag h fun h => ?_
   refine bk h fun t12 k13 h => ?_
   refine cl4 cok.g (octet_Lay.sc fu _ _ _ k13) (.sl 2 1 []) [(2, .row (.int .u8) 5 (t12 : List Int))] 3 ?_
   refine ag h fun h => ?_
   exact lik h
  exact lpx h fun hy => ek (sj hy)
 refine ag h fun h => ?_
 refine bk h fun t14 k15 h => ?_
 refine cl4 cok.g (block_Seal.sc fu _ _ _ _ k15) (.tup [.sl 3 1 [], vb t14.2]) [(3, .row (.int .u8) 5 (t14.1 : List Int))] 4 ?_
 exact fk h
end Go.Proofs.YtdifnahlheogdaaGreatDoor
namespace Go.Yw
open Go Go.Xw
section
variable {P : Program}
theorem run_copy_rowS (w : World) (dT sT ty elem : TypeId) (g o dLen dCap s k : Nat) (a : Addr) (sLen sCap : Nat) (cur : Array Value) (t : TypeId) (cs : List Value)
    (hu : P.underlying dT = some (.slice elem)) (hs : (P.info? elem).map (·.size) = some s)
    (hg : w.heap[g]? = some (.cells cur t (0, 0))) (hk : Nat.min sLen dLen = k) (hn : cs.length = k * s)
    (hsrc : ∀ j v, cs[j]? = some v → w.cell? (a.add j) = some v) (hfit : o + cs.length ≤ cur.size) (h1 : ∀ v ∈ cs, v.oneCell' = true) :
    (Builtin.copy_ #[dT, sT] ty #[.slice (some ⟨g, o, none⟩) dLen dCap, .slice (some a) sLen sCap]).run P w =
      .ok (goInt k) (w.setRow g (cur.toList.take o ++ cs ++ cur.toList.drop (o + cs.length)).toArray) := by
  have hl := run_loadCells_list (P := P) w a cs hsrc
  have hst := run_storeCells_at P g o t cs 0 cur w hg (by simpa using hfit) h1
  cases hq : P.info? elem with
  | none => simp [hq] at hs
  | some i =>
    have hi : i.size = s := by simpa [hq] using hs
    simp [Builtin.copy_, run_underlying hu, Builtin.lenOf, Builtin.firstCells, sizeOf, typeInfo, hq, hi, hk, ← hn, hl, hst]
theorem run_append_zeros_grow (w : World) (t tn ty e : TypeId) (i : TypeInfo) (z : Value) (k kn : IntKind) (ht : P.underlying t = some (.slice e)) (htn : P.underlying tn = some (.int kn)) (hi : P.info? e = some i) (hz : i.zero = some z)
    (g o sLen sCap n : Nat) (olds : List Value) (hold : olds.length = sLen * i.size) (hsrc : ∀ j v, olds[j]? = some v → w.cell? ((⟨g, o, none⟩ : Addr).add j) = some v) (hg : sCap < sLen + n) (hs : 0 < i.size) (h0 : 0 < n) (h63 : ((sLen + n : Nat) : Int) ≤ 4294967296 * 2) (h48 : n * i.bytes ≤ 281474976710656) (hfit : Builtin.nextslicecap (sLen + n) sCap * i.bytes ≤ 281474976710656) :
    (Builtin.append_ #[t, tn] ty #[.slice (some ⟨g, o, none⟩) sLen sCap, .int k n]).run P w =
      .ok (.slice (some ⟨w.heap.size, 0, none⟩) (sLen + n) (grownCap w (sLen + n) sCap e)) (w.drew.alloc (.cells (olds.toArray ++ (Builtin.zeroCells z.cells n ++ Builtin.zeroCells z.cells (grownCap w (sLen + n) sCap e - (sLen + n)))) e)) := by
  have hn : ¬ (sLen + n ≤ sCap) := by omega
  have hw : IntKind.i64.wrap (n : Int) = n := by rw [IntKind.wrap_i64]; omega
  have h63' : ¬ (9223372036854775807 < ((sLen : Int) + (n : Int))) := by omega
  have h48' : ¬ (281474976710656 < Builtin.nextslicecap (sLen + n) sCap * i.bytes) := by omega
  have h48i : ¬ (281474976710656 < (n : Int) * (i.bytes : Int)) := by
    rw [← Int.natCast_mul]
    omega
  have hneg : ¬ ((n : Int) < 0) := by omega
  have hns : ¬ (n * i.size = 0) := Nat.mul_ne_zero (by omega) (by omega)
  have hl := run_loadCells_list (P := P) w.drew ⟨g, o, none⟩ olds hsrc
  have hold2 : (Builtin.firstCells i.size sLen (.slice (some ⟨g, o, none⟩) sLen sCap)).run P w.drew = .ok olds.toArray w.drew := by
    rw [hold] at hl
    simpa [Builtin.firstCells] using hl
  simp [Builtin.append_, run_underlying ht, run_underlying htn, sizeOf, typeInfo, zeroValue, hi, hz, asInt, asIntOf, hw, hn, hneg, hns, h63', h48', h48i, Question.forced, hold2, newRow, grownCap]
theorem step_copy_runJ {ops : Array Oper} {o : Oper} {a : Act} {w : World} {K : Act → World → Prop} {Q : Exit → Act → World → Prop} {E : Prop}
    (hg : o.guard = none) (d x : Operand) (dT sT : TypeId) (hop : o.op = Op.call { callee := Callee.builtin Builtin.copy, args := #[d, x], argTypes := #[dT, sT] })
    (v u : Value) (hd : a.eval d = v) (hx : a.eval x = u) {v' : Value} {w' : World} (hr : (Builtin.copy_ #[dT, sT] o.type #[v, u]).run P w = .ok v' w') (hK : K (a.put o.dst v') w') :
    if Region.wanted o (yielded ops a.tmps) = true then Oper.wp P o a w K Q else E := by
  have hw : Region.wanted o (yielded ops a.tmps) = true := by simp [Region.wanted, hg]
  rw [if_pos hw]
  unfold Oper.wp
  simp [execOp, hop, resolve, invoke, builtin, hd, hx, hr, Result.andThen]
  exact hK
theorem wpList_copy_runJ (w : World) {ops : Array Oper} {rest : List Oper} {o : Oper} {a : Act} {Q : Exit → Act → World → Prop} (hgd : o.guard = none) (d s : Operand) (t t' : TypeId)
    (ho : o.op = .call { callee := .builtin .copy, args := #[d, s], argTypes := #[t, t'] }) (v u : Value) (hd : a.eval d = v) (hs : a.eval s = u) {v' : Value} {w' : World}
    (hr : (Builtin.copy_ #[t, t'] o.type #[v, u]).run P w = .ok v' w') (h : wpList P ops Q rest (a.put o.dst v') w') : wpList P ops Q (o :: rest) a w :=
  wpList_plain hgd fun _ hK => by
    unfold Oper.wp execOp
    simp only [ho, resolve, invoke, builtin, Sem.run_bind, Sem.run_pure, Result.andThen_ok, List.map_toArray, List.map_cons, List.map_nil, hd, hs, hr]
    exact hK _ _ h
structure InsW (P : Program) (f : FuncId) (T E : TypeId) (s : Nat) : Prop where
  shift : ∀ (b n c i vb vc : Nat) (w W1 W2 : World) (cur curx : Array Value), i < n → n + 1 ≤ c → c ≤ 9223372036854775807 → n ≤ 4294967296 → vb ≠ b → w.heap[b]? = some (.cells cur E (0, 0)) → w.heap[vb]? = some (.cells curx E (0, 0)) → cur.size ≠ 0 →
    (∀ ty dc sc, (Builtin.copy_ #[T, T] ty #[.slice (some ⟨b, (i + 1) * s, none⟩) (n - i) dc, .slice (some ⟨b, i * s, none⟩) (n + 1 - i) sc]).run P w.drew = .ok (goInt (n - i : Nat)) W1) →
    (∀ ty dc, (Builtin.copy_ #[T, T] ty #[.slice (some ⟨b, i * s, none⟩) (n + 1 - i) dc, .slice (some ⟨vb, 0, none⟩) 1 vc]).run P W1 = .ok (goInt 1) W2) →
    Calls P f #[.slice (some ⟨b, 0, none⟩) n c, .int .i64 i, .slice (some ⟨vb, 0, none⟩) 1 vc] w fun e w' => e = .returned (.slice (some ⟨b, 0, none⟩) (n + 1) c) ∧ w' = W2
  grow : ∀ (b n c i vb vc g' c' : Nat) (w W0 W1 W2 : World), i < n → n ≤ c → c < n + 1 → c ≤ 9223372036854775807 → n ≤ 4294967296 → n + 1 ≤ c' → c' ≤ 9223372036854775807 →
    (∀ ty, (Builtin.append_ #[T, 3] ty #[.slice (some ⟨b, 0, none⟩) i c, .int .i64 ((n : Int) + 1 - i)]).run P w = .ok (.slice (some ⟨g', 0, none⟩) (n + 1) c') W0) →
    (∀ ty dc, (Builtin.copy_ #[T, T] ty #[.slice (some ⟨g', i * s, none⟩) (n + 1 - i) dc, .slice (some ⟨vb, 0, none⟩) 1 vc]).run P W0 = .ok (goInt 1) W1) →
    (∀ ty dc sc, (Builtin.copy_ #[T, T] ty #[.slice (some ⟨g', (i + 1) * s, none⟩) (n - i) dc, .slice (some ⟨b, i * s, none⟩) (n - i) sc]).run P W1.drew = .ok (goInt (n - i : Nat)) W2) →
    Calls P f #[.slice (some ⟨b, 0, none⟩) n c, .int .i64 i, .slice (some ⟨vb, 0, none⟩) 1 vc] w fun e w' => e = .returned (.slice (some ⟨g', 0, none⟩) (n + 1) c') ∧ w' = W2
  fin : ∀ (v v' : Value) (A : Option Addr) (n c vb vc : Nat) (w W2 : World), v = .slice A n c → n ≤ c → c ≤ 9223372036854775807 → n ≤ 4294967296 →
    (∀ ty, (Builtin.append_ #[T, T] ty #[v, .slice (some ⟨vb, 0, none⟩) 1 vc]).run P w = .ok v' W2) →
    Calls P f #[v, .int .i64 n, .slice (some ⟨vb, 0, none⟩) 1 vc] w fun e w' => e = .returned v' ∧ w' = W2
structure DelW (P : Program) (f : FuncId) (T : TypeId) (s : Nat) : Prop where
  one : ∀ (b n c i : Nat) (w : World) (A : Addr) (W1 W2 : World), i < n → n ≤ c → c ≤ 9223372036854775807 → n ≤ 4294967296 →
    (if c = i + 1 then some (⟨b, 0, none⟩ : Addr) else some ⟨b, (i + 1) * s, none⟩) = some A →
    (∀ ty, (Builtin.append_ #[T, T] ty #[.slice (some ⟨b, 0, none⟩) i c, .slice (some A) (n - (i + 1)) (c - (i + 1))]).run P w.drew = .ok (.slice (some ⟨b, 0, none⟩) (n - 1) c) W1) →
    (∀ ty, (Builtin.clear_ #[T] ty #[.slice (some ⟨b, (n - 1) * s, none⟩) 1 (c - (n - 1))]).run P W1 = .ok (.tuple #[]) W2) →
    Calls P f #[.slice (some ⟨b, 0, none⟩) n c, .int .i64 i, .int .i64 ((i : Int) + 1)] w fun e w' => e = .returned (.slice (some ⟨b, 0, none⟩) (n - 1) c) ∧ w' = W2
theorem ck_split {s : Nat} (l : List (Ck s)) (i : Nat) : l.flatMap (kC s).enc = (l.take i).flatMap (kC s).enc ++ (l.drop i).flatMap (kC s).enc := by rw [← List.flatMap_append, List.take_append_drop]
theorem ck_tlen {s : Nat} (l : List (Ck s)) (i : Nat) (hi : i ≤ l.length) : ((l.take i).flatMap (kC s).enc).length = i * s := by
  rw [len_flat, List.length_take, Nat.min_eq_left hi]
  rfl
theorem ck_take {s : Nat} (l : List (Ck s)) (i : Nat) (hi : i ≤ l.length) : (l.take i).flatMap (kC s).enc = (l.flatMap (kC s).enc).take (i * s) := by
  have h := ck_tlen l i hi
  rw [ck_split l i, List.take_append_of_le_length (Nat.le_of_eq h.symm), List.take_of_length_le (Nat.le_of_eq h)]
theorem ck_drop {s : Nat} (l : List (Ck s)) (i : Nat) (hi : i ≤ l.length) : (l.drop i).flatMap (kC s).enc = (l.flatMap (kC s).enc).drop (i * s) := by
  have h := ck_tlen l i hi
  rw [ck_split l i, List.drop_append_of_le_length (Nat.le_of_eq h.symm), List.drop_of_length_le (Nat.le_of_eq h), List.nil_append]
theorem gc_ok (w : World) {n c : Nat} (E : TypeId) (h : n ≤ 4294967297) : n ≤ grownCap w n c E ∧ grownCap w n c E ≤ maxLen := ⟨grownCap_ge _ _ _ _, grownCap_le_maxLen _ _ _ _ (by simp only [maxLen]; omega)⟩
theorem own_slot {α : Type} {K : Kd α} {E : TypeId} {w : World} {v : Value} {l : List α} (h : Own K E w 0 v l) (hne : 0 < l.length) : ∃ g cap cur, v = .slice (some ⟨g, 0, none⟩) l.length cap ∧ w.heap[g]? = some (.cells cur E (0, 0)) ∧ l.length ≤ cap ∧ cap ≤ maxLen ∧ cur.size = cap * K.size ∧ cur.toList.take (l.length * K.size) = l.flatMap K.enc := by
  rcases h.2 with ⟨_, h0⟩ | ⟨g, cap, cur, h1, _, h2, h3, h4, h5, h6⟩
  · omega
  · exact ⟨g, cap, cur, h1, h2, h3, h4, h5, h6⟩
theorem cells_of {w : World} {g : Nat} {cur : Array Value} {E : TypeId} {fz : Nat × Nat} (h : w.heap[g]? = some (.cells cur E fz)) {m o : Nat} {xs : List Value} (ht : (cur.toList.drop o).take m = xs) : ∀ j v, xs[j]? = some v → w.cell? ((⟨g, o, none⟩ : Addr).add j) = some v := by
  intro j v hj
  rw [Addr.add_lit]
  unfold World.cell?
  simp only [h]
  rw [← ht, List.getElem?_take] at hj
  split at hj
  · rw [List.getElem?_drop] at hj
    rw [← Array.getElem?_toList]
    exact hj
  · cases hj
theorem ins_own {f : FuncId} {T E : TypeId} {s bs : Nat} {zv : Value} (hW : InsW P f T E s) (hT : P.underlying T = some (.slice E)) (hU : P.underlying 3 = some (.int .i64)) (hE : elB P E = some (some zv, s, bs)) (hz : zv.cells.size = s) (hs : 0 < s) (hbs : Nat.ble bs 32768 = true)
    {w : World} {v vx : Value} {css : List (Ck s)} {cx : Ck s} (hv : Own (kC s) E w 0 v css) (hx : Own (kC s) E w 0 vx [cx]) (hne : ∀ g, v.ownBlock = some g → vx.ownBlock ≠ some g) {i : Nat} (hi : i ≤ css.length) (hlim : css.length + 1 ≤ LIM) :
    Calls P f #[v, .int .i64 i, vx] w fun e w' => ∃ v', e = .returned v' ∧ AppR (kC s) E 0 w v (css.take i ++ cx :: css.drop i) v' w' := by
  have ks : (kC s).size = s := rfl
  obtain ⟨inf, hinf, hinz, hins, hinb⟩ := elB_parts hE
  unfold LIM at hlim
  obtain ⟨vb, vc, curx, rfl, hbx, hcx, hmx, hsx, htx⟩ := own_slot hx (by simp)
  simp only [List.length_singleton, Nat.one_mul, ks, List.flatMap_cons, List.flatMap_nil, List.append_nil] at hcx hsx htx ⊢
  have hxl : cx.1.length = s := cx.2.1
  rcases Nat.eq_or_lt_of_le hi with he | hlt
  · subst he
    obtain ⟨v', w', hrun, hR⟩ := hv.append (P := P) (T := T) hx.rd 0 hT hE hz hs hbs (by unfold LIM; simpa using hlim) (Nat.zero_le _)
    obtain ⟨A, c, hve, hnc, hcm⟩ : ∃ A c, v = .slice A css.length c ∧ css.length ≤ c ∧ c ≤ 9223372036854775807 := by
      rcases hv.2 with ⟨rfl, h0⟩ | ⟨g, cap, cur, h1, _, h2, h3, h4, h5, h6⟩
      · exact ⟨none, 0, by rw [h0], by omega, by omega⟩
      · exact ⟨_, cap, h1, h3, by simp only [maxLen] at h4; omega⟩
    refine (hW.fin v v' A css.length c vb vc w w' hve hnc hcm (by omega) (fun ty => hrun)).mono ?_
    rintro e w'' ⟨rfl, rfl⟩
    refine ⟨v', rfl, ?_⟩
    rw [List.take_length, List.drop_length]
    exact hR
  · obtain ⟨g, cap, cur, rfl, hb, hcap, hmax, hcs, htk⟩ := own_slot hv (by omega)
    rw [ks] at hcs htk
    generalize hn : css.length = n at *
    generalize hF : css.flatMap (kC s).enc = F at *
    have hFl : F.length = n * s := by rw [← hF, len_flat, hn]; rfl
    have hcs' : cur.toList.length = cap * s := by simpa using hcs
    have hne' : vb ≠ g := fun e => hne g rfl (by rw [← e]; rfl)
    have e1 : i * s + (n - i) * s = n * s := by rw [← Nat.add_mul]; congr 1; omega
    have e2 : (i + 1) * s + (n - i) * s = (n + 1) * s := by rw [← Nat.add_mul]; congr 1; omega
    have e3 : (i + 1) * s = i * s + s := by rw [Nat.add_mul, Nat.one_mul]
    have hdl : (F.drop (i * s)).length = (n - i) * s := by rw [List.length_drop, hFl]; omega
    have hFc : ∀ {o m : Nat}, o + m ≤ n * s → (cur.toList.drop o).take m = (F.drop o).take m := fun {o m} h => by
      rw [← htk, List.drop_take, List.take_take, Nat.min_eq_left (by omega)]
    have hFd : (F.drop (i * s)).take ((n - i) * s) = F.drop (i * s) := List.take_of_length_le (by omega)
    have hinfs : (P.info? E).map (·.size) = some s := by rw [hinf]; simpa using hins
    have hFone : ∀ v ∈ F, v.oneCell' = true := by rw [← hF]; exact one_flat _ _
    have hout : ∀ {c2 : List Value}, (c2.take (i * s) = F.take (i * s)) → ((c2.drop (i * s)).take s = cx.1) → ((c2.drop ((i + 1) * s)).take ((n - i) * s) = F.drop (i * s)) → c2.take ((n + 1) * s) = (css.take i ++ cx :: css.drop i).flatMap (kC s).enc := fun {c2} h1 h2 h3 => by
      rw [List.flatMap_append, List.flatMap_cons, ck_take _ _ (by omega), ck_drop _ _ (by omega), hF]
      rw [← e2, List.take_add, e3, List.take_add, h1, h2, ← e3, h3, List.append_assoc]
      rfl
    by_cases hroom : n + 1 ≤ cap
    · have hcapm : (n + 1) * s ≤ cap * s := Nat.mul_le_mul_right _ hroom
      have hd : w.drew.heap[g]? = some (.cells cur E (0, 0)) := hb
      have hcp1 := fun ty dc sc => run_copy_rowS (P := P) w.drew T T ty E g ((i + 1) * s) (n - i) dc s (n - i) ⟨g, i * s, none⟩ (n + 1 - i) sc cur E (F.drop (i * s)) hT hinfs hd (by simp only [Nat.min_def]; split <;> omega) hdl
        (cells_of (m := (n - i) * s) hd (by rw [hFc (by omega), hFd])) (by rw [hdl, hcs]; omega) (fun v hv => hFone v (List.mem_of_mem_drop hv))
      rw [hdl] at hcp1
      generalize hC1 : cur.toList.take ((i + 1) * s) ++ F.drop (i * s) ++ cur.toList.drop ((i + 1) * s + (n - i) * s) = C1 at hcp1
      have hC1l : C1.length = cap * s := by rw [← hC1]; simp only [List.length_append, List.length_take, List.length_drop, hFl, hcs']; omega
      have hb1 : (w.drew.setRow g C1.toArray).heap[g]? = some (.cells C1.toArray E (0, 0)) := setRow_heap _ g cur _ E _ hd
      have hbx1 : (w.drew.setRow g C1.toArray).heap[vb]? = some (.cells curx E (0, 0)) := (setRow_other _ g vb _ hne').trans hbx
      have hcp2 := fun ty dc => run_copy_rowS (P := P) (w.drew.setRow g C1.toArray) T T ty E g (i * s) (n + 1 - i) dc s 1 ⟨vb, 0, none⟩ 1 vc C1.toArray E cx.1 hT hinfs hb1 (by simp only [Nat.min_def]; split <;> omega) (by rw [Nat.one_mul]; exact hxl)
        (cells_of (m := s) hbx1 (by rw [List.drop_zero]; exact htx)) (by simp only [List.size_toArray, hC1l, hxl]; omega) cx.2.2
      rw [hxl] at hcp2
      generalize hC2 : C1.toArray.toList.take (i * s) ++ cx.1 ++ C1.toArray.toList.drop (i * s + s) = C2 at hcp2
      simp only at hC2
      have hC2l : C2.length = cap * s := by rw [← hC2]; simp only [List.length_append, List.length_take, List.length_drop, hC1l, hxl]; omega
      have hc63 : cap ≤ 9223372036854775807 := by simp only [maxLen] at hmax; omega
      refine (hW.shift g n cap i vb vc w _ _ cur curx hlt hroom hc63 (by omega) hne' hb hbx (by rw [hcs]; exact Nat.mul_ne_zero (by omega) (by omega)) hcp1 hcp2).mono ?_
      rintro e w' ⟨rfl, rfl⟩
      have hb2 := setRow_heap (w.drew.setRow g C1.toArray) g C1.toArray C2.toArray E _ hb1
      refine ⟨_, rfl, ⟨?_, .inr ⟨g, cap, _, by simp [hn]; omega, Nat.zero_le _, hb2, ?_, hmax, ?_, ?_⟩⟩, ⟨rfl, rfl, rfl, by simp, fun k hk hn' => ?_⟩, fun g' hg' h => h⟩
      · rw [len_flat]
      · simp only [List.length_append, List.length_take, List.length_cons, List.length_drop, hn]; omega
      · rw [ks]; simpa using hC2l
      · rw [ks]
        simp only [List.length_append, List.length_take, List.length_cons, List.length_drop, hn]
        rw [show min i n + (n - i + 1) = n + 1 by omega]
        have l1 : (F.take (i * s)).length = i * s := by rw [List.length_take, hFl]; omega
        have hC1a : C1.take (i * s) = F.take (i * s) := by rw [← hC1, List.append_assoc, List.take_append_of_le_length (by rw [List.length_take, hcs']; omega), List.take_take, Nat.min_eq_left (by omega), ← htk, List.take_take, Nat.min_eq_left (by omega)]
        have hC1b : C1.drop (i * s + s) = F.drop (i * s) ++ cur.toList.drop ((i + 1) * s + (n - i) * s) := by rw [← e3, ← hC1, List.append_assoc, List.drop_append_of_le_length (by rw [List.length_take, hcs']; omega), List.drop_of_length_le (by rw [List.length_take, hcs']; omega), List.nil_append]
        have hC2' : C2 = F.take (i * s) ++ (cx.1 ++ (F.drop (i * s) ++ cur.toList.drop ((i + 1) * s + (n - i) * s))) := by rw [← hC2, hC1a, hC1b, List.append_assoc]
        refine hout ?_ ?_ ?_
        · rw [hC2', List.take_append_of_le_length (by omega), List.take_take, Nat.min_self]
        · rw [hC2', List.drop_append_of_le_length (by omega), List.drop_of_length_le (by omega), List.nil_append, List.take_append_of_le_length (by omega), List.take_of_length_le (by omega)]
        · rw [hC2', ← List.append_assoc, List.drop_append_of_le_length (by rw [List.length_append, l1, hxl]; omega), List.drop_of_length_le (by rw [List.length_append, l1, hxl]; omega), List.nil_append, List.take_append_of_le_length (by omega), hFd]
      · have : k ≠ g := fun e => hn' (by rw [e]; rfl)
        rw [setRow_other _ g k _ this, setRow_other _ g k _ this]
        rfl
    · have hcn : cap = n := by omega
      have hbi : (n + 1 - i) * inf.bytes ≤ 281474976710656 := by
        rw [hinb]
        have := Nat.mul_le_mul (show n + 1 - i ≤ 4294967297 by omega) (Nat.le_of_ble_eq_true hbs)
        omega
      have hfit : Builtin.nextslicecap (i + (n + 1 - i)) cap * inf.bytes ≤ 281474976710656 := by
        rw [hinb]
        refine growslice_fits (by omega) ?_
        have := Nat.mul_le_mul (show i + (n + 1 - i) ≤ 4294967296 by omega) (Nat.le_of_ble_eq_true hbs)
        omega
      have hFi : (F.take (i * s)).length = i * inf.size := by rw [hins, List.length_take, hFl]; omega
      have hap := fun ty => run_append_zeros_grow (P := P) w T 3 ty E inf zv .i64 .i64 hT hU hinf hinz g 0 i cap (n + 1 - i) (F.take (i * s)) hFi (cells_of (m := i * s) hb (by rw [List.drop_zero, ← htk, List.take_take, Nat.min_eq_left (by omega)])) (by omega) (by omega) (by omega) (by omega) hbi hfit
      rw [show i + (n + 1 - i) = n + 1 by omega, show (((n + 1 - i : Nat)) : Int) = (n : Int) + 1 - i by omega] at hap
      have hgc := gc_ok w (n := n + 1) (c := cap) E (by omega)
      generalize grownCap w (n + 1) cap E = c' at hap hgc
      have hzz : ∀ k, (Builtin.zeroCells zv.cells k).size = k * s := fun k => by rw [size_zeroCells, hz]
      generalize hC0 : (F.take (i * s)).toArray ++ (Builtin.zeroCells zv.cells (n + 1 - i) ++ Builtin.zeroCells zv.cells (c' - (n + 1))) = C0 at hap
      have hC0l : C0.toList.length = c' * s := by
        have : C0.size = i * s + ((n + 1 - i) * s + (c' - (n + 1)) * s) := by rw [← hC0, Array.size_append, Array.size_append, hzz, hzz, List.size_toArray, hFi, hins]
        rw [Array.length_toList, this, ← Nat.add_mul, ← Nat.add_mul]
        congr 1
        have := hgc.1
        omega
      have hC0t : C0.toList.take (i * s) = F.take (i * s) := by
        rw [← hC0]
        simp only [Array.toList_append]
        rw [List.take_append_of_le_length (by rw [hFi, hins]; exact Nat.le_refl _), List.take_take, Nat.min_self]
      have hwa : (w.drew.alloc (.cells C0 E)).heap[w.heap.size]? = some (.cells C0 E (0, 0)) := heap_alloc_new w.drew _
      have hlt' : ∀ k, k < w.heap.size → (w.drew.alloc (.cells C0 E)).heap[k]? = w.heap[k]? := fun k hk => heap_alloc_old w.drew _ hk
      have hgl : g < w.heap.size := (Array.getElem?_eq_some_iff.1 hb).1
      have hvl : vb < w.heap.size := (Array.getElem?_eq_some_iff.1 hbx).1
      have hcm : (n + 1) * s ≤ c' * s := Nat.mul_le_mul_right _ hgc.1
      generalize hW0 : w.drew.alloc (.cells C0 E) = W0 at *
      obtain ⟨G, hG⟩ : ∃ G, G = w.heap.size := ⟨_, rfl⟩
      rw [← hG] at hwa hap hgl hvl
      have hcp1 := fun ty dc => run_copy_rowS (P := P) W0 T T ty E G (i * s) (n + 1 - i) dc s 1 ⟨vb, 0, none⟩ 1 vc C0 E cx.1 hT hinfs hwa (by simp only [Nat.min_def]; split <;> omega) (by rw [Nat.one_mul]; exact hxl)
        (cells_of (m := s) ((hlt' vb (by omega)).trans hbx) (by rw [List.drop_zero]; exact htx)) (by rw [← Array.length_toList, hC0l, hxl]; omega) cx.2.2
      rw [hxl] at hcp1
      generalize hC1 : C0.toList.take (i * s) ++ cx.1 ++ C0.toList.drop (i * s + s) = C1 at hcp1
      have hC1l : C1.length = c' * s := by rw [← hC1]; simp only [List.length_append, List.length_take, List.length_drop, hC0l, hxl]; omega
      have hb1 : (W0.setRow G C1.toArray).drew.heap[G]? = some (.cells C1.toArray E (0, 0)) := setRow_heap _ G C0 _ E _ hwa
      have hb1o : ∀ k, k < G → (W0.setRow G C1.toArray).drew.heap[k]? = w.heap[k]? := fun k hk => (setRow_other _ G k _ (by omega)).trans (hlt' k (by omega))
      have hcp2 := fun ty dc sc => run_copy_rowS (P := P) (W0.setRow G C1.toArray).drew T T ty E G ((i + 1) * s) (n - i) dc s (n - i) ⟨g, i * s, none⟩ (n - i) sc C1.toArray E (F.drop (i * s)) hT hinfs hb1 (by simp) hdl
        (cells_of (m := (n - i) * s) ((hb1o g hgl).trans hb) (by rw [hFc (by omega), hFd])) (by rw [hdl, List.size_toArray, hC1l]; omega) (fun v hv => hFone v (List.mem_of_mem_drop hv))
      rw [hdl] at hcp2
      generalize hC2 : C1.toArray.toList.take ((i + 1) * s) ++ F.drop (i * s) ++ C1.toArray.toList.drop ((i + 1) * s + (n - i) * s) = C2 at hcp2
      simp only at hC2
      have hC2l : C2.length = c' * s := by rw [← hC2]; simp only [List.length_append, List.length_take, List.length_drop, hC1l, hdl]; omega
      have hc63 : cap ≤ 9223372036854775807 := by omega
      have hc63' : c' ≤ 9223372036854775807 := by have := hgc.2; simp only [maxLen] at this; omega
      refine (hW.grow g n cap i vb vc G c' w _ _ _ hlt hcap (by omega) hc63 (by omega) hgc.1 hc63' hap hcp1 hcp2).mono ?_
      rintro e w' ⟨rfl, rfl⟩
      have hb2 := setRow_heap (W0.setRow G C1.toArray).drew G C1.toArray C2.toArray E _ hb1
      have hsz : W0.heap.size = w.heap.size + 1 := by rw [← hW0]; simp
      refine ⟨_, rfl, ⟨?_, .inr ⟨G, c', _, by simp [hn]; omega, Nat.zero_le _, hb2, ?_, hgc.2, ?_, ?_⟩⟩, ⟨by rw [← hW0]; rfl, by rw [← hW0]; rfl, by rw [← hW0]; rfl, ?_, fun k hk hn' => ?_⟩, fun g' hg' h => ?_⟩
      · rw [len_flat]
      · simp only [List.length_append, List.length_take, List.length_cons, List.length_drop, hn]; omega
      · rw [ks]; simpa using hC2l
      · rw [ks]
        simp only [List.length_append, List.length_take, List.length_cons, List.length_drop, hn]
        rw [show min i n + (n - i + 1) = n + 1 by omega]
        have hC1d : C1.take ((i + 1) * s) = F.take (i * s) ++ cx.1 := by
          rw [← hC1, e3, ← hC0t]
          exact List.take_left' (by rw [List.length_append, List.length_take, hxl, hC0l]; omega)
        have hC2' : C2 = (F.take (i * s) ++ cx.1) ++ (F.drop (i * s) ++ C1.drop ((i + 1) * s + (n - i) * s)) := by rw [← hC2, ← hC1d, List.append_assoc]
        have l1 : (F.take (i * s)).length = i * s := by rw [List.length_take, hFl]; omega
        refine hout ?_ ?_ ?_
        · rw [hC2', List.append_assoc, List.take_append_of_le_length (by omega), List.take_take, Nat.min_self]
        · rw [hC2', List.append_assoc, List.drop_append_of_le_length (by omega), List.drop_of_length_le (by omega), List.nil_append, List.take_append_of_le_length (by omega), List.take_of_length_le (by omega)]
        · rw [hC2', List.drop_append_of_le_length (by rw [List.length_append, l1, hxl]; omega), List.drop_of_length_le (by rw [List.length_append, l1, hxl]; omega), List.nil_append, List.take_append_of_le_length (by omega), hFd]
      · simp only [setRow_size]
        show w.heap.size ≤ (W0.setRow G C1.toArray).heap.size
        rw [setRow_size, hsz]
        omega
      · have : k ≠ G := by omega
        exact (setRow_other _ G k _ this).trans (hb1o k (by omega))
      · intro e
        simp only [Value.ownBlock, Option.some.injEq] at e
        omega
end
section
variable {Γ : Gm} {P : Program} {C : Ct Γ} {w w' : World} {F : Nat → Prop} {β : Bt}
theorem lk_gone {n k : Nat} {q r : Res Γ} (h : lk (List.replicate n .gone ++ [q]) k = some r) : r = .gone ∨ k = n ∧ r = q := by
  unfold lk at h
  rcases Nat.lt_trichotomy k n with hk | hk | hk
  · rw [List.getElem?_append_left (by simpa using hk), List.getElem?_replicate, if_pos hk] at h
    cases h
    exact .inl rfl
  · subst hk
    rw [List.getElem?_append_right (by simp)] at h
    simp at h
    exact .inr ⟨rfl, h.symm⟩
  · rw [List.getElem?_eq_none (by simp; omega)] at h
    cases h
theorem left_row {A : List (SV Γ)} {R : List (Res Γ)} (hs : HS C β F w (lk R)) (hn : ∀ b, R.length ≤ b → β b = none) {t : Ty Γ.S} {E : TypeId} {v u : Value} {css : List (Ck (sz Γ t))} {l : List (el Γ.toSg t)} {n : Nat}
    (h0 : ∀ g, v.ownBlock = some g → ∃ b, own β (lk R) b g) (hR : AppR (kC (sz Γ t)) E 0 w v css u w') (hk : CK w F t l css) :
    Left C (st0 A R) β F w (.sl R.length n []) (st0 [] (List.replicate R.length .gone ++ [.row t E l])) u w' := by
  obtain ⟨hO, fr, hoff⟩ := hR
  have same : ∀ k, F k → w'.heap[k]? = w.heap[k]? := fun k hk => fr.blk k (hs.fsz k hk) (fun h => by obtain ⟨b, hb⟩ := h0 k h.symm; exact hs.dis b k hb hk)
  have hub : ∀ g, blk u = some g → (∃ b, own β (lk R) b g) ∨ w.heap.size ≤ g := fun g hg => by
    have hg' := blk_ob (own_slice hO) hg
    rcases Nat.lt_or_ge g w.heap.size with h | h
    · by_cases e : v.ownBlock = some g
      · exact .inl (h0 g e)
      · exact absurd hg' (hoff g h e)
    · exact .inr h
  have hβ : ∀ r v1 (k : Nat), lk (List.replicate R.length .gone ++ [.row t E l]) k = some r → mtb r = true → (fun b => if b = R.length then some u else β b) k = some v1 → k = R.length ∧ v1 = u := fun r v1 k a b c => by
    rcases lk_gone a with rfl | ⟨rfl, rfl⟩
    · cases b
    · simp at c
      exact ⟨rfl, c.symm⟩
  refine ⟨fun b => if b = R.length then some u else β b, F, ⟨fun k v1 hk => ?_, fun _ h => h, fr.mono fun j hj => h0 j hj.symm, fun _ h => .inl h⟩, ⟨fun k r hk' => ?_, fun k k' g h1 h2 => ?_, fun k g h1 => ?_, fun k hk => Nat.lt_of_lt_of_le (hs.fsz k hk) fr.size, ?_⟩, fun k hk => ?_, vr_sl (by simp) (own_slice hO), fun k g h1 => ?_⟩
  · have : k ≠ R.length := fun e => by rw [hn k (by omega)] at hk; cases hk
    simpa [this] using hk
  · rcases lk_gone hk' with rfl | ⟨rfl, rfl⟩
    · trivial
    · exact ⟨u, css, by simp, hO, hk.mono (fun _ h => h) same⟩
  · obtain ⟨r1, v1, a1, b1, c1, d1⟩ := h1
    obtain ⟨r2, v2, a2, b2, c2, d2⟩ := h2
    rw [(hβ _ _ _ a1 b1 c1).1, (hβ _ _ _ a2 b2 c2).1]
  · obtain ⟨r1, v1, a1, b1, c1, d1⟩ := h1
    obtain ⟨_, rfl⟩ := hβ _ _ _ a1 b1 c1
    intro hF
    rcases hub g d1 with ⟨b, hb⟩ | h
    · exact hs.dis b g hb hF
    · exact absurd (hs.fsz g hF) (by omega)
  · exact gl_mono (s := st0 A R) (β' := β) hs (fun _ h => h) same
  · have hk' : R.length + 1 ≤ k := by simpa [st0] using hk
    have : k ≠ R.length := by omega
    simp only [this, if_false]
    exact hn k (by omega)
  · obtain ⟨r1, v1, a1, b1, c1, d1⟩ := h1
    obtain ⟨_, rfl⟩ := hβ _ _ _ a1 b1 c1
    exact hub g d1
def rowB (P : Program) (E : TypeId) (n : Nat) : Bool := match P.info? E with
  | some i => match i.zero with
    | some z => Nat.beq z.cells.size n && z.cells.toList.all (·.oneCell') && Nat.beq i.size n && Nat.ble i.bytes 32768
    | none => false
  | none => false
theorem rowB_ok {E : TypeId} {n : Nat} (h : rowB P E n = true) : ∃ zv bs, elB P E = some (some zv, n, bs) ∧ zv.cells.size = n ∧ zv.cells.toList.all (·.oneCell') = true ∧ Nat.ble bs 32768 = true := by
  unfold rowB at h
  split at h
  · rename_i i hi
    split at h
    · rename_i z hz
      simp only [Bool.and_eq_true] at h
      obtain ⟨⟨⟨h1, h2⟩, h3⟩, h4⟩ := h
      refine ⟨z, i.bytes, ?_, Nat.eq_of_beq_eq_true h1, h2, h4⟩
      unfold elB
      rw [hi, Option.map_some, hz, Nat.eq_of_beq_eq_true h3]
    · cases h
  · cases h
theorem sc_ins {f : FuncId} {T E : TypeId} {t : Ty Γ.S} (hcal : calB P f = some true) (hW : InsW P f T E (sz Γ t)) (hT : P.underlying T = some (.slice E)) (hU : P.underlying 3 = some (.int .i64)) (hB : rowB P E (sz Γ t) = true) (hp : Nat.blt 0 (sz Γ t) = true)
    {l m : List (el Γ.toSg t)} {i : Int} (h0 : 0 ≤ i ∧ i ≤ (l.length : Int)) (hm : m.length = 1) (hlim : l.length + 1 ≤ LIM) :
    SC P C f [.sl 0 (sz Γ t) [], .v (.int .i64) i, .sl 1 (sz Γ t) []] [.row t E l, .row t E m] (.sl 2 (sz Γ t) []) [.gone, .gone, .row t E (l.take i.toNat ++ (m ++ l.drop i.toNat))] := by
  obtain ⟨zv, bs, hE, hz, hz1, hbs⟩ := rowB_ok hB
  match m, hm with
  | [x], _ =>
  refine ⟨hcal, fun β F w us hs hn hu => ?_⟩
  obtain ⟨u0, r, rfl, h1, hr⟩ := hu.cons_inv
  obtain ⟨u1, r', rfl, h2, hr'⟩ := hr.cons_inv
  obtain ⟨u2, r'', rfl, h3, hr''⟩ := hr'.cons_inv
  cases hr''
  obtain ⟨v0, e0, _, hv⟩ := h1.sl
  have hv : u0 = v0 := hv
  subst hv
  obtain ⟨v2, e2, _, hv⟩ := h3.sl
  have hv : u2 = v2 := hv
  subst hv
  have h2 := h2.int
  subst h2
  obtain ⟨v, css, e1, hO, hK⟩ := hs.rr 0 _ rfl
  rw [e0] at e1
  cases e1
  obtain ⟨v, csx, e1, hOx, hKx⟩ := hs.rr 1 _ rfl
  rw [e2] at e1
  cases e1
  cases hKx with
  | @cons _ cx _ css' hcx hnil =>
  cases hnil
  have hlen := hK.len
  obtain ⟨k, rfl⟩ := Int.eq_ofNat_of_zero_le h0.1
  have ow : ∀ {b : Nat} {v g}, b < 2 → β b = some v → v.ownBlock = some g → own β (lk [(.row t E l : Res Γ), .row t E [x]]) b g := fun {b v g} hb h1 h2 => by
    match b, hb with
    | 0, _ => exact ⟨_, _, rfl, rfl, h1, by cases v <;> simp [Value.ownBlock] at h2; rename_i a _ _; cases a <;> simp at h2; simp [blk, h2]⟩
    | 1, _ => exact ⟨_, _, rfl, rfl, h1, by cases v <;> simp [Value.ownBlock] at h2; rename_i a _ _; cases a <;> simp at h2; simp [blk, h2]⟩
  refine Calls.mono (ins_own (i := k) hW hT hU hE hz (by simpa [Nat.blt_eq] using hp) hbs hO hOx (fun g h1 h2 => absurd (hs.sep 0 1 g (ow (by omega) e0 h1) (ow (by omega) e2 h2)) (by decide)) (by omega) (by omega)) ?_
  rintro e w' ⟨v', rfl, hR⟩
  refine ⟨v', rfl, ?_⟩
  have hk2 : CK w F t (l.take k ++ (x :: l.drop k)) (css.take k ++ cx :: css.drop k) := (hK.take k).append (.cons hcx (hK.drop k))
  exact left_row (R := [.row t E l, .row t E [x]]) hs hn (fun g h => ⟨0, ow (by omega) e0 h⟩) hR hk2
end
end Go.Yw
namespace Go.Proofs.YtdifnahlheogdaaGreatDoor
open Go Go.Xw Go.Yw
theorem slices_Insert.shift (b n c i vb vc : Nat) (w W1 W2 : World) (cur curx : Array Value) (hi : i < n) (hroom : n + 1 ≤ c) (hc63 : c ≤ 9223372036854775807) (hn : n ≤ 4294967296) (hvb : vb ≠ b) (hb : w.heap[b]? = some (.cells cur 90 (0, 0))) (hx : w.heap[vb]? = some (.cells curx 90 (0, 0))) (hz : cur.size ≠ 0)
  (hcp1 : ∀ ty dc sc, (Builtin.copy_ #[86, 86] ty #[.slice (some ⟨b, (i + 1) * 15, none⟩) (n - i) dc, .slice (some ⟨b, i * 15, none⟩) (n + 1 - i) sc]).run Tryz.prog w.drew = .ok (goInt (n - i : Nat)) W1)
  (hcp2 : ∀ ty dc, (Builtin.copy_ #[86, 86] ty #[.slice (some ⟨b, i * 15, none⟩) (n + 1 - i) dc, .slice (some ⟨vb, 0, none⟩) 1 vc]).run Tryz.prog W1 = .ok (goInt 1) W2) :
  Calls Tryz.prog 49 #[.slice (some ⟨b, 0, none⟩) n c, .int .i64 i, .slice (some ⟨vb, 0, none⟩) 1 vc] w fun e w' => e = .returned (.slice (some ⟨b, 0, none⟩) (n + 1) c) ∧ w' = W2 := by
 have hov : ∀ lb cb, (callFunc 76 #[.slice (some ⟨vb, 0, none⟩) 1 vc, .slice (some ⟨b, (i + 1) * 15, none⟩) lb cb]).run Tryz.prog w = .ok (.value (.bool false)) w := fun lb cb => by
  rw [run_callFunc_extern Tryz.func76 (by kernel_rfl) (by kernel_rfl) (by kernel_rfl) (e := Extern.SlicesOverlaps.overlaps #[86, 86] #[4]) (by kernel_rfl),
   Lib.run_overlaps_apart w 86 4 90 Tryz.underlying86 15 Tryz.sizeOf90 ⟨vb, 0, none⟩ ⟨b, (i + 1) * 15, none⟩ 1 vc lb cb hvb 90 90 curx.size cur.size (by simp [World.shape?, hx]) (by simp [World.shape?, hb]) hz (by simp [World.frozen?, hx]) (by simp [World.frozen?, hx])]
  rfl
 have hz2 : ¬ ((i : Int) = (n : Int)) := by omega
 have hw1 : IntKind.i64.wrap ((i : Int) + (1 : Int)) = (i : Int) + (1 : Int) := by rw [IntKind.wrap_i64]; omega
 have hw2 : IntKind.i64.wrap ((n : Int) + (1 : Int)) = (n : Int) + (1 : Int) := by rw [IntKind.wrap_i64]; omega
 have hb1 : (0 : Int) ≤ (i : Int) + (1 : Int) := by omega
 have hin : i ≤ n := by omega
 have htn : ((i : Int) + (1 : Int)).toNat = i + 1 := by omega
 have hb2 : ¬ (c = i + 1) := by omega
 have hb3 : (i : Int) ≤ (n : Int) + (1 : Int) := by omega
 have hb4 : ¬ (c = i) := by omega
 have mixed : Tryz.prog.follows .mixedOrders = true := by kernel_rfl
 go_enter Tryz.func49, Tryz.ntmps49
 go_wp2_with (simp only [hov])
 go_region_law_o (refine step_copy_runJ rfl _ _ 86 86 rfl _ _ (by simp [Act.eval, Act.put]) (by simp [Act.eval, Act.put]) (hcp1 _ _ _) ?_)
 go_wp2_with (at_builtin; refine wpList_copy_runJ _ rfl _ _ 86 86 rfl _ _ rfl rfl (hcp2 _ _) ?_)
 go_ret
 exact ⟨rfl, rfl⟩
theorem slices_Insert.grow (b n c i vb vc g' c' : Nat) (w W0 W1 W2 : World) (hi : i < n) (hnc : n ≤ c) (hroom : c < n + 1) (hc63 : c ≤ 9223372036854775807) (hn : n ≤ 4294967296) (hgc : n + 1 ≤ c') (hc63' : c' ≤ 9223372036854775807)
 (hap : ∀ ty, (Builtin.append_ #[86, 3] ty #[.slice (some ⟨b, 0, none⟩) i c, .int .i64 ((n : Int) + 1 - i)]).run Tryz.prog w = .ok (.slice (some ⟨g', 0, none⟩) (n + 1) c') W0)
 (hcp1 : ∀ ty dc, (Builtin.copy_ #[86, 86] ty #[.slice (some ⟨g', i * 15, none⟩) (n + 1 - i) dc, .slice (some ⟨vb, 0, none⟩) 1 vc]).run Tryz.prog W0 = .ok (goInt 1) W1)
 (hcp2 : ∀ ty dc sc, (Builtin.copy_ #[86, 86] ty #[.slice (some ⟨g', (i + 1) * 15, none⟩) (n - i) dc, .slice (some ⟨b, i * 15, none⟩) (n - i) sc]).run Tryz.prog W1.drew = .ok (goInt (n - i : Nat)) W2) :
  Calls Tryz.prog 49 #[.slice (some ⟨b, 0, none⟩) n c, .int .i64 i, .slice (some ⟨vb, 0, none⟩) 1 vc] w fun e w' =>
   e = .returned (.slice (some ⟨g', 0, none⟩) (n + 1) c') ∧ w' = W2 := by
 have hz2 : ¬ ((i : Int) = (n : Int)) := by omega
 have hw1 : IntKind.i64.wrap ((i : Int) + (1 : Int)) = (i : Int) + (1 : Int) := by rw [IntKind.wrap_i64]; omega
 have hw2 : IntKind.i64.wrap ((n : Int) + (1 : Int)) = (n : Int) + (1 : Int) := by rw [IntKind.wrap_i64]; omega
 have hw3 : IntKind.i64.wrap ((n : Int) + (1 : Int) - (i : Int)) = (n : Int) + (1 : Int) - (i : Int) := by rw [IntKind.wrap_i64]; omega
 have hb1 : (0 : Int) ≤ (i : Int) + (1 : Int) := by omega
 have hin : i ≤ n := by omega
 have htn : ((i : Int) + (1 : Int)).toNat = i + 1 := by omega
 have hb2 : ¬ (c' = i + 1) := by omega
 have hb3 : (i : Int) ≤ (n : Int) + (1 : Int) := by omega
 have hb4 : ¬ (c = i) := by omega
 have hb5 : ¬ (c' = i) := by omega
 have mixed : Tryz.prog.follows .mixedOrders = true := by kernel_rfl
 go_enter Tryz.func49, Tryz.ntmps49
 go_wp2_with (at_builtin; first | refine Lib.wpList_append_run _ rfl _ _ _ _ rfl _ _ rfl rfl _ _ (hap _) ?_ | refine wpList_copy_runJ _ rfl _ _ 86 86 rfl _ _ rfl rfl (hcp1 _ _) ?_)
 go_region_law_o (refine step_copy_runJ rfl _ _ 86 86 rfl _ _ (by simp [Act.eval, Act.put]) (by simp [Act.eval, Act.put]) (hcp2 _ _ _) ?_)
 go_wp2
 go_ret
 exact ⟨rfl, rfl⟩
theorem slices_Insert.fin (v v' : Value) (A : Option Addr) (n c vb vc : Nat) (w W2 : World) (hv : v = .slice A n c) (hnc : n ≤ c) (hc63 : c ≤ 9223372036854775807) (hn : n ≤ 4294967296)
 (hap : ∀ ty, (Builtin.append_ #[86, 86] ty #[v, .slice (some ⟨vb, 0, none⟩) 1 vc]).run Tryz.prog w = .ok v' W2) :
  Calls Tryz.prog 49 #[v, .int .i64 n, .slice (some ⟨vb, 0, none⟩) 1 vc] w fun e w' => e = .returned v' ∧ w' = W2 := by
 subst hv
 have mixed : Tryz.prog.follows .mixedOrders = true := by kernel_rfl
 go_enter Tryz.func49, Tryz.ntmps49
 cases A with
 | none =>
  go_wp2_with (at_builtin; refine Lib.wpList_append_run _ rfl _ _ _ _ rfl _ _ rfl rfl _ _ (hap _) ?_)
  go_ret
  exact ⟨rfl, rfl⟩
 | some a =>
  obtain ⟨ab, ao, asp⟩ := a
  go_wp2_with (at_builtin; refine Lib.wpList_append_run _ rfl _ _ _ _ rfl _ _ rfl rfl _ _ (hap _) ?_)
  all_goals (go_ret; exact ⟨rfl, rfl⟩)
theorem slices_Insert.ins : InsW Tryz.prog 49 86 90 15 := ⟨slices_Insert.shift, slices_Insert.grow, slices_Insert.fin⟩
def slices_Insert.f (fu : Nat) (a0 : List S_dir_listed) (a1 : Int) (a2 : List S_dir_listed) : Option (List S_dir_listed) := if (0 ≤ a1 ∧ a1 ≤ (List.length a0 : Int)) ∧ List.length a2 = 1 ∧ List.length a0 + 1 ≤ LIM then some (a0.take a1.toNat ++ (a2 ++ a0.drop a1.toNat)) else none
theorem slices_Insert.sc (fu : Nat) (a0 : List S_dir_listed) (a1 : Int) (a2 : List S_dir_listed) (r : List S_dir_listed) (h : slices_Insert.f fu a0 a1 a2 = some r) : SC Tryz.prog CT 49 [.sl 0 15 [], vi .i64 a1, .sl 1 15 []] [.row (.st .S_dir_listed) 90 (a0 : List S_dir_listed), .row (.st .S_dir_listed) 90 (a2 : List S_dir_listed)] (.sl 2 15 []) [.gone, .gone, .row (.st .S_dir_listed) 90 (r : List S_dir_listed)] := by
 unfold slices_Insert.f at h
 obtain ⟨g, h⟩ := gs h
 cases h
 exact sc_ins (Γ := G) (t := .st .S_dir_listed) (by kernel_rfl) slices_Insert.ins Tryz.underlying86 Tryz.underlying3 (by kernel_rfl) (by kernel_rfl) g.1 g.2.1 g.2.2
def dir_Add.f (fu : Nat) (a0 : S_shadow_Store) (a1 : Int) (a2 : List UInt8) : Option (Int × Int × S_shadow_Store) := ((dir_read.f fu a0 a1).bind fun t1 => (if (!decide (t1.2 = 0)) then some (0, t1.2, a0) else ((label_PutQueue.f fu (⟨a2, (0 : Int), (Arr.rep 12 (0 : Int))⟩ : S_api_Queue)).bind fun t4 => (if (!t4.2) then some (0, 14, a0) else ((dir_place.f fu t1.1 a2).bind fun t7 => (if t7.2 then some (0, 16, a0) else (if (decide ((List.length t1.1 : Int) = 16)) then some (0, 20, a0) else ((shadow_Store_Make.f fu a0 t4.1).bind fun t11 => (if (!decide (t11.2.1 = 0)) then some (0, t11.2.1, t11.2.2) else ((slices_Insert.f fu t1.1 t7.1 [(⟨(⟨a2, (0 : Int), (Arr.rep 12 (0 : Int))⟩ : S_api_Queue), t11.1⟩ : S_dir_listed)]).bind fun t14 => ((dir_lay.f fu t11.2.2 a1 t14).bind fun t16 => some (t16.1, t16.2.1, t16.2.2))))))))))))
theorem dir_Add.sc (fu : Nat) (a0 : S_shadow_Store) (a1 : Int) (a2 : List UInt8) (r : Int × Int × S_shadow_Store) (h : dir_Add.f fu a0 a1 a2 = some r) : SC Tryz.prog CT 23 [.ptr 0 0, vi .i64 a1, vs a2] [.box 85 (.agg [.ptr 1 0, .ptr 4 0]), bD 2 3 a0.device, rD a0.device, rP a0.device, bA 5 7 9 11 a0.blocks, bS 6 a0.blocks.sets.1, rS a0.blocks.sets.1, bS 8 a0.blocks.sets.2.1, rS a0.blocks.sets.2.1, bS 10 a0.blocks.sets.2.2.1, rS a0.blocks.sets.2.2.1, bS 12 a0.blocks.sets.2.2.2, rS a0.blocks.sets.2.2.2] (.tup [vi .i64 r.1, vi .i64 r.2.1]) [.box 85 (.agg [.ptr 1 0, .ptr 4 0]), bD 2 3 r.2.2.device, rD r.2.2.device, rP r.2.2.device, bA 5 7 9 11 r.2.2.blocks, bS 6 r.2.2.blocks.sets.1, rS r.2.2.blocks.sets.1, bS 8 r.2.2.blocks.sets.2.1, rS r.2.2.blocks.sets.2.1, bS 10 r.2.2.blocks.sets.2.2.1, rS r.2.2.blocks.sets.2.2.1, bS 12 r.2.2.blocks.sets.2.2.2, rS r.2.2.blocks.sets.2.2.2] := by
 unfold dir_Add.f at h
 refine sq Tryz.func23 r (fun r => .tup [vi .i64 r.1, vi .i64 r.2.1]) (fun r => [.box 85 (.agg [.ptr 1 0, .ptr 4 0]), bD 2 3 r.2.2.device, rD r.2.2.device, rP r.2.2.device, bA 5 7 9 11 r.2.2.blocks, bS 6 r.2.2.blocks.sets.1, rS r.2.2.blocks.sets.1, bS 8 r.2.2.blocks.sets.2.1, rS r.2.2.blocks.sets.2.1, bS 10 r.2.2.blocks.sets.2.2.1, rS r.2.2.blocks.sets.2.2.1, bS 12 r.2.2.blocks.sets.2.2.2, rS r.2.2.blocks.sets.2.2.2]) fun X => ?_
 refine bk h fun t1 k2 h => ?_
 refine cl4 cok.g (dir_read.sc fu _ _ _ k2) (.tup [.sl 26 15 [], vi .i64 t1.2]) [(0, .box 85 (.agg [.ptr 1 0, .ptr 4 0])), (1, bD 2 3 a0.device), (2, rD a0.device), (3, rP a0.device), (4, bA 5 7 9 11 a0.blocks), (5, bS 6 a0.blocks.sets.1), (6, rS a0.blocks.sets.1), (7, bS 8 a0.blocks.sets.2.1), (8, rS a0.blocks.sets.2.1), (9, bS 10 a0.blocks.sets.2.2.1), (10, rS a0.blocks.sets.2.2.1), (11, bS 12 a0.blocks.sets.2.2.2), (12, rS a0.blocks.sets.2.2.2), (26, .row (.st .S_dir_listed) 90 (t1.1 : List S_dir_listed))] 27 ?_
 refine t_cond cok ?_
 refine bi h (fun c3 h => ?_) (fun c3 h => ?_)
 ·skip
  exact fk h
 refine bk h fun t4 k5 h => ?_
 refine cl4 cok.g (label_PutQueue.sc fu _ _ k5) (.tup [.sl 28 1 [], vb t4.2]) [(28, .row (.int .u8) 5 (t4.1 : List Int))] 29 ?_
 refine t_cond cok ?_
 refine bi h (fun c6 h => ?_) (fun c6 h => ?_)
 ·skip
  exact fk h
 refine bk h fun t7 k8 h => ?_
 refine cl4 cok.g (dir_place.sc fu _ _ _ k8) (.tup [vi .i64 t7.1, vb t7.2]) [] 29 ?_
 refine t_cond cok ?_
 refine bi h (fun c9 h => ?_) (fun c9 h => ?_)
 ·skip
  exact fk h
 refine t_cond cok ?_
 refine bi h (fun c10 h => ?_) (fun c10 h => ?_)
 ·skip
  exact fk h
 refine bk h fun t11 k12 h => ?_
 refine cl4 cok.g (shadow_Store_Make.sc fu _ _ _ k12) (.tup [vi .i64 t11.1, vi .i64 t11.2.1]) [(0, .box 85 (.agg [.ptr 1 0, .ptr 4 0])), (1, bD 2 3 t11.2.2.device), (2, rD t11.2.2.device), (3, rP t11.2.2.device), (4, bA 5 7 9 11 t11.2.2.blocks), (5, bS 6 t11.2.2.blocks.sets.1), (6, rS t11.2.2.blocks.sets.1), (7, bS 8 t11.2.2.blocks.sets.2.1), (8, rS t11.2.2.blocks.sets.2.1), (9, bS 10 t11.2.2.blocks.sets.2.2.1), (10, rS t11.2.2.blocks.sets.2.2.1), (11, bS 12 t11.2.2.blocks.sets.2.2.2), (12, rS t11.2.2.blocks.sets.2.2.2)] 42 ?_
 refine t_cond cok ?_
 refine bi h (fun c13 h => ?_) (fun c13 h => ?_)
 ·skip
  exact fk h
 refine bk h fun t14 k15 h => ?_
 refine cl4 cok.g (slices_Insert.sc fu _ _ _ _ k15) (.sl 45 15 []) [(26, .gone), (42, .gone), (45, .row (.st .S_dir_listed) 90 (t14 : List S_dir_listed))] 46 ?_
 refine bk h fun t16 k17 h => ?_
 refine cl4 cok.g (dir_lay.sc fu _ _ _ _ k17) (.tup [vi .i64 t16.1, vi .i64 t16.2.1]) [(0, .box 85 (.agg [.ptr 1 0, .ptr 4 0])), (1, bD 2 3 t16.2.2.device), (2, rD t16.2.2.device), (3, rP t16.2.2.device), (4, bA 5 7 9 11 t16.2.2.blocks), (5, bS 6 t16.2.2.blocks.sets.1), (6, rS t16.2.2.blocks.sets.1), (7, bS 8 t16.2.2.blocks.sets.2.1), (8, rS t16.2.2.blocks.sets.2.1), (9, bS 10 t16.2.2.blocks.sets.2.2.1), (10, rS t16.2.2.blocks.sets.2.2.1), (11, bS 12 t16.2.2.blocks.sets.2.2.2), (12, rS t16.2.2.blocks.sets.2.2.2)] 59 ?_
 exact fk h
def pmem_New.f (fu : Nat) (a0 : Int) : Option ((Option S_pmem_Device) × Int) := (if (decide (a0 < 0)) then some (none, 2) else (if (decide (a0 > 4096)) then some (none, 2) else if 0 ≤ (IntKind.i64.wrap (a0 * 8)) ∧ Int.toNat (IntKind.i64.wrap (a0 * 8)) ≤ LIM then some ((some (⟨(List.replicate (Int.toNat (IntKind.i64.wrap (a0 * 8))) (⟨(0 : Int), (0 : Int), (0 : Int), false⟩ : S_pmem_cell)), (⟨[], (0 : Int)⟩ : S_pmem_plan), false, false, (0 : Int), (0 : Int)⟩ : S_pmem_Device)), 0) else none))
theorem pmem_New.sc (fu : Nat) (a0 : Int) (r : (Option S_pmem_Device) × Int) (h : pmem_New.f fu a0 = some r) : SC Tryz.prog CT 35 [vi .i64 a0] [] (Option.elim r.1 (.tup [.nilp, vi .i64 r.2]) (fun o0 => .tup [.ptr 0 0, vi .i64 r.2])) (Option.elim r.1 ([]) (fun o0 => [bD 1 2 o0, rD o0, rP o0])) := by
 unfold pmem_New.f at h
 refine sq Tryz.func35 r (fun r => Option.elim r.1 (.tup [.nilp, vi .i64 r.2]) (fun o0 => .tup [.ptr 0 0, vi .i64 r.2])) (fun r => Option.elim r.1 ([]) (fun o0 => [bD 1 2 o0, rD o0, rP o0])) fun X => ?_
 refine t_reg cok ?_
 refine bi h (fun c1 h => ?_) (fun c1 h => ?_)
 ·skip
  refine t_cond cok ?_
  exact fk h
 refine t_cond cok ?_
 refine bi h (fun c2 h => ?_) (fun c2 h => ?_)
 ·skip
  exact fk h
 refine agL h rfl fun h => ?_
 exact fk h
theorem pmem_New.scn (fu : Nat) (a0 : Int) (r : (Option S_pmem_Device) × Int) (h : pmem_New.f fu a0 = some r) (q0 : r.1 = none) : SC Tryz.prog CT 35 [vi .i64 a0] [] (.tup [.nilp, vi .i64 r.2]) [] := by
 have k := pmem_New.sc fu a0 r h
 rw [q0] at k
 exact k
theorem pmem_New.scs (fu : Nat) (a0 : Int) (r : (Option S_pmem_Device) × Int) (h : pmem_New.f fu a0 = some r) (o0 : S_pmem_Device) (q0 : r.1 = some o0) : SC Tryz.prog CT 35 [vi .i64 a0] [] (.tup [.ptr 0 0, vi .i64 r.2]) [bD 1 2 o0, rD o0, rP o0] := by
 have k := pmem_New.sc fu a0 r h
 rw [q0] at k
 exact k
def shadow_New.f (fu : Nat) (a0 : S_pmem_Device) (a1 : S_alloc_Alloc) : Option ((Option S_shadow_Store) × Int) := ((alloc_Alloc_Works.f fu a1).bind fun t1 => ((bits_Set_Size.f fu t1).bind fun t3 => ((pmem_Device_Lines.f fu a0).bind fun t5 => (if (decide (t3 > t5)) then some (none, 2) else some ((some (⟨a0, a1⟩ : S_shadow_Store)), 0)))))
theorem shadow_New.sc (fu : Nat) (a0 : S_pmem_Device) (a1 : S_alloc_Alloc) (r : (Option S_shadow_Store) × Int) (h : shadow_New.f fu a0 a1 = some r) : SC Tryz.prog CT 10 [.ptr 0 0, .ptr 3 0] [bD 1 2 a0, rD a0, rP a0, bA 4 6 8 10 a1, bS 5 a1.sets.1, rS a1.sets.1, bS 7 a1.sets.2.1, rS a1.sets.2.1, bS 9 a1.sets.2.2.1, rS a1.sets.2.2.1, bS 11 a1.sets.2.2.2, rS a1.sets.2.2.2] (Option.elim r.1 (.tup [.nilp, vi .i64 r.2]) (fun o0 => .tup [.ptr 12 0, vi .i64 r.2])) (Option.elim r.1 ([bD 1 2 a0, rD a0, rP a0, bA 4 6 8 10 a1, bS 5 a1.sets.1, rS a1.sets.1, bS 7 a1.sets.2.1, rS a1.sets.2.1, bS 9 a1.sets.2.2.1, rS a1.sets.2.2.1, bS 11 a1.sets.2.2.2, rS a1.sets.2.2.2]) (fun o0 => [bD 1 2 a0, rD a0, rP a0, bA 4 6 8 10 a1, bS 5 a1.sets.1, rS a1.sets.1, bS 7 a1.sets.2.1, rS a1.sets.2.1, bS 9 a1.sets.2.2.1, rS a1.sets.2.2.1, bS 11 a1.sets.2.2.2, rS a1.sets.2.2.2, .box 85 (.agg [.ptr 0 0, .ptr 3 0])])) := by
 unfold shadow_New.f at h
 refine sq Tryz.func10 r (fun r => Option.elim r.1 (.tup [.nilp, vi .i64 r.2]) (fun o0 => .tup [.ptr 12 0, vi .i64 r.2])) (fun r => Option.elim r.1 ([bD 1 2 a0, rD a0, rP a0, bA 4 6 8 10 a1, bS 5 a1.sets.1, rS a1.sets.1, bS 7 a1.sets.2.1, rS a1.sets.2.1, bS 9 a1.sets.2.2.1, rS a1.sets.2.2.1, bS 11 a1.sets.2.2.2, rS a1.sets.2.2.2]) (fun o0 => [bD 1 2 a0, rD a0, rP a0, bA 4 6 8 10 a1, bS 5 a1.sets.1, rS a1.sets.1, bS 7 a1.sets.2.1, rS a1.sets.2.1, bS 9 a1.sets.2.2.1, rS a1.sets.2.2.1, bS 11 a1.sets.2.2.2, rS a1.sets.2.2.2, .box 85 (.agg [.ptr 0 0, .ptr 3 0])])) fun X => ?_
 refine t_reg cok ?_
 refine t_cond cok ?_
 refine bk h fun t1 k2 h => ?_
 refine cl4 cok.g (alloc_Alloc_Works.sc fu _ _ k2) (.ptr 21 0) [(3, bA 4 6 8 10 a1), (4, bS 5 a1.sets.1), (5, rS a1.sets.1), (6, bS 7 a1.sets.2.1), (7, rS a1.sets.2.1), (8, bS 9 a1.sets.2.2.1), (9, rS a1.sets.2.2.1), (10, bS 11 a1.sets.2.2.2), (11, rS a1.sets.2.2.2), (21, bS 22 t1), (22, rS t1)] 23 ?_
 refine bk h fun t3 k4 h => ?_
 refine cl4 cok.g (bits_Set_Size.sc fu _ _ k4) (vi .i64 t3) [(21, bS 22 t1), (22, rS t1)] 25 ?_
 refine bk h fun t5 k6 h => ?_
 refine cl4 cok.g (pmem_Device_Lines.sc fu _ _ k6) (vi .i64 t5) [(0, bD 1 2 a0), (1, rD a0), (2, rP a0)] 28 ?_
 refine t_cond cok ?_
 refine bi h (fun c7 h => ?_) (fun c7 h => ?_)
 ·skip
  exact fk h
 exact fk h
theorem shadow_New.scn (fu : Nat) (a0 : S_pmem_Device) (a1 : S_alloc_Alloc) (r : (Option S_shadow_Store) × Int) (h : shadow_New.f fu a0 a1 = some r) (q0 : r.1 = none) : SC Tryz.prog CT 10 [.ptr 0 0, .ptr 3 0] [bD 1 2 a0, rD a0, rP a0, bA 4 6 8 10 a1, bS 5 a1.sets.1, rS a1.sets.1, bS 7 a1.sets.2.1, rS a1.sets.2.1, bS 9 a1.sets.2.2.1, rS a1.sets.2.2.1, bS 11 a1.sets.2.2.2, rS a1.sets.2.2.2] (.tup [.nilp, vi .i64 r.2]) [bD 1 2 a0, rD a0, rP a0, bA 4 6 8 10 a1, bS 5 a1.sets.1, rS a1.sets.1, bS 7 a1.sets.2.1, rS a1.sets.2.1, bS 9 a1.sets.2.2.1, rS a1.sets.2.2.1, bS 11 a1.sets.2.2.2, rS a1.sets.2.2.2] := by
 have k := shadow_New.sc fu a0 a1 r h
 rw [q0] at k
 exact k
theorem shadow_New.scs (fu : Nat) (a0 : S_pmem_Device) (a1 : S_alloc_Alloc) (r : (Option S_shadow_Store) × Int) (h : shadow_New.f fu a0 a1 = some r) (o0 : S_shadow_Store) (q0 : r.1 = some o0) : SC Tryz.prog CT 10 [.ptr 0 0, .ptr 3 0] [bD 1 2 a0, rD a0, rP a0, bA 4 6 8 10 a1, bS 5 a1.sets.1, rS a1.sets.1, bS 7 a1.sets.2.1, rS a1.sets.2.1, bS 9 a1.sets.2.2.1, rS a1.sets.2.2.1, bS 11 a1.sets.2.2.2, rS a1.sets.2.2.2] (.tup [.ptr 12 0, vi .i64 r.2]) [bD 1 2 a0, rD a0, rP a0, bA 4 6 8 10 a1, bS 5 a1.sets.1, rS a1.sets.1, bS 7 a1.sets.2.1, rS a1.sets.2.1, bS 9 a1.sets.2.2.1, rS a1.sets.2.2.1, bS 11 a1.sets.2.2.2, rS a1.sets.2.2.2, .box 85 (.agg [.ptr 0 0, .ptr 3 0])] := by
 have k := shadow_New.sc fu a0 a1 r h
 rw [q0] at k
 exact k
def shadow_New_n0.f (fu : Nat) (a1 : S_alloc_Alloc) : Option Int := some (1)
theorem shadow_New_n0.sc (fu : Nat) (a1 : S_alloc_Alloc) (r : Int) (h : shadow_New_n0.f fu a1 = some r) : SC Tryz.prog CT 10 [.nilp, .ptr 0 0] [bA 1 3 5 7 a1, bS 2 a1.sets.1, rS a1.sets.1, bS 4 a1.sets.2.1, rS a1.sets.2.1, bS 6 a1.sets.2.2.1, rS a1.sets.2.2.1, bS 8 a1.sets.2.2.2, rS a1.sets.2.2.2] (.tup [.nilp, vi .i64 r]) [bA 1 3 5 7 a1, bS 2 a1.sets.1, rS a1.sets.1, bS 4 a1.sets.2.1, rS a1.sets.2.1, bS 6 a1.sets.2.2.1, rS a1.sets.2.2.1, bS 8 a1.sets.2.2.2, rS a1.sets.2.2.2] := by
 unfold shadow_New_n0.f at h
 refine sq Tryz.func10 r (fun r => .tup [.nilp, vi .i64 r]) (fun r => [bA 1 3 5 7 a1, bS 2 a1.sets.1, rS a1.sets.1, bS 4 a1.sets.2.1, rS a1.sets.2.1, bS 6 a1.sets.2.2.1, rS a1.sets.2.2.1, bS 8 a1.sets.2.2.2, rS a1.sets.2.2.2]) fun X => ?_
 refine t_reg cok ?_
 refine t_cond cok ?_
 exact fk h
def shadow_New_n0_n1.f (fu : Nat) : Option Int := some (1)
theorem shadow_New_n0_n1.sc (fu : Nat) (r : Int) (h : shadow_New_n0_n1.f fu = some r) : SC Tryz.prog CT 10 [.nilp, .nilp] [] (.tup [.nilp, vi .i64 r]) [] := by
 unfold shadow_New_n0_n1.f at h
 refine sq Tryz.func10 r (fun r => .tup [.nilp, vi .i64 r]) (fun r => []) fun X => ?_
 refine t_reg cok ?_
 refine t_cond cok ?_
 exact fk h
def shadow_New_n1.f (fu : Nat) (a0 : S_pmem_Device) : Option Int := some (1)
theorem shadow_New_n1.sc (fu : Nat) (a0 : S_pmem_Device) (r : Int) (h : shadow_New_n1.f fu a0 = some r) : SC Tryz.prog CT 10 [.ptr 0 0, .nilp] [bD 1 2 a0, rD a0, rP a0] (.tup [.nilp, vi .i64 r]) [bD 1 2 a0, rD a0, rP a0] := by
 unfold shadow_New_n1.f at h
 refine sq Tryz.func10 r (fun r => .tup [.nilp, vi .i64 r]) (fun r => [bD 1 2 a0, rD a0, rP a0]) fun X => ?_
 refine t_reg cok ?_
 refine t_cond cok ?_
 exact fk h
def rickyardlaw19_Made.f (fu : Nat) (a0 : Int) (a1 : Int) : Option ((Option S_shadow_Store) × (Option S_pmem_Device) × (Option S_alloc_Alloc)) := ((pmem_New.f fu a0).bind fun t1 => (Option.elim t1.1 (((bits_Of.f fu a0 [0, 1]).bind fun t5 => ((bits_Of.f fu a0 []).bind fun t7 => ((alloc_New.f fu t5 t7 a1).bind fun t9 => (Option.elim t9.1 (((shadow_New_n0_n1.f fu).bind fun t13 => some (none, none, none))) (fun o11 => ((shadow_New_n0.f fu o11).bind fun t15 => some (none, none, (some o11))))))))) (fun o3 => ((bits_Of.f fu a0 [0, 1]).bind fun t17 => ((bits_Of.f fu a0 []).bind fun t19 => ((alloc_New.f fu t17 t19 a1).bind fun t21 => (Option.elim t21.1 (((shadow_New_n1.f fu o3).bind fun t25 => some (none, (some o3), none))) (fun o23 => ((shadow_New.f fu o3 o23).bind fun t27 => (Option.elim t27.1 (some (none, (some o3), (some o23))) (fun o29 => some ((some (⟨o3, o23⟩ : S_shadow_Store)), (some o3), (some o23)))))))))))))
theorem rickyardlaw19_Made.sc (fu : Nat) (a0 : Int) (a1 : Int) (r : (Option S_shadow_Store) × (Option S_pmem_Device) × (Option S_alloc_Alloc)) (h : rickyardlaw19_Made.f fu a0 a1 = some r) : SC Tryz.prog CT 17 [vi .i64 a0, vi .i64 a1] [] (Option.elim r.1 (Option.elim r.2.1 (Option.elim r.2.2 (.tup [.nilp, .nilp, .nilp]) (fun o2 => .tup [.nilp, .nilp, .ptr 0 0])) (fun o1 => Option.elim r.2.2 (.tup [.nilp, .ptr 0 0, .nilp]) (fun o2 => .tup [.nilp, .ptr 0 0, .ptr 3 0]))) (fun o0 => Option.elim r.2.1 (.undef) (fun o1 => Option.elim r.2.2 (.undef) (fun o2 => .tup [.ptr 12 0, .ptr 0 0, .ptr 3 0])))) (Option.elim r.1 (Option.elim r.2.1 (Option.elim r.2.2 ([]) (fun o2 => [bA 1 3 5 7 o2, bS 2 o2.sets.1, rS o2.sets.1, bS 4 o2.sets.2.1, rS o2.sets.2.1, bS 6 o2.sets.2.2.1, rS o2.sets.2.2.1, bS 8 o2.sets.2.2.2, rS o2.sets.2.2.2])) (fun o1 => Option.elim r.2.2 ([bD 1 2 o1, rD o1, rP o1]) (fun o2 => [bD 1 2 o1, rD o1, rP o1, bA 4 6 8 10 o2, bS 5 o2.sets.1, rS o2.sets.1, bS 7 o2.sets.2.1, rS o2.sets.2.1, bS 9 o2.sets.2.2.1, rS o2.sets.2.2.1, bS 11 o2.sets.2.2.2, rS o2.sets.2.2.2]))) (fun o0 => Option.elim r.2.1 ([]) (fun o1 => Option.elim r.2.2 ([]) (fun o2 => [bD 1 2 o1, rD o1, rP o1, bA 4 6 8 10 o2, bS 5 o2.sets.1, rS o2.sets.1, bS 7 o2.sets.2.1, rS o2.sets.2.1, bS 9 o2.sets.2.2.1, rS o2.sets.2.2.1, bS 11 o2.sets.2.2.2, rS o2.sets.2.2.2, .box 85 (.agg [.ptr 0 0, .ptr 3 0])])))) := by
 unfold rickyardlaw19_Made.f at h
 refine sq Tryz.func17 r (fun r => Option.elim r.1 (Option.elim r.2.1 (Option.elim r.2.2 (.tup [.nilp, .nilp, .nilp]) (fun o2 => .tup [.nilp, .nilp, .ptr 0 0])) (fun o1 => Option.elim r.2.2 (.tup [.nilp, .ptr 0 0, .nilp]) (fun o2 => .tup [.nilp, .ptr 0 0, .ptr 3 0]))) (fun o0 => Option.elim r.2.1 (.undef) (fun o1 => Option.elim r.2.2 (.undef) (fun o2 => .tup [.ptr 12 0, .ptr 0 0, .ptr 3 0])))) (fun r => Option.elim r.1 (Option.elim r.2.1 (Option.elim r.2.2 ([]) (fun o2 => [bA 1 3 5 7 o2, bS 2 o2.sets.1, rS o2.sets.1, bS 4 o2.sets.2.1, rS o2.sets.2.1, bS 6 o2.sets.2.2.1, rS o2.sets.2.2.1, bS 8 o2.sets.2.2.2, rS o2.sets.2.2.2])) (fun o1 => Option.elim r.2.2 ([bD 1 2 o1, rD o1, rP o1]) (fun o2 => [bD 1 2 o1, rD o1, rP o1, bA 4 6 8 10 o2, bS 5 o2.sets.1, rS o2.sets.1, bS 7 o2.sets.2.1, rS o2.sets.2.1, bS 9 o2.sets.2.2.1, rS o2.sets.2.2.1, bS 11 o2.sets.2.2.2, rS o2.sets.2.2.2]))) (fun o0 => Option.elim r.2.1 ([]) (fun o1 => Option.elim r.2.2 ([]) (fun o2 => [bD 1 2 o1, rD o1, rP o1, bA 4 6 8 10 o2, bS 5 o2.sets.1, rS o2.sets.1, bS 7 o2.sets.2.1, rS o2.sets.2.1, bS 9 o2.sets.2.2.1, rS o2.sets.2.2.1, bS 11 o2.sets.2.2.2, rS o2.sets.2.2.2, .box 85 (.agg [.ptr 0 0, .ptr 3 0])])))) fun X => ?_
 refine bk h fun t1 k2 h => ?_
 refine oe (x := t1.1) h (fun q4 h => ?_) (fun o3 q4 h => ?_)
 ·skip
  refine cl4 cok.g (pmem_New.scn fu _ _ k2 q4) (.tup [.nilp, vi .i64 t1.2]) [] 0 ?_
  refine bk h fun t5 k6 h => ?_
  refine cl4 cok.g (bits_Of.sc fu _ _ _ k6) (.ptr 1 0) [(1, bS 2 t5), (2, rS t5)] 3 ?_
  refine bk h fun t7 k8 h => ?_
  refine cl4 cok.g (bits_Of.sc fu _ _ _ k8) (.ptr 3 0) [(3, bS 4 t7), (4, rS t7)] 5 ?_
  refine bk h fun t9 k10 h => ?_
  refine oe (x := t9.1) h (fun q12 h => ?_) (fun o11 q12 h => ?_)
  ·skip
   refine cl4 cok.g (alloc_New.scn fu _ _ _ _ k10 q12) (.tup [.nilp, vi .i64 t9.2]) [(1, bS 2 t5), (2, rS t5), (3, bS 4 t7), (4, rS t7)] 9 ?_
   refine bk h fun t13 k14 h => ?_
   refine cl4 cok.g (shadow_New_n0_n1.sc fu _ k14) (.tup [.nilp, vi .i64 t13]) [] 9 ?_
   exact fk h
  refine cl4 cok.g (alloc_New.scs fu _ _ _ _ k10 o11 q12) (.tup [.ptr 9 0, vi .i64 t9.2]) [(1, bS 2 t5), (2, rS t5), (3, bS 4 t7), (4, rS t7), (9, bA 10 12 14 16 o11), (10, bS 11 o11.sets.1), (11, rS o11.sets.1), (12, bS 13 o11.sets.2.1), (13, rS o11.sets.2.1), (14, bS 15 o11.sets.2.2.1), (15, rS o11.sets.2.2.1), (16, bS 17 o11.sets.2.2.2), (17, rS o11.sets.2.2.2)] 18 ?_
  refine bk h fun t15 k16 h => ?_
  refine cl4 cok.g (shadow_New_n0.sc fu _ _ k16) (.tup [.nilp, vi .i64 t15]) [(9, bA 10 12 14 16 o11), (10, bS 11 o11.sets.1), (11, rS o11.sets.1), (12, bS 13 o11.sets.2.1), (13, rS o11.sets.2.1), (14, bS 15 o11.sets.2.2.1), (15, rS o11.sets.2.2.1), (16, bS 17 o11.sets.2.2.2), (17, rS o11.sets.2.2.2)] 27 ?_
  exact fk h
 refine cl4 cok.g (pmem_New.scs fu _ _ k2 o3 q4) (.tup [.ptr 0 0, vi .i64 t1.2]) [(0, bD 1 2 o3), (1, rD o3), (2, rP o3)] 3 ?_
 refine bk h fun t17 k18 h => ?_
 refine cl4 cok.g (bits_Of.sc fu _ _ _ k18) (.ptr 4 0) [(4, bS 5 t17), (5, rS t17)] 6 ?_
 refine bk h fun t19 k20 h => ?_
 refine cl4 cok.g (bits_Of.sc fu _ _ _ k20) (.ptr 6 0) [(6, bS 7 t19), (7, rS t19)] 8 ?_
 refine bk h fun t21 k22 h => ?_
 refine oe (x := t21.1) h (fun q24 h => ?_) (fun o23 q24 h => ?_)
 ·skip
  refine cl4 cok.g (alloc_New.scn fu _ _ _ _ k22 q24) (.tup [.nilp, vi .i64 t21.2]) [(4, bS 5 t17), (5, rS t17), (6, bS 7 t19), (7, rS t19)] 12 ?_
  refine bk h fun t25 k26 h => ?_
  refine cl4 cok.g (shadow_New_n1.sc fu _ _ k26) (.tup [.nilp, vi .i64 t25]) [(0, bD 1 2 o3), (1, rD o3), (2, rP o3)] 15 ?_
  exact fk h
 refine cl4 cok.g (alloc_New.scs fu _ _ _ _ k22 o23 q24) (.tup [.ptr 12 0, vi .i64 t21.2]) [(4, bS 5 t17), (5, rS t17), (6, bS 7 t19), (7, rS t19), (12, bA 13 15 17 19 o23), (13, bS 14 o23.sets.1), (14, rS o23.sets.1), (15, bS 16 o23.sets.2.1), (16, rS o23.sets.2.1), (17, bS 18 o23.sets.2.2.1), (18, rS o23.sets.2.2.1), (19, bS 20 o23.sets.2.2.2), (20, rS o23.sets.2.2.2)] 21 ?_
 refine bk h fun t27 k28 h => ?_
 refine oe (x := t27.1) h (fun q30 h => ?_) (fun o29 q30 h => ?_)
 ·skip
  refine cl4 cok.g (shadow_New.scn fu _ _ _ k28 q30) (.tup [.nilp, vi .i64 t27.2]) [(0, bD 1 2 o3), (1, rD o3), (2, rP o3), (12, bA 13 15 17 19 o23), (13, bS 14 o23.sets.1), (14, rS o23.sets.1), (15, bS 16 o23.sets.2.1), (16, rS o23.sets.2.1), (17, bS 18 o23.sets.2.2.1), (18, rS o23.sets.2.2.1), (19, bS 20 o23.sets.2.2.2), (20, rS o23.sets.2.2.2)] 33 ?_
  exact fk h
 refine cl4 cok.g (shadow_New.scs fu _ _ _ k28 o29 q30) (.tup [.ptr 33 0, vi .i64 t27.2]) [(0, bD 1 2 o3), (1, rD o3), (2, rP o3), (12, bA 13 15 17 19 o23), (13, bS 14 o23.sets.1), (14, rS o23.sets.1), (15, bS 16 o23.sets.2.1), (16, rS o23.sets.2.1), (17, bS 18 o23.sets.2.2.1), (18, rS o23.sets.2.2.1), (19, bS 20 o23.sets.2.2.2), (20, rS o23.sets.2.2.2), (33, .box 85 (.agg [.ptr 0 0, .ptr 12 0]))] 34 ?_
 exact fk h
theorem rickyardlaw19_Made.scnnn (fu : Nat) (a0 : Int) (a1 : Int) (r : (Option S_shadow_Store) × (Option S_pmem_Device) × (Option S_alloc_Alloc)) (h : rickyardlaw19_Made.f fu a0 a1 = some r) (q0 : r.1 = none) (q1 : r.2.1 = none) (q2 : r.2.2 = none) : SC Tryz.prog CT 17 [vi .i64 a0, vi .i64 a1] [] (.tup [.nilp, .nilp, .nilp]) [] := by
 have k := rickyardlaw19_Made.sc fu a0 a1 r h
 rw [q0, q1, q2] at k
 exact k
theorem rickyardlaw19_Made.scnns (fu : Nat) (a0 : Int) (a1 : Int) (r : (Option S_shadow_Store) × (Option S_pmem_Device) × (Option S_alloc_Alloc)) (h : rickyardlaw19_Made.f fu a0 a1 = some r) (q0 : r.1 = none) (q1 : r.2.1 = none) (o2 : S_alloc_Alloc) (q2 : r.2.2 = some o2) : SC Tryz.prog CT 17 [vi .i64 a0, vi .i64 a1] [] (.tup [.nilp, .nilp, .ptr 0 0]) [bA 1 3 5 7 o2, bS 2 o2.sets.1, rS o2.sets.1, bS 4 o2.sets.2.1, rS o2.sets.2.1, bS 6 o2.sets.2.2.1, rS o2.sets.2.2.1, bS 8 o2.sets.2.2.2, rS o2.sets.2.2.2] := by
 have k := rickyardlaw19_Made.sc fu a0 a1 r h
 rw [q0, q1, q2] at k
 exact k
theorem rickyardlaw19_Made.scnsn (fu : Nat) (a0 : Int) (a1 : Int) (r : (Option S_shadow_Store) × (Option S_pmem_Device) × (Option S_alloc_Alloc)) (h : rickyardlaw19_Made.f fu a0 a1 = some r) (q0 : r.1 = none) (o1 : S_pmem_Device) (q1 : r.2.1 = some o1) (q2 : r.2.2 = none) : SC Tryz.prog CT 17 [vi .i64 a0, vi .i64 a1] [] (.tup [.nilp, .ptr 0 0, .nilp]) [bD 1 2 o1, rD o1, rP o1] := by
 have k := rickyardlaw19_Made.sc fu a0 a1 r h
 rw [q0, q1, q2] at k
 exact k
theorem rickyardlaw19_Made.scnss (fu : Nat) (a0 : Int) (a1 : Int) (r : (Option S_shadow_Store) × (Option S_pmem_Device) × (Option S_alloc_Alloc)) (h : rickyardlaw19_Made.f fu a0 a1 = some r) (q0 : r.1 = none) (o1 : S_pmem_Device) (q1 : r.2.1 = some o1) (o2 : S_alloc_Alloc) (q2 : r.2.2 = some o2) : SC Tryz.prog CT 17 [vi .i64 a0, vi .i64 a1] [] (.tup [.nilp, .ptr 0 0, .ptr 3 0]) [bD 1 2 o1, rD o1, rP o1, bA 4 6 8 10 o2, bS 5 o2.sets.1, rS o2.sets.1, bS 7 o2.sets.2.1, rS o2.sets.2.1, bS 9 o2.sets.2.2.1, rS o2.sets.2.2.1, bS 11 o2.sets.2.2.2, rS o2.sets.2.2.2] := by
 have k := rickyardlaw19_Made.sc fu a0 a1 r h
 rw [q0, q1, q2] at k
 exact k
theorem rickyardlaw19_Made.scsss (fu : Nat) (a0 : Int) (a1 : Int) (r : (Option S_shadow_Store) × (Option S_pmem_Device) × (Option S_alloc_Alloc)) (h : rickyardlaw19_Made.f fu a0 a1 = some r) (o0 : S_shadow_Store) (q0 : r.1 = some o0) (o1 : S_pmem_Device) (q1 : r.2.1 = some o1) (o2 : S_alloc_Alloc) (q2 : r.2.2 = some o2) : SC Tryz.prog CT 17 [vi .i64 a0, vi .i64 a1] [] (.tup [.ptr 12 0, .ptr 0 0, .ptr 3 0]) [bD 1 2 o1, rD o1, rP o1, bA 4 6 8 10 o2, bS 5 o2.sets.1, rS o2.sets.1, bS 7 o2.sets.2.1, rS o2.sets.2.1, bS 9 o2.sets.2.2.1, rS o2.sets.2.2.1, bS 11 o2.sets.2.2.2, rS o2.sets.2.2.2, .box 85 (.agg [.ptr 0 0, .ptr 3 0])] := by
 have k := rickyardlaw19_Made.sc fu a0 a1 r h
 rw [q0, q1, q2] at k
 exact k
def rickyardlaw25_awake.f (fu : Nat) : Option Bool := ((rickyardlaw19_Made.f fu 20 0).bind fun t1 => (Option.elim t1.1 ((Option.elim t1.2.1 ((Option.elim t1.2.2 (some (false)) (fun o7 => some (false)))) (fun o5 => (Option.elim t1.2.2 (some (false)) (fun o9 => some (false)))))) (fun o3 => (Option.elim t1.2.1 (none) (fun o11 => (Option.elim t1.2.2 (none) (fun o13 => ((dir_Add.f fu (⟨o11, o13⟩ : S_shadow_Store) 0 [98]).bind fun t15 => ((dir_Add.f fu t15.2.2 t15.1 [97]).bind fun t17 => ((dir_List.f fu t17.2.2 t17.1).bind fun t19 => (if (decide (t15.2.1 = 0)) then (if (decide (t17.2.1 = 0)) then (if (decide (t19.2 = 0)) then (if (decide ((List.length t19.1 : Int) = 2)) then if (0 : Int) < (List.length t19.1 : Int) then (if (decide (((ix t19.1 0).Name) = [97])) then if (1 : Int) < (List.length t19.1 : Int) then some ((decide (((ix t19.1 1).Name) = [98]))) else none else some (false)) else none else some (false)) else some (false)) else some (false)) else some (false))))))))))))
theorem rickyardlaw25_awake.sc (fu : Nat) (r : Bool) (h : rickyardlaw25_awake.f fu = some r) : SC Tryz.prog CT 6 [] [] (vb r) [] := by
 unfold rickyardlaw25_awake.f at h
 refine sq Tryz.func6 r (fun r => vb r) (fun r => []) fun X => ?_
 refine bk h fun t1 k2 h => ?_
 refine oe (x := t1.1) h (fun q4 h => ?_) (fun o3 q4 h => ?_)
 ·skip
  refine oe (x := t1.2.1) h (fun q6 h => ?_) (fun o5 q6 h => ?_)
  ·skip
   refine oe (x := t1.2.2) h (fun q8 h => ?_) (fun o7 q8 h => ?_)
   ·skip
    refine cl4 cok.g (rickyardlaw19_Made.scnnn fu _ _ _ k2 q4 q6 q8) (.tup [.nilp, .nilp, .nilp]) [] 0 ?_
    refine t_cond cok ?_
    exact fk h
   refine cl4 cok.g (rickyardlaw19_Made.scnns fu _ _ _ k2 q4 q6 o7 q8) (.tup [.nilp, .nilp, .ptr 0 0]) [(0, bA 1 3 5 7 o7), (1, bS 2 o7.sets.1), (2, rS o7.sets.1), (3, bS 4 o7.sets.2.1), (4, rS o7.sets.2.1), (5, bS 6 o7.sets.2.2.1), (6, rS o7.sets.2.2.1), (7, bS 8 o7.sets.2.2.2), (8, rS o7.sets.2.2.2)] 9 ?_
   refine t_cond cok ?_
   exact fk h
  refine oe (x := t1.2.2) h (fun q10 h => ?_) (fun o9 q10 h => ?_)
  ·skip
   refine cl4 cok.g (rickyardlaw19_Made.scnsn fu _ _ _ k2 q4 o5 q6 q10) (.tup [.nilp, .ptr 0 0, .nilp]) [(0, bD 1 2 o5), (1, rD o5), (2, rP o5)] 3 ?_
   refine t_cond cok ?_
   exact fk h
  refine cl4 cok.g (rickyardlaw19_Made.scnss fu _ _ _ k2 q4 o5 q6 o9 q10) (.tup [.nilp, .ptr 0 0, .ptr 3 0]) [(0, bD 1 2 o5), (1, rD o5), (2, rP o5), (3, bA 4 6 8 10 o9), (4, bS 5 o9.sets.1), (5, rS o9.sets.1), (6, bS 7 o9.sets.2.1), (7, rS o9.sets.2.1), (8, bS 9 o9.sets.2.2.1), (9, rS o9.sets.2.2.1), (10, bS 11 o9.sets.2.2.2), (11, rS o9.sets.2.2.2)] 12 ?_
  refine t_cond cok ?_
  exact fk h
 refine oe (x := t1.2.1) h (fun q12 h => ?_) (fun o11 q12 h => ?_)
 ·skip
  cases h
 refine oe (x := t1.2.2) h (fun q14 h => ?_) (fun o13 q14 h => ?_)
 ·skip
  cases h
 refine cl4 cok.g (rickyardlaw19_Made.scsss fu _ _ _ k2 o3 q4 o11 q12 o13 q14) (.tup [.ptr 12 0, .ptr 0 0, .ptr 3 0]) [(0, bD 1 2 o11), (1, rD o11), (2, rP o11), (3, bA 4 6 8 10 o13), (4, bS 5 o13.sets.1), (5, rS o13.sets.1), (6, bS 7 o13.sets.2.1), (7, rS o13.sets.2.1), (8, bS 9 o13.sets.2.2.1), (9, rS o13.sets.2.2.1), (10, bS 11 o13.sets.2.2.2), (11, rS o13.sets.2.2.2), (12, .box 85 (.agg [.ptr 0 0, .ptr 3 0]))] 13 ?_
 refine t_cond cok ?_
 refine bk h fun t15 k16 h => ?_
 refine cl4 cok.g (dir_Add.sc fu _ _ _ _ k16) (.tup [vi .i64 t15.1, vi .i64 t15.2.1]) [(12, .box 85 (.agg [.ptr 0 0, .ptr 3 0])), (0, bD 1 2 t15.2.2.device), (1, rD t15.2.2.device), (2, rP t15.2.2.device), (3, bA 4 6 8 10 t15.2.2.blocks), (4, bS 5 t15.2.2.blocks.sets.1), (5, rS t15.2.2.blocks.sets.1), (6, bS 7 t15.2.2.blocks.sets.2.1), (7, rS t15.2.2.blocks.sets.2.1), (8, bS 9 t15.2.2.blocks.sets.2.2.1), (9, rS t15.2.2.blocks.sets.2.2.1), (10, bS 11 t15.2.2.blocks.sets.2.2.2), (11, rS t15.2.2.blocks.sets.2.2.2)] 26 ?_
 refine bk h fun t17 k18 h => ?_
 refine cl4 cok.g (dir_Add.sc fu _ _ _ _ k18) (.tup [vi .i64 t17.1, vi .i64 t17.2.1]) [(12, .box 85 (.agg [.ptr 0 0, .ptr 3 0])), (0, bD 1 2 t17.2.2.device), (1, rD t17.2.2.device), (2, rP t17.2.2.device), (3, bA 4 6 8 10 t17.2.2.blocks), (4, bS 5 t17.2.2.blocks.sets.1), (5, rS t17.2.2.blocks.sets.1), (6, bS 7 t17.2.2.blocks.sets.2.1), (7, rS t17.2.2.blocks.sets.2.1), (8, bS 9 t17.2.2.blocks.sets.2.2.1), (9, rS t17.2.2.blocks.sets.2.2.1), (10, bS 11 t17.2.2.blocks.sets.2.2.2), (11, rS t17.2.2.blocks.sets.2.2.2)] 39 ?_
 refine bk h fun t19 k20 h => ?_
 refine cl4 cok.g (dir_List.sc fu _ _ _ k20) (.tup [.sl 52 14 [], vi .i64 t19.2]) [(12, .box 85 (.agg [.ptr 0 0, .ptr 3 0])), (0, bD 1 2 t17.2.2.device), (1, rD t17.2.2.device), (2, rP t17.2.2.device), (3, bA 4 6 8 10 t17.2.2.blocks), (4, bS 5 t17.2.2.blocks.sets.1), (5, rS t17.2.2.blocks.sets.1), (6, bS 7 t17.2.2.blocks.sets.2.1), (7, rS t17.2.2.blocks.sets.2.1), (8, bS 9 t17.2.2.blocks.sets.2.2.1), (9, rS t17.2.2.blocks.sets.2.2.1), (10, bS 11 t17.2.2.blocks.sets.2.2.2), (11, rS t17.2.2.blocks.sets.2.2.2), (52, .row (.st .S_api_Queue) 46 (t19.1 : List S_api_Queue))] 53 ?_
 refine t_reg cok ?_
 refine bi h (fun c21 h => ?_) (fun c21 h => ?_)
 ·skip
  refine bi h (fun c22 h => ?_) (fun c22 h => ?_)
  ·skip
   refine bi h (fun c23 h => ?_) (fun c23 h => ?_)
   ·skip
    refine bi h (fun c24 h => ?_) (fun c24 h => ?_)
    ·skip
     refine agL h (by decide) fun h => ?_
     refine bi h (fun c25 h => ?_) (fun c25 h => ?_)
     ·skip
      refine agL h (by decide) fun h => ?_
      exact fk h
     exact fk h
    exact fk h
   exact fk h
  exact fk h
 exact fk h
def rickyardref25_At.s0 (fu : Nat) (a0 : List S_api_Queue) (a1 : List UInt8) : Int → Option (Sum (Sum Int Unit) Int) := fun s1 => (if (decide (s1 < (List.length a0 : Int))) then if 0 ≤ s1 ∧ s1 < (List.length a0 : Int) then (if (decide (((ix a0 s1).Name) = a1)) then some (Sum.inl (Sum.inl (s1))) else some (Sum.inr ((IntKind.i64.wrap (s1 + 1))))) else none else some (Sum.inl (Sum.inr ())))
def rickyardref25_At.f (fu : Nat) (a0 : List S_api_Queue) (a1 : List UInt8) : Option Int := ((loopM (rickyardref25_At.s0 fu a0 a1) fu (0)).bind fun e2 => match e2 with | Sum.inl p => some p | Sum.inr x4 => some ((-1)))
theorem rickyardref25_At.sc (fu : Nat) (a0 : List S_api_Queue) (a1 : List UInt8) (r : Int) (h : rickyardref25_At.f fu a0 a1 = some r) : SC Tryz.prog CT 15 [.v (.sl (.st .S_api_Queue)) (a0 : List S_api_Queue), vs a1] [] (vi .i64 r) [] := by
 unfold rickyardref25_At.f at h
 refine sq Tryz.func15 r (fun r => vi .i64 r) (fun r => []) fun X => ?_
 refine bk h fun e2 l3 h => ?_
 refine t_cutxS cok 0 (fun (_x : Unit) => ⟨[], []⟩) e2 ?_ (fun x4 hy => ?_)
 ·skip
  have h5 := h
  refine t_loop cok (fun (s1 : Int) => ⟨[(0, .v (.sl (.st .S_api_Queue)) (a0 : List S_api_Queue)), (1, vs a1), (5, vi .i64 s1)], []⟩) l3 (by kernel_rfl) (fun s1 x6 h => ?_)
  unfold rickyardref25_At.s0 at h
  refine t_cond cok ?_
  refine bi h (fun c7 h => ?_) (fun c7 h => ?_)
  ·skip
   refine ag h fun h => ?_
   refine t_cond cok ?_
   refine bi h (fun c8 h => ?_) (fun c8 h => ?_)
   ·skip
    refine lpr h (fun hy => ?_)
    have h := h5
    rw [← hy] at h
    exact fk h
   exact lik h
  exact lpx h fun hy => esk (sj hy)
 subst hy
 exact fk h
def rickyardref04_follows.f (fu : Nat) (a0 : List UInt8) (a1 : Int) (a2 : Int) (a3 : Int) : Option Bool := (if (decide (a1 < (List.length a0 : Int))) then if 0 ≤ a1 ∧ a1 < (List.length a0 : Int) then (if (decide ((ofB (List.getD a0 (Int.toNat a1) 0)) ≥ a2)) then if 0 ≤ a1 ∧ a1 < (List.length a0 : Int) then some ((decide ((ofB (List.getD a0 (Int.toNat a1) 0)) ≤ a3))) else none else some (false)) else none else some (false))
theorem rickyardref04_follows.sc (fu : Nat) (a0 : List UInt8) (a1 : Int) (a2 : Int) (a3 : Int) (r : Bool) (h : rickyardref04_follows.f fu a0 a1 a2 a3 = some r) : SC Tryz.prog CT 111 [vs a0, vi .i64 a1, vi .u8 a2, vi .u8 a3] [] (vb r) [] := by
 unfold rickyardref04_follows.f at h
 refine sq Tryz.func111 r (fun r => vb r) (fun r => []) fun X => ?_
 refine t_reg cok ?_
 refine bi h (fun c1 h => ?_) (fun c1 h => ?_)
 ·skip
  refine ag h fun h => ?_
  refine bi h (fun c2 h => ?_) (fun c2 h => ?_)
  ·skip
   refine ag h fun h => ?_
   exact fk h
  exact fk h
 exact fk h
def rickyardref04_First.f (fu : Nat) (a0 : List UInt8) : Option (Int × Int) := if (0 : Int) < (List.length a0 : Int) then (if (decide ((ofB (List.getD a0 (Int.toNat 0) 0)) < 128)) then some ((IntKind.i64.wrap (ofB (List.getD a0 (Int.toNat 0) 0))), 1) else (if (decide ((ofB (List.getD a0 (Int.toNat 0) 0)) ≥ 194)) then (if (decide ((ofB (List.getD a0 (Int.toNat 0) 0)) ≤ 223)) then ((rickyardref04_follows.f fu a0 1 128 191).bind fun t4 => (if t4 then if (1 : Int) < (List.length a0 : Int) then some ((IntKind.i64.wrap ((IntKind.i64.wrap ((IntKind.i64.wrap (IntKind.u8.wrap ((ofB (List.getD a0 (Int.toNat 0) 0)) - 192))) * 64)) + (IntKind.i64.wrap (IntKind.u8.wrap ((ofB (List.getD a0 (Int.toNat 1) 0)) - 128))))), 2) else none else (if (decide ((ofB (List.getD a0 (Int.toNat 0) 0)) ≥ 224)) then (((if (decide ((ofB (List.getD a0 (Int.toNat 0) 0)) ≤ 239)) then (((if (decide ((ofB (List.getD a0 (Int.toNat 0) 0)) = 224)) then some (160) else some (128)) : Option Int).bind fun x13 => (((if (decide ((ofB (List.getD a0 (Int.toNat 0) 0)) = 237)) then some (159) else some (191)) : Option Int).bind fun x17 => ((rickyardref04_follows.f fu a0 1 x13 x17).bind fun t21 => (if t21 then ((rickyardref04_follows.f fu a0 2 128 191).bind fun t24 => (if t24 then if (1 : Int) < (List.length a0 : Int) then if (2 : Int) < (List.length a0 : Int) then some (Sum.inl ((IntKind.i64.wrap ((IntKind.i64.wrap ((IntKind.i64.wrap ((IntKind.i64.wrap (IntKind.u8.wrap ((ofB (List.getD a0 (Int.toNat 0) 0)) - 224))) * 4096)) + (IntKind.i64.wrap ((IntKind.i64.wrap (IntKind.u8.wrap ((ofB (List.getD a0 (Int.toNat 1) 0)) - 128))) * 64)))) + (IntKind.i64.wrap (IntKind.u8.wrap ((ofB (List.getD a0 (Int.toNat 2) 0)) - 128))))), 3)) else none else none else some (Sum.inr ()))) else some (Sum.inr ()))))) else (if (decide ((ofB (List.getD a0 (Int.toNat 0) 0)) ≥ 240)) then (((if (decide ((ofB (List.getD a0 (Int.toNat 0) 0)) ≤ 244)) then (((if (decide ((ofB (List.getD a0 (Int.toNat 0) 0)) = 240)) then some (144) else some (128)) : Option Int).bind fun x33 => (((if (decide ((ofB (List.getD a0 (Int.toNat 0) 0)) = 244)) then some (143) else some (191)) : Option Int).bind fun x37 => ((rickyardref04_follows.f fu a0 1 x33 x37).bind fun t41 => (if t41 then ((rickyardref04_follows.f fu a0 2 128 191).bind fun t44 => (if t44 then ((rickyardref04_follows.f fu a0 3 128 191).bind fun t47 => (if t47 then if (1 : Int) < (List.length a0 : Int) then if (2 : Int) < (List.length a0 : Int) then if (3 : Int) < (List.length a0 : Int) then some (Sum.inl (Sum.inl ((IntKind.i64.wrap ((IntKind.i64.wrap ((IntKind.i64.wrap ((IntKind.i64.wrap ((IntKind.i64.wrap (IntKind.u8.wrap ((ofB (List.getD a0 (Int.toNat 0) 0)) - 240))) * 262144)) + (IntKind.i64.wrap ((IntKind.i64.wrap (IntKind.u8.wrap ((ofB (List.getD a0 (Int.toNat 1) 0)) - 128))) * 4096)))) + (IntKind.i64.wrap ((IntKind.i64.wrap (IntKind.u8.wrap ((ofB (List.getD a0 (Int.toNat 2) 0)) - 128))) * 64)))) + (IntKind.i64.wrap (IntKind.u8.wrap ((ofB (List.getD a0 (Int.toNat 3) 0)) - 128))))), 4))) else none else none else none else some (Sum.inr ()))) else some (Sum.inr ()))) else some (Sum.inr ()))))) else some (Sum.inr ())) : Option (Sum (Sum (Int × Int) Unit) Unit)).bind fun x28 => match x28 with | Sum.inl p => some p | Sum.inr x30 => some (Sum.inr ())) else some (Sum.inr ()))) : Option (Sum (Int × Int) Unit)).bind fun x8 => match x8 with | Sum.inl p => some p | Sum.inr x10 => some (65533, 1)) else (if (decide ((ofB (List.getD a0 (Int.toNat 0) 0)) ≥ 240)) then (((if (decide ((ofB (List.getD a0 (Int.toNat 0) 0)) ≤ 244)) then (((if (decide ((ofB (List.getD a0 (Int.toNat 0) 0)) = 240)) then some (144) else some (128)) : Option Int).bind fun x56 => (((if (decide ((ofB (List.getD a0 (Int.toNat 0) 0)) = 244)) then some (143) else some (191)) : Option Int).bind fun x60 => ((rickyardref04_follows.f fu a0 1 x56 x60).bind fun t64 => (if t64 then ((rickyardref04_follows.f fu a0 2 128 191).bind fun t67 => (if t67 then ((rickyardref04_follows.f fu a0 3 128 191).bind fun t70 => (if t70 then if (1 : Int) < (List.length a0 : Int) then if (2 : Int) < (List.length a0 : Int) then if (3 : Int) < (List.length a0 : Int) then some (Sum.inl ((IntKind.i64.wrap ((IntKind.i64.wrap ((IntKind.i64.wrap ((IntKind.i64.wrap ((IntKind.i64.wrap (IntKind.u8.wrap ((ofB (List.getD a0 (Int.toNat 0) 0)) - 240))) * 262144)) + (IntKind.i64.wrap ((IntKind.i64.wrap (IntKind.u8.wrap ((ofB (List.getD a0 (Int.toNat 1) 0)) - 128))) * 4096)))) + (IntKind.i64.wrap ((IntKind.i64.wrap (IntKind.u8.wrap ((ofB (List.getD a0 (Int.toNat 2) 0)) - 128))) * 64)))) + (IntKind.i64.wrap (IntKind.u8.wrap ((ofB (List.getD a0 (Int.toNat 3) 0)) - 128))))), 4)) else none else none else none else some (Sum.inr ()))) else some (Sum.inr ()))) else some (Sum.inr ()))))) else some (Sum.inr ())) : Option (Sum (Int × Int) Unit)).bind fun x51 => match x51 with | Sum.inl p => some p | Sum.inr x53 => some (65533, 1)) else some (65533, 1))))) else (if (decide ((ofB (List.getD a0 (Int.toNat 0) 0)) ≥ 224)) then (((if (decide ((ofB (List.getD a0 (Int.toNat 0) 0)) ≤ 239)) then (((if (decide ((ofB (List.getD a0 (Int.toNat 0) 0)) = 224)) then some (160) else some (128)) : Option Int).bind fun x79 => (((if (decide ((ofB (List.getD a0 (Int.toNat 0) 0)) = 237)) then some (159) else some (191)) : Option Int).bind fun x83 => ((rickyardref04_follows.f fu a0 1 x79 x83).bind fun t87 => (if t87 then ((rickyardref04_follows.f fu a0 2 128 191).bind fun t90 => (if t90 then if (1 : Int) < (List.length a0 : Int) then if (2 : Int) < (List.length a0 : Int) then some (Sum.inl ((IntKind.i64.wrap ((IntKind.i64.wrap ((IntKind.i64.wrap ((IntKind.i64.wrap (IntKind.u8.wrap ((ofB (List.getD a0 (Int.toNat 0) 0)) - 224))) * 4096)) + (IntKind.i64.wrap ((IntKind.i64.wrap (IntKind.u8.wrap ((ofB (List.getD a0 (Int.toNat 1) 0)) - 128))) * 64)))) + (IntKind.i64.wrap (IntKind.u8.wrap ((ofB (List.getD a0 (Int.toNat 2) 0)) - 128))))), 3)) else none else none else some (Sum.inr ()))) else some (Sum.inr ()))))) else (if (decide ((ofB (List.getD a0 (Int.toNat 0) 0)) ≥ 240)) then (((if (decide ((ofB (List.getD a0 (Int.toNat 0) 0)) ≤ 244)) then (((if (decide ((ofB (List.getD a0 (Int.toNat 0) 0)) = 240)) then some (144) else some (128)) : Option Int).bind fun x99 => (((if (decide ((ofB (List.getD a0 (Int.toNat 0) 0)) = 244)) then some (143) else some (191)) : Option Int).bind fun x103 => ((rickyardref04_follows.f fu a0 1 x99 x103).bind fun t107 => (if t107 then ((rickyardref04_follows.f fu a0 2 128 191).bind fun t110 => (if t110 then ((rickyardref04_follows.f fu a0 3 128 191).bind fun t113 => (if t113 then if (1 : Int) < (List.length a0 : Int) then if (2 : Int) < (List.length a0 : Int) then if (3 : Int) < (List.length a0 : Int) then some (Sum.inl (Sum.inl ((IntKind.i64.wrap ((IntKind.i64.wrap ((IntKind.i64.wrap ((IntKind.i64.wrap ((IntKind.i64.wrap (IntKind.u8.wrap ((ofB (List.getD a0 (Int.toNat 0) 0)) - 240))) * 262144)) + (IntKind.i64.wrap ((IntKind.i64.wrap (IntKind.u8.wrap ((ofB (List.getD a0 (Int.toNat 1) 0)) - 128))) * 4096)))) + (IntKind.i64.wrap ((IntKind.i64.wrap (IntKind.u8.wrap ((ofB (List.getD a0 (Int.toNat 2) 0)) - 128))) * 64)))) + (IntKind.i64.wrap (IntKind.u8.wrap ((ofB (List.getD a0 (Int.toNat 3) 0)) - 128))))), 4))) else none else none else none else some (Sum.inr ()))) else some (Sum.inr ()))) else some (Sum.inr ()))))) else some (Sum.inr ())) : Option (Sum (Sum (Int × Int) Unit) Unit)).bind fun x94 => match x94 with | Sum.inl p => some p | Sum.inr x96 => some (Sum.inr ())) else some (Sum.inr ()))) : Option (Sum (Int × Int) Unit)).bind fun x74 => match x74 with | Sum.inl p => some p | Sum.inr x76 => some (65533, 1)) else (if (decide ((ofB (List.getD a0 (Int.toNat 0) 0)) ≥ 240)) then (((if (decide ((ofB (List.getD a0 (Int.toNat 0) 0)) ≤ 244)) then (((if (decide ((ofB (List.getD a0 (Int.toNat 0) 0)) = 240)) then some (144) else some (128)) : Option Int).bind fun x122 => (((if (decide ((ofB (List.getD a0 (Int.toNat 0) 0)) = 244)) then some (143) else some (191)) : Option Int).bind fun x126 => ((rickyardref04_follows.f fu a0 1 x122 x126).bind fun t130 => (if t130 then ((rickyardref04_follows.f fu a0 2 128 191).bind fun t133 => (if t133 then ((rickyardref04_follows.f fu a0 3 128 191).bind fun t136 => (if t136 then if (1 : Int) < (List.length a0 : Int) then if (2 : Int) < (List.length a0 : Int) then if (3 : Int) < (List.length a0 : Int) then some (Sum.inl ((IntKind.i64.wrap ((IntKind.i64.wrap ((IntKind.i64.wrap ((IntKind.i64.wrap ((IntKind.i64.wrap (IntKind.u8.wrap ((ofB (List.getD a0 (Int.toNat 0) 0)) - 240))) * 262144)) + (IntKind.i64.wrap ((IntKind.i64.wrap (IntKind.u8.wrap ((ofB (List.getD a0 (Int.toNat 1) 0)) - 128))) * 4096)))) + (IntKind.i64.wrap ((IntKind.i64.wrap (IntKind.u8.wrap ((ofB (List.getD a0 (Int.toNat 2) 0)) - 128))) * 64)))) + (IntKind.i64.wrap (IntKind.u8.wrap ((ofB (List.getD a0 (Int.toNat 3) 0)) - 128))))), 4)) else none else none else none else some (Sum.inr ()))) else some (Sum.inr ()))) else some (Sum.inr ()))))) else some (Sum.inr ())) : Option (Sum (Int × Int) Unit)).bind fun x117 => match x117 with | Sum.inl p => some p | Sum.inr x119 => some (65533, 1)) else some (65533, 1)))) else (if (decide ((ofB (List.getD a0 (Int.toNat 0) 0)) ≥ 224)) then (((if (decide ((ofB (List.getD a0 (Int.toNat 0) 0)) ≤ 239)) then (((if (decide ((ofB (List.getD a0 (Int.toNat 0) 0)) = 224)) then some (160) else some (128)) : Option Int).bind fun x145 => (((if (decide ((ofB (List.getD a0 (Int.toNat 0) 0)) = 237)) then some (159) else some (191)) : Option Int).bind fun x149 => ((rickyardref04_follows.f fu a0 1 x145 x149).bind fun t153 => (if t153 then ((rickyardref04_follows.f fu a0 2 128 191).bind fun t156 => (if t156 then if (1 : Int) < (List.length a0 : Int) then if (2 : Int) < (List.length a0 : Int) then some (Sum.inl ((IntKind.i64.wrap ((IntKind.i64.wrap ((IntKind.i64.wrap ((IntKind.i64.wrap (IntKind.u8.wrap ((ofB (List.getD a0 (Int.toNat 0) 0)) - 224))) * 4096)) + (IntKind.i64.wrap ((IntKind.i64.wrap (IntKind.u8.wrap ((ofB (List.getD a0 (Int.toNat 1) 0)) - 128))) * 64)))) + (IntKind.i64.wrap (IntKind.u8.wrap ((ofB (List.getD a0 (Int.toNat 2) 0)) - 128))))), 3)) else none else none else some (Sum.inr ()))) else some (Sum.inr ()))))) else (if (decide ((ofB (List.getD a0 (Int.toNat 0) 0)) ≥ 240)) then (((if (decide ((ofB (List.getD a0 (Int.toNat 0) 0)) ≤ 244)) then (((if (decide ((ofB (List.getD a0 (Int.toNat 0) 0)) = 240)) then some (144) else some (128)) : Option Int).bind fun x165 => (((if (decide ((ofB (List.getD a0 (Int.toNat 0) 0)) = 244)) then some (143) else some (191)) : Option Int).bind fun x169 => ((rickyardref04_follows.f fu a0 1 x165 x169).bind fun t173 => (if t173 then ((rickyardref04_follows.f fu a0 2 128 191).bind fun t176 => (if t176 then ((rickyardref04_follows.f fu a0 3 128 191).bind fun t179 => (if t179 then if (1 : Int) < (List.length a0 : Int) then if (2 : Int) < (List.length a0 : Int) then if (3 : Int) < (List.length a0 : Int) then some (Sum.inl (Sum.inl ((IntKind.i64.wrap ((IntKind.i64.wrap ((IntKind.i64.wrap ((IntKind.i64.wrap ((IntKind.i64.wrap (IntKind.u8.wrap ((ofB (List.getD a0 (Int.toNat 0) 0)) - 240))) * 262144)) + (IntKind.i64.wrap ((IntKind.i64.wrap (IntKind.u8.wrap ((ofB (List.getD a0 (Int.toNat 1) 0)) - 128))) * 4096)))) + (IntKind.i64.wrap ((IntKind.i64.wrap (IntKind.u8.wrap ((ofB (List.getD a0 (Int.toNat 2) 0)) - 128))) * 64)))) + (IntKind.i64.wrap (IntKind.u8.wrap ((ofB (List.getD a0 (Int.toNat 3) 0)) - 128))))), 4))) else none else none else none else some (Sum.inr ()))) else some (Sum.inr ()))) else some (Sum.inr ()))))) else some (Sum.inr ())) : Option (Sum (Sum (Int × Int) Unit) Unit)).bind fun x160 => match x160 with | Sum.inl p => some p | Sum.inr x162 => some (Sum.inr ())) else some (Sum.inr ()))) : Option (Sum (Int × Int) Unit)).bind fun x140 => match x140 with | Sum.inl p => some p | Sum.inr x142 => some (65533, 1)) else (if (decide ((ofB (List.getD a0 (Int.toNat 0) 0)) ≥ 240)) then (((if (decide ((ofB (List.getD a0 (Int.toNat 0) 0)) ≤ 244)) then (((if (decide ((ofB (List.getD a0 (Int.toNat 0) 0)) = 240)) then some (144) else some (128)) : Option Int).bind fun x188 => (((if (decide ((ofB (List.getD a0 (Int.toNat 0) 0)) = 244)) then some (143) else some (191)) : Option Int).bind fun x192 => ((rickyardref04_follows.f fu a0 1 x188 x192).bind fun t196 => (if t196 then ((rickyardref04_follows.f fu a0 2 128 191).bind fun t199 => (if t199 then ((rickyardref04_follows.f fu a0 3 128 191).bind fun t202 => (if t202 then if (1 : Int) < (List.length a0 : Int) then if (2 : Int) < (List.length a0 : Int) then if (3 : Int) < (List.length a0 : Int) then some (Sum.inl ((IntKind.i64.wrap ((IntKind.i64.wrap ((IntKind.i64.wrap ((IntKind.i64.wrap ((IntKind.i64.wrap (IntKind.u8.wrap ((ofB (List.getD a0 (Int.toNat 0) 0)) - 240))) * 262144)) + (IntKind.i64.wrap ((IntKind.i64.wrap (IntKind.u8.wrap ((ofB (List.getD a0 (Int.toNat 1) 0)) - 128))) * 4096)))) + (IntKind.i64.wrap ((IntKind.i64.wrap (IntKind.u8.wrap ((ofB (List.getD a0 (Int.toNat 2) 0)) - 128))) * 64)))) + (IntKind.i64.wrap (IntKind.u8.wrap ((ofB (List.getD a0 (Int.toNat 3) 0)) - 128))))), 4)) else none else none else none else some (Sum.inr ()))) else some (Sum.inr ()))) else some (Sum.inr ()))))) else some (Sum.inr ())) : Option (Sum (Int × Int) Unit)).bind fun x183 => match x183 with | Sum.inl p => some p | Sum.inr x185 => some (65533, 1)) else some (65533, 1))))) else none
theorem rickyardref04_First.sc (fu : Nat) (a0 : List UInt8) (r : Int × Int) (h : rickyardref04_First.f fu a0 = some r) : SC Tryz.prog CT 89 [vs a0] [] (.tup [vi .i64 r.1, vi .i64 r.2]) [] := by
 unfold rickyardref04_First.f at h
 refine sq Tryz.func89 r (fun r => .tup [vi .i64 r.1, vi .i64 r.2]) (fun r => []) fun X => ?_
 refine agL h (by decide) fun h => ?_
 refine t_cond cok ?_
 refine bi h (fun c1 h => ?_) (fun c1 h => ?_)
 ·skip
  exact fk h
 refine t_reg cok ?_
 refine bi h (fun c2 h => ?_) (fun c2 h => ?_)
 ·skip
  refine bi h (fun c3 h => ?_) (fun c3 h => ?_)
  ·skip
   refine bk h fun t4 k5 h => ?_
   refine cl4 cok.g (rickyardref04_follows.sc fu _ _ _ _ _ k5) (vb t4) [] 0 ?_
   refine t_cond cok ?_
   refine bi h (fun c6 h => ?_) (fun c6 h => ?_)
   ·skip
    refine agL h (by decide) fun h => ?_
    exact fk h
   refine t_reg cok ?_
   refine bi h (fun c7 h => ?_) (fun c7 h => ?_)
   ·skip
    refine bk h fun x8 j9 h => ?_
    refine t_cutS cok (fun (_x : Unit) => ⟨[], []⟩) x8 ?_ (fun x10 hy => ?_)
    ·skip
     have h11 := h
     have h := j9
     refine t_cond cok ?_
     refine bi h (fun c12 h => ?_) (fun c12 h => ?_)
     ·skip
      refine bk h fun x13 j14 h => ?_
      refine t_cut cok (fun (x13 : Int) => ⟨[(0, vs a0), (4, vi .u8 (ofB (List.getD a0 (Int.toNat 0) 0))), (5, vi .u8 x13), (6, vi .u8 191)], []⟩) x13 ?_ ?_
      ·skip
       have h15 := h
       have h := j14
       refine t_cond cok ?_
       refine bi h (fun c16 h => ?_) (fun c16 h => ?_)
       ·skip
        exact ek h
       exact ek h
      refine bk h fun x17 j18 h => ?_
      refine t_cut cok (fun (x17 : Int) => ⟨[(0, vs a0), (4, vi .u8 (ofB (List.getD a0 (Int.toNat 0) 0))), (5, vi .u8 x13), (6, vi .u8 x17)], []⟩) x17 ?_ ?_
      ·skip
       have h19 := h
       have h := j18
       refine t_cond cok ?_
       refine bi h (fun c20 h => ?_) (fun c20 h => ?_)
       ·skip
        exact ek h
       exact ek h
      refine t_reg cok ?_
      refine bk h fun t21 k22 h => ?_
      refine cl4 cok.g (rickyardref04_follows.sc fu _ _ _ _ _ k22) (vb t21) [] 0 ?_
      refine bi h (fun c23 h => ?_) (fun c23 h => ?_)
      ·skip
       refine bk h fun t24 k25 h => ?_
       refine cl4 cok.g (rickyardref04_follows.sc fu _ _ _ _ _ k25) (vb t24) [] 0 ?_
       refine t_cond cok ?_
       refine bi h (fun c26 h => ?_) (fun c26 h => ?_)
       ·skip
        refine t_draw cok mo [⟨0, false, [4], [], 0, []⟩, ⟨1, false, [55], [], 0, [0]⟩, ⟨2, false, [56], [], 0, [0, 1]⟩, ⟨3, false, [57], [], 0, [0, 1, 2]⟩, ⟨4, false, [0], [], 0, []⟩, ⟨5, false, [59], [], 0, [4]⟩, ⟨6, false, [60], [], 0, [4, 5]⟩, ⟨7, false, [61], [], 0, [4, 5, 6]⟩, ⟨8, false, [62], [], 0, [4, 5, 6, 7]⟩, ⟨9, false, [58, 63], [], 0, cl 9⟩, ⟨10, false, [0], [], 0, []⟩, ⟨11, false, [65], [], 0, [10]⟩, ⟨12, false, [66], [], 0, [10, 11]⟩, ⟨13, false, [67], [], 0, [10, 11, 12]⟩, ⟨14, false, [64, 68], [], 0, cl 14⟩, ⟨15, false, [69], [], 0, cl 15⟩, ⟨16, false, [], [], 0, cl 16⟩] (by kernel_rfl) ?_
        refine agL h (by decide) fun h => ?_
        refine agL h (by decide) fun h => ?_
        have hz := Option.some.inj h
        have h := h11
        rw [← hz] at h
        exact fk h
       exact esk h
      refine t_cond cok ?_
      exact esk h
     refine t_reg cok ?_
     refine bi h (fun c27 h => ?_) (fun c27 h => ?_)
     ·skip
      refine bk h fun x28 j29 h => ?_
      refine t_cutS cok (fun (_x : Unit) => ⟨[], []⟩) x28 ?_ (fun x30 hy => ?_)
      ·skip
       have h31 := h
       have h := j29
       refine t_cond cok ?_
       refine bi h (fun c32 h => ?_) (fun c32 h => ?_)
       ·skip
        refine bk h fun x33 j34 h => ?_
        refine t_cut cok (fun (x33 : Int) => ⟨[(0, vs a0), (4, vi .u8 (ofB (List.getD a0 (Int.toNat 0) 0))), (5, vi .u8 x33), (6, vi .u8 191)], []⟩) x33 ?_ ?_
        ·skip
         have h35 := h
         have h := j34
         refine t_cond cok ?_
         refine bi h (fun c36 h => ?_) (fun c36 h => ?_)
         ·skip
          exact ek h
         exact ek h
        refine bk h fun x37 j38 h => ?_
        refine t_cut cok (fun (x37 : Int) => ⟨[(0, vs a0), (4, vi .u8 (ofB (List.getD a0 (Int.toNat 0) 0))), (5, vi .u8 x33), (6, vi .u8 x37)], []⟩) x37 ?_ ?_
        ·skip
         have h39 := h
         have h := j38
         refine t_cond cok ?_
         refine bi h (fun c40 h => ?_) (fun c40 h => ?_)
         ·skip
          exact ek h
         exact ek h
        refine t_reg cok ?_
        refine bk h fun t41 k42 h => ?_
        refine cl4 cok.g (rickyardref04_follows.sc fu _ _ _ _ _ k42) (vb t41) [] 0 ?_
        refine bi h (fun c43 h => ?_) (fun c43 h => ?_)
        ·skip
         refine bk h fun t44 k45 h => ?_
         refine cl4 cok.g (rickyardref04_follows.sc fu _ _ _ _ _ k45) (vb t44) [] 0 ?_
         refine bi h (fun c46 h => ?_) (fun c46 h => ?_)
         ·skip
          refine bk h fun t47 k48 h => ?_
          refine cl4 cok.g (rickyardref04_follows.sc fu _ _ _ _ _ k48) (vb t47) [] 0 ?_
          refine t_cond cok ?_
          refine bi h (fun c49 h => ?_) (fun c49 h => ?_)
          ·skip
           refine t_draw cok mo [⟨0, false, [4], [], 0, []⟩, ⟨1, false, [93], [], 0, [0]⟩, ⟨2, false, [94], [], 0, [0, 1]⟩, ⟨3, false, [95], [], 0, [0, 1, 2]⟩, ⟨4, false, [0], [], 0, []⟩, ⟨5, false, [97], [], 0, [4]⟩, ⟨6, false, [98], [], 0, [4, 5]⟩, ⟨7, false, [99], [], 0, [4, 5, 6]⟩, ⟨8, false, [100], [], 0, [4, 5, 6, 7]⟩, ⟨9, false, [96, 101], [], 0, cl 9⟩, ⟨10, false, [0], [], 0, []⟩, ⟨11, false, [103], [], 0, [10]⟩, ⟨12, false, [104], [], 0, [10, 11]⟩, ⟨13, false, [105], [], 0, [10, 11, 12]⟩, ⟨14, false, [106], [], 0, [10, 11, 12, 13]⟩, ⟨15, false, [102, 107], [], 0, cl 15⟩, ⟨16, false, [0], [], 0, []⟩, ⟨17, false, [109], [], 0, [16]⟩, ⟨18, false, [110], [], 0, [16, 17]⟩, ⟨19, false, [111], [], 0, [16, 17, 18]⟩, ⟨20, false, [108, 112], [], 0, cl 20⟩, ⟨21, false, [113], [], 0, cl 21⟩, ⟨22, false, [], [], 0, cl 22⟩] (by kernel_rfl) ?_
           refine agL h (by decide) fun h => ?_
           refine agL h (by decide) fun h => ?_
           refine agL h (by decide) fun h => ?_
           have hz := Option.some.inj h
           have h := h31
           rw [← hz] at h
           have hz := Option.some.inj h
           have h := h11
           rw [← hz] at h
           exact fk h
          exact esk h
         refine t_cond cok ?_
         exact esk h
        refine t_cond cok ?_
        exact esk h
       exact esk h
      subst hy
      exact esk h
     refine t_cond cok ?_
     exact esk h
    subst hy
    exact fk h
   refine t_cond cok ?_
   refine t_reg cok ?_
   refine bi h (fun c50 h => ?_) (fun c50 h => ?_)
   ·skip
    refine bk h fun x51 j52 h => ?_
    refine t_cutS cok (fun (_x : Unit) => ⟨[], []⟩) x51 ?_ (fun x53 hy => ?_)
    ·skip
     have h54 := h
     have h := j52
     refine t_cond cok ?_
     refine bi h (fun c55 h => ?_) (fun c55 h => ?_)
     ·skip
      refine bk h fun x56 j57 h => ?_
      refine t_cut cok (fun (x56 : Int) => ⟨[(0, vs a0), (4, vi .u8 (ofB (List.getD a0 (Int.toNat 0) 0))), (5, vi .u8 x56), (6, vi .u8 191)], []⟩) x56 ?_ ?_
      ·skip
       have h58 := h
       have h := j57
       refine t_cond cok ?_
       refine bi h (fun c59 h => ?_) (fun c59 h => ?_)
       ·skip
        exact ek h
       exact ek h
      refine bk h fun x60 j61 h => ?_
      refine t_cut cok (fun (x60 : Int) => ⟨[(0, vs a0), (4, vi .u8 (ofB (List.getD a0 (Int.toNat 0) 0))), (5, vi .u8 x56), (6, vi .u8 x60)], []⟩) x60 ?_ ?_
      ·skip
       have h62 := h
       have h := j61
       refine t_cond cok ?_
       refine bi h (fun c63 h => ?_) (fun c63 h => ?_)
       ·skip
        exact ek h
       exact ek h
      refine t_reg cok ?_
      refine bk h fun t64 k65 h => ?_
      refine cl4 cok.g (rickyardref04_follows.sc fu _ _ _ _ _ k65) (vb t64) [] 0 ?_
      refine bi h (fun c66 h => ?_) (fun c66 h => ?_)
      ·skip
       refine bk h fun t67 k68 h => ?_
       refine cl4 cok.g (rickyardref04_follows.sc fu _ _ _ _ _ k68) (vb t67) [] 0 ?_
       refine bi h (fun c69 h => ?_) (fun c69 h => ?_)
       ·skip
        refine bk h fun t70 k71 h => ?_
        refine cl4 cok.g (rickyardref04_follows.sc fu _ _ _ _ _ k71) (vb t70) [] 0 ?_
        refine t_cond cok ?_
        refine bi h (fun c72 h => ?_) (fun c72 h => ?_)
        ·skip
         refine t_draw cok mo [⟨0, false, [4], [], 0, []⟩, ⟨1, false, [93], [], 0, [0]⟩, ⟨2, false, [94], [], 0, [0, 1]⟩, ⟨3, false, [95], [], 0, [0, 1, 2]⟩, ⟨4, false, [0], [], 0, []⟩, ⟨5, false, [97], [], 0, [4]⟩, ⟨6, false, [98], [], 0, [4, 5]⟩, ⟨7, false, [99], [], 0, [4, 5, 6]⟩, ⟨8, false, [100], [], 0, [4, 5, 6, 7]⟩, ⟨9, false, [96, 101], [], 0, cl 9⟩, ⟨10, false, [0], [], 0, []⟩, ⟨11, false, [103], [], 0, [10]⟩, ⟨12, false, [104], [], 0, [10, 11]⟩, ⟨13, false, [105], [], 0, [10, 11, 12]⟩, ⟨14, false, [106], [], 0, [10, 11, 12, 13]⟩, ⟨15, false, [102, 107], [], 0, cl 15⟩, ⟨16, false, [0], [], 0, []⟩, ⟨17, false, [109], [], 0, [16]⟩, ⟨18, false, [110], [], 0, [16, 17]⟩, ⟨19, false, [111], [], 0, [16, 17, 18]⟩, ⟨20, false, [108, 112], [], 0, cl 20⟩, ⟨21, false, [113], [], 0, cl 21⟩, ⟨22, false, [], [], 0, cl 22⟩] (by kernel_rfl) ?_
         refine agL h (by decide) fun h => ?_
         refine agL h (by decide) fun h => ?_
         refine agL h (by decide) fun h => ?_
         have hz := Option.some.inj h
         have h := h54
         rw [← hz] at h
         exact fk h
        exact esk h
       refine t_cond cok ?_
       exact esk h
      refine t_cond cok ?_
      exact esk h
     exact esk h
    subst hy
    exact fk h
   refine t_cond cok ?_
   exact fk h
  refine t_cond cok ?_
  refine t_reg cok ?_
  refine bi h (fun c73 h => ?_) (fun c73 h => ?_)
  ·skip
   refine bk h fun x74 j75 h => ?_
   refine t_cutS cok (fun (_x : Unit) => ⟨[], []⟩) x74 ?_ (fun x76 hy => ?_)
   ·skip
    have h77 := h
    have h := j75
    refine t_cond cok ?_
    refine bi h (fun c78 h => ?_) (fun c78 h => ?_)
    ·skip
     refine bk h fun x79 j80 h => ?_
     refine t_cut cok (fun (x79 : Int) => ⟨[(0, vs a0), (4, vi .u8 (ofB (List.getD a0 (Int.toNat 0) 0))), (5, vi .u8 x79), (6, vi .u8 191)], []⟩) x79 ?_ ?_
     ·skip
      have h81 := h
      have h := j80
      refine t_cond cok ?_
      refine bi h (fun c82 h => ?_) (fun c82 h => ?_)
      ·skip
       exact ek h
      exact ek h
     refine bk h fun x83 j84 h => ?_
     refine t_cut cok (fun (x83 : Int) => ⟨[(0, vs a0), (4, vi .u8 (ofB (List.getD a0 (Int.toNat 0) 0))), (5, vi .u8 x79), (6, vi .u8 x83)], []⟩) x83 ?_ ?_
     ·skip
      have h85 := h
      have h := j84
      refine t_cond cok ?_
      refine bi h (fun c86 h => ?_) (fun c86 h => ?_)
      ·skip
       exact ek h
      exact ek h
     refine t_reg cok ?_
     refine bk h fun t87 k88 h => ?_
     refine cl4 cok.g (rickyardref04_follows.sc fu _ _ _ _ _ k88) (vb t87) [] 0 ?_
     refine bi h (fun c89 h => ?_) (fun c89 h => ?_)
     ·skip
      refine bk h fun t90 k91 h => ?_
      refine cl4 cok.g (rickyardref04_follows.sc fu _ _ _ _ _ k91) (vb t90) [] 0 ?_
      refine t_cond cok ?_
      refine bi h (fun c92 h => ?_) (fun c92 h => ?_)
      ·skip
       refine t_draw cok mo [⟨0, false, [4], [], 0, []⟩, ⟨1, false, [55], [], 0, [0]⟩, ⟨2, false, [56], [], 0, [0, 1]⟩, ⟨3, false, [57], [], 0, [0, 1, 2]⟩, ⟨4, false, [0], [], 0, []⟩, ⟨5, false, [59], [], 0, [4]⟩, ⟨6, false, [60], [], 0, [4, 5]⟩, ⟨7, false, [61], [], 0, [4, 5, 6]⟩, ⟨8, false, [62], [], 0, [4, 5, 6, 7]⟩, ⟨9, false, [58, 63], [], 0, cl 9⟩, ⟨10, false, [0], [], 0, []⟩, ⟨11, false, [65], [], 0, [10]⟩, ⟨12, false, [66], [], 0, [10, 11]⟩, ⟨13, false, [67], [], 0, [10, 11, 12]⟩, ⟨14, false, [64, 68], [], 0, cl 14⟩, ⟨15, false, [69], [], 0, cl 15⟩, ⟨16, false, [], [], 0, cl 16⟩] (by kernel_rfl) ?_
       refine agL h (by decide) fun h => ?_
       refine agL h (by decide) fun h => ?_
       have hz := Option.some.inj h
       have h := h77
       rw [← hz] at h
       exact fk h
      exact esk h
     refine t_cond cok ?_
     exact esk h
    refine t_reg cok ?_
    refine bi h (fun c93 h => ?_) (fun c93 h => ?_)
    ·skip
     refine bk h fun x94 j95 h => ?_
     refine t_cutS cok (fun (_x : Unit) => ⟨[], []⟩) x94 ?_ (fun x96 hy => ?_)
     ·skip
      have h97 := h
      have h := j95
      refine t_cond cok ?_
      refine bi h (fun c98 h => ?_) (fun c98 h => ?_)
      ·skip
       refine bk h fun x99 j100 h => ?_
       refine t_cut cok (fun (x99 : Int) => ⟨[(0, vs a0), (4, vi .u8 (ofB (List.getD a0 (Int.toNat 0) 0))), (5, vi .u8 x99), (6, vi .u8 191)], []⟩) x99 ?_ ?_
       ·skip
        have h101 := h
        have h := j100
        refine t_cond cok ?_
        refine bi h (fun c102 h => ?_) (fun c102 h => ?_)
        ·skip
         exact ek h
        exact ek h
       refine bk h fun x103 j104 h => ?_
       refine t_cut cok (fun (x103 : Int) => ⟨[(0, vs a0), (4, vi .u8 (ofB (List.getD a0 (Int.toNat 0) 0))), (5, vi .u8 x99), (6, vi .u8 x103)], []⟩) x103 ?_ ?_
       ·skip
        have h105 := h
        have h := j104
        refine t_cond cok ?_
        refine bi h (fun c106 h => ?_) (fun c106 h => ?_)
        ·skip
         exact ek h
        exact ek h
       refine t_reg cok ?_
       refine bk h fun t107 k108 h => ?_
       refine cl4 cok.g (rickyardref04_follows.sc fu _ _ _ _ _ k108) (vb t107) [] 0 ?_
       refine bi h (fun c109 h => ?_) (fun c109 h => ?_)
       ·skip
        refine bk h fun t110 k111 h => ?_
        refine cl4 cok.g (rickyardref04_follows.sc fu _ _ _ _ _ k111) (vb t110) [] 0 ?_
        refine bi h (fun c112 h => ?_) (fun c112 h => ?_)
        ·skip
         refine bk h fun t113 k114 h => ?_
         refine cl4 cok.g (rickyardref04_follows.sc fu _ _ _ _ _ k114) (vb t113) [] 0 ?_
         refine t_cond cok ?_
         refine bi h (fun c115 h => ?_) (fun c115 h => ?_)
         ·skip
          refine t_draw cok mo [⟨0, false, [4], [], 0, []⟩, ⟨1, false, [93], [], 0, [0]⟩, ⟨2, false, [94], [], 0, [0, 1]⟩, ⟨3, false, [95], [], 0, [0, 1, 2]⟩, ⟨4, false, [0], [], 0, []⟩, ⟨5, false, [97], [], 0, [4]⟩, ⟨6, false, [98], [], 0, [4, 5]⟩, ⟨7, false, [99], [], 0, [4, 5, 6]⟩, ⟨8, false, [100], [], 0, [4, 5, 6, 7]⟩, ⟨9, false, [96, 101], [], 0, cl 9⟩, ⟨10, false, [0], [], 0, []⟩, ⟨11, false, [103], [], 0, [10]⟩, ⟨12, false, [104], [], 0, [10, 11]⟩, ⟨13, false, [105], [], 0, [10, 11, 12]⟩, ⟨14, false, [106], [], 0, [10, 11, 12, 13]⟩, ⟨15, false, [102, 107], [], 0, cl 15⟩, ⟨16, false, [0], [], 0, []⟩, ⟨17, false, [109], [], 0, [16]⟩, ⟨18, false, [110], [], 0, [16, 17]⟩, ⟨19, false, [111], [], 0, [16, 17, 18]⟩, ⟨20, false, [108, 112], [], 0, cl 20⟩, ⟨21, false, [113], [], 0, cl 21⟩, ⟨22, false, [], [], 0, cl 22⟩] (by kernel_rfl) ?_
          refine agL h (by decide) fun h => ?_
          refine agL h (by decide) fun h => ?_
          refine agL h (by decide) fun h => ?_
          have hz := Option.some.inj h
          have h := h97
          rw [← hz] at h
          have hz := Option.some.inj h
          have h := h77
          rw [← hz] at h
          exact fk h
         exact esk h
        refine t_cond cok ?_
        exact esk h
       refine t_cond cok ?_
       exact esk h
      exact esk h
     subst hy
     exact esk h
    refine t_cond cok ?_
    exact esk h
   subst hy
   exact fk h
  refine t_cond cok ?_
  refine t_reg cok ?_
  refine bi h (fun c116 h => ?_) (fun c116 h => ?_)
  ·skip
   refine bk h fun x117 j118 h => ?_
   refine t_cutS cok (fun (_x : Unit) => ⟨[], []⟩) x117 ?_ (fun x119 hy => ?_)
   ·skip
    have h120 := h
    have h := j118
    refine t_cond cok ?_
    refine bi h (fun c121 h => ?_) (fun c121 h => ?_)
    ·skip
     refine bk h fun x122 j123 h => ?_
     refine t_cut cok (fun (x122 : Int) => ⟨[(0, vs a0), (4, vi .u8 (ofB (List.getD a0 (Int.toNat 0) 0))), (5, vi .u8 x122), (6, vi .u8 191)], []⟩) x122 ?_ ?_
     ·skip
      have h124 := h
      have h := j123
      refine t_cond cok ?_
      refine bi h (fun c125 h => ?_) (fun c125 h => ?_)
      ·skip
       exact ek h
      exact ek h
     refine bk h fun x126 j127 h => ?_
     refine t_cut cok (fun (x126 : Int) => ⟨[(0, vs a0), (4, vi .u8 (ofB (List.getD a0 (Int.toNat 0) 0))), (5, vi .u8 x122), (6, vi .u8 x126)], []⟩) x126 ?_ ?_
     ·skip
      have h128 := h
      have h := j127
      refine t_cond cok ?_
      refine bi h (fun c129 h => ?_) (fun c129 h => ?_)
      ·skip
       exact ek h
      exact ek h
     refine t_reg cok ?_
     refine bk h fun t130 k131 h => ?_
     refine cl4 cok.g (rickyardref04_follows.sc fu _ _ _ _ _ k131) (vb t130) [] 0 ?_
     refine bi h (fun c132 h => ?_) (fun c132 h => ?_)
     ·skip
      refine bk h fun t133 k134 h => ?_
      refine cl4 cok.g (rickyardref04_follows.sc fu _ _ _ _ _ k134) (vb t133) [] 0 ?_
      refine bi h (fun c135 h => ?_) (fun c135 h => ?_)
      ·skip
       refine bk h fun t136 k137 h => ?_
       refine cl4 cok.g (rickyardref04_follows.sc fu _ _ _ _ _ k137) (vb t136) [] 0 ?_
       refine t_cond cok ?_
       refine bi h (fun c138 h => ?_) (fun c138 h => ?_)
       ·skip
        refine t_draw cok mo [⟨0, false, [4], [], 0, []⟩, ⟨1, false, [93], [], 0, [0]⟩, ⟨2, false, [94], [], 0, [0, 1]⟩, ⟨3, false, [95], [], 0, [0, 1, 2]⟩, ⟨4, false, [0], [], 0, []⟩, ⟨5, false, [97], [], 0, [4]⟩, ⟨6, false, [98], [], 0, [4, 5]⟩, ⟨7, false, [99], [], 0, [4, 5, 6]⟩, ⟨8, false, [100], [], 0, [4, 5, 6, 7]⟩, ⟨9, false, [96, 101], [], 0, cl 9⟩, ⟨10, false, [0], [], 0, []⟩, ⟨11, false, [103], [], 0, [10]⟩, ⟨12, false, [104], [], 0, [10, 11]⟩, ⟨13, false, [105], [], 0, [10, 11, 12]⟩, ⟨14, false, [106], [], 0, [10, 11, 12, 13]⟩, ⟨15, false, [102, 107], [], 0, cl 15⟩, ⟨16, false, [0], [], 0, []⟩, ⟨17, false, [109], [], 0, [16]⟩, ⟨18, false, [110], [], 0, [16, 17]⟩, ⟨19, false, [111], [], 0, [16, 17, 18]⟩, ⟨20, false, [108, 112], [], 0, cl 20⟩, ⟨21, false, [113], [], 0, cl 21⟩, ⟨22, false, [], [], 0, cl 22⟩] (by kernel_rfl) ?_
        refine agL h (by decide) fun h => ?_
        refine agL h (by decide) fun h => ?_
        refine agL h (by decide) fun h => ?_
        have hz := Option.some.inj h
        have h := h120
        rw [← hz] at h
        exact fk h
       exact esk h
      refine t_cond cok ?_
      exact esk h
     refine t_cond cok ?_
     exact esk h
    exact esk h
   subst hy
   exact fk h
  refine t_cond cok ?_
  exact fk h
 refine t_cond cok ?_
 refine t_reg cok ?_
 refine bi h (fun c139 h => ?_) (fun c139 h => ?_)
 ·skip
  refine bk h fun x140 j141 h => ?_
  refine t_cutS cok (fun (_x : Unit) => ⟨[], []⟩) x140 ?_ (fun x142 hy => ?_)
  ·skip
   have h143 := h
   have h := j141
   refine t_cond cok ?_
   refine bi h (fun c144 h => ?_) (fun c144 h => ?_)
   ·skip
    refine bk h fun x145 j146 h => ?_
    refine t_cut cok (fun (x145 : Int) => ⟨[(0, vs a0), (4, vi .u8 (ofB (List.getD a0 (Int.toNat 0) 0))), (5, vi .u8 x145), (6, vi .u8 191)], []⟩) x145 ?_ ?_
    ·skip
     have h147 := h
     have h := j146
     refine t_cond cok ?_
     refine bi h (fun c148 h => ?_) (fun c148 h => ?_)
     ·skip
      exact ek h
     exact ek h
    refine bk h fun x149 j150 h => ?_
    refine t_cut cok (fun (x149 : Int) => ⟨[(0, vs a0), (4, vi .u8 (ofB (List.getD a0 (Int.toNat 0) 0))), (5, vi .u8 x145), (6, vi .u8 x149)], []⟩) x149 ?_ ?_
    ·skip
     have h151 := h
     have h := j150
     refine t_cond cok ?_
     refine bi h (fun c152 h => ?_) (fun c152 h => ?_)
     ·skip
      exact ek h
     exact ek h
    refine t_reg cok ?_
    refine bk h fun t153 k154 h => ?_
    refine cl4 cok.g (rickyardref04_follows.sc fu _ _ _ _ _ k154) (vb t153) [] 0 ?_
    refine bi h (fun c155 h => ?_) (fun c155 h => ?_)
    ·skip
     refine bk h fun t156 k157 h => ?_
     refine cl4 cok.g (rickyardref04_follows.sc fu _ _ _ _ _ k157) (vb t156) [] 0 ?_
     refine t_cond cok ?_
     refine bi h (fun c158 h => ?_) (fun c158 h => ?_)
     ·skip
      refine t_draw cok mo [⟨0, false, [4], [], 0, []⟩, ⟨1, false, [55], [], 0, [0]⟩, ⟨2, false, [56], [], 0, [0, 1]⟩, ⟨3, false, [57], [], 0, [0, 1, 2]⟩, ⟨4, false, [0], [], 0, []⟩, ⟨5, false, [59], [], 0, [4]⟩, ⟨6, false, [60], [], 0, [4, 5]⟩, ⟨7, false, [61], [], 0, [4, 5, 6]⟩, ⟨8, false, [62], [], 0, [4, 5, 6, 7]⟩, ⟨9, false, [58, 63], [], 0, cl 9⟩, ⟨10, false, [0], [], 0, []⟩, ⟨11, false, [65], [], 0, [10]⟩, ⟨12, false, [66], [], 0, [10, 11]⟩, ⟨13, false, [67], [], 0, [10, 11, 12]⟩, ⟨14, false, [64, 68], [], 0, cl 14⟩, ⟨15, false, [69], [], 0, cl 15⟩, ⟨16, false, [], [], 0, cl 16⟩] (by kernel_rfl) ?_
      refine agL h (by decide) fun h => ?_
      refine agL h (by decide) fun h => ?_
      have hz := Option.some.inj h
      have h := h143
      rw [← hz] at h
      exact fk h
     exact esk h
    refine t_cond cok ?_
    exact esk h
   refine t_reg cok ?_
   refine bi h (fun c159 h => ?_) (fun c159 h => ?_)
   ·skip
    refine bk h fun x160 j161 h => ?_
    refine t_cutS cok (fun (_x : Unit) => ⟨[], []⟩) x160 ?_ (fun x162 hy => ?_)
    ·skip
     have h163 := h
     have h := j161
     refine t_cond cok ?_
     refine bi h (fun c164 h => ?_) (fun c164 h => ?_)
     ·skip
      refine bk h fun x165 j166 h => ?_
      refine t_cut cok (fun (x165 : Int) => ⟨[(0, vs a0), (4, vi .u8 (ofB (List.getD a0 (Int.toNat 0) 0))), (5, vi .u8 x165), (6, vi .u8 191)], []⟩) x165 ?_ ?_
      ·skip
       have h167 := h
       have h := j166
       refine t_cond cok ?_
       refine bi h (fun c168 h => ?_) (fun c168 h => ?_)
       ·skip
        exact ek h
       exact ek h
      refine bk h fun x169 j170 h => ?_
      refine t_cut cok (fun (x169 : Int) => ⟨[(0, vs a0), (4, vi .u8 (ofB (List.getD a0 (Int.toNat 0) 0))), (5, vi .u8 x165), (6, vi .u8 x169)], []⟩) x169 ?_ ?_
      ·skip
       have h171 := h
       have h := j170
       refine t_cond cok ?_
       refine bi h (fun c172 h => ?_) (fun c172 h => ?_)
       ·skip
        exact ek h
       exact ek h
      refine t_reg cok ?_
      refine bk h fun t173 k174 h => ?_
      refine cl4 cok.g (rickyardref04_follows.sc fu _ _ _ _ _ k174) (vb t173) [] 0 ?_
      refine bi h (fun c175 h => ?_) (fun c175 h => ?_)
      ·skip
       refine bk h fun t176 k177 h => ?_
       refine cl4 cok.g (rickyardref04_follows.sc fu _ _ _ _ _ k177) (vb t176) [] 0 ?_
       refine bi h (fun c178 h => ?_) (fun c178 h => ?_)
       ·skip
        refine bk h fun t179 k180 h => ?_
        refine cl4 cok.g (rickyardref04_follows.sc fu _ _ _ _ _ k180) (vb t179) [] 0 ?_
        refine t_cond cok ?_
        refine bi h (fun c181 h => ?_) (fun c181 h => ?_)
        ·skip
         refine t_draw cok mo [⟨0, false, [4], [], 0, []⟩, ⟨1, false, [93], [], 0, [0]⟩, ⟨2, false, [94], [], 0, [0, 1]⟩, ⟨3, false, [95], [], 0, [0, 1, 2]⟩, ⟨4, false, [0], [], 0, []⟩, ⟨5, false, [97], [], 0, [4]⟩, ⟨6, false, [98], [], 0, [4, 5]⟩, ⟨7, false, [99], [], 0, [4, 5, 6]⟩, ⟨8, false, [100], [], 0, [4, 5, 6, 7]⟩, ⟨9, false, [96, 101], [], 0, cl 9⟩, ⟨10, false, [0], [], 0, []⟩, ⟨11, false, [103], [], 0, [10]⟩, ⟨12, false, [104], [], 0, [10, 11]⟩, ⟨13, false, [105], [], 0, [10, 11, 12]⟩, ⟨14, false, [106], [], 0, [10, 11, 12, 13]⟩, ⟨15, false, [102, 107], [], 0, cl 15⟩, ⟨16, false, [0], [], 0, []⟩, ⟨17, false, [109], [], 0, [16]⟩, ⟨18, false, [110], [], 0, [16, 17]⟩, ⟨19, false, [111], [], 0, [16, 17, 18]⟩, ⟨20, false, [108, 112], [], 0, cl 20⟩, ⟨21, false, [113], [], 0, cl 21⟩, ⟨22, false, [], [], 0, cl 22⟩] (by kernel_rfl) ?_
         refine agL h (by decide) fun h => ?_
         refine agL h (by decide) fun h => ?_
         refine agL h (by decide) fun h => ?_
         have hz := Option.some.inj h
         have h := h163
         rw [← hz] at h
         have hz := Option.some.inj h
         have h := h143
         rw [← hz] at h
         exact fk h
        exact esk h
       refine t_cond cok ?_
       exact esk h
      refine t_cond cok ?_
      exact esk h
     exact esk h
    subst hy
    exact esk h
   refine t_cond cok ?_
   exact esk h
  subst hy
  exact fk h
 refine t_cond cok ?_
 refine t_reg cok ?_
 refine bi h (fun c182 h => ?_) (fun c182 h => ?_)
 ·skip
  refine bk h fun x183 j184 h => ?_
  refine t_cutS cok (fun (_x : Unit) => ⟨[], []⟩) x183 ?_ (fun x185 hy => ?_)
  ·skip
   have h186 := h
   have h := j184
   refine t_cond cok ?_
   refine bi h (fun c187 h => ?_) (fun c187 h => ?_)
   ·skip
    refine bk h fun x188 j189 h => ?_
    refine t_cut cok (fun (x188 : Int) => ⟨[(0, vs a0), (4, vi .u8 (ofB (List.getD a0 (Int.toNat 0) 0))), (5, vi .u8 x188), (6, vi .u8 191)], []⟩) x188 ?_ ?_
    ·skip
     have h190 := h
     have h := j189
     refine t_cond cok ?_
     refine bi h (fun c191 h => ?_) (fun c191 h => ?_)
     ·skip
      exact ek h
     exact ek h
    refine bk h fun x192 j193 h => ?_
    refine t_cut cok (fun (x192 : Int) => ⟨[(0, vs a0), (4, vi .u8 (ofB (List.getD a0 (Int.toNat 0) 0))), (5, vi .u8 x188), (6, vi .u8 x192)], []⟩) x192 ?_ ?_
    ·skip
     have h194 := h
     have h := j193
     refine t_cond cok ?_
     refine bi h (fun c195 h => ?_) (fun c195 h => ?_)
     ·skip
      exact ek h
     exact ek h
    refine t_reg cok ?_
    refine bk h fun t196 k197 h => ?_
    refine cl4 cok.g (rickyardref04_follows.sc fu _ _ _ _ _ k197) (vb t196) [] 0 ?_
    refine bi h (fun c198 h => ?_) (fun c198 h => ?_)
    ·skip
     refine bk h fun t199 k200 h => ?_
     refine cl4 cok.g (rickyardref04_follows.sc fu _ _ _ _ _ k200) (vb t199) [] 0 ?_
     refine bi h (fun c201 h => ?_) (fun c201 h => ?_)
     ·skip
      refine bk h fun t202 k203 h => ?_
      refine cl4 cok.g (rickyardref04_follows.sc fu _ _ _ _ _ k203) (vb t202) [] 0 ?_
      refine t_cond cok ?_
      refine bi h (fun c204 h => ?_) (fun c204 h => ?_)
      ·skip
       refine t_draw cok mo [⟨0, false, [4], [], 0, []⟩, ⟨1, false, [93], [], 0, [0]⟩, ⟨2, false, [94], [], 0, [0, 1]⟩, ⟨3, false, [95], [], 0, [0, 1, 2]⟩, ⟨4, false, [0], [], 0, []⟩, ⟨5, false, [97], [], 0, [4]⟩, ⟨6, false, [98], [], 0, [4, 5]⟩, ⟨7, false, [99], [], 0, [4, 5, 6]⟩, ⟨8, false, [100], [], 0, [4, 5, 6, 7]⟩, ⟨9, false, [96, 101], [], 0, cl 9⟩, ⟨10, false, [0], [], 0, []⟩, ⟨11, false, [103], [], 0, [10]⟩, ⟨12, false, [104], [], 0, [10, 11]⟩, ⟨13, false, [105], [], 0, [10, 11, 12]⟩, ⟨14, false, [106], [], 0, [10, 11, 12, 13]⟩, ⟨15, false, [102, 107], [], 0, cl 15⟩, ⟨16, false, [0], [], 0, []⟩, ⟨17, false, [109], [], 0, [16]⟩, ⟨18, false, [110], [], 0, [16, 17]⟩, ⟨19, false, [111], [], 0, [16, 17, 18]⟩, ⟨20, false, [108, 112], [], 0, cl 20⟩, ⟨21, false, [113], [], 0, cl 21⟩, ⟨22, false, [], [], 0, cl 22⟩] (by kernel_rfl) ?_
       refine agL h (by decide) fun h => ?_
       refine agL h (by decide) fun h => ?_
       refine agL h (by decide) fun h => ?_
       have hz := Option.some.inj h
       have h := h186
       rw [← hz] at h
       exact fk h
      exact esk h
     refine t_cond cok ?_
     exact esk h
    refine t_cond cok ?_
    exact esk h
   exact esk h
  subst hy
  exact fk h
 refine t_cond cok ?_
 exact fk h
def rickyardref04_Runes.s0 (fu : Nat) : ((List UInt8) × (List Int)) → Option (Sum (List Int) ((List UInt8) × (List Int))) := fun s1 => (if (decide ((List.length s1.1 : Int) > 0)) then ((rickyardref04_First.f fu s1.1).bind fun t7 => if List.length s1.2 + List.length [t7.1] ≤ LIM then if 0 ≤ t7.2 ∧ t7.2 ≤ (List.length s1.1 : Int) then some (Sum.inr ((cut s1.1 t7.2 (List.length s1.1 : Int)), (s1.2 ++ [t7.1]))) else none else none) else some (Sum.inl (s1.2)))
def rickyardref04_Runes.f (fu : Nat) (a0 : List UInt8) : Option (List Int) := ((loopM (rickyardref04_Runes.s0 fu) fu (a0, ([] : List Int))).bind fun e2 => some (e2))
theorem rickyardref04_Runes.sc (fu : Nat) (a0 : List UInt8) (r : (List Int)) (h : rickyardref04_Runes.f fu a0 = some r) : SC Tryz.prog CT 61 [vs a0] [] (.sl 0 1 []) [.row (.int .i64) 3 (r : List Int)] := by
 unfold rickyardref04_Runes.f at h
 refine sq Tryz.func61 r (fun r => .sl 0 1 []) (fun r => [.row (.int .i64) 3 (r : List Int)]) fun X => ?_
 refine bk h fun e2 l3 h => ?_
 refine t_cutx cok 0 (fun (e2 : (List Int)) => ⟨[(3, .sl 0 1 [])], [.row (.int .i64) 3 (e2 : List Int)]⟩) e2 ?_ ?_
 ·skip
  have h4 := h
  refine t_loop cok (fun (s1 : (List UInt8) × (List Int)) => ⟨[(0, vs s1.1), (3, .sl 0 1 [])], [.row (.int .i64) 3 (s1.2 : List Int)]⟩) l3 (by kernel_rfl) (fun s1 x5 h => ?_)
  unfold rickyardref04_Runes.s0 at h
  refine t_cond cok ?_
  refine bi h (fun c6 h => ?_) (fun c6 h => ?_)
  ·skip
   refine bk h fun t7 k8 h => ?_
   refine cl4 cok.g (rickyardref04_First.sc fu _ _ k8) (.tup [vi .i64 t7.1, vi .i64 t7.2]) [] 1 ?_
   refine ag h fun h => ?_
   refine ag h fun h => ?_
   exact lik h
  exact lpx h fun hy => ek (sj hy)
 exact fk h
def rickyardref04_Compare.s0 (fu : Nat) (t1 : (List Int)) (t3 : (List Int)) : Int → Option (Sum (Sum Int Unit) Int) := fun s5 => (if (decide (s5 < (List.length t1 : Int))) then (if (decide (s5 < (List.length t3 : Int))) then if 0 ≤ s5 ∧ s5 < (List.length t1 : Int) then if 0 ≤ s5 ∧ s5 < (List.length t3 : Int) then (if (decide ((ix t1 s5) < (ix t3 s5))) then some (Sum.inl (Sum.inl ((-1)))) else if 0 ≤ s5 ∧ s5 < (List.length t1 : Int) then if 0 ≤ s5 ∧ s5 < (List.length t3 : Int) then (if (decide ((ix t1 s5) > (ix t3 s5))) then some (Sum.inl (Sum.inl (1))) else some (Sum.inr ((IntKind.i64.wrap (s5 + 1))))) else none else none) else none else none else some (Sum.inl (Sum.inr ()))) else some (Sum.inl (Sum.inr ())))
def rickyardref04_Compare.f (fu : Nat) (a0 : List UInt8) (a1 : List UInt8) : Option Int := ((rickyardref04_Runes.f fu a0).bind fun t1 => ((rickyardref04_Runes.f fu a1).bind fun t3 => ((loopM (rickyardref04_Compare.s0 fu t1 t3) fu (0)).bind fun e6 => match e6 with | Sum.inl p => some p | Sum.inr x8 => (if (decide ((List.length t1 : Int) < (List.length t3 : Int))) then some ((-1)) else (if (decide ((List.length t1 : Int) > (List.length t3 : Int))) then some (1) else some (0))))))
theorem rickyardref04_Compare.sc (fu : Nat) (a0 : List UInt8) (a1 : List UInt8) (r : Int) (h : rickyardref04_Compare.f fu a0 a1 = some r) : SC Tryz.prog CT 33 [vs a0, vs a1] [] (vi .i64 r) [] := by
 unfold rickyardref04_Compare.f at h
 refine sq Tryz.func33 r (fun r => vi .i64 r) (fun r => []) fun X => ?_
 refine bk h fun t1 k2 h => ?_
 refine cl4 cok.g (rickyardref04_Runes.sc fu _ _ k2) (.sl 0 1 []) [(0, .row (.int .i64) 3 (t1 : List Int))] 1 ?_
 refine bk h fun t3 k4 h => ?_
 refine cl4 cok.g (rickyardref04_Runes.sc fu _ _ k4) (.sl 1 1 []) [(1, .row (.int .i64) 3 (t3 : List Int))] 2 ?_
 refine bk h fun e6 l7 h => ?_
 refine t_cutxS cok 0 (fun (_x : Unit) => ⟨[(5, .sl 0 1 []), (6, .sl 1 1 [])], [.row (.int .i64) 3 (t1 : List Int), .row (.int .i64) 3 (t3 : List Int)]⟩) e6 ?_ (fun x8 hy => ?_)
 ·skip
  have h9 := h
  refine t_loop cok (fun (s5 : Int) => ⟨[(5, .sl 0 1 []), (6, .sl 1 1 []), (7, vi .i64 s5)], [.row (.int .i64) 3 (t1 : List Int), .row (.int .i64) 3 (t3 : List Int)]⟩) l7 (by kernel_rfl) (fun s5 x10 h => ?_)
  unfold rickyardref04_Compare.s0 at h
  refine t_reg cok ?_
  refine bi h (fun c11 h => ?_) (fun c11 h => ?_)
  ·skip
   refine t_cond cok ?_
   refine bi h (fun c12 h => ?_) (fun c12 h => ?_)
   ·skip
    refine t_draw cok mo [⟨0, false, [5], [], 0, []⟩, ⟨1, false, [7], [], 0, []⟩, ⟨2, false, [24, 25], [0], 0, [0, 1]⟩, ⟨3, false, [26], [0], 0, [0, 1, 2]⟩, ⟨4, false, [6], [], 0, []⟩, ⟨5, false, [7], [], 0, []⟩, ⟨6, false, [28, 29], [1], 0, [4, 5]⟩, ⟨7, false, [30], [1], 0, [4, 5, 6]⟩, ⟨8, false, [27, 31], [], 0, cl 8⟩] (by kernel_rfl) ?_
    refine ag h fun h => ?_
    refine ag h fun h => ?_
    refine t_cond cok ?_
    refine bi h (fun c13 h => ?_) (fun c13 h => ?_)
    ·skip
     refine lpr h (fun hy => ?_)
     have h := h9
     rw [← hy] at h
     exact fk h
    refine t_draw cok mo [⟨0, false, [5], [], 0, []⟩, ⟨1, false, [7], [], 0, []⟩, ⟨2, false, [33, 34], [0], 0, [0, 1]⟩, ⟨3, false, [35], [0], 0, [0, 1, 2]⟩, ⟨4, false, [6], [], 0, []⟩, ⟨5, false, [7], [], 0, []⟩, ⟨6, false, [37, 38], [1], 0, [4, 5]⟩, ⟨7, false, [39], [1], 0, [4, 5, 6]⟩, ⟨8, false, [36, 40], [], 0, cl 8⟩] (by kernel_rfl) ?_
    refine ag h fun h => ?_
    refine ag h fun h => ?_
    refine t_cond cok ?_
    refine bi h (fun c14 h => ?_) (fun c14 h => ?_)
    ·skip
     refine lpr h (fun hy => ?_)
     have h := h9
     rw [← hy] at h
     exact fk h
    exact lik h
   exact lpx h fun hy => esk (sj hy)
  refine t_cond cok ?_
  exact lpx h fun hy => esk (sj hy)
 subst hy
 refine t_cond cok ?_
 refine bi h (fun c15 h => ?_) (fun c15 h => ?_)
 ·skip
  exact fk h
 refine t_cond cok ?_
 refine bi h (fun c16 h => ?_) (fun c16 h => ?_)
 ·skip
  exact fk h
 exact fk h
def rickyardref01_Number.s0 (fu : Nat) (a0 : List UInt8) : (Int × Int) → Option (Sum Int (Int × Int)) := fun s1 => (if (decide (s1.2 ≥ 0)) then (((if (decide (s1.2 < 8)) then if 0 ≤ s1.2 ∧ s1.2 < (List.length a0 : Int) then some ((IntKind.u64.wrap ((IntKind.u64.wrap (s1.1 * 256)) + (IntKind.u64.wrap (ofB (List.getD a0 (Int.toNat s1.2) 0)))))) else none else some (s1.1)) : Option Int).bind fun x7 => some (Sum.inr (x7, (IntKind.i64.wrap (s1.2 - 1))))) else some (Sum.inl (s1.1)))
def rickyardref01_Number.f (fu : Nat) (a0 : List UInt8) : Option Int := ((loopM (rickyardref01_Number.s0 fu a0) fu (0, (IntKind.i64.wrap ((List.length a0 : Int) - 1)))).bind fun e2 => some (e2))
theorem rickyardref01_Number.sc (fu : Nat) (a0 : List UInt8) (r : Int) (h : rickyardref01_Number.f fu a0 = some r) : SC Tryz.prog CT 87 [vs a0] [] (vi .u64 r) [] := by
 unfold rickyardref01_Number.f at h
 refine sq Tryz.func87 r (fun r => vi .u64 r) (fun r => []) fun X => ?_
 refine bk h fun e2 l3 h => ?_
 refine t_cutx cok 0 (fun (e2 : Int) => ⟨[(3, vi .u64 e2)], []⟩) e2 ?_ ?_
 ·skip
  have h4 := h
  refine t_loop cok (fun (s1 : Int × Int) => ⟨[(0, vs a0), (3, vi .u64 s1.1), (4, vi .i64 s1.2)], []⟩) l3 (by kernel_rfl) (fun s1 x5 h => ?_)
  unfold rickyardref01_Number.s0 at h
  refine t_cond cok ?_
  refine bi h (fun c6 h => ?_) (fun c6 h => ?_)
  ·skip
   refine bk h fun x7 j8 h => ?_
   refine t_cut cok (fun (x7 : Int) => ⟨[(0, vs a0), (3, vi .u64 x7), (4, vi .i64 s1.2)], []⟩) x7 ?_ ?_
   ·skip
    have h9 := h
    have h := j8
    refine t_cond cok ?_
    refine bi h (fun c10 h => ?_) (fun c10 h => ?_)
    ·skip
     refine ag h fun h => ?_
     exact ek h
    exact ek h
   exact lik h
  exact lpx h fun hy => ek (sj hy)
 exact fk h
def rickyardref01_Int.f (fu : Nat) (a0 : List UInt8) : Option Int := ((rickyardref01_Number.f fu a0).bind fun t1 => some ((IntKind.i64.wrap t1)))
theorem rickyardref01_Int.sc (fu : Nat) (a0 : List UInt8) (r : Int) (h : rickyardref01_Int.f fu a0 = some r) : SC Tryz.prog CT 58 [vs a0] [] (vi .i64 r) [] := by
 unfold rickyardref01_Int.f at h
 refine sq Tryz.func58 r (fun r => vi .i64 r) (fun r => []) fun X => ?_
 refine bk h fun t1 k2 h => ?_
 refine cl4 cok.g (rickyardref01_Number.sc fu _ _ k2) (vi .u64 t1) [] 0 ?_
 exact fk h
def rickyardref01_Octet.s0 (fu : Nat) (a1 : Int) : (Int × Int) → Option (Sum Int (Int × Int)) := fun s1 => (if (decide (s1.2 < a1)) then some (Sum.inr ((IntKind.u64.wrap (Int.tdiv s1.1 256)), (IntKind.i64.wrap (s1.2 + 1)))) else some (Sum.inl (s1.1)))
def rickyardref01_Octet.f (fu : Nat) (a0 : Int) (a1 : Int) : Option Int := ((loopM (rickyardref01_Octet.s0 fu a1) fu (a0, 0)).bind fun e2 => some ((IntKind.u8.wrap (Int.tmod e2 256))))
theorem rickyardref01_Octet.sc (fu : Nat) (a0 : Int) (a1 : Int) (r : Int) (h : rickyardref01_Octet.f fu a0 a1 = some r) : SC Tryz.prog CT 110 [vi .u64 a0, vi .i64 a1] [] (vi .u8 r) [] := by
 unfold rickyardref01_Octet.f at h
 refine sq Tryz.func110 r (fun r => vi .u8 r) (fun r => []) fun X => ?_
 refine bk h fun e2 l3 h => ?_
 refine t_cutx cok 0 (fun (e2 : Int) => ⟨[(0, vi .u64 e2)], []⟩) e2 ?_ ?_
 ·skip
  have h4 := h
  refine t_loop cok (fun (s1 : Int × Int) => ⟨[(0, vi .u64 s1.1), (1, vi .i64 a1), (5, vi .i64 s1.2)], []⟩) l3 (by kernel_rfl) (fun s1 x5 h => ?_)
  unfold rickyardref01_Octet.s0 at h
  refine t_cond cok ?_
  refine bi h (fun c6 h => ?_) (fun c6 h => ?_)
  ·skip
   refine ⟨by decide, ?_⟩
   exact lik h
  exact lpx h fun hy => ek (sj hy)
 refine ⟨by decide, ?_⟩
 exact fk h
def rickyardref01_Lay.s0 (fu : Nat) (a0 : Int) (a1 : Int) : ((List UInt8) × Int) → Option (Sum (List UInt8) ((List UInt8) × Int)) := fun s1 => (if (decide (s1.2 < a1)) then ((rickyardref01_Octet.f fu a0 s1.2).bind fun t7 => if List.length s1.1 + List.length (List.map toB [t7]) ≤ LIM then some (Sum.inr ((s1.1 ++ (List.map toB [t7])), (IntKind.i64.wrap (s1.2 + 1)))) else none) else some (Sum.inl (s1.1)))
def rickyardref01_Lay.f (fu : Nat) (a0 : Int) (a1 : Int) : Option (List UInt8) := ((loopM (rickyardref01_Lay.s0 fu a0 a1) fu ([], 0)).bind fun e2 => some (e2))
theorem rickyardref01_Lay.sc (fu : Nat) (a0 : Int) (a1 : Int) (r : (List UInt8)) (h : rickyardref01_Lay.f fu a0 a1 = some r) : SC Tryz.prog CT 88 [vi .u64 a0, vi .i64 a1] [] (vs r) [] := by
 unfold rickyardref01_Lay.f at h
 refine sq Tryz.func88 r (fun r => vs r) (fun r => []) fun X => ?_
 refine bk h fun e2 l3 h => ?_
 refine t_cutx cok 0 (fun (e2 : (List UInt8)) => ⟨[(5, vs e2)], []⟩) e2 ?_ ?_
 ·skip
  have h4 := h
  refine t_loop cok (fun (s1 : (List UInt8) × Int) => ⟨[(0, vi .u64 a0), (1, vi .i64 a1), (5, vs s1.1), (6, vi .i64 s1.2)], []⟩) l3 (by kernel_rfl) (fun s1 x5 h => ?_)
  unfold rickyardref01_Lay.s0 at h
  refine t_cond cok ?_
  refine bi h (fun c6 h => ?_) (fun c6 h => ?_)
  ·skip
   refine bk h fun t7 k8 h => ?_
   refine cl4 cok.g (rickyardref01_Octet.sc fu _ _ _ k8) (vi .u8 t7) [] 0 ?_
   refine ag h fun h => ?_
   exact lik h
  exact lpx h fun hy => ek (sj hy)
 exact fk h
def rickyardref02_Step.f (fu : Nat) (a0 : Int) : Option Int := (if (decide ((Int.tmod a0 2) = 1)) then some ((bXor .u32 (IntKind.u32.wrap (Int.tdiv a0 2)) 2197175160)) else some ((IntKind.u32.wrap (Int.tdiv a0 2))))
theorem rickyardref02_Step.sc (fu : Nat) (a0 : Int) (r : Int) (h : rickyardref02_Step.f fu a0 = some r) : SC Tryz.prog CT 129 [vi .u32 a0] [] (vi .u32 r) [] := by
 unfold rickyardref02_Step.f at h
 refine sq Tryz.func129 r (fun r => vi .u32 r) (fun r => []) fun X => ?_
 refine ⟨by decide, ?_⟩
 refine t_cond cok ?_
 refine bi h (fun c1 h => ?_) (fun c1 h => ?_)
 ·skip
  refine ⟨by decide, ?_⟩
  exact fk h
 refine ⟨by decide, ?_⟩
 exact fk h
def rickyardref02_Steps.s0 (fu : Nat) (a1 : Int) : (Int × Int) → Option (Sum Int (Int × Int)) := fun s1 => (if (decide (s1.2 < a1)) then ((rickyardref02_Step.f fu s1.1).bind fun t7 => some (Sum.inr (t7, (IntKind.i64.wrap (s1.2 + 1))))) else some (Sum.inl (s1.1)))
def rickyardref02_Steps.f (fu : Nat) (a0 : Int) (a1 : Int) : Option Int := ((loopM (rickyardref02_Steps.s0 fu a1) fu (a0, 0)).bind fun e2 => some (e2))
theorem rickyardref02_Steps.sc (fu : Nat) (a0 : Int) (a1 : Int) (r : Int) (h : rickyardref02_Steps.f fu a0 a1 = some r) : SC Tryz.prog CT 124 [vi .u32 a0, vi .i64 a1] [] (vi .u32 r) [] := by
 unfold rickyardref02_Steps.f at h
 refine sq Tryz.func124 r (fun r => vi .u32 r) (fun r => []) fun X => ?_
 refine bk h fun e2 l3 h => ?_
 refine t_cutx cok 0 (fun (e2 : Int) => ⟨[(0, vi .u32 e2)], []⟩) e2 ?_ ?_
 ·skip
  have h4 := h
  refine t_loop cok (fun (s1 : Int × Int) => ⟨[(0, vi .u32 s1.1), (1, vi .i64 a1), (5, vi .i64 s1.2)], []⟩) l3 (by kernel_rfl) (fun s1 x5 h => ?_)
  unfold rickyardref02_Steps.s0 at h
  refine t_cond cok ?_
  refine bi h (fun c6 h => ?_) (fun c6 h => ?_)
  ·skip
   refine bk h fun t7 k8 h => ?_
   refine cl4 cok.g (rickyardref02_Step.sc fu _ _ k8) (vi .u32 t7) [] 0 ?_
   exact lik h
  exact lpx h fun hy => ek (sj hy)
 exact fk h
def rickyardref02_Sum.s0 (fu : Nat) (a0 : List Int) : (Int × Int) → Option (Sum Int (Int × Int)) := fun s1 => (if (decide (s1.2 < (List.length a0 : Int))) then if 0 ≤ s1.2 ∧ s1.2 < (List.length a0 : Int) then ((rickyardref02_Steps.f fu (bXor .u32 s1.1 (IntKind.u32.wrap (ix a0 s1.2))) 8).bind fun t7 => some (Sum.inr (t7, (IntKind.i64.wrap (s1.2 + 1))))) else none else some (Sum.inl (s1.1)))
def rickyardref02_Sum.f (fu : Nat) (a0 : List Int) : Option Int := ((loopM (rickyardref02_Sum.s0 fu a0) fu (4294967295, 0)).bind fun e2 => some ((IntKind.u32.wrap (4294967295 - e2))))
theorem rickyardref02_Sum.sc (fu : Nat) (a0 : List Int) (r : Int) (h : rickyardref02_Sum.f fu a0 = some r) : SC Tryz.prog CT 109 [.v (.sl (.int .u8)) (a0 : List Int)] [] (vi .u32 r) [] := by
 unfold rickyardref02_Sum.f at h
 refine sq Tryz.func109 r (fun r => vi .u32 r) (fun r => []) fun X => ?_
 refine bk h fun e2 l3 h => ?_
 refine t_cutx cok 0 (fun (e2 : Int) => ⟨[(3, vi .u32 e2)], []⟩) e2 ?_ ?_
 ·skip
  have h4 := h
  refine t_loop cok (fun (s1 : Int × Int) => ⟨[(0, .v (.sl (.int .u8)) (a0 : List Int)), (3, vi .u32 s1.1), (4, vi .i64 s1.2)], []⟩) l3 (by kernel_rfl) (fun s1 x5 h => ?_)
  unfold rickyardref02_Sum.s0 at h
  refine t_cond cok ?_
  refine bi h (fun c6 h => ?_) (fun c6 h => ?_)
  ·skip
   refine ag h fun h => ?_
   refine bk h fun t7 k8 h => ?_
   refine cl4 cok.g (rickyardref02_Steps.sc fu _ _ _ k8) (vi .u32 t7) [] 0 ?_
   exact lik h
  exact lpx h fun hy => ek (sj hy)
 exact fk h
def rickyardref07_Fill.f (fu : Nat) (a0 : List UInt8) (a1 : Int) : Option (List UInt8) := if 0 ≤ (mxI (IntKind.i64.wrap (a1 - (List.length a0 : Int))) 0) ∧ Int.toNat (mxI (IntKind.i64.wrap (a1 - (List.length a0 : Int))) 0) ≤ LIM then if List.length a0 + List.length (List.map toB (List.replicate (Int.toNat (mxI (IntKind.i64.wrap (a1 - (List.length a0 : Int))) 0)) (0 : Int))) ≤ LIM then some ((a0 ++ (List.map toB (List.replicate (Int.toNat (mxI (IntKind.i64.wrap (a1 - (List.length a0 : Int))) 0)) (0 : Int))))) else none else none
theorem rickyardref07_Fill.sc (fu : Nat) (a0 : List UInt8) (a1 : Int) (r : (List UInt8)) (h : rickyardref07_Fill.f fu a0 a1 = some r) : SC Tryz.prog CT 108 [vs a0, vi .i64 a1] [] (vs r) [] := by
 unfold rickyardref07_Fill.f at h
 refine sq Tryz.func108 r (fun r => vs r) (fun r => []) fun X => ?_
 refine agL h rfl fun h => ?_
 refine ag h fun h => ?_
 exact fk h
def rickyardref07_Seal.f (fu : Nat) (a0 : Int) (a1 : Int) (a2 : List UInt8) : Option (List UInt8) := ((rickyardref07_Fill.f fu a2 56).bind fun t1 => if List.length (List.map toB [(IntKind.u8.wrap a0), (IntKind.u8.wrap a1), 0, 0]) + List.length t1 ≤ LIM then ((rickyardref02_Sum.f fu (List.map ofB ((List.map toB [(IntKind.u8.wrap a0), (IntKind.u8.wrap a1), 0, 0]) ++ t1))).bind fun t3 => ((rickyardref01_Lay.f fu (IntKind.u64.wrap t3) 4).bind fun t5 => if List.length t5 + List.length ((List.map toB [(IntKind.u8.wrap a0), (IntKind.u8.wrap a1), 0, 0]) ++ t1) ≤ LIM then some ((t5 ++ ((List.map toB [(IntKind.u8.wrap a0), (IntKind.u8.wrap a1), 0, 0]) ++ t1))) else none)) else none)
theorem rickyardref07_Seal.sc (fu : Nat) (a0 : Int) (a1 : Int) (a2 : List UInt8) (r : (List UInt8)) (h : rickyardref07_Seal.f fu a0 a1 a2 = some r) : SC Tryz.prog CT 86 [vi .i64 a0, vi .i64 a1, vs a2] [] (vs r) [] := by
 unfold rickyardref07_Seal.f at h
 refine sq Tryz.func86 r (fun r => vs r) (fun r => []) fun X => ?_
 refine t_draw cok mo [⟨0, false, [0], [], 0, []⟩, ⟨1, false, [8], [], 0, [0]⟩, ⟨2, false, [1], [], 0, []⟩, ⟨3, false, [10], [], 0, [2]⟩, ⟨4, true, [9, 11], [], 1, cl 4⟩, ⟨5, false, [12], [0], 0, cl 5⟩, ⟨6, false, [2], [], 0, []⟩, ⟨7, true, [14], [], 0, [6]⟩, ⟨8, false, [13, 15], [], 0, cl 8⟩, ⟨9, false, [16], [], 0, cl 9⟩] (by kernel_rfl) ?_
 refine bk h fun t1 k2 h => ?_
 refine cl4 cok.g (rickyardref07_Fill.sc fu _ _ _ k2) (vs t1) [] 1 ?_
 refine ag h fun h => ?_
 refine bk h fun t3 k4 h => ?_
 refine cl4 cok.g (rickyardref02_Sum.sc fu _ _ k4) (vi .u32 t3) [] 2 ?_
 refine bk h fun t5 k6 h => ?_
 refine cl4 cok.g (rickyardref01_Lay.sc fu _ _ _ k6) (vs t5) [] 2 ?_
 refine ag h fun h => ?_
 exact fk h
def rickyardref07_Open.f (fu : Nat) (a0 : List Int) : Option (Int × Int × (List UInt8) × Bool) := (if (!decide ((List.length a0 : Int) = 64)) then some (0, 0, [], false) else if (4 : Int) < (List.length a0 : Int) then (if (decide ((ix a0 4) = 0)) then some (0, 0, [], false) else if (4 : Int) < (List.length a0 : Int) then if (5 : Int) < (List.length a0 : Int) then if (8 : Int) ≤ (List.length a0 : Int) then ((rickyardref07_Seal.f fu (IntKind.i64.wrap (ix a0 4)) (IntKind.i64.wrap (ix a0 5)) (List.map toB (cut a0 8 (List.length a0 : Int)))).bind fun t3 => (if (!decide (t3 = (List.map toB a0))) then some (0, 0, [], false) else if (4 : Int) < (List.length a0 : Int) then if (5 : Int) < (List.length a0 : Int) then if (8 : Int) ≤ (List.length a0 : Int) then some ((IntKind.i64.wrap (ix a0 4)), (IntKind.i64.wrap (ix a0 5)), (List.map toB (cut a0 8 (List.length a0 : Int))), true) else none else none else none)) else none else none else none) else none)
theorem rickyardref07_Open.sc (fu : Nat) (a0 : List Int) (r : Int × Int × (List UInt8) × Bool) (h : rickyardref07_Open.f fu a0 = some r) : SC Tryz.prog CT 57 [.v (.sl (.int .u8)) (a0 : List Int)] [] (.tup [vi .i64 r.1, vi .i64 r.2.1, vs r.2.2.1, vb r.2.2.2]) [] := by
 unfold rickyardref07_Open.f at h
 refine sq Tryz.func57 r (fun r => .tup [vi .i64 r.1, vi .i64 r.2.1, vs r.2.2.1, vb r.2.2.2]) (fun r => []) fun X => ?_
 refine t_draw cok mo [⟨0, false, [0], [], 0, []⟩, ⟨1, false, [6], [], 0, [0]⟩, ⟨2, false, [7], [], 0, [0, 1]⟩, ⟨3, false, [8], [], 0, [0, 1, 2]⟩, ⟨4, false, [0, 9], [], 0, cl 4⟩, ⟨5, false, [9, 10], [], 0, cl 5⟩, ⟨6, false, [9, 11], [], 0, cl 6⟩, ⟨7, false, [9, 12], [], 0, cl 7⟩, ⟨8, true, [9, 13], [], 0, cl 8⟩, ⟨9, false, [14], [], 0, cl 9⟩, ⟨10, false, [0, 15], [], 0, cl 10⟩, ⟨11, false, [15, 16], [], 0, cl 11⟩, ⟨12, false, [15, 17], [], 0, cl 12⟩, ⟨13, false, [15, 18], [], 0, cl 13⟩, ⟨14, false, [0, 15], [], 0, cl 10⟩, ⟨15, false, [15, 20], [], 0, cl 10 ++ [14]⟩, ⟨16, false, [15, 21], [], 0, cl 10 ++ [14, 15]⟩, ⟨17, false, [15, 22], [], 0, cl 10 ++ [14, 15, 16]⟩, ⟨18, false, [0, 15], [], 0, cl 10⟩, ⟨19, false, [15, 24], [], 0, cl 10 ++ [18]⟩, ⟨20, false, [15, 25], [], 0, cl 10 ++ [18, 19]⟩, ⟨21, true, [15, 19, 23, 26], [], 0, cl 21⟩, ⟨22, false, [0, 15], [], 0, cl 10⟩, ⟨23, false, [15, 28], [], 0, cl 10 ++ [22]⟩, ⟨24, false, [15, 27, 29], [], 0, cl 24⟩, ⟨25, true, [15, 30], [], 0, cl 25⟩] (by kernel_rfl) ?_
 refine bi h (fun c1 h => ?_) (fun c1 h => ?_)
 ·skip
  refine t_cond cok ?_
  exact fk h
 refine agL h (by decide) fun h => ?_
 refine bi h (fun c2 h => ?_) (fun c2 h => ?_)
 ·skip
  refine t_cond cok ?_
  exact fk h
 refine agL h (by decide) fun h => ?_
 refine agL h (by decide) fun h => ?_
 refine agL h (by decide) fun h => ?_
 refine bk h fun t3 k4 h => ?_
 refine cl4 cok.g (rickyardref07_Seal.sc fu _ _ _ _ k4) (vs t3) [] 0 ?_
 refine t_cond cok ?_
 refine bi h (fun c5 h => ?_) (fun c5 h => ?_)
 ·skip
  exact fk h
 refine t_draw cok mo [⟨0, false, [0], [], 0, []⟩, ⟨1, false, [32], [], 0, [0]⟩, ⟨2, false, [33], [], 0, [0, 1]⟩, ⟨3, false, [34], [], 0, [0, 1, 2]⟩, ⟨4, false, [0], [], 0, []⟩, ⟨5, false, [36], [], 0, [4]⟩, ⟨6, false, [37], [], 0, [4, 5]⟩, ⟨7, false, [38], [], 0, [4, 5, 6]⟩, ⟨8, false, [0], [], 0, []⟩, ⟨9, false, [40], [], 0, [8]⟩, ⟨10, false, [41], [], 0, [8, 9]⟩, ⟨11, false, [35], [], 0, cl 4⟩, ⟨12, false, [39], [], 0, cl 8 ++ [11]⟩, ⟨13, false, [42], [], 0, cl 13⟩, ⟨14, false, [], [], 0, cl 14⟩] (by kernel_rfl) ?_
 refine agL h (by decide) fun h => ?_
 refine agL h (by decide) fun h => ?_
 refine agL h (by decide) fun h => ?_
 exact fk h
def rickyardref11_Put.s0 (fu : Nat) (a0 : S_api_Queue) : ((List UInt8) × Int) → Option (Sum (List UInt8) ((List UInt8) × Int)) := fun s3 => (if (decide (s3.2 < 12)) then if 0 ≤ s3.2 ∧ s3.2 < 12 then ((rickyardref01_Lay.f fu (IntKind.u64.wrap (Arr.get a0.Roots s3.2)) 2).bind fun t9 => if List.length s3.1 + List.length t9 ≤ LIM then some (Sum.inr ((s3.1 ++ t9), (IntKind.i64.wrap (s3.2 + 1)))) else none) else none else some (Sum.inl (s3.1)))
def rickyardref11_Put.f (fu : Nat) (a0 : S_api_Queue) : Option (List UInt8) := ((rickyardref01_Lay.f fu (IntKind.u64.wrap a0.Count) 4).bind fun t1 => ((loopM (rickyardref11_Put.s0 fu a0) fu (t1, 0)).bind fun e4 => if List.length e4 + List.length a0.Name ≤ LIM then ((rickyardref07_Seal.f fu 5 (List.length a0.Name : Int) (e4 ++ a0.Name)).bind fun t11 => some (t11)) else none))
theorem rickyardref11_Put.sc (fu : Nat) (a0 : S_api_Queue) (r : (List UInt8)) (h : rickyardref11_Put.f fu a0 = some r) : SC Tryz.prog CT 60 [.v (.st .S_api_Queue) (a0 : S_api_Queue)] [] (vs r) [] := by
 unfold rickyardref11_Put.f at h
 refine sq Tryz.func60 r (fun r => vs r) (fun r => []) fun X => ?_
 refine bk h fun t1 k2 h => ?_
 refine cl4 cok.g (rickyardref01_Lay.sc fu _ _ _ k2) (vs t1) [] 1 ?_
 refine bk h fun e4 l5 h => ?_
 refine t_cutx cok 0 (fun (e4 : (List UInt8)) => ⟨[(1, .ptr 0 0), (3, vs e4)], [.box 46 (.v (.st .S_api_Queue) (a0 : S_api_Queue))]⟩) e4 ?_ ?_
 ·skip
  have h6 := h
  refine t_loop cok (fun (s3 : (List UInt8) × Int) => ⟨[(1, .ptr 0 0), (3, vs s3.1), (4, vi .i64 s3.2)], [.box 46 (.v (.st .S_api_Queue) (a0 : S_api_Queue))]⟩) l5 (by kernel_rfl) (fun s3 x7 h => ?_)
  unfold rickyardref11_Put.s0 at h
  refine t_cond cok ?_
  refine bi h (fun c8 h => ?_) (fun c8 h => ?_)
  ·skip
   refine ag h fun h => ?_
   refine bk h fun t9 k10 h => ?_
   refine cl4 cok.g (rickyardref01_Lay.sc fu _ _ _ k10) (vs t9) [] 1 ?_
   refine ag h fun h => ?_
   exact lik h
  exact lpx h fun hy => ek (sj hy)
 refine ag h fun h => ?_
 refine bk h fun t11 k12 h => ?_
 refine cl4 cok.g (rickyardref07_Seal.sc fu _ _ _ _ k12) (vs t11) [] 1 ?_
 exact fk h
def rickyardref04_Of.f (fu : Nat) (a0 : Int) : Option Bool := (if (decide (a0 ≥ 97)) then (if (decide (a0 ≤ 122)) then some (true) else (if (decide (a0 ≥ 65)) then (if (decide (a0 ≤ 90)) then some (true) else (if (decide (a0 ≥ 48)) then (if (decide (a0 ≤ 57)) then some (true) else (if (decide (a0 = 45)) then some (true) else (if (decide (a0 = 95)) then some (true) else (if (decide (a0 ≥ 161)) then some ((decide (a0 ≤ 65519))) else some (false))))) else (if (decide (a0 = 45)) then some (true) else (if (decide (a0 = 95)) then some (true) else (if (decide (a0 ≥ 161)) then some ((decide (a0 ≤ 65519))) else some (false)))))) else (if (decide (a0 ≥ 48)) then (if (decide (a0 ≤ 57)) then some (true) else (if (decide (a0 = 45)) then some (true) else (if (decide (a0 = 95)) then some (true) else (if (decide (a0 ≥ 161)) then some ((decide (a0 ≤ 65519))) else some (false))))) else (if (decide (a0 = 45)) then some (true) else (if (decide (a0 = 95)) then some (true) else (if (decide (a0 ≥ 161)) then some ((decide (a0 ≤ 65519))) else some (false))))))) else (if (decide (a0 ≥ 65)) then (if (decide (a0 ≤ 90)) then some (true) else (if (decide (a0 ≥ 48)) then (if (decide (a0 ≤ 57)) then some (true) else (if (decide (a0 = 45)) then some (true) else (if (decide (a0 = 95)) then some (true) else (if (decide (a0 ≥ 161)) then some ((decide (a0 ≤ 65519))) else some (false))))) else (if (decide (a0 = 45)) then some (true) else (if (decide (a0 = 95)) then some (true) else (if (decide (a0 ≥ 161)) then some ((decide (a0 ≤ 65519))) else some (false)))))) else (if (decide (a0 ≥ 48)) then (if (decide (a0 ≤ 57)) then some (true) else (if (decide (a0 = 45)) then some (true) else (if (decide (a0 = 95)) then some (true) else (if (decide (a0 ≥ 161)) then some ((decide (a0 ≤ 65519))) else some (false))))) else (if (decide (a0 = 45)) then some (true) else (if (decide (a0 = 95)) then some (true) else (if (decide (a0 ≥ 161)) then some ((decide (a0 ≤ 65519))) else some (false)))))))
theorem rickyardref04_Of.sc (fu : Nat) (a0 : Int) (r : Bool) (h : rickyardref04_Of.f fu a0 = some r) : SC Tryz.prog CT 64 [vi .i64 a0] [] (vb r) [] := by
 unfold rickyardref04_Of.f at h
 refine sq Tryz.func64 r (fun r => vb r) (fun r => []) fun X => ?_
 refine t_reg cok ?_
 refine bi h (fun c1 h => ?_) (fun c1 h => ?_)
 ·skip
  refine bi h (fun c2 h => ?_) (fun c2 h => ?_)
  ·skip
   exact fk h
  refine bi h (fun c3 h => ?_) (fun c3 h => ?_)
  ·skip
   refine bi h (fun c4 h => ?_) (fun c4 h => ?_)
   ·skip
    exact fk h
   refine bi h (fun c5 h => ?_) (fun c5 h => ?_)
   ·skip
    refine bi h (fun c6 h => ?_) (fun c6 h => ?_)
    ·skip
     exact fk h
    refine bi h (fun c7 h => ?_) (fun c7 h => ?_)
    ·skip
     exact fk h
    refine bi h (fun c8 h => ?_) (fun c8 h => ?_)
    ·skip
     exact fk h
    refine bi h (fun c9 h => ?_) (fun c9 h => ?_)
    ·skip
     exact fk h
    exact fk h
   refine bi h (fun c10 h => ?_) (fun c10 h => ?_)
   ·skip
    exact fk h
   refine bi h (fun c11 h => ?_) (fun c11 h => ?_)
   ·skip
    exact fk h
   refine bi h (fun c12 h => ?_) (fun c12 h => ?_)
   ·skip
    exact fk h
   exact fk h
  refine bi h (fun c13 h => ?_) (fun c13 h => ?_)
  ·skip
   refine bi h (fun c14 h => ?_) (fun c14 h => ?_)
   ·skip
    exact fk h
   refine bi h (fun c15 h => ?_) (fun c15 h => ?_)
   ·skip
    exact fk h
   refine bi h (fun c16 h => ?_) (fun c16 h => ?_)
   ·skip
    exact fk h
   refine bi h (fun c17 h => ?_) (fun c17 h => ?_)
   ·skip
    exact fk h
   exact fk h
  refine bi h (fun c18 h => ?_) (fun c18 h => ?_)
  ·skip
   exact fk h
  refine bi h (fun c19 h => ?_) (fun c19 h => ?_)
  ·skip
   exact fk h
  refine bi h (fun c20 h => ?_) (fun c20 h => ?_)
  ·skip
   exact fk h
  exact fk h
 refine bi h (fun c21 h => ?_) (fun c21 h => ?_)
 ·skip
  refine bi h (fun c22 h => ?_) (fun c22 h => ?_)
  ·skip
   exact fk h
  refine bi h (fun c23 h => ?_) (fun c23 h => ?_)
  ·skip
   refine bi h (fun c24 h => ?_) (fun c24 h => ?_)
   ·skip
    exact fk h
   refine bi h (fun c25 h => ?_) (fun c25 h => ?_)
   ·skip
    exact fk h
   refine bi h (fun c26 h => ?_) (fun c26 h => ?_)
   ·skip
    exact fk h
   refine bi h (fun c27 h => ?_) (fun c27 h => ?_)
   ·skip
    exact fk h
   exact fk h
  refine bi h (fun c28 h => ?_) (fun c28 h => ?_)
  ·skip
   exact fk h
  refine bi h (fun c29 h => ?_) (fun c29 h => ?_)
  ·skip
   exact fk h
  refine bi h (fun c30 h => ?_) (fun c30 h => ?_)
  ·skip
   exact fk h
  exact fk h
 refine bi h (fun c31 h => ?_) (fun c31 h => ?_)
 ·skip
  refine bi h (fun c32 h => ?_) (fun c32 h => ?_)
  ·skip
   exact fk h
  refine bi h (fun c33 h => ?_) (fun c33 h => ?_)
  ·skip
   exact fk h
  refine bi h (fun c34 h => ?_) (fun c34 h => ?_)
  ·skip
   exact fk h
  refine bi h (fun c35 h => ?_) (fun c35 h => ?_)
  ·skip
   exact fk h
  exact fk h
 refine bi h (fun c36 h => ?_) (fun c36 h => ?_)
 ·skip
  exact fk h
 refine bi h (fun c37 h => ?_) (fun c37 h => ?_)
 ·skip
  exact fk h
 refine bi h (fun c38 h => ?_) (fun c38 h => ?_)
 ·skip
  exact fk h
 exact fk h
def rickyardref04_Right.s0 (fu : Nat) (t1 : (List Int)) : (Bool × Int) → Option (Sum Bool (Bool × Int)) := fun s4 => (if (decide (s4.2 < (List.length t1 : Int))) then (if s4.1 then if 0 ≤ s4.2 ∧ s4.2 < (List.length t1 : Int) then ((rickyardref04_Of.f fu (ix t1 s4.2)).bind fun t11 => some (Sum.inr (t11, (IntKind.i64.wrap (s4.2 + 1))))) else none else some (Sum.inr (false, (IntKind.i64.wrap (s4.2 + 1))))) else some (Sum.inl (s4.1)))
def rickyardref04_Right.s1 (fu : Nat) (t1 : (List Int)) : (Bool × Int) → Option (Sum Bool (Bool × Int)) := fun s13 => (if (decide (s13.2 < (List.length t1 : Int))) then (if s13.1 then if 0 ≤ s13.2 ∧ s13.2 < (List.length t1 : Int) then ((rickyardref04_Of.f fu (ix t1 s13.2)).bind fun t20 => some (Sum.inr (t20, (IntKind.i64.wrap (s13.2 + 1))))) else none else some (Sum.inr (false, (IntKind.i64.wrap (s13.2 + 1))))) else some (Sum.inl (s13.1)))
def rickyardref04_Right.f (fu : Nat) (a0 : List UInt8) : Option Bool := ((rickyardref04_Runes.f fu a0).bind fun t1 => (if (decide ((List.length t1 : Int) > 0)) then ((loopM (rickyardref04_Right.s0 fu t1) fu ((decide ((List.length t1 : Int) ≤ 8)), 0)).bind fun e5 => some (e5)) else ((loopM (rickyardref04_Right.s1 fu t1) fu (false, 0)).bind fun e14 => some (e14))))
theorem rickyardref04_Right.sc (fu : Nat) (a0 : List UInt8) (r : Bool) (h : rickyardref04_Right.f fu a0 = some r) : SC Tryz.prog CT 36 [vs a0] [] (vb r) [] := by
 unfold rickyardref04_Right.f at h
 refine sq Tryz.func36 r (fun r => vb r) (fun r => []) fun X => ?_
 refine bk h fun t1 k2 h => ?_
 refine cl4 cok.g (rickyardref04_Runes.sc fu _ _ k2) (.sl 0 1 []) [(0, .row (.int .i64) 3 (t1 : List Int))] 1 ?_
 refine t_reg cok ?_
 refine bi h (fun c3 h => ?_) (fun c3 h => ?_)
 ·skip
  refine bk h fun e5 l6 h => ?_
  refine t_cutx cok 0 (fun (e5 : Bool) => ⟨[(4, vb e5)], []⟩) e5 ?_ ?_
  ·skip
   have h7 := h
   refine t_loop cok (fun (s4 : Bool × Int) => ⟨[(3, .sl 0 1 []), (4, vb s4.1), (5, vi .i64 s4.2)], [.row (.int .i64) 3 (t1 : List Int)]⟩) l6 (by kernel_rfl) (fun s4 x8 h => ?_)
   unfold rickyardref04_Right.s0 at h
   refine t_cond cok ?_
   refine bi h (fun c9 h => ?_) (fun c9 h => ?_)
   ·skip
    refine t_reg cok ?_
    refine bi h (fun c10 h => ?_) (fun c10 h => ?_)
    ·skip
     refine ag h fun h => ?_
     refine bk h fun t11 k12 h => ?_
     refine cl4 cok.g (rickyardref04_Of.sc fu _ _ k12) (vb t11) [] 1 ?_
     exact lik h
    exact lik h
   exact lpx h fun hy => ek (sj hy)
  exact fk h
 refine bk h fun e14 l15 h => ?_
 refine t_cutx cok 0 (fun (e14 : Bool) => ⟨[(4, vb e14)], []⟩) e14 ?_ ?_
 ·skip
  have h16 := h
  refine t_loop cok (fun (s13 : Bool × Int) => ⟨[(3, .sl 0 1 []), (4, vb s13.1), (5, vi .i64 s13.2)], [.row (.int .i64) 3 (t1 : List Int)]⟩) l15 (by kernel_rfl) (fun s13 x17 h => ?_)
  unfold rickyardref04_Right.s1 at h
  refine t_cond cok ?_
  refine bi h (fun c18 h => ?_) (fun c18 h => ?_)
  ·skip
   refine t_reg cok ?_
   refine bi h (fun c19 h => ?_) (fun c19 h => ?_)
   ·skip
    refine ag h fun h => ?_
    refine bk h fun t20 k21 h => ?_
    refine cl4 cok.g (rickyardref04_Of.sc fu _ _ k21) (vb t20) [] 1 ?_
    exact lik h
   exact lik h
  exact lpx h fun hy => ek (sj hy)
 exact fk h
def rickyardref08_Block.f (fu : Nat) (a0 : Int) : Option Bool := (if (decide (a0 ≥ 2)) then some ((decide (a0 ≤ 3071))) else some (false))
theorem rickyardref08_Block.sc (fu : Nat) (a0 : Int) (r : Bool) (h : rickyardref08_Block.f fu a0 = some r) : SC Tryz.prog CT 66 [vi .i64 a0] [] (vb r) [] := by
 unfold rickyardref08_Block.f at h
 refine sq Tryz.func66 r (fun r => vb r) (fun r => []) fun X => ?_
 refine t_reg cok ?_
 refine bi h (fun c1 h => ?_) (fun c1 h => ?_)
 ·skip
  exact fk h
 exact fk h
def rickyardref11_Right.s0 (fu : Nat) (a0 : S_api_Queue) : (Int × Int) → Option (Sum (Sum Bool Unit) (Int × Int)) := fun s6 => (if (decide (s6.2 < 12)) then (if (decide ((Int.tmod s6.1 2) = 0)) then if 0 ≤ s6.2 ∧ s6.2 < 12 then (if (!decide ((Arr.get a0.Roots s6.2) = 0)) then some (Sum.inl (Sum.inl (false))) else (if (decide ((Int.tmod s6.1 2) = 1)) then if 0 ≤ s6.2 ∧ s6.2 < 12 then ((rickyardref08_Block.f fu (Arr.get a0.Roots s6.2)).bind fun t16 => (if (!t16) then some (Sum.inl (Sum.inl (false))) else some (Sum.inr ((IntKind.i64.wrap (Int.tdiv s6.1 2)), (IntKind.i64.wrap (s6.2 + 1)))))) else none else some (Sum.inr ((IntKind.i64.wrap (Int.tdiv s6.1 2)), (IntKind.i64.wrap (s6.2 + 1)))))) else none else (if (decide ((Int.tmod s6.1 2) = 1)) then if 0 ≤ s6.2 ∧ s6.2 < 12 then ((rickyardref08_Block.f fu (Arr.get a0.Roots s6.2)).bind fun t20 => (if (!t20) then some (Sum.inl (Sum.inl (false))) else some (Sum.inr ((IntKind.i64.wrap (Int.tdiv s6.1 2)), (IntKind.i64.wrap (s6.2 + 1)))))) else none else some (Sum.inr ((IntKind.i64.wrap (Int.tdiv s6.1 2)), (IntKind.i64.wrap (s6.2 + 1)))))) else some (Sum.inl (Sum.inr ())))
def rickyardref11_Right.f (fu : Nat) (a0 : S_api_Queue) : Option Bool := ((rickyardref04_Right.f fu a0.Name).bind fun t1 => (if (!t1) then some (false) else (if (decide (a0.Count < 0)) then some (false) else (if (decide (a0.Count > 4095)) then some (false) else ((loopM (rickyardref11_Right.s0 fu a0) fu (a0.Count, 0)).bind fun e7 => match e7 with | Sum.inl p => some p | Sum.inr x9 => some (true))))))
theorem rickyardref11_Right.sc (fu : Nat) (a0 : S_api_Queue) (r : Bool) (h : rickyardref11_Right.f fu a0 = some r) : SC Tryz.prog CT 39 [.v (.st .S_api_Queue) (a0 : S_api_Queue)] [] (vb r) [] := by
 unfold rickyardref11_Right.f at h
 refine sq Tryz.func39 r (fun r => vb r) (fun r => []) fun X => ?_
 refine t_reg cok ?_
 refine bk h fun t1 k2 h => ?_
 refine cl4 cok.g (rickyardref04_Right.sc fu _ _ k2) (vb t1) [] 1 ?_
 refine bi h (fun c3 h => ?_) (fun c3 h => ?_)
 ·skip
  refine t_cond cok ?_
  exact fk h
 refine bi h (fun c4 h => ?_) (fun c4 h => ?_)
 ·skip
  refine t_cond cok ?_
  exact fk h
 refine t_cond cok ?_
 refine bi h (fun c5 h => ?_) (fun c5 h => ?_)
 ·skip
  exact fk h
 refine bk h fun e7 l8 h => ?_
 refine t_cutxS cok 0 (fun (_x : Unit) => ⟨[], []⟩) e7 ?_ (fun x9 hy => ?_)
 ·skip
  have h10 := h
  refine t_loop cok (fun (s6 : Int × Int) => ⟨[(1, .ptr 0 0), (3, vi .i64 s6.1), (4, vi .i64 s6.2)], [.box 46 (.v (.st .S_api_Queue) (a0 : S_api_Queue))]⟩) l8 (by kernel_rfl) (fun s6 x11 h => ?_)
  unfold rickyardref11_Right.s0 at h
  refine t_cond cok ?_
  refine bi h (fun c12 h => ?_) (fun c12 h => ?_)
  ·skip
   refine t_reg cok ?_
   refine ⟨by decide, ?_⟩
   refine bi h (fun c13 h => ?_) (fun c13 h => ?_)
   ·skip
    refine ag h fun h => ?_
    refine bi h (fun c14 h => ?_) (fun c14 h => ?_)
    ·skip
     refine t_cond cok ?_
     refine lpr h (fun hy => ?_)
     have h := h10
     rw [← hy] at h
     exact fk h
    refine ⟨by decide, ?_⟩
    refine bi h (fun c15 h => ?_) (fun c15 h => ?_)
    ·skip
     refine ag h fun h => ?_
     refine bk h fun t16 k17 h => ?_
     refine cl4 cok.g (rickyardref08_Block.sc fu _ _ k17) (vb t16) [] 1 ?_
     refine t_cond cok ?_
     refine bi h (fun c18 h => ?_) (fun c18 h => ?_)
     ·skip
      refine lpr h (fun hy => ?_)
      have h := h10
      rw [← hy] at h
      exact fk h
     refine ⟨by decide, ?_⟩
     exact lik h
    refine t_cond cok ?_
    refine ⟨by decide, ?_⟩
    exact lik h
   refine ⟨by decide, ?_⟩
   refine bi h (fun c19 h => ?_) (fun c19 h => ?_)
   ·skip
    refine ag h fun h => ?_
    refine bk h fun t20 k21 h => ?_
    refine cl4 cok.g (rickyardref08_Block.sc fu _ _ k21) (vb t20) [] 1 ?_
    refine t_cond cok ?_
    refine bi h (fun c22 h => ?_) (fun c22 h => ?_)
    ·skip
     refine lpr h (fun hy => ?_)
     have h := h10
     rw [← hy] at h
     exact fk h
    refine ⟨by decide, ?_⟩
    exact lik h
   refine t_cond cok ?_
   refine ⟨by decide, ?_⟩
   exact lik h
  exact lpx h fun hy => esk (sj hy)
 subst hy
 exact fk h
end Go.Proofs.YtdifnahlheogdaaGreatDoor
