/- DirDamage: texts merged, part 6 of 7. The last part proves that the law DirDamage holds for every input. -/
import Derived.Test.YtdifnahlheogdaaGreatDoorPkDirDamage5
set_option maxRecDepth 100000
set_option maxHeartbeats 4000000
set_option linter.unusedVariables false
set_option linter.unusedSimpArgs false
set_option linter.unusedSectionVars false
namespace Go.Proofs.YtdifnahlheogdaaGreatDoor
open Go Go.Xw Go.Yw
def rickyardref11_Get.s0 (fu : Nat) (t1 : Int × Int × (List UInt8) × Bool) : (Int × S_api_Queue) → Option (Sum S_api_Queue (Int × S_api_Queue)) := fun s8 => (if (decide (s8.1 < 12)) then if (0 : Int) ≤ (IntKind.i64.wrap (4 + (IntKind.i64.wrap (2 * s8.1)))) ∧ (IntKind.i64.wrap (4 + (IntKind.i64.wrap (2 * s8.1)))) ≤ (IntKind.i64.wrap (6 + (IntKind.i64.wrap (2 * s8.1)))) ∧ (IntKind.i64.wrap (6 + (IntKind.i64.wrap (2 * s8.1)))) ≤ (List.length t1.2.2.1 : Int) then ((rickyardref01_Int.f fu (cut t1.2.2.1 (IntKind.i64.wrap (4 + (IntKind.i64.wrap (2 * s8.1)))) (IntKind.i64.wrap (6 + (IntKind.i64.wrap (2 * s8.1)))))).bind fun t14 => if 0 ≤ s8.1 ∧ s8.1 < 12 then some (Sum.inr ((IntKind.i64.wrap (s8.1 + 1)), (⟨s8.2.Name, s8.2.Count, (Arr.set s8.2.Roots s8.1 t14)⟩ : S_api_Queue))) else none) else none else some (Sum.inl (s8.2)))
def rickyardref11_Get.f (fu : Nat) (a0 : List Int) : Option (S_api_Queue × Bool) := ((rickyardref07_Open.f fu a0).bind fun t1 => (if (!t1.2.2.2) then some ((⟨[], (0 : Int), (Arr.rep 12 (0 : Int))⟩ : S_api_Queue), false) else (if (!decide (t1.1 = 5)) then some ((⟨[], (0 : Int), (Arr.rep 12 (0 : Int))⟩ : S_api_Queue), false) else (if (decide (t1.2.1 > 28)) then some ((⟨[], (0 : Int), (Arr.rep 12 (0 : Int))⟩ : S_api_Queue), false) else if (4 : Int) ≤ (List.length t1.2.2.1 : Int) then ((rickyardref01_Int.f fu (cut t1.2.2.1 0 4)).bind fun t6 => if (0 : Int) ≤ 28 ∧ 28 ≤ (IntKind.i64.wrap (28 + t1.2.1)) ∧ (IntKind.i64.wrap (28 + t1.2.1)) ≤ (List.length t1.2.2.1 : Int) then ((loopM (rickyardref11_Get.s0 fu t1) fu (0, (⟨(cut t1.2.2.1 28 (IntKind.i64.wrap (28 + t1.2.1))), t6, (Arr.rep 12 (0 : Int))⟩ : S_api_Queue))).bind fun e9 => ((rickyardref11_Right.f fu e9).bind fun t16 => (if (!t16) then some ((⟨[], (0 : Int), (Arr.rep 12 (0 : Int))⟩ : S_api_Queue), false) else ((rickyardref11_Put.f fu e9).bind fun t19 => (if (!decide (t19 = (List.map toB a0))) then some ((⟨[], (0 : Int), (Arr.rep 12 (0 : Int))⟩ : S_api_Queue), false) else some (e9, true)))))) else none) else none))))
theorem rickyardref11_Get.sc (fu : Nat) (a0 : List Int) (r : S_api_Queue × Bool) (h : rickyardref11_Get.f fu a0 = some r) : SC Tryz.prog CT 32 [.v (.sl (.int .u8)) (a0 : List Int)] [] (.tup [.v (.st .S_api_Queue) (r.1 : S_api_Queue), vb r.2]) [] := by
 unfold rickyardref11_Get.f at h
 refine sq Tryz.func32 r (fun r => .tup [.v (.st .S_api_Queue) (r.1 : S_api_Queue), vb r.2]) (fun r => []) fun X => ?_
 refine bk h fun t1 k2 h => ?_
 refine cl4 cok.g (rickyardref07_Open.sc fu _ _ k2) (.tup [vi .i64 t1.1, vi .i64 t1.2.1, vs t1.2.2.1, vb t1.2.2.2]) [] 1 ?_
 refine t_reg cok ?_
 refine bi h (fun c3 h => ?_) (fun c3 h => ?_)
 ·skip
  refine t_cond cok ?_
  exact fk h
 refine bi h (fun c4 h => ?_) (fun c4 h => ?_)
 ·skip
  refine t_cond cok ?_
  exact fk h
 refine t_cond cok ?_
 refine bi h (fun c5 h => ?_) (fun c5 h => ?_)
 ·skip
  exact fk h
 refine t_draw cok mo [⟨0, false, [6], [], 0, []⟩, ⟨1, false, [28], [], 0, [0]⟩, ⟨2, true, [29], [], 0, [0, 1]⟩, ⟨3, false, [6], [], 0, []⟩, ⟨4, false, [5], [], 0, []⟩, ⟨5, false, [32], [], 0, [4]⟩, ⟨6, false, [31, 33], [], 0, [3, 4, 5]⟩, ⟨7, false, [30, 34], [], 0, cl 7⟩, ⟨8, true, [], [], 1, []⟩, ⟨9, true, [8, 35], [1], 0, cl 9⟩] (by kernel_rfl) ?_
 refine agL h (by decide) fun h => ?_
 refine bk h fun t6 k7 h => ?_
 refine cl4 cok.g (rickyardref01_Int.sc fu _ _ k7) (vi .i64 t6) [] 1 ?_
 refine ag h fun h => ?_
 refine bk h fun e9 l10 h => ?_
 refine t_cutx cok 0 (fun (e9 : S_api_Queue) => ⟨[(0, .v (.sl (.int .u8)) (a0 : List Int)), (2, .ptr 0 0), (8, .ptr 1 0)], [.box 46 (.v (.st .S_api_Queue) ((⟨[], (0 : Int), (Arr.rep 12 (0 : Int))⟩ : S_api_Queue) : S_api_Queue)), .box 46 (.v (.st .S_api_Queue) (e9 : S_api_Queue))]⟩) e9 ?_ ?_
 ·skip
  have h11 := h
  refine t_loop cok (fun (s8 : Int × S_api_Queue) => ⟨[(0, .v (.sl (.int .u8)) (a0 : List Int)), (2, .ptr 0 0), (6, vs t1.2.2.1), (8, .ptr 1 0), (9, vi .i64 s8.1)], [.box 46 (.v (.st .S_api_Queue) ((⟨[], (0 : Int), (Arr.rep 12 (0 : Int))⟩ : S_api_Queue) : S_api_Queue)), .box 46 (.v (.st .S_api_Queue) (s8.2 : S_api_Queue))]⟩) l10 (by kernel_rfl) (fun s8 x12 h => ?_)
  unfold rickyardref11_Get.s0 at h
  refine t_cond cok ?_
  refine bi h (fun c13 h => ?_) (fun c13 h => ?_)
  ·skip
   refine ag h fun h => ?_
   refine bk h fun t14 k15 h => ?_
   refine cl4 cok.g (rickyardref01_Int.sc fu _ _ k15) (vi .i64 t14) [] 2 ?_
   refine ag h fun h => ?_
   exact lik h
  exact lpx h fun hy => ek (sj hy)
 refine t_draw cok mo [⟨0, false, [8], [1], 0, []⟩, ⟨1, true, [52], [], 0, [0]⟩, ⟨2, false, [53], [], 0, [0, 1]⟩, ⟨3, false, [54], [], 0, [0, 1, 2]⟩, ⟨4, false, [8, 55], [1], 0, cl 4⟩, ⟨5, true, [55, 56], [], 0, cl 5⟩, ⟨6, false, [0, 55], [], 0, cl 4⟩, ⟨7, false, [55, 58], [], 0, cl 4 ++ [6]⟩, ⟨8, false, [55, 57, 59], [], 0, cl 8⟩, ⟨9, true, [55, 60], [], 0, cl 9⟩] (by kernel_rfl) ?_
 refine bk h fun t16 k17 h => ?_
 refine cl4 cok.g (rickyardref11_Right.sc fu _ _ k17) (vb t16) [] 2 ?_
 refine bi h (fun c18 h => ?_) (fun c18 h => ?_)
 ·skip
  refine t_cond cok ?_
  exact fk h
 refine bk h fun t19 k20 h => ?_
 refine cl4 cok.g (rickyardref11_Put.sc fu _ _ k20) (vs t19) [] 2 ?_
 refine t_cond cok ?_
 refine bi h (fun c21 h => ?_) (fun c21 h => ?_)
 ·skip
  exact fk h
 exact fk h
def rickyardref11_Dir.s1 (fu : Nat) (a0 : List Int) (s3 : (List UInt8) × Int) : Int → Option (Sum (Sum (Sum (Sum ((List UInt8) × Bool) (List UInt8)) ((List UInt8) × Int)) Unit) Int) := fun s13 => (if (decide (s13 < s3.2)) then if 0 ≤ s13 ∧ s13 < (List.length a0 : Int) then if 0 ≤ s3.2 ∧ s3.2 < (List.length a0 : Int) then (if (decide ((ix a0 s13) = (ix a0 s3.2))) then some (Sum.inl (Sum.inl (Sum.inl (Sum.inl ([], false))))) else some (Sum.inr ((IntKind.i64.wrap (s13 + 1))))) else none else none else some (Sum.inl (Sum.inr ())))
def rickyardref11_Dir.s0 (fu : Nat) (a0 : List Int) : ((List UInt8) × Int) → Option (Sum (Sum ((List UInt8) × Bool) (List UInt8)) ((List UInt8) × Int)) := fun s3 => (if (decide (s3.2 < (List.length a0 : Int))) then if 0 ≤ s3.2 ∧ s3.2 < (List.length a0 : Int) then ((rickyardref08_Block.f fu (ix a0 s3.2)).bind fun t10 => (if (!t10) then some (Sum.inl (Sum.inl ([], false))) else ((loopM (rickyardref11_Dir.s1 fu a0 s3) fu (0)).bind fun e14 => match e14 with | Sum.inl p => some p | Sum.inr x16 => if 0 ≤ s3.2 ∧ s3.2 < (List.length a0 : Int) then ((rickyardref01_Lay.f fu (IntKind.u64.wrap (ix a0 s3.2)) 2).bind fun t21 => if List.length s3.1 + List.length t21 ≤ LIM then some (Sum.inr ((s3.1 ++ t21), (IntKind.i64.wrap (s3.2 + 1)))) else none) else none))) else none else some (Sum.inl (Sum.inr (s3.1))))
def rickyardref11_Dir.f (fu : Nat) (a0 : List Int) : Option ((List UInt8) × Bool) := (if (decide ((List.length a0 : Int) < 1)) then some ([], false) else (if (decide ((List.length a0 : Int) > 16)) then some ([], false) else ((loopM (rickyardref11_Dir.s0 fu a0) fu ([], 0)).bind fun e4 => match e4 with | Sum.inl p => some p | Sum.inr x6 => ((rickyardref07_Seal.f fu 6 (List.length a0 : Int) x6).bind fun t23 => some (t23, true)))))
theorem rickyardref11_Dir.sc (fu : Nat) (a0 : List Int) (r : (List UInt8) × Bool) (h : rickyardref11_Dir.f fu a0 = some r) : SC Tryz.prog CT 59 [.v (.sl (.int .i64)) (a0 : List Int)] [] (.tup [vs r.1, vb r.2]) [] := by
 unfold rickyardref11_Dir.f at h
 refine sq Tryz.func59 r (fun r => .tup [vs r.1, vb r.2]) (fun r => []) fun X => ?_
 refine t_reg cok ?_
 refine bi h (fun c1 h => ?_) (fun c1 h => ?_)
 ·skip
  refine t_cond cok ?_
  exact fk h
 refine t_cond cok ?_
 refine bi h (fun c2 h => ?_) (fun c2 h => ?_)
 ·skip
  exact fk h
 refine bk h fun e4 l5 h => ?_
 refine t_cutxS cok 0 (fun (x6 : (List UInt8)) => ⟨[(0, .v (.sl (.int .i64)) (a0 : List Int)), (4, vs x6)], []⟩) e4 ?_ (fun x6 hy => ?_)
 ·skip
  have h7 := h
  refine t_loop cok (fun (s3 : (List UInt8) × Int) => ⟨[(0, .v (.sl (.int .i64)) (a0 : List Int)), (4, vs s3.1), (5, vi .i64 s3.2)], []⟩) l5 (by kernel_rfl) (fun s3 x8 h => ?_)
  unfold rickyardref11_Dir.s0 at h
  refine t_cond cok ?_
  refine bi h (fun c9 h => ?_) (fun c9 h => ?_)
  ·skip
   refine ag h fun h => ?_
   refine bk h fun t10 k11 h => ?_
   refine cl4 cok.g (rickyardref08_Block.sc fu _ _ k11) (vb t10) [] 0 ?_
   refine t_cond cok ?_
   refine bi h (fun c12 h => ?_) (fun c12 h => ?_)
   ·skip
    refine lpr h (fun hy => ?_)
    have h := h7
    rw [← hy] at h
    exact fk h
   refine bk h fun e14 l15 h => ?_
   refine t_cutxS cok 2 (fun (_x : Unit) => ⟨[(0, .v (.sl (.int .i64)) (a0 : List Int)), (4, vs s3.1), (5, vi .i64 s3.2)], []⟩) e14 ?_ (fun x16 hy => ?_)
   ·skip
    have h17 := h
    refine t_loop cok (fun (s13 : Int) => ⟨[(0, .v (.sl (.int .i64)) (a0 : List Int)), (4, vs s3.1), (5, vi .i64 s3.2), (6, vi .i64 s13)], []⟩) l15 (by kernel_rfl) (fun s13 x18 h => ?_)
    unfold rickyardref11_Dir.s1 at h
    refine t_cond cok ?_
    refine bi h (fun c19 h => ?_) (fun c19 h => ?_)
    ·skip
     refine t_draw cok mo [⟨0, false, [0], [], 0, []⟩, ⟨1, false, [6], [], 0, []⟩, ⟨2, false, [32, 33], [], 0, [0, 1]⟩, ⟨3, false, [34], [], 0, [0, 1, 2]⟩, ⟨4, false, [0], [], 0, []⟩, ⟨5, false, [5], [], 0, []⟩, ⟨6, false, [36, 37], [], 0, [4, 5]⟩, ⟨7, false, [38], [], 0, [4, 5, 6]⟩, ⟨8, false, [35, 39], [], 0, cl 8⟩] (by kernel_rfl) ?_
     refine ag h fun h => ?_
     refine ag h fun h => ?_
     refine t_cond cok ?_
     refine bi h (fun c20 h => ?_) (fun c20 h => ?_)
     ·skip
      refine lpr h (fun hy => ?_)
      have h := h17
      rw [← hy] at h
      refine lpr h (fun hy => ?_)
      have h := h7
      rw [← hy] at h
      exact fk h
     exact lik h
    exact lpx h fun hy => esk (sj hy)
   subst hy
   refine ag h fun h => ?_
   refine bk h fun t21 k22 h => ?_
   refine cl4 cok.g (rickyardref01_Lay.sc fu _ _ _ k22) (vs t21) [] 0 ?_
   refine ag h fun h => ?_
   exact lik h
  exact lpx h fun hy => esk (sj hy)
 subst hy
 refine bk h fun t23 k24 h => ?_
 refine cl4 cok.g (rickyardref07_Seal.sc fu _ _ _ _ k24) (vs t23) [] 0 ?_
 exact fk h
def rickyardref11_GetDir.s0 (fu : Nat) (t1 : Int × Int × (List UInt8) × Bool) : ((List Int) × Int) → Option (Sum (List Int) ((List Int) × Int)) := fun s6 => (if (decide (s6.2 < t1.2.1)) then if (0 : Int) ≤ (IntKind.i64.wrap (2 * s6.2)) ∧ (IntKind.i64.wrap (2 * s6.2)) ≤ (IntKind.i64.wrap ((IntKind.i64.wrap (2 * s6.2)) + 2)) ∧ (IntKind.i64.wrap ((IntKind.i64.wrap (2 * s6.2)) + 2)) ≤ (List.length t1.2.2.1 : Int) then ((rickyardref01_Int.f fu (cut t1.2.2.1 (IntKind.i64.wrap (2 * s6.2)) (IntKind.i64.wrap ((IntKind.i64.wrap (2 * s6.2)) + 2)))).bind fun t12 => if List.length s6.1 + List.length [t12] ≤ LIM then some (Sum.inr ((s6.1 ++ [t12]), (IntKind.i64.wrap (s6.2 + 1)))) else none) else none else some (Sum.inl (s6.1)))
def rickyardref11_GetDir.f (fu : Nat) (a0 : List Int) : Option ((List Int) × Bool) := ((rickyardref07_Open.f fu a0).bind fun t1 => (if (!t1.2.2.2) then some ([], false) else (if (!decide (t1.1 = 6)) then some ([], false) else (if (decide (t1.2.1 > 16)) then some ([], false) else ((loopM (rickyardref11_GetDir.s0 fu t1) fu (([] : List Int), 0)).bind fun e7 => ((rickyardref11_Dir.f fu e7).bind fun t14 => (if (!t14.2) then some ([], false) else (if (!decide (t14.1 = (List.map toB a0))) then some ([], false) else some (e7, true)))))))))
theorem rickyardref11_GetDir.sc (fu : Nat) (a0 : List Int) (r : (List Int) × Bool) (h : rickyardref11_GetDir.f fu a0 = some r) : SC Tryz.prog CT 31 [.v (.sl (.int .u8)) (a0 : List Int)] [] (.tup [.sl 0 1 [], vb r.2]) [.row (.int .i64) 3 (r.1 : List Int)] := by
 unfold rickyardref11_GetDir.f at h
 refine sq Tryz.func31 r (fun r => .tup [.sl 0 1 [], vb r.2]) (fun r => [.row (.int .i64) 3 (r.1 : List Int)]) fun X => ?_
 refine bk h fun t1 k2 h => ?_
 refine cl4 cok.g (rickyardref07_Open.sc fu _ _ k2) (.tup [vi .i64 t1.1, vi .i64 t1.2.1, vs t1.2.2.1, vb t1.2.2.2]) [] 0 ?_
 refine t_reg cok ?_
 refine bi h (fun c3 h => ?_) (fun c3 h => ?_)
 ·skip
  refine t_cond cok ?_
  exact fk h
 refine bi h (fun c4 h => ?_) (fun c4 h => ?_)
 ·skip
  refine t_cond cok ?_
  exact fk h
 refine t_cond cok ?_
 refine bi h (fun c5 h => ?_) (fun c5 h => ?_)
 ·skip
  exact fk h
 refine bk h fun e7 l8 h => ?_
 refine t_cutx cok 0 (fun (e7 : (List Int)) => ⟨[(0, .v (.sl (.int .u8)) (a0 : List Int)), (8, .sl 0 1 [])], [.row (.int .i64) 3 (e7 : List Int)]⟩) e7 ?_ ?_
 ·skip
  have h9 := h
  refine t_loop cok (fun (s6 : (List Int) × Int) => ⟨[(0, .v (.sl (.int .u8)) (a0 : List Int)), (5, vi .i64 t1.2.1), (6, vs t1.2.2.1), (8, .sl 0 1 []), (9, vi .i64 s6.2)], [.row (.int .i64) 3 (s6.1 : List Int)]⟩) l8 (by kernel_rfl) (fun s6 x10 h => ?_)
  unfold rickyardref11_GetDir.s0 at h
  refine t_cond cok ?_
  refine bi h (fun c11 h => ?_) (fun c11 h => ?_)
  ·skip
   refine ag h fun h => ?_
   refine bk h fun t12 k13 h => ?_
   refine cl4 cok.g (rickyardref01_Int.sc fu _ _ k13) (vi .i64 t12) [] 1 ?_
   refine ag h fun h => ?_
   exact lik h
  exact lpx h fun hy => ek (sj hy)
 refine bk h fun t14 k15 h => ?_
 refine cl4 cok.g (rickyardref11_Dir.sc fu _ _ k15) (.tup [vs t14.1, vb t14.2]) [] 1 ?_
 refine t_reg cok ?_
 refine bi h (fun c16 h => ?_) (fun c16 h => ?_)
 ·skip
  refine t_cond cok ?_
  exact fk h
 refine t_cond cok ?_
 refine bi h (fun c17 h => ?_) (fun c17 h => ?_)
 ·skip
  exact fk h
 exact fk h
def rickyardref20_Line.f (fu : Nat) (a0 : List UInt8) (a1 : Int) : Option ((List Int) × Bool) := (if (decide (a1 < 0)) then some ([], false) else (if (decide (a1 ≥ (IntKind.i64.wrap (Int.tdiv (List.length a0 : Int) 64)))) then some ([], false) else if (0 : Int) ≤ (IntKind.i64.wrap (64 * a1)) ∧ (IntKind.i64.wrap (64 * a1)) ≤ (IntKind.i64.wrap ((IntKind.i64.wrap (64 * a1)) + 64)) ∧ (IntKind.i64.wrap ((IntKind.i64.wrap (64 * a1)) + 64)) ≤ (List.length a0 : Int) then some ((List.map ofB (cut a0 (IntKind.i64.wrap (64 * a1)) (IntKind.i64.wrap ((IntKind.i64.wrap (64 * a1)) + 64)))), true) else none))
theorem rickyardref20_Line.sc (fu : Nat) (a0 : List UInt8) (a1 : Int) (r : (List Int) × Bool) (h : rickyardref20_Line.f fu a0 a1 = some r) : SC Tryz.prog CT 30 [vs a0, vi .i64 a1] [] (.tup [.v (.sl (.int .u8)) (r.1 : List Int), vb r.2]) [] := by
 unfold rickyardref20_Line.f at h
 refine sq Tryz.func30 r (fun r => .tup [.v (.sl (.int .u8)) (r.1 : List Int), vb r.2]) (fun r => []) fun X => ?_
 refine t_reg cok ?_
 refine bi h (fun c1 h => ?_) (fun c1 h => ?_)
 ·skip
  refine t_cond cok ?_
  exact fk h
 refine ⟨by decide, ?_⟩
 refine t_cond cok ?_
 refine bi h (fun c2 h => ?_) (fun c2 h => ?_)
 ·skip
  exact fk h
 refine ag h fun h => ?_
 exact fk h
def rickyardref25_Read.s0 (fu : Nat) (a0 : List UInt8) (t5 : (List Int) × Bool) : ((List S_api_Queue) × Int) → Option (Sum (Sum ((List S_api_Queue) × (List Int) × Bool) (List S_api_Queue)) ((List S_api_Queue) × Int)) := fun s8 => (if (decide (s8.2 < (List.length t5.1 : Int))) then if 0 ≤ s8.2 ∧ s8.2 < (List.length t5.1 : Int) then ((rickyardref20_Line.f fu a0 (ix t5.1 s8.2)).bind fun t15 => (if (!t15.2) then some (Sum.inl (Sum.inl ([], [], false))) else ((rickyardref11_Get.f fu t15.1).bind fun t18 => (if (!t18.2) then some (Sum.inl (Sum.inl ([], [], false))) else (if (decide (s8.2 > 0)) then if 0 ≤ (IntKind.i64.wrap (s8.2 - 1)) ∧ (IntKind.i64.wrap (s8.2 - 1)) < (List.length s8.1 : Int) then ((rickyardref04_Compare.f fu ((ix s8.1 (IntKind.i64.wrap (s8.2 - 1))).Name) t18.1.Name).bind fun t22 => (if (decide (t22 ≥ 0)) then some (Sum.inl (Sum.inl ([], [], false))) else if List.length s8.1 + List.length [t18.1] ≤ LIM then some (Sum.inr ((s8.1 ++ [t18.1]), (IntKind.i64.wrap (s8.2 + 1)))) else none)) else none else if List.length s8.1 + List.length [t18.1] ≤ LIM then some (Sum.inr ((s8.1 ++ [t18.1]), (IntKind.i64.wrap (s8.2 + 1)))) else none))))) else none else some (Sum.inl (Sum.inr (s8.1))))
def rickyardref25_Read.f (fu : Nat) (a0 : List UInt8) (a1 : Int) : Option ((List S_api_Queue) × (List Int) × Bool) := (if (decide (a1 = 0)) then some ([], [], true) else ((rickyardref20_Line.f fu a0 a1).bind fun t2 => (if (!t2.2) then some ([], [], false) else ((rickyardref11_GetDir.f fu t2.1).bind fun t5 => (if (!t5.2) then some ([], [], false) else ((loopM (rickyardref25_Read.s0 fu a0 t5) fu (([] : List S_api_Queue), 0)).bind fun e9 => match e9 with | Sum.inl p => some p | Sum.inr x11 => if List.length [a1] + List.length t5.1 ≤ LIM then some (x11, ([a1] ++ t5.1), true) else none))))))
theorem rickyardref25_Read.sc (fu : Nat) (a0 : List UInt8) (a1 : Int) (r : (List S_api_Queue) × (List Int) × Bool) (h : rickyardref25_Read.f fu a0 a1 = some r) : SC Tryz.prog CT 12 [vs a0, vi .i64 a1] [] (.tup [.sl 0 14 [], .sl 1 1 [], vb r.2.2]) [.row (.st .S_api_Queue) 46 (r.1 : List S_api_Queue), .row (.int .i64) 3 (r.2.1 : List Int)] := by
 unfold rickyardref25_Read.f at h
 refine sq Tryz.func12 r (fun r => .tup [.sl 0 14 [], .sl 1 1 [], vb r.2.2]) (fun r => [.row (.st .S_api_Queue) 46 (r.1 : List S_api_Queue), .row (.int .i64) 3 (r.2.1 : List Int)]) fun X => ?_
 refine t_cond cok ?_
 refine bi h (fun c1 h => ?_) (fun c1 h => ?_)
 ·skip
  exact fk h
 refine bk h fun t2 k3 h => ?_
 refine cl4 cok.g (rickyardref20_Line.sc fu _ _ _ k3) (.tup [.v (.sl (.int .u8)) (t2.1 : List Int), vb t2.2]) [] 0 ?_
 refine t_cond cok ?_
 refine bi h (fun c4 h => ?_) (fun c4 h => ?_)
 ·skip
  exact fk h
 refine bk h fun t5 k6 h => ?_
 refine cl4 cok.g (rickyardref11_GetDir.sc fu _ _ k6) (.tup [.sl 0 1 [], vb t5.2]) [(0, .row (.int .i64) 3 (t5.1 : List Int))] 1 ?_
 refine t_cond cok ?_
 refine bi h (fun c7 h => ?_) (fun c7 h => ?_)
 ·skip
  exact fk h
 refine bk h fun e9 l10 h => ?_
 refine t_cutxS cok 0 (fun (x11 : (List S_api_Queue)) => ⟨[(1, vi .i64 a1), (9, .sl 0 1 []), (10, .sl 1 14 [])], [.row (.int .i64) 3 (t5.1 : List Int), .row (.st .S_api_Queue) 46 (x11 : List S_api_Queue)]⟩) e9 ?_ (fun x11 hy => ?_)
 ·skip
  have h12 := h
  refine t_loop cok (fun (s8 : (List S_api_Queue) × Int) => ⟨[(0, vs a0), (1, vi .i64 a1), (9, .sl 0 1 []), (10, .sl 1 14 []), (11, vi .i64 s8.2)], [.row (.int .i64) 3 (t5.1 : List Int), .row (.st .S_api_Queue) 46 (s8.1 : List S_api_Queue)]⟩) l10 (by kernel_rfl) (fun s8 x13 h => ?_)
  unfold rickyardref25_Read.s0 at h
  refine t_cond cok ?_
  refine bi h (fun c14 h => ?_) (fun c14 h => ?_)
  ·skip
   refine ag h fun h => ?_
   refine bk h fun t15 k16 h => ?_
   refine cl4 cok.g (rickyardref20_Line.sc fu _ _ _ k16) (.tup [.v (.sl (.int .u8)) (t15.1 : List Int), vb t15.2]) [] 2 ?_
   refine t_cond cok ?_
   refine bi h (fun c17 h => ?_) (fun c17 h => ?_)
   ·skip
    refine lpr h (fun hy => ?_)
    have h := h12
    rw [← hy] at h
    exact fk h
   refine bk h fun t18 k19 h => ?_
   refine cl4 cok.g (rickyardref11_Get.sc fu _ _ k19) (.tup [.v (.st .S_api_Queue) (t18.1 : S_api_Queue), vb t18.2]) [] 2 ?_
   refine t_draw cok mo [⟨0, false, [13], [], 0, []⟩, ⟨1, false, [54], [], 0, [0]⟩, ⟨2, false, [55], [], 0, [0, 1]⟩, ⟨3, false, [11, 56], [], 0, [0, 1, 2]⟩, ⟨4, false, [56, 57], [], 0, cl 4⟩, ⟨5, false, [56, 58], [], 0, cl 5⟩, ⟨6, false, [10, 59], [], 0, cl 6⟩, ⟨7, false, [11, 59], [], 0, cl 6⟩, ⟨8, false, [59, 61], [], 0, cl 6 ++ [7]⟩, ⟨9, false, [59, 60, 62], [1], 0, cl 9⟩, ⟨10, false, [59, 63], [], 0, cl 10⟩, ⟨11, false, [59, 64], [1], 0, cl 11⟩, ⟨12, false, [14, 59], [], 0, cl 6⟩, ⟨13, false, [59, 66], [2], 0, cl 6 ++ [12]⟩, ⟨14, true, [59, 65, 67], [], 0, cl 14⟩, ⟨15, false, [59, 68], [], 0, cl 15⟩, ⟨16, true, [56, 59, 69], [], 0, cl 16⟩, ⟨17, true, [56, 70], [], 0, cl 17⟩] (by kernel_rfl) ?_
   refine bi h (fun c20 h => ?_) (fun c20 h => ?_)
   ·skip
    refine t_cond cok ?_
    refine lpr h (fun hy => ?_)
    have h := h12
    rw [← hy] at h
    exact fk h
   refine bi h (fun c21 h => ?_) (fun c21 h => ?_)
   ·skip
    refine ag h fun h => ?_
    refine bk h fun t22 k23 h => ?_
    refine cl4 cok.g (rickyardref04_Compare.sc fu _ _ _ k23) (vi .i64 t22) [] 3 ?_
    refine t_cond cok ?_
    refine bi h (fun c24 h => ?_) (fun c24 h => ?_)
    ·skip
     refine lpr h (fun hy => ?_)
     have h := h12
     rw [← hy] at h
     exact fk h
    refine ag h fun h => ?_
    exact lik h
   refine t_cond cok ?_
   refine ag h fun h => ?_
   exact lik h
  exact lpx h fun hy => esk (sj hy)
 subst hy
 refine ag h fun h => ?_
 exact fk h
def rickyardref25_Same.s0 (fu : Nat) (a0 : List S_api_Queue) (a1 : List S_api_Queue) : Int → Option (Sum (Sum Bool Unit) Int) := fun s2 => (if (decide (s2 < (List.length a0 : Int))) then if 0 ≤ s2 ∧ s2 < (List.length a0 : Int) then if 0 ≤ s2 ∧ s2 < (List.length a1 : Int) then (if (!decide ((ix a0 s2) = (ix a1 s2))) then some (Sum.inl (Sum.inl (false))) else some (Sum.inr ((IntKind.i64.wrap (s2 + 1))))) else none else none else some (Sum.inl (Sum.inr ())))
def rickyardref25_Same.f (fu : Nat) (a0 : List S_api_Queue) (a1 : List S_api_Queue) : Option Bool := (if (!decide ((List.length a0 : Int) = (List.length a1 : Int))) then some (false) else ((loopM (rickyardref25_Same.s0 fu a0 a1) fu (0)).bind fun e3 => match e3 with | Sum.inl p => some p | Sum.inr x5 => some (true)))
theorem rickyardref25_Same.sc (fu : Nat) (a0 : List S_api_Queue) (a1 : List S_api_Queue) (r : Bool) (h : rickyardref25_Same.f fu a0 a1 = some r) : SC Tryz.prog CT 13 [.v (.sl (.st .S_api_Queue)) (a0 : List S_api_Queue), .v (.sl (.st .S_api_Queue)) (a1 : List S_api_Queue)] [] (vb r) [] := by
 unfold rickyardref25_Same.f at h
 refine sq Tryz.func13 r (fun r => vb r) (fun r => []) fun X => ?_
 refine t_cond cok ?_
 refine bi h (fun c1 h => ?_) (fun c1 h => ?_)
 ·skip
  exact fk h
 refine bk h fun e3 l4 h => ?_
 refine t_cutxS cok 0 (fun (_x : Unit) => ⟨[], []⟩) e3 ?_ (fun x5 hy => ?_)
 ·skip
  have h6 := h
  refine t_loop cok (fun (s2 : Int) => ⟨[(0, .v (.sl (.st .S_api_Queue)) (a0 : List S_api_Queue)), (1, .v (.sl (.st .S_api_Queue)) (a1 : List S_api_Queue)), (5, vi .i64 s2)], []⟩) l4 (by kernel_rfl) (fun s2 x7 h => ?_)
  unfold rickyardref25_Same.s0 at h
  refine t_cond cok ?_
  refine bi h (fun c8 h => ?_) (fun c8 h => ?_)
  ·skip
   refine t_draw cok mo [⟨0, false, [0], [], 0, []⟩, ⟨1, false, [5], [], 0, []⟩, ⟨2, false, [17, 18], [], 0, [0, 1]⟩, ⟨3, false, [19], [], 0, [0, 1, 2]⟩, ⟨4, false, [1], [], 0, []⟩, ⟨5, false, [5], [], 0, []⟩, ⟨6, false, [21, 22], [], 0, [4, 5]⟩, ⟨7, false, [23], [], 0, [4, 5, 6]⟩, ⟨8, false, [20, 24], [], 0, cl 8⟩] (by kernel_rfl) ?_
   refine ag h fun h => ?_
   refine ag h fun h => ?_
   refine t_cond cok ?_
   refine bi h (fun c9 h => ?_) (fun c9 h => ?_)
   ·skip
    refine lpr h (fun hy => ?_)
    have h := h6
    rw [← hy] at h
    exact fk h
   exact lik h
  exact lpx h fun hy => esk (sj hy)
 subst hy
 exact fk h
def rickyardlaw25_DirDamage.s0 (fu : Nat) (a0 : List (List Int)) : ((List Int) × Int) → Option (Sum (Sum Bool (List Int)) ((List Int) × Int)) := fun s12 => (if (decide (s12.2 < (List.length a0 : Int))) then if 0 ≤ s12.2 ∧ s12.2 < (List.length a0 : Int) then (if (!decide ((List.length (ix a0 s12.2) : Int) = 64)) then some (Sum.inl (Sum.inl (true))) else if 0 ≤ s12.2 ∧ s12.2 < (List.length a0 : Int) then if List.length s12.1 + List.length (ix a0 s12.2) ≤ LIM then some (Sum.inr ((s12.1 ++ (ix a0 s12.2)), (IntKind.i64.wrap (s12.2 + 1)))) else none else none) else none else some (Sum.inl (Sum.inr (s12.1))))
def rickyardlaw25_DirDamage.f (fu : Nat) (a0 : List (List Int)) (a1 : Int) (a2 : List UInt8) : Option Bool := ((rickyardlaw25_awake.f fu).bind fun t1 => (if (!t1) then ((rickyardlaw25_awake.f fu).bind fun t4 => some (t4)) else (if (decide ((List.length a0 : Int) > 30)) then ((rickyardlaw25_awake.f fu).bind fun t7 => some (t7)) else (if (decide ((List.length a2 : Int) > 100)) then ((rickyardlaw25_awake.f fu).bind fun t10 => some (t10)) else ((loopM (rickyardlaw25_DirDamage.s0 fu a0) fu (([] : List Int), 0)).bind fun e13 => match e13 with | Sum.inl p => some p | Sum.inr x15 => ((pmem_From.f fu x15).bind fun t20 => ((bits_Of.f fu 0 []).bind fun t22 => ((bits_Of.f fu 0 []).bind fun t24 => ((alloc_New.f fu t22 t24 0).bind fun t26 => (Option.elim t26.1 (((shadow_New_n1.f fu t20).bind fun t30 => some (false))) (fun o28 => ((shadow_New.f fu t20 o28).bind fun t32 => (Option.elim t32.1 (some (false)) (fun o34 => ((dir_List.f fu (⟨t20, o28⟩ : S_shadow_Store) a1).bind fun t36 => ((rickyardref25_Read.f fu (List.map toB x15) a1).bind fun t38 => (if (!decide ((decide (t36.2 = 0)) = t38.2.2)) then some (false) else ((rickyardref25_Same.f fu t36.1 t38.1).bind fun t41 => (if (!t41) then some (false) else (if (!t38.2.2) then (if (!decide (t36.2 = 31)) then (if (!decide (t36.2 = 2)) then some (false) else ((dir_Find.f fu (⟨t20, o28⟩ : S_shadow_Store) a1 a2).bind fun t47 => (if (decide (t47.2 = t36.2)) then some ((decide (t47.1 = (⟨[], (0 : Int), (Arr.rep 12 (0 : Int))⟩ : S_api_Queue)))) else some (false)))) else ((dir_Find.f fu (⟨t20, o28⟩ : S_shadow_Store) a1 a2).bind fun t50 => (if (decide (t50.2 = t36.2)) then some ((decide (t50.1 = (⟨[], (0 : Int), (Arr.rep 12 (0 : Int))⟩ : S_api_Queue)))) else some (false)))) else ((dir_Find.f fu (⟨t20, o28⟩ : S_shadow_Store) a1 a2).bind fun t53 => ((rickyardref25_At.f fu t38.1 a2).bind fun t55 => (if (decide (t55 < 0)) then (if (decide (t53.2 = 15)) then some ((decide (t53.1 = (⟨[], (0 : Int), (Arr.rep 12 (0 : Int))⟩ : S_api_Queue)))) else some (false)) else (if (decide (t53.2 = 0)) then if 0 ≤ t55 ∧ t55 < (List.length t38.1 : Int) then some ((decide (t53.1 = (ix t38.1 t55)))) else none else some (false)))))))))))))))))))))))))
theorem rickyardlaw25_DirDamage.sc (fu : Nat) (a0 : List (List Int)) (a1 : Int) (a2 : List UInt8) (r : Bool) (h : rickyardlaw25_DirDamage.f fu a0 a1 a2 = some r) : SC Tryz.prog CT 3 [.v (.sl (.sl (.int .u8))) (a0 : List (List Int)), vi .i64 a1, vs a2] [] (vb r) [] := by
 unfold rickyardlaw25_DirDamage.f at h
 refine sq Tryz.func3 r (fun r => vb r) (fun r => []) fun X => ?_
 refine t_reg cok ?_
 refine bk h fun t1 k2 h => ?_
 refine cl4 cok.g (rickyardlaw25_awake.sc fu _ k2) (vb t1) [] 0 ?_
 refine bi h (fun c3 h => ?_) (fun c3 h => ?_)
 ·skip
  refine t_cond cok ?_
  refine bk h fun t4 k5 h => ?_
  refine cl4 cok.g (rickyardlaw25_awake.sc fu _ k5) (vb t4) [] 0 ?_
  exact fk h
 refine bi h (fun c6 h => ?_) (fun c6 h => ?_)
 ·skip
  refine t_cond cok ?_
  refine bk h fun t7 k8 h => ?_
  refine cl4 cok.g (rickyardlaw25_awake.sc fu _ k8) (vb t7) [] 0 ?_
  exact fk h
 refine t_cond cok ?_
 refine bi h (fun c9 h => ?_) (fun c9 h => ?_)
 ·skip
  refine bk h fun t10 k11 h => ?_
  refine cl4 cok.g (rickyardlaw25_awake.sc fu _ k11) (vb t10) [] 0 ?_
  exact fk h
 refine bk h fun e13 l14 h => ?_
 refine t_cutxS cok 0 (fun (x15 : (List Int)) => ⟨[(1, vi .i64 a1), (2, vs a2), (7, .sl 0 1 [])], [.row (.int .u8) 5 (x15 : List Int)]⟩) e13 ?_ (fun x15 hy => ?_)
 ·skip
  have h16 := h
  refine t_loop cok (fun (s12 : (List Int) × Int) => ⟨[(0, .v (.sl (.sl (.int .u8))) (a0 : List (List Int))), (1, vi .i64 a1), (2, vs a2), (7, .sl 0 1 []), (8, vi .i64 s12.2)], [.row (.int .u8) 5 (s12.1 : List Int)]⟩) l14 (by kernel_rfl) (fun s12 x17 h => ?_)
  unfold rickyardlaw25_DirDamage.s0 at h
  refine t_cond cok ?_
  refine bi h (fun c18 h => ?_) (fun c18 h => ?_)
  ·skip
   refine ag h fun h => ?_
   refine t_cond cok ?_
   refine bi h (fun c19 h => ?_) (fun c19 h => ?_)
   ·skip
    refine lpr h (fun hy => ?_)
    have h := h16
    rw [← hy] at h
    exact fk h
   refine ag h fun h => ?_
   refine ag h fun h => ?_
   exact lik h
  exact lpx h fun hy => esk (sj hy)
 subst hy
 refine bk h fun t20 k21 h => ?_
 refine cl4 cok.g (pmem_From.sc fu _ _ k21) (.ptr 1 0) [(1, bD 2 3 t20), (2, rD t20), (3, rP t20)] 4 ?_
 refine bk h fun t22 k23 h => ?_
 refine cl4 cok.g (bits_Of.sc fu _ _ _ k23) (.ptr 4 0) [(4, bS 5 t22), (5, rS t22)] 6 ?_
 refine bk h fun t24 k25 h => ?_
 refine cl4 cok.g (bits_Of.sc fu _ _ _ k25) (.ptr 6 0) [(6, bS 7 t24), (7, rS t24)] 8 ?_
 refine bk h fun t26 k27 h => ?_
 refine oe (x := t26.1) h (fun q29 h => ?_) (fun o28 q29 h => ?_)
 ·skip
  refine cl4 cok.g (alloc_New.scn fu _ _ _ _ k27 q29) (.tup [.nilp, vi .i64 t26.2]) [(4, bS 5 t22), (5, rS t22), (6, bS 7 t24), (7, rS t24)] 12 ?_
  refine bk h fun t30 k31 h => ?_
  refine cl4 cok.g (shadow_New_n1.sc fu _ _ k31) (.tup [.nilp, vi .i64 t30]) [(1, bD 2 3 t20), (2, rD t20), (3, rP t20)] 15 ?_
  refine t_cond cok ?_
  exact fk h
 refine cl4 cok.g (alloc_New.scs fu _ _ _ _ k27 o28 q29) (.tup [.ptr 12 0, vi .i64 t26.2]) [(4, bS 5 t22), (5, rS t22), (6, bS 7 t24), (7, rS t24), (12, bA 13 15 17 19 o28), (13, bS 14 o28.sets.1), (14, rS o28.sets.1), (15, bS 16 o28.sets.2.1), (16, rS o28.sets.2.1), (17, bS 18 o28.sets.2.2.1), (18, rS o28.sets.2.2.1), (19, bS 20 o28.sets.2.2.2), (20, rS o28.sets.2.2.2)] 21 ?_
 refine bk h fun t32 k33 h => ?_
 refine oe (x := t32.1) h (fun q35 h => ?_) (fun o34 q35 h => ?_)
 ·skip
  refine cl4 cok.g (shadow_New.scn fu _ _ _ k33 q35) (.tup [.nilp, vi .i64 t32.2]) [(1, bD 2 3 t20), (2, rD t20), (3, rP t20), (12, bA 13 15 17 19 o28), (13, bS 14 o28.sets.1), (14, rS o28.sets.1), (15, bS 16 o28.sets.2.1), (16, rS o28.sets.2.1), (17, bS 18 o28.sets.2.2.1), (18, rS o28.sets.2.2.1), (19, bS 20 o28.sets.2.2.2), (20, rS o28.sets.2.2.2)] 33 ?_
  refine t_cond cok ?_
  exact fk h
 refine cl4 cok.g (shadow_New.scs fu _ _ _ k33 o34 q35) (.tup [.ptr 33 0, vi .i64 t32.2]) [(1, bD 2 3 t20), (2, rD t20), (3, rP t20), (12, bA 13 15 17 19 o28), (13, bS 14 o28.sets.1), (14, rS o28.sets.1), (15, bS 16 o28.sets.2.1), (16, rS o28.sets.2.1), (17, bS 18 o28.sets.2.2.1), (18, rS o28.sets.2.2.1), (19, bS 20 o28.sets.2.2.2), (20, rS o28.sets.2.2.2), (33, .box 85 (.agg [.ptr 1 0, .ptr 12 0]))] 34 ?_
 refine t_cond cok ?_
 refine bk h fun t36 k37 h => ?_
 refine cl4 cok.g (dir_List.sc fu _ _ _ k37) (.tup [.sl 47 14 [], vi .i64 t36.2]) [(33, .box 85 (.agg [.ptr 1 0, .ptr 12 0])), (1, bD 2 3 t20), (2, rD t20), (3, rP t20), (12, bA 13 15 17 19 o28), (13, bS 14 o28.sets.1), (14, rS o28.sets.1), (15, bS 16 o28.sets.2.1), (16, rS o28.sets.2.1), (17, bS 18 o28.sets.2.2.1), (18, rS o28.sets.2.2.1), (19, bS 20 o28.sets.2.2.2), (20, rS o28.sets.2.2.2), (47, .row (.st .S_api_Queue) 46 (t36.1 : List S_api_Queue))] 48 ?_
 refine bk h fun t38 k39 h => ?_
 refine cl4 cok.g (rickyardref25_Read.sc fu _ _ _ k39) (.tup [.sl 48 14 [], .sl 49 1 [], vb t38.2.2]) [(48, .row (.st .S_api_Queue) 46 (t38.1 : List S_api_Queue)), (49, .row (.int .i64) 3 (t38.2.1 : List Int))] 50 ?_
 refine t_reg cok ?_
 refine bi h (fun c40 h => ?_) (fun c40 h => ?_)
 ·skip
  refine t_cond cok ?_
  exact fk h
 refine bk h fun t41 k42 h => ?_
 refine cl4 cok.g (rickyardref25_Same.sc fu _ _ _ k42) (vb t41) [] 50 ?_
 refine bi h (fun c43 h => ?_) (fun c43 h => ?_)
 ·skip
  refine t_cond cok ?_
  exact fk h
 refine bi h (fun c44 h => ?_) (fun c44 h => ?_)
 ·skip
  refine bi h (fun c45 h => ?_) (fun c45 h => ?_)
  ·skip
   refine t_cond cok ?_
   refine bi h (fun c46 h => ?_) (fun c46 h => ?_)
   ·skip
    exact fk h
   refine bk h fun t47 k48 h => ?_
   refine cl4 cok.g (dir_Find.sc fu _ _ _ _ k48) (.tup [.v (.st .S_api_Queue) (t47.1 : S_api_Queue), vi .i64 t47.2]) [(33, .box 85 (.agg [.ptr 1 0, .ptr 12 0])), (1, bD 2 3 t20), (2, rD t20), (3, rP t20), (12, bA 13 15 17 19 o28), (13, bS 14 o28.sets.1), (14, rS o28.sets.1), (15, bS 16 o28.sets.2.1), (16, rS o28.sets.2.1), (17, bS 18 o28.sets.2.2.1), (18, rS o28.sets.2.2.1), (19, bS 20 o28.sets.2.2.2), (20, rS o28.sets.2.2.2)] 63 ?_
   refine t_cond cok ?_
   refine bT c44 ?_
   refine t_reg cok ?_
   refine bi h (fun c49 h => ?_) (fun c49 h => ?_)
   ·skip
    exact fk h
   exact fk h
  refine t_cond cok ?_
  refine bk h fun t50 k51 h => ?_
  refine cl4 cok.g (dir_Find.sc fu _ _ _ _ k51) (.tup [.v (.st .S_api_Queue) (t50.1 : S_api_Queue), vi .i64 t50.2]) [(33, .box 85 (.agg [.ptr 1 0, .ptr 12 0])), (1, bD 2 3 t20), (2, rD t20), (3, rP t20), (12, bA 13 15 17 19 o28), (13, bS 14 o28.sets.1), (14, rS o28.sets.1), (15, bS 16 o28.sets.2.1), (16, rS o28.sets.2.1), (17, bS 18 o28.sets.2.2.1), (18, rS o28.sets.2.2.1), (19, bS 20 o28.sets.2.2.2), (20, rS o28.sets.2.2.2)] 63 ?_
  refine t_cond cok ?_
  refine bT c44 ?_
  refine t_reg cok ?_
  refine bi h (fun c52 h => ?_) (fun c52 h => ?_)
  ·skip
   exact fk h
  exact fk h
 refine t_cond cok ?_
 refine bk h fun t53 k54 h => ?_
 refine cl4 cok.g (dir_Find.sc fu _ _ _ _ k54) (.tup [.v (.st .S_api_Queue) (t53.1 : S_api_Queue), vi .i64 t53.2]) [(33, .box 85 (.agg [.ptr 1 0, .ptr 12 0])), (1, bD 2 3 t20), (2, rD t20), (3, rP t20), (12, bA 13 15 17 19 o28), (13, bS 14 o28.sets.1), (14, rS o28.sets.1), (15, bS 16 o28.sets.2.1), (16, rS o28.sets.2.1), (17, bS 18 o28.sets.2.2.1), (18, rS o28.sets.2.2.1), (19, bS 20 o28.sets.2.2.2), (20, rS o28.sets.2.2.2)] 63 ?_
 refine t_cond cok ?_
 refine bF c44 ?_
 refine bk h fun t55 k56 h => ?_
 refine cl4 cok.g (rickyardref25_At.sc fu _ _ _ k56) (vi .i64 t55) [] 64 ?_
 refine t_cond cok ?_
 refine bi h (fun c57 h => ?_) (fun c57 h => ?_)
 ·skip
  refine t_reg cok ?_
  refine bi h (fun c58 h => ?_) (fun c58 h => ?_)
  ·skip
   exact fk h
  exact fk h
 refine t_draw cok mo [⟨0, false, [20], [], 0, []⟩, ⟨1, false, [134], [], 0, [0]⟩, ⟨2, false, [135], [], 0, [0, 1]⟩, ⟨3, false, [19, 136], [63], 0, [0, 1, 2]⟩, ⟨4, false, [16, 136], [], 0, [0, 1, 2]⟩, ⟨5, false, [21, 136], [], 0, [0, 1, 2]⟩, ⟨6, false, [136, 138, 139], [48], 0, [0, 1, 2, 4, 5]⟩, ⟨7, false, [136, 140], [48], 0, [0, 1, 2, 4, 5, 6]⟩, ⟨8, false, [136, 137, 141], [], 0, cl 8⟩, ⟨9, true, [136, 142], [], 0, cl 9⟩, ⟨10, false, [143], [], 0, cl 10⟩] (by kernel_rfl) ?_
 refine bi h (fun c59 h => ?_) (fun c59 h => ?_)
 ·skip
  refine ag h fun h => ?_
  exact fk h
 exact fk h
end Go.Proofs.YtdifnahlheogdaaGreatDoor
namespace Go.Proofs.YtdifnahlheogdaaGreatDoor.Pure
open Go Go.Xw Go.Yw
def Bytes (l : List Int) : Prop := ∀ x ∈ l, 0 ≤ x ∧ x ≤ 255
theorem ix_nat {α : Type} [Inhabited α] {l : List α} {j : Nat} (h : j < l.length) : ix l (j : Int) = l[j] := by
  simp [ix, List.getD_eq_getElem?_getD, List.getElem?_eq_getElem h]
theorem take_next {α : Type} {l : List α} {j : Nat} (h : j < l.length) : l.take (j + 1) = l.take j ++ [l[j]] := by
  rw [List.take_add_one, List.getElem?_eq_getElem h]
  rfl
theorem loopM_inv {σ ε : Type} {step : σ → Option (Sum ε σ)} (P : Nat → σ → Prop) (n : Nat) (Q : ε → Prop) (h : ∀ j s, j < n → P j s → ∃ s', step s = some (.inr s') ∧ P (j + 1) s') (he : ∀ s, P n s → ∃ e, step s = some (.inl e) ∧ Q e) : ∀ {k j : Nat} {s : σ}, P j s → j ≤ n → n - j < k → ∃ e, loopM step k s = some e ∧ Q e
  | 0, j, s, _, _, hk => by omega
  | k + 1, j, s, hp, hj, hk => by
    unfold loopM
    by_cases e1 : j = n
    · subst e1
      obtain ⟨e, h1, h2⟩ := he s hp
      rw [h1]
      exact ⟨e, rfl, h2⟩
    · obtain ⟨s', h1, h2⟩ := h j s (by omega) hp
      rw [h1]
      exact loopM_inv P n Q h he h2 (by omega) (by omega)
theorem next64 {j n : Nat} (h : j < n) (hn : n ≤ 100000) : IntKind.i64.wrap ((j : Int) + 1) = ((j + 1 : Nat) : Int) := by rw [w64 (by omega) (by omega)]; omega
def lay (v n : Nat) : List Int := (List.range n).map fun i => ((v / 256 ^ i % 256 : Nat) : Int)
theorem lay_len (v n : Nat) : (lay v n).length = n := by simp [lay]
theorem lay_succ (v n : Nat) : lay v (n + 1) = lay v n ++ [((v / 256 ^ n % 256 : Nat) : Int)] := by
  simp [lay, List.range_succ]
theorem lay_bytes (v n : Nat) : Bytes (lay v n) := by
  intro x hx
  simp only [lay, List.mem_map] at hx
  obtain ⟨i, _, rfl⟩ := hx
  omega
theorem wu8_mod {n : Nat} : IntKind.u8.wrap (n : Int) = ((n % 256 : Nat) : Int) := by
  unfold IntKind.wrap
  simp only [IntKind.signed, IntKind.bits]
  simp
theorem shr64 (n : Nat) : shR .u64 (n : Int) 8 = ((n / 256 : Nat) : Int) := by
  unfold shR
  show Int.fdiv (n : Int) (2 ^ min ((8 : Int).toNat) 64) = _
  rw [show (2 : Int) ^ min ((8 : Int).toNat) 64 = 256 from by decide, Int.fdiv_eq_ediv_of_nonneg _ (by decide)]
  omega
theorem wn64 (q : Nat) (h : q < 18446744073709551616) : IntKind.u64.wrap (q : Int) = (q : Int) := wu64 (by omega) (by omega)
theorem tdn (q : Nat) : Int.tdiv (q : Int) 256 = ((q / 256 : Nat) : Int) := by
  rw [Int.tdiv_eq_ediv_of_nonneg (by omega)]
  omega
theorem tmn (q : Nat) : Int.tmod (q : Int) 256 = ((q % 256 : Nat) : Int) := by
  rw [Int.tmod_eq_emod_of_nonneg (by omega)]
  omega
theorem wn8 (q : Nat) : IntKind.u8.wrap ((q % 256 : Nat) : Int) = ((q % 256 : Nat) : Int) := wu8 (by omega) (by omega)
theorem olay_eq {fu v n : Nat} (hn : n ≤ 8) (hf : n < fu) : octet_Lay.f fu (v : Int) (n : Int) = some (lay v n) := by
  unfold octet_Lay.f
  have h0 : ¬ ((n : Int) < 0) := by omega
  have h8 : ¬ ((n : Int) > 8) := by omega
  have hL : Int.toNat (n : Int) ≤ LIM := by
    have : (8 : Nat) ≤ LIM := by decide
    omega
  simp only [h0, h8, decide_false, Bool.false_eq_true, if_false]
  rw [if_pos ⟨by omega, hL⟩]
  have : loopM (octet_Lay.s0 fu (n : Int)) fu ((v : Int), 0, List.replicate (Int.toNat (n : Int)) (0 : Int)) = some (lay v n) := by
    refine loopM_run (S := fun j => (((v / 256 ^ j : Nat) : Int), (j : Int), lay v j ++ List.replicate (n - j) (0 : Int))) n (by simp [lay]) ?_ ?_ hf
    · intro j hj
      unfold octet_Lay.s0
      have w3 : IntKind.i64.wrap ((j : Int) + 1) = ((j + 1 : Nat) : Int) := by rw [w64 (by omega) (by omega)]; omega
      have e1 : (List.replicate (Int.toNat (n : Int)) (0 : Int)).length = n := by simp
      have e2 : (lay v j ++ List.replicate (n - j) (0 : Int)).length = n := by rw [List.length_append, lay_len, List.length_replicate]; omega
      have e3 : List.set (lay v j ++ List.replicate (n - j) (0 : Int)) (Int.toNat (j : Int)) (IntKind.u8.wrap ((v / 256 ^ j : Nat) : Int)) = lay v (j + 1) ++ List.replicate (n - (j + 1)) (0 : Int) := by
        rw [Int.toNat_natCast, List.set_append, if_neg (by rw [lay_len]; omega), lay_len, Nat.sub_self, wu8_mod, lay_succ, show n - j = n - (j + 1) + 1 from by omega, List.replicate_succ]
        simp
      have e4 : shR .u64 ((v / 256 ^ j : Nat) : Int) 8 = ((v / 256 ^ (j + 1) : Nat) : Int) := by
        rw [shr64, Nat.div_div_eq_div_mul, Nat.pow_succ]
      have h1 : (j : Int) < (n : Int) := by omega
      simp only [e1, e2, e3, e4, w3, h1, decide_true, if_true]
      rw [if_pos ⟨by omega, trivial⟩]
    · unfold octet_Lay.s0
      simp
  rw [this]
  rfl
theorem roctet_eq {fu v i : Nat} (hv : v < 18446744073709551616) (hi : i ≤ 1000) (hf : i < fu) : rickyardref01_Octet.f fu (v : Int) (i : Int) = some ((v / 256 ^ i % 256 : Nat) : Int) := by
  unfold rickyardref01_Octet.f
  have : loopM (rickyardref01_Octet.s0 fu (i : Int)) fu ((v : Int), 0) = some ((v / 256 ^ i : Nat) : Int) := by
    refine loopM_run (S := fun j => (((v / 256 ^ j : Nat) : Int), (j : Int))) i (by simp) ?_ ?_ hf
    · intro j hj
      unfold rickyardref01_Octet.s0
      have w3 : IntKind.i64.wrap ((j : Int) + 1) = ((j + 1 : Nat) : Int) := by rw [w64 (by omega) (by omega)]; omega
      have h1 : (j : Int) < (i : Int) := by omega
      have hle : v / 256 ^ j ≤ v := Nat.div_le_self _ _
      have e1 : Int.tdiv ((v / 256 ^ j : Nat) : Int) 256 = ((v / 256 ^ (j + 1) : Nat) : Int) := by
        rw [tdn, Nat.pow_succ, ← Nat.div_div_eq_div_mul]
      have hle2 : v / 256 ^ (j + 1) ≤ v := Nat.div_le_self _ _
      have e2 : IntKind.u64.wrap ((v / 256 ^ (j + 1) : Nat) : Int) = ((v / 256 ^ (j + 1) : Nat) : Int) := wn64 _ (Nat.lt_of_le_of_lt hle2 hv)
      simp only [h1, decide_true, if_true, e1, e2, w3]
    · unfold rickyardref01_Octet.s0
      simp
  rw [this]
  simp only [Option.bind_some, tmn, wn8]
theorem rlay_eq {fu v n : Nat} (hv : v < 18446744073709551616) (hn : n ≤ 8) (hf : n < fu) : rickyardref01_Lay.f fu (v : Int) (n : Int) = some ((lay v n).map toB) := by
  unfold rickyardref01_Lay.f
  have : loopM (rickyardref01_Lay.s0 fu (v : Int) (n : Int)) fu ([], 0) = some ((lay v n).map toB) := by
    refine loopM_run (S := fun j => ((lay v j).map toB, (j : Int))) n (by simp [lay]) ?_ ?_ hf
    · intro j hj
      unfold rickyardref01_Lay.s0
      have w3 : IntKind.i64.wrap ((j : Int) + 1) = ((j + 1 : Nat) : Int) := by rw [w64 (by omega) (by omega)]; omega
      have h1 : (j : Int) < (n : Int) := by omega
      have hlim : ((lay v j).map toB).length + ([((v / 256 ^ j % 256 : Nat) : Int)].map toB).length ≤ LIM := by
        have : (9 : Nat) ≤ LIM := by decide
        simp only [List.length_map, lay_len, List.length_cons, List.length_nil]
        omega
      simp only [h1, decide_true, if_true, roctet_eq (fu := fu) hv (by omega : j ≤ 1000) (by omega), Option.bind_some, w3]
      rw [if_pos hlim, lay_succ, List.map_append]
    · unfold rickyardref01_Lay.s0
      simp
  rw [this]
  rfl
def num : List Int → Nat
  | [] => 0
  | c :: l => c.toNat + 256 * num l
theorem num_append : ∀ (a b : List Int), num (a ++ b) = num a + 256 ^ a.length * num b
  | [], b => by simp [num]
  | c :: a, b => by
    simp only [List.cons_append, num, num_append a b, List.length_cons, Nat.pow_succ]
    rw [Nat.mul_add, Nat.add_assoc, ← Nat.mul_assoc, Nat.mul_comm 256 (256 ^ a.length)]
theorem num_lt : ∀ {l : List Int}, Bytes l → num l < 256 ^ l.length
  | [], _ => by simp [num]
  | c :: l, h => by
    have h1 := h c (by simp)
    have h2 := num_lt (l := l) fun x hx => h x (by simp [hx])
    simp only [num, List.length_cons, Nat.pow_succ]
    omega
theorem lay_num : ∀ {l : List Int}, Bytes l → lay (num l) l.length = l
  | [], _ => rfl
  | c :: l, h => by
    have h1 := h c (by simp)
    have h2 := lay_num (l := l) fun x hx => h x (by simp [hx])
    have e : lay (num (c :: l)) (l.length + 1) = c :: lay (num l) l.length := by
      unfold lay
      rw [List.range_succ_eq_map, List.map_cons, List.map_map]
      congr 1
      · simp only [num, Nat.pow_zero, Nat.div_one]
        omega
      · apply List.map_congr_left
        intro i hi
        simp only [Function.comp, num, Nat.succ_eq_add_one, Nat.pow_succ]
        rw [Nat.mul_comm (256 ^ i) 256, ← Nat.div_div_eq_div_mul, show (c.toNat + 256 * num l) / 256 = num l from by omega]
    rw [List.length_cons, e, h2]
theorem num_lay (v : Nat) : ∀ n, num (lay v n) = v % 256 ^ n
  | 0 => by simp [lay, num, Nat.mod_one]
  | n + 1 => by
    rw [lay_succ, num_append, num_lay v n, lay_len]
    simp only [num]
    rw [Int.toNat_natCast, Nat.mul_zero, Nat.add_zero, Nat.pow_succ, Nat.mod_mul]
theorem or_add (a c j : Nat) (ha : a < 256 ^ j) : a ||| c * 256 ^ j = a + 256 ^ j * c := by
  have e : 256 ^ j = 2 ^ (8 * j) := by rw [Nat.pow_mul]
  rw [e] at ha ⊢
  rw [Nat.mul_comm c, Nat.or_comm, ← Nat.two_pow_add_eq_or_of_lt ha, Nat.add_comm]
theorem read_eq {fu : Nat} {l : List Int} (hb : Bytes l) (hl : l.length ≤ 8) (hf : l.length < fu) : octet_Read.f fu l = some ((num l : Nat) : Int) := by
  unfold octet_Read.f
  have hm : mnI (l.length : Int) 8 = (l.length : Int) := by
    unfold mnI
    split <;> omega
  have hc : cut l 0 (l.length : Int) = l := by
    unfold cut
    simp
  rw [hm, if_pos ⟨by omega, Int.le_refl _⟩]
  have : loopM (octet_Read.s0 fu l) fu (0, 0) = some ((num l : Nat) : Int) := by
    refine loopM_run (S := fun j => (((num (l.take j) : Nat) : Int), (j : Int))) l.length (by simp [num]) ?_ ?_ hf
    · intro j hj
      unfold octet_Read.s0
      rw [hm, hc]
      have h1 : (j : Int) < (l.length : Int) := by omega
      have w3 : IntKind.i64.wrap ((j : Int) + 1) = ((j + 1 : Nat) : Int) := by rw [w64 (by omega) (by omega)]; omega
      have w4 : IntKind.i64.wrap (8 * (j : Int)) = ((8 * j : Nat) : Int) := by rw [w64 (by omega) (by omega)]; omega
      have hcb := hb _ (List.getElem_mem hj)
      obtain ⟨c, hc'⟩ : ∃ c : Nat, l[j] = (c : Int) := ⟨l[j].toNat, by omega⟩
      have hlt : num (l.take j) < 256 ^ j := by
        have := num_lt (l := l.take j) fun x hx => hb x (List.mem_of_mem_take hx)
        rwa [List.length_take, Nat.min_eq_left (by omega)] at this
      have e256 : (256 : Nat) ^ j * 256 ≤ 256 ^ 8 := by
        rw [← Nat.pow_succ]
        exact Nat.pow_le_pow_right (by decide) (by omega)
      have e8 : (256 : Nat) ^ 8 = 18446744073709551616 := by decide
      have hcj : c * 256 ^ j < 18446744073709551616 := by
        have : c * 256 ^ j ≤ 255 * 256 ^ j := Nat.mul_le_mul_right _ (by omega)
        have : 0 < 256 ^ j := Nat.pow_pos (by decide)
        omega
      have e1 : shL .u64 (IntKind.u64.wrap (ix l (j : Int))) ((8 * j : Nat) : Int) = ((c * 256 ^ j : Nat) : Int) := by
        rw [ix_nat hj, hc', wu64 (by omega) (by omega)]
        unfold shL
        rw [Int.toNat_natCast, Nat.min_eq_left (by show 8 * j ≤ 64; omega)]
        have : (c : Int) * 2 ^ (8 * j) = ((c * 256 ^ j : Nat) : Int) := by
          have h256 : ((256 ^ j : Nat) : Int) = 2 ^ (8 * j) := by
            rw [Int.natCast_pow, Int.pow_mul]
            exact congrArg (fun z : Int => z ^ j) (by decide : ((256 : Nat) : Int) = 2 ^ 8)
          rw [Int.natCast_mul, h256]
        rw [this, wu64 (by omega) (by omega)]
      have e2 : bOr .u64 ((num (l.take j) : Nat) : Int) ((c * 256 ^ j : Nat) : Int) = ((num (l.take (j + 1)) : Nat) : Int) := by
        unfold bOr
        show IntKind.u64.wrap (((BitVec.ofInt 64 ((num (l.take j) : Nat) : Int) ||| BitVec.ofInt 64 ((c * 256 ^ j : Nat) : Int)).toNat : Nat) : Int) = _
        rw [BitVec.ofInt_natCast, BitVec.ofInt_natCast, BitVec.toNat_or, BitVec.toNat_ofNat, BitVec.toNat_ofNat, Nat.mod_eq_of_lt (by omega), Nat.mod_eq_of_lt (by omega), or_add _ _ _ hlt, take_next hj, num_append]
        have hs : num (l.take j) + 256 ^ j * c < 18446744073709551616 := by
          rw [Nat.mul_comm]
          have : c * 256 ^ j ≤ 255 * 256 ^ j := Nat.mul_le_mul_right _ (by omega)
          omega
        rw [wu64 (by omega) (by omega)]
        simp only [num, hc', Int.toNat_natCast, List.length_take, Nat.min_eq_left (by omega : j ≤ l.length), Nat.mul_zero, Nat.add_zero]
      simp only [h1, decide_true, if_true, w4, e1, e2, w3]
      rw [if_pos ⟨by omega, trivial⟩, if_pos (by omega)]
    · unfold octet_Read.s0
      rw [hm, hc]
      simp
  rw [this]
  rfl
theorem of_toB {l : List Int} (h : Bytes l) : (l.map toB).map ofB = l := by
  rw [List.map_map]
  conv => rhs; rw [← List.map_id l]
  apply List.map_congr_left
  intro x hx
  have := h x hx
  simp only [Function.comp, ofB, toB, UInt8.toNat_ofNat', id]
  omega
theorem Bytes.drop {l : List Int} (h : Bytes l) (n : Nat) : Bytes (l.drop n) := fun x hx => h x (List.mem_of_mem_drop hx)
theorem Bytes.take {l : List Int} (h : Bytes l) (n : Nat) : Bytes (l.take n) := fun x hx => h x (List.mem_of_mem_take hx)
theorem getD_toB {l : List Int} (hb : Bytes l) {i : Nat} (h : i < l.length) : ofB (List.getD (l.map toB) (Int.toNat (i : Int)) 0) = ix l (i : Int) := by
  rw [Int.toNat_natCast, List.getD_eq_getElem?_getD, List.getElem?_map, List.getElem?_eq_getElem h, ix_nat h]
  have := of_toB (l := [l[i]]) (by intro x hx; obtain rfl := List.mem_singleton.1 hx; exact hb _ (List.getElem_mem h))
  simpa using this
theorem num_lt8 {l : List Int} (hb : Bytes l) (hl : l.length ≤ 8) : num l < 18446744073709551616 := by
  have h1 := num_lt hb
  have h2 : (256 : Nat) ^ l.length ≤ 256 ^ 8 := Nat.pow_le_pow_right (by decide) hl
  have h3 : (256 : Nat) ^ 8 = 18446744073709551616 := by decide
  omega
theorem rnumber_eq {fu : Nat} {l : List Int} (hb : Bytes l) (hl : l.length ≤ 8) (hf : l.length < fu) : rickyardref01_Number.f fu (l.map toB) = some ((num l : Nat) : Int) := by
  unfold rickyardref01_Number.f
  have w0 : IntKind.i64.wrap (((l.map toB).length : Int) - 1) = (l.length : Int) - 1 := by rw [List.length_map, w64 (by omega) (by omega)]
  rw [w0]
  have : loopM (rickyardref01_Number.s0 fu (l.map toB)) fu (0, (l.length : Int) - 1) = some ((num l : Nat) : Int) := by
    refine loopM_run (S := fun j => (((num (l.drop (l.length - j)) : Nat) : Int), (l.length : Int) - 1 - (j : Int))) l.length (by simp [num]) ?_ ?_ hf
    · intro j hj
      unfold rickyardref01_Number.s0
      obtain ⟨i, hi⟩ : ∃ i : Nat, l.length - j = i + 1 := ⟨l.length - j - 1, by omega⟩
      have e1 : (l.length : Int) - 1 - (j : Int) = (i : Int) := by omega
      have hil : i < l.length := by omega
      have e2 : l.length - (j + 1) = i := by omega
      have c1 : (i : Int) ≥ 0 := by omega
      have c2 : (i : Int) < 8 := by omega
      have c3 : True ∧ (i : Int) < ((l.map toB).length : Int) := ⟨trivial, by rw [List.length_map]; omega⟩
      have w1 : IntKind.i64.wrap ((i : Int) - 1) = (l.length : Int) - 1 - ((j + 1 : Nat) : Int) := by rw [w64 (by omega) (by omega)]; omega
      have hcb := hb _ (List.getElem_mem hil)
      obtain ⟨c, hc⟩ : ∃ c : Nat, l[i] = (c : Int) := ⟨l[i].toNat, by omega⟩
      have hd : l.drop i = l[i] :: l.drop (i + 1) := List.drop_eq_getElem_cons hil
      have hn : num (l.drop i) = c + 256 * num (l.drop (i + 1)) := by rw [hd, num, hc, Int.toNat_natCast]
      have hlt := num_lt8 (hb.drop i) (by rw [List.length_drop]; omega)
      rw [hn] at hlt
      have w2 : IntKind.u64.wrap (((num (l.drop (i + 1)) : Nat) : Int) * 256) = ((num (l.drop (i + 1)) : Nat) : Int) * 256 := wu64 (by omega) (by omega)
      have w3 : IntKind.u64.wrap (ix l (i : Int)) = (c : Int) := by rw [ix_nat hil, hc, wu64 (by omega) (by omega)]
      have w4 : IntKind.u64.wrap (((num (l.drop (i + 1)) : Nat) : Int) * 256 + (c : Int)) = ((num (l.drop i) : Nat) : Int) := by rw [wu64 (by omega) (by omega), hn]; omega
      simp only [e1, hi, e2, getD_toB hb hil, w1, w2, w3, w4, c1, c2, decide_true, if_true]
      rw [if_pos c3]
      rfl
    · unfold rickyardref01_Number.s0
      have : ¬ (l.length : Int) - 1 - (l.length : Int) ≥ 0 := by omega
      simp only [this]
      simp
  rw [this]
  rfl
def I32 (x : BitVec 32) : Int := (x.toNat : Int)
theorem I32_lt (x : BitVec 32) : 0 ≤ I32 x ∧ I32 x ≤ 4294967295 := by
  unfold I32
  have := x.isLt
  omega
theorem ofI (x : BitVec 32) : BitVec.ofInt 32 (I32 x) = x := by
  unfold I32
  rw [BitVec.ofInt_natCast, BitVec.ofNat_toNat, BitVec.setWidth_eq]
theorem I32_of {n : Int} (h0 : 0 ≤ n) (h1 : n ≤ 4294967295) : n = I32 (BitVec.ofNat 32 n.toNat) := by
  unfold I32
  rw [BitVec.toNat_ofNat, Nat.mod_eq_of_lt (by omega)]
  omega
theorem wI32 (x : BitVec 32) : IntKind.u32.wrap (I32 x) = I32 x := wu32 (I32_lt x).1 (I32_lt x).2
theorem bx32 (x y : BitVec 32) : bXor .u32 (I32 x) (I32 y) = I32 (x ^^^ y) := by
  unfold bXor
  show IntKind.u32.wrap (((BitVec.ofInt 32 (I32 x) ^^^ BitVec.ofInt 32 (I32 y)).toNat : Nat) : Int) = _
  rw [ofI, ofI]
  exact wI32 _
theorem ba32 (x y : BitVec 32) : bAnd .u32 (I32 x) (I32 y) = I32 (x &&& y) := by
  unfold bAnd
  show IntKind.u32.wrap (((BitVec.ofInt 32 (I32 x) &&& BitVec.ofInt 32 (I32 y)).toNat : Nat) : Int) = _
  rw [ofI, ofI]
  exact wI32 _
theorem sr32 (x : BitVec 32) (n : Nat) (hn : n ≤ 32) : shR .u32 (I32 x) (n : Int) = I32 (x >>> n) := by
  unfold shR I32
  rw [BitVec.toNat_ushiftRight, Nat.shiftRight_eq_div_pow]
  show Int.fdiv (x.toNat : Int) (2 ^ min ((n : Int).toNat) 32) = _
  rw [Int.toNat_natCast, Nat.min_eq_left hn, Int.fdiv_eq_ediv_of_nonneg _ (Int.le_of_lt (Int.pow_pos (by decide)))]
  simp
def poly : BitVec 32 := 2197175160#32
def stp (x : BitVec 32) : BitVec 32 := (x >>> 1) ^^^ (if x.getLsbD 0 then poly else 0#32)
theorem lsb_and (x : BitVec 32) : (I32 (x &&& 1#32) = 1) ↔ x.getLsbD 0 = true := by
  unfold I32
  rw [BitVec.toNat_and]
  show ((x.toNat &&& 1 : Nat) : Int) = 1 ↔ x.toNat.testBit 0 = true
  rw [Nat.and_one_is_mod, Nat.testBit_zero]
  simp
  omega
theorem rstep_eq (fu : Nat) (x : BitVec 32) : rickyardref02_Step.f fu (I32 x) = some (I32 (stp x)) := by
  unfold rickyardref02_Step.f stp
  have hb := I32_lt x
  have e1 : Int.tmod (I32 x) 2 = I32 (x &&& 1#32) := by
    rw [Int.tmod_eq_emod_of_nonneg hb.1]
    unfold I32
    rw [BitVec.toNat_and]
    show ((x.toNat : Int)) % 2 = ((x.toNat &&& 1 : Nat) : Int)
    rw [Nat.and_one_is_mod]
    omega
  have e2 : Int.tdiv (I32 x) 2 = I32 (x >>> 1) := by
    rw [Int.tdiv_eq_ediv_of_nonneg hb.1]
    unfold I32
    rw [BitVec.toNat_ushiftRight, Nat.shiftRight_eq_div_pow]
    omega
  have e3 : bXor .u32 (I32 (x >>> 1)) 2197175160 = I32 (x >>> 1 ^^^ poly) := bx32 (x >>> 1) poly
  rw [e1, e2, wI32, e3]
  by_cases h : x.getLsbD 0 = true
  · rw [if_pos (by simpa using (lsb_and x).2 h), if_pos h]
  · rw [if_neg (by simpa using fun e => h ((lsb_and x).1 e)), if_neg h]
    simp
theorem xor4 (a b p q : BitVec 32) : (a ^^^ b) ^^^ (p ^^^ q) = (a ^^^ p) ^^^ (b ^^^ q) := by
  rw [BitVec.xor_assoc, ← BitVec.xor_assoc b, BitVec.xor_comm b p, BitVec.xor_assoc p, ← BitVec.xor_assoc]
theorem sel_xor (a b : Bool) (p : BitVec 32) : (if (a ^^ b) = true then p else 0#32) = (if a = true then p else 0#32) ^^^ (if b = true then p else 0#32) := by
  cases a <;> cases b <;> simp
theorem stp_xor (x y : BitVec 32) : stp (x ^^^ y) = stp x ^^^ stp y := by
  unfold stp
  rw [BitVec.ushiftRight_xor_distrib, BitVec.getLsbD_xor, sel_xor, xor4]
def stps : Nat → BitVec 32 → BitVec 32
  | 0, x => x
  | n + 1, x => stps n (stp x)
theorem stps_xor : ∀ (n : Nat) (x y : BitVec 32), stps n (x ^^^ y) = stps n x ^^^ stps n y
  | 0, x, y => rfl
  | n + 1, x, y => by
    unfold stps
    rw [stp_xor, stps_xor n]
theorem stps_add (m : Nat) : ∀ (n : Nat) (x : BitVec 32), stps (n + m) x = stps m (stps n x)
  | 0, x => by simp [stps]
  | n + 1, x => by
    rw [Nat.add_right_comm]
    show stps (n + m) (stp x) = stps m (stps n (stp x))
    exact stps_add m n (stp x)
theorem stps_succ (n : Nat) (x : BitVec 32) : stps (n + 1) x = stp (stps n x) := stps_add 1 n x
theorem stp_even {x : BitVec 32} (h : x.getLsbD 0 = false) : stp x = x >>> 1 := by
  unfold stp
  rw [h]
  simp
theorem stps_high (x : BitVec 32) : ∀ n, (∀ j, j < n → x.getLsbD j = false) → stps n x = x >>> n
  | 0, _ => by simp [stps]
  | n + 1, h => by
    rw [stps_succ, stps_high x n fun j hj => h j (by omega)]
    rw [stp_even (by rw [BitVec.getLsbD_ushiftRight]; exact h (n + 0) (by omega)), ← BitVec.shiftRight_add]
theorem low_bit (n j : Nat) (hj : j < n) (hn : n ≤ 32) : (BitVec.ofNat 32 (2 ^ n - 1)).getLsbD j = true := by
  rw [BitVec.getLsbD_ofNat, Nat.testBit_two_pow_sub_one]
  simp
  omega
theorem high_bit (n j : Nat) (hj : n ≤ j) : (BitVec.ofNat 32 (2 ^ n - 1)).getLsbD j = false := by
  rw [BitVec.getLsbD_ofNat, Nat.testBit_two_pow_sub_one]
  simp
  omega
theorem stps_split (n : Nat) (hn : n ≤ 32) (x : BitVec 32) : stps n x = (x >>> n) ^^^ stps n (x &&& BitVec.ofNat 32 (2 ^ n - 1)) := by
  have e : x = (x &&& ~~~ BitVec.ofNat 32 (2 ^ n - 1)) ^^^ (x &&& BitVec.ofNat 32 (2 ^ n - 1)) := by
    apply BitVec.eq_of_getLsbD_eq
    intro i hi
    rw [BitVec.getLsbD_xor, BitVec.getLsbD_and, BitVec.getLsbD_and, BitVec.getLsbD_not]
    cases x.getLsbD i <;> cases (BitVec.ofNat 32 (2 ^ n - 1)).getLsbD i <;> simp [hi]
  conv => lhs; rw [e]
  rw [stps_xor, stps_high]
  · congr 1
    apply BitVec.eq_of_getLsbD_eq
    intro i hi
    rw [BitVec.getLsbD_ushiftRight, BitVec.getLsbD_ushiftRight, BitVec.getLsbD_and, BitVec.getLsbD_not, high_bit n (n + i) (by omega)]
    by_cases h : n + i < 32
    · simp [h]
    · have : x.getLsbD (n + i) = false := BitVec.getLsbD_of_ge _ _ (by omega)
      simp [this]
  · intro j hj
    rw [BitVec.getLsbD_and, BitVec.getLsbD_not, low_bit n j hj hn]
    simp
def b32 (c : Int) : BitVec 32 := BitVec.ofNat 32 c.toNat
theorem b32_eq {c : Int} (h : 0 ≤ c ∧ c ≤ 255) : IntKind.u32.wrap c = I32 (b32 c) := by
  rw [wu32 h.1 (by omega)]
  exact I32_of h.1 (by omega)
def take8 (x : BitVec 32) (c : Int) : BitVec 32 := stps 8 (x ^^^ b32 c)
def regs (x : BitVec 32) (l : List Int) : BitVec 32 := l.foldl take8 x
def tabL : List Int := (List.range 16).map fun i => I32 (stps 4 (BitVec.ofNat 32 i))
def tabA : Arr 16 Int := ⟨tabL, rfl⟩
theorem table_at (n : Nat) : crc_Table.f (n + 20) = some tabA := by kernel_rfl
theorem table_eq {fu : Nat} (h : 20 ≤ fu) : crc_Table.f fu = some tabA := by
  obtain ⟨n, rfl⟩ : ∃ n, fu = n + 20 := ⟨fu - 20, by omega⟩
  exact table_at n
theorem tab_get : ∀ i : Fin 16, Arr.get tabA ((i : Nat) : Int) = I32 (stps 4 (BitVec.ofNat 32 (i : Nat))) := by decide +kernel
theorem nib (x : BitVec 32) : bXor .u32 (shR .u32 (I32 x) 4) (Arr.get tabA (bAnd .u32 (I32 x) 15)) = I32 (stps 4 x) := by
  have e1 : bAnd .u32 (I32 x) 15 = I32 (x &&& 15#32) := ba32 x 15#32
  have e2 : shR .u32 (I32 x) 4 = I32 (x >>> 4) := sr32 x 4 (by decide)
  have hlt : (x &&& 15#32).toNat < 16 := by
    rw [BitVec.toNat_and]
    exact Nat.lt_of_le_of_lt Nat.and_le_right (by decide)
  have e3 : Arr.get tabA (I32 (x &&& 15#32)) = I32 (stps 4 (x &&& 15#32)) := by
    have := tab_get ⟨(x &&& 15#32).toNat, hlt⟩
    simp only [BitVec.ofNat_toNat, BitVec.setWidth_eq] at this
    exact this
  rw [e1, e2, e3, bx32]
  exact congrArg I32 (stps_split 4 (by decide) x).symm
theorem nib_in (x : BitVec 32) : 0 ≤ bAnd .u32 (I32 x) 15 ∧ bAnd .u32 (I32 x) 15 < 16 := by
  have e1 : bAnd .u32 (I32 x) 15 = I32 (x &&& 15#32) := ba32 x 15#32
  have hlt : (x &&& 15#32).toNat < 16 := by
    rw [BitVec.toNat_and]
    exact Nat.lt_of_le_of_lt Nat.and_le_right (by decide)
  rw [e1]
  unfold I32
  omega
theorem reg_eq {fu : Nat} {x : BitVec 32} {l : List Int} (hb : Bytes l) (hl : l.length ≤ 9000000000000000000) (hf : l.length < fu) : crc_register.f fu tabA (I32 x) l = some (I32 (regs x l)) := by
  unfold crc_register.f
  have : loopM (crc_register.s0 fu tabA l) fu (I32 x, 0) = some (I32 (regs x l)) := by
    refine loopM_run (S := fun j => (I32 (regs x (l.take j)), (j : Int))) l.length (by simp [regs]) ?_ ?_ hf
    · intro j hj
      unfold crc_register.s0
      have h1 : (j : Int) < (l.length : Int) := by omega
      have w3 : IntKind.i64.wrap ((j : Int) + 1) = ((j + 1 : Nat) : Int) := by rw [w64 (by omega) (by omega)]; omega
      have hc := hb _ (List.getElem_mem hj)
      have e1 : bXor .u32 (I32 (regs x (l.take j))) (IntKind.u32.wrap (ix l (j : Int))) = I32 (regs x (l.take j) ^^^ b32 l[j]) := by
        rw [ix_nat hj, b32_eq hc, bx32]
      have e2 : regs x (l.take (j + 1)) = stps 4 (stps 4 (regs x (l.take j) ^^^ b32 l[j])) := by
        rw [take_next hj]
        unfold regs
        rw [List.foldl_append]
        exact stps_add 4 4 _
      simp only [h1, decide_true, if_true, e1, nib, w3, e2]
      rw [if_pos ⟨by omega, trivial⟩, if_pos (nib_in _), if_pos (nib_in _)]
    · unfold crc_register.s0
      simp
  rw [this]
  rfl
def ones : BitVec 32 := 4294967295#32
def crc (l : List Int) : BitVec 32 := regs ones l ^^^ ones
theorem sum_eq {fu : Nat} {l : List Int} (hb : Bytes l) (hl : l.length ≤ 9000000000000000000) (hf : l.length + 20 < fu) : crc_Sum.f fu [l] = some (I32 (crc l)) := by
  unfold crc_Sum.f
  rw [table_eq (by omega)]
  have : loopM (crc_Sum.s0 fu [l] tabA) fu (4294967295, 0) = some (I32 (regs ones l)) := by
    refine loopM_run (S := fun j => (if j = 0 then I32 ones else I32 (regs ones l), (j : Int))) 1 rfl ?_ ?_ (by omega)
    · intro j hj
      obtain rfl : j = 0 := by omega
      unfold crc_Sum.s0
      have e0 : ix [l] ((0 : Nat) : Int) = l := rfl
      have w3 : IntKind.i64.wrap (((0 : Nat) : Int) + 1) = ((0 + 1 : Nat) : Int) := by decide
      simp only [e0, w3, if_true, reg_eq hb hl (by omega : l.length < fu)]
      simp
    · unfold crc_Sum.s0
      simp
  simp only [Option.bind_some]
  rw [this]
  simp only [Option.bind_some]
  exact congrArg some (bx32 _ ones)
theorem rsteps_eq {fu : Nat} {x : BitVec 32} (hf : 8 < fu) : rickyardref02_Steps.f fu (I32 x) 8 = some (I32 (stps 8 x)) := by
  unfold rickyardref02_Steps.f
  have : loopM (rickyardref02_Steps.s0 fu 8) fu (I32 x, 0) = some (I32 (stps 8 x)) := by
    refine loopM_run (S := fun j => (I32 (stps j x), (j : Int))) 8 rfl ?_ ?_ hf
    · intro j hj
      unfold rickyardref02_Steps.s0
      have h1 : (j : Int) < 8 := by omega
      have w3 : IntKind.i64.wrap ((j : Int) + 1) = ((j + 1 : Nat) : Int) := by rw [w64 (by omega) (by omega)]; omega
      simp only [h1, decide_true, if_true, rstep_eq, w3, stps_succ]
      rfl
    · unfold rickyardref02_Steps.s0
      simp
  rw [this]
  rfl
theorem rsum_eq {fu : Nat} {l : List Int} (hb : Bytes l) (hl : l.length ≤ 9000000000000000000) (hf : l.length + 20 < fu) : rickyardref02_Sum.f fu l = some (I32 (crc l)) := by
  unfold rickyardref02_Sum.f
  have : loopM (rickyardref02_Sum.s0 fu l) fu (4294967295, 0) = some (I32 (regs ones l)) := by
    refine loopM_run (S := fun j => (I32 (regs ones (l.take j)), (j : Int))) l.length (by simp [regs]; rfl) ?_ ?_ (by omega)
    · intro j hj
      unfold rickyardref02_Sum.s0
      have h1 : (j : Int) < (l.length : Int) := by omega
      have w3 : IntKind.i64.wrap ((j : Int) + 1) = ((j + 1 : Nat) : Int) := by rw [w64 (by omega) (by omega)]; omega
      have hc := hb _ (List.getElem_mem hj)
      have e1 : bXor .u32 (I32 (regs ones (l.take j))) (IntKind.u32.wrap (ix l (j : Int))) = I32 (regs ones (l.take j) ^^^ b32 l[j]) := by
        rw [ix_nat hj, b32_eq hc, bx32]
      have e2 : regs ones (l.take (j + 1)) = stps 8 (regs ones (l.take j) ^^^ b32 l[j]) := by
        rw [take_next hj]
        unfold regs
        rw [List.foldl_append]
        rfl
      simp only [h1, decide_true, if_true, e1, w3, e2, rsteps_eq (by omega : 8 < fu)]
      rw [if_pos ⟨by omega, trivial⟩]
      rfl
    · unfold rickyardref02_Sum.s0
      simp
  rw [this]
  have e : IntKind.u32.wrap (4294967295 - I32 (regs ones l)) = I32 (crc l) := by
    have hlt := (regs ones l).isLt
    have h2 : (crc l).toNat = 4294967295 - (regs ones l).toNat := by
      unfold crc
      have : regs ones l ^^^ ones = ~~~ (regs ones l) := by
        apply BitVec.eq_of_getLsbD_eq
        intro i hi
        have ho : ones.getLsbD i = true := by
          have := low_bit 32 i hi (by decide)
          exact this
        rw [BitVec.getLsbD_xor, BitVec.getLsbD_not, ho]
        simp [hi]
      rw [this, BitVec.toNat_not]
    unfold I32
    rw [h2, wu32 (by omega) (by omega)]
    omega
  simp only [Option.bind_some, e]
theorem toB_inj {a b : Int} (ha : 0 ≤ a ∧ a ≤ 255) (hb : 0 ≤ b ∧ b ≤ 255) (h : toB a = toB b) : a = b := by
  unfold toB at h
  have := congrArg UInt8.toNat h
  simp only [UInt8.toNat_ofNat'] at this
  omega
theorem map_toB_inj : ∀ {a b : List Int}, Bytes a → Bytes b → a.map toB = b.map toB → a = b
  | [], [], _, _, _ => rfl
  | [], _ :: _, _, _, h => by simp at h
  | _ :: _, [], _, _, h => by simp at h
  | x :: a, y :: b, ha, hb, h => by
    simp only [List.map_cons, List.cons.injEq] at h
    rw [toB_inj (ha x (by simp)) (hb y (by simp)) h.1, map_toB_inj (fun z hz => ha z (by simp [hz])) (fun z hz => hb z (by simp [hz])) h.2]
theorem map_toB_iff {a b : List Int} (ha : Bytes a) (hb : Bytes b) : (a.map toB = b.map toB) ↔ a = b := ⟨map_toB_inj ha hb, fun h => by rw [h]⟩
theorem Bytes.app {a b : List Int} (ha : Bytes a) (hb : Bytes b) : Bytes (a ++ b) := by
  intro x hx
  rcases List.mem_append.1 hx with h | h
  · exact ha x h
  · exact hb x h
theorem Bytes.rep (n : Nat) : Bytes (List.replicate n (0 : Int)) := by
  intro x hx
  obtain rfl := List.eq_of_mem_replicate hx
  omega
def summed (k t : Int) (body : List Int) : List Int := [k, t, 0, 0] ++ (body ++ List.replicate (56 - body.length) 0)
def sealed (s : List Int) : List Int := lay (crc s).toNat 4 ++ s
theorem summed_len {k t : Int} {body : List Int} (h : body.length ≤ 56) : (summed k t body).length = 60 := by
  simp [summed]
  omega
theorem summed_bytes {k t : Int} {body : List Int} (hk : 0 ≤ k ∧ k ≤ 255) (ht : 0 ≤ t ∧ t ≤ 255) (hb : Bytes body) : Bytes (summed k t body) := by
  refine Bytes.app ?_ (Bytes.app hb (Bytes.rep _))
  intro x hx
  simp only [List.mem_cons, List.not_mem_nil, or_false] at hx
  rcases hx with rfl | rfl | rfl | rfl <;> omega
theorem sealed_bytes {s : List Int} (h : Bytes s) : Bytes (sealed s) := Bytes.app (lay_bytes _ _) h
theorem rlay4_eq {fu : Nat} (x : BitVec 32) (hf : 8 < fu) : rickyardref01_Lay.f fu (IntKind.u64.wrap (I32 x)) 4 = some ((lay x.toNat 4).map toB) := by
  have hb := I32_lt x
  rw [wu64 hb.1 (by omega)]
  exact rlay_eq (n := 4) (by have := x.isLt; omega) (by decide) (by omega)
theorem fill_eq {fu : Nat} {body : List Int} (hl : body.length ≤ 56) : rickyardref07_Fill.f fu (body.map toB) 56 = some ((body ++ List.replicate (56 - body.length) 0).map toB) := by
  unfold rickyardref07_Fill.f
  have e1 : mxI (IntKind.i64.wrap (56 - (List.length (body.map toB) : Int))) 0 = ((56 - body.length : Nat) : Int) := by
    rw [List.length_map, w64 (by omega) (by omega)]
    unfold mxI
    split <;> omega
  have hL : (100 : Nat) ≤ LIM := by decide
  rw [e1, Int.toNat_natCast, if_pos ⟨by omega, by omega⟩, if_pos (by simp only [List.length_map, List.length_replicate]; omega), List.map_append]
theorem rseal_eq {fu : Nat} {k t : Int} {body : List Int} (hb : Bytes body) (hk : 0 ≤ k ∧ k ≤ 255) (ht : 0 ≤ t ∧ t ≤ 255) (hl : body.length ≤ 56) (hf : 100 < fu) : rickyardref07_Seal.f fu k t (body.map toB) = some ((sealed (summed k t body)).map toB) := by
  have hs := summed_len (k := k) (t := t) hl
  have hsb := summed_bytes hk ht hb
  unfold rickyardref07_Seal.f
  rw [wu8 hk.1 hk.2, wu8 ht.1 ht.2]
  have e1 : List.map toB [k, t, 0, 0] ++ List.map toB (body ++ List.replicate (56 - body.length) 0) = (summed k t body).map toB := by
    rw [← List.map_append]
    rfl
  have hL : (100 : Nat) ≤ LIM := by decide
  have e2 : List.length (List.map toB [k, t, 0, 0]) + List.length (List.map toB (body ++ List.replicate (56 - body.length) 0)) ≤ LIM := by
    simp
    omega
  simp only [fill_eq (fu := fu) hl, Option.bind_some, e1, of_toB hsb, rsum_eq (fu := fu) hsb (by omega) (by omega), rlay4_eq (fu := fu) _ (by omega : 8 < fu)]
  rw [if_pos e2, if_pos (by simp [lay_len, hs]; omega)]
  simp [sealed]
theorem there_eq {fu : Nat} {b : List Int} {i n : Nat} (hl : b.length ≤ 9000000000000000000) (h : i + n ≤ b.length) : octet_there.f fu b (i : Int) (n : Int) = some true := by
  unfold octet_there.f
  have h1 : (i : Int) ≥ 0 := by omega
  have h2 : (n : Int) ≥ 0 := by omega
  have h3 : (n : Int) ≤ (b.length : Int) := by omega
  have h4 : IntKind.i64.wrap ((b.length : Int) - (n : Int)) = (b.length : Int) - (n : Int) := w64 (by omega) (by omega)
  have h5 : (i : Int) ≤ (b.length : Int) - (n : Int) := by omega
  simp [h1, h2, h3, h4, h5]
theorem noughts_from {fu : Nat} (b : List Int) (x n : Int) {C : List Int} (hC : cut b x (IntKind.i64.wrap (x + n)) = C) (hl : C.length ≤ 9000000000000000000) : ∀ k m, m ≤ C.length → C.length - m < k → loopM (octet_Noughts.s0 fu b x n) k (m : Int) = some (if ∀ y ∈ C.drop m, y = 0 then .inr () else .inl false)
  | 0, m, _, hk => by omega
  | k + 1, m, hm, hk => by
    unfold loopM
    by_cases e : m = C.length
    · subst e
      have : octet_Noughts.s0 fu b x n (C.length : Int) = some (.inl (.inr ())) := by
        unfold octet_Noughts.s0
        rw [hC]
        simp
      rw [this]
      simp
    · have hlt : m < C.length := by omega
      have hx : ix C (m : Int) = C[m] := ix_nat hlt
      rw [List.drop_eq_getElem_cons hlt]
      have h1 : (m : Int) < (C.length : Int) := by omega
      by_cases hn : C[m] = 0
      · have w3 : IntKind.i64.wrap ((m : Int) + 1) = ((m + 1 : Nat) : Int) := by rw [w64 (by omega) (by omega)]; omega
        have : octet_Noughts.s0 fu b x n (m : Int) = some (.inr ((m + 1 : Nat) : Int)) := by
          unfold octet_Noughts.s0
          rw [hC]
          simp [h1, hx, hn, w3, hlt]
        rw [this]
        simp only
        rw [noughts_from b x n hC hl k (m + 1) (by omega) (by omega)]
        have e3 : (∀ y ∈ C[m] :: C.drop (m + 1), y = 0) ↔ ∀ y ∈ C.drop (m + 1), y = 0 := by
          constructor
          · intro h y hy
            exact h y (List.mem_cons_of_mem _ hy)
          · intro h y hy
            rcases List.mem_cons.1 hy with rfl | hy
            · exact hn
            · exact h y hy
        simp only [e3]
      · have : octet_Noughts.s0 fu b x n (m : Int) = some (.inl (.inl false)) := by
          unfold octet_Noughts.s0
          rw [hC]
          simp [h1, hx, hn, hlt]
        rw [this]
        have e3 : ¬ (∀ y ∈ C[m] :: C.drop (m + 1), y = 0) := fun h => hn (h _ (List.mem_cons_self ..))
        simp only [e3, if_false]
theorem noughts_eq {fu : Nat} {b : List Int} {i n : Nat} (hl : b.length ≤ 9000000000000000000) (h : i + n ≤ b.length) (hf : n < fu) : octet_Noughts.f fu b (i : Int) (n : Int) = some (decide (∀ y ∈ (b.drop i).take n, y = 0)) := by
  unfold octet_Noughts.f
  rw [there_eq hl h]
  have w1 : IntKind.i64.wrap ((i : Int) + (n : Int)) = ((i + n : Nat) : Int) := by rw [w64 (by omega) (by omega)]; omega
  have hC : cut b (i : Int) (IntKind.i64.wrap ((i : Int) + (n : Int))) = (b.drop i).take n := by
    rw [w1]
    unfold cut
    rw [Int.toNat_natCast, Int.toNat_natCast, List.drop_take]
    congr 1
    omega
  have hlen : ((b.drop i).take n).length = n := by
    rw [List.length_take, List.length_drop]
    omega
  have := noughts_from (fu := fu) b (i : Int) (n : Int) hC (by omega) fu 0 (by omega) (by omega)
  rw [Int.natCast_zero, List.drop_zero] at this
  have c1 : 0 ≤ (i : Int) ∧ (i : Int) ≤ IntKind.i64.wrap ((i : Int) + (n : Int)) ∧ IntKind.i64.wrap ((i : Int) + (n : Int)) ≤ (b.length : Int) := by
    rw [w1]
    omega
  simp only [Option.bind_some, Bool.not_true, Bool.false_eq_true, if_false]
  rw [if_pos c1, this]
  by_cases hz : ∀ y ∈ (b.drop i).take n, y = 0
  · rw [if_pos hz]
    simp only [Option.bind_some, decide_eq_true hz]
  · rw [if_neg hz]
    simp only [Option.bind_some, decide_eq_false hz]
def Is (b : List Int) : Prop := b.length = 64 ∧ ix b 4 ≠ 0 ∧ b = sealed (summed (ix b 4) (ix b 5) (b.drop 8))
instance (b : List Int) : Decidable (Is b) := inferInstanceAs (Decidable (_ ∧ _))
theorem parts {b : List Int} (h : b.length = 64) : b = b.take 4 ++ ([ix b 4, ix b 5, ix b 6, ix b 7] ++ b.drop 8) := by
  have e : b.drop 4 = [ix b 4, ix b 5, ix b 6, ix b 7] ++ b.drop 8 := by
    have g : ∀ j : Nat, j < 64 → b.drop j = ix b (j : Int) :: b.drop (j + 1) := by
      intro j hj
      rw [List.drop_eq_getElem_cons (by omega), ix_nat (by omega)]
    rw [g 4 (by omega), g 5 (by omega), g 6 (by omega), g 7 (by omega)]
    rfl
  rw [← e, List.take_append_drop]
theorem blkgap_eq {b : List Int} (h : b.length = 64) : (b.drop 6).take 2 = [ix b 6, ix b 7] := by
  have g : ∀ j : Nat, j < 64 → b.drop j = ix b (j : Int) :: b.drop (j + 1) := by
    intro j hj
    rw [List.drop_eq_getElem_cons (by omega), ix_nat (by omega)]
  rw [g 6 (by omega), g 7 (by omega)]
  rfl
theorem drop4 {b : List Int} (h : b.length = 64) : b.drop 4 = [ix b 4, ix b 5, ix b 6, ix b 7] ++ b.drop 8 := by
  have g : ∀ j : Nat, j < 64 → b.drop j = ix b (j : Int) :: b.drop (j + 1) := by
    intro j hj
    rw [List.drop_eq_getElem_cons (by omega), ix_nat (by omega)]
  rw [g 4 (by omega), g 5 (by omega), g 6 (by omega), g 7 (by omega)]
  rfl
theorem summed_full (k t : Int) {body : List Int} (h : body.length = 56) : summed k t body = [k, t, 0, 0] ++ body := by
  unfold summed
  rw [h]
  simp
theorem is_iff {b : List Int} (hb : Bytes b) (h : b.length = 64) : b = sealed (summed (ix b 4) (ix b 5) (b.drop 8)) ↔ (ix b 6 = 0 ∧ ix b 7 = 0) ∧ num (b.take 4) = (crc (b.drop 4)).toNat := by
  have h8 : (b.drop 8).length = 56 := by rw [List.length_drop, h]
  have h4 : (b.take 4).length = 4 := by rw [List.length_take, h]; rfl
  rw [summed_full _ _ h8]
  constructor
  · intro e
    have e2 : b.take 4 ++ b.drop 4 = lay (crc ([ix b 4, ix b 5, 0, 0] ++ b.drop 8)).toNat 4 ++ ([ix b 4, ix b 5, 0, 0] ++ b.drop 8) := by
      rw [List.take_append_drop]
      exact e
    obtain ⟨e3, e4⟩ := List.append_inj e2 (by rw [h4, lay_len])
    have e5 := e4
    rw [drop4 h] at e5
    have e6 := List.append_inj_left e5 rfl
    simp only [List.cons.injEq, and_true, true_and] at e6
    refine ⟨e6, ?_⟩
    rw [e3, e4, num_lay]
    exact Nat.mod_eq_of_lt (crc _).isLt
  · rintro ⟨⟨h6, h7⟩, hn⟩
    have e4 : b.drop 4 = [ix b 4, ix b 5, 0, 0] ++ b.drop 8 := by
      have := drop4 h
      rw [h6, h7] at this
      exact this
    unfold sealed
    rw [← e4, ← hn]
    have := lay_num (hb.take 4)
    rw [h4] at this
    rw [this, List.take_append_drop]
theorem right_is {fu : Nat} {b : List Int} (hb : Bytes b) (hl : b.length ≤ 9000000000000000000) (hf : 100 < fu) : block_right.f fu b = some (decide (Is b)) := by
  unfold block_right.f
  by_cases h : b.length = 64
  · have hL : (b.length : Int) = 64 := by omega
    by_cases h4 : ix b 4 = 0
    · simp [hL, h4, Is]
    · have hn : octet_Noughts.f fu b 6 2 = some (decide (∀ y ∈ (b.drop 6).take 2, y = 0)) := noughts_eq (i := 6) (n := 2) hl (by omega) (by omega)
      have hg : (∀ y ∈ (b.drop 6).take 2, y = 0) ↔ ix b 6 = 0 ∧ ix b 7 = 0 := by
        rw [blkgap_eq h]
        simp
      by_cases hz : ix b 6 = 0 ∧ ix b 7 = 0
      · have c1 : cut b 0 4 = b.take 4 := by
          unfold cut
          rfl
        have c2 : cut b 4 (b.length : Int) = b.drop 4 := by
          unfold cut
          rw [Int.toNat_natCast, List.take_length]
          rfl
        have h4' : (b.take 4).length = 4 := by rw [List.length_take, h]; rfl
        have hr : octet_Read.f fu (b.take 4) = some ((num (b.take 4) : Nat) : Int) := read_eq (hb.take 4) (by omega) (by omega)
        have hlt : num (b.take 4) < 4294967296 := by
          have := num_lt (hb.take 4)
          rwa [h4'] at this
        have hd : (b.drop 4).length = 60 := by rw [List.length_drop, h]
        have hs : crc_Sum.f fu [b.drop 4] = some (I32 (crc (b.drop 4))) := sum_eq (hb.drop 4) (by omega) (by omega)
        have hw : IntKind.u32.wrap ((num (b.take 4) : Nat) : Int) = ((num (b.take 4) : Nat) : Int) := wu32 (by omega) (by omega)
        have hi : Is b ↔ num (b.take 4) = (crc (b.drop 4)).toNat := by
          unfold Is
          rw [is_iff hb h]
          exact ⟨fun x => x.2.2.2, fun x => ⟨h, h4, hz, x⟩⟩
        have hq : (I32 (crc (b.drop 4)) = ((num (b.take 4) : Nat) : Int)) ↔ Is b := by
          rw [hi]
          unfold I32
          omega
        unfold crc_Fits.f
        rw [hn, decide_eq_true (hg.2 hz), c1, c2, hr]
        simp only [Option.bind_some, hw, hs, hq]
        have hL5 : (4 : Int) < (b.length : Int) := by omega
        have hL6 : (4 : Int) ≤ (b.length : Int) := by omega
        simp [hL, h4]
      · have hi : ¬ Is b := by
          intro x
          unfold Is at x
          rw [is_iff hb h] at x
          exact hz x.2.2.1
        rw [hn, decide_eq_false (fun x => hz (hg.1 x))]
        simp [hL, h4, hi]
  · have hi : ¬ Is b := fun x => h x.1
    have hL : ¬ (b.length : Int) = 64 := by omega
    simp [hL, hi]
theorem open_eq {fu : Nat} {b : List Int} (hb : Bytes b) (hl : b.length ≤ 9000000000000000000) (hf : 100 < fu) : block_Open.f fu b = some (if Is b then (ix b 4, ix b 5, b.drop 8, true) else (0, 0, [], false)) := by
  unfold block_Open.f
  rw [right_is hb hl hf]
  by_cases h : Is b
  · have h0 := h.1
    have c2 : cut b 8 (b.length : Int) = b.drop 8 := by
      unfold cut
      rw [Int.toNat_natCast, List.take_length]
      rfl
    have hc : bytes_Clone.f fu (b.drop 8) = some (b.drop 8) := by
      unfold bytes_Clone.f
      rw [if_pos]
      rw [List.length_drop, h0]
      decide
    have h4 : 0 ≤ ix b 4 ∧ ix b 4 ≤ 255 := by
      have := ix_nat (l := b) (j := 4) (by omega)
      rw [show ((4 : Nat) : Int) = 4 from rfl] at this
      rw [this]
      exact hb _ (List.getElem_mem _)
    have h5 : 0 ≤ ix b 5 ∧ ix b 5 ≤ 255 := by
      have := ix_nat (l := b) (j := 5) (by omega)
      rw [show ((5 : Nat) : Int) = 5 from rfl] at this
      rw [this]
      exact hb _ (List.getElem_mem _)
    have w4 : IntKind.i64.wrap (ix b 4) = ix b 4 := w64 (by omega) (by omega)
    have w5 : IntKind.i64.wrap (ix b 5) = ix b 5 := w64 (by omega) (by omega)
    simp only [c2, hc, w4, w5]
    simp [h, h0]
  · simp [h]
theorem sealed_parts (k t : Int) (body : List Int) : ix (sealed (summed k t body)) 4 = k ∧ ix (sealed (summed k t body)) 5 = t ∧ (sealed (summed k t body)).drop 8 = body ++ List.replicate (56 - body.length) 0 := by
  unfold sealed
  obtain ⟨a, b, c, d, e⟩ : ∃ a b c d, lay (crc (summed k t body)).toNat 4 = [a, b, c, d] := ⟨_, _, _, _, rfl⟩
  rw [e]
  exact ⟨rfl, rfl, rfl⟩
theorem fulled (body : List Int) (h : body.length ≤ 56) : (body ++ List.replicate (56 - body.length) (0 : Int)).length = 56 := by
  simp
  omega
theorem ix_byte {b : List Int} (hb : Bytes b) (j : Nat) (h : j < b.length) : 0 ≤ ix b (j : Int) ∧ ix b (j : Int) ≤ 255 := by
  rw [ix_nat h]
  exact hb _ (List.getElem_mem _)
theorem ropen_eq {fu : Nat} {b : List Int} (hb : Bytes b) (hf : 100 < fu) : rickyardref07_Open.f fu b = some (if Is b then (ix b 4, ix b 5, (b.drop 8).map toB, true) else (0, 0, [], false)) := by
  unfold rickyardref07_Open.f
  by_cases h : b.length = 64
  · have hL : (b.length : Int) = 64 := by omega
    have b4 := ix_byte hb 4 (by omega)
    have b5 := ix_byte hb 5 (by omega)
    rw [show ((4 : Nat) : Int) = 4 from rfl] at b4
    rw [show ((5 : Nat) : Int) = 5 from rfl] at b5
    have w4 : IntKind.i64.wrap (ix b 4) = ix b 4 := w64 (by omega) (by omega)
    have w5 : IntKind.i64.wrap (ix b 5) = ix b 5 := w64 (by omega) (by omega)
    have c2 : cut b 8 (b.length : Int) = b.drop 8 := by
      unfold cut
      rw [Int.toNat_natCast, List.take_length]
      rfl
    have h8 : (b.drop 8).length = 56 := by rw [List.length_drop, h]
    have hs : rickyardref07_Seal.f fu (ix b 4) (ix b 5) ((b.drop 8).map toB) = some ((sealed (summed (ix b 4) (ix b 5) (b.drop 8))).map toB) := rseal_eq (hb.drop 8) b4 b5 (by omega) hf
    have hq : (sealed (summed (ix b 4) (ix b 5) (b.drop 8))).map toB = b.map toB ↔ b = sealed (summed (ix b 4) (ix b 5) (b.drop 8)) :=
      (map_toB_iff (sealed_bytes (summed_bytes b4 b5 (hb.drop 8))) hb).trans ⟨Eq.symm, Eq.symm⟩
    rw [c2, w4, w5]
    by_cases h4 : ix b 4 = 0
    · have hi : ¬ Is b := fun x => x.2.1 h4
      simp [hL, h4, hi]
    · by_cases he : b = sealed (summed (ix b 4) (ix b 5) (b.drop 8))
      · have hi : Is b := ⟨h, h4, he⟩
        simp only [hs, hq.2 he]
        simp [hL, h4, hi]
      · have hi : ¬ Is b := fun x => he x.2.2
        have hne : ¬ (sealed (summed (ix b 4) (ix b 5) (b.drop 8))).map toB = b.map toB := fun x => he (hq.1 x)
        simp only [hs, hne]
        simp [hL, h4, hi]
        exact hne
  · have hi : ¬ Is b := fun x => h x.1
    have hL : ¬ (b.length : Int) = 64 := by omega
    simp [hL, hi]
theorem summed_fulled (k t : Int) (body : List Int) (h : body.length ≤ 56) : summed k t body = summed k t (body ++ List.replicate (56 - body.length) 0) := by
  rw [summed_full k t (fulled body h)]
  rfl
theorem sealed_iff {b : List Int} (hi : Is b) {k t : Int} {body : List Int} (hl : body.length ≤ 56) : sealed (summed k t body) = b ↔ k = ix b 4 ∧ t = ix b 5 ∧ body ++ List.replicate (56 - body.length) 0 = b.drop 8 := by
  obtain ⟨p4, p5, p8⟩ := sealed_parts k t body
  constructor
  · intro e
    rw [← e]
    exact ⟨p4.symm, p5.symm, p8.symm⟩
  · rintro ⟨h1, h2, h3⟩
    rw [summed_fulled k t body hl, h1, h2, h3]
    exact hi.2.2.symm
theorem sealed_map_iff {b : List Int} (hb : Bytes b) (hi : Is b) {k t : Int} {body : List Int} (hk : 0 ≤ k ∧ k ≤ 255) (ht : 0 ≤ t ∧ t ≤ 255) (hbb : Bytes body) (hl : body.length ≤ 56) :
    (sealed (summed k t body)).map toB = b.map toB ↔ k = ix b 4 ∧ t = ix b 5 ∧ body ++ List.replicate (56 - body.length) 0 = b.drop 8 :=
  (map_toB_iff (sealed_bytes (summed_bytes hk ht hbb)) hb).trans (sealed_iff hi hl)
theorem is_tag {b : List Int} (hb : Bytes b) (hi : Is b) : (0 ≤ ix b 4 ∧ ix b 4 ≤ 255) ∧ (0 ≤ ix b 5 ∧ ix b 5 ≤ 255) := by
  have h0 := hi.1
  exact ⟨ix_byte hb 4 (by omega), ix_byte hb 5 (by omega)⟩
theorem is_body {b : List Int} (hi : Is b) : (b.drop 8).length = 56 := by rw [List.length_drop, hi.1]
theorem full_iff {body full : List Int} (hl : body.length ≤ 56) (hf : full.length = 56) : body ++ List.replicate (56 - body.length) 0 = full ↔ body = full.take body.length ∧ ∀ y ∈ full.drop body.length, y = 0 := by
  constructor
  · intro e
    subst e
    refine ⟨by simp, fun y hy => ?_⟩
    rw [List.drop_left' rfl] at hy
    exact List.eq_of_mem_replicate hy
  · rintro ⟨h1, h2⟩
    have h3 : full.drop body.length = List.replicate (56 - body.length) 0 := by
      apply List.eq_replicate_iff.2
      exact ⟨by rw [List.length_drop, hf], h2⟩
    rw [← h3]
    conv => lhs; lhs; rw [h1]
    exact List.take_append_drop _ _
def fillA {n : Nat} {α : Type} (f : Nat → α) (a : Arr n α) : Nat → Arr n α
  | 0 => a
  | j + 1 => Arr.set (fillA f a j) (j : Int) (f j)
theorem fillA_l {n : Nat} {α : Type} (f : Nat → α) (a : Arr n α) : ∀ j, j ≤ n → (fillA f a j).l = (List.range j).map f ++ a.l.drop j
  | 0, _ => by simp [fillA]
  | j + 1, h => by
    have ih := fillA_l f a j (by omega)
    have ha := a.h
    show List.set (fillA f a j).l (Int.toNat (j : Int)) (f j) = _
    rw [ih, Int.toNat_natCast, List.set_append_right _ _ (by simp), List.length_map, List.length_range, Nat.sub_self, List.range_succ, List.map_append]
    rw [List.drop_eq_getElem_cons (by omega), List.set_cons_zero]
    simp
theorem fillA_all {n : Nat} {α : Type} (f : Nat → α) (a : Arr n α) : (fillA f a n).l = (List.range n).map f := by
  rw [fillA_l f a n (Nat.le_refl _)]
  have := a.h
  simp [← this]
def u64n (x : Int) : Nat := (x % 18446744073709551616).toNat
theorem u64_wrap (x : Int) : IntKind.u64.wrap x = (u64n x : Int) := by
  unfold u64n IntKind.wrap
  simp only [IntKind.signed, IntKind.bits]
  simp
  omega
theorem u64n_lt (x : Int) : u64n x < 18446744073709551616 := by
  unfold u64n
  omega
theorem u64n_of {x : Int} (h0 : 0 ≤ x) (h1 : x ≤ 18446744073709551615) : u64n x = x.toNat := by
  unfold u64n
  rw [Int.emod_eq_of_lt h0 (by omega)]
theorem rlay64 {fu n : Nat} {x : Int} (hn : n ≤ 8) (hf : n < fu) : rickyardref01_Lay.f fu (IntKind.u64.wrap x) (n : Int) = some ((lay (u64n x) n).map toB) := by
  rw [u64_wrap]
  exact rlay_eq (u64n_lt x) hn hf
theorem rint_eq {fu : Nat} {l : List Int} (hb : Bytes l) (hl : l.length ≤ 8) (hf : l.length < fu) : rickyardref01_Int.f fu (l.map toB) = some (IntKind.i64.wrap ((num l : Nat) : Int)) := by
  unfold rickyardref01_Int.f
  rw [rnumber_eq hb hl hf]
  rfl
theorem num_small {l : List Int} (hb : Bytes l) (hl : l.length ≤ 7) : IntKind.i64.wrap ((num l : Nat) : Int) = ((num l : Nat) : Int) := by
  have h1 := num_lt hb
  have h2 : (256 : Nat) ^ l.length ≤ 256 ^ 7 := Nat.pow_le_pow_right (by decide) hl
  have h3 : (256 : Nat) ^ 7 = 72057594037927936 := by decide
  exact w64 (by omega) (by omega)
def fieldAt (l : List Int) (w i : Nat) : List Int := (l.drop (w * i)).take w
theorem fieldAt_len {l : List Int} {w i n : Nat} (h : w * n ≤ l.length) (hi : i < n) : (fieldAt l w i).length = w := by
  have : w * (i + 1) ≤ w * n := Nat.mul_le_mul_left w hi
  rw [Nat.mul_succ] at this
  unfold fieldAt
  rw [List.length_take, List.length_drop]
  omega
theorem fieldAt_bytes {l : List Int} (hb : Bytes l) (w i : Nat) : Bytes (fieldAt l w i) := (hb.drop _).take _
theorem cut_eq (l : List Int) (i n : Nat) : cut l (i : Int) ((i + n : Nat) : Int) = (l.drop i).take n := by
  unfold cut
  rw [Int.toNat_natCast, Int.toNat_natCast, List.drop_take]
  congr 1
  omega
theorem flat_len {α : Type} {g : Nat → List α} {w : Nat} (hg : ∀ i, (g i).length = w) : ∀ n, ((List.range n).flatMap g).length = w * n
  | 0 => by simp
  | n + 1 => by
    rw [List.range_succ, List.flatMap_append, List.length_append, flat_len hg n]
    simp [hg, Nat.mul_succ]
theorem flat_succ {α : Type} (g : Nat → List α) (n : Nat) : (List.range (n + 1)).flatMap g = (List.range n).flatMap g ++ g n := by
  rw [List.range_succ, List.flatMap_append]
  simp
theorem field_flat {l : List Int} {w : Nat} : ∀ n, w * n ≤ l.length → (List.range n).flatMap (fieldAt l w) = l.take (w * n)
  | 0, _ => by simp
  | n + 1, h => by
    rw [Nat.mul_succ] at h
    rw [flat_succ, field_flat n (by omega), Nat.mul_succ, List.take_add]
    rfl
theorem flat_congr {α : Type} {g k : Nat → List α} {n : Nat} (h : ∀ i, i < n → g i = k i) : (List.range n).flatMap g = (List.range n).flatMap k := by
  induction n with
  | zero => rfl
  | succ n ih => rw [flat_succ, flat_succ, ih fun i hi => h i (by omega), h n (by omega)]
theorem flat_bytes {g : Nat → List Int} (hg : ∀ i, Bytes (g i)) (n : Nat) : Bytes ((List.range n).flatMap g) := by
  intro x hx
  obtain ⟨i, _, h⟩ := List.mem_flatMap.1 hx
  exact hg i x h
def rowE (l : List Int) (n : Nat) : List Int := (List.range n).flatMap fun (i : Nat) => lay (u64n (ix l (i : Int))) 2
theorem rowE_len (l : List Int) (n : Nat) : (rowE l n).length = 2 * n := flat_len (fun i => lay_len _ _) n
theorem rowE_bytes (l : List Int) (n : Nat) : Bytes (rowE l n) := flat_bytes (fun i => lay_bytes _ _) n
theorem lim_of' {a b : Nat} (h : a + b ≤ 1000) : a + b ≤ LIM := by
  have : (1000 : Nat) ≤ LIM := by decide
  omega
def part (l : List Int) (i n : Nat) : List Int := (l.drop i).take n
theorem part_len {l : List Int} {i n : Nat} (h : i + n ≤ l.length) : (part l i n).length = n := by
  unfold part
  rw [List.length_take, List.length_drop]
  omega
theorem part_bytes {l : List Int} (hb : Bytes l) (i n : Nat) : Bytes (part l i n) := (hb.drop i).take n
def intAt (l : List Int) (i n : Nat) : Int := IntKind.i64.wrap ((num (part l i n) : Nat) : Int)
theorem rintAt_eq {fu : Nat} {b : List Int} {i n : Nat} (hb : Bytes b) (h : i + n ≤ b.length) (hn : n ≤ 8) (hf : 100 < fu) : rickyardref01_Int.f fu (cut (b.map toB) (i : Int) ((i + n : Nat) : Int)) = some (intAt b i n) := by
  have e : cut (b.map toB) (i : Int) ((i + n : Nat) : Int) = (part b i n).map toB := by
    unfold cut part
    rw [Int.toNat_natCast, Int.toNat_natCast, List.drop_take, ← List.map_drop, ← List.map_take]
    congr 2
    omega
  rw [e, rint_eq (part_bytes hb i n) (by rw [part_len h]; exact hn) (by rw [part_len h]; omega)]
  rfl
theorem u64n_i64 {n : Nat} (h : n < 18446744073709551616) : u64n (IntKind.i64.wrap (n : Int)) = n := by
  unfold u64n IntKind.wrap
  simp only [IntKind.signed, IntKind.bits]
  simp
  split <;> omega
theorem lay_part {l : List Int} {i n : Nat} (hb : Bytes l) (h : i + n ≤ l.length) (hn : n ≤ 8) : lay (u64n (intAt l i n)) n = part l i n := by
  have hpl := part_len h
  have hpb := part_bytes hb i n
  unfold intAt
  rw [u64n_i64 (num_lt8 hpb (by omega))]
  have := lay_num hpb
  rwa [hpl] at this
theorem intAt_small {l : List Int} {i n : Nat} (hb : Bytes l) (h : i + n ≤ l.length) (hn : n ≤ 7) : intAt l i n = ((num (part l i n) : Nat) : Int) := num_small (part_bytes hb i n) (by rw [part_len h]; exact hn)
theorem ix_map {f : Nat → Int} {t i : Nat} (h : i < t) : ix ((List.range t).map f) (i : Int) = f i := by
  rw [ix_nat (by simpa using h)]
  simp
def oct (m : List UInt8) (k : Nat) : Nat := (m.getD k 0).toNat
theorem oct_lt (m : List UInt8) (k : Nat) : oct m k < 256 := (m.getD k 0).toNat_lt
def fst4 (c0 c1 c2 c3 n : Nat) : Nat × Nat :=
  if c0 < 128 then (c0, 1)
  else if (194 ≤ c0 ∧ c0 ≤ 223) ∧ (1 < n ∧ 128 ≤ c1 ∧ c1 ≤ 191) then ((c0 - 192) * 64 + (c1 - 128), 2)
  else if (224 ≤ c0 ∧ c0 ≤ 239) ∧ (1 < n ∧ (if c0 = 224 then 160 else 128) ≤ c1 ∧ c1 ≤ (if c0 = 237 then 159 else 191)) ∧ (2 < n ∧ 128 ≤ c2 ∧ c2 ≤ 191) then ((c0 - 224) * 4096 + (c1 - 128) * 64 + (c2 - 128), 3)
  else if (240 ≤ c0 ∧ c0 ≤ 244) ∧ (1 < n ∧ (if c0 = 240 then 144 else 128) ≤ c1 ∧ c1 ≤ (if c0 = 244 then 143 else 191)) ∧ (2 < n ∧ 128 ≤ c2 ∧ c2 ≤ 191) ∧ (3 < n ∧ 128 ≤ c3 ∧ c3 ≤ 191) then ((c0 - 240) * 262144 + (c1 - 128) * 4096 + (c2 - 128) * 64 + (c3 - 128), 4)
  else (65533, 1)
def first (m : List UInt8) : Nat × Nat := fst4 (oct m 0) (oct m 1) (oct m 2) (oct m 3) m.length
def dec4 (c0 c1 c2 c3 : Nat) (k1 k2 k3 : Bool) : Nat × Nat :=
  if c0 < 0x80 then (c0, 1)
  else if (c0 / 32 == 6 && (k1 && c1 / 64 == 2)) = true then
    (if (c0 % 32) * 64 + c1 % 64 ≥ 0x80 then ((c0 % 32) * 64 + c1 % 64, 2) else (0xFFFD, 1))
  else if (c0 / 16 == 14 && (k1 && c1 / 64 == 2) && (k2 && c2 / 64 == 2)) = true then
    (if (decide ((c0 % 16) * 4096 + (c1 % 64) * 64 + c2 % 64 ≥ 0x800) && Utf8.valid (((c0 % 16) * 4096 + (c1 % 64) * 64 + c2 % 64 : Nat) : Int)) = true then ((c0 % 16) * 4096 + (c1 % 64) * 64 + c2 % 64, 3) else (0xFFFD, 1))
  else if (c0 / 8 == 30 && (k1 && c1 / 64 == 2) && (k2 && c2 / 64 == 2) && (k3 && c3 / 64 == 2)) = true then
    (if (decide ((c0 % 8) * 262144 + (c1 % 64) * 4096 + (c2 % 64) * 64 + c3 % 64 ≥ 0x10000) && Utf8.valid (((c0 % 8) * 262144 + (c1 % 64) * 4096 + (c2 % 64) * 64 + c3 % 64 : Nat) : Int)) = true then ((c0 % 8) * 262144 + (c1 % 64) * 4096 + (c2 % 64) * 64 + c3 % 64, 4) else (0xFFFD, 1))
  else (0xFFFD, 1)
theorem dec_fst {c0 c1 c2 c3 n : Nat} (b0 : c0 < 256) (b1 : c1 < 256) (b2 : c2 < 256) (b3 : c3 < 256) : dec4 c0 c1 c2 c3 (decide (1 < n)) (decide (2 < n)) (decide (3 < n)) = fst4 c0 c1 c2 c3 n := by
  unfold dec4 fst4 Utf8.valid
  simp only [Bool.and_eq_true, Bool.or_eq_true, beq_iff_eq, decide_eq_true_eq]
  by_cases h0 : c0 < 128
  · rw [if_pos h0, if_pos h0]
  · rw [if_neg h0, if_neg h0]
    by_cases k1 : 1 < n ∧ 128 ≤ c1 ∧ c1 ≤ 191
    · have e1 : 1 < n ∧ c1 / 64 = 2 := by omega
      by_cases r2 : 192 ≤ c0 ∧ c0 ≤ 223
      · rw [if_pos (show c0 / 32 = 6 ∧ 1 < n ∧ c1 / 64 = 2 from ⟨by omega, e1⟩)]
        by_cases l2 : 194 ≤ c0
        · rw [if_pos (by omega), if_pos ⟨⟨l2, r2.2⟩, k1⟩]
          exact Prod.ext (by simp only; omega) rfl
        · rw [if_neg (by omega), if_neg (fun x => l2 x.1.1), if_neg (fun x => by have := x.1; omega), if_neg (fun x => by have := x.1; omega)]
      · rw [if_neg (show ¬ (c0 / 32 = 6 ∧ 1 < n ∧ c1 / 64 = 2) from fun x => by have := x.1; omega), if_neg (show ¬ ((194 ≤ c0 ∧ c0 ≤ 223) ∧ (1 < n ∧ 128 ≤ c1 ∧ c1 ≤ 191)) from fun x => by have := x.1; omega)]
        by_cases k2 : 2 < n ∧ 128 ≤ c2 ∧ c2 ≤ 191
        · have e2 : 2 < n ∧ c2 / 64 = 2 := by omega
          by_cases r3 : 224 ≤ c0 ∧ c0 ≤ 239
          · rw [if_pos (show (c0 / 16 = 14 ∧ 1 < n ∧ c1 / 64 = 2) ∧ 2 < n ∧ c2 / 64 = 2 from ⟨⟨by omega, e1⟩, e2⟩)]
            by_cases l3 : (if c0 = 224 then 160 else 128) ≤ c1 ∧ c1 ≤ (if c0 = 237 then 159 else 191)
            · rw [if_pos (show (224 ≤ c0 ∧ c0 ≤ 239) ∧ (1 < n ∧ (if c0 = 224 then 160 else 128) ≤ c1 ∧ c1 ≤ (if c0 = 237 then 159 else 191)) ∧ (2 < n ∧ 128 ≤ c2 ∧ c2 ≤ 191) from ⟨r3, ⟨k1.1, l3⟩, k2⟩)]
              have hl1 : c0 = 224 → 160 ≤ c1 := fun e => by have := l3.1; rwa [if_pos e] at this
              have hl2 : c0 = 237 → c1 ≤ 159 := fun e => by have := l3.2; rwa [if_pos e] at this
              rw [if_pos (by omega)]
              exact Prod.ext (by simp only; omega) rfl
            · rw [if_neg (show ¬ ((224 ≤ c0 ∧ c0 ≤ 239) ∧ (1 < n ∧ (if c0 = 224 then 160 else 128) ≤ c1 ∧ c1 ≤ (if c0 = 237 then 159 else 191)) ∧ (2 < n ∧ 128 ≤ c2 ∧ c2 ≤ 191)) from fun x => l3 x.2.1.2), if_neg (show ¬ ((240 ≤ c0 ∧ c0 ≤ 244) ∧ _) from fun x => by have := x.1; omega)]
              have hl : (c0 = 224 ∧ c1 < 160) ∨ (c0 = 237 ∧ 159 < c1) := by
                by_cases e4 : c0 = 224
                · left
                  refine ⟨e4, ?_⟩
                  apply Classical.byContradiction
                  intro hh
                  apply l3
                  rw [if_pos e4, if_neg (by omega)]
                  omega
                · right
                  by_cases e7 : c0 = 237
                  · refine ⟨e7, ?_⟩
                    apply Classical.byContradiction
                    intro hh
                    apply l3
                    rw [if_neg e4, if_pos e7]
                    omega
                  · exfalso
                    apply l3
                    rw [if_neg e4, if_neg e7]
                    omega
              rw [if_neg (by omega)]
          · rw [if_neg (show ¬ ((c0 / 16 = 14 ∧ 1 < n ∧ c1 / 64 = 2) ∧ 2 < n ∧ c2 / 64 = 2) from fun x => by have := x.1.1; omega), if_neg (show ¬ ((224 ≤ c0 ∧ c0 ≤ 239) ∧ _) from fun x => r3 x.1)]
            by_cases k3 : 3 < n ∧ 128 ≤ c3 ∧ c3 ≤ 191
            · have e3 : 3 < n ∧ c3 / 64 = 2 := by omega
              by_cases r4 : 240 ≤ c0 ∧ c0 ≤ 247
              · rw [if_pos (show ((c0 / 8 = 30 ∧ 1 < n ∧ c1 / 64 = 2) ∧ 2 < n ∧ c2 / 64 = 2) ∧ 3 < n ∧ c3 / 64 = 2 from ⟨⟨⟨by omega, e1⟩, e2⟩, e3⟩)]
                by_cases l4 : c0 ≤ 244 ∧ (if c0 = 240 then 144 else 128) ≤ c1 ∧ c1 ≤ (if c0 = 244 then 143 else 191)
                · rw [if_pos (show (240 ≤ c0 ∧ c0 ≤ 244) ∧ (1 < n ∧ (if c0 = 240 then 144 else 128) ≤ c1 ∧ c1 ≤ (if c0 = 244 then 143 else 191)) ∧ (2 < n ∧ 128 ≤ c2 ∧ c2 ≤ 191) ∧ (3 < n ∧ 128 ≤ c3 ∧ c3 ≤ 191) from ⟨⟨r4.1, l4.1⟩, ⟨k1.1, l4.2⟩, k2, k3⟩)]
                  have hl1 : c0 = 240 → 144 ≤ c1 := fun e => by have := l4.2.1; rwa [if_pos e] at this
                  have hl2 : c0 = 244 → c1 ≤ 143 := fun e => by have := l4.2.2; rwa [if_pos e] at this
                  rw [if_pos (by omega)]
                  exact Prod.ext (by simp only; omega) rfl
                · rw [if_neg (show ¬ ((240 ≤ c0 ∧ c0 ≤ 244) ∧ (1 < n ∧ (if c0 = 240 then 144 else 128) ≤ c1 ∧ c1 ≤ (if c0 = 244 then 143 else 191)) ∧ (2 < n ∧ 128 ≤ c2 ∧ c2 ≤ 191) ∧ (3 < n ∧ 128 ≤ c3 ∧ c3 ≤ 191)) from fun x => l4 ⟨x.1.2, x.2.1.2⟩)]
                  have hl : 244 < c0 ∨ (c0 = 240 ∧ c1 < 144) ∨ (c0 = 244 ∧ 143 < c1) := by
                    by_cases e5 : 244 < c0
                    · exact .inl e5
                    · by_cases e4 : c0 = 240
                      · right
                        left
                        refine ⟨e4, ?_⟩
                        apply Classical.byContradiction
                        intro hh
                        apply l4
                        rw [if_pos e4, if_neg (by omega)]
                        omega
                      · right
                        right
                        by_cases e7 : c0 = 244
                        · refine ⟨e7, ?_⟩
                          apply Classical.byContradiction
                          intro hh
                          apply l4
                          rw [if_neg e4, if_pos e7]
                          omega
                        · exfalso
                          apply l4
                          rw [if_neg e4, if_neg e7]
                          omega
                  rw [if_neg (by omega)]
              · rw [if_neg (show ¬ (((c0 / 8 = 30 ∧ 1 < n ∧ c1 / 64 = 2) ∧ 2 < n ∧ c2 / 64 = 2) ∧ 3 < n ∧ c3 / 64 = 2) from fun x => by have := x.1.1.1; omega), if_neg (show ¬ ((240 ≤ c0 ∧ c0 ≤ 244) ∧ _) from fun x => by have := x.1; omega)]
            · rw [if_neg (show ¬ (((c0 / 8 = 30 ∧ 1 < n ∧ c1 / 64 = 2) ∧ 2 < n ∧ c2 / 64 = 2) ∧ 3 < n ∧ c3 / 64 = 2) from fun x => k3 (by have := x.2; omega)), if_neg (fun x => k3 x.2.2.2)]
        · rw [if_neg (show ¬ ((c0 / 16 = 14 ∧ 1 < n ∧ c1 / 64 = 2) ∧ 2 < n ∧ c2 / 64 = 2) from fun x => k2 (by have := x.2; omega)), if_neg (show ¬ (((c0 / 8 = 30 ∧ 1 < n ∧ c1 / 64 = 2) ∧ 2 < n ∧ c2 / 64 = 2) ∧ 3 < n ∧ c3 / 64 = 2) from fun x => k2 (by have := x.1.2; omega)), if_neg (fun x => k2 x.2.2), if_neg (fun x => k2 x.2.2.1)]
    · have q3 : (224 ≤ c0 ∧ c0 ≤ 239) ∧ (1 < n ∧ (if c0 = 224 then 160 else 128) ≤ c1 ∧ c1 ≤ (if c0 = 237 then 159 else 191)) ∧ (2 < n ∧ 128 ≤ c2 ∧ c2 ≤ 191) → False := by
        rintro ⟨_, ⟨h1, h2, h3⟩, _⟩
        have h4 : (128 : Nat) ≤ if c0 = 224 then 160 else 128 := by split <;> omega
        have h5 : (if c0 = 237 then 159 else 191) ≤ 191 := by split <;> omega
        exact k1 ⟨h1, by omega, by omega⟩
      have q4 : (240 ≤ c0 ∧ c0 ≤ 244) ∧ (1 < n ∧ (if c0 = 240 then 144 else 128) ≤ c1 ∧ c1 ≤ (if c0 = 244 then 143 else 191)) ∧ (2 < n ∧ 128 ≤ c2 ∧ c2 ≤ 191) ∧ (3 < n ∧ 128 ≤ c3 ∧ c3 ≤ 191) → False := by
        rintro ⟨_, ⟨h1, h2, h3⟩, _⟩
        have h4 : (128 : Nat) ≤ if c0 = 240 then 144 else 128 := by split <;> omega
        have h5 : (if c0 = 244 then 143 else 191) ≤ 191 := by split <;> omega
        exact k1 ⟨h1, by omega, by omega⟩
      rw [if_neg (show ¬ (c0 / 32 = 6 ∧ 1 < n ∧ c1 / 64 = 2) from fun x => k1 (by have := x.2; omega)), if_neg (show ¬ ((c0 / 16 = 14 ∧ 1 < n ∧ c1 / 64 = 2) ∧ 2 < n ∧ c2 / 64 = 2) from fun x => k1 (by have := x.1.2; omega)), if_neg (show ¬ (((c0 / 8 = 30 ∧ 1 < n ∧ c1 / 64 = 2) ∧ 2 < n ∧ c2 / 64 = 2) ∧ 3 < n ∧ c3 / 64 = 2) from fun x => k1 (by have := x.1.1.2; omega)), if_neg (fun x => k1 x.2), if_neg q3, if_neg q4]
theorem decode_eq (l : List UInt8) (i : Nat) : Utf8.decode ⟨l.toArray⟩ i = first (l.drop i) := by
  have hg : ∀ k, ((⟨l.toArray⟩ : ByteArray).get! (i + k)).toNat = oct (l.drop i) k := by
    intro k
    unfold oct
    rw [List.getD_eq_getElem?_getD, List.getElem?_drop]
    show ((l.toArray)[i + k]!).toNat = _
    rw [getElem!_def]
    simp
    cases l[i + k]? <;> rfl
  have hs : ∀ k, decide (i + k < (⟨l.toArray⟩ : ByteArray).size) = decide (k < (l.drop i).length) := by
    intro k
    apply decide_eq_decide.2
    rw [List.length_drop]
    show i + k < l.toArray.size ↔ _
    rw [List.size_toArray]
    omega
  have e : Utf8.decode ⟨l.toArray⟩ i = dec4 (oct (l.drop i) 0) (oct (l.drop i) 1) (oct (l.drop i) 2) (oct (l.drop i) 3) (decide (1 < (l.drop i).length)) (decide (2 < (l.drop i).length)) (decide (3 < (l.drop i).length)) := by
    unfold Utf8.decode dec4
    simp only [hg, hs, Utf8.runeError]
  rw [e]
  exact dec_fst (oct_lt _ _) (oct_lt _ _) (oct_lt _ _) (oct_lt _ _)
theorem first_wide {m : List UInt8} (h : 0 < m.length) : 1 ≤ (first m).2 ∧ (first m).2 ≤ m.length := by
  unfold first
  generalize oct m 0 = c0
  generalize oct m 1 = c1
  generalize oct m 2 = c2
  generalize oct m 3 = c3
  generalize m.length = n at *
  unfold fst4
  by_cases h0 : c0 < 128
  · rw [if_pos h0]
    exact ⟨Nat.le_refl _, h⟩
  · rw [if_neg h0]
    by_cases h2 : (194 ≤ c0 ∧ c0 ≤ 223) ∧ (1 < n ∧ 128 ≤ c1 ∧ c1 ≤ 191)
    · rw [if_pos h2]
      have := h2.2.1
      exact ⟨by simp, by simp only; omega⟩
    · rw [if_neg h2]
      by_cases h3 : (224 ≤ c0 ∧ c0 ≤ 239) ∧ (1 < n ∧ (if c0 = 224 then 160 else 128) ≤ c1 ∧ c1 ≤ (if c0 = 237 then 159 else 191)) ∧ (2 < n ∧ 128 ≤ c2 ∧ c2 ≤ 191)
      · rw [if_pos h3]
        have := h3.2.2.1
        exact ⟨by simp, by simp only; omega⟩
      · rw [if_neg h3]
        by_cases h4 : (240 ≤ c0 ∧ c0 ≤ 244) ∧ (1 < n ∧ (if c0 = 240 then 144 else 128) ≤ c1 ∧ c1 ≤ (if c0 = 244 then 143 else 191)) ∧ (2 < n ∧ 128 ≤ c2 ∧ c2 ≤ 191) ∧ (3 < n ∧ 128 ≤ c3 ∧ c3 ≤ 191)
        · rw [if_pos h4]
          have := h4.2.2.2.1
          exact ⟨by simp, by simp only; omega⟩
        · rw [if_neg h4]
          exact ⟨Nat.le_refl _, h⟩
theorem rune_first (s : List UInt8) (i : Nat) : runeAt s (i : Int) = ((first (s.drop i)).1 : Int) ∧ wideAt s (i : Int) = ((first (s.drop i)).2 : Int) := by
  unfold runeAt wideAt
  rw [Int.toNat_natCast, decode_eq]
  exact ⟨rfl, rfl⟩
theorem follows_eq (fu : Nat) (m : List UInt8) (k : Nat) (lo hi : Int) : rickyardref04_follows.f fu m (k : Int) lo hi = some (decide (k < m.length ∧ lo ≤ (oct m k : Int) ∧ (oct m k : Int) ≤ hi)) := by
  unfold rickyardref04_follows.f
  have e : ofB (List.getD m (Int.toNat (k : Int)) 0) = (oct m k : Int) := rfl
  rw [e]
  by_cases h1 : k < m.length
  · have h1' : (k : Int) < (m.length : Int) := by omega
    have c1 : 0 ≤ (k : Int) ∧ (k : Int) < (m.length : Int) := by omega
    rw [decide_eq_true h1', if_pos rfl, if_pos c1]
    by_cases h2 : (oct m k : Int) ≥ lo
    · rw [decide_eq_true h2, if_pos rfl, if_pos c1]
      exact congrArg some (decide_eq_decide.2 ⟨fun x => ⟨h1, h2, x⟩, fun x => x.2.2⟩)
    · rw [decide_eq_false h2, decide_eq_false (fun x : k < m.length ∧ lo ≤ (oct m k : Int) ∧ (oct m k : Int) ≤ hi => h2 x.2.1)]
      rfl
  · have h1' : ¬ (k : Int) < (m.length : Int) := by omega
    rw [decide_eq_false h1', decide_eq_false (fun x : k < m.length ∧ lo ≤ (oct m k : Int) ∧ (oct m k : Int) ≤ hi => h1 x.1)]
    rfl
theorem wrap8 {c k : Nat} (h : k ≤ c) (hc : c < 256) : IntKind.i64.wrap (IntKind.u8.wrap ((c : Int) - (k : Int))) = ((c - k : Nat) : Int) := by
  rw [wu8 (by omega) (by omega), w64 (by omega) (by omega)]
  omega
theorem if3 {α : Type} {c1 c2 c3 : Bool} {A X Y Z T : α} (h : c1 = true → c2 = true → c3 = true → A = T) (x : X = T) (y : Y = T) (z : Z = T) : (if c1 = true then (if c2 = true then (if c3 = true then A else X) else Y) else Z) = T := by
  cases c1 <;> cases c2 <;> cases c3 <;> first | exact x | exact y | exact z | exact h rfl rfl rfl
theorem first_eq {fu : Nat} {m : List UInt8} (hm : 0 < m.length) : rickyardref04_First.f fu m = some (((first m).1 : Int), ((first m).2 : Int)) := by
  unfold rickyardref04_First.f
  have hm' : (0 : Int) < (m.length : Int) := by omega
  have o0 : ofB (List.getD m (Int.toNat 0) 0) = (oct m 0 : Int) := rfl
  have o1 : ofB (List.getD m (Int.toNat 1) 0) = (oct m 1 : Int) := rfl
  have o2 : ofB (List.getD m (Int.toNat 2) 0) = (oct m 2 : Int) := rfl
  have o3 : ofB (List.getD m (Int.toNat 3) 0) = (oct m 3 : Int) := rfl
  have b0 := oct_lt m 0
  have b1 := oct_lt m 1
  have b2 := oct_lt m 2
  have b3 := oct_lt m 3
  have f1 := fun lo hi => follows_eq fu m 1 lo hi
  have f2 := fun lo hi => follows_eq fu m 2 lo hi
  have f3 := fun lo hi => follows_eq fu m 3 lo hi
  rw [show ((1 : Nat) : Int) = 1 from rfl] at f1
  rw [show ((2 : Nat) : Int) = 2 from rfl] at f2
  rw [show ((3 : Nat) : Int) = 3 from rfl] at f3
  rw [if_pos hm']
  simp only [o0, o1, o2, o3, f1, f2, f3, Option.bind_some]
  unfold first
  generalize oct m 0 = c0 at *
  generalize oct m 1 = c1 at *
  generalize oct m 2 = c2 at *
  generalize oct m 3 = c3 at *
  generalize m.length = n at *
  unfold fst4
  by_cases h0 : c0 < 128
  · have h0' : (c0 : Int) < 128 := by omega
    rw [decide_eq_true h0', if_pos rfl, if_pos h0, w64 (by omega) (by omega)]
    rfl
  · have h0' : ¬ (c0 : Int) < 128 := by omega
    rw [decide_eq_false h0', if_neg (by decide), if_neg h0]
    by_cases h2 : (194 ≤ c0 ∧ c0 ≤ 223) ∧ (1 < n ∧ 128 ≤ c1 ∧ c1 ≤ 191)
    · obtain ⟨⟨r1, r2⟩, k1⟩ := h2
      have g1 : (c0 : Int) ≥ 194 := by omega
      have g2 : (c0 : Int) ≤ 223 := by omega
      have g3 : 1 < n ∧ (128 : Int) ≤ (c1 : Int) ∧ (c1 : Int) ≤ 191 := by omega
      have g4 : (1 : Int) < (n : Int) := by omega
      have w1 : IntKind.i64.wrap (IntKind.u8.wrap ((c0 : Int) - 192)) = ((c0 - 192 : Nat) : Int) := wrap8 (k := 192) (by omega) b0
      have w2 : IntKind.i64.wrap (IntKind.u8.wrap ((c1 : Int) - 128)) = ((c1 - 128 : Nat) : Int) := wrap8 (k := 128) (by omega) b1
      rw [if_pos (show (194 ≤ c0 ∧ c0 ≤ 223) ∧ (1 < n ∧ 128 ≤ c1 ∧ c1 ≤ 191) from ⟨⟨r1, r2⟩, k1⟩), decide_eq_true g1, decide_eq_true g2, decide_eq_true g3, w1, w2, w64 (n := ((c0 - 192 : Nat) : Int) * 64) (by omega) (by omega), w64 (by omega) (by omega)]
      simp only [if_true, Option.bind_some, if_pos g4]
      exact congrArg some (Prod.ext (by simp) rfl)
    · rw [if_neg h2]
      refine if3 (fun a b c => (h2 ⟨⟨by have := of_decide_eq_true a; omega, by have := of_decide_eq_true b; omega⟩, by have := of_decide_eq_true c; omega⟩).elim) ?_ ?_ ?_
      all_goals
        by_cases r3 : 224 ≤ c0 ∧ c0 ≤ 239
        · have g1 : (c0 : Int) ≥ 224 := by omega
          have g2 : (c0 : Int) ≤ 239 := by omega
          rw [decide_eq_true g1, decide_eq_true g2]
          have x23 : (if decide ((c0 : Int) = 224) = true then some (160 : Int) else some 128) = some (((if c0 = 224 then 160 else 128 : Nat) : Int)) := by
            by_cases e : c0 = 224
            · rw [decide_eq_true (by omega : (c0 : Int) = 224), if_pos e]
              rfl
            · rw [decide_eq_false (by omega : ¬ (c0 : Int) = 224), if_neg e]
              rfl
          have x29 : (if decide ((c0 : Int) = 237) = true then some (159 : Int) else some 191) = some (((if c0 = 237 then 159 else 191 : Nat) : Int)) := by
            by_cases e : c0 = 237
            · rw [decide_eq_true (by omega : (c0 : Int) = 237), if_pos e]
              rfl
            · rw [decide_eq_false (by omega : ¬ (c0 : Int) = 237), if_neg e]
              rfl
          simp only [if_true, x23, x29, Option.bind_some]
          have n4 : ¬ ((240 ≤ c0 ∧ c0 ≤ 244) ∧ (1 < n ∧ (if c0 = 240 then 144 else 128) ≤ c1 ∧ c1 ≤ (if c0 = 244 then 143 else 191)) ∧ (2 < n ∧ 128 ≤ c2 ∧ c2 ≤ 191) ∧ (3 < n ∧ 128 ≤ c3 ∧ c3 ≤ 191)) := fun x => by have := x.1; omega
          by_cases a1 : 1 < n ∧ (if c0 = 224 then 160 else 128) ≤ c1 ∧ c1 ≤ (if c0 = 237 then 159 else 191)
          · have a1' : 1 < n ∧ (((if c0 = 224 then 160 else 128 : Nat) : Int)) ≤ (c1 : Int) ∧ (c1 : Int) ≤ (((if c0 = 237 then 159 else 191 : Nat) : Int)) := ⟨a1.1, Int.ofNat_le.2 a1.2.1, Int.ofNat_le.2 a1.2.2⟩
            rw [decide_eq_true a1']
            by_cases a2 : 2 < n ∧ 128 ≤ c2 ∧ c2 ≤ 191
            · have a2' : 2 < n ∧ (128 : Int) ≤ (c2 : Int) ∧ (c2 : Int) ≤ 191 := by omega
              have q1 : (128 : Nat) ≤ if c0 = 224 then 160 else 128 := by split <;> omega
              have k1 : 128 ≤ c1 := Nat.le_trans q1 a1.2.1
              have g4 : (1 : Int) < (n : Int) := by omega
              have g5 : (2 : Int) < (n : Int) := by omega
              have w0 : IntKind.i64.wrap (IntKind.u8.wrap ((c0 : Int) - 224)) = ((c0 - 224 : Nat) : Int) := wrap8 (k := 224) (by omega) b0
              have w1 : IntKind.i64.wrap (IntKind.u8.wrap ((c1 : Int) - 128)) = ((c1 - 128 : Nat) : Int) := wrap8 (k := 128) (by omega) b1
              have w2 : IntKind.i64.wrap (IntKind.u8.wrap ((c2 : Int) - 128)) = ((c2 - 128 : Nat) : Int) := wrap8 (k := 128) (by omega) b2
              rw [decide_eq_true a2', if_pos (show (224 ≤ c0 ∧ c0 ≤ 239) ∧ (1 < n ∧ (if c0 = 224 then 160 else 128) ≤ c1 ∧ c1 ≤ (if c0 = 237 then 159 else 191)) ∧ (2 < n ∧ 128 ≤ c2 ∧ c2 ≤ 191) from ⟨r3, a1, a2⟩)]
              simp only [if_true, Option.bind_some, if_pos g4, if_pos g5, w0, w1, w2]
              rw [w64 (n := ((c0 - 224 : Nat) : Int) * 4096) (by omega) (by omega), w64 (n := ((c1 - 128 : Nat) : Int) * 64) (by omega) (by omega), w64 (n := ((c0 - 224 : Nat) : Int) * 4096 + ((c1 - 128 : Nat) : Int) * 64) (by omega) (by omega), w64 (by omega) (by omega)]
              exact congrArg some (Prod.ext (by simp) rfl)
            · have a2' : ¬ (2 < n ∧ (128 : Int) ≤ (c2 : Int) ∧ (c2 : Int) ≤ 191) := by omega
              rw [decide_eq_false a2', if_neg (show ¬ ((224 ≤ c0 ∧ c0 ≤ 239) ∧ (1 < n ∧ (if c0 = 224 then 160 else 128) ≤ c1 ∧ c1 ≤ (if c0 = 237 then 159 else 191)) ∧ (2 < n ∧ 128 ≤ c2 ∧ c2 ≤ 191)) from fun x => a2 x.2.2), if_neg n4]
              rfl
          · have a1' : ¬ (1 < n ∧ (((if c0 = 224 then 160 else 128 : Nat) : Int)) ≤ (c1 : Int) ∧ (c1 : Int) ≤ (((if c0 = 237 then 159 else 191 : Nat) : Int))) := fun x => a1 ⟨x.1, Int.ofNat_le.1 x.2.1, Int.ofNat_le.1 x.2.2⟩
            rw [decide_eq_false a1', if_neg (show ¬ ((224 ≤ c0 ∧ c0 ≤ 239) ∧ (1 < n ∧ (if c0 = 224 then 160 else 128) ≤ c1 ∧ c1 ≤ (if c0 = 237 then 159 else 191)) ∧ (2 < n ∧ 128 ≤ c2 ∧ c2 ≤ 191)) from fun x => a1 x.2.1), if_neg n4]
            rfl
        · rw [if_neg (show ¬ ((224 ≤ c0 ∧ c0 ≤ 239) ∧ _) from fun x => r3 x.1)]
          by_cases r4 : 240 ≤ c0 ∧ c0 ≤ 244
          · have g1 : (c0 : Int) ≥ 240 := by omega
            have g2 : (c0 : Int) ≤ 244 := by omega
            rw [decide_eq_true (show (c0 : Int) ≥ 224 by omega), decide_eq_false (show ¬ (c0 : Int) ≤ 239 by omega), decide_eq_true g1, decide_eq_true g2]
            have x62 : (if decide ((c0 : Int) = 240) = true then some (144 : Int) else some 128) = some (((if c0 = 240 then 144 else 128 : Nat) : Int)) := by
              by_cases e : c0 = 240
              · rw [decide_eq_true (by omega : (c0 : Int) = 240), if_pos e]
                rfl
              · rw [decide_eq_false (by omega : ¬ (c0 : Int) = 240), if_neg e]
                rfl
            have x68 : (if decide ((c0 : Int) = 244) = true then some (143 : Int) else some 191) = some (((if c0 = 244 then 143 else 191 : Nat) : Int)) := by
              by_cases e : c0 = 244
              · rw [decide_eq_true (by omega : (c0 : Int) = 244), if_pos e]
                rfl
              · rw [decide_eq_false (by omega : ¬ (c0 : Int) = 244), if_neg e]
                rfl
            simp only [if_true, Bool.false_eq_true, if_false, x62, x68, Option.bind_some]
            by_cases a1 : 1 < n ∧ (if c0 = 240 then 144 else 128) ≤ c1 ∧ c1 ≤ (if c0 = 244 then 143 else 191)
            · have a1' : 1 < n ∧ (((if c0 = 240 then 144 else 128 : Nat) : Int)) ≤ (c1 : Int) ∧ (c1 : Int) ≤ (((if c0 = 244 then 143 else 191 : Nat) : Int)) := ⟨a1.1, Int.ofNat_le.2 a1.2.1, Int.ofNat_le.2 a1.2.2⟩
              rw [decide_eq_true a1']
              by_cases a2 : 2 < n ∧ 128 ≤ c2 ∧ c2 ≤ 191
              · have a2' : 2 < n ∧ (128 : Int) ≤ (c2 : Int) ∧ (c2 : Int) ≤ 191 := by omega
                rw [decide_eq_true a2']
                by_cases a3 : 3 < n ∧ 128 ≤ c3 ∧ c3 ≤ 191
                · have a3' : 3 < n ∧ (128 : Int) ≤ (c3 : Int) ∧ (c3 : Int) ≤ 191 := by omega
                  have q1 : (128 : Nat) ≤ if c0 = 240 then 144 else 128 := by split <;> omega
                  have k1 : 128 ≤ c1 := Nat.le_trans q1 a1.2.1
                  have g4 : (1 : Int) < (n : Int) := by omega
                  have g5 : (2 : Int) < (n : Int) := by omega
                  have g6 : (3 : Int) < (n : Int) := by omega
                  have w0 : IntKind.i64.wrap (IntKind.u8.wrap ((c0 : Int) - 240)) = ((c0 - 240 : Nat) : Int) := wrap8 (k := 240) (by omega) b0
                  have w1 : IntKind.i64.wrap (IntKind.u8.wrap ((c1 : Int) - 128)) = ((c1 - 128 : Nat) : Int) := wrap8 (k := 128) (by omega) b1
                  have w2 : IntKind.i64.wrap (IntKind.u8.wrap ((c2 : Int) - 128)) = ((c2 - 128 : Nat) : Int) := wrap8 (k := 128) (by omega) b2
                  have w3 : IntKind.i64.wrap (IntKind.u8.wrap ((c3 : Int) - 128)) = ((c3 - 128 : Nat) : Int) := wrap8 (k := 128) (by omega) b3
                  rw [decide_eq_true a3', if_pos (show (240 ≤ c0 ∧ c0 ≤ 244) ∧ (1 < n ∧ (if c0 = 240 then 144 else 128) ≤ c1 ∧ c1 ≤ (if c0 = 244 then 143 else 191)) ∧ (2 < n ∧ 128 ≤ c2 ∧ c2 ≤ 191) ∧ (3 < n ∧ 128 ≤ c3 ∧ c3 ≤ 191) from ⟨r4, a1, a2, a3⟩)]
                  simp only [if_true, Option.bind_some, if_pos g4, if_pos g5, if_pos g6, w0, w1, w2, w3]
                  rw [w64 (n := ((c0 - 240 : Nat) : Int) * 262144) (by omega) (by omega), w64 (n := ((c1 - 128 : Nat) : Int) * 4096) (by omega) (by omega), w64 (n := ((c2 - 128 : Nat) : Int) * 64) (by omega) (by omega), w64 (n := ((c0 - 240 : Nat) : Int) * 262144 + ((c1 - 128 : Nat) : Int) * 4096) (by omega) (by omega), w64 (n := ((c0 - 240 : Nat) : Int) * 262144 + ((c1 - 128 : Nat) : Int) * 4096 + ((c2 - 128 : Nat) : Int) * 64) (by omega) (by omega), w64 (by omega) (by omega)]
                  exact congrArg some (Prod.ext (by simp) rfl)
                · have a3' : ¬ (3 < n ∧ (128 : Int) ≤ (c3 : Int) ∧ (c3 : Int) ≤ 191) := by omega
                  rw [decide_eq_false a3', if_neg (show ¬ ((240 ≤ c0 ∧ c0 ≤ 244) ∧ (1 < n ∧ (if c0 = 240 then 144 else 128) ≤ c1 ∧ c1 ≤ (if c0 = 244 then 143 else 191)) ∧ (2 < n ∧ 128 ≤ c2 ∧ c2 ≤ 191) ∧ (3 < n ∧ 128 ≤ c3 ∧ c3 ≤ 191)) from fun x => a3 x.2.2.2)]
                  rfl
              · have a2' : ¬ (2 < n ∧ (128 : Int) ≤ (c2 : Int) ∧ (c2 : Int) ≤ 191) := by omega
                rw [decide_eq_false a2', if_neg (show ¬ ((240 ≤ c0 ∧ c0 ≤ 244) ∧ (1 < n ∧ (if c0 = 240 then 144 else 128) ≤ c1 ∧ c1 ≤ (if c0 = 244 then 143 else 191)) ∧ (2 < n ∧ 128 ≤ c2 ∧ c2 ≤ 191) ∧ (3 < n ∧ 128 ≤ c3 ∧ c3 ≤ 191)) from fun x => a2 x.2.2.1)]
                rfl
            · have a1' : ¬ (1 < n ∧ (((if c0 = 240 then 144 else 128 : Nat) : Int)) ≤ (c1 : Int) ∧ (c1 : Int) ≤ (((if c0 = 244 then 143 else 191 : Nat) : Int))) := fun x => a1 ⟨x.1, Int.ofNat_le.1 x.2.1, Int.ofNat_le.1 x.2.2⟩
              rw [decide_eq_false a1', if_neg (show ¬ ((240 ≤ c0 ∧ c0 ≤ 244) ∧ (1 < n ∧ (if c0 = 240 then 144 else 128) ≤ c1 ∧ c1 ≤ (if c0 = 244 then 143 else 191)) ∧ (2 < n ∧ 128 ≤ c2 ∧ c2 ≤ 191) ∧ (3 < n ∧ 128 ≤ c3 ∧ c3 ≤ 191)) from fun x => a1 x.2.1)]
              rfl
          · rw [if_neg (show ¬ ((240 ≤ c0 ∧ c0 ≤ 244) ∧ _) from fun x => r4 x.1)]
            by_cases g1 : (c0 : Int) ≥ 224
            · rw [decide_eq_true g1, decide_eq_false (show ¬ (c0 : Int) ≤ 239 by omega), decide_eq_true (show (c0 : Int) ≥ 240 by omega), decide_eq_false (show ¬ (c0 : Int) ≤ 244 by omega)]
              rfl
            · rw [decide_eq_false g1, decide_eq_false (show ¬ (c0 : Int) ≥ 240 by omega)]
              rfl
def rs : Nat → List UInt8 → List Int
  | 0, _ => []
  | k + 1, m => if m = [] then [] else ((first m).1 : Int) :: rs k (m.drop (first m).2)
theorem rs_len : ∀ (k : Nat) (m : List UInt8), (rs k m).length ≤ m.length
  | 0, _ => by simp [rs]
  | k + 1, m => by
    unfold rs
    split
    · simp
    · rename_i hm
      have h1 := first_wide (List.length_pos_iff.2 hm)
      have h2 := rs_len k (m.drop (first m).2)
      rw [List.length_drop] at h2
      simp only [List.length_cons]
      omega
theorem rs_stable : ∀ (k j : Nat) (m : List UInt8), m.length ≤ k → m.length ≤ j → rs k m = rs j m
  | 0, j, m, hk, hj => by
    obtain rfl : m = [] := List.eq_nil_of_length_eq_zero (by omega)
    cases j <;> simp [rs]
  | k + 1, 0, m, hk, hj => by
    obtain rfl : m = [] := List.eq_nil_of_length_eq_zero (by omega)
    simp [rs]
  | k + 1, j + 1, m, hk, hj => by
    unfold rs
    split
    · rfl
    · rename_i hm
      have h1 := first_wide (List.length_pos_iff.2 hm)
      rw [rs_stable k j _ (by rw [List.length_drop]; omega) (by rw [List.length_drop]; omega)]
theorem rrunes_from (fu : Nat) : ∀ (k : Nat) (m : List UInt8) (out : List Int), m.length ≤ k → out.length + m.length ≤ 900 → loopM (rickyardref04_Runes.s0 fu) (k + 1) (m, out) = some (out ++ rs k m)
  | 0, m, out, hk, _ => by
    obtain rfl : m = [] := List.eq_nil_of_length_eq_zero (by omega)
    simp [loopM, rickyardref04_Runes.s0, rs]
  | k + 1, m, out, hk, hl => by
    by_cases hm : m = []
    · subst hm
      simp [loopM, rickyardref04_Runes.s0, rs]
    · have hp := List.length_pos_iff.2 hm
      obtain ⟨h1, h2⟩ := first_wide hp
      have hst : rickyardref04_Runes.s0 fu (m, out) = some (.inr (m.drop (first m).2, out ++ [((first m).1 : Int)])) := by
        unfold rickyardref04_Runes.s0
        have c0 : (m.length : Int) > 0 := by omega
        have c1 : 0 ≤ ((first m).2 : Int) ∧ ((first m).2 : Int) ≤ (m.length : Int) := by omega
        have hlim : out.length + ([((first m).1 : Int)] : List Int).length ≤ LIM := lim_of' (by simp; omega)
        have ec : cut m ((first m).2 : Int) (m.length : Int) = m.drop (first m).2 := by
          unfold cut
          rw [Int.toNat_natCast, Int.toNat_natCast, List.take_length]
        simp only [c0, decide_true, if_true, first_eq hp, Option.bind_some, if_pos hlim, if_pos c1, ec]
      have hu : loopM (rickyardref04_Runes.s0 fu) (k + 1 + 1) (m, out) = loopM (rickyardref04_Runes.s0 fu) (k + 1) (m.drop (first m).2, out ++ [((first m).1 : Int)]) := by
        conv => lhs; unfold loopM
        rw [hst]
      rw [hu, rrunes_from fu k _ _ (by rw [List.length_drop]; omega) (by rw [List.length_append, List.length_drop]; simp; omega)]
      have : rs (k + 1) m = ((first m).1 : Int) :: rs k (m.drop (first m).2) := by
        conv => lhs; unfold rs
        rw [if_neg hm]
      rw [this]
      simp
theorem rrunes_eq {fu : Nat} (hfu : 400 ≤ fu) {m : List UInt8} (hm : m.length ≤ 300) : rickyardref04_Runes.f fu m = some (rs 399 m) := by
  unfold rickyardref04_Runes.f
  obtain ⟨k, rfl⟩ : ∃ k, fu = k + 1 := ⟨fu - 1, by omega⟩
  rw [rrunes_from (k + 1) k m [] (by omega) (by simp; omega), rs_stable k 399 m (by omega) (by omega)]
  rfl
def runeOk (r : Int) : Prop := (97 ≤ r ∧ r ≤ 122) ∨ (65 ≤ r ∧ r ≤ 90) ∨ (48 ≤ r ∧ r ≤ 57) ∨ r = 45 ∨ r = 95 ∨ (161 ≤ r ∧ r ≤ 65519)
instance (r : Int) : Decidable (runeOk r) := inferInstanceAs (Decidable (_ ∨ _))
theorem rof_eq (fu : Nat) (r : Int) : rickyardref04_Of.f fu r = some (decide (runeOk r)) := by
  unfold rickyardref04_Of.f
  simp only [decide_eq_true_eq]
  repeat' split
  all_goals apply congrArg some
  all_goals first
    | exact (decide_eq_true (by unfold runeOk; omega)).symm
    | exact (decide_eq_false (by unfold runeOk; omega)).symm
    | exact decide_eq_decide.2 (by unfold runeOk; omega)
theorem nameOf_eq {fu : Nat} (r : Int) (hf : 100 < fu) : name_Of.f fu r = some (decide (runeOk r)) := by
  unfold name_Of.f name_spans.f
  rw [Option.bind_some]
  obtain ⟨A, hA⟩ : ∃ A, A = Arr.set (Arr.set (Arr.set (Arr.set (Arr.set (Arr.set (Arr.rep 6 (⟨(0 : Int), (0 : Int)⟩ : S_name_span)) 0 (⟨97, 122⟩ : S_name_span)) 1 (⟨65, 90⟩ : S_name_span)) 2 (⟨48, 57⟩ : S_name_span)) 3 (⟨45, 45⟩ : S_name_span)) 4 (⟨95, 95⟩ : S_name_span)) 5 (⟨161, 65519⟩ : S_name_span) := ⟨_, rfl⟩
  have g : Arr.get A ((0 : Nat) : Int) = ⟨97, 122⟩ ∧ Arr.get A ((1 : Nat) : Int) = ⟨65, 90⟩ ∧ Arr.get A ((2 : Nat) : Int) = ⟨48, 57⟩ ∧ Arr.get A ((3 : Nat) : Int) = ⟨45, 45⟩ ∧ Arr.get A ((4 : Nat) : Int) = ⟨95, 95⟩ ∧ Arr.get A ((5 : Nat) : Int) = ⟨161, 65519⟩ := by
    subst hA
    exact ⟨rfl, rfl, rfl, rfl, rfl, rfl⟩
  obtain ⟨g0, g1, g2, g3, g4, g5⟩ := g
  rw [← hA]
  have hs : ∀ j : Nat, j < 6 → name_Of.s0 fu r A (j : Int) = some (if (Arr.get A (j : Int)).first ≤ r ∧ r ≤ (Arr.get A (j : Int)).last then .inl (.inl true) else .inr ((j + 1 : Nat) : Int)) := by
    intro j hj
    unfold name_Of.s0
    have h1 : (j : Int) < 6 := by omega
    have c0 : 0 ≤ (j : Int) ∧ True := ⟨by omega, trivial⟩
    have w3 : IntKind.i64.wrap ((j : Int) + 1) = ((j + 1 : Nat) : Int) := by rw [w64 (by omega) (by omega)]; omega
    simp only [h1, decide_true, if_true, w3, if_pos c0]
    by_cases a1 : (Arr.get A (j : Int)).first ≤ r
    · by_cases a2 : r ≤ (Arr.get A (j : Int)).last <;> simp [a1, a2]
    · simp [a1]
  have six : ∀ p : Nat → Prop, (∀ j, j < 6 → p j) ↔ (p 0 ∧ p 1 ∧ p 2 ∧ p 3 ∧ p 4 ∧ p 5) := by
    intro p
    constructor
    · intro h
      exact ⟨h 0 (by omega), h 1 (by omega), h 2 (by omega), h 3 (by omega), h 4 (by omega), h 5 (by omega)⟩
    · rintro ⟨h0, h1, h2, h3, h4, h5⟩ j hj
      have : j = 0 ∨ j = 1 ∨ j = 2 ∨ j = 3 ∨ j = 4 ∨ j = 5 := by omega
      rcases this with rfl | rfl | rfl | rfl | rfl | rfl <;> assumption
  have hall : (∀ j : Nat, j < 6 → ¬ ((Arr.get A (j : Int)).first ≤ r ∧ r ≤ (Arr.get A (j : Int)).last)) ↔ ¬ runeOk r := by
    rw [six fun (j : Nat) => ¬ ((Arr.get A (j : Int)).first ≤ r ∧ r ≤ (Arr.get A (j : Int)).last)]
    rw [g0, g1, g2, g3, g4, g5]
    unfold runeOk
    simp only
    omega
  by_cases hr : runeOk r
  · have : loopM (name_Of.s0 fu r A) fu 0 = some (.inl true) := by
      refine loopM_bad (S := fun j => (j : Int)) 6 (fun j => ¬ ((Arr.get A (j : Int)).first ≤ r ∧ r ≤ (Arr.get A (j : Int)).last)) rfl ?_ (fun j hj _ hg => by rw [hs j hj, if_neg hg]) (fun j hj _ hg => by rw [hs j hj, if_pos (Classical.byContradiction hg)]) (by omega)
      apply Classical.byContradiction
      intro hx
      exact hall.1 (fun j hj hg => hx ⟨j, hj, fun q => q hg⟩) hr
    rw [this, decide_eq_true hr]
    rfl
  · have : loopM (name_Of.s0 fu r A) fu 0 = some (.inr ()) := by
      refine loopM_run (S := fun j => (j : Int)) 6 rfl (fun j hj => by rw [hs j hj, if_neg (hall.2 hr j hj)]) ?_ (by omega)
      unfold name_Of.s0
      simp
    rw [this, decide_eq_false hr]
    rfl
def NameOk (s : List UInt8) : Prop := (0 < (rs 399 s).length ∧ (rs 399 s).length ≤ 8) ∧ ∀ r ∈ rs 399 s, runeOk r
instance (s : List UInt8) : Decidable (NameOk s) := inferInstanceAs (Decidable (_ ∧ _))
theorem rname_eq {fu : Nat} (hfu : 400 ≤ fu) {s : List UInt8} (hs : s.length ≤ 300) : rickyardref04_Right.f fu s = some (decide (NameOk s)) := by
  unfold rickyardref04_Right.f
  rw [rrunes_eq hfu hs, Option.bind_some]
  have hrl := rs_len 399 s
  have hL : NameOk s ↔ (0 < (rs 399 s).length ∧ (rs 399 s).length ≤ 8) ∧ ∀ r ∈ rs 399 s, runeOk r := Iff.rfl
  generalize rs 399 s = L at *
  have c0 : (if decide ((L.length : Int) > 0) = true then decide ((L.length : Int) ≤ 8) else false) = decide (0 < L.length ∧ L.length ≤ 8) := by
    by_cases h1 : (L.length : Int) > 0
    · rw [decide_eq_true h1, if_pos rfl]
      exact decide_eq_decide.2 (by omega)
    · rw [decide_eq_false h1, decide_eq_false (fun x : 0 < L.length ∧ L.length ≤ 8 => by have := x.1; omega)]
      rfl
  have cut0 : (if decide ((L.length : Int) > 0) = true then (loopM (rickyardref04_Right.s0 fu L) fu (decide ((L.length : Int) ≤ 8), 0)).bind fun e5 => some e5 else (loopM (rickyardref04_Right.s1 fu L) fu (false, 0)).bind fun e14 => some e14) = (loopM (rickyardref04_Right.s0 fu L) fu ((if decide ((L.length : Int) > 0) = true then decide ((L.length : Int) ≤ 8) else false), 0)).bind fun e => some e := by
    generalize decide ((L.length : Int) > 0) = b
    cases b <;> rfl
  rw [cut0, c0]
  have hst : ∀ (b : Bool) (j : Nat), j < L.length → rickyardref04_Right.s0 fu L (b, (j : Int)) = some (.inr (b && decide (runeOk (ix L (j : Int))), ((j + 1 : Nat) : Int))) := by
    intro b j hj
    unfold rickyardref04_Right.s0
    have h1 : (j : Int) < (L.length : Int) := by omega
    have c1 : 0 ≤ (j : Int) ∧ True := ⟨by omega, trivial⟩
    have w3 : IntKind.i64.wrap ((j : Int) + 1) = ((j + 1 : Nat) : Int) := by rw [w64 (by omega) (by omega)]; omega
    simp only [h1, decide_true, if_true, if_pos c1, rof_eq, Option.bind_some, w3]
    cases b <;> rfl
  have hloop : loopM (rickyardref04_Right.s0 fu L) fu (decide (0 < L.length ∧ L.length ≤ 8), 0) = some (decide (0 < L.length ∧ L.length ≤ 8) && (L.all fun r => decide (runeOk r))) := by
    refine loopM_run (S := fun j => (decide (0 < L.length ∧ L.length ≤ 8) && ((L.take j).all fun r => decide (runeOk r)), (j : Int))) L.length (by simp) (fun j hj => ?_) ?_ (by omega)
    · rw [hst _ j hj, List.take_add_one, List.getElem?_eq_getElem hj, ix_nat hj, List.all_append]
      simp [Bool.and_assoc]
    · unfold rickyardref04_Right.s0
      simp
  rw [hloop, Option.bind_some]
  congr 1
  rw [Bool.eq_iff_iff, decide_eq_true_eq, hL]
  simp only [Bool.and_eq_true, decide_eq_true_eq, List.all_eq_true]
theorem name_from {fu : Nat} (hfu : 400 ≤ fu) {s : List UInt8} : ∀ (k : Nat) (i n : Nat), i ≤ s.length → (s.drop i).length ≤ k → n ≤ 8 →
    ∃ i' : Int, loopM (name_Right.s0 fu s) (k + 1) ((n : Int), (i : Int)) = some (if n + (rs k (s.drop i)).length ≤ 8 ∧ ∀ r ∈ rs k (s.drop i), runeOk r then .inr (((n + (rs k (s.drop i)).length : Nat) : Int), i') else .inl false)
  | 0, i, n, hi, hk, hn => by
    have hil : i = s.length := by rw [List.length_drop] at hk; omega
    subst hil
    refine ⟨(s.length : Int), ?_⟩
    simp [loopM, name_Right.s0, rs, hn]
  | k + 1, i, n, hi, hk, hn => by
    by_cases hil : i = s.length
    · subst hil
      refine ⟨(s.length : Int), ?_⟩
      simp [loopM, name_Right.s0, rs, hn]
    · have hlt : i < s.length := by omega
      have hm : s.drop i ≠ [] := fun e => by
        have := congrArg List.length e
        rw [List.length_drop] at this
        simp at this
        omega
      have hp := List.length_pos_iff.2 hm
      obtain ⟨h1, h2⟩ := first_wide hp
      rw [List.length_drop] at h2 hk
      obtain ⟨e1, e2⟩ := rune_first s i
      have hrs : rs (k + 1) (s.drop i) = ((first (s.drop i)).1 : Int) :: rs k (s.drop (i + (first (s.drop i)).2)) := by
        conv => lhs; unfold rs
        rw [if_neg hm, List.drop_drop]
      have w3 : IntKind.i64.wrap ((n : Int) + 1) = ((n + 1 : Nat) : Int) := by rw [w64 (by omega) (by omega)]; omega
      have c0 : (i : Int) < (s.length : Int) := by omega
      have hst : name_Right.s0 fu s ((n : Int), (i : Int)) = some (if n + 1 ≤ 8 ∧ runeOk ((first (s.drop i)).1 : Int) then .inr (((n + 1 : Nat) : Int), ((i + (first (s.drop i)).2 : Nat) : Int)) else .inl (.inl false)) := by
        unfold name_Right.s0
        have e3 : (i : Int) + ((first (s.drop i)).2 : Int) = ((i + (first (s.drop i)).2 : Nat) : Int) := by omega
        simp only [c0, decide_true, if_true, w3, e1, e2, e3, nameOf_eq _ (show 100 < fu by omega), Option.bind_some]
        by_cases a1 : ((n + 1 : Nat) : Int) > 8
        · rw [decide_eq_true a1, if_neg (show ¬ (n + 1 ≤ 8 ∧ runeOk ((first (s.drop i)).1 : Int)) from fun x => by have := x.1; omega)]
          rfl
        · rw [decide_eq_false a1]
          by_cases a2 : runeOk ((first (s.drop i)).1 : Int)
          · rw [decide_eq_true a2, if_pos (show n + 1 ≤ 8 ∧ runeOk ((first (s.drop i)).1 : Int) from ⟨by omega, a2⟩)]
            rfl
          · rw [decide_eq_false a2, if_neg (show ¬ (n + 1 ≤ 8 ∧ runeOk ((first (s.drop i)).1 : Int)) from fun x => a2 x.2)]
            rfl
      have hu : loopM (name_Right.s0 fu s) (k + 1 + 1) ((n : Int), (i : Int)) = (match name_Right.s0 fu s ((n : Int), (i : Int)) with | none => none | some (.inl e) => some e | some (.inr s') => loopM (name_Right.s0 fu s) (k + 1) s') := by
        conv => lhs; unfold loopM
        generalize name_Right.s0 fu s ((n : Int), (i : Int)) = q
        rcases q with _ | _ | _ <;> rfl
      rw [hu, hst]
      by_cases a : n + 1 ≤ 8 ∧ runeOk ((first (s.drop i)).1 : Int)
      · rw [if_pos a]
        obtain ⟨i', ih⟩ := name_from hfu (s := s) k (i + (first (s.drop i)).2) (n + 1) (by omega) (by rw [List.length_drop]; omega) a.1
        refine ⟨i', ?_⟩
        simp only
        rw [ih, hrs]
        have hc : (n + 1 + (rs k (s.drop (i + (first (s.drop i)).2))).length ≤ 8 ∧ ∀ r ∈ rs k (s.drop (i + (first (s.drop i)).2)), runeOk r) ↔ (n + (((first (s.drop i)).1 : Int) :: rs k (s.drop (i + (first (s.drop i)).2))).length ≤ 8 ∧ ∀ r ∈ ((first (s.drop i)).1 : Int) :: rs k (s.drop (i + (first (s.drop i)).2)), runeOk r) := by
          simp only [List.length_cons, List.mem_cons, forall_eq_or_imp]
          constructor
          · rintro ⟨x, y⟩
            exact ⟨by omega, a.2, y⟩
          · rintro ⟨x, _, y⟩
            exact ⟨by omega, y⟩
        by_cases hq : n + 1 + (rs k (s.drop (i + (first (s.drop i)).2))).length ≤ 8 ∧ ∀ r ∈ rs k (s.drop (i + (first (s.drop i)).2)), runeOk r
        · rw [if_pos hq, if_pos (hc.1 hq)]
          congr 3
          simp only [List.length_cons]
          omega
        · rw [if_neg hq, if_neg (fun x => hq (hc.2 x))]
      · rw [if_neg a]
        refine ⟨0, ?_⟩
        simp only
        rw [hrs, if_neg]
        rintro ⟨x, y⟩
        simp only [List.length_cons] at x
        exact a ⟨by omega, y _ (List.mem_cons_self ..)⟩
theorem name_eq {fu : Nat} (hfu : 400 ≤ fu) {s : List UInt8} (hs : s.length ≤ 300) : name_Right.f fu s = some (decide (NameOk s)) := by
  unfold name_Right.f
  obtain ⟨k, rfl⟩ : ∃ k, fu = k + 1 := ⟨fu - 1, by omega⟩
  obtain ⟨i', h⟩ := name_from hfu (s := s) k 0 0 (by omega) (by rw [List.drop_zero]; omega) (by omega)
  rw [List.drop_zero, rs_stable k 399 s (by omega) (by omega)] at h
  have h' : loopM (name_Right.s0 (k + 1) s) (k + 1) (0, 0) = some (if 0 + (rs 399 s).length ≤ 8 ∧ ∀ r ∈ rs 399 s, runeOk r then .inr (((0 + (rs 399 s).length : Nat) : Int), i') else .inl false) := h
  rw [h']
  by_cases hq : 0 + (rs 399 s).length ≤ 8 ∧ ∀ r ∈ rs 399 s, runeOk r
  · rw [if_pos hq]
    simp only [Option.bind_some]
    congr 1
    apply decide_eq_decide.2
    unfold NameOk
    constructor
    · intro x
      exact ⟨⟨by omega, by omega⟩, hq.2⟩
    · intro x
      have := x.1.1
      omega
  · rw [if_neg hq, decide_eq_false (fun x : NameOk s => hq ⟨by have := x.1.2; omega, x.2⟩)]
    rfl
def numOk (x : Int) : Prop := 2 ≤ x ∧ x ≤ 3071
instance (x : Int) : Decidable (numOk x) := inferInstanceAs (Decidable (_ ∧ _))
theorem bnum_eq (fu : Nat) (x : Int) : label_blockNumber.f fu x = some (decide (numOk x)) := by
  unfold label_blockNumber.f
  by_cases h : x ≥ 2
  · by_cases h2 : x < 3072
    · rw [decide_eq_true h, decide_eq_true h2, decide_eq_true (show numOk x from ⟨h, by omega⟩)]
      rfl
    · rw [decide_eq_true h, decide_eq_false h2, decide_eq_false (fun y : numOk x => by have := y.2; omega)]
      rfl
  · rw [decide_eq_false h, decide_eq_false (fun y : numOk x => h y.1)]
    rfl
theorem rbnum_eq (fu : Nat) (x : Int) : rickyardref08_Block.f fu x = some (decide (numOk x)) := by
  unfold rickyardref08_Block.f
  by_cases h : x ≥ 2
  · by_cases h2 : x ≤ 3071
    · rw [decide_eq_true h, decide_eq_true h2, decide_eq_true (show numOk x from ⟨h, by omega⟩)]
      rfl
    · rw [decide_eq_true h, decide_eq_false h2, decide_eq_false (fun y : numOk x => h2 y.2)]
      rfl
  · rw [decide_eq_false h, decide_eq_false (fun y : numOk x => h y.1)]
    rfl
theorem among_eq {fu : Nat} {l : List Int} {x : Int} (hl : l.length ≤ 9000000000000000000) (hf : l.length < fu) : slices_Contains.f fu l x = some (decide (x ∈ l)) := by
  unfold slices_Contains.f
  have hs : ∀ j : Nat, j < l.length → slices_Index.s0 fu l x (j : Int) = some (if x ≠ ix l (j : Int) then .inr ((j + 1 : Nat) : Int) else .inl (.inl (j : Int))) := by
    intro j hj
    unfold slices_Index.s0
    have h1 : (j : Int) < (l.length : Int) := by omega
    have c0 : 0 ≤ (j : Int) := by omega
    have w3 : IntKind.i64.wrap ((j : Int) + 1) = ((j + 1 : Nat) : Int) := by rw [w64 (by omega) (by omega)]; omega
    simp only [h1, c0, and_self, decide_true, if_true, w3]
    by_cases e : x = ix l (j : Int) <;> simp [e]
  have hi : ∃ r : Int, slices_Index.f fu l x = some r ∧ (r ≥ 0 ↔ x ∈ l) := by
    unfold slices_Index.f
    by_cases hk : x ∈ l
    · have hmin : ∀ m j, j ≤ m → (j < l.length ∧ x = ix l (j : Int)) → ∃ q, (q < l.length ∧ x = ix l (q : Int)) ∧ ∀ i, i < q → x ≠ ix l (i : Int) := by
        intro m
        induction m with
        | zero =>
          intro j hj hjj
          exact ⟨j, hjj, fun i hi => by omega⟩
        | succ m ih =>
          intro j hj hjj
          by_cases hx : ∃ i, i < j ∧ x = ix l (i : Int)
          · obtain ⟨i, hi, hgi⟩ := hx
            exact ih i (by omega) ⟨by omega, hgi⟩
          · exact ⟨j, hjj, fun i hi hg => hx ⟨i, hi, hg⟩⟩
      obtain ⟨j, hj, hjx⟩ := List.getElem_of_mem hk
      obtain ⟨q, ⟨hq, hg⟩, hall⟩ := hmin j j (Nat.le_refl _) ⟨hj, by rw [ix_nat hj, hjx]⟩
      have : loopM (slices_Index.s0 fu l x) fu 0 = some (.inl (q : Int)) :=
        loopM_run (S := fun j => (j : Int)) q rfl (fun i hi => by rw [hs i (by omega), if_pos (hall i hi)]) (by rw [hs q hq, if_neg (fun h => h hg)]) (by omega)
      rw [this]
      refine ⟨(q : Int), rfl, ?_⟩
      simp only [hk, iff_true]
      omega
    · have : loopM (slices_Index.s0 fu l x) fu 0 = some (.inr ()) := by
        refine loopM_run (S := fun j => (j : Int)) l.length rfl (fun j hj => ?_) ?_ hf
        · rw [hs j hj, if_pos]
          intro e
          rw [ix_nat hj] at e
          exact hk (by rw [e]; exact List.getElem_mem hj)
        · unfold slices_Index.s0
          simp
      rw [this]
      exact ⟨-1, rfl, by simp [hk]⟩
  obtain ⟨r, hr, hrk⟩ := hi
  rw [hr]
  exact congrArg some (decide_eq_decide.2 hrk)
def dirAt (l : List Int) (j : Nat) : Prop := numOk (ix l (j : Int)) ∧ ix l (j : Int) ∉ l.take j
instance (l : List Int) (j : Nat) : Decidable (dirAt l j) := inferInstanceAs (Decidable (_ ∧ _))
def DirOk (l : List Int) : Prop := (1 ≤ l.length ∧ l.length ≤ 16) ∧ ∀ j, j < l.length → dirAt l j
instance (l : List Int) : Decidable (DirOk l) := inferInstanceAs (Decidable (_ ∧ _))
theorem dirRight_eq {fu : Nat} {l : List Int} (hf : 100 < fu) : label_RightDir.f fu ⟨l⟩ = some (decide (DirOk l)) := by
  unfold label_RightDir.f
  by_cases hl : 1 ≤ l.length ∧ l.length ≤ 16
  · have c1 : ¬ (l.length : Int) < 1 := by omega
    have c2 : ¬ (l.length : Int) > 16 := by omega
    have hs : ∀ j : Nat, j < l.length → label_RightDir.s0 fu ⟨l⟩ (j : Int) = some (if dirAt l j then .inr ((j + 1 : Nat) : Int) else .inl (.inl false)) := by
      intro j hj
      unfold label_RightDir.s0
      have h1 : (j : Int) < (l.length : Int) := by omega
      have h2 : (j : Int) ≤ (l.length : Int) := by omega
      have c0 : 0 ≤ (j : Int) := by omega
      have w3 : IntKind.i64.wrap ((j : Int) + 1) = ((j + 1 : Nat) : Int) := by rw [w64 (by omega) (by omega)]; omega
      have ec : cut l 0 (j : Int) = l.take j := by unfold cut; simp
      have hc : slices_Contains.f fu (l.take j) (ix l (j : Int)) = some (decide (ix l (j : Int) ∈ l.take j)) := among_eq (by rw [List.length_take]; omega) (by rw [List.length_take]; omega)
      simp only [h1, h2, c0, and_self, decide_true, if_true, w3, bnum_eq, Option.bind_some, ec, hc]
      unfold dirAt
      by_cases g1 : numOk (ix l (j : Int))
      · by_cases g2 : ix l (j : Int) ∈ l.take j <;> simp [g1, g2]
      · simp [g1]
    rw [decide_eq_false c1, decide_eq_false c2]
    simp only [Bool.false_eq_true, if_false]
    by_cases h : ∀ j, j < l.length → dirAt l j
    · have : loopM (label_RightDir.s0 fu ⟨l⟩) fu 0 = some (.inr ()) := by
        refine loopM_run (S := fun j => (j : Int)) l.length rfl (fun j hj => by rw [hs j hj, if_pos (h j hj)]) ?_ (by omega)
        unfold label_RightDir.s0
        simp
      have hD : DirOk l := ⟨hl, h⟩
      rw [this, decide_eq_true hD]
      rfl
    · have : loopM (label_RightDir.s0 fu ⟨l⟩) fu 0 = some (.inl false) := by
        refine loopM_bad (S := fun j => (j : Int)) l.length (fun j => dirAt l j) rfl ?_ (fun j hj _ hg => by rw [hs j hj, if_pos hg]) (fun j hj _ hg => by rw [hs j hj, if_neg hg]) (by omega)
        apply Classical.byContradiction
        intro hx
        exact h fun i hi => Classical.byContradiction fun hg => hx ⟨i, hi, hg⟩
      have hD : ¬ DirOk l := fun x => h x.2
      rw [this, decide_eq_false hD]
      rfl
  · have hD : ¬ DirOk l := fun x => hl x.1
    rw [decide_eq_false hD]
    by_cases c1 : (l.length : Int) < 1
    · rw [decide_eq_true c1]
      rfl
    · have c2 : (l.length : Int) > 16 := by omega
      rw [decide_eq_false c1, decide_eq_true c2]
      rfl
theorem rd2_eq {fu : Nat} {l : List Int} {out : List UInt8} {j : Nat} (hj : j < l.length) (hl : l.length ≤ 50) (hf : 100 < fu) : loopM (rickyardref11_Dir.s1 fu l (out, (j : Int))) fu 0 = some (if ix l (j : Int) ∉ l.take j then .inr () else .inl (.inl (.inl ([], false)))) := by
  have hs : ∀ i : Nat, i < j → rickyardref11_Dir.s1 fu l (out, (j : Int)) (i : Int) = some (if ix l (i : Int) ≠ ix l (j : Int) then .inr ((i + 1 : Nat) : Int) else .inl (.inl (.inl (.inl ([], false))))) := by
    intro i hi
    unfold rickyardref11_Dir.s1
    have h1 : (i : Int) < (j : Int) := by omega
    have h2 : (i : Int) < (l.length : Int) := by omega
    have h3 : (j : Int) < (l.length : Int) := by omega
    have c0 : 0 ≤ (i : Int) := by omega
    have c1 : 0 ≤ (j : Int) := by omega
    have w3 : IntKind.i64.wrap ((i : Int) + 1) = ((i + 1 : Nat) : Int) := by rw [w64 (by omega) (by omega)]; omega
    simp only [h1, h2, h3, c0, c1, and_self, decide_true, if_true, w3]
    by_cases e : ix l (i : Int) = ix l (j : Int) <;> simp [e]
  have hmem : ix l (j : Int) ∉ l.take j ↔ ∀ i, i < j → ix l (i : Int) ≠ ix l (j : Int) := by
    constructor
    · intro h i hi e
      apply h
      rw [← e, ix_nat (show i < l.length by omega)]
      exact List.mem_take_iff_getElem.2 ⟨i, by omega, rfl⟩
    · intro h hm
      obtain ⟨i, hi, he⟩ := List.mem_take_iff_getElem.1 hm
      exact h i (by omega) (by rw [ix_nat (show i < l.length by omega)]; exact he)
  by_cases h : ix l (j : Int) ∉ l.take j
  · rw [if_pos h]
    refine loopM_run (S := fun i => (i : Int)) j rfl (fun i hi => by rw [hs i hi, if_pos (hmem.1 h i hi)]) ?_ (by omega)
    unfold rickyardref11_Dir.s1
    simp
  · rw [if_neg h]
    refine loopM_bad (S := fun i => (i : Int)) j (fun i => ix l (i : Int) ≠ ix l (j : Int)) rfl ?_ (fun i hi _ hg => by rw [hs i hi, if_pos hg]) (fun i hi _ hg => by rw [hs i hi, if_neg hg]) (by omega)
    apply Classical.byContradiction
    intro hx
    exact h (hmem.2 fun i hi => Classical.byContradiction fun hg => hx ⟨i, hi, hg⟩)
theorem rdir_eq {fu : Nat} {l : List Int} (hf : 100 < fu) : rickyardref11_Dir.f fu l = some (if DirOk l then ((sealed (summed 6 (l.length : Int) (rowE l l.length))).map toB, true) else ([], false)) := by
  unfold rickyardref11_Dir.f
  by_cases hl : 1 ≤ l.length ∧ l.length ≤ 16
  · have c1 : ¬ (l.length : Int) < 1 := by omega
    have c2 : ¬ (l.length : Int) > 16 := by omega
    have hs : ∀ j : Nat, j < l.length → rickyardref11_Dir.s0 fu l ((rowE l j).map toB, (j : Int)) = some (if dirAt l j then .inr ((rowE l (j + 1)).map toB, ((j + 1 : Nat) : Int)) else .inl (.inl ([], false))) := by
      intro j hj
      unfold rickyardref11_Dir.s0
      have h1 : (j : Int) < (l.length : Int) := by omega
      have c0 : 0 ≤ (j : Int) := by omega
      have w3 : IntKind.i64.wrap ((j : Int) + 1) = ((j + 1 : Nat) : Int) := by rw [w64 (by omega) (by omega)]; omega
      have hlay : rickyardref01_Lay.f fu (IntKind.u64.wrap (ix l (j : Int))) 2 = some ((lay (u64n (ix l (j : Int))) 2).map toB) := rlay64 (n := 2) (by decide) (by omega)
      have hlim : ((rowE l j).map toB).length + ((lay (u64n (ix l (j : Int))) 2).map toB).length ≤ LIM := lim_of' (by rw [List.length_map, List.length_map, rowE_len, lay_len]; omega)
      have e : (rowE l (j + 1)).map toB = (rowE l j).map toB ++ (lay (u64n (ix l (j : Int))) 2).map toB := by rw [← List.map_append, rowE, rowE, flat_succ]
      simp only [h1, c0, and_self, decide_true, if_true, w3, rbnum_eq, Option.bind_some, rd2_eq (out := (rowE l j).map toB) hj (by omega) hf, hlay, hlim, e]
      by_cases g1 : numOk (ix l (j : Int))
      · by_cases g2 : ix l (j : Int) ∉ l.take j
        · rw [decide_eq_true g1, if_pos g2, if_pos (show dirAt l j from ⟨g1, g2⟩)]
          rfl
        · rw [decide_eq_true g1, if_neg g2, if_neg (show ¬ dirAt l j from fun x => g2 x.2)]
          rfl
      · rw [decide_eq_false g1, if_neg (show ¬ dirAt l j from fun x => g1 x.1)]
        rfl
    rw [decide_eq_false c1, decide_eq_false c2]
    simp only [Bool.false_eq_true, if_false]
    by_cases h : ∀ j, j < l.length → dirAt l j
    · have : loopM (rickyardref11_Dir.s0 fu l) fu ([], 0) = some (.inr ((rowE l l.length).map toB)) := by
        refine loopM_run (S := fun j => ((rowE l j).map toB, (j : Int))) l.length (by simp [rowE]) (fun j hj => by rw [hs j hj, if_pos (h j hj)]) ?_ (by omega)
        unfold rickyardref11_Dir.s0
        simp
      have hD : DirOk l := ⟨hl, h⟩
      have hq := rseal_eq (fu := fu) (k := 6) (t := (l.length : Int)) (rowE_bytes l l.length) (by omega) (by omega) (by rw [rowE_len]; omega) hf
      rw [this, if_pos hD]
      simp only [Option.bind_some, hq]
    · have : loopM (rickyardref11_Dir.s0 fu l) fu ([], 0) = some (.inl ([], false)) := by
        refine loopM_bad (S := fun j => ((rowE l j).map toB, (j : Int))) l.length (fun j => dirAt l j) (by simp [rowE]) ?_ (fun j hj _ hg => by rw [hs j hj, if_pos hg]) (fun j hj _ hg => by rw [hs j hj, if_neg hg]) (by omega)
        apply Classical.byContradiction
        intro hx
        exact h fun i hi => Classical.byContradiction fun hg => hx ⟨i, hi, hg⟩
      have hD : ¬ DirOk l := fun x => h x.2
      rw [this, if_neg hD]
      rfl
  · have hD : ¬ DirOk l := fun x => hl x.1
    rw [if_neg hD]
    by_cases c1 : (l.length : Int) < 1
    · rw [decide_eq_true c1]
      rfl
    · have c2 : (l.length : Int) > 16 := by omega
      rw [decide_eq_false c1, decide_eq_true c2]
      rfl
def dirOf (body : List Int) (t : Nat) : List Int := (List.range t).map fun i => ((num (fieldAt body 2 i) : Nat) : Int)
theorem dirOf_len (body : List Int) (t : Nat) : (dirOf body t).length = t := by simp [dirOf]
theorem dirE_of {body : List Int} (hb : Bytes body) {t : Nat} (h : 2 * t ≤ body.length) : rowE (dirOf body t) t = body.take (2 * t) := by
  rw [← field_flat (w := 2) t h]
  apply flat_congr
  intro i hi
  unfold dirOf
  rw [ix_map hi]
  have hfl := fieldAt_len h hi
  have hfb := fieldAt_bytes hb 2 i
  have hn := num_lt hfb
  rw [hfl] at hn
  rw [u64n_of (by omega) (by omega), Int.toNat_natCast]
  have := lay_num hfb
  rwa [hfl] at this
def GetD (b : List Int) : Prop := Is b ∧ ix b 4 = 6 ∧ ix b 5 ≤ 16 ∧ DirOk (dirOf (b.drop 8) (ix b 5).toNat) ∧ ∀ y ∈ (b.drop 8).drop (2 * (ix b 5).toNat), y = 0
instance (b : List Int) : Decidable (GetD b) := inferInstanceAs (Decidable (_ ∧ _))
theorem dirGet_eq {fu : Nat} {b : List Int} (hb : Bytes b) (hl : b.length ≤ 9000000000000000000) (hf : 100 < fu) : label_GetDir.f fu b = some (if GetD b then (⟨dirOf (b.drop 8) (ix b 5).toNat⟩, true) else (⟨[]⟩, false)) := by
  unfold label_GetDir.f
  rw [open_eq hb hl hf]
  by_cases hi : Is b
  · have h8 := is_body hi
    obtain ⟨b4, b5⟩ := is_tag hb hi
    rw [if_pos hi]
    simp only [Option.bind_some, Bool.not_true, Bool.false_eq_true, if_false]
    by_cases h4 : ix b 4 = 6
    · by_cases h5 : ix b 5 ≤ 16
      · have h5' : ¬ ix b 5 > 16 := by omega
        obtain ⟨t, ht⟩ : ∃ t : Nat, ix b 5 = (t : Int) := ⟨(ix b 5).toNat, by omega⟩
        have hbd := hb.drop 8
        obtain ⟨body, hbody⟩ : ∃ body, body = b.drop 8 := ⟨_, rfl⟩
        rw [← hbody] at h8 hbd
        have hloop : loopM (label_GetDir.s0 fu (ix b 4, ix b 5, body, true)) fu (0, []) = some (dirOf body t) := by
          refine loopM_run (S := fun j => ((j : Int), dirOf body j)) t (by simp [dirOf]) ?_ ?_ (by omega)
          · intro j hj
            unfold label_GetDir.s0
            have h1 : (j : Int) < ix b 5 := by omega
            have w3 : IntKind.i64.wrap ((j : Int) + 1) = ((j + 1 : Nat) : Int) := by rw [w64 (by omega) (by omega)]; omega
            have w4 : IntKind.i64.wrap (2 * (j : Int)) = ((2 * j : Nat) : Int) := by rw [w64 (by omega) (by omega)]; omega
            have w5 : IntKind.i64.wrap (2 * ((j + 1 : Nat) : Int)) = ((2 * j + 2 : Nat) : Int) := by rw [w64 (by omega) (by omega)]; omega
            have hfl := fieldAt_len (l := body) (w := 2) (n := t) (by omega) hj
            have hfb := fieldAt_bytes hbd 2 j
            have hr : octet_Read.f fu (cut body ((2 * j : Nat) : Int) ((2 * j + 2 : Nat) : Int)) = some ((num (fieldAt body 2 j) : Nat) : Int) := by
              rw [cut_eq]
              have := read_eq (fu := fu) hfb (by omega) (by omega)
              exact this
            have w6 := num_small hfb (by omega)
            have c1 : (0 : Int) ≤ ((2 * j : Nat) : Int) ∧ ((2 * j : Nat) : Int) ≤ ((2 * j + 2 : Nat) : Int) ∧ ((2 * j + 2 : Nat) : Int) ≤ (body.length : Int) := by omega
            have hlim : (dirOf body j).length + ([((num (fieldAt body 2 j) : Nat) : Int)] : List Int).length ≤ LIM := lim_of' (by rw [dirOf_len]; simp; omega)
            simp only [h1, decide_true, if_true, w3, w4, w5, if_pos c1, hr, Option.bind_some, w6, if_pos hlim]
            simp [dirOf, List.range_succ]
          · unfold label_GetDir.s0
            simp [ht]
        have w1 : IntKind.i64.wrap (2 * (t : Int)) = ((2 * t : Nat) : Int) := by rw [w64 (by omega) (by omega)]; omega
        have w6 : IntKind.i64.wrap ((body.length : Int) - ((2 * t : Nat) : Int)) = ((56 - 2 * t : Nat) : Int) := by rw [w64 (by omega) (by omega)]; omega
        have hn := noughts_eq (fu := fu) (b := body) (i := 2 * t) (n := 56 - 2 * t) (by omega) (by omega) (by omega)
        have e8 : (body.drop (2 * t)).take (56 - 2 * t) = body.drop (2 * t) := List.take_of_length_le (by rw [List.length_drop, h8]; omega)
        rw [e8] at hn
        rw [← hbody]
        simp only [h4, h5', decide_true, decide_false, Bool.not_true, Bool.false_eq_true, if_false] at hloop ⊢
        simp only [ht, w1, w6, hn, Option.bind_some] at hloop ⊢
        simp only [hloop, dirRight_eq hf, Option.bind_some]
        have hgi : GetD b ↔ (DirOk (dirOf body t) ∧ ∀ y ∈ body.drop (2 * t), y = 0) := by
          unfold GetD
          rw [ht, ← hbody, Int.toNat_natCast]
          exact ⟨fun x => x.2.2.2, fun x => ⟨hi, h4, by omega, x⟩⟩
        rw [Int.toNat_natCast]
        by_cases hz : ∀ y ∈ body.drop (2 * t), y = 0
        · rw [decide_eq_true hz]
          by_cases hr : DirOk (dirOf body t)
          · rw [if_pos (hgi.2 ⟨hr, hz⟩), decide_eq_true hr]
            rfl
          · rw [if_neg (fun x => hr (hgi.1 x).1), decide_eq_false hr]
            rfl
        · rw [decide_eq_false hz, if_neg (fun x => hz (hgi.1 x).2)]
          rfl
      · have h5' : ix b 5 > 16 := by omega
        have hg : ¬ GetD b := fun x => h5 x.2.2.1
        rw [if_neg hg, decide_eq_true h4, decide_eq_true h5']
        rfl
    · have hg : ¬ GetD b := fun x => h4 x.2.1
      rw [if_neg hg, decide_eq_false h4]
      rfl
  · have hg : ¬ GetD b := fun x => hi x.1
    rw [if_neg hi, if_neg hg]
    rfl
theorem rdirGet_eq {fu : Nat} {b : List Int} (hb : Bytes b) (hf : 100 < fu) : rickyardref11_GetDir.f fu b = some (if GetD b then (dirOf (b.drop 8) (ix b 5).toNat, true) else ([], false)) := by
  unfold rickyardref11_GetDir.f
  rw [ropen_eq hb hf]
  by_cases hi : Is b
  · have h8 := is_body hi
    obtain ⟨b4, b5⟩ := is_tag hb hi
    rw [if_pos hi]
    simp only [Option.bind_some, Bool.not_true, Bool.false_eq_true, if_false]
    by_cases h4 : ix b 4 = 6
    · by_cases h5 : ix b 5 ≤ 16
      · have h5' : ¬ ix b 5 > 16 := by omega
        obtain ⟨t, ht⟩ : ∃ t : Nat, ix b 5 = (t : Int) := ⟨(ix b 5).toNat, by omega⟩
        have hbd := hb.drop 8
        obtain ⟨body, hbody⟩ : ∃ body, body = b.drop 8 := ⟨_, rfl⟩
        have hq0 : ∀ {k tg : Int} {bd : List Int}, (0 ≤ k ∧ k ≤ 255) → (0 ≤ tg ∧ tg ≤ 255) → Bytes bd → bd.length ≤ 56 → ((sealed (summed k tg bd)).map toB = b.map toB ↔ k = ix b 4 ∧ tg = ix b 5 ∧ bd ++ List.replicate (56 - bd.length) 0 = b.drop 8) := fun h1 h2 h3 h4 => sealed_map_iff hb hi h1 h2 h3 h4
        rw [← hbody] at h8 hbd
        have hloop : loopM (rickyardref11_GetDir.s0 fu (ix b 4, ix b 5, body.map toB, true)) fu ([], 0) = some (dirOf body t) := by
          refine loopM_run (S := fun j => (dirOf body j, (j : Int))) t (by simp [dirOf]) ?_ ?_ (by omega)
          · intro j hj
            unfold rickyardref11_GetDir.s0
            have h1 : (j : Int) < ix b 5 := by omega
            have w3 : IntKind.i64.wrap ((j : Int) + 1) = ((j + 1 : Nat) : Int) := by rw [w64 (by omega) (by omega)]; omega
            have w4 : IntKind.i64.wrap (2 * (j : Int)) = ((2 * j : Nat) : Int) := by rw [w64 (by omega) (by omega)]; omega
            have w5 : IntKind.i64.wrap (((2 * j : Nat) : Int) + 2) = ((2 * j + 2 : Nat) : Int) := by rw [w64 (by omega) (by omega)]; omega
            have hfl := fieldAt_len (l := body) (w := 2) (n := t) (by omega) hj
            have hfb := fieldAt_bytes hbd 2 j
            have hr : rickyardref01_Int.f fu (cut (body.map toB) ((2 * j : Nat) : Int) ((2 * j + 2 : Nat) : Int)) = some ((num (fieldAt body 2 j) : Nat) : Int) := by
              have := rintAt_eq (fu := fu) (b := body) (i := 2 * j) (n := 2) hbd (by omega) (by decide) hf
              rw [intAt_small hbd (by omega) (by decide)] at this
              exact this
            have c1 : (0 : Int) ≤ ((2 * j : Nat) : Int) ∧ ((2 * j : Nat) : Int) ≤ ((2 * j + 2 : Nat) : Int) ∧ ((2 * j + 2 : Nat) : Int) ≤ ((body.map toB).length : Int) := by rw [List.length_map]; omega
            have hlim : (dirOf body j).length + ([((num (fieldAt body 2 j) : Nat) : Int)] : List Int).length ≤ LIM := lim_of' (by rw [dirOf_len]; simp; omega)
            simp only [h1, decide_true, if_true, w3, w4, w5, if_pos c1, hr, Option.bind_some, if_pos hlim]
            simp [dirOf, List.range_succ]
          · unfold rickyardref11_GetDir.s0
            simp [ht]
        have hgi : GetD b ↔ (DirOk (dirOf body t) ∧ ∀ y ∈ body.drop (2 * t), y = 0) := by
          unfold GetD
          rw [ht, ← hbody, Int.toNat_natCast]
          exact ⟨fun x => x.2.2.2, fun x => ⟨hi, h4, by omega, x⟩⟩
        rw [← hbody]
        simp only [h4, h5', decide_true, decide_false, Bool.not_true, Bool.false_eq_true, if_false] at hloop ⊢
        rw [hloop]
        simp only [Option.bind_some, rdir_eq hf]
        have hq := hq0 (k := 6) (tg := (t : Int)) (bd := rowE (dirOf body t) t) (by omega) (by omega) (rowE_bytes _ _) (by rw [rowE_len]; omega)
        have hfl := full_iff (body := rowE (dirOf body t) t) (full := body) (by rw [rowE_len]; omega) h8
        rw [← hbody] at hq
        rw [rowE_len, dirE_of hbd (show 2 * t ≤ body.length by omega)] at hfl
        rw [rowE_len, dirE_of hbd (show 2 * t ≤ body.length by omega)] at hq
        rw [ht, Int.toNat_natCast, dirOf_len, dirE_of hbd (show 2 * t ≤ body.length by omega)]
        by_cases hr : DirOk (dirOf body t)
        · rw [if_pos hr]
          by_cases hz : ∀ y ∈ body.drop (2 * t), y = 0
          · rw [if_pos (hgi.2 ⟨hr, hz⟩)]
            simp only
            rw [decide_eq_true (hq.2 ⟨h4.symm, ht.symm, hfl.2 ⟨rfl, hz⟩⟩)]
            rfl
          · rw [if_neg (fun x => hz (hgi.1 x).2)]
            simp only
            rw [decide_eq_false (fun x => hz (hfl.1 (hq.1 x).2.2).2)]
            rfl
        · rw [if_neg hr, if_neg (fun x => hr (hgi.1 x).1)]
          rfl
      · have h5' : ix b 5 > 16 := by omega
        have hg : ¬ GetD b := fun x => h5 x.2.2.1
        rw [if_neg hg, decide_eq_true h4, decide_eq_true h5']
        rfl
    · have hg : ¬ GetD b := fun x => h4 x.2.1
      rw [if_neg hg, decide_eq_false h4]
      rfl
  · have hg : ¬ GetD b := fun x => hi x.1
    rw [if_neg hi, if_neg hg]
    rfl
theorem fst4_wide {c0 c1 c2 c3 n : Nat} : (fst4 c0 c1 c2 c3 n).2 ≤ 3 ∨ 65536 ≤ (fst4 c0 c1 c2 c3 n).1 := by
  unfold fst4
  by_cases h0 : c0 < 128
  · rw [if_pos h0]
    exact .inl (by simp)
  · rw [if_neg h0]
    by_cases h2 : (194 ≤ c0 ∧ c0 ≤ 223) ∧ (1 < n ∧ 128 ≤ c1 ∧ c1 ≤ 191)
    · rw [if_pos h2]
      exact .inl (by simp)
    · rw [if_neg h2]
      by_cases h3 : (224 ≤ c0 ∧ c0 ≤ 239) ∧ (1 < n ∧ (if c0 = 224 then 160 else 128) ≤ c1 ∧ c1 ≤ (if c0 = 237 then 159 else 191)) ∧ (2 < n ∧ 128 ≤ c2 ∧ c2 ≤ 191)
      · rw [if_pos h3]
        exact .inl (by simp)
      · rw [if_neg h3]
        by_cases h4 : (240 ≤ c0 ∧ c0 ≤ 244) ∧ (1 < n ∧ (if c0 = 240 then 144 else 128) ≤ c1 ∧ c1 ≤ (if c0 = 244 then 143 else 191)) ∧ (2 < n ∧ 128 ≤ c2 ∧ c2 ≤ 191) ∧ (3 < n ∧ 128 ≤ c3 ∧ c3 ≤ 191)
        · rw [if_pos h4]
          right
          have h5 := h4.1
          have h6 := h4.2.1.2.1
          simp only
          by_cases e : c0 = 240
          · rw [if_pos e] at h6
            omega
          · rw [if_neg e] at h6
            omega
        · rw [if_neg h4]
          exact .inl (by simp)
theorem rs_wide : ∀ (k : Nat) (m : List UInt8), m.length ≤ k → (∀ r ∈ rs k m, runeOk r) → m.length ≤ 3 * (rs k m).length
  | 0, m, hk, _ => by omega
  | k + 1, m, hk, h => by
    unfold rs at h ⊢
    by_cases hm : m = []
    · subst hm
      simp
    · rw [if_neg hm] at h ⊢
      have hp := List.length_pos_iff.2 hm
      obtain ⟨h1, h2⟩ := first_wide hp
      have ih := rs_wide k (m.drop (first m).2) (by rw [List.length_drop]; omega) fun r hr => h r (List.mem_cons_of_mem _ hr)
      have h0 := h _ List.mem_cons_self
      have hw : (first m).2 ≤ 3 := by
        rcases fst4_wide (c0 := oct m 0) (c1 := oct m 1) (c2 := oct m 2) (c3 := oct m 3) (n := m.length) with e | e
        · exact e
        · have e' : 65536 ≤ (first m).1 := e
          unfold runeOk at h0
          omega
      rw [List.length_drop] at ih
      rw [List.length_cons]
      omega
theorem NameOk.len {s : List UInt8} (h : NameOk s) (hs : s.length ≤ 300) : s.length ≤ 24 := by
  have := rs_wide 399 s (by omega) h.2
  have := h.1.2
  omega
theorem bit64 {c i : Nat} (hc : c < 9223372036854775808) (hi : i < 64) : bAnd .i64 (shR .i64 (c : Int) (i : Int)) 1 = ((c / 2 ^ i % 2 : Nat) : Int) := by
  have e1 : shR .i64 (c : Int) (i : Int) = ((c / 2 ^ i : Nat) : Int) := by
    unfold shR
    rw [Int.toNat_natCast, show min i IntKind.i64.bits = i from Nat.min_eq_left (by show i ≤ 64; omega)]
    rw [show ((2 : Int) ^ i) = ((2 ^ i : Nat) : Int) by push_cast; rfl]
    rw [Int.fdiv_eq_ediv_of_nonneg _ (Int.natCast_nonneg _)]
    rfl
  rw [e1]
  have hq : c / 2 ^ i < 9223372036854775808 := Nat.lt_of_le_of_lt (Nat.div_le_self _ _) hc
  generalize c / 2 ^ i = q at *
  unfold bAnd
  have e2 : (BitVec.ofInt IntKind.i64.bits (q : Int) &&& BitVec.ofInt IntKind.i64.bits 1).toNat = q % 2 := by
    rw [BitVec.toNat_and]
    have a1 : (BitVec.ofInt IntKind.i64.bits (q : Int)).toNat = q := by
      show (BitVec.ofInt 64 (q : Int)).toNat = q
      rw [BitVec.toNat_ofInt]
      omega
    have a2 : (BitVec.ofInt IntKind.i64.bits 1).toNat = 1 := rfl
    rw [a1, a2, Nat.and_one_is_mod]
  rw [e2, w64 (by omega) (by omega)]
def rootOk (c : Nat) (l : List Int) (i : Nat) : Prop := (c / 2 ^ i % 2 = 0 → ix l (i : Int) = 0) ∧ (c / 2 ^ i % 2 = 1 → numOk (ix l (i : Int)))
instance (c : Nat) (l : List Int) (i : Nat) : Decidable (rootOk c l i) := inferInstanceAs (Decidable (_ ∧ _))
def QueueOk (q : S_api_Queue) : Prop := NameOk q.Name ∧ (0 ≤ q.Count ∧ q.Count ≤ 4095) ∧ ∀ i, i < 12 → rootOk q.Count.toNat q.Roots.l i
instance (q : S_api_Queue) : Decidable (QueueOk q) := inferInstanceAs (Decidable (_ ∧ _))
theorem getIx {n : Nat} (a : Arr n Int) (i : Nat) : Arr.get a (i : Int) = ix a.l (i : Int) := rfl
theorem queue_head {fu : Nat} (hfu : 400 ≤ fu) {q : S_api_Queue} (hs : q.Name.length ≤ 300) (K : Option Bool) : ((name_Right.f fu q.Name : Option Bool).bind fun t1 => (if (!t1) = true then some false else (if (decide (q.Count < 0)) = true then some false else (if (decide (q.Count ≥ 4096)) = true then some false else K)))) = if NameOk q.Name ∧ (0 ≤ q.Count ∧ q.Count ≤ 4095) then K else some false := by
  rw [name_eq hfu hs, Option.bind_some]
  by_cases h1 : NameOk q.Name
  · rw [decide_eq_true h1]
    by_cases h2 : q.Count < 0
    · rw [decide_eq_true h2, if_neg (fun x : NameOk q.Name ∧ (0 ≤ q.Count ∧ q.Count ≤ 4095) => by have := x.2.1; omega)]
      rfl
    · rw [decide_eq_false h2]
      by_cases h3 : q.Count ≥ 4096
      · rw [decide_eq_true h3, if_neg (fun x : NameOk q.Name ∧ (0 ≤ q.Count ∧ q.Count ≤ 4095) => by have := x.2.2; omega)]
        rfl
      · rw [decide_eq_false h3, if_pos (show NameOk q.Name ∧ (0 ≤ q.Count ∧ q.Count ≤ 4095) from ⟨h1, by omega, by omega⟩)]
        rfl
  · rw [decide_eq_false h1, if_neg (fun x : NameOk q.Name ∧ (0 ≤ q.Count ∧ q.Count ≤ 4095) => h1 x.1)]
    rfl
theorem rqueue_head {fu : Nat} (hfu : 400 ≤ fu) {q : S_api_Queue} (hs : q.Name.length ≤ 300) (K : Option Bool) : ((rickyardref04_Right.f fu q.Name : Option Bool).bind fun t1 => (if (!t1) = true then some false else (if (decide (q.Count < 0)) = true then some false else (if (decide (q.Count > 4095)) = true then some false else K)))) = if NameOk q.Name ∧ (0 ≤ q.Count ∧ q.Count ≤ 4095) then K else some false := by
  rw [rname_eq hfu hs, Option.bind_some]
  by_cases h1 : NameOk q.Name
  · rw [decide_eq_true h1]
    by_cases h2 : q.Count < 0
    · rw [decide_eq_true h2, if_neg (fun x : NameOk q.Name ∧ (0 ≤ q.Count ∧ q.Count ≤ 4095) => by have := x.2.1; omega)]
      rfl
    · rw [decide_eq_false h2]
      by_cases h3 : q.Count > 4095
      · rw [decide_eq_true h3, if_neg (fun x : NameOk q.Name ∧ (0 ≤ q.Count ∧ q.Count ≤ 4095) => by have := x.2.2; omega)]
        rfl
      · rw [decide_eq_false h3, if_pos (show NameOk q.Name ∧ (0 ≤ q.Count ∧ q.Count ≤ 4095) from ⟨h1, by omega, by omega⟩)]
        rfl
  · rw [decide_eq_false h1, if_neg (fun x : NameOk q.Name ∧ (0 ≤ q.Count ∧ q.Count ≤ 4095) => h1 x.1)]
    rfl
theorem queueRight_eq {fu : Nat} (hfu : 400 ≤ fu) {q : S_api_Queue} (hs : q.Name.length ≤ 300) : label_RightQueue.f fu q = some (decide (QueueOk q)) := by
  unfold label_RightQueue.f
  rw [queue_head hfu hs]
  by_cases hh : NameOk q.Name ∧ (0 ≤ q.Count ∧ q.Count ≤ 4095)
  · rw [if_pos hh]
    obtain ⟨c, hc⟩ : ∃ c : Nat, q.Count = (c : Int) := ⟨q.Count.toNat, by omega⟩
    have hst : ∀ j : Nat, j < 12 → label_RightQueue.s0 fu q (j : Int) = some (if rootOk c q.Roots.l j then .inr ((j + 1 : Nat) : Int) else .inl (.inl false)) := by
      intro j hj
      unfold label_RightQueue.s0
      have h1 : (j : Int) < 12 := by omega
      have c0 : 0 ≤ (j : Int) := by omega
      have c1 : 0 ≤ (j : Int) ∧ (j : Int) < 12 := by omega
      have w3 : IntKind.i64.wrap ((j : Int) + 1) = ((j + 1 : Nat) : Int) := by rw [w64 (by omega) (by omega)]; omega
      have hb := bit64 (c := c) (i := j) (by omega) (by omega)
      rw [hc, hb]
      simp only [h1, c0, decide_true, if_true, if_pos c1, w3, bnum_eq, Option.bind_some, getIx]
      have hm : c / 2 ^ j % 2 = 0 ∨ c / 2 ^ j % 2 = 1 := by omega
      rcases hm with e | e
      · have hr : rootOk c q.Roots.l j ↔ ix q.Roots.l (j : Int) = 0 := ⟨fun x => x.1 e, fun z => ⟨fun _ => z, fun e' => by omega⟩⟩
        rw [e]
        by_cases z : ix q.Roots.l (j : Int) = 0
        · rw [if_pos (hr.2 z)]
          simp [z]
        · rw [if_neg (fun x => z (hr.1 x))]
          simp [z]
      · have hr : rootOk c q.Roots.l j ↔ numOk (ix q.Roots.l (j : Int)) := ⟨fun x => x.2 e, fun z => ⟨fun e' => by omega, fun _ => z⟩⟩
        rw [e]
        by_cases z : numOk (ix q.Roots.l (j : Int))
        · rw [if_pos (hr.2 z)]
          simp [z]
        · rw [if_neg (fun x => z (hr.1 x))]
          simp [z]
    have hQ : QueueOk q ↔ ∀ i, i < 12 → rootOk c q.Roots.l i := by
      unfold QueueOk
      rw [hc, Int.toNat_natCast, ← hc]
      exact ⟨fun x => x.2.2, fun x => ⟨hh.1, hh.2, x⟩⟩
    by_cases hall : ∀ i, i < 12 → rootOk c q.Roots.l i
    · have : loopM (label_RightQueue.s0 fu q) fu 0 = some (.inr ()) := by
        refine loopM_run (S := fun j => (j : Int)) 12 rfl (fun j hj => by rw [hst j hj, if_pos (hall j hj)]) ?_ (by omega)
        unfold label_RightQueue.s0
        simp
      rw [this, decide_eq_true (hQ.2 hall)]
      rfl
    · have : loopM (label_RightQueue.s0 fu q) fu 0 = some (.inl false) := by
        refine loopM_bad (S := fun j => (j : Int)) 12 (fun j => rootOk c q.Roots.l j) rfl ?_ (fun j hj _ hg => by rw [hst j hj, if_pos hg]) (fun j hj _ hg => by rw [hst j hj, if_neg hg]) (by omega)
        apply Classical.byContradiction
        intro hx
        exact hall fun i hi => Classical.byContradiction fun hg => hx ⟨i, hi, hg⟩
      rw [this, decide_eq_false (fun x => hall (hQ.1 x))]
      rfl
  · rw [if_neg hh, decide_eq_false (fun x : QueueOk q => hh ⟨x.1, x.2.1⟩)]
theorem rqueueRight_eq {fu : Nat} (hfu : 400 ≤ fu) {q : S_api_Queue} (hs : q.Name.length ≤ 300) : rickyardref11_Right.f fu q = some (decide (QueueOk q)) := by
  unfold rickyardref11_Right.f
  rw [rqueue_head hfu hs]
  by_cases hh : NameOk q.Name ∧ (0 ≤ q.Count ∧ q.Count ≤ 4095)
  · rw [if_pos hh]
    obtain ⟨c, hc⟩ : ∃ c : Nat, q.Count = (c : Int) := ⟨q.Count.toNat, by omega⟩
    have hst : ∀ j : Nat, j < 12 → rickyardref11_Right.s0 fu q (((c / 2 ^ j : Nat) : Int), (j : Int)) = some (if rootOk c q.Roots.l j then .inr (((c / 2 ^ (j + 1) : Nat) : Int), ((j + 1 : Nat) : Int)) else .inl (.inl false)) := by
      intro j hj
      unfold rickyardref11_Right.s0
      have h1 : (j : Int) < 12 := by omega
      have c1 : 0 ≤ (j : Int) ∧ (j : Int) < 12 := by omega
      have w3 : IntKind.i64.wrap ((j : Int) + 1) = ((j + 1 : Nat) : Int) := by rw [w64 (by omega) (by omega)]; omega
      have hle : c / 2 ^ j ≤ c := Nat.div_le_self _ _
      have hd : c / 2 ^ (j + 1) = c / 2 ^ j / 2 := by rw [Nat.pow_succ, Nat.div_div_eq_div_mul]
      rw [hd]
      obtain ⟨u, hu⟩ : ∃ u, u = c / 2 ^ j := ⟨_, rfl⟩
      rw [← hu] at hle ⊢
      have w4 : IntKind.i64.wrap (Int.tdiv (u : Int) 2) = ((u / 2 : Nat) : Int) := by
        rw [show Int.tdiv (u : Int) 2 = ((u / 2 : Nat) : Int) from rfl, w64 (by omega) (by omega)]
      have hmo : Int.tmod (u : Int) 2 = ((u % 2 : Nat) : Int) := rfl
      simp only [h1, decide_true, if_true, if_pos c1, w3, w4, hmo, rbnum_eq, Option.bind_some, getIx]
      have hm : u % 2 = 0 ∨ u % 2 = 1 := by omega
      rcases hm with e | e
      · have hr : rootOk c q.Roots.l j ↔ ix q.Roots.l (j : Int) = 0 := ⟨fun x => x.1 (by rw [← hu]; exact e), fun z => ⟨fun _ => z, fun e' => by rw [← hu] at e'; omega⟩⟩
        rw [e]
        by_cases z : ix q.Roots.l (j : Int) = 0
        · rw [if_pos (hr.2 z)]
          simp [z]
        · rw [if_neg (fun x => z (hr.1 x))]
          simp [z]
      · have hr : rootOk c q.Roots.l j ↔ numOk (ix q.Roots.l (j : Int)) := ⟨fun x => x.2 (by rw [← hu]; exact e), fun z => ⟨fun e' => by rw [← hu] at e'; omega, fun _ => z⟩⟩
        rw [e]
        by_cases z : numOk (ix q.Roots.l (j : Int))
        · rw [if_pos (hr.2 z)]
          simp [z]
        · rw [if_neg (fun x => z (hr.1 x))]
          simp [z]
    have hQ : QueueOk q ↔ ∀ i, i < 12 → rootOk c q.Roots.l i := by
      unfold QueueOk
      rw [hc, Int.toNat_natCast, ← hc]
      exact ⟨fun x => x.2.2, fun x => ⟨hh.1, hh.2, x⟩⟩
    have h0 : (q.Count, (0 : Int)) = (((c / 2 ^ 0 : Nat) : Int), ((0 : Nat) : Int)) := by rw [hc]; simp
    by_cases hall : ∀ i, i < 12 → rootOk c q.Roots.l i
    · have : loopM (rickyardref11_Right.s0 fu q) fu (q.Count, 0) = some (.inr ()) := by
        refine loopM_run (S := fun j => (((c / 2 ^ j : Nat) : Int), (j : Int))) 12 h0.symm (fun j hj => by rw [hst j hj, if_pos (hall j hj)]) ?_ (by omega)
        unfold rickyardref11_Right.s0
        simp
      rw [this, decide_eq_true (hQ.2 hall)]
      rfl
    · have : loopM (rickyardref11_Right.s0 fu q) fu (q.Count, 0) = some (.inl false) := by
        refine loopM_bad (S := fun j => (((c / 2 ^ j : Nat) : Int), (j : Int))) 12 (fun j => rootOk c q.Roots.l j) h0.symm ?_ (fun j hj _ hg => by rw [hst j hj, if_pos hg]) (fun j hj _ hg => by rw [hst j hj, if_neg hg]) (by omega)
        apply Classical.byContradiction
        intro hx
        exact hall fun i hi => Classical.byContradiction fun hg => hx ⟨i, hi, hg⟩
      rw [this, decide_eq_false (fun x => hall (hQ.1 x))]
      rfl
  · rw [if_neg hh, decide_eq_false (fun x : QueueOk q => hh ⟨x.1, x.2.1⟩)]
theorem octs_bytes (s : List UInt8) : Bytes (s.map ofB) := by
  intro x hx
  obtain ⟨b, _, rfl⟩ := List.mem_map.1 hx
  have := b.toNat_lt
  unfold ofB
  omega
theorem octs_back (s : List UInt8) : (s.map ofB).map toB = s := by
  rw [List.map_map]
  have : ∀ b ∈ s, (toB ∘ ofB) b = b := by
    intro b _
    show UInt8.ofNat (Int.toNat ((b.toNat : Nat) : Int)) = b
    rw [Int.toNat_natCast]
    exact UInt8.ofNat_toNat
  rw [List.map_congr_left this, List.map_id']
def queueE (q : S_api_Queue) : List Int := (lay (u64n q.Count) 4 ++ rowE q.Roots.l 12) ++ q.Name.map ofB
theorem queueE_len (q : S_api_Queue) : (queueE q).length = 28 + q.Name.length := by
  simp [queueE, lay_len, rowE_len]
  omega
theorem queueE_bytes (q : S_api_Queue) : Bytes (queueE q) := ((lay_bytes _ _).app (rowE_bytes _ _)).app (octs_bytes _)
theorem QueueOk.len {q : S_api_Queue} (h : QueueOk q) (hs : q.Name.length ≤ 300) : q.Name.length ≤ 24 := NameOk.len h.1 hs
theorem rqueuePut_eq {fu : Nat} (hfu : 400 ≤ fu) {q : S_api_Queue} (hl : q.Name.length ≤ 28) : rickyardref11_Put.f fu q = some ((sealed (summed 5 (q.Name.length : Int) (queueE q))).map toB) := by
  unfold rickyardref11_Put.f
  have hlay0 : rickyardref01_Lay.f fu (IntKind.u64.wrap q.Count) 4 = some ((lay (u64n q.Count) 4).map toB) := rlay64 (n := 4) (by first | decide | omega) (by omega)
  have hloop : loopM (rickyardref11_Put.s0 fu q) fu ((lay (u64n q.Count) 4).map toB, 0) = some ((lay (u64n q.Count) 4 ++ rowE q.Roots.l 12).map toB) := by
    refine loopM_run (S := fun j => ((lay (u64n q.Count) 4 ++ rowE q.Roots.l j).map toB, (j : Int))) 12 (by simp [rowE]) ?_ ?_ (by omega)
    · intro j hj
      unfold rickyardref11_Put.s0
      have h1 : (j : Int) < 12 := by omega
      have c1 : 0 ≤ (j : Int) ∧ (j : Int) < 12 := by omega
      have w3 : IntKind.i64.wrap ((j : Int) + 1) = ((j + 1 : Nat) : Int) := by rw [w64 (by omega) (by omega)]; omega
      have hlay : rickyardref01_Lay.f fu (IntKind.u64.wrap (ix q.Roots.l (j : Int))) 2 = some ((lay (u64n (ix q.Roots.l (j : Int))) 2).map toB) := rlay64 (n := 2) (by first | decide | omega) (by omega)
      have hlim : ((lay (u64n q.Count) 4 ++ rowE q.Roots.l j).map toB).length + ((lay (u64n (ix q.Roots.l (j : Int))) 2).map toB).length ≤ LIM := lim_of' (by rw [List.length_map, List.length_map, List.length_append, rowE_len, lay_len, lay_len]; omega)
      have c0 : 0 ≤ (j : Int) := c1.1
      simp only [h1, c0, and_self, decide_true, if_true, w3, getIx, hlay, Option.bind_some, if_pos hlim]
      rw [← List.map_append, rowE, rowE, flat_succ, List.append_assoc]
    · unfold rickyardref11_Put.s0
      simp
  have hlim : ((lay (u64n q.Count) 4 ++ rowE q.Roots.l 12).map toB).length + q.Name.length ≤ LIM := lim_of' (by rw [List.length_map, List.length_append, rowE_len, lay_len]; omega)
  have hq := rseal_eq (fu := fu) (k := 5) (t := (q.Name.length : Int)) (queueE_bytes q) (by omega) (by omega) (by rw [queueE_len]; omega) (by first | decide | omega)
  have e : (lay (u64n q.Count) 4 ++ rowE q.Roots.l 12).map toB ++ q.Name = (queueE q).map toB := by
    unfold queueE
    rw [List.map_append (l₁ := lay (u64n q.Count) 4 ++ rowE q.Roots.l 12), octs_back]
  simp only [hlay0, Option.bind_some, hloop, if_pos hlim, e, hq]
def rootsOf (body : List Int) : Arr 12 Int := fillA (fun i => intAt body (4 + 2 * i) 2) (Arr.rep 12 (0 : Int)) 12
def queueOf (body : List Int) (t : Nat) : S_api_Queue := ⟨(part body 28 t).map toB, intAt body 0 4, rootsOf body⟩
theorem rootsOf_l (body : List Int) : (rootsOf body).l = (List.range 12).map fun i => intAt body (4 + 2 * i) 2 := fillA_all _ _
theorem queueE_of {body : List Int} (hb : Bytes body) {t : Nat} (h : 28 + t ≤ body.length) : queueE (queueOf body t) = body.take (28 + t) := by
  unfold queueE queueOf
  have e1 : lay (u64n (intAt body 0 4)) 4 = part body 0 4 := lay_part hb (by omega) (by first | decide | omega)
  have e2 : rowE (rootsOf body).l 12 = part body 4 24 := by
    have : part body 4 24 = (List.range 12).flatMap (fieldAt (body.drop 4) 2) := (field_flat (w := 2) 12 (by rw [List.length_drop]; omega)).symm
    rw [this]
    apply flat_congr
    intro i hi
    rw [rootsOf_l, ix_map hi]
    have := lay_part (l := body) (i := 4 + 2 * i) (n := 2) hb (by omega) (by first | decide | omega)
    rw [this]
    unfold part fieldAt
    rw [List.drop_drop]
  have e3 : ((part body 28 t).map toB).map ofB = part body 28 t := of_toB (part_bytes hb 28 t)
  rw [e1, e2, e3]
  unfold part
  rw [List.drop_zero, ← List.take_add, ← List.take_add]
def noQ : S_api_Queue := ⟨[], 0, Arr.rep 12 (0 : Int)⟩
def GetQ (b : List Int) : Prop := Is b ∧ ix b 4 = 5 ∧ ix b 5 ≤ 24 ∧ QueueOk (queueOf (b.drop 8) (ix b 5).toNat) ∧ ∀ y ∈ (b.drop 8).drop (28 + (ix b 5).toNat), y = 0
instance (b : List Int) : Decidable (GetQ b) := inferInstanceAs (Decidable (_ ∧ _))
theorem queueGet_eq {fu : Nat} (hfu : 400 ≤ fu) {b : List Int} (hb : Bytes b) (hl : b.length ≤ 9000000000000000000) : label_GetQueue.f fu b = some (if GetQ b then (queueOf (b.drop 8) (ix b 5).toNat, true) else (noQ, false)) := by
  unfold label_GetQueue.f
  rw [open_eq hb hl (by first | decide | omega)]
  by_cases hi : Is b
  · have h8 := is_body hi
    obtain ⟨b4, b5⟩ := is_tag hb hi
    rw [if_pos hi]
    simp only [Option.bind_some, Bool.not_true, Bool.false_eq_true, if_false]
    by_cases h4 : ix b 4 = 5
    · by_cases h5 : ix b 5 ≤ 24
      · have h5' : ¬ ix b 5 > 24 := by omega
        obtain ⟨t, ht⟩ : ∃ t : Nat, ix b 5 = (t : Int) := ⟨(ix b 5).toNat, by omega⟩
        have hbd := hb.drop 8
        obtain ⟨body, hbody⟩ : ∃ body, body = b.drop 8 := ⟨_, rfl⟩
        rw [← hbody] at h8 hbd
        have hloop : loopM (label_GetQueue.s0 fu (ix b 4, ix b 5, body, true)) fu (0, ⟨(part body 28 t).map toB, intAt body 0 4, Arr.rep 12 (0 : Int)⟩) = some (queueOf body t) := by
          refine loopM_run (S := fun j => ((j : Int), (⟨(part body 28 t).map toB, intAt body 0 4, fillA (fun i => intAt body (4 + 2 * i) 2) (Arr.rep 12 (0 : Int)) j⟩ : S_api_Queue))) 12 rfl ?_ ?_ (by omega)
          · intro j hj
            unfold label_GetQueue.s0
            have h1 : (j : Int) < 12 := by omega
            have cj : 0 ≤ (j : Int) ∧ (j : Int) < 12 := by omega
            have w3 : IntKind.i64.wrap ((j : Int) + 1) = ((j + 1 : Nat) : Int) := by rw [w64 (by omega) (by omega)]; omega
            have w4 : IntKind.i64.wrap (4 + IntKind.i64.wrap (2 * (j : Int))) = ((4 + 2 * j : Nat) : Int) := by rw [w64 (n := 2 * (j : Int)) (by omega) (by omega), w64 (by omega) (by omega)]; omega
            have w5 : IntKind.i64.wrap (((4 + 2 * j : Nat) : Int) + 2) = ((4 + 2 * j + 2 : Nat) : Int) := by rw [w64 (by omega) (by omega)]; omega
            have hpl := part_len (l := body) (i := 4 + 2 * j) (n := 2) (by omega)
            have hr : octet_Read.f fu (cut body ((4 + 2 * j : Nat) : Int) ((4 + 2 * j + 2 : Nat) : Int)) = some ((num (part body (4 + 2 * j) 2) : Nat) : Int) := by
              have := read_eq (fu := fu) (part_bytes hbd (4 + 2 * j) 2) (by omega) (by omega)
              rw [cut_eq]
              exact this
            have c1 : (0 : Int) ≤ ((4 + 2 * j : Nat) : Int) ∧ ((4 + 2 * j : Nat) : Int) ≤ ((4 + 2 * j + 2 : Nat) : Int) ∧ ((4 + 2 * j + 2 : Nat) : Int) ≤ (body.length : Int) := by omega
            simp only [h1, decide_true, if_true, w3, w4, w5, if_pos c1, hr, Option.bind_some, if_pos cj]
            rfl
          · unfold label_GetQueue.s0
            simp [queueOf, rootsOf]
        have w1 : IntKind.i64.wrap (28 + (t : Int)) = ((28 + t : Nat) : Int) := by rw [w64 (by omega) (by omega)]; omega
        have w6 : IntKind.i64.wrap (IntKind.i64.wrap ((body.length : Int) - 28) - (t : Int)) = ((56 - (28 + t) : Nat) : Int) := by rw [w64 (n := (body.length : Int) - 28) (by omega) (by omega), w64 (by omega) (by omega)]; omega
        have hn := noughts_eq (fu := fu) (b := body) (i := 28 + t) (n := 56 - (28 + t)) (by omega) (by omega) (by omega)
        have e8 : (body.drop (28 + t)).take (56 - (28 + t)) = body.drop (28 + t) := List.take_of_length_le (by rw [List.length_drop, h8]; omega)
        rw [e8] at hn
        have hr0 : octet_Read.f fu (cut body 0 4) = some ((num (part body 0 4) : Nat) : Int) := by
          have : cut body 0 4 = part body 0 4 := cut_eq body 0 4
          rw [this]
          have hpl := part_len (l := body) (i := 0) (n := 4) (by omega)
          exact read_eq (fu := fu) (part_bytes hbd 0 4) (by omega) (by omega)
        have en : cut body 28 ((28 + t : Nat) : Int) = part body 28 t := cut_eq body 28 t
        have c2 : (0 : Int) ≤ 28 ∧ (28 : Int) ≤ ((28 + t : Nat) : Int) ∧ ((28 + t : Nat) : Int) ≤ (body.length : Int) := by omega
        have c3 : (4 : Int) ≤ (body.length : Int) := by omega
        have hqn : (queueOf body t).Name.length ≤ 300 := by
          show ((part body 28 t).map toB).length ≤ 300
          rw [List.length_map, part_len (by omega)]
          omega
        rw [← hbody]
        have hie : IntKind.i64.wrap ((num (part body 0 4) : Nat) : Int) = intAt body 0 4 := rfl
        simp only [h4, h5', decide_true, decide_false, Bool.not_true, Bool.false_eq_true, if_false] at hloop ⊢
        simp only [ht, w1, w6, hn, Option.bind_some] at hloop ⊢
        have hgi : GetQ b ↔ (QueueOk (queueOf body t) ∧ ∀ y ∈ body.drop (28 + t), y = 0) := by
          unfold GetQ
          rw [ht, ← hbody, Int.toNat_natCast]
          exact ⟨fun x => x.2.2.2, fun x => ⟨hi, h4, by omega, x⟩⟩
        rw [Int.toNat_natCast]
        by_cases hz : ∀ y ∈ body.drop (28 + t), y = 0
        · rw [decide_eq_true hz]
          simp only [Bool.not_true, Bool.false_eq_true, if_false]
          rw [if_pos c2, if_pos c3, hr0, Option.bind_some, en, hie, hloop, Option.bind_some, queueRight_eq hfu hqn]
          by_cases hr : QueueOk (queueOf body t)
          · rw [if_pos (hgi.2 ⟨hr, hz⟩), decide_eq_true hr]
            rfl
          · rw [if_neg (fun x => hr (hgi.1 x).1), decide_eq_false hr]
            rfl
        · rw [decide_eq_false hz, if_neg (fun x => hz (hgi.1 x).2)]
          rfl
      · have h5' : ix b 5 > 24 := by omega
        have hg : ¬ GetQ b := fun x => h5 x.2.2.1
        rw [if_neg hg, decide_eq_true h4, decide_eq_true h5']
        rfl
    · have hg : ¬ GetQ b := fun x => h4 x.2.1
      rw [if_neg hg, decide_eq_false h4]
      rfl
  · have hg : ¬ GetQ b := fun x => hi x.1
    rw [if_neg hi, if_neg hg]
    rfl
theorem rqueueGet_eq {fu : Nat} (hfu : 400 ≤ fu) {b : List Int} (hb : Bytes b) : rickyardref11_Get.f fu b = some (if GetQ b then (queueOf (b.drop 8) (ix b 5).toNat, true) else (noQ, false)) := by
  unfold rickyardref11_Get.f
  rw [ropen_eq hb (by first | decide | omega)]
  by_cases hi : Is b
  · have h8 := is_body hi
    obtain ⟨b4, b5⟩ := is_tag hb hi
    rw [if_pos hi]
    simp only [Option.bind_some, Bool.not_true, Bool.false_eq_true, if_false]
    by_cases h4 : ix b 4 = 5
    · by_cases h5 : ix b 5 ≤ 28
      · have h5' : ¬ ix b 5 > 28 := by omega
        obtain ⟨t, ht⟩ : ∃ t : Nat, ix b 5 = (t : Int) := ⟨(ix b 5).toNat, by omega⟩
        have hbd := hb.drop 8
        obtain ⟨body, hbody⟩ : ∃ body, body = b.drop 8 := ⟨_, rfl⟩
        have hq0 : ∀ {k tg : Int} {bd : List Int}, (0 ≤ k ∧ k ≤ 255) → (0 ≤ tg ∧ tg ≤ 255) → Bytes bd → bd.length ≤ 56 → ((sealed (summed k tg bd)).map toB = b.map toB ↔ k = ix b 4 ∧ tg = ix b 5 ∧ bd ++ List.replicate (56 - bd.length) 0 = b.drop 8) := fun h1 h2 h3 h4 => sealed_map_iff hb hi h1 h2 h3 h4
        rw [← hbody] at h8 hbd
        have hloop : loopM (rickyardref11_Get.s0 fu (ix b 4, ix b 5, body.map toB, true)) fu (0, ⟨(part body 28 t).map toB, intAt body 0 4, Arr.rep 12 (0 : Int)⟩) = some (queueOf body t) := by
          refine loopM_run (S := fun j => ((j : Int), (⟨(part body 28 t).map toB, intAt body 0 4, fillA (fun i => intAt body (4 + 2 * i) 2) (Arr.rep 12 (0 : Int)) j⟩ : S_api_Queue))) 12 rfl ?_ ?_ (by omega)
          · intro j hj
            unfold rickyardref11_Get.s0
            have h1 : (j : Int) < 12 := by omega
            have cj : 0 ≤ (j : Int) ∧ (j : Int) < 12 := by omega
            have w3 : IntKind.i64.wrap ((j : Int) + 1) = ((j + 1 : Nat) : Int) := by rw [w64 (by omega) (by omega)]; omega
            have w4 : IntKind.i64.wrap (4 + IntKind.i64.wrap (2 * (j : Int))) = ((4 + 2 * j : Nat) : Int) := by rw [w64 (n := 2 * (j : Int)) (by omega) (by omega), w64 (by omega) (by omega)]; omega
            have w5 : IntKind.i64.wrap (6 + IntKind.i64.wrap (2 * (j : Int))) = ((4 + 2 * j + 2 : Nat) : Int) := by rw [w64 (n := 2 * (j : Int)) (by omega) (by omega), w64 (by omega) (by omega)]; omega
            have hr := rintAt_eq (fu := fu) (b := body) (i := 4 + 2 * j) (n := 2) hbd (by omega) (by first | decide | omega) (by first | decide | omega)
            have c1 : (0 : Int) ≤ ((4 + 2 * j : Nat) : Int) ∧ ((4 + 2 * j : Nat) : Int) ≤ ((4 + 2 * j + 2 : Nat) : Int) ∧ ((4 + 2 * j + 2 : Nat) : Int) ≤ ((body.map toB).length : Int) := by rw [List.length_map]; omega
            simp only [h1, decide_true, if_true, w3, w4, w5, if_pos c1, hr, Option.bind_some, if_pos cj]
            rfl
          · unfold rickyardref11_Get.s0
            simp [queueOf, rootsOf]
        have w1 : IntKind.i64.wrap (28 + (t : Int)) = ((28 + t : Nat) : Int) := by rw [w64 (by omega) (by omega)]; omega
        have hr0 : rickyardref01_Int.f fu (cut (body.map toB) 0 4) = some (intAt body 0 4) := rintAt_eq (fu := fu) (b := body) (i := 0) (n := 4) hbd (by omega) (by first | decide | omega) (by first | decide | omega)
        have en : cut (body.map toB) 28 ((28 + t : Nat) : Int) = (part body 28 t).map toB := by
          unfold cut part
          rw [Int.toNat_natCast, show (28 : Int).toNat = 28 from rfl, ← List.map_take, ← List.map_drop, List.drop_take, Nat.add_sub_cancel_left]
        have c2 : (0 : Int) ≤ 28 ∧ (28 : Int) ≤ ((28 + t : Nat) : Int) ∧ ((28 + t : Nat) : Int) ≤ ((body.map toB).length : Int) := by rw [List.length_map]; omega
        have c3 : (4 : Int) ≤ ((body.map toB).length : Int) := by rw [List.length_map]; omega
        have hqn : (queueOf body t).Name.length = t := by
          show ((part body 28 t).map toB).length = t
          rw [List.length_map, part_len (by omega)]
        rw [← hbody]
        simp only [h4, h5', decide_true, decide_false, Bool.not_true, Bool.false_eq_true, if_false] at hloop ⊢
        simp only [ht, w1, Option.bind_some] at hloop ⊢
        rw [if_pos c3, hr0, Option.bind_some, if_pos c2, en, hloop, Option.bind_some, rqueueRight_eq hfu (by omega)]
        rw [Int.toNat_natCast]
        by_cases hr : QueueOk (queueOf body t)
        · have h24 := hr.len (by omega)
          have hgi : GetQ b ↔ ∀ y ∈ body.drop (28 + t), y = 0 := by
            unfold GetQ
            rw [ht, ← hbody, Int.toNat_natCast]
            exact ⟨fun x => x.2.2.2.2, fun x => ⟨hi, h4, by omega, hr, x⟩⟩
          have hq := hq0 (k := 5) (tg := (t : Int)) (bd := queueE (queueOf body t)) (by omega) (by omega) (queueE_bytes _) (by rw [queueE_len]; omega)
          have hfl := full_iff (body := queueE (queueOf body t)) (full := body) (by rw [queueE_len]; omega) h8
          rw [← hbody] at hq
          rw [queueE_len, hqn, queueE_of hbd (show 28 + t ≤ body.length by omega)] at hfl
          rw [queueE_len, hqn, queueE_of hbd (show 28 + t ≤ body.length by omega)] at hq
          rw [decide_eq_true hr, rqueuePut_eq hfu (by omega), hqn, queueE_of hbd (show 28 + t ≤ body.length by omega)]
          by_cases hz : ∀ y ∈ body.drop (28 + t), y = 0
          · rw [if_pos (hgi.2 hz)]
            simp only [Option.bind_some]
            rw [decide_eq_true (hq.2 ⟨h4.symm, ht.symm, hfl.2 ⟨rfl, hz⟩⟩)]
            rfl
          · rw [if_neg (fun x => hz (hgi.1 x))]
            simp only [Option.bind_some]
            rw [decide_eq_false (fun x => hz (hfl.1 (hq.1 x).2.2).2)]
            rfl
        · have hg : ¬ GetQ b := fun x => by
            have := x.2.2.2.1
            rw [ht, ← hbody, Int.toNat_natCast] at this
            exact hr this
          rw [decide_eq_false hr, if_neg hg]
          rfl
      · have h5' : ix b 5 > 28 := by omega
        have hg : ¬ GetQ b := fun x => by have := x.2.2.1; omega
        rw [if_neg hg, decide_eq_true h4, decide_eq_true h5']
        rfl
    · have hg : ¬ GetQ b := fun x => h4 x.2.1
      rw [if_neg hg, decide_eq_false h4]
      rfl
  · have hg : ¬ GetQ b := fun x => hi x.1
    rw [if_neg hi, if_neg hg]
    rfl
def cmpL : List Int → List Int → Int
  | [], [] => 0
  | [], _ :: _ => -1
  | _ :: _, [] => 1
  | a :: l, b :: m => if a < b then -1 else if b < a then 1 else cmpL l m
theorem cmpL_self : ∀ l, cmpL l l = 0
  | [] => rfl
  | a :: l => by unfold cmpL; rw [if_neg (by omega), if_neg (by omega)]; exact cmpL_self l
theorem cmpL_zero : ∀ {l m}, cmpL l m = 0 → l = m
  | [], [], _ => rfl
  | [], _ :: _, h => by simp [cmpL] at h
  | _ :: _, [], h => by simp [cmpL] at h
  | a :: l, b :: m, h => by
    unfold cmpL at h
    split at h
    · simp at h
    · split at h
      · simp at h
      · rw [cmpL_zero h, show a = b by omega]
theorem cmpL_trans : ∀ {l m k}, cmpL l m < 0 → cmpL m k < 0 → cmpL l k < 0
  | [], [], _, h, _ => by simp [cmpL] at h
  | [], _ :: _, [], _, h => by simp [cmpL] at h
  | [], _ :: _, _ :: _, _, _ => by simp [cmpL]
  | _ :: _, [], _, h, _ => by simp [cmpL] at h
  | _ :: _, _ :: _, [], _, h => by simp [cmpL] at h
  | a :: l, b :: m, c :: k, h, h' => by
    unfold cmpL at h h' ⊢
    by_cases h1 : a < b
    · by_cases h2 : c < b
      · rw [if_neg (by omega), if_pos h2] at h'
        exact absurd h' (by decide)
      · rw [if_pos (by omega)]
        decide
    · rw [if_neg h1] at h
      by_cases h2 : b < a
      · rw [if_pos h2] at h
        exact absurd h (by decide)
      · rw [if_neg h2] at h
        by_cases h3 : b < c
        · rw [if_pos (by omega)]
          decide
        · rw [if_neg h3] at h'
          by_cases h4 : c < b
          · rw [if_pos h4] at h'
            exact absurd h' (by decide)
          · rw [if_neg h4] at h'
            rw [if_neg (by omega), if_neg (by omega)]
            exact cmpL_trans h h'
theorem cmpC_eq (fu : Nat) (a b : Int) : cmp_Compare.f fu a b = some (if a < b then -1 else if b < a then 1 else 0) := by
  unfold cmp_Compare.f cmp_isNaN.f
  simp only [Option.bind_some, decide_eq_true_eq, Bool.not_eq_true', decide_eq_false_iff_not]
  by_cases h1 : a < b
  · simp [h1]
  · by_cases h2 : b < a
    · simp [h1, h2]
    · simp [h1, h2]
theorem scmp_from {fu : Nat} {l m : List Int} (hl : l.length ≤ 900) (hm : m.length ≤ 900) : ∀ (k i : Nat), i ≤ l.length → i ≤ m.length → l.length - i < k →
    (loopM (slices_Compare.s0 fu l m) k (i : Int)).bind (fun e2 => match e2 with | Sum.inl p => some p | Sum.inr x4 => (if (decide ((List.length l : Int) < (List.length m : Int))) = true then some ((-1)) else some (0))) = some (cmpL (l.drop i) (m.drop i))
  | 0, i, _, _, h => by omega
  | k + 1, i, h1, h2, h3 => by
    have hu : loopM (slices_Compare.s0 fu l m) (k + 1) (i : Int) = (match slices_Compare.s0 fu l m (i : Int) with | none => none | some (.inl e) => some e | some (.inr s') => loopM (slices_Compare.s0 fu l m) k s') := by
      conv => lhs; unfold loopM
      generalize slices_Compare.s0 fu l m (i : Int) = q
      rcases q with _ | _ | _ <;> rfl
    rw [hu]
    by_cases e1 : i < l.length
    · have c0 : (i : Int) < (l.length : Int) := by omega
      have c1 : 0 ≤ (i : Int) ∧ (i : Int) < (l.length : Int) := by omega
      rw [List.drop_eq_getElem_cons e1]
      by_cases e2 : i < m.length
      · have c2 : ¬ ((i : Int) ≥ (m.length : Int)) := by omega
        have c3 : 0 ≤ (i : Int) ∧ (i : Int) < (m.length : Int) := by omega
        have w3 : IntKind.i64.wrap ((i : Int) + 1) = ((i + 1 : Nat) : Int) := by rw [w64 (by omega) (by omega)]; omega
        have hst : slices_Compare.s0 fu l m (i : Int) = if l[i] < m[i] then some (.inl (.inl (-1))) else if m[i] < l[i] then some (.inl (.inl 1)) else some (.inr ((i + 1 : Nat) : Int)) := by
          unfold slices_Compare.s0
          rw [decide_eq_true c0, if_pos rfl, if_pos c1, decide_eq_false c2, if_neg (by decide), if_pos c3, cmpC_eq, Option.bind_some, ix_nat e1, ix_nat e2, w3]
          by_cases q1 : l[i] < m[i]
          · rw [if_pos q1, if_pos q1]
            rfl
          · rw [if_neg q1, if_neg q1]
            by_cases q2 : m[i] < l[i]
            · rw [if_pos q2, if_pos q2]
              rfl
            · rw [if_neg q2, if_neg q2]
              rfl
        rw [hst, List.drop_eq_getElem_cons e2]
        conv => rhs; unfold cmpL
        by_cases q1 : l[i] < m[i]
        · rw [if_pos q1, if_pos q1]
          rfl
        · rw [if_neg q1, if_neg q1]
          by_cases q2 : m[i] < l[i]
          · rw [if_pos q2, if_pos q2]
            rfl
          · rw [if_neg q2, if_neg q2]
            exact scmp_from hl hm k (i + 1) (by omega) (by omega) (by omega)
      · have c2 : (i : Int) ≥ (m.length : Int) := by omega
        have hst : slices_Compare.s0 fu l m (i : Int) = some (.inl (.inl 1)) := by
          unfold slices_Compare.s0
          rw [decide_eq_true c0, if_pos rfl, if_pos c1, decide_eq_true c2, if_pos rfl]
        rw [hst, List.drop_of_length_le (show m.length ≤ i by omega)]
        rfl
    · have c0 : ¬ ((i : Int) < (l.length : Int)) := by omega
      have hst : slices_Compare.s0 fu l m (i : Int) = some (.inl (.inr ())) := by
        unfold slices_Compare.s0
        rw [decide_eq_false c0, if_neg (by decide)]
      rw [hst, List.drop_of_length_le (show l.length ≤ i by omega)]
      simp only [Option.bind_some]
      by_cases e2 : i < m.length
      · rw [decide_eq_true (show (l.length : Int) < (m.length : Int) by omega), if_pos rfl, List.drop_eq_getElem_cons e2]
        rfl
      · rw [decide_eq_false (show ¬ (l.length : Int) < (m.length : Int) by omega), if_neg (by decide), List.drop_of_length_le (show m.length ≤ i by omega)]
        rfl
theorem runes_from {fu : Nat} {s : List UInt8} : ∀ (k i : Nat) (out : List Int), i ≤ s.length → (s.drop i).length ≤ k → out.length + (s.drop i).length ≤ 900 → ∃ i' : Int, loopM (name_Runes.s0 fu s) (k + 1) (out, (i : Int)) = some (out ++ rs k (s.drop i), i')
  | 0, i, out, hi, hk, _ => by
    have hil : i = s.length := by rw [List.length_drop] at hk; omega
    subst hil
    refine ⟨(s.length : Int), ?_⟩
    simp [loopM, name_Runes.s0, rs]
  | k + 1, i, out, hi, hk, ho => by
    by_cases hil : i = s.length
    · subst hil
      refine ⟨(s.length : Int), ?_⟩
      simp [loopM, name_Runes.s0, rs]
    · have hlt : i < s.length := by omega
      have hm : s.drop i ≠ [] := fun e => by
        have := congrArg List.length e
        rw [List.length_drop] at this
        simp at this
        omega
      have hp := List.length_pos_iff.2 hm
      obtain ⟨h1, h2⟩ := first_wide hp
      rw [List.length_drop] at h2 hk ho
      obtain ⟨e1, e2⟩ := rune_first s i
      have hrs : rs (k + 1) (s.drop i) = ((first (s.drop i)).1 : Int) :: rs k (s.drop (i + (first (s.drop i)).2)) := by
        conv => lhs; unfold rs
        rw [if_neg hm, List.drop_drop]
      have c0 : (i : Int) < (s.length : Int) := by omega
      have hlim : out.length + ([((first (s.drop i)).1 : Int)] : List Int).length ≤ LIM := lim_of' (by simp; omega)
      have hst : name_Runes.s0 fu s (out, (i : Int)) = some (.inr (out ++ [((first (s.drop i)).1 : Int)], ((i + (first (s.drop i)).2 : Nat) : Int))) := by
        unfold name_Runes.s0
        have e3 : (i : Int) + ((first (s.drop i)).2 : Int) = ((i + (first (s.drop i)).2 : Nat) : Int) := by omega
        simp only [c0, decide_true, if_true, e1, e2, e3, if_pos hlim]
      have hu : loopM (name_Runes.s0 fu s) (k + 1 + 1) (out, (i : Int)) = loopM (name_Runes.s0 fu s) (k + 1) (out ++ [((first (s.drop i)).1 : Int)], ((i + (first (s.drop i)).2 : Nat) : Int)) := by
        conv => lhs; unfold loopM
        rw [hst]
      obtain ⟨i', ih⟩ := runes_from (fu := fu) (s := s) k (i + (first (s.drop i)).2) (out ++ [((first (s.drop i)).1 : Int)]) (by omega) (by rw [List.length_drop]; omega) (by rw [List.length_append, List.length_drop]; simp; omega)
      refine ⟨i', ?_⟩
      rw [hu, ih, hrs]
      simp
def rn (s : List UInt8) : List Int := rs 399 s
theorem rn_len {s : List UInt8} (h : s.length ≤ 300) : (rn s).length ≤ 300 := Nat.le_trans (rs_len _ _) h
theorem runes_eq {fu : Nat} (hfu : 400 ≤ fu) {s : List UInt8} (hs : s.length ≤ 300) : name_Runes.f fu s = some (rn s) := by
  unfold name_Runes.f
  obtain ⟨k, hk⟩ : ∃ k, fu = k + 1 := ⟨fu - 1, by omega⟩
  obtain ⟨i', h⟩ := runes_from (fu := fu) (s := s) k 0 [] (by omega) (by rw [List.drop_zero]; omega) (by rw [List.drop_zero]; simp; omega)
  rw [List.drop_zero, rs_stable k 399 s (by omega) (by omega)] at h
  have h' : loopM (name_Runes.s0 fu s) fu (([] : List Int), 0) = some ([] ++ rs 399 s, i') := by
    conv => lhs; arg 2; rw [hk]
    exact h
  rw [h']
  rfl
theorem compare_eq {fu : Nat} (hfu : 1000 ≤ fu) {s t : List UInt8} (hs : s.length ≤ 300) (ht : t.length ≤ 300) : name_Compare.f fu s t = some (cmpL (rn s) (rn t)) := by
  unfold name_Compare.f
  have h1 := rn_len hs
  have h2 := rn_len ht
  rw [runes_eq (by omega) hs, Option.bind_some, runes_eq (by omega) ht, Option.bind_some]
  unfold slices_Compare.f
  have := scmp_from (fu := fu) (l := rn s) (m := rn t) (by omega) (by omega) fu 0 (by omega) (by omega) (by omega)
  rw [List.drop_zero, List.drop_zero] at this
  have e : ((0 : Nat) : Int) = 0 := rfl
  rw [e] at this
  exact congrArg (fun o => Option.bind o fun t5 => some t5) this
def u8 (n : Nat) : UInt8 := UInt8.ofNat n
def enc (r : Nat) : List UInt8 := if r < 128 then [u8 r] else if r < 2048 then [u8 (192 + r / 64), u8 (128 + r % 64)] else [u8 (224 + r / 4096), u8 (128 + r / 64 % 64), u8 (128 + r % 64)]
theorem oct_get {m : List UInt8} {k : Nat} (h : k < m.length) : m[k] = u8 (oct m k) := by
  unfold oct u8
  rw [List.getD_eq_getElem?_getD, List.getElem?_eq_getElem h, Option.getD_some, UInt8.ofNat_toNat]
theorem enc_first {m : List UInt8} (hm : 0 < m.length) (h : runeOk ((first m).1 : Int)) : m = enc (first m).1 ++ m.drop (first m).2 := by
  have h0 := oct_get (m := m) (k := 0)
  have h1 := oct_get (m := m) (k := 1)
  have h2 := oct_get (m := m) (k := 2)
  have b0 := oct_lt m 0
  have b1 := oct_lt m 1
  have b2 := oct_lt m 2
  have b3 := oct_lt m 3
  have d1 : m = m[0] :: m.drop 1 := by
    conv => lhs; rw [← List.drop_zero (l := m), List.drop_eq_getElem_cons hm]
  unfold first at h ⊢
  generalize oct m 0 = c0 at *
  generalize oct m 1 = c1 at *
  generalize oct m 2 = c2 at *
  generalize oct m 3 = c3 at *
  unfold runeOk at h
  unfold fst4 at h ⊢
  by_cases q0 : c0 < 128
  · rw [if_pos q0] at h ⊢
    unfold enc
    rw [if_pos q0]
    rw [h0 hm] at d1
    exact d1
  · rw [if_neg q0] at h ⊢
    by_cases q2 : (194 ≤ c0 ∧ c0 ≤ 223) ∧ (1 < m.length ∧ 128 ≤ c1 ∧ c1 ≤ 191)
    · rw [if_pos q2] at h ⊢
      obtain ⟨⟨a1, a2⟩, hl, a3, a4⟩ := q2
      have d2 : m.drop 1 = m[1] :: m.drop 2 := List.drop_eq_getElem_cons hl
      rw [d2, h0 hm, h1 hl] at d1
      have e : enc ((c0 - 192) * 64 + (c1 - 128)) = [u8 c0, u8 c1] := by
        unfold enc
        rw [if_neg (by omega), if_pos (by omega), show 192 + ((c0 - 192) * 64 + (c1 - 128)) / 64 = c0 by omega, show 128 + ((c0 - 192) * 64 + (c1 - 128)) % 64 = c1 by omega]
      simp only
      rw [e]
      exact d1
    · rw [if_neg q2] at h ⊢
      by_cases q3 : (224 ≤ c0 ∧ c0 ≤ 239) ∧ (1 < m.length ∧ (if c0 = 224 then 160 else 128) ≤ c1 ∧ c1 ≤ (if c0 = 237 then 159 else 191)) ∧ (2 < m.length ∧ 128 ≤ c2 ∧ c2 ≤ 191)
      · rw [if_pos q3] at h ⊢
        obtain ⟨⟨a1, a2⟩, ⟨hl, a3, a4⟩, hl2, a5, a6⟩ := q3
        have d2 : m.drop 1 = m[1] :: m.drop 2 := List.drop_eq_getElem_cons hl
        have d3 : m.drop 2 = m[2] :: m.drop 3 := List.drop_eq_getElem_cons hl2
        rw [d2, d3, h0 hm, h1 hl, h2 hl2] at d1
        have x1 : 128 ≤ c1 := by split at a3 <;> omega
        have x2 : c1 ≤ 191 := by split at a4 <;> omega
        have x3 : c0 = 224 → 160 ≤ c1 := fun e => by rw [if_pos e] at a3; exact a3
        have e : enc ((c0 - 224) * 4096 + (c1 - 128) * 64 + (c2 - 128)) = [u8 c0, u8 c1, u8 c2] := by
          unfold enc
          rw [if_neg (by omega), if_neg (by omega), show 224 + ((c0 - 224) * 4096 + (c1 - 128) * 64 + (c2 - 128)) / 4096 = c0 by omega, show 128 + ((c0 - 224) * 4096 + (c1 - 128) * 64 + (c2 - 128)) / 64 % 64 = c1 by omega, show 128 + ((c0 - 224) * 4096 + (c1 - 128) * 64 + (c2 - 128)) % 64 = c2 by omega]
        simp only
        rw [e]
        exact d1
      · rw [if_neg q3] at h ⊢
        by_cases q4 : (240 ≤ c0 ∧ c0 ≤ 244) ∧ (1 < m.length ∧ (if c0 = 240 then 144 else 128) ≤ c1 ∧ c1 ≤ (if c0 = 244 then 143 else 191)) ∧ (2 < m.length ∧ 128 ≤ c2 ∧ c2 ≤ 191) ∧ (3 < m.length ∧ 128 ≤ c3 ∧ c3 ≤ 191)
        · rw [if_pos q4] at h
          obtain ⟨⟨a1, a2⟩, ⟨hl, a3, a4⟩, ⟨_, a5, a6⟩, _, a7, a8⟩ := q4
          have x1 : 128 ≤ c1 := by split at a3 <;> omega
          have x3 : c0 = 240 → 144 ≤ c1 := fun e => by rw [if_pos e] at a3; exact a3
          simp only at h
          omega
        · rw [if_neg q4] at h
          simp only at h
          omega
theorem rs_enc : ∀ (k : Nat) (m : List UInt8), m.length ≤ k → (∀ r ∈ rs k m, runeOk r) → m = (rs k m).flatMap fun r => enc r.toNat
  | 0, m, hk, _ => by
    obtain rfl : m = [] := List.eq_nil_of_length_eq_zero (by omega)
    rfl
  | k + 1, m, hk, h => by
    unfold rs at h ⊢
    by_cases hm : m = []
    · subst hm
      rfl
    · rw [if_neg hm] at h ⊢
      have hp := List.length_pos_iff.2 hm
      have hw := first_wide hp
      have ih := rs_enc k (m.drop (first m).2) (by rw [List.length_drop]; omega) fun r hr => h r (List.mem_cons_of_mem _ hr)
      rw [List.flatMap_cons, ← ih, Int.toNat_natCast]
      exact enc_first hp (h _ List.mem_cons_self)
theorem name_enc {s : List UInt8} (hs : s.length ≤ 300) (h : NameOk s) : s = (rn s).flatMap fun r => enc r.toNat := rs_enc 399 s (by omega) h.2
theorem name_same {s t : List UInt8} (hs : s.length ≤ 300) (ht : t.length ≤ 300) (h : NameOk s) (e : rn s = rn t) : s = t := by
  have h' : NameOk t := by
    unfold NameOk at h ⊢
    have e' : rs 399 s = rs 399 t := e
    rw [← e']
    exact h
  rw [name_enc hs h, name_enc ht h', e]
end Go.Proofs.YtdifnahlheogdaaGreatDoor.Pure
