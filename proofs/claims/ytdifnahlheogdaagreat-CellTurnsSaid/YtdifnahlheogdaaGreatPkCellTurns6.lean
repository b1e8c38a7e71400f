/- CellTurns: texts merged, part 6 of 8. The last part proves that the law CellTurns holds for every input. -/
import Derived.Test.YtdifnahlheogdaaGreatPkCellTurns5
set_option maxRecDepth 100000
set_option maxHeartbeats 4000000
set_option linter.unusedVariables false
set_option linter.unusedSimpArgs false
namespace Go.Proofs.YtdifnahlheogdaaGreat
open Go Go.Xw Go.Yw
def rickyardref04_First.f (fu : Nat) (a0 : List UInt8) : Option (Int × Int) := if (0 : Int) < (List.length a0 : Int) then (if (decide ((ofB (List.getD a0 (Int.toNat 0) 0)) < 128)) then some ((IntKind.i64.wrap (ofB (List.getD a0 (Int.toNat 0) 0))), 1) else (if (decide ((ofB (List.getD a0 (Int.toNat 0) 0)) ≥ 194)) then (if (decide ((ofB (List.getD a0 (Int.toNat 0) 0)) ≤ 223)) then ((rickyardref04_follows.f fu a0 1 128 191).bind fun t4 => (if t4 then if (1 : Int) < (List.length a0 : Int) then some ((IntKind.i64.wrap ((IntKind.i64.wrap ((IntKind.i64.wrap (IntKind.u8.wrap ((ofB (List.getD a0 (Int.toNat 0) 0)) - 192))) * 64)) + (IntKind.i64.wrap (IntKind.u8.wrap ((ofB (List.getD a0 (Int.toNat 1) 0)) - 128))))), 2) else none else (if (decide ((ofB (List.getD a0 (Int.toNat 0) 0)) ≥ 224)) then (((if (decide ((ofB (List.getD a0 (Int.toNat 0) 0)) ≤ 239)) then (((if (decide ((ofB (List.getD a0 (Int.toNat 0) 0)) = 224)) then some (160) else some (128)) : Option Int).bind fun x13 => (((if (decide ((ofB (List.getD a0 (Int.toNat 0) 0)) = 237)) then some (159) else some (191)) : Option Int).bind fun x17 => ((rickyardref04_follows.f fu a0 1 x13 x17).bind fun t21 => (if t21 then ((rickyardref04_follows.f fu a0 2 128 191).bind fun t24 => (if t24 then if (1 : Int) < (List.length a0 : Int) then if (2 : Int) < (List.length a0 : Int) then some (Sum.inl ((IntKind.i64.wrap ((IntKind.i64.wrap ((IntKind.i64.wrap ((IntKind.i64.wrap (IntKind.u8.wrap ((ofB (List.getD a0 (Int.toNat 0) 0)) - 224))) * 4096)) + (IntKind.i64.wrap ((IntKind.i64.wrap (IntKind.u8.wrap ((ofB (List.getD a0 (Int.toNat 1) 0)) - 128))) * 64)))) + (IntKind.i64.wrap (IntKind.u8.wrap ((ofB (List.getD a0 (Int.toNat 2) 0)) - 128))))), 3)) else none else none else some (Sum.inr ()))) else some (Sum.inr ()))))) else (if (decide ((ofB (List.getD a0 (Int.toNat 0) 0)) ≥ 240)) then (((if (decide ((ofB (List.getD a0 (Int.toNat 0) 0)) ≤ 244)) then (((if (decide ((ofB (List.getD a0 (Int.toNat 0) 0)) = 240)) then some (144) else some (128)) : Option Int).bind fun x33 => (((if (decide ((ofB (List.getD a0 (Int.toNat 0) 0)) = 244)) then some (143) else some (191)) : Option Int).bind fun x37 => ((rickyardref04_follows.f fu a0 1 x33 x37).bind fun t41 => (if t41 then ((rickyardref04_follows.f fu a0 2 128 191).bind fun t44 => (if t44 then ((rickyardref04_follows.f fu a0 3 128 191).bind fun t47 => (if t47 then if (1 : Int) < (List.length a0 : Int) then if (2 : Int) < (List.length a0 : Int) then if (3 : Int) < (List.length a0 : Int) then some (Sum.inl (Sum.inl ((IntKind.i64.wrap ((IntKind.i64.wrap ((IntKind.i64.wrap ((IntKind.i64.wrap ((IntKind.i64.wrap (IntKind.u8.wrap ((ofB (List.getD a0 (Int.toNat 0) 0)) - 240))) * 262144)) + (IntKind.i64.wrap ((IntKind.i64.wrap (IntKind.u8.wrap ((ofB (List.getD a0 (Int.toNat 1) 0)) - 128))) * 4096)))) + (IntKind.i64.wrap ((IntKind.i64.wrap (IntKind.u8.wrap ((ofB (List.getD a0 (Int.toNat 2) 0)) - 128))) * 64)))) + (IntKind.i64.wrap (IntKind.u8.wrap ((ofB (List.getD a0 (Int.toNat 3) 0)) - 128))))), 4))) else none else none else none else some (Sum.inr ()))) else some (Sum.inr ()))) else some (Sum.inr ()))))) else some (Sum.inr ())) : Option (Sum (Sum (Int × Int) Unit) Unit)).bind fun x28 => match x28 with | Sum.inl p => some p | Sum.inr x30 => some (Sum.inr ())) else some (Sum.inr ()))) : Option (Sum (Int × Int) Unit)).bind fun x8 => match x8 with | Sum.inl p => some p | Sum.inr x10 => some (65533, 1)) else (if (decide ((ofB (List.getD a0 (Int.toNat 0) 0)) ≥ 240)) then (((if (decide ((ofB (List.getD a0 (Int.toNat 0) 0)) ≤ 244)) then (((if (decide ((ofB (List.getD a0 (Int.toNat 0) 0)) = 240)) then some (144) else some (128)) : Option Int).bind fun x56 => (((if (decide ((ofB (List.getD a0 (Int.toNat 0) 0)) = 244)) then some (143) else some (191)) : Option Int).bind fun x60 => ((rickyardref04_follows.f fu a0 1 x56 x60).bind fun t64 => (if t64 then ((rickyardref04_follows.f fu a0 2 128 191).bind fun t67 => (if t67 then ((rickyardref04_follows.f fu a0 3 128 191).bind fun t70 => (if t70 then if (1 : Int) < (List.length a0 : Int) then if (2 : Int) < (List.length a0 : Int) then if (3 : Int) < (List.length a0 : Int) then some (Sum.inl ((IntKind.i64.wrap ((IntKind.i64.wrap ((IntKind.i64.wrap ((IntKind.i64.wrap ((IntKind.i64.wrap (IntKind.u8.wrap ((ofB (List.getD a0 (Int.toNat 0) 0)) - 240))) * 262144)) + (IntKind.i64.wrap ((IntKind.i64.wrap (IntKind.u8.wrap ((ofB (List.getD a0 (Int.toNat 1) 0)) - 128))) * 4096)))) + (IntKind.i64.wrap ((IntKind.i64.wrap (IntKind.u8.wrap ((ofB (List.getD a0 (Int.toNat 2) 0)) - 128))) * 64)))) + (IntKind.i64.wrap (IntKind.u8.wrap ((ofB (List.getD a0 (Int.toNat 3) 0)) - 128))))), 4)) else none else none else none else some (Sum.inr ()))) else some (Sum.inr ()))) else some (Sum.inr ()))))) else some (Sum.inr ())) : Option (Sum (Int × Int) Unit)).bind fun x51 => match x51 with | Sum.inl p => some p | Sum.inr x53 => some (65533, 1)) else some (65533, 1))))) else (if (decide ((ofB (List.getD a0 (Int.toNat 0) 0)) ≥ 224)) then (((if (decide ((ofB (List.getD a0 (Int.toNat 0) 0)) ≤ 239)) then (((if (decide ((ofB (List.getD a0 (Int.toNat 0) 0)) = 224)) then some (160) else some (128)) : Option Int).bind fun x79 => (((if (decide ((ofB (List.getD a0 (Int.toNat 0) 0)) = 237)) then some (159) else some (191)) : Option Int).bind fun x83 => ((rickyardref04_follows.f fu a0 1 x79 x83).bind fun t87 => (if t87 then ((rickyardref04_follows.f fu a0 2 128 191).bind fun t90 => (if t90 then if (1 : Int) < (List.length a0 : Int) then if (2 : Int) < (List.length a0 : Int) then some (Sum.inl ((IntKind.i64.wrap ((IntKind.i64.wrap ((IntKind.i64.wrap ((IntKind.i64.wrap (IntKind.u8.wrap ((ofB (List.getD a0 (Int.toNat 0) 0)) - 224))) * 4096)) + (IntKind.i64.wrap ((IntKind.i64.wrap (IntKind.u8.wrap ((ofB (List.getD a0 (Int.toNat 1) 0)) - 128))) * 64)))) + (IntKind.i64.wrap (IntKind.u8.wrap ((ofB (List.getD a0 (Int.toNat 2) 0)) - 128))))), 3)) else none else none else some (Sum.inr ()))) else some (Sum.inr ()))))) else (if (decide ((ofB (List.getD a0 (Int.toNat 0) 0)) ≥ 240)) then (((if (decide ((ofB (List.getD a0 (Int.toNat 0) 0)) ≤ 244)) then (((if (decide ((ofB (List.getD a0 (Int.toNat 0) 0)) = 240)) then some (144) else some (128)) : Option Int).bind fun x99 => (((if (decide ((ofB (List.getD a0 (Int.toNat 0) 0)) = 244)) then some (143) else some (191)) : Option Int).bind fun x103 => ((rickyardref04_follows.f fu a0 1 x99 x103).bind fun t107 => (if t107 then ((rickyardref04_follows.f fu a0 2 128 191).bind fun t110 => (if t110 then ((rickyardref04_follows.f fu a0 3 128 191).bind fun t113 => (if t113 then if (1 : Int) < (List.length a0 : Int) then if (2 : Int) < (List.length a0 : Int) then if (3 : Int) < (List.length a0 : Int) then some (Sum.inl (Sum.inl ((IntKind.i64.wrap ((IntKind.i64.wrap ((IntKind.i64.wrap ((IntKind.i64.wrap ((IntKind.i64.wrap (IntKind.u8.wrap ((ofB (List.getD a0 (Int.toNat 0) 0)) - 240))) * 262144)) + (IntKind.i64.wrap ((IntKind.i64.wrap (IntKind.u8.wrap ((ofB (List.getD a0 (Int.toNat 1) 0)) - 128))) * 4096)))) + (IntKind.i64.wrap ((IntKind.i64.wrap (IntKind.u8.wrap ((ofB (List.getD a0 (Int.toNat 2) 0)) - 128))) * 64)))) + (IntKind.i64.wrap (IntKind.u8.wrap ((ofB (List.getD a0 (Int.toNat 3) 0)) - 128))))), 4))) else none else none else none else some (Sum.inr ()))) else some (Sum.inr ()))) else some (Sum.inr ()))))) else some (Sum.inr ())) : Option (Sum (Sum (Int × Int) Unit) Unit)).bind fun x94 => match x94 with | Sum.inl p => some p | Sum.inr x96 => some (Sum.inr ())) else some (Sum.inr ()))) : Option (Sum (Int × Int) Unit)).bind fun x74 => match x74 with | Sum.inl p => some p | Sum.inr x76 => some (65533, 1)) else (if (decide ((ofB (List.getD a0 (Int.toNat 0) 0)) ≥ 240)) then (((if (decide ((ofB (List.getD a0 (Int.toNat 0) 0)) ≤ 244)) then (((if (decide ((ofB (List.getD a0 (Int.toNat 0) 0)) = 240)) then some (144) else some (128)) : Option Int).bind fun x122 => (((if (decide ((ofB (List.getD a0 (Int.toNat 0) 0)) = 244)) then some (143) else some (191)) : Option Int).bind fun x126 => ((rickyardref04_follows.f fu a0 1 x122 x126).bind fun t130 => (if t130 then ((rickyardref04_follows.f fu a0 2 128 191).bind fun t133 => (if t133 then ((rickyardref04_follows.f fu a0 3 128 191).bind fun t136 => (if t136 then if (1 : Int) < (List.length a0 : Int) then if (2 : Int) < (List.length a0 : Int) then if (3 : Int) < (List.length a0 : Int) then some (Sum.inl ((IntKind.i64.wrap ((IntKind.i64.wrap ((IntKind.i64.wrap ((IntKind.i64.wrap ((IntKind.i64.wrap (IntKind.u8.wrap ((ofB (List.getD a0 (Int.toNat 0) 0)) - 240))) * 262144)) + (IntKind.i64.wrap ((IntKind.i64.wrap (IntKind.u8.wrap ((ofB (List.getD a0 (Int.toNat 1) 0)) - 128))) * 4096)))) + (IntKind.i64.wrap ((IntKind.i64.wrap (IntKind.u8.wrap ((ofB (List.getD a0 (Int.toNat 2) 0)) - 128))) * 64)))) + (IntKind.i64.wrap (IntKind.u8.wrap ((ofB (List.getD a0 (Int.toNat 3) 0)) - 128))))), 4)) else none else none else none else some (Sum.inr ()))) else some (Sum.inr ()))) else some (Sum.inr ()))))) else some (Sum.inr ())) : Option (Sum (Int × Int) Unit)).bind fun x117 => match x117 with | Sum.inl p => some p | Sum.inr x119 => some (65533, 1)) else some (65533, 1)))) else (if (decide ((ofB (List.getD a0 (Int.toNat 0) 0)) ≥ 224)) then (((if (decide ((ofB (List.getD a0 (Int.toNat 0) 0)) ≤ 239)) then (((if (decide ((ofB (List.getD a0 (Int.toNat 0) 0)) = 224)) then some (160) else some (128)) : Option Int).bind fun x145 => (((if (decide ((ofB (List.getD a0 (Int.toNat 0) 0)) = 237)) then some (159) else some (191)) : Option Int).bind fun x149 => ((rickyardref04_follows.f fu a0 1 x145 x149).bind fun t153 => (if t153 then ((rickyardref04_follows.f fu a0 2 128 191).bind fun t156 => (if t156 then if (1 : Int) < (List.length a0 : Int) then if (2 : Int) < (List.length a0 : Int) then some (Sum.inl ((IntKind.i64.wrap ((IntKind.i64.wrap ((IntKind.i64.wrap ((IntKind.i64.wrap (IntKind.u8.wrap ((ofB (List.getD a0 (Int.toNat 0) 0)) - 224))) * 4096)) + (IntKind.i64.wrap ((IntKind.i64.wrap (IntKind.u8.wrap ((ofB (List.getD a0 (Int.toNat 1) 0)) - 128))) * 64)))) + (IntKind.i64.wrap (IntKind.u8.wrap ((ofB (List.getD a0 (Int.toNat 2) 0)) - 128))))), 3)) else none else none else some (Sum.inr ()))) else some (Sum.inr ()))))) else (if (decide ((ofB (List.getD a0 (Int.toNat 0) 0)) ≥ 240)) then (((if (decide ((ofB (List.getD a0 (Int.toNat 0) 0)) ≤ 244)) then (((if (decide ((ofB (List.getD a0 (Int.toNat 0) 0)) = 240)) then some (144) else some (128)) : Option Int).bind fun x165 => (((if (decide ((ofB (List.getD a0 (Int.toNat 0) 0)) = 244)) then some (143) else some (191)) : Option Int).bind fun x169 => ((rickyardref04_follows.f fu a0 1 x165 x169).bind fun t173 => (if t173 then ((rickyardref04_follows.f fu a0 2 128 191).bind fun t176 => (if t176 then ((rickyardref04_follows.f fu a0 3 128 191).bind fun t179 => (if t179 then if (1 : Int) < (List.length a0 : Int) then if (2 : Int) < (List.length a0 : Int) then if (3 : Int) < (List.length a0 : Int) then some (Sum.inl (Sum.inl ((IntKind.i64.wrap ((IntKind.i64.wrap ((IntKind.i64.wrap ((IntKind.i64.wrap ((IntKind.i64.wrap (IntKind.u8.wrap ((ofB (List.getD a0 (Int.toNat 0) 0)) - 240))) * 262144)) + (IntKind.i64.wrap ((IntKind.i64.wrap (IntKind.u8.wrap ((ofB (List.getD a0 (Int.toNat 1) 0)) - 128))) * 4096)))) + (IntKind.i64.wrap ((IntKind.i64.wrap (IntKind.u8.wrap ((ofB (List.getD a0 (Int.toNat 2) 0)) - 128))) * 64)))) + (IntKind.i64.wrap (IntKind.u8.wrap ((ofB (List.getD a0 (Int.toNat 3) 0)) - 128))))), 4))) else none else none else none else some (Sum.inr ()))) else some (Sum.inr ()))) else some (Sum.inr ()))))) else some (Sum.inr ())) : Option (Sum (Sum (Int × Int) Unit) Unit)).bind fun x160 => match x160 with | Sum.inl p => some p | Sum.inr x162 => some (Sum.inr ())) else some (Sum.inr ()))) : Option (Sum (Int × Int) Unit)).bind fun x140 => match x140 with | Sum.inl p => some p | Sum.inr x142 => some (65533, 1)) else (if (decide ((ofB (List.getD a0 (Int.toNat 0) 0)) ≥ 240)) then (((if (decide ((ofB (List.getD a0 (Int.toNat 0) 0)) ≤ 244)) then (((if (decide ((ofB (List.getD a0 (Int.toNat 0) 0)) = 240)) then some (144) else some (128)) : Option Int).bind fun x188 => (((if (decide ((ofB (List.getD a0 (Int.toNat 0) 0)) = 244)) then some (143) else some (191)) : Option Int).bind fun x192 => ((rickyardref04_follows.f fu a0 1 x188 x192).bind fun t196 => (if t196 then ((rickyardref04_follows.f fu a0 2 128 191).bind fun t199 => (if t199 then ((rickyardref04_follows.f fu a0 3 128 191).bind fun t202 => (if t202 then if (1 : Int) < (List.length a0 : Int) then if (2 : Int) < (List.length a0 : Int) then if (3 : Int) < (List.length a0 : Int) then some (Sum.inl ((IntKind.i64.wrap ((IntKind.i64.wrap ((IntKind.i64.wrap ((IntKind.i64.wrap ((IntKind.i64.wrap (IntKind.u8.wrap ((ofB (List.getD a0 (Int.toNat 0) 0)) - 240))) * 262144)) + (IntKind.i64.wrap ((IntKind.i64.wrap (IntKind.u8.wrap ((ofB (List.getD a0 (Int.toNat 1) 0)) - 128))) * 4096)))) + (IntKind.i64.wrap ((IntKind.i64.wrap (IntKind.u8.wrap ((ofB (List.getD a0 (Int.toNat 2) 0)) - 128))) * 64)))) + (IntKind.i64.wrap (IntKind.u8.wrap ((ofB (List.getD a0 (Int.toNat 3) 0)) - 128))))), 4)) else none else none else none else some (Sum.inr ()))) else some (Sum.inr ()))) else some (Sum.inr ()))))) else some (Sum.inr ())) : Option (Sum (Int × Int) Unit)).bind fun x183 => match x183 with | Sum.inl p => some p | Sum.inr x185 => some (65533, 1)) else some (65533, 1))))) else none
theorem rickyardref04_First.sc (fu : Nat) (a0 : List UInt8) (r : Int × Int) (h : rickyardref04_First.f fu a0 = some r) : SC Tryz.prog CT 104 [vs a0] [] (.tup [vi .i64 r.1, vi .i64 r.2]) [] := by
 unfold rickyardref04_First.f at h
 refine sq Tryz.func104 r (fun r => .tup [vi .i64 r.1, vi .i64 r.2]) (fun r => []) fun X => ?_
 refine agL h (by decide) fun h => ?_
 refine t_cond cok ?_
 refine bi h (fun c1 h => ?_) (fun c1 h => ?_)
 ·skip
  exact fk h
 refine t_reg cok ?_
 refine bi h (fun c2 h => ?_) (fun c2 h => ?_)
 ·skip
  refine bi h (fun c3 h => ?_) (fun c3 h => ?_)
  ·skip
   refine bk h fun t4 k5 h => ?_
   refine cl4 cok.g (rickyardref04_follows.sc fu _ _ _ _ _ k5) (vb t4) [] 0 ?_
   refine t_cond cok ?_
   refine bi h (fun c6 h => ?_) (fun c6 h => ?_)
   ·skip
    refine agL h (by decide) fun h => ?_
    exact fk h
   refine t_reg cok ?_
   refine bi h (fun c7 h => ?_) (fun c7 h => ?_)
   ·skip
    refine bk h fun x8 j9 h => ?_
    refine t_cutS cok (fun (_x : Unit) => ⟨[], []⟩) x8 ?_ (fun x10 hy => ?_)
    ·skip
     have h11 := h
     have h := j9
     refine t_cond cok ?_
     refine bi h (fun c12 h => ?_) (fun c12 h => ?_)
     ·skip
      refine bk h fun x13 j14 h => ?_
      refine t_cut cok (fun (x13 : Int) => ⟨[(0, vs a0), (4, vi .u8 (ofB (List.getD a0 (Int.toNat 0) 0))), (5, vi .u8 x13), (6, vi .u8 191)], []⟩) x13 ?_ ?_
      ·skip
       have h15 := h
       have h := j14
       refine t_cond cok ?_
       refine bi h (fun c16 h => ?_) (fun c16 h => ?_)
       ·skip
        exact ek h
       exact ek h
      refine bk h fun x17 j18 h => ?_
      refine t_cut cok (fun (x17 : Int) => ⟨[(0, vs a0), (4, vi .u8 (ofB (List.getD a0 (Int.toNat 0) 0))), (5, vi .u8 x13), (6, vi .u8 x17)], []⟩) x17 ?_ ?_
      ·skip
       have h19 := h
       have h := j18
       refine t_cond cok ?_
       refine bi h (fun c20 h => ?_) (fun c20 h => ?_)
       ·skip
        exact ek h
       exact ek h
      refine t_reg cok ?_
      refine bk h fun t21 k22 h => ?_
      refine cl4 cok.g (rickyardref04_follows.sc fu _ _ _ _ _ k22) (vb t21) [] 0 ?_
      refine bi h (fun c23 h => ?_) (fun c23 h => ?_)
      ·skip
       refine bk h fun t24 k25 h => ?_
       refine cl4 cok.g (rickyardref04_follows.sc fu _ _ _ _ _ k25) (vb t24) [] 0 ?_
       refine t_cond cok ?_
       refine bi h (fun c26 h => ?_) (fun c26 h => ?_)
       ·skip
        refine t_draw cok mo [⟨0, false, [4], [], 0, []⟩, ⟨1, false, [55], [], 0, [0]⟩, ⟨2, false, [56], [], 0, [0, 1]⟩, ⟨3, false, [57], [], 0, [0, 1, 2]⟩, ⟨4, false, [0], [], 0, []⟩, ⟨5, false, [59], [], 0, [4]⟩, ⟨6, false, [60], [], 0, [4, 5]⟩, ⟨7, false, [61], [], 0, [4, 5, 6]⟩, ⟨8, false, [62], [], 0, [4, 5, 6, 7]⟩, ⟨9, false, [58, 63], [], 0, cl 9⟩, ⟨10, false, [0], [], 0, []⟩, ⟨11, false, [65], [], 0, [10]⟩, ⟨12, false, [66], [], 0, [10, 11]⟩, ⟨13, false, [67], [], 0, [10, 11, 12]⟩, ⟨14, false, [64, 68], [], 0, cl 14⟩, ⟨15, false, [69], [], 0, cl 15⟩, ⟨16, false, [], [], 0, cl 16⟩] (by kernel_rfl) ?_
        refine agL h (by decide) fun h => ?_
        refine agL h (by decide) fun h => ?_
        have hz := Option.some.inj h
        have h := h11
        rw [← hz] at h
        exact fk h
       exact esk h
      refine t_cond cok ?_
      exact esk h
     refine t_reg cok ?_
     refine bi h (fun c27 h => ?_) (fun c27 h => ?_)
     ·skip
      refine bk h fun x28 j29 h => ?_
      refine t_cutS cok (fun (_x : Unit) => ⟨[], []⟩) x28 ?_ (fun x30 hy => ?_)
      ·skip
       have h31 := h
       have h := j29
       refine t_cond cok ?_
       refine bi h (fun c32 h => ?_) (fun c32 h => ?_)
       ·skip
        refine bk h fun x33 j34 h => ?_
        refine t_cut cok (fun (x33 : Int) => ⟨[(0, vs a0), (4, vi .u8 (ofB (List.getD a0 (Int.toNat 0) 0))), (5, vi .u8 x33), (6, vi .u8 191)], []⟩) x33 ?_ ?_
        ·skip
         have h35 := h
         have h := j34
         refine t_cond cok ?_
         refine bi h (fun c36 h => ?_) (fun c36 h => ?_)
         ·skip
          exact ek h
         exact ek h
        refine bk h fun x37 j38 h => ?_
        refine t_cut cok (fun (x37 : Int) => ⟨[(0, vs a0), (4, vi .u8 (ofB (List.getD a0 (Int.toNat 0) 0))), (5, vi .u8 x33), (6, vi .u8 x37)], []⟩) x37 ?_ ?_
        ·skip
         have h39 := h
         have h := j38
         refine t_cond cok ?_
         refine bi h (fun c40 h => ?_) (fun c40 h => ?_)
         ·skip
          exact ek h
         exact ek h
        refine t_reg cok ?_
        refine bk h fun t41 k42 h => ?_
        refine cl4 cok.g (rickyardref04_follows.sc fu _ _ _ _ _ k42) (vb t41) [] 0 ?_
        refine bi h (fun c43 h => ?_) (fun c43 h => ?_)
        ·skip
         refine bk h fun t44 k45 h => ?_
         refine cl4 cok.g (rickyardref04_follows.sc fu _ _ _ _ _ k45) (vb t44) [] 0 ?_
         refine bi h (fun c46 h => ?_) (fun c46 h => ?_)
         ·skip
          refine bk h fun t47 k48 h => ?_
          refine cl4 cok.g (rickyardref04_follows.sc fu _ _ _ _ _ k48) (vb t47) [] 0 ?_
          refine t_cond cok ?_
          refine bi h (fun c49 h => ?_) (fun c49 h => ?_)
          ·skip
           refine t_draw cok mo [⟨0, false, [4], [], 0, []⟩, ⟨1, false, [93], [], 0, [0]⟩, ⟨2, false, [94], [], 0, [0, 1]⟩, ⟨3, false, [95], [], 0, [0, 1, 2]⟩, ⟨4, false, [0], [], 0, []⟩, ⟨5, false, [97], [], 0, [4]⟩, ⟨6, false, [98], [], 0, [4, 5]⟩, ⟨7, false, [99], [], 0, [4, 5, 6]⟩, ⟨8, false, [100], [], 0, [4, 5, 6, 7]⟩, ⟨9, false, [96, 101], [], 0, cl 9⟩, ⟨10, false, [0], [], 0, []⟩, ⟨11, false, [103], [], 0, [10]⟩, ⟨12, false, [104], [], 0, [10, 11]⟩, ⟨13, false, [105], [], 0, [10, 11, 12]⟩, ⟨14, false, [106], [], 0, [10, 11, 12, 13]⟩, ⟨15, false, [102, 107], [], 0, cl 15⟩, ⟨16, false, [0], [], 0, []⟩, ⟨17, false, [109], [], 0, [16]⟩, ⟨18, false, [110], [], 0, [16, 17]⟩, ⟨19, false, [111], [], 0, [16, 17, 18]⟩, ⟨20, false, [108, 112], [], 0, cl 20⟩, ⟨21, false, [113], [], 0, cl 21⟩, ⟨22, false, [], [], 0, cl 22⟩] (by kernel_rfl) ?_
           refine agL h (by decide) fun h => ?_
           refine agL h (by decide) fun h => ?_
           refine agL h (by decide) fun h => ?_
           have hz := Option.some.inj h
           have h := h31
           rw [← hz] at h
           have hz := Option.some.inj h
           have h := h11
           rw [← hz] at h
           exact fk h
          exact esk h
         refine t_cond cok ?_
         exact esk h
        refine t_cond cok ?_
        exact esk h
       exact esk h
      subst hy
      exact esk h
     refine t_cond cok ?_
     exact esk h
    subst hy
    exact fk h
   refine t_cond cok ?_
   refine t_reg cok ?_
   refine bi h (fun c50 h => ?_) (fun c50 h => ?_)
   ·skip
    refine bk h fun x51 j52 h => ?_
    refine t_cutS cok (fun (_x : Unit) => ⟨[], []⟩) x51 ?_ (fun x53 hy => ?_)
    ·skip
     have h54 := h
     have h := j52
     refine t_cond cok ?_
     refine bi h (fun c55 h => ?_) (fun c55 h => ?_)
     ·skip
      refine bk h fun x56 j57 h => ?_
      refine t_cut cok (fun (x56 : Int) => ⟨[(0, vs a0), (4, vi .u8 (ofB (List.getD a0 (Int.toNat 0) 0))), (5, vi .u8 x56), (6, vi .u8 191)], []⟩) x56 ?_ ?_
      ·skip
       have h58 := h
       have h := j57
       refine t_cond cok ?_
       refine bi h (fun c59 h => ?_) (fun c59 h => ?_)
       ·skip
        exact ek h
       exact ek h
      refine bk h fun x60 j61 h => ?_
      refine t_cut cok (fun (x60 : Int) => ⟨[(0, vs a0), (4, vi .u8 (ofB (List.getD a0 (Int.toNat 0) 0))), (5, vi .u8 x56), (6, vi .u8 x60)], []⟩) x60 ?_ ?_
      ·skip
       have h62 := h
       have h := j61
       refine t_cond cok ?_
       refine bi h (fun c63 h => ?_) (fun c63 h => ?_)
       ·skip
        exact ek h
       exact ek h
      refine t_reg cok ?_
      refine bk h fun t64 k65 h => ?_
      refine cl4 cok.g (rickyardref04_follows.sc fu _ _ _ _ _ k65) (vb t64) [] 0 ?_
      refine bi h (fun c66 h => ?_) (fun c66 h => ?_)
      ·skip
       refine bk h fun t67 k68 h => ?_
       refine cl4 cok.g (rickyardref04_follows.sc fu _ _ _ _ _ k68) (vb t67) [] 0 ?_
       refine bi h (fun c69 h => ?_) (fun c69 h => ?_)
       ·skip
        refine bk h fun t70 k71 h => ?_
        refine cl4 cok.g (rickyardref04_follows.sc fu _ _ _ _ _ k71) (vb t70) [] 0 ?_
        refine t_cond cok ?_
        refine bi h (fun c72 h => ?_) (fun c72 h => ?_)
        ·skip
         refine t_draw cok mo [⟨0, false, [4], [], 0, []⟩, ⟨1, false, [93], [], 0, [0]⟩, ⟨2, false, [94], [], 0, [0, 1]⟩, ⟨3, false, [95], [], 0, [0, 1, 2]⟩, ⟨4, false, [0], [], 0, []⟩, ⟨5, false, [97], [], 0, [4]⟩, ⟨6, false, [98], [], 0, [4, 5]⟩, ⟨7, false, [99], [], 0, [4, 5, 6]⟩, ⟨8, false, [100], [], 0, [4, 5, 6, 7]⟩, ⟨9, false, [96, 101], [], 0, cl 9⟩, ⟨10, false, [0], [], 0, []⟩, ⟨11, false, [103], [], 0, [10]⟩, ⟨12, false, [104], [], 0, [10, 11]⟩, ⟨13, false, [105], [], 0, [10, 11, 12]⟩, ⟨14, false, [106], [], 0, [10, 11, 12, 13]⟩, ⟨15, false, [102, 107], [], 0, cl 15⟩, ⟨16, false, [0], [], 0, []⟩, ⟨17, false, [109], [], 0, [16]⟩, ⟨18, false, [110], [], 0, [16, 17]⟩, ⟨19, false, [111], [], 0, [16, 17, 18]⟩, ⟨20, false, [108, 112], [], 0, cl 20⟩, ⟨21, false, [113], [], 0, cl 21⟩, ⟨22, false, [], [], 0, cl 22⟩] (by kernel_rfl) ?_
         refine agL h (by decide) fun h => ?_
         refine agL h (by decide) fun h => ?_
         refine agL h (by decide) fun h => ?_
         have hz := Option.some.inj h
         have h := h54
         rw [← hz] at h
         exact fk h
        exact esk h
       refine t_cond cok ?_
       exact esk h
      refine t_cond cok ?_
      exact esk h
     exact esk h
    subst hy
    exact fk h
   refine t_cond cok ?_
   exact fk h
  refine t_cond cok ?_
  refine t_reg cok ?_
  refine bi h (fun c73 h => ?_) (fun c73 h => ?_)
  ·skip
   refine bk h fun x74 j75 h => ?_
   refine t_cutS cok (fun (_x : Unit) => ⟨[], []⟩) x74 ?_ (fun x76 hy => ?_)
   ·skip
    have h77 := h
    have h := j75
    refine t_cond cok ?_
    refine bi h (fun c78 h => ?_) (fun c78 h => ?_)
    ·skip
     refine bk h fun x79 j80 h => ?_
     refine t_cut cok (fun (x79 : Int) => ⟨[(0, vs a0), (4, vi .u8 (ofB (List.getD a0 (Int.toNat 0) 0))), (5, vi .u8 x79), (6, vi .u8 191)], []⟩) x79 ?_ ?_
     ·skip
      have h81 := h
      have h := j80
      refine t_cond cok ?_
      refine bi h (fun c82 h => ?_) (fun c82 h => ?_)
      ·skip
       exact ek h
      exact ek h
     refine bk h fun x83 j84 h => ?_
     refine t_cut cok (fun (x83 : Int) => ⟨[(0, vs a0), (4, vi .u8 (ofB (List.getD a0 (Int.toNat 0) 0))), (5, vi .u8 x79), (6, vi .u8 x83)], []⟩) x83 ?_ ?_
     ·skip
      have h85 := h
      have h := j84
      refine t_cond cok ?_
      refine bi h (fun c86 h => ?_) (fun c86 h => ?_)
      ·skip
       exact ek h
      exact ek h
     refine t_reg cok ?_
     refine bk h fun t87 k88 h => ?_
     refine cl4 cok.g (rickyardref04_follows.sc fu _ _ _ _ _ k88) (vb t87) [] 0 ?_
     refine bi h (fun c89 h => ?_) (fun c89 h => ?_)
     ·skip
      refine bk h fun t90 k91 h => ?_
      refine cl4 cok.g (rickyardref04_follows.sc fu _ _ _ _ _ k91) (vb t90) [] 0 ?_
      refine t_cond cok ?_
      refine bi h (fun c92 h => ?_) (fun c92 h => ?_)
      ·skip
       refine t_draw cok mo [⟨0, false, [4], [], 0, []⟩, ⟨1, false, [55], [], 0, [0]⟩, ⟨2, false, [56], [], 0, [0, 1]⟩, ⟨3, false, [57], [], 0, [0, 1, 2]⟩, ⟨4, false, [0], [], 0, []⟩, ⟨5, false, [59], [], 0, [4]⟩, ⟨6, false, [60], [], 0, [4, 5]⟩, ⟨7, false, [61], [], 0, [4, 5, 6]⟩, ⟨8, false, [62], [], 0, [4, 5, 6, 7]⟩, ⟨9, false, [58, 63], [], 0, cl 9⟩, ⟨10, false, [0], [], 0, []⟩, ⟨11, false, [65], [], 0, [10]⟩, ⟨12, false, [66], [], 0, [10, 11]⟩, ⟨13, false, [67], [], 0, [10, 11, 12]⟩, ⟨14, false, [64, 68], [], 0, cl 14⟩, ⟨15, false, [69], [], 0, cl 15⟩, ⟨16, false, [], [], 0, cl 16⟩] (by kernel_rfl) ?_
       refine agL h (by decide) fun h => ?_
       refine agL h (by decide) fun h => ?_
       have hz := Option.some.inj h
       have h := h77
       rw [← hz] at h
       exact fk h
      exact esk h
     refine t_cond cok ?_
     exact esk h
    refine t_reg cok ?_
    refine bi h (fun c93 h => ?_) (fun c93 h => ?_)
    ·skip
     refine bk h fun x94 j95 h => ?_
     refine t_cutS cok (fun (_x : Unit) => ⟨[], []⟩) x94 ?_ (fun x96 hy => ?_)
     ·skip
      have h97 := h
      have h := j95
      refine t_cond cok ?_
      refine bi h (fun c98 h => ?_) (fun c98 h => ?_)
      ·skip
       refine bk h fun x99 j100 h => ?_
       refine t_cut cok (fun (x99 : Int) => ⟨[(0, vs a0), (4, vi .u8 (ofB (List.getD a0 (Int.toNat 0) 0))), (5, vi .u8 x99), (6, vi .u8 191)], []⟩) x99 ?_ ?_
       ·skip
        have h101 := h
        have h := j100
        refine t_cond cok ?_
        refine bi h (fun c102 h => ?_) (fun c102 h => ?_)
        ·skip
         exact ek h
        exact ek h
       refine bk h fun x103 j104 h => ?_
       refine t_cut cok (fun (x103 : Int) => ⟨[(0, vs a0), (4, vi .u8 (ofB (List.getD a0 (Int.toNat 0) 0))), (5, vi .u8 x99), (6, vi .u8 x103)], []⟩) x103 ?_ ?_
       ·skip
        have h105 := h
        have h := j104
        refine t_cond cok ?_
        refine bi h (fun c106 h => ?_) (fun c106 h => ?_)
        ·skip
         exact ek h
        exact ek h
       refine t_reg cok ?_
       refine bk h fun t107 k108 h => ?_
       refine cl4 cok.g (rickyardref04_follows.sc fu _ _ _ _ _ k108) (vb t107) [] 0 ?_
       refine bi h (fun c109 h => ?_) (fun c109 h => ?_)
       ·skip
        refine bk h fun t110 k111 h => ?_
        refine cl4 cok.g (rickyardref04_follows.sc fu _ _ _ _ _ k111) (vb t110) [] 0 ?_
        refine bi h (fun c112 h => ?_) (fun c112 h => ?_)
        ·skip
         refine bk h fun t113 k114 h => ?_
         refine cl4 cok.g (rickyardref04_follows.sc fu _ _ _ _ _ k114) (vb t113) [] 0 ?_
         refine t_cond cok ?_
         refine bi h (fun c115 h => ?_) (fun c115 h => ?_)
         ·skip
          refine t_draw cok mo [⟨0, false, [4], [], 0, []⟩, ⟨1, false, [93], [], 0, [0]⟩, ⟨2, false, [94], [], 0, [0, 1]⟩, ⟨3, false, [95], [], 0, [0, 1, 2]⟩, ⟨4, false, [0], [], 0, []⟩, ⟨5, false, [97], [], 0, [4]⟩, ⟨6, false, [98], [], 0, [4, 5]⟩, ⟨7, false, [99], [], 0, [4, 5, 6]⟩, ⟨8, false, [100], [], 0, [4, 5, 6, 7]⟩, ⟨9, false, [96, 101], [], 0, cl 9⟩, ⟨10, false, [0], [], 0, []⟩, ⟨11, false, [103], [], 0, [10]⟩, ⟨12, false, [104], [], 0, [10, 11]⟩, ⟨13, false, [105], [], 0, [10, 11, 12]⟩, ⟨14, false, [106], [], 0, [10, 11, 12, 13]⟩, ⟨15, false, [102, 107], [], 0, cl 15⟩, ⟨16, false, [0], [], 0, []⟩, ⟨17, false, [109], [], 0, [16]⟩, ⟨18, false, [110], [], 0, [16, 17]⟩, ⟨19, false, [111], [], 0, [16, 17, 18]⟩, ⟨20, false, [108, 112], [], 0, cl 20⟩, ⟨21, false, [113], [], 0, cl 21⟩, ⟨22, false, [], [], 0, cl 22⟩] (by kernel_rfl) ?_
          refine agL h (by decide) fun h => ?_
          refine agL h (by decide) fun h => ?_
          refine agL h (by decide) fun h => ?_
          have hz := Option.some.inj h
          have h := h97
          rw [← hz] at h
          have hz := Option.some.inj h
          have h := h77
          rw [← hz] at h
          exact fk h
         exact esk h
        refine t_cond cok ?_
        exact esk h
       refine t_cond cok ?_
       exact esk h
      exact esk h
     subst hy
     exact esk h
    refine t_cond cok ?_
    exact esk h
   subst hy
   exact fk h
  refine t_cond cok ?_
  refine t_reg cok ?_
  refine bi h (fun c116 h => ?_) (fun c116 h => ?_)
  ·skip
   refine bk h fun x117 j118 h => ?_
   refine t_cutS cok (fun (_x : Unit) => ⟨[], []⟩) x117 ?_ (fun x119 hy => ?_)
   ·skip
    have h120 := h
    have h := j118
    refine t_cond cok ?_
    refine bi h (fun c121 h => ?_) (fun c121 h => ?_)
    ·skip
     refine bk h fun x122 j123 h => ?_
     refine t_cut cok (fun (x122 : Int) => ⟨[(0, vs a0), (4, vi .u8 (ofB (List.getD a0 (Int.toNat 0) 0))), (5, vi .u8 x122), (6, vi .u8 191)], []⟩) x122 ?_ ?_
     ·skip
      have h124 := h
      have h := j123
      refine t_cond cok ?_
      refine bi h (fun c125 h => ?_) (fun c125 h => ?_)
      ·skip
       exact ek h
      exact ek h
     refine bk h fun x126 j127 h => ?_
     refine t_cut cok (fun (x126 : Int) => ⟨[(0, vs a0), (4, vi .u8 (ofB (List.getD a0 (Int.toNat 0) 0))), (5, vi .u8 x122), (6, vi .u8 x126)], []⟩) x126 ?_ ?_
     ·skip
      have h128 := h
      have h := j127
      refine t_cond cok ?_
      refine bi h (fun c129 h => ?_) (fun c129 h => ?_)
      ·skip
       exact ek h
      exact ek h
     refine t_reg cok ?_
     refine bk h fun t130 k131 h => ?_
     refine cl4 cok.g (rickyardref04_follows.sc fu _ _ _ _ _ k131) (vb t130) [] 0 ?_
     refine bi h (fun c132 h => ?_) (fun c132 h => ?_)
     ·skip
      refine bk h fun t133 k134 h => ?_
      refine cl4 cok.g (rickyardref04_follows.sc fu _ _ _ _ _ k134) (vb t133) [] 0 ?_
      refine bi h (fun c135 h => ?_) (fun c135 h => ?_)
      ·skip
       refine bk h fun t136 k137 h => ?_
       refine cl4 cok.g (rickyardref04_follows.sc fu _ _ _ _ _ k137) (vb t136) [] 0 ?_
       refine t_cond cok ?_
       refine bi h (fun c138 h => ?_) (fun c138 h => ?_)
       ·skip
        refine t_draw cok mo [⟨0, false, [4], [], 0, []⟩, ⟨1, false, [93], [], 0, [0]⟩, ⟨2, false, [94], [], 0, [0, 1]⟩, ⟨3, false, [95], [], 0, [0, 1, 2]⟩, ⟨4, false, [0], [], 0, []⟩, ⟨5, false, [97], [], 0, [4]⟩, ⟨6, false, [98], [], 0, [4, 5]⟩, ⟨7, false, [99], [], 0, [4, 5, 6]⟩, ⟨8, false, [100], [], 0, [4, 5, 6, 7]⟩, ⟨9, false, [96, 101], [], 0, cl 9⟩, ⟨10, false, [0], [], 0, []⟩, ⟨11, false, [103], [], 0, [10]⟩, ⟨12, false, [104], [], 0, [10, 11]⟩, ⟨13, false, [105], [], 0, [10, 11, 12]⟩, ⟨14, false, [106], [], 0, [10, 11, 12, 13]⟩, ⟨15, false, [102, 107], [], 0, cl 15⟩, ⟨16, false, [0], [], 0, []⟩, ⟨17, false, [109], [], 0, [16]⟩, ⟨18, false, [110], [], 0, [16, 17]⟩, ⟨19, false, [111], [], 0, [16, 17, 18]⟩, ⟨20, false, [108, 112], [], 0, cl 20⟩, ⟨21, false, [113], [], 0, cl 21⟩, ⟨22, false, [], [], 0, cl 22⟩] (by kernel_rfl) ?_
        refine agL h (by decide) fun h => ?_
        refine agL h (by decide) fun h => ?_
        refine agL h (by decide) fun h => ?_
        have hz := Option.some.inj h
        have h := h120
        rw [← hz] at h
        exact fk h
       exact esk h
      refine t_cond cok ?_
      exact esk h
     refine t_cond cok ?_
     exact esk h
    exact esk h
   subst hy
   exact fk h
  refine t_cond cok ?_
  exact fk h
 refine t_cond cok ?_
 refine t_reg cok ?_
 refine bi h (fun c139 h => ?_) (fun c139 h => ?_)
 ·skip
  refine bk h fun x140 j141 h => ?_
  refine t_cutS cok (fun (_x : Unit) => ⟨[], []⟩) x140 ?_ (fun x142 hy => ?_)
  ·skip
   have h143 := h
   have h := j141
   refine t_cond cok ?_
   refine bi h (fun c144 h => ?_) (fun c144 h => ?_)
   ·skip
    refine bk h fun x145 j146 h => ?_
    refine t_cut cok (fun (x145 : Int) => ⟨[(0, vs a0), (4, vi .u8 (ofB (List.getD a0 (Int.toNat 0) 0))), (5, vi .u8 x145), (6, vi .u8 191)], []⟩) x145 ?_ ?_
    ·skip
     have h147 := h
     have h := j146
     refine t_cond cok ?_
     refine bi h (fun c148 h => ?_) (fun c148 h => ?_)
     ·skip
      exact ek h
     exact ek h
    refine bk h fun x149 j150 h => ?_
    refine t_cut cok (fun (x149 : Int) => ⟨[(0, vs a0), (4, vi .u8 (ofB (List.getD a0 (Int.toNat 0) 0))), (5, vi .u8 x145), (6, vi .u8 x149)], []⟩) x149 ?_ ?_
    ·skip
     have h151 := h
     have h := j150
     refine t_cond cok ?_
     refine bi h (fun c152 h => ?_) (fun c152 h => ?_)
     ·skip
      exact ek h
     exact ek h
    refine t_reg cok ?_
    refine bk h fun t153 k154 h => ?_
    refine cl4 cok.g (rickyardref04_follows.sc fu _ _ _ _ _ k154) (vb t153) [] 0 ?_
    refine bi h (fun c155 h => ?_) (fun c155 h => ?_)
    ·skip
     refine bk h fun t156 k157 h => ?_
     refine cl4 cok.g (rickyardref04_follows.sc fu _ _ _ _ _ k157) (vb t156) [] 0 ?_
     refine t_cond cok ?_
     refine bi h (fun c158 h => ?_) (fun c158 h => ?_)
     ·skip
      refine t_draw cok mo [⟨0, false, [4], [], 0, []⟩, ⟨1, false, [55], [], 0, [0]⟩, ⟨2, false, [56], [], 0, [0, 1]⟩, ⟨3, false, [57], [], 0, [0, 1, 2]⟩, ⟨4, false, [0], [], 0, []⟩, ⟨5, false, [59], [], 0, [4]⟩, ⟨6, false, [60], [], 0, [4, 5]⟩, ⟨7, false, [61], [], 0, [4, 5, 6]⟩, ⟨8, false, [62], [], 0, [4, 5, 6, 7]⟩, ⟨9, false, [58, 63], [], 0, cl 9⟩, ⟨10, false, [0], [], 0, []⟩, ⟨11, false, [65], [], 0, [10]⟩, ⟨12, false, [66], [], 0, [10, 11]⟩, ⟨13, false, [67], [], 0, [10, 11, 12]⟩, ⟨14, false, [64, 68], [], 0, cl 14⟩, ⟨15, false, [69], [], 0, cl 15⟩, ⟨16, false, [], [], 0, cl 16⟩] (by kernel_rfl) ?_
      refine agL h (by decide) fun h => ?_
      refine agL h (by decide) fun h => ?_
      have hz := Option.some.inj h
      have h := h143
      rw [← hz] at h
      exact fk h
     exact esk h
    refine t_cond cok ?_
    exact esk h
   refine t_reg cok ?_
   refine bi h (fun c159 h => ?_) (fun c159 h => ?_)
   ·skip
    refine bk h fun x160 j161 h => ?_
    refine t_cutS cok (fun (_x : Unit) => ⟨[], []⟩) x160 ?_ (fun x162 hy => ?_)
    ·skip
     have h163 := h
     have h := j161
     refine t_cond cok ?_
     refine bi h (fun c164 h => ?_) (fun c164 h => ?_)
     ·skip
      refine bk h fun x165 j166 h => ?_
      refine t_cut cok (fun (x165 : Int) => ⟨[(0, vs a0), (4, vi .u8 (ofB (List.getD a0 (Int.toNat 0) 0))), (5, vi .u8 x165), (6, vi .u8 191)], []⟩) x165 ?_ ?_
      ·skip
       have h167 := h
       have h := j166
       refine t_cond cok ?_
       refine bi h (fun c168 h => ?_) (fun c168 h => ?_)
       ·skip
        exact ek h
       exact ek h
      refine bk h fun x169 j170 h => ?_
      refine t_cut cok (fun (x169 : Int) => ⟨[(0, vs a0), (4, vi .u8 (ofB (List.getD a0 (Int.toNat 0) 0))), (5, vi .u8 x165), (6, vi .u8 x169)], []⟩) x169 ?_ ?_
      ·skip
       have h171 := h
       have h := j170
       refine t_cond cok ?_
       refine bi h (fun c172 h => ?_) (fun c172 h => ?_)
       ·skip
        exact ek h
       exact ek h
      refine t_reg cok ?_
      refine bk h fun t173 k174 h => ?_
      refine cl4 cok.g (rickyardref04_follows.sc fu _ _ _ _ _ k174) (vb t173) [] 0 ?_
      refine bi h (fun c175 h => ?_) (fun c175 h => ?_)
      ·skip
       refine bk h fun t176 k177 h => ?_
       refine cl4 cok.g (rickyardref04_follows.sc fu _ _ _ _ _ k177) (vb t176) [] 0 ?_
       refine bi h (fun c178 h => ?_) (fun c178 h => ?_)
       ·skip
        refine bk h fun t179 k180 h => ?_
        refine cl4 cok.g (rickyardref04_follows.sc fu _ _ _ _ _ k180) (vb t179) [] 0 ?_
        refine t_cond cok ?_
        refine bi h (fun c181 h => ?_) (fun c181 h => ?_)
        ·skip
         refine t_draw cok mo [⟨0, false, [4], [], 0, []⟩, ⟨1, false, [93], [], 0, [0]⟩, ⟨2, false, [94], [], 0, [0, 1]⟩, ⟨3, false, [95], [], 0, [0, 1, 2]⟩, ⟨4, false, [0], [], 0, []⟩, ⟨5, false, [97], [], 0, [4]⟩, ⟨6, false, [98], [], 0, [4, 5]⟩, ⟨7, false, [99], [], 0, [4, 5, 6]⟩, ⟨8, false, [100], [], 0, [4, 5, 6, 7]⟩, ⟨9, false, [96, 101], [], 0, cl 9⟩, ⟨10, false, [0], [], 0, []⟩, ⟨11, false, [103], [], 0, [10]⟩, ⟨12, false, [104], [], 0, [10, 11]⟩, ⟨13, false, [105], [], 0, [10, 11, 12]⟩, ⟨14, false, [106], [], 0, [10, 11, 12, 13]⟩, ⟨15, false, [102, 107], [], 0, cl 15⟩, ⟨16, false, [0], [], 0, []⟩, ⟨17, false, [109], [], 0, [16]⟩, ⟨18, false, [110], [], 0, [16, 17]⟩, ⟨19, false, [111], [], 0, [16, 17, 18]⟩, ⟨20, false, [108, 112], [], 0, cl 20⟩, ⟨21, false, [113], [], 0, cl 21⟩, ⟨22, false, [], [], 0, cl 22⟩] (by kernel_rfl) ?_
         refine agL h (by decide) fun h => ?_
         refine agL h (by decide) fun h => ?_
         refine agL h (by decide) fun h => ?_
         have hz := Option.some.inj h
         have h := h163
         rw [← hz] at h
         have hz := Option.some.inj h
         have h := h143
         rw [← hz] at h
         exact fk h
        exact esk h
       refine t_cond cok ?_
       exact esk h
      refine t_cond cok ?_
      exact esk h
     exact esk h
    subst hy
    exact esk h
   refine t_cond cok ?_
   exact esk h
  subst hy
  exact fk h
 refine t_cond cok ?_
 refine t_reg cok ?_
 refine bi h (fun c182 h => ?_) (fun c182 h => ?_)
 ·skip
  refine bk h fun x183 j184 h => ?_
  refine t_cutS cok (fun (_x : Unit) => ⟨[], []⟩) x183 ?_ (fun x185 hy => ?_)
  ·skip
   have h186 := h
   have h := j184
   refine t_cond cok ?_
   refine bi h (fun c187 h => ?_) (fun c187 h => ?_)
   ·skip
    refine bk h fun x188 j189 h => ?_
    refine t_cut cok (fun (x188 : Int) => ⟨[(0, vs a0), (4, vi .u8 (ofB (List.getD a0 (Int.toNat 0) 0))), (5, vi .u8 x188), (6, vi .u8 191)], []⟩) x188 ?_ ?_
    ·skip
     have h190 := h
     have h := j189
     refine t_cond cok ?_
     refine bi h (fun c191 h => ?_) (fun c191 h => ?_)
     ·skip
      exact ek h
     exact ek h
    refine bk h fun x192 j193 h => ?_
    refine t_cut cok (fun (x192 : Int) => ⟨[(0, vs a0), (4, vi .u8 (ofB (List.getD a0 (Int.toNat 0) 0))), (5, vi .u8 x188), (6, vi .u8 x192)], []⟩) x192 ?_ ?_
    ·skip
     have h194 := h
     have h := j193
     refine t_cond cok ?_
     refine bi h (fun c195 h => ?_) (fun c195 h => ?_)
     ·skip
      exact ek h
     exact ek h
    refine t_reg cok ?_
    refine bk h fun t196 k197 h => ?_
    refine cl4 cok.g (rickyardref04_follows.sc fu _ _ _ _ _ k197) (vb t196) [] 0 ?_
    refine bi h (fun c198 h => ?_) (fun c198 h => ?_)
    ·skip
     refine bk h fun t199 k200 h => ?_
     refine cl4 cok.g (rickyardref04_follows.sc fu _ _ _ _ _ k200) (vb t199) [] 0 ?_
     refine bi h (fun c201 h => ?_) (fun c201 h => ?_)
     ·skip
      refine bk h fun t202 k203 h => ?_
      refine cl4 cok.g (rickyardref04_follows.sc fu _ _ _ _ _ k203) (vb t202) [] 0 ?_
      refine t_cond cok ?_
      refine bi h (fun c204 h => ?_) (fun c204 h => ?_)
      ·skip
       refine t_draw cok mo [⟨0, false, [4], [], 0, []⟩, ⟨1, false, [93], [], 0, [0]⟩, ⟨2, false, [94], [], 0, [0, 1]⟩, ⟨3, false, [95], [], 0, [0, 1, 2]⟩, ⟨4, false, [0], [], 0, []⟩, ⟨5, false, [97], [], 0, [4]⟩, ⟨6, false, [98], [], 0, [4, 5]⟩, ⟨7, false, [99], [], 0, [4, 5, 6]⟩, ⟨8, false, [100], [], 0, [4, 5, 6, 7]⟩, ⟨9, false, [96, 101], [], 0, cl 9⟩, ⟨10, false, [0], [], 0, []⟩, ⟨11, false, [103], [], 0, [10]⟩, ⟨12, false, [104], [], 0, [10, 11]⟩, ⟨13, false, [105], [], 0, [10, 11, 12]⟩, ⟨14, false, [106], [], 0, [10, 11, 12, 13]⟩, ⟨15, false, [102, 107], [], 0, cl 15⟩, ⟨16, false, [0], [], 0, []⟩, ⟨17, false, [109], [], 0, [16]⟩, ⟨18, false, [110], [], 0, [16, 17]⟩, ⟨19, false, [111], [], 0, [16, 17, 18]⟩, ⟨20, false, [108, 112], [], 0, cl 20⟩, ⟨21, false, [113], [], 0, cl 21⟩, ⟨22, false, [], [], 0, cl 22⟩] (by kernel_rfl) ?_
       refine agL h (by decide) fun h => ?_
       refine agL h (by decide) fun h => ?_
       refine agL h (by decide) fun h => ?_
       have hz := Option.some.inj h
       have h := h186
       rw [← hz] at h
       exact fk h
      exact esk h
     refine t_cond cok ?_
     exact esk h
    refine t_cond cok ?_
    exact esk h
   exact esk h
  subst hy
  exact fk h
 refine t_cond cok ?_
 exact fk h
def rickyardref04_Runes.s0 (fu : Nat) : ((List UInt8) × (List Int)) → Option (Sum (List Int) ((List UInt8) × (List Int))) := fun s1 => (if (decide ((List.length s1.1 : Int) > 0)) then ((rickyardref04_First.f fu s1.1).bind fun t7 => if List.length s1.2 + List.length [t7.1] ≤ LIM then if 0 ≤ t7.2 ∧ t7.2 ≤ (List.length s1.1 : Int) then some (Sum.inr ((cut s1.1 t7.2 (List.length s1.1 : Int)), (s1.2 ++ [t7.1]))) else none else none) else some (Sum.inl (s1.2)))
def rickyardref04_Runes.f (fu : Nat) (a0 : List UInt8) : Option (List Int) := ((loopM (rickyardref04_Runes.s0 fu) fu (a0, ([] : List Int))).bind fun e2 => some (e2))
theorem rickyardref04_Runes.sc (fu : Nat) (a0 : List UInt8) (r : (List Int)) (h : rickyardref04_Runes.f fu a0 = some r) : SC Tryz.prog CT 85 [vs a0] [] (.sl 0 1 []) [.row (.int .i64) 3 (r : List Int)] := by
 unfold rickyardref04_Runes.f at h
 refine sq Tryz.func85 r (fun r => .sl 0 1 []) (fun r => [.row (.int .i64) 3 (r : List Int)]) fun X => ?_
 refine bk h fun e2 l3 h => ?_
 refine t_cutx cok 0 (fun (e2 : (List Int)) => ⟨[(3, .sl 0 1 [])], [.row (.int .i64) 3 (e2 : List Int)]⟩) e2 ?_ ?_
 ·skip
  have h4 := h
  refine t_loop cok (fun (s1 : (List UInt8) × (List Int)) => ⟨[(0, vs s1.1), (3, .sl 0 1 [])], [.row (.int .i64) 3 (s1.2 : List Int)]⟩) l3 (by kernel_rfl) (fun s1 x5 h => ?_)
  unfold rickyardref04_Runes.s0 at h
  refine t_cond cok ?_
  refine bi h (fun c6 h => ?_) (fun c6 h => ?_)
  ·skip
   refine bk h fun t7 k8 h => ?_
   refine cl4 cok.g (rickyardref04_First.sc fu _ _ k8) (.tup [vi .i64 t7.1, vi .i64 t7.2]) [] 1 ?_
   refine ag h fun h => ?_
   refine ag h fun h => ?_
   exact lik h
  exact lpx h fun hy => ek (sj hy)
 exact fk h
def rickyardref04_Right.s0 (fu : Nat) (t1 : (List Int)) : (Bool × Int) → Option (Sum Bool (Bool × Int)) := fun s4 => (if (decide (s4.2 < (List.length t1 : Int))) then (if s4.1 then if 0 ≤ s4.2 ∧ s4.2 < (List.length t1 : Int) then ((rickyardref04_Of.f fu (ix t1 s4.2)).bind fun t11 => some (Sum.inr (t11, (IntKind.i64.wrap (s4.2 + 1))))) else none else some (Sum.inr (false, (IntKind.i64.wrap (s4.2 + 1))))) else some (Sum.inl (s4.1)))
def rickyardref04_Right.s1 (fu : Nat) (t1 : (List Int)) : (Bool × Int) → Option (Sum Bool (Bool × Int)) := fun s13 => (if (decide (s13.2 < (List.length t1 : Int))) then (if s13.1 then if 0 ≤ s13.2 ∧ s13.2 < (List.length t1 : Int) then ((rickyardref04_Of.f fu (ix t1 s13.2)).bind fun t20 => some (Sum.inr (t20, (IntKind.i64.wrap (s13.2 + 1))))) else none else some (Sum.inr (false, (IntKind.i64.wrap (s13.2 + 1))))) else some (Sum.inl (s13.1)))
def rickyardref04_Right.f (fu : Nat) (a0 : List UInt8) : Option Bool := ((rickyardref04_Runes.f fu a0).bind fun t1 => (if (decide ((List.length t1 : Int) > 0)) then ((loopM (rickyardref04_Right.s0 fu t1) fu ((decide ((List.length t1 : Int) ≤ 8)), 0)).bind fun e5 => some (e5)) else ((loopM (rickyardref04_Right.s1 fu t1) fu (false, 0)).bind fun e14 => some (e14))))
theorem rickyardref04_Right.sc (fu : Nat) (a0 : List UInt8) (r : Bool) (h : rickyardref04_Right.f fu a0 = some r) : SC Tryz.prog CT 66 [vs a0] [] (vb r) [] := by
 unfold rickyardref04_Right.f at h
 refine sq Tryz.func66 r (fun r => vb r) (fun r => []) fun X => ?_
 refine bk h fun t1 k2 h => ?_
 refine cl4 cok.g (rickyardref04_Runes.sc fu _ _ k2) (.sl 0 1 []) [(0, .row (.int .i64) 3 (t1 : List Int))] 1 ?_
 refine t_reg cok ?_
 refine bi h (fun c3 h => ?_) (fun c3 h => ?_)
 ·skip
  refine bk h fun e5 l6 h => ?_
  refine t_cutx cok 0 (fun (e5 : Bool) => ⟨[(4, vb e5)], []⟩) e5 ?_ ?_
  ·skip
   have h7 := h
   refine t_loop cok (fun (s4 : Bool × Int) => ⟨[(3, .sl 0 1 []), (4, vb s4.1), (5, vi .i64 s4.2)], [.row (.int .i64) 3 (t1 : List Int)]⟩) l6 (by kernel_rfl) (fun s4 x8 h => ?_)
   unfold rickyardref04_Right.s0 at h
   refine t_cond cok ?_
   refine bi h (fun c9 h => ?_) (fun c9 h => ?_)
   ·skip
    refine t_reg cok ?_
    refine bi h (fun c10 h => ?_) (fun c10 h => ?_)
    ·skip
     refine ag h fun h => ?_
     refine bk h fun t11 k12 h => ?_
     refine cl4 cok.g (rickyardref04_Of.sc fu _ _ k12) (vb t11) [] 1 ?_
     exact lik h
    exact lik h
   exact lpx h fun hy => ek (sj hy)
  exact fk h
 refine bk h fun e14 l15 h => ?_
 refine t_cutx cok 0 (fun (e14 : Bool) => ⟨[(4, vb e14)], []⟩) e14 ?_ ?_
 ·skip
  have h16 := h
  refine t_loop cok (fun (s13 : Bool × Int) => ⟨[(3, .sl 0 1 []), (4, vb s13.1), (5, vi .i64 s13.2)], [.row (.int .i64) 3 (t1 : List Int)]⟩) l15 (by kernel_rfl) (fun s13 x17 h => ?_)
  unfold rickyardref04_Right.s1 at h
  refine t_cond cok ?_
  refine bi h (fun c18 h => ?_) (fun c18 h => ?_)
  ·skip
   refine t_reg cok ?_
   refine bi h (fun c19 h => ?_) (fun c19 h => ?_)
   ·skip
    refine ag h fun h => ?_
    refine bk h fun t20 k21 h => ?_
    refine cl4 cok.g (rickyardref04_Of.sc fu _ _ k21) (vb t20) [] 1 ?_
    exact lik h
   exact lik h
  exact lpx h fun hy => ek (sj hy)
 exact fk h
def rickyardref11_Right.s0 (fu : Nat) (a0 : S_api_Queue) : (Int × Int) → Option (Sum (Sum Bool Unit) (Int × Int)) := fun s6 => (if (decide (s6.2 < 12)) then (if (decide ((Int.tmod s6.1 2) = 0)) then if 0 ≤ s6.2 ∧ s6.2 < 12 then (if (!decide ((Arr.get a0.Roots s6.2) = 0)) then some (Sum.inl (Sum.inl (false))) else (if (decide ((Int.tmod s6.1 2) = 1)) then if 0 ≤ s6.2 ∧ s6.2 < 12 then ((rickyardref08_Block.f fu (Arr.get a0.Roots s6.2)).bind fun t16 => (if (!t16) then some (Sum.inl (Sum.inl (false))) else some (Sum.inr ((IntKind.i64.wrap (Int.tdiv s6.1 2)), (IntKind.i64.wrap (s6.2 + 1)))))) else none else some (Sum.inr ((IntKind.i64.wrap (Int.tdiv s6.1 2)), (IntKind.i64.wrap (s6.2 + 1)))))) else none else (if (decide ((Int.tmod s6.1 2) = 1)) then if 0 ≤ s6.2 ∧ s6.2 < 12 then ((rickyardref08_Block.f fu (Arr.get a0.Roots s6.2)).bind fun t20 => (if (!t20) then some (Sum.inl (Sum.inl (false))) else some (Sum.inr ((IntKind.i64.wrap (Int.tdiv s6.1 2)), (IntKind.i64.wrap (s6.2 + 1)))))) else none else some (Sum.inr ((IntKind.i64.wrap (Int.tdiv s6.1 2)), (IntKind.i64.wrap (s6.2 + 1)))))) else some (Sum.inl (Sum.inr ())))
def rickyardref11_Right.f (fu : Nat) (a0 : S_api_Queue) : Option Bool := ((rickyardref04_Right.f fu a0.Name).bind fun t1 => (if (!t1) then some (false) else (if (decide (a0.Count < 0)) then some (false) else (if (decide (a0.Count > 4095)) then some (false) else ((loopM (rickyardref11_Right.s0 fu a0) fu (a0.Count, 0)).bind fun e7 => match e7 with | Sum.inl p => some p | Sum.inr x9 => some (true))))))
theorem rickyardref11_Right.sc (fu : Nat) (a0 : S_api_Queue) (r : Bool) (h : rickyardref11_Right.f fu a0 = some r) : SC Tryz.prog CT 42 [.v (.st .S_api_Queue) (a0 : S_api_Queue)] [] (vb r) [] := by
 unfold rickyardref11_Right.f at h
 refine sq Tryz.func42 r (fun r => vb r) (fun r => []) fun X => ?_
 refine t_reg cok ?_
 refine bk h fun t1 k2 h => ?_
 refine cl4 cok.g (rickyardref04_Right.sc fu _ _ k2) (vb t1) [] 1 ?_
 refine bi h (fun c3 h => ?_) (fun c3 h => ?_)
 ·skip
  refine t_cond cok ?_
  exact fk h
 refine bi h (fun c4 h => ?_) (fun c4 h => ?_)
 ·skip
  refine t_cond cok ?_
  exact fk h
 refine t_cond cok ?_
 refine bi h (fun c5 h => ?_) (fun c5 h => ?_)
 ·skip
  exact fk h
 refine bk h fun e7 l8 h => ?_
 refine t_cutxS cok 0 (fun (_x : Unit) => ⟨[], []⟩) e7 ?_ (fun x9 hy => ?_)
 ·skip
  have h10 := h
  refine t_loop cok (fun (s6 : Int × Int) => ⟨[(1, .ptr 0 0), (3, vi .i64 s6.1), (4, vi .i64 s6.2)], [.box 77 (.v (.st .S_api_Queue) (a0 : S_api_Queue))]⟩) l8 (by kernel_rfl) (fun s6 x11 h => ?_)
  unfold rickyardref11_Right.s0 at h
  refine t_cond cok ?_
  refine bi h (fun c12 h => ?_) (fun c12 h => ?_)
  ·skip
   refine t_reg cok ?_
   refine ⟨by decide, ?_⟩
   refine bi h (fun c13 h => ?_) (fun c13 h => ?_)
   ·skip
    refine ag h fun h => ?_
    refine bi h (fun c14 h => ?_) (fun c14 h => ?_)
    ·skip
     refine t_cond cok ?_
     refine lpr h (fun hy => ?_)
     have h := h10
     rw [← hy] at h
     exact fk h
    refine ⟨by decide, ?_⟩
    refine bi h (fun c15 h => ?_) (fun c15 h => ?_)
    ·skip
     refine ag h fun h => ?_
     refine bk h fun t16 k17 h => ?_
     refine cl4 cok.g (rickyardref08_Block.sc fu _ _ k17) (vb t16) [] 1 ?_
     refine t_cond cok ?_
     refine bi h (fun c18 h => ?_) (fun c18 h => ?_)
     ·skip
      refine lpr h (fun hy => ?_)
      have h := h10
      rw [← hy] at h
      exact fk h
     refine ⟨by decide, ?_⟩
     exact lik h
    refine t_cond cok ?_
    refine ⟨by decide, ?_⟩
    exact lik h
   refine ⟨by decide, ?_⟩
   refine bi h (fun c19 h => ?_) (fun c19 h => ?_)
   ·skip
    refine ag h fun h => ?_
    refine bk h fun t20 k21 h => ?_
    refine cl4 cok.g (rickyardref08_Block.sc fu _ _ k21) (vb t20) [] 1 ?_
    refine t_cond cok ?_
    refine bi h (fun c22 h => ?_) (fun c22 h => ?_)
    ·skip
     refine lpr h (fun hy => ?_)
     have h := h10
     rw [← hy] at h
     exact fk h
    refine ⟨by decide, ?_⟩
    exact lik h
   refine t_cond cok ?_
   refine ⟨by decide, ?_⟩
   exact lik h
  exact lpx h fun hy => esk (sj hy)
 subst hy
 exact fk h
def rickyardref11_Get.s0 (fu : Nat) (t1 : Int × Int × (List UInt8) × Bool) : (Int × S_api_Queue) → Option (Sum S_api_Queue (Int × S_api_Queue)) := fun s8 => (if (decide (s8.1 < 12)) then if (0 : Int) ≤ (IntKind.i64.wrap (4 + (IntKind.i64.wrap (2 * s8.1)))) ∧ (IntKind.i64.wrap (4 + (IntKind.i64.wrap (2 * s8.1)))) ≤ (IntKind.i64.wrap (6 + (IntKind.i64.wrap (2 * s8.1)))) ∧ (IntKind.i64.wrap (6 + (IntKind.i64.wrap (2 * s8.1)))) ≤ (List.length t1.2.2.1 : Int) then ((rickyardref01_Int.f fu (cut t1.2.2.1 (IntKind.i64.wrap (4 + (IntKind.i64.wrap (2 * s8.1)))) (IntKind.i64.wrap (6 + (IntKind.i64.wrap (2 * s8.1)))))).bind fun t14 => if 0 ≤ s8.1 ∧ s8.1 < 12 then some (Sum.inr ((IntKind.i64.wrap (s8.1 + 1)), (⟨s8.2.Name, s8.2.Count, (Arr.set s8.2.Roots s8.1 t14)⟩ : S_api_Queue))) else none) else none else some (Sum.inl (s8.2)))
def rickyardref11_Get.f (fu : Nat) (a0 : List Int) : Option (S_api_Queue × Bool) := ((rickyardref07_Open.f fu a0).bind fun t1 => (if (!t1.2.2.2) then some ((⟨[], (0 : Int), (Arr.rep 12 (0 : Int))⟩ : S_api_Queue), false) else (if (!decide (t1.1 = 5)) then some ((⟨[], (0 : Int), (Arr.rep 12 (0 : Int))⟩ : S_api_Queue), false) else (if (decide (t1.2.1 > 28)) then some ((⟨[], (0 : Int), (Arr.rep 12 (0 : Int))⟩ : S_api_Queue), false) else if (4 : Int) ≤ (List.length t1.2.2.1 : Int) then ((rickyardref01_Int.f fu (cut t1.2.2.1 0 4)).bind fun t6 => if (0 : Int) ≤ 28 ∧ 28 ≤ (IntKind.i64.wrap (28 + t1.2.1)) ∧ (IntKind.i64.wrap (28 + t1.2.1)) ≤ (List.length t1.2.2.1 : Int) then ((loopM (rickyardref11_Get.s0 fu t1) fu (0, (⟨(cut t1.2.2.1 28 (IntKind.i64.wrap (28 + t1.2.1))), t6, (Arr.rep 12 (0 : Int))⟩ : S_api_Queue))).bind fun e9 => ((rickyardref11_Right.f fu e9).bind fun t16 => (if (!t16) then some ((⟨[], (0 : Int), (Arr.rep 12 (0 : Int))⟩ : S_api_Queue), false) else ((rickyardref11_Put.f fu e9).bind fun t19 => (if (!decide (t19 = (List.map toB a0))) then some ((⟨[], (0 : Int), (Arr.rep 12 (0 : Int))⟩ : S_api_Queue), false) else some (e9, true)))))) else none) else none))))
theorem rickyardref11_Get.sc (fu : Nat) (a0 : List Int) (r : S_api_Queue × Bool) (h : rickyardref11_Get.f fu a0 = some r) : SC Tryz.prog CT 30 [.v (.sl (.int .u8)) (a0 : List Int)] [] (.tup [.v (.st .S_api_Queue) (r.1 : S_api_Queue), vb r.2]) [] := by
 unfold rickyardref11_Get.f at h
 refine sq Tryz.func30 r (fun r => .tup [.v (.st .S_api_Queue) (r.1 : S_api_Queue), vb r.2]) (fun r => []) fun X => ?_
 refine bk h fun t1 k2 h => ?_
 refine cl4 cok.g (rickyardref07_Open.sc fu _ _ k2) (.tup [vi .i64 t1.1, vi .i64 t1.2.1, vs t1.2.2.1, vb t1.2.2.2]) [] 1 ?_
 refine t_reg cok ?_
 refine bi h (fun c3 h => ?_) (fun c3 h => ?_)
 ·skip
  refine t_cond cok ?_
  exact fk h
 refine bi h (fun c4 h => ?_) (fun c4 h => ?_)
 ·skip
  refine t_cond cok ?_
  exact fk h
 refine t_cond cok ?_
 refine bi h (fun c5 h => ?_) (fun c5 h => ?_)
 ·skip
  exact fk h
 refine t_draw cok mo [⟨0, false, [6], [], 0, []⟩, ⟨1, false, [28], [], 0, [0]⟩, ⟨2, true, [29], [], 0, [0, 1]⟩, ⟨3, false, [6], [], 0, []⟩, ⟨4, false, [5], [], 0, []⟩, ⟨5, false, [32], [], 0, [4]⟩, ⟨6, false, [31, 33], [], 0, [3, 4, 5]⟩, ⟨7, false, [30, 34], [], 0, cl 7⟩, ⟨8, true, [], [], 1, []⟩, ⟨9, true, [8, 35], [1], 0, cl 9⟩] (by kernel_rfl) ?_
 refine agL h (by decide) fun h => ?_
 refine bk h fun t6 k7 h => ?_
 refine cl4 cok.g (rickyardref01_Int.sc fu _ _ k7) (vi .i64 t6) [] 1 ?_
 refine ag h fun h => ?_
 refine bk h fun e9 l10 h => ?_
 refine t_cutx cok 0 (fun (e9 : S_api_Queue) => ⟨[(0, .v (.sl (.int .u8)) (a0 : List Int)), (2, .ptr 0 0), (8, .ptr 1 0)], [.box 77 (.v (.st .S_api_Queue) ((⟨[], (0 : Int), (Arr.rep 12 (0 : Int))⟩ : S_api_Queue) : S_api_Queue)), .box 77 (.v (.st .S_api_Queue) (e9 : S_api_Queue))]⟩) e9 ?_ ?_
 ·skip
  have h11 := h
  refine t_loop cok (fun (s8 : Int × S_api_Queue) => ⟨[(0, .v (.sl (.int .u8)) (a0 : List Int)), (2, .ptr 0 0), (6, vs t1.2.2.1), (8, .ptr 1 0), (9, vi .i64 s8.1)], [.box 77 (.v (.st .S_api_Queue) ((⟨[], (0 : Int), (Arr.rep 12 (0 : Int))⟩ : S_api_Queue) : S_api_Queue)), .box 77 (.v (.st .S_api_Queue) (s8.2 : S_api_Queue))]⟩) l10 (by kernel_rfl) (fun s8 x12 h => ?_)
  unfold rickyardref11_Get.s0 at h
  refine t_cond cok ?_
  refine bi h (fun c13 h => ?_) (fun c13 h => ?_)
  ·skip
   refine ag h fun h => ?_
   refine bk h fun t14 k15 h => ?_
   refine cl4 cok.g (rickyardref01_Int.sc fu _ _ k15) (vi .i64 t14) [] 2 ?_
   refine ag h fun h => ?_
   exact lik h
  exact lpx h fun hy => ek (sj hy)
 refine t_draw cok mo [⟨0, false, [8], [1], 0, []⟩, ⟨1, true, [52], [], 0, [0]⟩, ⟨2, false, [53], [], 0, [0, 1]⟩, ⟨3, false, [54], [], 0, [0, 1, 2]⟩, ⟨4, false, [8, 55], [1], 0, cl 4⟩, ⟨5, true, [55, 56], [], 0, cl 5⟩, ⟨6, false, [0, 55], [], 0, cl 4⟩, ⟨7, false, [55, 58], [], 0, cl 4 ++ [6]⟩, ⟨8, false, [55, 57, 59], [], 0, cl 8⟩, ⟨9, true, [55, 60], [], 0, cl 9⟩] (by kernel_rfl) ?_
 refine bk h fun t16 k17 h => ?_
 refine cl4 cok.g (rickyardref11_Right.sc fu _ _ k17) (vb t16) [] 2 ?_
 refine bi h (fun c18 h => ?_) (fun c18 h => ?_)
 ·skip
  refine t_cond cok ?_
  exact fk h
 refine bk h fun t19 k20 h => ?_
 refine cl4 cok.g (rickyardref11_Put.sc fu _ _ k20) (vs t19) [] 2 ?_
 refine t_cond cok ?_
 refine bi h (fun c21 h => ?_) (fun c21 h => ?_)
 ·skip
  exact fk h
 exact fk h
def rickyardref11_GetDir.s0 (fu : Nat) (t1 : Int × Int × (List UInt8) × Bool) : ((List Int) × Int) → Option (Sum (List Int) ((List Int) × Int)) := fun s6 => (if (decide (s6.2 < t1.2.1)) then if (0 : Int) ≤ (IntKind.i64.wrap (2 * s6.2)) ∧ (IntKind.i64.wrap (2 * s6.2)) ≤ (IntKind.i64.wrap ((IntKind.i64.wrap (2 * s6.2)) + 2)) ∧ (IntKind.i64.wrap ((IntKind.i64.wrap (2 * s6.2)) + 2)) ≤ (List.length t1.2.2.1 : Int) then ((rickyardref01_Int.f fu (cut t1.2.2.1 (IntKind.i64.wrap (2 * s6.2)) (IntKind.i64.wrap ((IntKind.i64.wrap (2 * s6.2)) + 2)))).bind fun t12 => if List.length s6.1 + List.length [t12] ≤ LIM then some (Sum.inr ((s6.1 ++ [t12]), (IntKind.i64.wrap (s6.2 + 1)))) else none) else none else some (Sum.inl (s6.1)))
def rickyardref11_GetDir.f (fu : Nat) (a0 : List Int) : Option ((List Int) × Bool) := ((rickyardref07_Open.f fu a0).bind fun t1 => (if (!t1.2.2.2) then some ([], false) else (if (!decide (t1.1 = 6)) then some ([], false) else (if (decide (t1.2.1 > 16)) then some ([], false) else ((loopM (rickyardref11_GetDir.s0 fu t1) fu (([] : List Int), 0)).bind fun e7 => ((rickyardref11_Dir.f fu e7).bind fun t14 => (if (!t14.2) then some ([], false) else (if (!decide (t14.1 = (List.map toB a0))) then some ([], false) else some (e7, true)))))))))
theorem rickyardref11_GetDir.sc (fu : Nat) (a0 : List Int) (r : (List Int) × Bool) (h : rickyardref11_GetDir.f fu a0 = some r) : SC Tryz.prog CT 31 [.v (.sl (.int .u8)) (a0 : List Int)] [] (.tup [.sl 0 1 [], vb r.2]) [.row (.int .i64) 3 (r.1 : List Int)] := by
 unfold rickyardref11_GetDir.f at h
 refine sq Tryz.func31 r (fun r => .tup [.sl 0 1 [], vb r.2]) (fun r => [.row (.int .i64) 3 (r.1 : List Int)]) fun X => ?_
 refine bk h fun t1 k2 h => ?_
 refine cl4 cok.g (rickyardref07_Open.sc fu _ _ k2) (.tup [vi .i64 t1.1, vi .i64 t1.2.1, vs t1.2.2.1, vb t1.2.2.2]) [] 0 ?_
 refine t_reg cok ?_
 refine bi h (fun c3 h => ?_) (fun c3 h => ?_)
 ·skip
  refine t_cond cok ?_
  exact fk h
 refine bi h (fun c4 h => ?_) (fun c4 h => ?_)
 ·skip
  refine t_cond cok ?_
  exact fk h
 refine t_cond cok ?_
 refine bi h (fun c5 h => ?_) (fun c5 h => ?_)
 ·skip
  exact fk h
 refine bk h fun e7 l8 h => ?_
 refine t_cutx cok 0 (fun (e7 : (List Int)) => ⟨[(0, .v (.sl (.int .u8)) (a0 : List Int)), (8, .sl 0 1 [])], [.row (.int .i64) 3 (e7 : List Int)]⟩) e7 ?_ ?_
 ·skip
  have h9 := h
  refine t_loop cok (fun (s6 : (List Int) × Int) => ⟨[(0, .v (.sl (.int .u8)) (a0 : List Int)), (5, vi .i64 t1.2.1), (6, vs t1.2.2.1), (8, .sl 0 1 []), (9, vi .i64 s6.2)], [.row (.int .i64) 3 (s6.1 : List Int)]⟩) l8 (by kernel_rfl) (fun s6 x10 h => ?_)
  unfold rickyardref11_GetDir.s0 at h
  refine t_cond cok ?_
  refine bi h (fun c11 h => ?_) (fun c11 h => ?_)
  ·skip
   refine ag h fun h => ?_
   refine bk h fun t12 k13 h => ?_
   refine cl4 cok.g (rickyardref01_Int.sc fu _ _ k13) (vi .i64 t12) [] 1 ?_
   refine ag h fun h => ?_
   exact lik h
  exact lpx h fun hy => ek (sj hy)
 refine bk h fun t14 k15 h => ?_
 refine cl4 cok.g (rickyardref11_Dir.sc fu _ _ k15) (.tup [vs t14.1, vb t14.2]) [] 1 ?_
 refine t_reg cok ?_
 refine bi h (fun c16 h => ?_) (fun c16 h => ?_)
 ·skip
  refine t_cond cok ?_
  exact fk h
 refine t_cond cok ?_
 refine bi h (fun c17 h => ?_) (fun c17 h => ?_)
 ·skip
  exact fk h
 exact fk h
def rickyardref13_Put.s0 (fu : Nat) (a0 : S_api_Super) : ((List UInt8) × Int) → Option (Sum (List UInt8) ((List UInt8) × Int)) := fun s17 => (if (decide (s17.2 < (List.length a0.Charts : Int))) then if 0 ≤ s17.2 ∧ s17.2 < (List.length a0.Charts : Int) then ((rickyardref01_Lay.f fu (IntKind.u64.wrap (ix a0.Charts s17.2)) 2).bind fun t23 => if List.length s17.1 + List.length t23 ≤ LIM then some (Sum.inr ((s17.1 ++ t23), (IntKind.i64.wrap (s17.2 + 1)))) else none) else none else some (Sum.inl (s17.1)))
def rickyardref13_Put.f (fu : Nat) (a0 : S_api_Super) : Option (List UInt8) := ((rickyardref01_Lay.f fu (IntKind.u64.wrap a0.Epoch) 8).bind fun t1 => ((rickyardref01_Lay.f fu (IntKind.u64.wrap a0.Tickets.Geometry.Blocks) 4).bind fun t3 => if List.length t1 + List.length t3 ≤ LIM then ((rickyardref01_Lay.f fu (IntKind.u64.wrap a0.Tickets.Geometry.Slots) 4).bind fun t5 => if List.length (t1 ++ t3) + List.length t5 ≤ LIM then ((rickyardref01_Lay.f fu (IntKind.u64.wrap a0.Tickets.Geometry.Gens) 4).bind fun t7 => if List.length ((t1 ++ t3) ++ t5) + List.length t7 ≤ LIM then ((rickyardref01_Lay.f fu (IntKind.u64.wrap a0.Tickets.High) 4).bind fun t9 => if List.length (((t1 ++ t3) ++ t5) ++ t7) + List.length t9 ≤ LIM then ((rickyardref01_Lay.f fu (IntKind.u64.wrap a0.Tickets.Free) 4).bind fun t11 => if List.length ((((t1 ++ t3) ++ t5) ++ t7) ++ t9) + List.length t11 ≤ LIM then ((rickyardref01_Lay.f fu (IntKind.u64.wrap a0.Tickets.Top) 2).bind fun t13 => if List.length (((((t1 ++ t3) ++ t5) ++ t7) ++ t9) ++ t11) + List.length t13 ≤ LIM then ((rickyardref01_Lay.f fu (IntKind.u64.wrap a0.Dir) 2).bind fun t15 => if List.length ((((((t1 ++ t3) ++ t5) ++ t7) ++ t9) ++ t11) ++ t13) + List.length t15 ≤ LIM then ((loopM (rickyardref13_Put.s0 fu a0) fu ((((((((t1 ++ t3) ++ t5) ++ t7) ++ t9) ++ t11) ++ t13) ++ t15), 0)).bind fun e18 => ((rickyardref07_Seal.f fu 7 (List.length a0.Charts : Int) e18).bind fun t25 => some (t25))) else none) else none) else none) else none) else none) else none) else none))
theorem rickyardref13_Put.sc (fu : Nat) (a0 : S_api_Super) (r : (List UInt8)) (h : rickyardref13_Put.f fu a0 = some r) : SC Tryz.prog CT 46 [.v (.st .S_api_Super) (a0 : S_api_Super)] [] (vs r) [] := by
 unfold rickyardref13_Put.f at h
 refine sq Tryz.func46 r (fun r => vs r) (fun r => []) fun X => ?_
 refine t_draw cok mo [⟨0, false, [1], [], 0, []⟩, ⟨1, false, [5], [0], 0, [0]⟩, ⟨2, false, [6], [], 0, [0, 1]⟩, ⟨3, true, [7], [], 0, [0, 1, 2]⟩, ⟨4, false, [1], [], 0, []⟩, ⟨5, false, [9], [], 0, [4]⟩, ⟨6, false, [10], [], 0, [4, 5]⟩, ⟨7, false, [11], [0], 0, [4, 5, 6]⟩, ⟨8, false, [12], [], 0, [4, 5, 6, 7]⟩, ⟨9, true, [13], [], 0, cl 9⟩, ⟨10, false, [8, 14], [], 0, cl 10⟩, ⟨11, false, [1], [], 0, []⟩, ⟨12, false, [16], [], 0, [11]⟩, ⟨13, false, [17], [], 0, [11, 12]⟩, ⟨14, false, [18], [0], 0, [11, 12, 13]⟩, ⟨15, false, [19], [], 0, [11, 12, 13, 14]⟩, ⟨16, true, [20], [], 0, cl 10 ++ [11, 12, 13, 14, 15]⟩, ⟨17, false, [15, 21], [], 0, cl 17⟩, ⟨18, false, [1], [], 0, []⟩, ⟨19, false, [23], [], 0, [18]⟩, ⟨20, false, [24], [], 0, [18, 19]⟩, ⟨21, false, [25], [0], 0, [18, 19, 20]⟩, ⟨22, false, [26], [], 0, [18, 19, 20, 21]⟩, ⟨23, true, [27], [], 0, cl 10 ++ [11, 12, 13, 14, 15, 16, 18, 19, 20, 21, 22]⟩, ⟨24, false, [22, 28], [], 0, cl 24⟩, ⟨25, false, [1], [], 0, []⟩, ⟨26, false, [30], [], 0, [25]⟩, ⟨27, false, [31], [0], 0, [25, 26]⟩, ⟨28, false, [32], [], 0, [25, 26, 27]⟩, ⟨29, true, [33], [], 0, cl 10 ++ [11, 12, 13, 14, 15, 16, 18, 19, 20, 21, 22, 23, 25, 26, 27, 28]⟩, ⟨30, false, [29, 34], [], 0, cl 30⟩, ⟨31, false, [1], [], 0, []⟩, ⟨32, false, [36], [], 0, [31]⟩, ⟨33, false, [37], [0], 0, [31, 32]⟩, ⟨34, false, [38], [], 0, [31, 32, 33]⟩, ⟨35, true, [39], [], 0, cl 10 ++ [11, 12, 13, 14, 15, 16, 18, 19, 20, 21, 22, 23, 25, 26, 27, 28, 29, 31, 32, 33, 34]⟩, ⟨36, false, [35, 40], [], 0, cl 36⟩, ⟨37, false, [41], [], 0, cl 37⟩] (by kernel_rfl) ?_
 refine bk h fun t1 k2 h => ?_
 refine cl4 cok.g (rickyardref01_Lay.sc fu _ _ _ k2) (vs t1) [] 1 ?_
 refine bk h fun t3 k4 h => ?_
 refine cl4 cok.g (rickyardref01_Lay.sc fu _ _ _ k4) (vs t3) [] 1 ?_
 refine ag h fun h => ?_
 refine bk h fun t5 k6 h => ?_
 refine cl4 cok.g (rickyardref01_Lay.sc fu _ _ _ k6) (vs t5) [] 1 ?_
 refine ag h fun h => ?_
 refine bk h fun t7 k8 h => ?_
 refine cl4 cok.g (rickyardref01_Lay.sc fu _ _ _ k8) (vs t7) [] 1 ?_
 refine ag h fun h => ?_
 refine bk h fun t9 k10 h => ?_
 refine cl4 cok.g (rickyardref01_Lay.sc fu _ _ _ k10) (vs t9) [] 1 ?_
 refine ag h fun h => ?_
 refine bk h fun t11 k12 h => ?_
 refine cl4 cok.g (rickyardref01_Lay.sc fu _ _ _ k12) (vs t11) [] 1 ?_
 refine ag h fun h => ?_
 refine t_draw cok mo [⟨0, false, [3], [], 0, []⟩, ⟨1, false, [1], [], 0, []⟩, ⟨2, false, [43], [], 0, [1]⟩, ⟨3, false, [44], [0], 0, [1, 2]⟩, ⟨4, false, [45], [], 0, [1, 2, 3]⟩, ⟨5, true, [46], [], 0, [1, 2, 3, 4]⟩, ⟨6, false, [42, 47], [], 0, cl 6⟩, ⟨7, false, [1], [], 0, []⟩, ⟨8, false, [49], [0], 0, [7]⟩, ⟨9, false, [50], [], 0, [7, 8]⟩, ⟨10, true, [51], [], 0, [1, 2, 3, 4, 5, 7, 8, 9]⟩, ⟨11, false, [48, 52], [], 0, cl 11⟩, ⟨12, false, [53], [], 0, cl 12⟩] (by kernel_rfl) ?_
 refine bk h fun t13 k14 h => ?_
 refine cl4 cok.g (rickyardref01_Lay.sc fu _ _ _ k14) (vs t13) [] 1 ?_
 refine ag h fun h => ?_
 refine bk h fun t15 k16 h => ?_
 refine cl4 cok.g (rickyardref01_Lay.sc fu _ _ _ k16) (vs t15) [] 1 ?_
 refine ag h fun h => ?_
 refine bk h fun e18 l19 h => ?_
 refine t_cutx cok 0 (fun (e18 : (List UInt8)) => ⟨[(1, .ptr 0 0), (3, vs e18)], [.box 87 (.v (.st .S_api_Super) (a0 : S_api_Super))]⟩) e18 ?_ ?_
 ·skip
  have h20 := h
  refine t_loop cok (fun (s17 : (List UInt8) × Int) => ⟨[(1, .ptr 0 0), (3, vs s17.1), (4, vi .i64 s17.2)], [.box 87 (.v (.st .S_api_Super) (a0 : S_api_Super))]⟩) l19 (by kernel_rfl) (fun s17 x21 h => ?_)
  unfold rickyardref13_Put.s0 at h
  refine t_cond cok ?_
  refine bi h (fun c22 h => ?_) (fun c22 h => ?_)
  ·skip
   refine ag h fun h => ?_
   refine bk h fun t23 k24 h => ?_
   refine cl4 cok.g (rickyardref01_Lay.sc fu _ _ _ k24) (vs t23) [] 1 ?_
   refine ag h fun h => ?_
   exact lik h
  exact lpx h fun hy => ek (sj hy)
 refine bk h fun t25 k26 h => ?_
 refine cl4 cok.g (rickyardref07_Seal.sc fu _ _ _ _ k26) (vs t25) [] 1 ?_
 exact fk h
def rickyardref12_Need.s0 (fu : Nat) (a0 : Int) (a1 : Int) : Int → Option (Sum Int Int) := fun s1 => (if (decide ((IntKind.i64.wrap (s1 * a1)) < a0)) then some (Sum.inr ((IntKind.i64.wrap (s1 + 1)))) else some (Sum.inl (s1)))
def rickyardref12_Need.f (fu : Nat) (a0 : Int) (a1 : Int) : Option Int := ((loopM (rickyardref12_Need.s0 fu a0 a1) fu (0)).bind fun e2 => some (e2))
theorem rickyardref12_Need.sc (fu : Nat) (a0 : Int) (a1 : Int) (r : Int) (h : rickyardref12_Need.f fu a0 a1 = some r) : SC Tryz.prog CT 87 [vi .i64 a0, vi .i64 a1] [] (vi .i64 r) [] := by
 unfold rickyardref12_Need.f at h
 refine sq Tryz.func87 r (fun r => vi .i64 r) (fun r => []) fun X => ?_
 refine bk h fun e2 l3 h => ?_
 refine t_cutx cok 0 (fun (e2 : Int) => ⟨[(5, vi .i64 e2)], []⟩) e2 ?_ ?_
 ·skip
  have h4 := h
  refine t_loop cok (fun (s1 : Int) => ⟨[(0, vi .i64 a0), (1, vi .i64 a1), (5, vi .i64 s1)], []⟩) l3 (by kernel_rfl) (fun s1 x5 h => ?_)
  unfold rickyardref12_Need.s0 at h
  refine t_cond cok ?_
  refine bi h (fun c6 h => ?_) (fun c6 h => ?_)
  ·skip
   exact lik h
  exact lpx h fun hy => ek (sj hy)
 exact fk h
def rickyardref12_Charts.f (fu : Nat) (a0 : S_api_Geometry) : Option Int := ((rickyardref12_Need.f fu a0.Blocks 384).bind fun t1 => some (t1))
theorem rickyardref12_Charts.sc (fu : Nat) (a0 : S_api_Geometry) (r : Int) (h : rickyardref12_Charts.f fu a0 = some r) : SC Tryz.prog CT 68 [.v (.st .S_api_Geometry) (a0 : S_api_Geometry)] [] (vi .i64 r) [] := by
 unfold rickyardref12_Charts.f at h
 refine sq Tryz.func68 r (fun r => vi .i64 r) (fun r => []) fun X => ?_
 refine bk h fun t1 k2 h => ?_
 refine cl4 cok.g (rickyardref12_Need.sc fu _ _ _ k2) (vi .i64 t1) [] 1 ?_
 exact fk h
def rickyardref12_Right.f (fu : Nat) (a0 : S_api_Geometry) : Option Bool := (if (decide (a0.Blocks ≥ 16)) then (if (decide (a0.Blocks ≤ 3072)) then (if (decide (a0.Slots ≥ 1)) then (if (decide (a0.Slots ≤ 1792)) then (if (decide (a0.Gens ≥ 1)) then some ((decide (a0.Gens ≤ 4294967295))) else some (false)) else some (false)) else some (false)) else some (false)) else some (false))
theorem rickyardref12_Right.sc (fu : Nat) (a0 : S_api_Geometry) (r : Bool) (h : rickyardref12_Right.f fu a0 = some r) : SC Tryz.prog CT 67 [.v (.st .S_api_Geometry) (a0 : S_api_Geometry)] [] (vb r) [] := by
 unfold rickyardref12_Right.f at h
 refine sq Tryz.func67 r (fun r => vb r) (fun r => []) fun X => ?_
 refine t_reg cok ?_
 refine bi h (fun c1 h => ?_) (fun c1 h => ?_)
 ·skip
  refine bi h (fun c2 h => ?_) (fun c2 h => ?_)
  ·skip
   refine bi h (fun c3 h => ?_) (fun c3 h => ?_)
   ·skip
    refine bi h (fun c4 h => ?_) (fun c4 h => ?_)
    ·skip
     refine bi h (fun c5 h => ?_) (fun c5 h => ?_)
     ·skip
      exact fk h
     exact fk h
    exact fk h
   exact fk h
  exact fk h
 exact fk h
def rickyardref13_Right.s1 (fu : Nat) (a0 : S_api_Super) (s23 : (List Int) × Int) : Int → Option (Sum (Sum (Sum (Sum Bool (List Int)) ((List Int) × Int)) Unit) Int) := fun s30 => (if (decide (s30 < s23.2)) then if 0 ≤ s30 ∧ s30 < (List.length a0.Charts : Int) then if 0 ≤ s23.2 ∧ s23.2 < (List.length a0.Charts : Int) then (if (decide ((ix a0.Charts s30) = (ix a0.Charts s23.2))) then some (Sum.inl (Sum.inl (Sum.inl (Sum.inl (false))))) else some (Sum.inr ((IntKind.i64.wrap (s30 + 1))))) else none else none else some (Sum.inl (Sum.inr ())))
def rickyardref13_Right.s0 (fu : Nat) (a0 : S_api_Super) : ((List Int) × Int) → Option (Sum (Sum Bool (List Int)) ((List Int) × Int)) := fun s23 => (if (decide (s23.2 < (List.length a0.Charts : Int))) then if 0 ≤ s23.2 ∧ s23.2 < (List.length a0.Charts : Int) then if List.length s23.1 + List.length [(ix a0.Charts s23.2)] ≤ LIM then ((loopM (rickyardref13_Right.s1 fu a0 s23) fu (0)).bind fun e31 => match e31 with | Sum.inl p => some p | Sum.inr x33 => some (Sum.inr ((s23.1 ++ [(ix a0.Charts s23.2)]), (IntKind.i64.wrap (s23.2 + 1))))) else none else none else some (Sum.inl (Sum.inr (s23.1))))
def rickyardref13_Right.s2 (fu : Nat) (a0 : S_api_Super) (x26 : (List Int)) : Int → Option (Sum (Sum Bool Unit) Int) := fun s38 => (if (decide (s38 < (List.length x26 : Int))) then if 0 ≤ s38 ∧ s38 < (List.length x26 : Int) then (if (decide ((ix x26 s38) < 2)) then some (Sum.inl (Sum.inl (false))) else if 0 ≤ s38 ∧ s38 < (List.length x26 : Int) then (if (decide ((ix x26 s38) ≥ a0.Tickets.Geometry.Blocks)) then some (Sum.inl (Sum.inl (false))) else some (Sum.inr ((IntKind.i64.wrap (s38 + 1))))) else none) else none else some (Sum.inl (Sum.inr ())))
def rickyardref13_Right.f (fu : Nat) (a0 : S_api_Super) : Option Bool := (if (decide (a0.Epoch < 1)) then some (false) else (if (decide (a0.Epoch > 4611686018427387904)) then some (false) else ((rickyardref12_Right.f fu a0.Tickets.Geometry).bind fun t3 => (if (!t3) then some (false) else (if (decide (a0.Tickets.High < 0)) then some (false) else (if (decide (a0.Tickets.High > a0.Tickets.Geometry.Slots)) then some (false) else (if (decide (a0.Tickets.Free < 0)) then some (false) else (if (decide (a0.Tickets.Free > a0.Tickets.High)) then some (false) else ((rickyardref12_Charts.f fu a0.Tickets.Geometry).bind fun t10 => (if (!decide ((List.length a0.Charts : Int) = t10)) then some (false) else (((if (decide (a0.Tickets.High = 0)) then (if (!decide (a0.Tickets.Top = 0)) then some (Sum.inl (false)) else some (Sum.inr (([] : List Int)))) else if List.length ([] : List Int) + List.length [a0.Tickets.Top] ≤ LIM then some (Sum.inr ((([] : List Int) ++ [a0.Tickets.Top]))) else none) : Option (Sum Bool (List Int))).bind fun x13 => match x13 with | Sum.inl p => some p | Sum.inr x15 => (((if (!decide (a0.Dir = 0)) then if List.length x15 + List.length [a0.Dir] ≤ LIM then some ((x15 ++ [a0.Dir])) else none else some (x15)) : Option (List Int)).bind fun x19 => ((loopM (rickyardref13_Right.s0 fu a0) fu (x19, 0)).bind fun e24 => match e24 with | Sum.inl p => some p | Sum.inr x26 => ((loopM (rickyardref13_Right.s2 fu a0 x26) fu (0)).bind fun e39 => match e39 with | Sum.inl p => some p | Sum.inr x41 => some (true)))))))))))))))
theorem rickyardref13_Right.sc (fu : Nat) (a0 : S_api_Super) (r : Bool) (h : rickyardref13_Right.f fu a0 = some r) : SC Tryz.prog CT 45 [.v (.st .S_api_Super) (a0 : S_api_Super)] [] (vb r) [] := by
 unfold rickyardref13_Right.f at h
 refine sq Tryz.func45 r (fun r => vb r) (fun r => []) fun X => ?_
 refine t_reg cok ?_
 refine bi h (fun c1 h => ?_) (fun c1 h => ?_)
 ·skip
  refine t_cond cok ?_
  exact fk h
 refine bi h (fun c2 h => ?_) (fun c2 h => ?_)
 ·skip
  refine t_cond cok ?_
  exact fk h
 refine bk h fun t3 k4 h => ?_
 refine cl4 cok.g (rickyardref12_Right.sc fu _ _ k4) (vb t3) [] 1 ?_
 refine t_cond cok ?_
 refine bi h (fun c5 h => ?_) (fun c5 h => ?_)
 ·skip
  exact fk h
 refine t_draw cok mo [⟨0, false, [1], [], 0, []⟩, ⟨1, false, [22], [], 0, [0]⟩, ⟨2, false, [23], [0], 0, [0, 1]⟩, ⟨3, false, [24], [], 0, [0, 1, 2]⟩, ⟨4, false, [25], [], 0, cl 4⟩, ⟨5, false, [1, 26], [], 0, cl 5⟩, ⟨6, false, [26, 27], [], 0, cl 6⟩, ⟨7, false, [26, 28], [0], 0, cl 7⟩, ⟨8, false, [1, 26], [], 0, cl 5⟩, ⟨9, false, [26, 30], [], 0, cl 5 ++ [8]⟩, ⟨10, false, [26, 31], [], 0, cl 5 ++ [8, 9]⟩, ⟨11, false, [26, 32], [0], 0, cl 5 ++ [8, 9, 10]⟩, ⟨12, false, [26, 29, 33], [], 0, cl 12⟩, ⟨13, true, [26, 34], [], 0, cl 13⟩, ⟨14, false, [35], [], 0, cl 14⟩, ⟨15, false, [1, 36], [], 0, cl 15⟩, ⟨16, false, [36, 37], [], 0, cl 16⟩, ⟨17, false, [36, 38], [0], 0, cl 17⟩, ⟨18, false, [36, 39], [], 0, cl 18⟩, ⟨19, true, [36, 40], [], 0, cl 19⟩, ⟨20, false, [41], [], 0, cl 20⟩, ⟨21, false, [1, 42], [], 0, cl 21⟩, ⟨22, false, [42, 43], [], 0, cl 22⟩, ⟨23, false, [42, 44], [0], 0, cl 23⟩, ⟨24, false, [1, 42], [], 0, cl 21⟩, ⟨25, false, [42, 46], [], 0, cl 21 ++ [24]⟩, ⟨26, false, [42, 47], [0], 0, cl 21 ++ [24, 25]⟩, ⟨27, false, [42, 45, 48], [], 0, cl 27⟩, ⟨28, true, [42, 49], [], 0, cl 28⟩, ⟨29, false, [50], [], 0, cl 29⟩, ⟨30, false, [1, 51], [], 0, cl 30⟩, ⟨31, false, [51, 52], [0], 0, cl 31⟩, ⟨32, false, [51, 53], [], 0, cl 32⟩, ⟨33, false, [1, 51], [], 0, cl 30⟩, ⟨34, false, [51, 55], [], 0, cl 30 ++ [33]⟩, ⟨35, false, [51, 56], [0], 0, cl 30 ++ [33, 34]⟩, ⟨36, true, [51, 57], [], 0, cl 30 ++ [33, 34, 35]⟩, ⟨37, false, [51, 54, 58], [], 0, cl 37⟩, ⟨38, true, [51, 59], [], 0, cl 38⟩] (by kernel_rfl) ?_
 refine bi h (fun c6 h => ?_) (fun c6 h => ?_)
 ·skip
  refine t_cond cok ?_
  exact fk h
 refine bi h (fun c7 h => ?_) (fun c7 h => ?_)
 ·skip
  refine t_cond cok ?_
  exact fk h
 refine bi h (fun c8 h => ?_) (fun c8 h => ?_)
 ·skip
  refine t_cond cok ?_
  exact fk h
 refine bi h (fun c9 h => ?_) (fun c9 h => ?_)
 ·skip
  refine t_cond cok ?_
  exact fk h
 refine bk h fun t10 k11 h => ?_
 refine cl4 cok.g (rickyardref12_Charts.sc fu _ _ k11) (vi .i64 t10) [] 1 ?_
 refine t_cond cok ?_
 refine bi h (fun c12 h => ?_) (fun c12 h => ?_)
 ·skip
  exact fk h
 refine bk h fun x13 j14 h => ?_
 refine t_cutS cok (fun (x15 : (List Int)) => ⟨[(1, .ptr 0 0), (3, .sl 1 1 [])], [.box 87 (.v (.st .S_api_Super) (a0 : S_api_Super)), .row (.int .i64) 3 (x15 : List Int)]⟩) x13 ?_ (fun x15 hy => ?_)
 ·skip
  have h16 := h
  have h := j14
  refine t_cond cok ?_
  refine bi h (fun c17 h => ?_) (fun c17 h => ?_)
  ·skip
   refine t_cond cok ?_
   refine bi h (fun c18 h => ?_) (fun c18 h => ?_)
   ·skip
    have hz := Option.some.inj h
    have h := h16
    rw [← hz] at h
    exact fk h
   exact esk h
  refine ag h fun h => ?_
  exact esk h
 subst hy
 refine bk h fun x19 j20 h => ?_
 refine t_cut cok (fun (x19 : (List Int)) => ⟨[(1, .ptr 0 0), (3, .sl 1 1 [])], [.box 87 (.v (.st .S_api_Super) (a0 : S_api_Super)), .row (.int .i64) 3 (x19 : List Int)]⟩) x19 ?_ ?_
 ·skip
  have h21 := h
  have h := j20
  refine t_cond cok ?_
  refine bi h (fun c22 h => ?_) (fun c22 h => ?_)
  ·skip
   refine ag h fun h => ?_
   exact ek h
  exact ek h
 refine bk h fun e24 l25 h => ?_
 refine t_cutxS cok 0 (fun (x26 : (List Int)) => ⟨[(1, .ptr 0 0), (3, .sl 1 1 [])], [.box 87 (.v (.st .S_api_Super) (a0 : S_api_Super)), .row (.int .i64) 3 (x26 : List Int)]⟩) e24 ?_ (fun x26 hy => ?_)
 ·skip
  have h27 := h
  refine t_loop cok (fun (s23 : (List Int) × Int) => ⟨[(1, .ptr 0 0), (3, .sl 1 1 []), (4, vi .i64 s23.2)], [.box 87 (.v (.st .S_api_Super) (a0 : S_api_Super)), .row (.int .i64) 3 (s23.1 : List Int)]⟩) l25 (by kernel_rfl) (fun s23 x28 h => ?_)
  unfold rickyardref13_Right.s0 at h
  refine t_cond cok ?_
  refine bi h (fun c29 h => ?_) (fun c29 h => ?_)
  ·skip
   refine ag h fun h => ?_
   refine ag h fun h => ?_
   refine bk h fun e31 l32 h => ?_
   refine t_cutxS cok 2 (fun (_x : Unit) => ⟨[(1, .ptr 0 0), (3, .sl 1 1 []), (4, vi .i64 s23.2)], [.box 87 (.v (.st .S_api_Super) (a0 : S_api_Super)), .row (.int .i64) 3 ((s23.1 ++ [(ix a0.Charts s23.2)]) : List Int)]⟩) e31 ?_ (fun x33 hy => ?_)
   ·skip
    have h34 := h
    refine t_loop cok (fun (s30 : Int) => ⟨[(1, .ptr 0 0), (3, .sl 1 1 []), (4, vi .i64 s23.2), (5, vi .i64 s30)], [.box 87 (.v (.st .S_api_Super) (a0 : S_api_Super)), .row (.int .i64) 3 ((s23.1 ++ [(ix a0.Charts s23.2)]) : List Int)]⟩) l32 (by kernel_rfl) (fun s30 x35 h => ?_)
    unfold rickyardref13_Right.s1 at h
    refine t_cond cok ?_
    refine bi h (fun c36 h => ?_) (fun c36 h => ?_)
    ·skip
     refine t_draw cok mo [⟨0, false, [1], [], 0, []⟩, ⟨1, false, [103], [0], 0, [0]⟩, ⟨2, false, [5], [], 0, []⟩, ⟨3, false, [104, 105], [], 0, [0, 1, 2]⟩, ⟨4, false, [106], [], 0, cl 4⟩, ⟨5, false, [1], [], 0, []⟩, ⟨6, false, [108], [0], 0, [5]⟩, ⟨7, false, [4], [], 0, []⟩, ⟨8, false, [109, 110], [], 0, [5, 6, 7]⟩, ⟨9, false, [111], [], 0, [5, 6, 7, 8]⟩, ⟨10, false, [107, 112], [], 0, cl 10⟩] (by kernel_rfl) ?_
     refine ag h fun h => ?_
     refine ag h fun h => ?_
     refine t_cond cok ?_
     refine bi h (fun c37 h => ?_) (fun c37 h => ?_)
     ·skip
      refine lpr h (fun hy => ?_)
      have h := h34
      rw [← hy] at h
      refine lpr h (fun hy => ?_)
      have h := h27
      rw [← hy] at h
      exact fk h
     exact lik h
    exact lpx h fun hy => esk (sj hy)
   subst hy
   exact lik h
  exact lpx h fun hy => esk (sj hy)
 subst hy
 refine bk h fun e39 l40 h => ?_
 refine t_cutxS cok 4 (fun (_x : Unit) => ⟨[], []⟩) e39 ?_ (fun x41 hy => ?_)
 ·skip
  have h42 := h
  refine t_loop cok (fun (s38 : Int) => ⟨[(1, .ptr 0 0), (3, .sl 1 1 []), (6, vi .i64 s38)], [.box 87 (.v (.st .S_api_Super) (a0 : S_api_Super)), .row (.int .i64) 3 (x26 : List Int)]⟩) l40 (by kernel_rfl) (fun s38 x43 h => ?_)
  unfold rickyardref13_Right.s2 at h
  refine t_cond cok ?_
  refine bi h (fun c44 h => ?_) (fun c44 h => ?_)
  ·skip
   refine t_draw cok mo [⟨0, false, [3], [], 0, []⟩, ⟨1, false, [6], [], 0, []⟩, ⟨2, false, [120, 121], [1], 0, [0, 1]⟩, ⟨3, false, [122], [1], 0, [0, 1, 2]⟩, ⟨4, false, [123], [], 0, cl 4⟩, ⟨5, false, [124], [], 0, cl 5⟩, ⟨6, false, [3, 125], [], 0, cl 6⟩, ⟨7, false, [6, 125], [], 0, cl 6⟩, ⟨8, false, [125, 126, 127], [1], 0, cl 8⟩, ⟨9, false, [125, 128], [1], 0, cl 9⟩, ⟨10, false, [1, 125], [], 0, cl 6⟩, ⟨11, false, [125, 130], [], 0, cl 6 ++ [10]⟩, ⟨12, false, [125, 131], [], 0, cl 6 ++ [10, 11]⟩, ⟨13, false, [125, 132], [0], 0, cl 6 ++ [10, 11, 12]⟩, ⟨14, false, [125, 129, 133], [], 0, cl 14⟩, ⟨15, true, [125, 134], [], 0, cl 15⟩] (by kernel_rfl) ?_
   refine ag h fun h => ?_
   refine bi h (fun c45 h => ?_) (fun c45 h => ?_)
   ·skip
    refine t_cond cok ?_
    refine lpr h (fun hy => ?_)
    have h := h42
    rw [← hy] at h
    exact fk h
   refine ag h fun h => ?_
   refine t_cond cok ?_
   refine bi h (fun c46 h => ?_) (fun c46 h => ?_)
   ·skip
    refine lpr h (fun hy => ?_)
    have h := h42
    rw [← hy] at h
    exact fk h
   exact lik h
  exact lpx h fun hy => esk (sj hy)
 subst hy
 exact fk h
def rickyardref13_Get.s0 (fu : Nat) (t1 : Int × Int × (List UInt8) × Bool) : (Int × (List Int)) → Option (Sum (List Int) (Int × (List Int))) := fun s22 => (if (decide (s22.1 < t1.2.1)) then if (0 : Int) ≤ (IntKind.i64.wrap (32 + (IntKind.i64.wrap (2 * s22.1)))) ∧ (IntKind.i64.wrap (32 + (IntKind.i64.wrap (2 * s22.1)))) ≤ (IntKind.i64.wrap (34 + (IntKind.i64.wrap (2 * s22.1)))) ∧ (IntKind.i64.wrap (34 + (IntKind.i64.wrap (2 * s22.1)))) ≤ (List.length t1.2.2.1 : Int) then ((rickyardref01_Int.f fu (cut t1.2.2.1 (IntKind.i64.wrap (32 + (IntKind.i64.wrap (2 * s22.1)))) (IntKind.i64.wrap (34 + (IntKind.i64.wrap (2 * s22.1)))))).bind fun t28 => if List.length s22.2 + List.length [t28] ≤ LIM then some (Sum.inr ((IntKind.i64.wrap (s22.1 + 1)), (s22.2 ++ [t28]))) else none) else none else some (Sum.inl (s22.2)))
def rickyardref13_Get.f (fu : Nat) (a0 : List Int) : Option (S_api_Super × Bool) := ((rickyardref07_Open.f fu a0).bind fun t1 => (if (!t1.2.2.2) then some ((⟨(0 : Int), (⟨(⟨(0 : Int), (0 : Int), (0 : Int)⟩ : S_api_Geometry), (0 : Int), (0 : Int), (0 : Int)⟩ : S_api_Tickets), (0 : Int), []⟩ : S_api_Super), false) else (if (!decide (t1.1 = 7)) then some ((⟨(0 : Int), (⟨(⟨(0 : Int), (0 : Int), (0 : Int)⟩ : S_api_Geometry), (0 : Int), (0 : Int), (0 : Int)⟩ : S_api_Tickets), (0 : Int), []⟩ : S_api_Super), false) else (if (decide (t1.2.1 > 8)) then some ((⟨(0 : Int), (⟨(⟨(0 : Int), (0 : Int), (0 : Int)⟩ : S_api_Geometry), (0 : Int), (0 : Int), (0 : Int)⟩ : S_api_Tickets), (0 : Int), []⟩ : S_api_Super), false) else if (8 : Int) ≤ (List.length t1.2.2.1 : Int) then ((rickyardref01_Int.f fu (cut t1.2.2.1 0 8)).bind fun t6 => if (12 : Int) ≤ (List.length t1.2.2.1 : Int) then ((rickyardref01_Int.f fu (cut t1.2.2.1 8 12)).bind fun t8 => if (16 : Int) ≤ (List.length t1.2.2.1 : Int) then ((rickyardref01_Int.f fu (cut t1.2.2.1 12 16)).bind fun t10 => if (20 : Int) ≤ (List.length t1.2.2.1 : Int) then ((rickyardref01_Int.f fu (cut t1.2.2.1 16 20)).bind fun t12 => if (24 : Int) ≤ (List.length t1.2.2.1 : Int) then ((rickyardref01_Int.f fu (cut t1.2.2.1 20 24)).bind fun t14 => if (28 : Int) ≤ (List.length t1.2.2.1 : Int) then ((rickyardref01_Int.f fu (cut t1.2.2.1 24 28)).bind fun t16 => if (30 : Int) ≤ (List.length t1.2.2.1 : Int) then ((rickyardref01_Int.f fu (cut t1.2.2.1 28 30)).bind fun t18 => if (32 : Int) ≤ (List.length t1.2.2.1 : Int) then ((rickyardref01_Int.f fu (cut t1.2.2.1 30 32)).bind fun t20 => ((loopM (rickyardref13_Get.s0 fu t1) fu (0, ([] : List Int))).bind fun e23 => ((rickyardref13_Right.f fu (⟨t6, (⟨(⟨t8, t10, t12⟩ : S_api_Geometry), t18, t14, t16⟩ : S_api_Tickets), t20, e23⟩ : S_api_Super)).bind fun t30 => (if (!t30) then some ((⟨(0 : Int), (⟨(⟨(0 : Int), (0 : Int), (0 : Int)⟩ : S_api_Geometry), (0 : Int), (0 : Int), (0 : Int)⟩ : S_api_Tickets), (0 : Int), []⟩ : S_api_Super), false) else ((rickyardref13_Put.f fu (⟨t6, (⟨(⟨t8, t10, t12⟩ : S_api_Geometry), t18, t14, t16⟩ : S_api_Tickets), t20, e23⟩ : S_api_Super)).bind fun t33 => (if (!decide (t33 = (List.map toB a0))) then some ((⟨(0 : Int), (⟨(⟨(0 : Int), (0 : Int), (0 : Int)⟩ : S_api_Geometry), (0 : Int), (0 : Int), (0 : Int)⟩ : S_api_Tickets), (0 : Int), []⟩ : S_api_Super), false) else some ((⟨t6, (⟨(⟨t8, t10, t12⟩ : S_api_Geometry), t18, t14, t16⟩ : S_api_Tickets), t20, e23⟩ : S_api_Super), true))))))) else none) else none) else none) else none) else none) else none) else none) else none))))
theorem rickyardref13_Get.sc (fu : Nat) (a0 : List Int) (r : S_api_Super × Bool) (h : rickyardref13_Get.f fu a0 = some r) : SC Tryz.prog CT 32 [.v (.sl (.int .u8)) (a0 : List Int)] [] (.tup [.v (.st .S_api_Super) (r.1 : S_api_Super), vb r.2]) [] := by
 unfold rickyardref13_Get.f at h
 refine sq Tryz.func32 r (fun r => .tup [.v (.st .S_api_Super) (r.1 : S_api_Super), vb r.2]) (fun r => []) fun X => ?_
 refine bk h fun t1 k2 h => ?_
 refine cl4 cok.g (rickyardref07_Open.sc fu _ _ k2) (.tup [vi .i64 t1.1, vi .i64 t1.2.1, vs t1.2.2.1, vb t1.2.2.2]) [] 1 ?_
 refine t_reg cok ?_
 refine bi h (fun c3 h => ?_) (fun c3 h => ?_)
 ·skip
  refine t_cond cok ?_
  exact fk h
 refine bi h (fun c4 h => ?_) (fun c4 h => ?_)
 ·skip
  refine t_cond cok ?_
  exact fk h
 refine t_cond cok ?_
 refine bi h (fun c5 h => ?_) (fun c5 h => ?_)
 ·skip
  exact fk h
 refine agL h (by decide) fun h => ?_
 refine bk h fun t6 k7 h => ?_
 refine cl4 cok.g (rickyardref01_Int.sc fu _ _ k7) (vi .i64 t6) [] 2 ?_
 refine agM h (by decide) (by decide) fun h => ?_
 refine bk h fun t8 k9 h => ?_
 refine cl4 cok.g (rickyardref01_Int.sc fu _ _ k9) (vi .i64 t8) [] 2 ?_
 refine agM h (by decide) (by decide) fun h => ?_
 refine bk h fun t10 k11 h => ?_
 refine cl4 cok.g (rickyardref01_Int.sc fu _ _ k11) (vi .i64 t10) [] 2 ?_
 refine agM h (by decide) (by decide) fun h => ?_
 refine bk h fun t12 k13 h => ?_
 refine cl4 cok.g (rickyardref01_Int.sc fu _ _ k13) (vi .i64 t12) [] 2 ?_
 refine agM h (by decide) (by decide) fun h => ?_
 refine bk h fun t14 k15 h => ?_
 refine cl4 cok.g (rickyardref01_Int.sc fu _ _ k15) (vi .i64 t14) [] 2 ?_
 refine agM h (by decide) (by decide) fun h => ?_
 refine bk h fun t16 k17 h => ?_
 refine cl4 cok.g (rickyardref01_Int.sc fu _ _ k17) (vi .i64 t16) [] 2 ?_
 refine agM h (by decide) (by decide) fun h => ?_
 refine bk h fun t18 k19 h => ?_
 refine cl4 cok.g (rickyardref01_Int.sc fu _ _ k19) (vi .i64 t18) [] 2 ?_
 refine agM h (by decide) (by decide) fun h => ?_
 refine bk h fun t20 k21 h => ?_
 refine cl4 cok.g (rickyardref01_Int.sc fu _ _ k21) (vi .i64 t20) [] 2 ?_
 refine bk h fun e23 l24 h => ?_
 refine t_cutx cok 0 (fun (e23 : (List Int)) => ⟨[(0, .v (.sl (.int .u8)) (a0 : List Int)), (2, .ptr 0 0), (8, .ptr 1 0)], [.box 87 (.agg [vi .i64 (0 : Int), .v (.st .S_api_Tickets) ((⟨(⟨(0 : Int), (0 : Int), (0 : Int)⟩ : S_api_Geometry), (0 : Int), (0 : Int), (0 : Int)⟩ : S_api_Tickets) : S_api_Tickets), vi .i64 (0 : Int), .nils]), .box 87 (.agg [vi .i64 t6, .v (.st .S_api_Tickets) ((⟨(⟨t8, t10, t12⟩ : S_api_Geometry), t18, t14, t16⟩ : S_api_Tickets) : S_api_Tickets), vi .i64 t20, .sl 2 1 []]), .row (.int .i64) 3 (e23 : List Int)]⟩) e23 ?_ ?_
 ·skip
  have h25 := h
  refine t_loop cok (fun (s22 : Int × (List Int)) => ⟨[(0, .v (.sl (.int .u8)) (a0 : List Int)), (2, .ptr 0 0), (5, vi .i64 t1.2.1), (6, vs t1.2.2.1), (8, .ptr 1 0), (9, vi .i64 s22.1)], [.box 87 (.agg [vi .i64 (0 : Int), .v (.st .S_api_Tickets) ((⟨(⟨(0 : Int), (0 : Int), (0 : Int)⟩ : S_api_Geometry), (0 : Int), (0 : Int), (0 : Int)⟩ : S_api_Tickets) : S_api_Tickets), vi .i64 (0 : Int), .nils]), .box 87 (.agg [vi .i64 t6, .v (.st .S_api_Tickets) ((⟨(⟨t8, t10, t12⟩ : S_api_Geometry), t18, t14, t16⟩ : S_api_Tickets) : S_api_Tickets), vi .i64 t20, .sl 2 1 []]), .row (.int .i64) 3 (s22.2 : List Int)]⟩) l24 (by kernel_rfl) (fun s22 x26 h => ?_)
  unfold rickyardref13_Get.s0 at h
  refine t_cond cok ?_
  refine bi h (fun c27 h => ?_) (fun c27 h => ?_)
  ·skip
   refine t_draw cok mo [⟨0, false, [8], [], 0, []⟩, ⟨1, false, [74], [1], 0, [0]⟩, ⟨2, false, [6], [], 0, []⟩, ⟨3, false, [9], [], 0, []⟩, ⟨4, false, [77], [], 0, [3]⟩, ⟨5, false, [78], [], 0, [3, 4]⟩, ⟨6, false, [9], [], 0, []⟩, ⟨7, false, [80], [], 0, [6]⟩, ⟨8, false, [81], [], 0, [6, 7]⟩, ⟨9, false, [76, 79, 82], [], 0, [2, 3, 4, 5, 6, 7, 8]⟩, ⟨10, true, [83], [], 0, [2, 3, 4, 5, 6, 7, 8, 9]⟩, ⟨11, true, [84], [], 1, [2, 3, 4, 5, 6, 7, 8, 9, 10]⟩, ⟨12, true, [75, 85], [2, 3], 1, cl 12⟩, ⟨13, false, [8], [], 0, cl 13⟩, ⟨14, true, [86, 87], [1, 4], 0, cl 14⟩] (by kernel_rfl) ?_
   refine ag h fun h => ?_
   refine bk h fun t28 k29 h => ?_
   refine cl4 cok.g (rickyardref01_Int.sc fu _ _ k29) (vi .i64 t28) [] 3 ?_
   refine ag h fun h => ?_
   exact lik h
  exact lpx h fun hy => ek (sj hy)
 refine t_draw cok mo [⟨0, false, [8], [1], 0, []⟩, ⟨1, true, [88], [2], 0, [0]⟩, ⟨2, false, [89], [], 0, [0, 1]⟩, ⟨3, false, [90], [], 0, [0, 1, 2]⟩, ⟨4, false, [8, 91], [1], 0, cl 4⟩, ⟨5, true, [91, 92], [2], 0, cl 5⟩, ⟨6, false, [0, 91], [], 0, cl 4⟩, ⟨7, false, [91, 94], [], 0, cl 4 ++ [6]⟩, ⟨8, false, [91, 93, 95], [], 0, cl 8⟩, ⟨9, true, [91, 96], [], 0, cl 9⟩] (by kernel_rfl) ?_
 refine bk h fun t30 k31 h => ?_
 refine cl4 cok.g (rickyardref13_Right.sc fu _ _ k31) (vb t30) [] 3 ?_
 refine bi h (fun c32 h => ?_) (fun c32 h => ?_)
 ·skip
  refine t_cond cok ?_
  exact fk h
 refine bk h fun t33 k34 h => ?_
 refine cl4 cok.g (rickyardref13_Put.sc fu _ _ k34) (vs t33) [] 3 ?_
 refine t_cond cok ?_
 refine bi h (fun c35 h => ?_) (fun c35 h => ?_)
 ·skip
  exact fk h
 exact fk h
def rickyardref03_Show.s0 (fu : Nat) : ((List UInt8) × Int) → Option (Sum (List UInt8) ((List UInt8) × Int)) := fun s2 => (if (!decide (s2.2 = 0)) then (((if (decide ((Int.tmod s2.2 10) < 0)) then some ((IntKind.i64.wrap (-(Int.tmod s2.2 10)))) else some ((Int.tmod s2.2 10))) : Option Int).bind fun x8 => if List.length (List.map toB [(IntKind.u8.wrap (IntKind.i64.wrap (48 + x8)))]) + List.length s2.1 ≤ LIM then some (Sum.inr (((List.map toB [(IntKind.u8.wrap (IntKind.i64.wrap (48 + x8)))]) ++ s2.1), (IntKind.i64.wrap (Int.tdiv s2.2 10)))) else none) else some (Sum.inl (s2.1)))
def rickyardref03_Show.f (fu : Nat) (a0 : Int) : Option (List UInt8) := (if (decide (a0 = 0)) then some ([48]) else ((loopM (rickyardref03_Show.s0 fu) fu ([], a0)).bind fun e3 => (if (decide (a0 < 0)) then if List.length [45] + List.length e3 ≤ LIM then some (([45] ++ e3)) else none else some (e3))))
theorem rickyardref03_Show.sc (fu : Nat) (a0 : Int) (r : (List UInt8)) (h : rickyardref03_Show.f fu a0 = some r) : SC Tryz.prog CT 24 [vi .i64 a0] [] (vs r) [] := by
 unfold rickyardref03_Show.f at h
 refine sq Tryz.func24 r (fun r => vs r) (fun r => []) fun X => ?_
 refine t_cond cok ?_
 refine bi h (fun c1 h => ?_) (fun c1 h => ?_)
 ·skip
  exact fk h
 refine bk h fun e3 l4 h => ?_
 refine t_cutx cok 0 (fun (e3 : (List UInt8)) => ⟨[(0, vi .i64 a0), (3, vs e3)], []⟩) e3 ?_ ?_
 ·skip
  have h5 := h
  refine t_loop cok (fun (s2 : (List UInt8) × Int) => ⟨[(0, vi .i64 a0), (3, vs s2.1), (4, vi .i64 s2.2)], []⟩) l4 (by kernel_rfl) (fun s2 x6 h => ?_)
  unfold rickyardref03_Show.s0 at h
  refine t_cond cok ?_
  refine bi h (fun c7 h => ?_) (fun c7 h => ?_)
  ·skip
   refine ⟨by decide, ?_⟩
   refine bk h fun x8 j9 h => ?_
   refine t_cut cok (fun (x8 : Int) => ⟨[(0, vi .i64 a0), (3, vs s2.1), (4, vi .i64 s2.2), (5, vi .i64 x8)], []⟩) x8 ?_ ?_
   ·skip
    have h10 := h
    have h := j9
    refine t_cond cok ?_
    refine bi h (fun c11 h => ?_) (fun c11 h => ?_)
    ·skip
     exact ek h
    exact ek h
   refine ag h fun h => ?_
   refine ⟨by decide, ?_⟩
   exact lik h
  exact lpx h fun hy => ek (sj hy)
 refine t_cond cok ?_
 refine bi h (fun c12 h => ?_) (fun c12 h => ?_)
 ·skip
  refine ag h fun h => ?_
  exact fk h
 exact fk h
def rickyardref10_Put.f (fu : Nat) (a0 : S_api_Chart) : Option (List UInt8) := ((rickyardref07_Seal.f fu 4 a0.Place (List.map toB (Arr.l a0.Bits))).bind fun t1 => some (t1))
theorem rickyardref10_Put.sc (fu : Nat) (a0 : S_api_Chart) (r : (List UInt8)) (h : rickyardref10_Put.f fu a0 = some r) : SC Tryz.prog CT 50 [.v (.st .S_api_Chart) (a0 : S_api_Chart)] [] (vs r) [] := by
 unfold rickyardref10_Put.f at h
 refine sq Tryz.func50 r (fun r => vs r) (fun r => []) fun X => ?_
 refine t_draw cok mo [⟨0, false, [1], [], 0, []⟩, ⟨1, false, [3], [0], 0, [0]⟩, ⟨2, false, [1], [], 0, []⟩, ⟨3, false, [5], [], 0, [2]⟩, ⟨4, false, [6], [0], 0, [2, 3]⟩, ⟨5, true, [4, 7], [], 0, cl 5⟩, ⟨6, false, [8], [], 0, cl 6⟩] (by kernel_rfl) ?_
 refine bk h fun t1 k2 h => ?_
 refine cl4 cok.g (rickyardref07_Seal.sc fu _ _ _ _ k2) (vs t1) [] 1 ?_
 exact fk h
def rickyardref10_Get.s0 (fu : Nat) (t1 : Int × Int × (List UInt8) × Bool) : (Int × S_api_Chart) → Option (Sum S_api_Chart (Int × S_api_Chart)) := fun s6 => (if (decide (s6.1 < 48)) then if 0 ≤ s6.1 ∧ s6.1 < (List.length t1.2.2.1 : Int) then if 0 ≤ s6.1 ∧ s6.1 < 48 then some (Sum.inr ((IntKind.i64.wrap (s6.1 + 1)), (⟨s6.2.Place, (Arr.set s6.2.Bits s6.1 (ofB (List.getD t1.2.2.1 (Int.toNat s6.1) 0)))⟩ : S_api_Chart))) else none else none else some (Sum.inl (s6.2)))
def rickyardref10_Get.f (fu : Nat) (a0 : List Int) : Option (S_api_Chart × Bool) := ((rickyardref07_Open.f fu a0).bind fun t1 => (if (!t1.2.2.2) then some ((⟨(0 : Int), (Arr.rep 48 (0 : Int))⟩ : S_api_Chart), false) else (if (!decide (t1.1 = 4)) then some ((⟨(0 : Int), (Arr.rep 48 (0 : Int))⟩ : S_api_Chart), false) else (if (decide (t1.2.1 > 7)) then some ((⟨(0 : Int), (Arr.rep 48 (0 : Int))⟩ : S_api_Chart), false) else ((loopM (rickyardref10_Get.s0 fu t1) fu (0, (⟨t1.2.1, (Arr.rep 48 (0 : Int))⟩ : S_api_Chart))).bind fun e7 => ((rickyardref10_Put.f fu e7).bind fun t12 => (if (!decide (t12 = (List.map toB a0))) then some ((⟨(0 : Int), (Arr.rep 48 (0 : Int))⟩ : S_api_Chart), false) else some (e7, true))))))))
theorem rickyardref10_Get.sc (fu : Nat) (a0 : List Int) (r : S_api_Chart × Bool) (h : rickyardref10_Get.f fu a0 = some r) : SC Tryz.prog CT 28 [.v (.sl (.int .u8)) (a0 : List Int)] [] (.tup [.v (.st .S_api_Chart) (r.1 : S_api_Chart), vb r.2]) [] := by
 unfold rickyardref10_Get.f at h
 refine sq Tryz.func28 r (fun r => .tup [.v (.st .S_api_Chart) (r.1 : S_api_Chart), vb r.2]) (fun r => []) fun X => ?_
 refine bk h fun t1 k2 h => ?_
 refine cl4 cok.g (rickyardref07_Open.sc fu _ _ k2) (.tup [vi .i64 t1.1, vi .i64 t1.2.1, vs t1.2.2.1, vb t1.2.2.2]) [] 1 ?_
 refine t_reg cok ?_
 refine bi h (fun c3 h => ?_) (fun c3 h => ?_)
 ·skip
  refine t_cond cok ?_
  exact fk h
 refine bi h (fun c4 h => ?_) (fun c4 h => ?_)
 ·skip
  refine t_cond cok ?_
  exact fk h
 refine t_cond cok ?_
 refine bi h (fun c5 h => ?_) (fun c5 h => ?_)
 ·skip
  exact fk h
 refine bk h fun e7 l8 h => ?_
 refine t_cutx cok 0 (fun (e7 : S_api_Chart) => ⟨[(0, .v (.sl (.int .u8)) (a0 : List Int)), (2, .ptr 0 0), (8, .ptr 1 0)], [.box 70 (.v (.st .S_api_Chart) ((⟨(0 : Int), (Arr.rep 48 (0 : Int))⟩ : S_api_Chart) : S_api_Chart)), .box 70 (.v (.st .S_api_Chart) (e7 : S_api_Chart))]⟩) e7 ?_ ?_
 ·skip
  have h9 := h
  refine t_loop cok (fun (s6 : Int × S_api_Chart) => ⟨[(0, .v (.sl (.int .u8)) (a0 : List Int)), (2, .ptr 0 0), (6, vs t1.2.2.1), (8, .ptr 1 0), (9, vi .i64 s6.1)], [.box 70 (.v (.st .S_api_Chart) ((⟨(0 : Int), (Arr.rep 48 (0 : Int))⟩ : S_api_Chart) : S_api_Chart)), .box 70 (.v (.st .S_api_Chart) (s6.2 : S_api_Chart))]⟩) l8 (by kernel_rfl) (fun s6 x10 h => ?_)
  unfold rickyardref10_Get.s0 at h
  refine t_cond cok ?_
  refine bi h (fun c11 h => ?_) (fun c11 h => ?_)
  ·skip
   refine ag h fun h => ?_
   refine ag h fun h => ?_
   exact lik h
  exact lpx h fun hy => ek (sj hy)
 refine t_draw cok mo [⟨0, false, [8], [1], 0, []⟩, ⟨1, true, [40], [], 0, [0]⟩, ⟨2, false, [0], [], 0, []⟩, ⟨3, false, [42], [], 0, [2]⟩, ⟨4, false, [41, 43], [], 0, cl 4⟩] (by kernel_rfl) ?_
 refine bk h fun t12 k13 h => ?_
 refine cl4 cok.g (rickyardref10_Put.sc fu _ _ k13) (vs t12) [] 2 ?_
 refine t_cond cok ?_
 refine bi h (fun c14 h => ?_) (fun c14 h => ?_)
 ·skip
  exact fk h
 exact fk h
def rickyardref10_Right.f (fu : Nat) (a0 : S_api_Chart) : Option Bool := (if (decide (a0.Place ≥ 0)) then some ((decide (a0.Place ≤ 7))) else some (false))
theorem rickyardref10_Right.sc (fu : Nat) (a0 : S_api_Chart) (r : Bool) (h : rickyardref10_Right.f fu a0 = some r) : SC Tryz.prog CT 51 [.v (.st .S_api_Chart) (a0 : S_api_Chart)] [] (vb r) [] := by
 unfold rickyardref10_Right.f at h
 refine sq Tryz.func51 r (fun r => vb r) (fun r => []) fun X => ?_
 refine t_reg cok ?_
 refine bi h (fun c1 h => ?_) (fun c1 h => ?_)
 ·skip
  exact fk h
 exact fk h
def rickyardref10_List.s1 (fu : Nat) (a0 : S_api_Chart) (s1 : (List Int) × Int) : ((List Int) × Int × Int) → Option (Sum (List Int) ((List Int) × Int × Int)) := fun s10 => (if (decide (s10.2.2 < 8)) then (((if (decide ((Int.tmod s10.2.1 2) = 1)) then if List.length s10.1 + List.length [(IntKind.i64.wrap ((IntKind.i64.wrap ((IntKind.i64.wrap (384 * a0.Place)) + (IntKind.i64.wrap (8 * s1.2)))) + s10.2.2))] ≤ LIM then some ((s10.1 ++ [(IntKind.i64.wrap ((IntKind.i64.wrap ((IntKind.i64.wrap (384 * a0.Place)) + (IntKind.i64.wrap (8 * s1.2)))) + s10.2.2))])) else none else some (s10.1)) : Option (List Int)).bind fun x16 => some (Sum.inr (x16, (IntKind.i64.wrap (Int.tdiv s10.2.1 2)), (IntKind.i64.wrap (s10.2.2 + 1))))) else some (Sum.inl (s10.1)))
def rickyardref10_List.s0 (fu : Nat) (a0 : S_api_Chart) : ((List Int) × Int) → Option (Sum (List Int) ((List Int) × Int)) := fun s1 => (if (decide (s1.2 < 48)) then ((rickyardref10_Right.f fu a0).bind fun t7 => (if t7 then if 0 ≤ s1.2 ∧ s1.2 < 48 then ((loopM (rickyardref10_List.s1 fu a0 s1) fu (s1.1, (IntKind.i64.wrap (Arr.get a0.Bits s1.2)), 0)).bind fun e11 => some (Sum.inr (e11, (IntKind.i64.wrap (s1.2 + 1))))) else none else some (Sum.inl (s1.1)))) else some (Sum.inl (s1.1)))
def rickyardref10_List.f (fu : Nat) (a0 : S_api_Chart) : Option (List Int) := ((loopM (rickyardref10_List.s0 fu a0) fu (([] : List Int), 0)).bind fun e2 => some (e2))
theorem rickyardref10_List.sc (fu : Nat) (a0 : S_api_Chart) (r : (List Int)) (h : rickyardref10_List.f fu a0 = some r) : SC Tryz.prog CT 29 [.v (.st .S_api_Chart) (a0 : S_api_Chart)] [] (.sl 0 1 []) [.row (.int .i64) 3 (r : List Int)] := by
 unfold rickyardref10_List.f at h
 refine sq Tryz.func29 r (fun r => .sl 0 1 []) (fun r => [.row (.int .i64) 3 (r : List Int)]) fun X => ?_
 refine bk h fun e2 l3 h => ?_
 refine t_cutx cok 0 (fun (e2 : (List Int)) => ⟨[(3, .sl 0 1 [])], [.row (.int .i64) 3 (e2 : List Int)]⟩) e2 ?_ ?_
 ·skip
  have h4 := h
  refine t_loop cok (fun (s1 : (List Int) × Int) => ⟨[(1, .ptr 0 0), (3, .sl 1 1 []), (4, vi .i64 s1.2)], [.box 70 (.v (.st .S_api_Chart) (a0 : S_api_Chart)), .row (.int .i64) 3 (s1.1 : List Int)]⟩) l3 (by kernel_rfl) (fun s1 x5 h => ?_)
  unfold rickyardref10_List.s0 at h
  refine t_reg cok ?_
  refine bi h (fun c6 h => ?_) (fun c6 h => ?_)
  ·skip
   refine bk h fun t7 k8 h => ?_
   refine cl4 cok.g (rickyardref10_Right.sc fu _ _ k8) (vb t7) [] 2 ?_
   refine t_cond cok ?_
   refine bi h (fun c9 h => ?_) (fun c9 h => ?_)
   ·skip
    refine ag h fun h => ?_
    refine bk h fun e11 l12 h => ?_
    refine t_cutx cok 2 (fun (e11 : (List Int)) => ⟨[(1, .ptr 0 0), (3, .sl 1 1 []), (4, vi .i64 s1.2), (10, .v (.st .S_api_Chart) (a0 : S_api_Chart)), (11, vb t7)], [.box 70 (.v (.st .S_api_Chart) (a0 : S_api_Chart)), .row (.int .i64) 3 (e11 : List Int)]⟩) e11 ?_ ?_
    ·skip
     have h13 := h
     refine t_loop cok (fun (s10 : (List Int) × Int × Int) => ⟨[(1, .ptr 0 0), (3, .sl 1 1 []), (4, vi .i64 s1.2), (5, vi .i64 s10.2.1), (6, vi .i64 s10.2.2), (10, .v (.st .S_api_Chart) (a0 : S_api_Chart)), (11, vb t7)], [.box 70 (.v (.st .S_api_Chart) (a0 : S_api_Chart)), .row (.int .i64) 3 (s10.1 : List Int)]⟩) l12 (by kernel_rfl) (fun s10 x14 h => ?_)
     unfold rickyardref10_List.s1 at h
     refine t_cond cok ?_
     refine bi h (fun c15 h => ?_) (fun c15 h => ?_)
     ·skip
      refine ⟨by decide, ?_⟩
      refine bk h fun x16 j17 h => ?_
      refine t_cut cok (fun (x16 : (List Int)) => ⟨[(1, .ptr 0 0), (3, .sl 1 1 []), (4, vi .i64 s1.2), (5, vi .i64 s10.2.1), (6, vi .i64 s10.2.2), (10, .v (.st .S_api_Chart) (a0 : S_api_Chart)), (11, vb t7)], [.box 70 (.v (.st .S_api_Chart) (a0 : S_api_Chart)), .row (.int .i64) 3 (x16 : List Int)]⟩) x16 ?_ ?_
      ·skip
       have h18 := h
       have h := j17
       refine t_cond cok ?_
       refine bi h (fun c19 h => ?_) (fun c19 h => ?_)
       ·skip
        refine ag h fun h => ?_
        exact ek h
       exact ek h
      refine ⟨by decide, ?_⟩
      exact lik h
     exact lpx h fun hy => ek (sj hy)
    exact lik h
   exact lpx h fun hy => ek (sj hy)
  refine t_cond cok ?_
  exact lpx h fun hy => ek (sj hy)
 exact fk h
def rickyardref14_join.s0 (fu : Nat) (a1 : List Int) : ((List UInt8) × Int) → Option (Sum (List UInt8) ((List UInt8) × Int)) := fun s1 => (if (decide (s1.2 < (List.length a1 : Int))) then if List.length s1.1 + List.length [32] ≤ LIM then if 0 ≤ s1.2 ∧ s1.2 < (List.length a1 : Int) then ((rickyardref03_Show.f fu (ix a1 s1.2)).bind fun t7 => if List.length (s1.1 ++ [32]) + List.length t7 ≤ LIM then some (Sum.inr (((s1.1 ++ [32]) ++ t7), (IntKind.i64.wrap (s1.2 + 1)))) else none) else none else none else some (Sum.inl (s1.1)))
def rickyardref14_join.f (fu : Nat) (a0 : List UInt8) (a1 : List Int) : Option (List UInt8) := ((loopM (rickyardref14_join.s0 fu a1) fu (a0, 0)).bind fun e2 => some (e2))
theorem rickyardref14_join.sc (fu : Nat) (a0 : List UInt8) (a1 : List Int) (r : (List UInt8)) (h : rickyardref14_join.f fu a0 a1 = some r) : SC Tryz.prog CT 23 [vs a0, .v (.sl (.int .i64)) (a1 : List Int)] [] (vs r) [] := by
 unfold rickyardref14_join.f at h
 refine sq Tryz.func23 r (fun r => vs r) (fun r => []) fun X => ?_
 refine bk h fun e2 l3 h => ?_
 refine t_cutx cok 0 (fun (e2 : (List UInt8)) => ⟨[(0, vs e2)], []⟩) e2 ?_ ?_
 ·skip
  have h4 := h
  refine t_loop cok (fun (s1 : (List UInt8) × Int) => ⟨[(0, vs s1.1), (1, .v (.sl (.int .i64)) (a1 : List Int)), (5, vi .i64 s1.2)], []⟩) l3 (by kernel_rfl) (fun s1 x5 h => ?_)
  unfold rickyardref14_join.s0 at h
  refine t_cond cok ?_
  refine bi h (fun c6 h => ?_) (fun c6 h => ?_)
  ·skip
   refine ag h fun h => ?_
   refine ag h fun h => ?_
   refine bk h fun t7 k8 h => ?_
   refine cl4 cok.g (rickyardref03_Show.sc fu _ _ k8) (vs t7) [] 0 ?_
   refine ag h fun h => ?_
   exact lik h
  exact lpx h fun hy => ek (sj hy)
 exact fk h
def rickyardref14_leaf.s0 (fu : Nat) (a0 : S_api_Leaf) : (Int × (List Int) × (List UInt8)) → Option (Sum ((List Int) × (List UInt8)) (Int × (List Int) × (List UInt8))) := fun s1 => (if (decide (s1.1 < 7)) then if 0 ≤ s1.1 ∧ s1.1 < 7 then (((if (Arr.get a0.Seats s1.1).Live then if List.length s1.2.1 + List.length [(Arr.get a0.Seats s1.1).Next] ≤ LIM then some ([43], (s1.2.1 ++ [(Arr.get a0.Seats s1.1).Next])) else none else some ([45], s1.2.1)) : Option ((List UInt8) × (List Int))).bind fun x7 => if List.length s1.2.2 + List.length [32] ≤ LIM then ((rickyardref03_Show.f fu ((Arr.get a0.Seats s1.1).Gen)).bind fun t11 => if List.length (s1.2.2 ++ [32]) + List.length t11 ≤ LIM then if List.length ((s1.2.2 ++ [32]) ++ t11) + List.length x7.1 ≤ LIM then ((rickyardref03_Show.f fu ((Arr.get a0.Seats s1.1).Next)).bind fun t13 => if List.length (((s1.2.2 ++ [32]) ++ t11) ++ x7.1) + List.length t13 ≤ LIM then some (Sum.inr ((IntKind.i64.wrap (s1.1 + 1)), x7.2, ((((s1.2.2 ++ [32]) ++ t11) ++ x7.1) ++ t13))) else none) else none else none) else none) else none else some (Sum.inl (s1.2.1, s1.2.2)))
def rickyardref14_leaf.f (fu : Nat) (a0 : S_api_Leaf) : Option S_rickyardref14_Cell := ((loopM (rickyardref14_leaf.s0 fu a0) fu (0, ([] : List Int), [108, 101, 97, 102])).bind fun e2 => some ((⟨2, e2.1, e2.2, (⟨(⟨(0 : Int), (0 : Int)⟩ : S_api_Handle), (0 : Int), (0 : Int)⟩ : S_api_Entry), []⟩ : S_rickyardref14_Cell)))
theorem rickyardref14_leaf.sc (fu : Nat) (a0 : S_api_Leaf) (r : S_rickyardref14_Cell) (h : rickyardref14_leaf.f fu a0 = some r) : SC Tryz.prog CT 26 [.v (.st .S_api_Leaf) (a0 : S_api_Leaf)] [] (.v (.st .S_rickyardref14_Cell) (r : S_rickyardref14_Cell)) [] := by
 unfold rickyardref14_leaf.f at h
 refine sq Tryz.func26 r (fun r => .v (.st .S_rickyardref14_Cell) (r : S_rickyardref14_Cell)) (fun r => []) fun X => ?_
 refine bk h fun e2 l3 h => ?_
 refine t_cutx cok 0 (fun (e2 : (List Int) × (List UInt8)) => ⟨[(2, .ptr 0 0), (3, .ptr 1 0)], [.box 30 (.agg [vi .i64 (0 : Int), .nils, vs [], .v (.st .S_api_Entry) ((⟨(⟨(0 : Int), (0 : Int)⟩ : S_api_Handle), (0 : Int), (0 : Int)⟩ : S_api_Entry) : S_api_Entry), vs []]), .box 30 (.agg [vi .i64 2, .sl 2 1 [], vs e2.2, .v (.st .S_api_Entry) ((⟨(⟨(0 : Int), (0 : Int)⟩ : S_api_Handle), (0 : Int), (0 : Int)⟩ : S_api_Entry) : S_api_Entry), vs []]), .row (.int .i64) 3 (e2.1 : List Int)]⟩) e2 ?_ ?_
 ·skip
  have h4 := h
  refine t_loop cok (fun (s1 : Int × (List Int) × (List UInt8)) => ⟨[(1, .ptr 0 0), (2, .ptr 1 0), (3, .ptr 2 0), (4, vi .i64 s1.1)], [.box 54 (.v (.st .S_api_Leaf) (a0 : S_api_Leaf)), .box 30 (.agg [vi .i64 (0 : Int), .nils, vs [], .v (.st .S_api_Entry) ((⟨(⟨(0 : Int), (0 : Int)⟩ : S_api_Handle), (0 : Int), (0 : Int)⟩ : S_api_Entry) : S_api_Entry), vs []]), .box 30 (.agg [vi .i64 2, .sl 3 1 [], vs s1.2.2, .v (.st .S_api_Entry) ((⟨(⟨(0 : Int), (0 : Int)⟩ : S_api_Handle), (0 : Int), (0 : Int)⟩ : S_api_Entry) : S_api_Entry), vs []]), .row (.int .i64) 3 (s1.2.1 : List Int)]⟩) l3 (by kernel_rfl) (fun s1 x5 h => ?_)
  unfold rickyardref14_leaf.s0 at h
  refine t_cond cok ?_
  refine bi h (fun c6 h => ?_) (fun c6 h => ?_)
  ·skip
   refine ag h fun h => ?_
   refine bk h fun x7 j8 h => ?_
   refine t_cut cok (fun (x7 : (List UInt8) × (List Int)) => ⟨[(1, .ptr 0 0), (2, .ptr 1 0), (3, .ptr 2 0), (4, vi .i64 s1.1), (5, .ptr 4 0), (6, vs x7.1)], [.box 54 (.v (.st .S_api_Leaf) (a0 : S_api_Leaf)), .box 30 (.agg [vi .i64 (0 : Int), .nils, vs [], .v (.st .S_api_Entry) ((⟨(⟨(0 : Int), (0 : Int)⟩ : S_api_Handle), (0 : Int), (0 : Int)⟩ : S_api_Entry) : S_api_Entry), vs []]), .box 30 (.agg [vi .i64 2, .sl 3 1 [], vs s1.2.2, .v (.st .S_api_Entry) ((⟨(⟨(0 : Int), (0 : Int)⟩ : S_api_Handle), (0 : Int), (0 : Int)⟩ : S_api_Entry) : S_api_Entry), vs []]), .row (.int .i64) 3 (x7.2 : List Int), .box 51 (.v (.st .S_api_Seat) ((Arr.get a0.Seats s1.1) : S_api_Seat))]⟩) x7 ?_ ?_
   ·skip
    have h9 := h
    have h := j8
    refine t_cond cok ?_
    refine bi h (fun c10 h => ?_) (fun c10 h => ?_)
    ·skip
     refine ag h fun h => ?_
     exact ek h
    exact ek h
   refine t_draw cok mo [⟨0, false, [3], [], 0, []⟩, ⟨1, false, [25], [2], 0, [0]⟩, ⟨2, false, [26], [], 0, [0, 1]⟩, ⟨3, false, [5], [], 0, []⟩, ⟨4, false, [28], [4], 0, [3]⟩, ⟨5, true, [29], [], 0, [3, 4]⟩, ⟨6, false, [27, 30], [], 0, cl 6⟩, ⟨7, false, [6], [], 0, []⟩, ⟨8, false, [31, 32], [], 0, cl 8⟩, ⟨9, false, [5], [], 0, []⟩, ⟨10, false, [34], [4], 0, [9]⟩, ⟨11, true, [35], [], 0, [3, 4, 5, 9, 10]⟩, ⟨12, false, [33, 36], [], 0, cl 12⟩, ⟨13, false, [3], [], 0, cl 13⟩, ⟨14, true, [37, 38], [2], 0, cl 14⟩] (by kernel_rfl) ?_
   refine ag h fun h => ?_
   refine bk h fun t11 k12 h => ?_
   refine cl4 cok.g (rickyardref03_Show.sc fu _ _ k12) (vs t11) [] 5 ?_
   refine ag h fun h => ?_
   refine ag h fun h => ?_
   refine bk h fun t13 k14 h => ?_
   refine cl4 cok.g (rickyardref03_Show.sc fu _ _ k14) (vs t13) [] 5 ?_
   refine ag h fun h => ?_
   exact lik h
  exact lpx h fun hy => ek (sj hy)
 exact fk h
def rickyardref14_Read.f (fu : Nat) (a0 : List Int) : Option S_rickyardref14_Cell := ((rickyardref08_Get.f fu a0).bind fun t1 => (if t1.2 then ((rickyardref03_Show.f fu t1.1.Entry.Handle.Slot).bind fun t4 => if List.length [110, 111, 100, 101, 32] + List.length t4 ≤ LIM then if List.length ([110, 111, 100, 101, 32] ++ t4) + List.length [46] ≤ LIM then ((rickyardref03_Show.f fu t1.1.Entry.Handle.Gen).bind fun t6 => if List.length (([110, 111, 100, 101, 32] ++ t4) ++ [46]) + List.length t6 ≤ LIM then ((rickyardref14_join.f fu ((([110, 111, 100, 101, 32] ++ t4) ++ [46]) ++ t6) [t1.1.Entry.Key, t1.1.Entry.Value]).bind fun t8 => ((rickyardref14_join.f fu t8 t1.1.Kids).bind fun t10 => some ((⟨1, t1.1.Kids, t10, t1.1.Entry, []⟩ : S_rickyardref14_Cell)))) else none) else none else none) else ((rickyardref09_GetLeaf.f fu a0).bind fun t12 => (if t12.2 then ((rickyardref14_leaf.f fu t12.1).bind fun t15 => some (t15)) else ((rickyardref09_GetFan.f fu a0).bind fun t17 => (if t17.2 then ((rickyardref14_join.f fu [102, 97, 110] (Arr.l t17.1.Kids)).bind fun t20 => some ((⟨3, (Arr.l t17.1.Kids), t20, (⟨(⟨(0 : Int), (0 : Int)⟩ : S_api_Handle), (0 : Int), (0 : Int)⟩ : S_api_Entry), []⟩ : S_rickyardref14_Cell))) else ((rickyardref10_Get.f fu a0).bind fun t22 => (if t22.2 then ((rickyardref10_List.f fu t22.1).bind fun t25 => ((rickyardref14_join.f fu [99, 104, 97, 114, 116] [t22.1.Place, (List.length t25 : Int)]).bind fun t27 => some ((⟨4, [], t27, (⟨(⟨(0 : Int), (0 : Int)⟩ : S_api_Handle), (0 : Int), (0 : Int)⟩ : S_api_Entry), []⟩ : S_rickyardref14_Cell)))) else ((rickyardref11_Get.f fu a0).bind fun t29 => (if t29.2 then if List.length [113, 117, 101, 117, 101, 32] + List.length t29.1.Name ≤ LIM then ((rickyardref14_join.f fu ([113, 117, 101, 117, 101, 32] ++ t29.1.Name) [t29.1.Count]).bind fun t32 => ((rickyardref14_join.f fu t32 (Arr.l t29.1.Roots)).bind fun t34 => some ((⟨5, (Arr.l t29.1.Roots), t34, (⟨(⟨(0 : Int), (0 : Int)⟩ : S_api_Handle), (0 : Int), (0 : Int)⟩ : S_api_Entry), t29.1.Name⟩ : S_rickyardref14_Cell)))) else none else ((rickyardref11_GetDir.f fu a0).bind fun t36 => (if t36.2 then ((rickyardref14_join.f fu [100, 105, 114] t36.1).bind fun t39 => some ((⟨6, t36.1, t39, (⟨(⟨(0 : Int), (0 : Int)⟩ : S_api_Handle), (0 : Int), (0 : Int)⟩ : S_api_Entry), []⟩ : S_rickyardref14_Cell))) else ((rickyardref13_Get.f fu a0).bind fun t41 => (if t41.2 then if List.length [t41.1.Tickets.Top, t41.1.Dir] + List.length t41.1.Charts ≤ LIM then ((rickyardref14_join.f fu [115, 117, 112, 101, 114] [t41.1.Epoch, t41.1.Tickets.Geometry.Blocks, t41.1.Tickets.Geometry.Slots, t41.1.Tickets.Geometry.Gens, t41.1.Tickets.High, t41.1.Tickets.Free, t41.1.Tickets.Top, t41.1.Dir]).bind fun t44 => ((rickyardref14_join.f fu t44 t41.1.Charts).bind fun t46 => some ((⟨7, ([t41.1.Tickets.Top, t41.1.Dir] ++ t41.1.Charts), t46, (⟨(⟨(0 : Int), (0 : Int)⟩ : S_api_Handle), (0 : Int), (0 : Int)⟩ : S_api_Entry), []⟩ : S_rickyardref14_Cell)))) else none else some ((⟨(0 : Int), [], [110, 111, 110, 101], (⟨(⟨(0 : Int), (0 : Int)⟩ : S_api_Handle), (0 : Int), (0 : Int)⟩ : S_api_Entry), []⟩ : S_rickyardref14_Cell))))))))))))))))
theorem rickyardref14_Read.sc (fu : Nat) (a0 : List Int) (r : S_rickyardref14_Cell) (h : rickyardref14_Read.f fu a0 = some r) : SC Tryz.prog CT 8 [.v (.sl (.int .u8)) (a0 : List Int)] [] (.v (.st .S_rickyardref14_Cell) (r : S_rickyardref14_Cell)) [] := by
 unfold rickyardref14_Read.f at h
 refine sq Tryz.func8 r (fun r => .v (.st .S_rickyardref14_Cell) (r : S_rickyardref14_Cell)) (fun r => []) fun X => ?_
 refine bk h fun t1 k2 h => ?_
 refine cl4 cok.g (rickyardref08_Get.sc fu _ _ k2) (.tup [.v (.st .S_api_Node) (t1.1 : S_api_Node), vb t1.2]) [] 1 ?_
 refine t_cond cok ?_
 refine bi h (fun c3 h => ?_) (fun c3 h => ?_)
 ·skip
  refine t_draw cok mo [⟨0, false, [3], [], 0, []⟩, ⟨1, false, [21], [1], 0, [0]⟩, ⟨2, false, [3], [], 0, []⟩, ⟨3, false, [23], [1], 0, [2]⟩, ⟨4, false, [5], [], 0, []⟩, ⟨5, false, [25], [2], 0, [4]⟩, ⟨6, true, [26], [], 0, [4, 5]⟩, ⟨7, false, [27], [], 0, [4, 5, 6]⟩, ⟨8, false, [28], [], 0, [4, 5, 6, 7]⟩, ⟨9, false, [5], [], 0, []⟩, ⟨10, false, [30], [2], 0, [9]⟩, ⟨11, true, [31], [], 0, [4, 5, 6, 9, 10]⟩, ⟨12, false, [29, 32], [], 0, [4, 5, 6, 7, 8, 9, 10, 11]⟩, ⟨13, false, [3], [], 0, []⟩, ⟨14, false, [34], [], 0, [13]⟩, ⟨15, false, [35], [1], 0, [13, 14]⟩, ⟨16, false, [3], [], 0, []⟩, ⟨17, false, [37], [], 0, [16]⟩, ⟨18, false, [38], [1], 0, [16, 17]⟩, ⟨19, true, [36, 39], [], 1, [13, 14, 15, 16, 17, 18]⟩, ⟨20, true, [33, 40], [3], 0, [4, 5, 6, 7, 8, 9, 10, 11, 12, 13, 14, 15, 16, 17, 18, 19]⟩, ⟨21, false, [3], [], 0, []⟩, ⟨22, false, [42], [1], 0, [21]⟩, ⟨23, true, [41, 43], [], 0, [4, 5, 6, 7, 8, 9, 10, 11, 12, 13, 14, 15, 16, 17, 18, 19, 20, 21, 22]⟩, ⟨24, false, [22, 24, 44], [], 0, cl 24⟩, ⟨25, true, [2, 45], [0], 0, cl 25⟩] (by kernel_rfl) ?_
  refine bk h fun t4 k5 h => ?_
  refine cl4 cok.g (rickyardref03_Show.sc fu _ _ k5) (vs t4) [] 3 ?_
  refine ag h fun h => ?_
  refine ag h fun h => ?_
  refine bk h fun t6 k7 h => ?_
  refine cl4 cok.g (rickyardref03_Show.sc fu _ _ k7) (vs t6) [] 3 ?_
  refine ag h fun h => ?_
  refine bk h fun t8 k9 h => ?_
  refine cl4 cok.g (rickyardref14_join.sc fu _ _ _ k9) (vs t8) [] 4 ?_
  refine bk h fun t10 k11 h => ?_
  refine cl4 cok.g (rickyardref14_join.sc fu _ _ _ k11) (vs t10) [] 4 ?_
  exact fk h
 refine bk h fun t12 k13 h => ?_
 refine cl4 cok.g (rickyardref09_GetLeaf.sc fu _ _ k13) (.tup [.v (.st .S_api_Leaf) (t12.1 : S_api_Leaf), vb t12.2]) [] 2 ?_
 refine t_cond cok ?_
 refine bi h (fun c14 h => ?_) (fun c14 h => ?_)
 ·skip
  refine bk h fun t15 k16 h => ?_
  refine cl4 cok.g (rickyardref14_leaf.sc fu _ _ k16) (.v (.st .S_rickyardref14_Cell) (t15 : S_rickyardref14_Cell)) [] 3 ?_
  exact fk h
 refine bk h fun t17 k18 h => ?_
 refine cl4 cok.g (rickyardref09_GetFan.sc fu _ _ k18) (.tup [.v (.st .S_api_Fan) (t17.1 : S_api_Fan), vb t17.2]) [] 3 ?_
 refine t_cond cok ?_
 refine bi h (fun c19 h => ?_) (fun c19 h => ?_)
 ·skip
  refine t_draw cok mo [⟨0, false, [7], [], 0, []⟩, ⟨1, false, [60], [], 0, [0]⟩, ⟨2, false, [7], [], 0, []⟩, ⟨3, false, [62], [], 0, [2]⟩, ⟨4, true, [63], [3], 0, [2, 3]⟩, ⟨5, false, [61, 64], [], 0, cl 5⟩, ⟨6, true, [2, 65], [0, 3], 0, cl 6⟩] (by kernel_rfl) ?_
  refine bk h fun t20 k21 h => ?_
  refine cl4 cok.g (rickyardref14_join.sc fu _ _ _ k21) (vs t20) [] 4 ?_
  exact fiB [3] h (by kernel_rfl)
 refine bk h fun t22 k23 h => ?_
 refine cl4 cok.g (rickyardref10_Get.sc fu _ _ k23) (.tup [.v (.st .S_api_Chart) (t22.1 : S_api_Chart), vb t22.2]) [] 4 ?_
 refine t_cond cok ?_
 refine bi h (fun c24 h => ?_) (fun c24 h => ?_)
 ·skip
  refine t_draw cok mo [⟨0, false, [8], [], 0, []⟩, ⟨1, false, [72], [4], 0, [0]⟩, ⟨2, false, [8], [4], 0, []⟩, ⟨3, true, [74], [], 1, [2]⟩, ⟨4, false, [75], [5], 0, [2, 3]⟩, ⟨5, true, [73, 76], [], 1, cl 5⟩, ⟨6, true, [77], [6], 0, cl 6⟩, ⟨7, false, [78], [], 0, cl 7⟩, ⟨8, true, [2, 79], [0], 0, cl 8⟩] (by kernel_rfl) ?_
  refine bk h fun t25 k26 h => ?_
  refine cl4 cok.g (rickyardref10_List.sc fu _ _ k26) (.sl 5 1 []) [(5, .row (.int .i64) 3 (t25 : List Int))] 6 ?_
  refine bk h fun t27 k28 h => ?_
  refine cl4 cok.g (rickyardref14_join.sc fu _ _ _ k28) (vs t27) [] 7 ?_
  exact fk h
 refine bk h fun t29 k30 h => ?_
 refine cl4 cok.g (rickyardref11_Get.sc fu _ _ k30) (.tup [.v (.st .S_api_Queue) (t29.1 : S_api_Queue), vb t29.2]) [] 5 ?_
 refine t_cond cok ?_
 refine bi h (fun c31 h => ?_) (fun c31 h => ?_)
 ·skip
  refine t_fbx cok 5 77 .S_api_Queue (t29.1) (by kernel_rfl) ?_
  refine t_draw cok mo [⟨0, false, [9], [], 0, []⟩, ⟨1, false, [86], [], 0, [0]⟩, ⟨2, false, [9], [], 0, []⟩, ⟨3, false, [88], [], 0, [2]⟩, ⟨4, false, [9], [], 0, []⟩, ⟨5, false, [90], [], 0, [4]⟩, ⟨6, false, [91], [], 0, [4, 5]⟩, ⟨7, false, [9], [], 0, []⟩, ⟨8, false, [93], [], 0, [7]⟩, ⟨9, true, [94], [], 1, [7, 8]⟩, ⟨10, true, [92, 95], [6], 0, [4, 5, 6, 7, 8, 9]⟩, ⟨11, false, [9], [], 0, []⟩, ⟨12, false, [97], [], 0, [11]⟩, ⟨13, true, [96, 98], [], 0, [4, 5, 6, 7, 8, 9, 10, 11, 12]⟩, ⟨14, false, [87, 89, 99], [], 0, cl 14⟩, ⟨15, true, [2, 100], [0], 0, cl 15⟩] (by kernel_rfl) ?_
  refine ag h fun h => ?_
  refine bk h fun t32 k33 h => ?_
  refine cl4 cok.g (rickyardref14_join.sc fu _ _ _ k33) (vs t32) [] 7 ?_
  refine bk h fun t34 k35 h => ?_
  refine cl4 cok.g (rickyardref14_join.sc fu _ _ _ k35) (vs t34) [] 7 ?_
  exact fk h
 refine bk h fun t36 k37 h => ?_
 refine cl4 cok.g (rickyardref11_GetDir.sc fu _ _ k37) (.tup [.sl 6 1 [], vb t36.2]) [(6, .row (.int .i64) 3 (t36.1 : List Int))] 7 ?_
 refine t_cond cok ?_
 refine bi h (fun c38 h => ?_) (fun c38 h => ?_)
 ·skip
  refine bk h fun t39 k40 h => ?_
  refine cl4 cok.g (rickyardref14_join.sc fu _ _ _ k40) (vs t39) [] 7 ?_
  exact fk h
 refine bk h fun t41 k42 h => ?_
 refine cl4 cok.g (rickyardref13_Get.sc fu _ _ k42) (.tup [.v (.st .S_api_Super) (t41.1 : S_api_Super), vb t41.2]) [] 7 ?_
 refine t_cond cok ?_
 refine bi h (fun c43 h => ?_) (fun c43 h => ?_)
 ·skip
  refine t_draw cok mo [⟨0, false, [11], [], 0, []⟩, ⟨1, false, [117], [], 0, [0]⟩, ⟨2, false, [118], [7], 0, [0, 1]⟩, ⟨3, false, [11], [], 0, []⟩, ⟨4, false, [120], [7], 0, [3]⟩, ⟨5, true, [119, 121], [], 1, cl 5⟩, ⟨6, false, [11], [], 0, []⟩, ⟨7, false, [123], [7], 0, [6]⟩, ⟨8, true, [122, 124], [8], 1, cl 8⟩, ⟨9, false, [11], [], 0, []⟩, ⟨10, false, [126], [7], 0, [9]⟩, ⟨11, false, [11], [], 0, []⟩, ⟨12, false, [128], [], 0, [11]⟩, ⟨13, false, [129], [], 0, [11, 12]⟩, ⟨14, false, [130], [7], 0, [11, 12, 13]⟩, ⟨15, false, [11], [], 0, []⟩, ⟨16, false, [132], [], 0, [15]⟩, ⟨17, false, [133], [], 0, [15, 16]⟩, ⟨18, false, [134], [7], 0, [15, 16, 17]⟩, ⟨19, false, [11], [], 0, []⟩, ⟨20, false, [136], [], 0, [19]⟩, ⟨21, false, [137], [], 0, [19, 20]⟩, ⟨22, false, [138], [7], 0, [19, 20, 21]⟩, ⟨23, false, [11], [], 0, []⟩, ⟨24, false, [140], [], 0, [23]⟩, ⟨25, false, [141], [7], 0, [23, 24]⟩, ⟨26, false, [11], [], 0, []⟩, ⟨27, false, [143], [], 0, [26]⟩, ⟨28, false, [144], [7], 0, [26, 27]⟩, ⟨29, false, [11], [], 0, []⟩, ⟨30, false, [146], [], 0, [29]⟩, ⟨31, false, [147], [7], 0, [29, 30]⟩, ⟨32, false, [11], [], 0, []⟩, ⟨33, false, [149], [7], 0, [32]⟩, ⟨34, true, [127, 131, 135, 139, 142, 145, 148, 150], [], 1, [9, 10, 11, 12, 13, 14, 15, 16, 17, 18, 19, 20, 21, 22, 23, 24, 25, 26, 27, 28, 29, 30, 31, 32, 33]⟩, ⟨35, true, [151], [10], 0, cl 35⟩, ⟨36, false, [11], [], 0, []⟩, ⟨37, false, [153], [7], 0, [36]⟩, ⟨38, true, [152, 154], [], 0, cl 38⟩, ⟨39, false, [125, 155], [], 0, cl 39⟩, ⟨40, true, [2, 156], [0, 9], 0, cl 40⟩] (by kernel_rfl) ?_
  refine ag h fun h => ?_
  refine bk h fun t44 k45 h => ?_
  refine cl4 cok.g (rickyardref14_join.sc fu _ _ _ k45) (vs t44) [] 11 ?_
  refine bk h fun t46 k47 h => ?_
  refine cl4 cok.g (rickyardref14_join.sc fu _ _ _ k47) (vs t46) [] 11 ?_
  exact fk h
 exact fk h
def rickyardref14_swap.s0 (fu : Nat) (a1 : Int) (a2 : Int) : (Int × (List Int)) → Option (Sum (List Int) (Int × (List Int))) := fun s1 => (if (decide (s1.1 < (List.length s1.2 : Int))) then if 0 ≤ s1.1 ∧ s1.1 < (List.length s1.2 : Int) then (if (decide ((ix s1.2 s1.1) = a1)) then (((if (!decide (a1 = 0)) then if 0 ≤ s1.1 ∧ s1.1 < (List.length s1.2 : Int) then some ((List.set s1.2 (Int.toNat s1.1) a2)) else none else some (s1.2)) : Option (List Int)).bind fun x8 => some (Sum.inr ((IntKind.i64.wrap (s1.1 + 1)), x8))) else some (Sum.inr ((IntKind.i64.wrap (s1.1 + 1)), s1.2))) else none else some (Sum.inl (s1.2)))
def rickyardref14_swap.f (fu : Nat) (a0 : List Int) (a1 : Int) (a2 : Int) : Option (List Int) := if List.length ([] : List Int) + List.length a0 ≤ LIM then ((loopM (rickyardref14_swap.s0 fu a1 a2) fu (0, (([] : List Int) ++ a0))).bind fun e2 => some (e2)) else none
theorem rickyardref14_swap.sc (fu : Nat) (a0 : List Int) (a1 : Int) (a2 : Int) (r : (List Int)) (h : rickyardref14_swap.f fu a0 a1 a2 = some r) : SC Tryz.prog CT 40 [.v (.sl (.int .i64)) (a0 : List Int), vi .i64 a1, vi .i64 a2] [] (.sl 0 1 []) [.row (.int .i64) 3 (r : List Int)] := by
 unfold rickyardref14_swap.f at h
 refine sq Tryz.func40 r (fun r => .sl 0 1 []) (fun r => [.row (.int .i64) 3 (r : List Int)]) fun X => ?_
 refine ag h fun h => ?_
 refine bk h fun e2 l3 h => ?_
 refine t_cutx cok 0 (fun (e2 : (List Int)) => ⟨[(7, .sl 0 1 [])], [.row (.int .i64) 3 (e2 : List Int)]⟩) e2 ?_ ?_
 ·skip
  have h4 := h
  refine t_loop cok (fun (s1 : Int × (List Int)) => ⟨[(1, vi .i64 a1), (2, vi .i64 a2), (7, .sl 0 1 []), (8, vi .i64 s1.1)], [.row (.int .i64) 3 (s1.2 : List Int)]⟩) l3 (by kernel_rfl) (fun s1 x5 h => ?_)
  unfold rickyardref14_swap.s0 at h
  refine t_cond cok ?_
  refine bi h (fun c6 h => ?_) (fun c6 h => ?_)
  ·skip
   refine t_reg cok ?_
   refine ag h fun h => ?_
   refine bi h (fun c7 h => ?_) (fun c7 h => ?_)
   ·skip
    refine bk h fun x8 j9 h => ?_
    refine t_cut cok (fun (x8 : (List Int)) => ⟨[(1, vi .i64 a1), (2, vi .i64 a2), (7, .sl 0 1 []), (8, vi .i64 s1.1), (25, vi .i64 a1), (26, vb (!decide (a1 = 0)))], [.row (.int .i64) 3 (x8 : List Int)]⟩) x8 ?_ ?_
    ·skip
     have h10 := h
     have h := j9
     refine t_cond cok ?_
     refine bi h (fun c11 h => ?_) (fun c11 h => ?_)
     ·skip
      refine ag h fun h => ?_
      exact ek h
     exact ek h
    exact lik h
   refine t_cond cok ?_
   exact lik h
  exact lpx h fun hy => ek (sj hy)
 exact fk h
def rickyardref14_Turn.s0 (fu : Nat) (a1 : Int) (a2 : Int) : (Int × S_api_Leaf) → Option (Sum S_api_Leaf (Int × S_api_Leaf)) := fun s20 => (if (decide (s20.1 < 7)) then if 0 ≤ s20.1 ∧ s20.1 < 7 then (if (Arr.get s20.2.Seats s20.1).Live then if 0 ≤ s20.1 ∧ s20.1 < 7 then (((if (decide (((Arr.get s20.2.Seats s20.1).Next) = a1)) then if 0 ≤ s20.1 ∧ s20.1 < 7 then some ((⟨(updA s20.2.Seats s20.1 fun w => (⟨w.Live, w.Gen, a2⟩ : S_api_Seat))⟩ : S_api_Leaf)) else none else some (s20.2)) : Option S_api_Leaf).bind fun x27 => some (Sum.inr ((IntKind.i64.wrap (s20.1 + 1)), x27))) else none else some (Sum.inr ((IntKind.i64.wrap (s20.1 + 1)), s20.2))) else none else some (Sum.inl (s20.2)))
def rickyardref14_Turn.f (fu : Nat) (a0 : List Int) (a1 : Int) (a2 : Int) : Option ((List UInt8) × Bool) := ((rickyardref14_Read.f fu a0).bind fun t1 => (((if (decide (t1.Kind = 1)) then ((rickyardref08_Get.f fu a0).bind fun t8 => ((rickyardref14_swap.f fu t8.1.Kids a1 a2).bind fun t10 => ((rickyardref08_Right.f fu (⟨t8.1.Entry, t10⟩ : S_api_Node)).bind fun t12 => (if t12 then ((rickyardref08_Put.f fu (⟨t8.1.Entry, t10⟩ : S_api_Node)).bind fun t15 => some (Sum.inl (t15, true))) else some (Sum.inr ()))))) else (if (decide (t1.Kind = 2)) then ((rickyardref09_GetLeaf.f fu a0).bind fun t18 => ((loopM (rickyardref14_Turn.s0 fu a1 a2) fu (0, t18.1)).bind fun e21 => ((rickyardref09_Leaf.f fu e21).bind fun t31 => some (Sum.inl (t31.1, t31.2))))) else (if (decide (t1.Kind = 3)) then ((rickyardref09_GetFan.f fu a0).bind fun t34 => ((rickyardref14_swap.f fu (Arr.l t34.1.Kids) a1 a2).bind fun t36 => ((rickyardref09_Fan.f fu (⟨(Arr.copy t34.1.Kids t36)⟩ : S_api_Fan)).bind fun t38 => some (Sum.inl (t38.1, t38.2))))) else (if (decide (t1.Kind = 4)) then some (Sum.inl ((List.map toB a0), true)) else (((if (decide (t1.Kind = 5)) then ((rickyardref11_Get.f fu a0).bind fun t46 => ((rickyardref14_swap.f fu (Arr.l t46.1.Roots) a1 a2).bind fun t48 => ((rickyardref11_Right.f fu (⟨t46.1.Name, t46.1.Count, (Arr.copy t46.1.Roots t48)⟩ : S_api_Queue)).bind fun t50 => (if t50 then ((rickyardref11_Put.f fu (⟨t46.1.Name, t46.1.Count, (Arr.copy t46.1.Roots t48)⟩ : S_api_Queue)).bind fun t53 => some (Sum.inl (Sum.inl (t53, true)))) else some (Sum.inr ()))))) else (if (decide (t1.Kind = 6)) then ((rickyardref11_GetDir.f fu a0).bind fun t56 => ((rickyardref14_swap.f fu t56.1 a1 a2).bind fun t58 => ((rickyardref11_Dir.f fu t58).bind fun t60 => some (Sum.inl (Sum.inl (t60.1, t60.2)))))) else (((if (decide (t1.Kind = 7)) then ((rickyardref13_Get.f fu a0).bind fun t67 => ((rickyardref14_swap.f fu [t67.1.Tickets.Top, t67.1.Dir] a1 a2).bind fun t69 => if (0 : Int) < (List.length t69 : Int) then if (1 : Int) < (List.length t69 : Int) then ((rickyardref14_swap.f fu t67.1.Charts a1 a2).bind fun t71 => ((rickyardref13_Right.f fu (⟨t67.1.Epoch, (⟨t67.1.Tickets.Geometry, (ix t69 0), t67.1.Tickets.High, t67.1.Tickets.Free⟩ : S_api_Tickets), (ix t69 1), t71⟩ : S_api_Super)).bind fun t73 => (if t73 then ((rickyardref13_Put.f fu (⟨t67.1.Epoch, (⟨t67.1.Tickets.Geometry, (ix t69 0), t67.1.Tickets.High, t67.1.Tickets.Free⟩ : S_api_Tickets), (ix t69 1), t71⟩ : S_api_Super)).bind fun t76 => some (Sum.inl (Sum.inl (Sum.inl (t76, true))))) else some (Sum.inr ())))) else none else none)) else some (Sum.inr ())) : Option (Sum (Sum (Sum ((List UInt8) × Bool) Unit) Unit) Unit)).bind fun x62 => match x62 with | Sum.inl p => some p | Sum.inr x64 => some (Sum.inr ())))) : Option (Sum (Sum ((List UInt8) × Bool) Unit) Unit)).bind fun x41 => match x41 with | Sum.inl p => some p | Sum.inr x43 => some (Sum.inr ())))))) : Option (Sum ((List UInt8) × Bool) Unit)).bind fun x3 => match x3 with | Sum.inl p => some p | Sum.inr x5 => some ([], false)))
theorem rickyardref14_Turn.sc (fu : Nat) (a0 : List Int) (a1 : Int) (a2 : Int) (r : (List UInt8) × Bool) (h : rickyardref14_Turn.f fu a0 a1 a2 = some r) : SC Tryz.prog CT 19 [.v (.sl (.int .u8)) (a0 : List Int), vi .i64 a1, vi .i64 a2] [] (.tup [vs r.1, vb r.2]) [] := by
 unfold rickyardref14_Turn.f at h
 refine sq Tryz.func19 r (fun r => .tup [vs r.1, vb r.2]) (fun r => []) fun X => ?_
 refine bk h fun t1 k2 h => ?_
 refine cl4 cok.g (rickyardref14_Read.sc fu _ _ k2) (.v (.st .S_rickyardref14_Cell) (t1 : S_rickyardref14_Cell)) [] 0 ?_
 refine bk h fun x3 j4 h => ?_
 refine t_cutS cok (fun (_x : Unit) => ⟨[], []⟩) x3 ?_ (fun x5 hy => ?_)
 ·skip
  have h6 := h
  have h := j4
  refine t_cond cok ?_
  refine bi h (fun c7 h => ?_) (fun c7 h => ?_)
  ·skip
   refine bk h fun t8 k9 h => ?_
   refine cl4 cok.g (rickyardref08_Get.sc fu _ _ k9) (.tup [.v (.st .S_api_Node) (t8.1 : S_api_Node), vb t8.2]) [] 0 ?_
   refine bk h fun t10 k11 h => ?_
   refine cl4 cok.g (rickyardref14_swap.sc fu _ _ _ _ k11) (.sl 1 1 []) [(1, .row (.int .i64) 3 (t10 : List Int))] 2 ?_
   refine bk h fun t12 k13 h => ?_
   refine cl4 cok.g (rickyardref08_Right.sc fu _ _ k13) (vb t12) [] 2 ?_
   refine t_cond cok ?_
   refine bi h (fun c14 h => ?_) (fun c14 h => ?_)
   ·skip
    refine bk h fun t15 k16 h => ?_
    refine cl4 cok.g (rickyardref08_Put.sc fu _ _ k16) (vs t15) [] 2 ?_
    have hz := Option.some.inj h
    have h := h6
    rw [← hz] at h
    exact fk h
   exact esk h
  refine t_cond cok ?_
  refine bi h (fun c17 h => ?_) (fun c17 h => ?_)
  ·skip
   refine bk h fun t18 k19 h => ?_
   refine cl4 cok.g (rickyardref09_GetLeaf.sc fu _ _ k19) (.tup [.v (.st .S_api_Leaf) (t18.1 : S_api_Leaf), vb t18.2]) [] 0 ?_
   refine bk h fun e21 l22 h => ?_
   refine t_cutx cok 1 (fun (e21 : S_api_Leaf) => ⟨[(10, .ptr 0 0)], [.box 54 (.v (.st .S_api_Leaf) (e21 : S_api_Leaf))]⟩) e21 ?_ ?_
   ·skip
    have h23 := h
    refine t_loop cok (fun (s20 : Int × S_api_Leaf) => ⟨[(1, vi .i64 a1), (2, vi .i64 a2), (10, .ptr 0 0), (12, vi .i64 s20.1)], [.box 54 (.v (.st .S_api_Leaf) (s20.2 : S_api_Leaf))]⟩) l22 (by kernel_rfl) (fun s20 x24 h => ?_)
    unfold rickyardref14_Turn.s0 at h
    refine t_cond cok ?_
    refine bi h (fun c25 h => ?_) (fun c25 h => ?_)
    ·skip
     refine t_reg cok ?_
     refine ag h fun h => ?_
     refine bi h (fun c26 h => ?_) (fun c26 h => ?_)
     ·skip
      refine ag h fun h => ?_
      refine bk h fun x27 j28 h => ?_
      refine t_cut cok (fun (x27 : S_api_Leaf) => ⟨[(1, vi .i64 a1), (2, vi .i64 a2), (10, .ptr 0 0), (12, vi .i64 s20.1), (59, vi .i64 s20.1), (60, .ptr 0 0), (61, .pea 0 0 7 3 s20.1 0), (62, .pea 0 0 7 3 s20.1 2), (63, vi .i64 ((Arr.get s20.2.Seats s20.1).Next)), (64, vi .i64 a1), (65, vb (decide (((Arr.get s20.2.Seats s20.1).Next) = a1)))], [.box 54 (.v (.st .S_api_Leaf) (x27 : S_api_Leaf))]⟩) x27 ?_ ?_
      ·skip
       have h29 := h
       have h := j28
       refine t_cond cok ?_
       refine bi h (fun c30 h => ?_) (fun c30 h => ?_)
       ·skip
        refine ag h fun h => ?_
        exact ek h
       exact ek h
      exact lik h
     refine t_cond cok ?_
     exact lik h
    exact lpx h fun hy => ek (sj hy)
   refine bk h fun t31 k32 h => ?_
   refine cl4 cok.g (rickyardref09_Leaf.sc fu _ _ k32) (.tup [vs t31.1, vb t31.2]) [] 1 ?_
   have hz := Option.some.inj h
   have h := h6
   rw [← hz] at h
   exact fk h
  refine t_cond cok ?_
  refine bi h (fun c33 h => ?_) (fun c33 h => ?_)
  ·skip
   refine bk h fun t34 k35 h => ?_
   refine cl4 cok.g (rickyardref09_GetFan.sc fu _ _ k35) (.tup [.v (.st .S_api_Fan) (t34.1 : S_api_Fan), vb t34.2]) [] 0 ?_
   refine t_draw cok mo [⟨0, false, [13], [], 0, []⟩, ⟨1, false, [83], [], 0, [0]⟩, ⟨2, false, [13], [], 0, []⟩, ⟨3, false, [85], [], 0, [2]⟩, ⟨4, false, [1], [], 0, []⟩, ⟨5, false, [2], [], 0, []⟩, ⟨6, true, [86, 87, 88], [0], 1, [2, 3, 4, 5]⟩, ⟨7, true, [84, 89], [0, 1], 0, cl 7⟩] (by kernel_rfl) ?_
   refine bk h fun t36 k37 h => ?_
   refine cl4 cok.g (rickyardref14_swap.sc fu _ _ _ _ k37) (.sl 1 1 []) [(1, .row (.int .i64) 3 (t36 : List Int))] 2 ?_
   refine bk h fun t38 k39 h => ?_
   refine cl4 cok.g (rickyardref09_Fan.sc fu _ _ k39) (.tup [vs t38.1, vb t38.2]) [] 2 ?_
   have hz := Option.some.inj h
   have h := h6
   rw [← hz] at h
   exact fk h
  refine t_cond cok ?_
  refine bi h (fun c40 h => ?_) (fun c40 h => ?_)
  ·skip
   have hz := Option.some.inj h
   have h := h6
   rw [← hz] at h
   exact fk h
  refine bk h fun x41 j42 h => ?_
  refine t_cutS cok (fun (_x : Unit) => ⟨[], []⟩) x41 ?_ (fun x43 hy => ?_)
  ·skip
   have h44 := h
   have h := j42
   refine t_cond cok ?_
   refine bi h (fun c45 h => ?_) (fun c45 h => ?_)
   ·skip
    refine bk h fun t46 k47 h => ?_
    refine cl4 cok.g (rickyardref11_Get.sc fu _ _ k47) (.tup [.v (.st .S_api_Queue) (t46.1 : S_api_Queue), vb t46.2]) [] 0 ?_
    refine t_draw cok mo [⟨0, false, [15], [], 0, []⟩, ⟨1, false, [106], [], 0, [0]⟩, ⟨2, false, [15], [], 0, []⟩, ⟨3, false, [108], [], 0, [2]⟩, ⟨4, false, [1], [], 0, []⟩, ⟨5, false, [2], [], 0, []⟩, ⟨6, true, [109, 110, 111], [0], 1, [2, 3, 4, 5]⟩, ⟨7, true, [107, 112], [0, 1], 0, cl 7⟩] (by kernel_rfl) ?_
    refine bk h fun t48 k49 h => ?_
    refine cl4 cok.g (rickyardref14_swap.sc fu _ _ _ _ k49) (.sl 1 1 []) [(1, .row (.int .i64) 3 (t48 : List Int))] 2 ?_
    refine bk h fun t50 k51 h => ?_
    refine cl4 cok.g (rickyardref11_Right.sc fu _ _ k51) (vb t50) [] 2 ?_
    refine t_cond cok ?_
    refine bi h (fun c52 h => ?_) (fun c52 h => ?_)
    ·skip
     refine bk h fun t53 k54 h => ?_
     refine cl4 cok.g (rickyardref11_Put.sc fu _ _ k54) (vs t53) [] 2 ?_
     have hz := Option.some.inj h
     have h := h44
     rw [← hz] at h
     have hz := Option.some.inj h
     have h := h6
     rw [← hz] at h
     exact fk h
    exact esk h
   refine t_cond cok ?_
   refine bi h (fun c55 h => ?_) (fun c55 h => ?_)
   ·skip
    refine bk h fun t56 k57 h => ?_
    refine cl4 cok.g (rickyardref11_GetDir.sc fu _ _ k57) (.tup [.sl 0 1 [], vb t56.2]) [(0, .row (.int .i64) 3 (t56.1 : List Int))] 1 ?_
    refine bk h fun t58 k59 h => ?_
    refine cl4 cok.g (rickyardref14_swap.sc fu _ _ _ _ k59) (.sl 1 1 []) [(1, .row (.int .i64) 3 (t58 : List Int))] 2 ?_
    refine bk h fun t60 k61 h => ?_
    refine cl4 cok.g (rickyardref11_Dir.sc fu _ _ k61) (.tup [vs t60.1, vb t60.2]) [] 2 ?_
    have hz := Option.some.inj h
    have h := h44
    rw [← hz] at h
    have hz := Option.some.inj h
    have h := h6
    rw [← hz] at h
    exact fk h
   refine bk h fun x62 j63 h => ?_
   refine t_cutS cok (fun (_x : Unit) => ⟨[], []⟩) x62 ?_ (fun x64 hy => ?_)
   ·skip
    have h65 := h
    have h := j63
    refine t_cond cok ?_
    refine bi h (fun c66 h => ?_) (fun c66 h => ?_)
    ·skip
     refine bk h fun t67 k68 h => ?_
     refine cl4 cok.g (rickyardref13_Get.sc fu _ _ k68) (.tup [.v (.st .S_api_Super) (t67.1 : S_api_Super), vb t67.2]) [] 0 ?_
     refine bk h fun t69 k70 h => ?_
     refine cl4 cok.g (rickyardref14_swap.sc fu _ _ _ _ k70) (.sl 2 1 []) [(2, .row (.int .i64) 3 (t69 : List Int))] 3 ?_
     refine agL h (by decide) fun h => ?_
     refine agL h (by decide) fun h => ?_
     refine bk h fun t71 k72 h => ?_
     refine cl4 cok.g (rickyardref14_swap.sc fu _ _ _ _ k72) (.sl 3 1 []) [(3, .row (.int .i64) 3 (t71 : List Int))] 4 ?_
     refine bk h fun t73 k74 h => ?_
     refine cl4 cok.g (rickyardref13_Right.sc fu _ _ k74) (vb t73) [] 4 ?_
     refine t_cond cok ?_
     refine bi h (fun c75 h => ?_) (fun c75 h => ?_)
     ·skip
      refine bk h fun t76 k77 h => ?_
      refine cl4 cok.g (rickyardref13_Put.sc fu _ _ k77) (vs t76) [] 4 ?_
      have hz := Option.some.inj h
      have h := h65
      rw [← hz] at h
      have hz := Option.some.inj h
      have h := h44
      rw [← hz] at h
      have hz := Option.some.inj h
      have h := h6
      rw [← hz] at h
      exact fk h
     exact esk h
    exact esk h
   subst hy
   exact esk h
  subst hy
  exact esk h
 subst hy
 exact fk h
def rickyardlaw14_CellTurns.f (fu : Nat) (a0 : List Int) (a1 : Int) (a2 : Int) : Option Bool := ((rickyardlaw14_awake.f fu).bind fun t1 => (if (!t1) then ((rickyardlaw14_awake.f fu).bind fun t4 => some (t4)) else (if (decide ((List.length a0 : Int) > 200)) then ((rickyardlaw14_awake.f fu).bind fun t7 => some (t7)) else if List.length ([] : List Int) + List.length a0 ≤ LIM then ((cell_Turn.f fu (([] : List Int) ++ a0) a1 a2).bind fun t9 => ((rickyardref14_Turn.f fu a0 a1 a2).bind fun t11 => (if (decide (t9.2 = t11.2)) then (if (decide ((List.map toB t9.1) = t11.1)) then some ((decide ((List.map toB (([] : List Int) ++ a0)) = (List.map toB a0)))) else some (false)) else some (false)))) else none)))
theorem rickyardlaw14_CellTurns.sc (fu : Nat) (a0 : List Int) (a1 : Int) (a2 : Int) (r : Bool) (h : rickyardlaw14_CellTurns.f fu a0 a1 a2 = some r) : SC Tryz.prog CT 5 [.v (.sl (.int .u8)) (a0 : List Int), vi .i64 a1, vi .i64 a2] [] (vb r) [] := by
 unfold rickyardlaw14_CellTurns.f at h
 refine sq Tryz.func5 r (fun r => vb r) (fun r => []) fun X => ?_
 refine t_reg cok ?_
 refine bk h fun t1 k2 h => ?_
 refine cl4 cok.g (rickyardlaw14_awake.sc fu _ k2) (vb t1) [] 0 ?_
 refine bi h (fun c3 h => ?_) (fun c3 h => ?_)
 ·skip
  refine t_cond cok ?_
  refine bk h fun t4 k5 h => ?_
  refine cl4 cok.g (rickyardlaw14_awake.sc fu _ k5) (vb t4) [] 0 ?_
  exact fk h
 refine t_cond cok ?_
 refine bi h (fun c6 h => ?_) (fun c6 h => ?_)
 ·skip
  refine bk h fun t7 k8 h => ?_
  refine cl4 cok.g (rickyardlaw14_awake.sc fu _ k8) (vb t7) [] 0 ?_
  exact fk h
 refine ag h fun h => ?_
 refine bk h fun t9 k10 h => ?_
 refine cl4 cok.g (cell_Turn.sc fu _ _ _ _ k10) (.tup [.sl 2 1 [], vb t9.2]) [(2, .row (.int .u8) 5 (t9.1 : List Int))] 3 ?_
 refine bk h fun t11 k12 h => ?_
 refine cl4 cok.g (rickyardref14_Turn.sc fu _ _ _ _ k12) (.tup [vs t11.1, vb t11.2]) [] 3 ?_
 refine t_reg cok ?_
 refine bi h (fun c13 h => ?_) (fun c13 h => ?_)
 ·skip
  refine bi h (fun c14 h => ?_) (fun c14 h => ?_)
  ·skip
   exact fk h
  exact fk h
 exact fk h
end Go.Proofs.YtdifnahlheogdaaGreat
namespace Go.Proofs.YtdifnahlheogdaaGreat.Pure
open Go Go.Xw Go.Yw
def Bytes (l : List Int) : Prop := ∀ x ∈ l, 0 ≤ x ∧ x ≤ 255
theorem ix_nat {α : Type} [Inhabited α] {l : List α} {j : Nat} (h : j < l.length) : ix l (j : Int) = l[j] := by
  simp [ix, List.getD_eq_getElem?_getD, List.getElem?_eq_getElem h]
theorem take_next {α : Type} {l : List α} {j : Nat} (h : j < l.length) : l.take (j + 1) = l.take j ++ [l[j]] := by
  rw [List.take_add_one, List.getElem?_eq_getElem h]
  rfl
theorem loopM_inv {σ ε : Type} {step : σ → Option (Sum ε σ)} (P : Nat → σ → Prop) (n : Nat) (Q : ε → Prop) (h : ∀ j s, j < n → P j s → ∃ s', step s = some (.inr s') ∧ P (j + 1) s') (he : ∀ s, P n s → ∃ e, step s = some (.inl e) ∧ Q e) : ∀ {k j : Nat} {s : σ}, P j s → j ≤ n → n - j < k → ∃ e, loopM step k s = some e ∧ Q e
  | 0, j, s, _, _, hk => by omega
  | k + 1, j, s, hp, hj, hk => by
    unfold loopM
    by_cases e1 : j = n
    · subst e1
      obtain ⟨e, h1, h2⟩ := he s hp
      rw [h1]
      exact ⟨e, rfl, h2⟩
    · obtain ⟨s', h1, h2⟩ := h j s (by omega) hp
      rw [h1]
      exact loopM_inv P n Q h he h2 (by omega) (by omega)
theorem next64 {j n : Nat} (h : j < n) (hn : n ≤ 100000) : IntKind.i64.wrap ((j : Int) + 1) = ((j + 1 : Nat) : Int) := by rw [w64 (by omega) (by omega)]; omega
def lay (v n : Nat) : List Int := (List.range n).map fun i => ((v / 256 ^ i % 256 : Nat) : Int)
theorem lay_len (v n : Nat) : (lay v n).length = n := by simp [lay]
theorem lay_succ (v n : Nat) : lay v (n + 1) = lay v n ++ [((v / 256 ^ n % 256 : Nat) : Int)] := by
  simp [lay, List.range_succ]
theorem lay_bytes (v n : Nat) : Bytes (lay v n) := by
  intro x hx
  simp only [lay, List.mem_map] at hx
  obtain ⟨i, _, rfl⟩ := hx
  omega
theorem wu8_mod {n : Nat} : IntKind.u8.wrap (n : Int) = ((n % 256 : Nat) : Int) := by
  unfold IntKind.wrap
  simp only [IntKind.signed, IntKind.bits]
  simp
theorem shr64 (n : Nat) : shR .u64 (n : Int) 8 = ((n / 256 : Nat) : Int) := by
  unfold shR
  show Int.fdiv (n : Int) (2 ^ min ((8 : Int).toNat) 64) = _
  rw [show (2 : Int) ^ min ((8 : Int).toNat) 64 = 256 from by decide, Int.fdiv_eq_ediv_of_nonneg _ (by decide)]
  omega
theorem wn64 (q : Nat) (h : q < 18446744073709551616) : IntKind.u64.wrap (q : Int) = (q : Int) := wu64 (by omega) (by omega)
theorem tdn (q : Nat) : Int.tdiv (q : Int) 256 = ((q / 256 : Nat) : Int) := by
  rw [Int.tdiv_eq_ediv_of_nonneg (by omega)]
  omega
theorem tmn (q : Nat) : Int.tmod (q : Int) 256 = ((q % 256 : Nat) : Int) := by
  rw [Int.tmod_eq_emod_of_nonneg (by omega)]
  omega
theorem wn8 (q : Nat) : IntKind.u8.wrap ((q % 256 : Nat) : Int) = ((q % 256 : Nat) : Int) := wu8 (by omega) (by omega)
theorem olay_eq {fu v n : Nat} (hn : n ≤ 8) (hf : n < fu) : octet_Lay.f fu (v : Int) (n : Int) = some (lay v n) := by
  unfold octet_Lay.f
  have h0 : ¬ ((n : Int) < 0) := by omega
  have h8 : ¬ ((n : Int) > 8) := by omega
  have hL : Int.toNat (n : Int) ≤ LIM := by
    have : (8 : Nat) ≤ LIM := by decide
    omega
  simp only [h0, h8, decide_false, Bool.false_eq_true, if_false]
  rw [if_pos ⟨by omega, hL⟩]
  have : loopM (octet_Lay.s0 fu (n : Int)) fu ((v : Int), 0, List.replicate (Int.toNat (n : Int)) (0 : Int)) = some (lay v n) := by
    refine loopM_run (S := fun j => (((v / 256 ^ j : Nat) : Int), (j : Int), lay v j ++ List.replicate (n - j) (0 : Int))) n (by simp [lay]) ?_ ?_ hf
    · intro j hj
      unfold octet_Lay.s0
      have w3 : IntKind.i64.wrap ((j : Int) + 1) = ((j + 1 : Nat) : Int) := by rw [w64 (by omega) (by omega)]; omega
      have e1 : (List.replicate (Int.toNat (n : Int)) (0 : Int)).length = n := by simp
      have e2 : (lay v j ++ List.replicate (n - j) (0 : Int)).length = n := by rw [List.length_append, lay_len, List.length_replicate]; omega
      have e3 : List.set (lay v j ++ List.replicate (n - j) (0 : Int)) (Int.toNat (j : Int)) (IntKind.u8.wrap ((v / 256 ^ j : Nat) : Int)) = lay v (j + 1) ++ List.replicate (n - (j + 1)) (0 : Int) := by
        rw [Int.toNat_natCast, List.set_append, if_neg (by rw [lay_len]; omega), lay_len, Nat.sub_self, wu8_mod, lay_succ, show n - j = n - (j + 1) + 1 from by omega, List.replicate_succ]
        simp
      have e4 : shR .u64 ((v / 256 ^ j : Nat) : Int) 8 = ((v / 256 ^ (j + 1) : Nat) : Int) := by
        rw [shr64, Nat.div_div_eq_div_mul, Nat.pow_succ]
      have h1 : (j : Int) < (n : Int) := by omega
      simp only [e1, e2, e3, e4, w3, h1, decide_true, if_true]
      rw [if_pos ⟨by omega, trivial⟩]
    · unfold octet_Lay.s0
      simp
  rw [this]
  rfl
theorem roctet_eq {fu v i : Nat} (hv : v < 18446744073709551616) (hi : i ≤ 1000) (hf : i < fu) : rickyardref01_Octet.f fu (v : Int) (i : Int) = some ((v / 256 ^ i % 256 : Nat) : Int) := by
  unfold rickyardref01_Octet.f
  have : loopM (rickyardref01_Octet.s0 fu (i : Int)) fu ((v : Int), 0) = some ((v / 256 ^ i : Nat) : Int) := by
    refine loopM_run (S := fun j => (((v / 256 ^ j : Nat) : Int), (j : Int))) i (by simp) ?_ ?_ hf
    · intro j hj
      unfold rickyardref01_Octet.s0
      have w3 : IntKind.i64.wrap ((j : Int) + 1) = ((j + 1 : Nat) : Int) := by rw [w64 (by omega) (by omega)]; omega
      have h1 : (j : Int) < (i : Int) := by omega
      have hle : v / 256 ^ j ≤ v := Nat.div_le_self _ _
      have e1 : Int.tdiv ((v / 256 ^ j : Nat) : Int) 256 = ((v / 256 ^ (j + 1) : Nat) : Int) := by
        rw [tdn, Nat.pow_succ, ← Nat.div_div_eq_div_mul]
      have hle2 : v / 256 ^ (j + 1) ≤ v := Nat.div_le_self _ _
      have e2 : IntKind.u64.wrap ((v / 256 ^ (j + 1) : Nat) : Int) = ((v / 256 ^ (j + 1) : Nat) : Int) := wn64 _ (Nat.lt_of_le_of_lt hle2 hv)
      simp only [h1, decide_true, if_true, e1, e2, w3]
    · unfold rickyardref01_Octet.s0
      simp
  rw [this]
  simp only [Option.bind_some, tmn, wn8]
theorem rlay_eq {fu v n : Nat} (hv : v < 18446744073709551616) (hn : n ≤ 8) (hf : n < fu) : rickyardref01_Lay.f fu (v : Int) (n : Int) = some ((lay v n).map toB) := by
  unfold rickyardref01_Lay.f
  have : loopM (rickyardref01_Lay.s0 fu (v : Int) (n : Int)) fu ([], 0) = some ((lay v n).map toB) := by
    refine loopM_run (S := fun j => ((lay v j).map toB, (j : Int))) n (by simp [lay]) ?_ ?_ hf
    · intro j hj
      unfold rickyardref01_Lay.s0
      have w3 : IntKind.i64.wrap ((j : Int) + 1) = ((j + 1 : Nat) : Int) := by rw [w64 (by omega) (by omega)]; omega
      have h1 : (j : Int) < (n : Int) := by omega
      have hlim : ((lay v j).map toB).length + ([((v / 256 ^ j % 256 : Nat) : Int)].map toB).length ≤ LIM := by
        have : (9 : Nat) ≤ LIM := by decide
        simp only [List.length_map, lay_len, List.length_cons, List.length_nil]
        omega
      simp only [h1, decide_true, if_true, roctet_eq (fu := fu) hv (by omega : j ≤ 1000) (by omega), Option.bind_some, w3]
      rw [if_pos hlim, lay_succ, List.map_append]
    · unfold rickyardref01_Lay.s0
      simp
  rw [this]
  rfl
def num : List Int → Nat
  | [] => 0
  | c :: l => c.toNat + 256 * num l
theorem num_append : ∀ (a b : List Int), num (a ++ b) = num a + 256 ^ a.length * num b
  | [], b => by simp [num]
  | c :: a, b => by
    simp only [List.cons_append, num, num_append a b, List.length_cons, Nat.pow_succ]
    rw [Nat.mul_add, Nat.add_assoc, ← Nat.mul_assoc, Nat.mul_comm 256 (256 ^ a.length)]
theorem num_lt : ∀ {l : List Int}, Bytes l → num l < 256 ^ l.length
  | [], _ => by simp [num]
  | c :: l, h => by
    have h1 := h c (by simp)
    have h2 := num_lt (l := l) fun x hx => h x (by simp [hx])
    simp only [num, List.length_cons, Nat.pow_succ]
    omega
theorem lay_num : ∀ {l : List Int}, Bytes l → lay (num l) l.length = l
  | [], _ => rfl
  | c :: l, h => by
    have h1 := h c (by simp)
    have h2 := lay_num (l := l) fun x hx => h x (by simp [hx])
    have e : lay (num (c :: l)) (l.length + 1) = c :: lay (num l) l.length := by
      unfold lay
      rw [List.range_succ_eq_map, List.map_cons, List.map_map]
      congr 1
      · simp only [num, Nat.pow_zero, Nat.div_one]
        omega
      · apply List.map_congr_left
        intro i hi
        simp only [Function.comp, num, Nat.succ_eq_add_one, Nat.pow_succ]
        rw [Nat.mul_comm (256 ^ i) 256, ← Nat.div_div_eq_div_mul, show (c.toNat + 256 * num l) / 256 = num l from by omega]
    rw [List.length_cons, e, h2]
theorem num_lay (v : Nat) : ∀ n, num (lay v n) = v % 256 ^ n
  | 0 => by simp [lay, num, Nat.mod_one]
  | n + 1 => by
    rw [lay_succ, num_append, num_lay v n, lay_len]
    simp only [num]
    rw [Int.toNat_natCast, Nat.mul_zero, Nat.add_zero, Nat.pow_succ, Nat.mod_mul]
theorem or_add (a c j : Nat) (ha : a < 256 ^ j) : a ||| c * 256 ^ j = a + 256 ^ j * c := by
  have e : 256 ^ j = 2 ^ (8 * j) := by rw [Nat.pow_mul]
  rw [e] at ha ⊢
  rw [Nat.mul_comm c, Nat.or_comm, ← Nat.two_pow_add_eq_or_of_lt ha, Nat.add_comm]
theorem read_eq {fu : Nat} {l : List Int} (hb : Bytes l) (hl : l.length ≤ 8) (hf : l.length < fu) : octet_Read.f fu l = some ((num l : Nat) : Int) := by
  unfold octet_Read.f
  have hm : mnI (l.length : Int) 8 = (l.length : Int) := by
    unfold mnI
    split <;> omega
  have hc : cut l 0 (l.length : Int) = l := by
    unfold cut
    simp
  rw [hm, if_pos ⟨by omega, Int.le_refl _⟩]
  have : loopM (octet_Read.s0 fu l) fu (0, 0) = some ((num l : Nat) : Int) := by
    refine loopM_run (S := fun j => (((num (l.take j) : Nat) : Int), (j : Int))) l.length (by simp [num]) ?_ ?_ hf
    · intro j hj
      unfold octet_Read.s0
      rw [hm, hc]
      have h1 : (j : Int) < (l.length : Int) := by omega
      have w3 : IntKind.i64.wrap ((j : Int) + 1) = ((j + 1 : Nat) : Int) := by rw [w64 (by omega) (by omega)]; omega
      have w4 : IntKind.i64.wrap (8 * (j : Int)) = ((8 * j : Nat) : Int) := by rw [w64 (by omega) (by omega)]; omega
      have hcb := hb _ (List.getElem_mem hj)
      obtain ⟨c, hc'⟩ : ∃ c : Nat, l[j] = (c : Int) := ⟨l[j].toNat, by omega⟩
      have hlt : num (l.take j) < 256 ^ j := by
        have := num_lt (l := l.take j) fun x hx => hb x (List.mem_of_mem_take hx)
        rwa [List.length_take, Nat.min_eq_left (by omega)] at this
      have e256 : (256 : Nat) ^ j * 256 ≤ 256 ^ 8 := by
        rw [← Nat.pow_succ]
        exact Nat.pow_le_pow_right (by decide) (by omega)
      have e8 : (256 : Nat) ^ 8 = 18446744073709551616 := by decide
      have hcj : c * 256 ^ j < 18446744073709551616 := by
        have : c * 256 ^ j ≤ 255 * 256 ^ j := Nat.mul_le_mul_right _ (by omega)
        have : 0 < 256 ^ j := Nat.pow_pos (by decide)
        omega
      have e1 : shL .u64 (IntKind.u64.wrap (ix l (j : Int))) ((8 * j : Nat) : Int) = ((c * 256 ^ j : Nat) : Int) := by
        rw [ix_nat hj, hc', wu64 (by omega) (by omega)]
        unfold shL
        rw [Int.toNat_natCast, Nat.min_eq_left (by show 8 * j ≤ 64; omega)]
        have : (c : Int) * 2 ^ (8 * j) = ((c * 256 ^ j : Nat) : Int) := by
          have h256 : ((256 ^ j : Nat) : Int) = 2 ^ (8 * j) := by
            rw [Int.natCast_pow, Int.pow_mul]
            exact congrArg (fun z : Int => z ^ j) (by decide : ((256 : Nat) : Int) = 2 ^ 8)
          rw [Int.natCast_mul, h256]
        rw [this, wu64 (by omega) (by omega)]
      have e2 : bOr .u64 ((num (l.take j) : Nat) : Int) ((c * 256 ^ j : Nat) : Int) = ((num (l.take (j + 1)) : Nat) : Int) := by
        unfold bOr
        show IntKind.u64.wrap (((BitVec.ofInt 64 ((num (l.take j) : Nat) : Int) ||| BitVec.ofInt 64 ((c * 256 ^ j : Nat) : Int)).toNat : Nat) : Int) = _
        rw [BitVec.ofInt_natCast, BitVec.ofInt_natCast, BitVec.toNat_or, BitVec.toNat_ofNat, BitVec.toNat_ofNat, Nat.mod_eq_of_lt (by omega), Nat.mod_eq_of_lt (by omega), or_add _ _ _ hlt, take_next hj, num_append]
        have hs : num (l.take j) + 256 ^ j * c < 18446744073709551616 := by
          rw [Nat.mul_comm]
          have : c * 256 ^ j ≤ 255 * 256 ^ j := Nat.mul_le_mul_right _ (by omega)
          omega
        rw [wu64 (by omega) (by omega)]
        simp only [num, hc', Int.toNat_natCast, List.length_take, Nat.min_eq_left (by omega : j ≤ l.length), Nat.mul_zero, Nat.add_zero]
      simp only [h1, decide_true, if_true, w4, e1, e2, w3]
      rw [if_pos ⟨by omega, trivial⟩, if_pos (by omega)]
    · unfold octet_Read.s0
      rw [hm, hc]
      simp
  rw [this]
  rfl
theorem of_toB {l : List Int} (h : Bytes l) : (l.map toB).map ofB = l := by
  rw [List.map_map]
  conv => rhs; rw [← List.map_id l]
  apply List.map_congr_left
  intro x hx
  have := h x hx
  simp only [Function.comp, ofB, toB, UInt8.toNat_ofNat', id]
  omega
theorem Bytes.drop {l : List Int} (h : Bytes l) (n : Nat) : Bytes (l.drop n) := fun x hx => h x (List.mem_of_mem_drop hx)
theorem Bytes.take {l : List Int} (h : Bytes l) (n : Nat) : Bytes (l.take n) := fun x hx => h x (List.mem_of_mem_take hx)
theorem getD_toB {l : List Int} (hb : Bytes l) {i : Nat} (h : i < l.length) : ofB (List.getD (l.map toB) (Int.toNat (i : Int)) 0) = ix l (i : Int) := by
  rw [Int.toNat_natCast, List.getD_eq_getElem?_getD, List.getElem?_map, List.getElem?_eq_getElem h, ix_nat h]
  have := of_toB (l := [l[i]]) (by intro x hx; obtain rfl := List.mem_singleton.1 hx; exact hb _ (List.getElem_mem h))
  simpa using this
theorem num_lt8 {l : List Int} (hb : Bytes l) (hl : l.length ≤ 8) : num l < 18446744073709551616 := by
  have h1 := num_lt hb
  have h2 : (256 : Nat) ^ l.length ≤ 256 ^ 8 := Nat.pow_le_pow_right (by decide) hl
  have h3 : (256 : Nat) ^ 8 = 18446744073709551616 := by decide
  omega
theorem rnumber_eq {fu : Nat} {l : List Int} (hb : Bytes l) (hl : l.length ≤ 8) (hf : l.length < fu) : rickyardref01_Number.f fu (l.map toB) = some ((num l : Nat) : Int) := by
  unfold rickyardref01_Number.f
  have w0 : IntKind.i64.wrap (((l.map toB).length : Int) - 1) = (l.length : Int) - 1 := by rw [List.length_map, w64 (by omega) (by omega)]
  rw [w0]
  have : loopM (rickyardref01_Number.s0 fu (l.map toB)) fu (0, (l.length : Int) - 1) = some ((num l : Nat) : Int) := by
    refine loopM_run (S := fun j => (((num (l.drop (l.length - j)) : Nat) : Int), (l.length : Int) - 1 - (j : Int))) l.length (by simp [num]) ?_ ?_ hf
    · intro j hj
      unfold rickyardref01_Number.s0
      obtain ⟨i, hi⟩ : ∃ i : Nat, l.length - j = i + 1 := ⟨l.length - j - 1, by omega⟩
      have e1 : (l.length : Int) - 1 - (j : Int) = (i : Int) := by omega
      have hil : i < l.length := by omega
      have e2 : l.length - (j + 1) = i := by omega
      have c1 : (i : Int) ≥ 0 := by omega
      have c2 : (i : Int) < 8 := by omega
      have c3 : True ∧ (i : Int) < ((l.map toB).length : Int) := ⟨trivial, by rw [List.length_map]; omega⟩
      have w1 : IntKind.i64.wrap ((i : Int) - 1) = (l.length : Int) - 1 - ((j + 1 : Nat) : Int) := by rw [w64 (by omega) (by omega)]; omega
      have hcb := hb _ (List.getElem_mem hil)
      obtain ⟨c, hc⟩ : ∃ c : Nat, l[i] = (c : Int) := ⟨l[i].toNat, by omega⟩
      have hd : l.drop i = l[i] :: l.drop (i + 1) := List.drop_eq_getElem_cons hil
      have hn : num (l.drop i) = c + 256 * num (l.drop (i + 1)) := by rw [hd, num, hc, Int.toNat_natCast]
      have hlt := num_lt8 (hb.drop i) (by rw [List.length_drop]; omega)
      rw [hn] at hlt
      have w2 : IntKind.u64.wrap (((num (l.drop (i + 1)) : Nat) : Int) * 256) = ((num (l.drop (i + 1)) : Nat) : Int) * 256 := wu64 (by omega) (by omega)
      have w3 : IntKind.u64.wrap (ix l (i : Int)) = (c : Int) := by rw [ix_nat hil, hc, wu64 (by omega) (by omega)]
      have w4 : IntKind.u64.wrap (((num (l.drop (i + 1)) : Nat) : Int) * 256 + (c : Int)) = ((num (l.drop i) : Nat) : Int) := by rw [wu64 (by omega) (by omega), hn]; omega
      simp only [e1, hi, e2, getD_toB hb hil, w1, w2, w3, w4, c1, c2, decide_true, if_true]
      rw [if_pos c3]
      rfl
    · unfold rickyardref01_Number.s0
      have : ¬ (l.length : Int) - 1 - (l.length : Int) ≥ 0 := by omega
      simp only [this]
      simp
  rw [this]
  rfl
def I32 (x : BitVec 32) : Int := (x.toNat : Int)
theorem I32_lt (x : BitVec 32) : 0 ≤ I32 x ∧ I32 x ≤ 4294967295 := by
  unfold I32
  have := x.isLt
  omega
theorem ofI (x : BitVec 32) : BitVec.ofInt 32 (I32 x) = x := by
  unfold I32
  rw [BitVec.ofInt_natCast, BitVec.ofNat_toNat, BitVec.setWidth_eq]
theorem I32_of {n : Int} (h0 : 0 ≤ n) (h1 : n ≤ 4294967295) : n = I32 (BitVec.ofNat 32 n.toNat) := by
  unfold I32
  rw [BitVec.toNat_ofNat, Nat.mod_eq_of_lt (by omega)]
  omega
theorem wI32 (x : BitVec 32) : IntKind.u32.wrap (I32 x) = I32 x := wu32 (I32_lt x).1 (I32_lt x).2
theorem bx32 (x y : BitVec 32) : bXor .u32 (I32 x) (I32 y) = I32 (x ^^^ y) := by
  unfold bXor
  show IntKind.u32.wrap (((BitVec.ofInt 32 (I32 x) ^^^ BitVec.ofInt 32 (I32 y)).toNat : Nat) : Int) = _
  rw [ofI, ofI]
  exact wI32 _
theorem ba32 (x y : BitVec 32) : bAnd .u32 (I32 x) (I32 y) = I32 (x &&& y) := by
  unfold bAnd
  show IntKind.u32.wrap (((BitVec.ofInt 32 (I32 x) &&& BitVec.ofInt 32 (I32 y)).toNat : Nat) : Int) = _
  rw [ofI, ofI]
  exact wI32 _
theorem sr32 (x : BitVec 32) (n : Nat) (hn : n ≤ 32) : shR .u32 (I32 x) (n : Int) = I32 (x >>> n) := by
  unfold shR I32
  rw [BitVec.toNat_ushiftRight, Nat.shiftRight_eq_div_pow]
  show Int.fdiv (x.toNat : Int) (2 ^ min ((n : Int).toNat) 32) = _
  rw [Int.toNat_natCast, Nat.min_eq_left hn, Int.fdiv_eq_ediv_of_nonneg _ (Int.le_of_lt (Int.pow_pos (by decide)))]
  simp
def poly : BitVec 32 := 2197175160#32
def stp (x : BitVec 32) : BitVec 32 := (x >>> 1) ^^^ (if x.getLsbD 0 then poly else 0#32)
theorem lsb_and (x : BitVec 32) : (I32 (x &&& 1#32) = 1) ↔ x.getLsbD 0 = true := by
  unfold I32
  rw [BitVec.toNat_and]
  show ((x.toNat &&& 1 : Nat) : Int) = 1 ↔ x.toNat.testBit 0 = true
  rw [Nat.and_one_is_mod, Nat.testBit_zero]
  simp
  omega
theorem rstep_eq (fu : Nat) (x : BitVec 32) : rickyardref02_Step.f fu (I32 x) = some (I32 (stp x)) := by
  unfold rickyardref02_Step.f stp
  have hb := I32_lt x
  have e1 : Int.tmod (I32 x) 2 = I32 (x &&& 1#32) := by
    rw [Int.tmod_eq_emod_of_nonneg hb.1]
    unfold I32
    rw [BitVec.toNat_and]
    show ((x.toNat : Int)) % 2 = ((x.toNat &&& 1 : Nat) : Int)
    rw [Nat.and_one_is_mod]
    omega
  have e2 : Int.tdiv (I32 x) 2 = I32 (x >>> 1) := by
    rw [Int.tdiv_eq_ediv_of_nonneg hb.1]
    unfold I32
    rw [BitVec.toNat_ushiftRight, Nat.shiftRight_eq_div_pow]
    omega
  have e3 : bXor .u32 (I32 (x >>> 1)) 2197175160 = I32 (x >>> 1 ^^^ poly) := bx32 (x >>> 1) poly
  rw [e1, e2, wI32, e3]
  by_cases h : x.getLsbD 0 = true
  · rw [if_pos (by simpa using (lsb_and x).2 h), if_pos h]
  · rw [if_neg (by simpa using fun e => h ((lsb_and x).1 e)), if_neg h]
    simp
theorem xor4 (a b p q : BitVec 32) : (a ^^^ b) ^^^ (p ^^^ q) = (a ^^^ p) ^^^ (b ^^^ q) := by
  rw [BitVec.xor_assoc, ← BitVec.xor_assoc b, BitVec.xor_comm b p, BitVec.xor_assoc p, ← BitVec.xor_assoc]
theorem sel_xor (a b : Bool) (p : BitVec 32) : (if (a ^^ b) = true then p else 0#32) = (if a = true then p else 0#32) ^^^ (if b = true then p else 0#32) := by
  cases a <;> cases b <;> simp
theorem stp_xor (x y : BitVec 32) : stp (x ^^^ y) = stp x ^^^ stp y := by
  unfold stp
  rw [BitVec.ushiftRight_xor_distrib, BitVec.getLsbD_xor, sel_xor, xor4]
def stps : Nat → BitVec 32 → BitVec 32
  | 0, x => x
  | n + 1, x => stps n (stp x)
theorem stps_xor : ∀ (n : Nat) (x y : BitVec 32), stps n (x ^^^ y) = stps n x ^^^ stps n y
  | 0, x, y => rfl
  | n + 1, x, y => by
    unfold stps
    rw [stp_xor, stps_xor n]
theorem stps_add (m : Nat) : ∀ (n : Nat) (x : BitVec 32), stps (n + m) x = stps m (stps n x)
  | 0, x => by simp [stps]
  | n + 1, x => by
    rw [Nat.add_right_comm]
    show stps (n + m) (stp x) = stps m (stps n (stp x))
    exact stps_add m n (stp x)
theorem stps_succ (n : Nat) (x : BitVec 32) : stps (n + 1) x = stp (stps n x) := stps_add 1 n x
theorem stp_even {x : BitVec 32} (h : x.getLsbD 0 = false) : stp x = x >>> 1 := by
  unfold stp
  rw [h]
  simp
theorem stps_high (x : BitVec 32) : ∀ n, (∀ j, j < n → x.getLsbD j = false) → stps n x = x >>> n
  | 0, _ => by simp [stps]
  | n + 1, h => by
    rw [stps_succ, stps_high x n fun j hj => h j (by omega)]
    rw [stp_even (by rw [BitVec.getLsbD_ushiftRight]; exact h (n + 0) (by omega)), ← BitVec.shiftRight_add]
theorem low_bit (n j : Nat) (hj : j < n) (hn : n ≤ 32) : (BitVec.ofNat 32 (2 ^ n - 1)).getLsbD j = true := by
  rw [BitVec.getLsbD_ofNat, Nat.testBit_two_pow_sub_one]
  simp
  omega
theorem high_bit (n j : Nat) (hj : n ≤ j) : (BitVec.ofNat 32 (2 ^ n - 1)).getLsbD j = false := by
  rw [BitVec.getLsbD_ofNat, Nat.testBit_two_pow_sub_one]
  simp
  omega
theorem stps_split (n : Nat) (hn : n ≤ 32) (x : BitVec 32) : stps n x = (x >>> n) ^^^ stps n (x &&& BitVec.ofNat 32 (2 ^ n - 1)) := by
  have e : x = (x &&& ~~~ BitVec.ofNat 32 (2 ^ n - 1)) ^^^ (x &&& BitVec.ofNat 32 (2 ^ n - 1)) := by
    apply BitVec.eq_of_getLsbD_eq
    intro i hi
    rw [BitVec.getLsbD_xor, BitVec.getLsbD_and, BitVec.getLsbD_and, BitVec.getLsbD_not]
    cases x.getLsbD i <;> cases (BitVec.ofNat 32 (2 ^ n - 1)).getLsbD i <;> simp [hi]
  conv => lhs; rw [e]
  rw [stps_xor, stps_high]
  · congr 1
    apply BitVec.eq_of_getLsbD_eq
    intro i hi
    rw [BitVec.getLsbD_ushiftRight, BitVec.getLsbD_ushiftRight, BitVec.getLsbD_and, BitVec.getLsbD_not, high_bit n (n + i) (by omega)]
    by_cases h : n + i < 32
    · simp [h]
    · have : x.getLsbD (n + i) = false := BitVec.getLsbD_of_ge _ _ (by omega)
      simp [this]
  · intro j hj
    rw [BitVec.getLsbD_and, BitVec.getLsbD_not, low_bit n j hj hn]
    simp
def b32 (c : Int) : BitVec 32 := BitVec.ofNat 32 c.toNat
theorem b32_eq {c : Int} (h : 0 ≤ c ∧ c ≤ 255) : IntKind.u32.wrap c = I32 (b32 c) := by
  rw [wu32 h.1 (by omega)]
  exact I32_of h.1 (by omega)
def take8 (x : BitVec 32) (c : Int) : BitVec 32 := stps 8 (x ^^^ b32 c)
def regs (x : BitVec 32) (l : List Int) : BitVec 32 := l.foldl take8 x
def tabL : List Int := (List.range 16).map fun i => I32 (stps 4 (BitVec.ofNat 32 i))
def tabA : Arr 16 Int := ⟨tabL, rfl⟩
theorem table_at (n : Nat) : crc_Table.f (n + 20) = some tabA := by kernel_rfl
theorem table_eq {fu : Nat} (h : 20 ≤ fu) : crc_Table.f fu = some tabA := by
  obtain ⟨n, rfl⟩ : ∃ n, fu = n + 20 := ⟨fu - 20, by omega⟩
  exact table_at n
theorem tab_get : ∀ i : Fin 16, Arr.get tabA ((i : Nat) : Int) = I32 (stps 4 (BitVec.ofNat 32 (i : Nat))) := by decide +kernel
theorem nib (x : BitVec 32) : bXor .u32 (shR .u32 (I32 x) 4) (Arr.get tabA (bAnd .u32 (I32 x) 15)) = I32 (stps 4 x) := by
  have e1 : bAnd .u32 (I32 x) 15 = I32 (x &&& 15#32) := ba32 x 15#32
  have e2 : shR .u32 (I32 x) 4 = I32 (x >>> 4) := sr32 x 4 (by decide)
  have hlt : (x &&& 15#32).toNat < 16 := by
    rw [BitVec.toNat_and]
    exact Nat.lt_of_le_of_lt Nat.and_le_right (by decide)
  have e3 : Arr.get tabA (I32 (x &&& 15#32)) = I32 (stps 4 (x &&& 15#32)) := by
    have := tab_get ⟨(x &&& 15#32).toNat, hlt⟩
    simp only [BitVec.ofNat_toNat, BitVec.setWidth_eq] at this
    exact this
  rw [e1, e2, e3, bx32]
  exact congrArg I32 (stps_split 4 (by decide) x).symm
theorem nib_in (x : BitVec 32) : 0 ≤ bAnd .u32 (I32 x) 15 ∧ bAnd .u32 (I32 x) 15 < 16 := by
  have e1 : bAnd .u32 (I32 x) 15 = I32 (x &&& 15#32) := ba32 x 15#32
  have hlt : (x &&& 15#32).toNat < 16 := by
    rw [BitVec.toNat_and]
    exact Nat.lt_of_le_of_lt Nat.and_le_right (by decide)
  rw [e1]
  unfold I32
  omega
theorem reg_eq {fu : Nat} {x : BitVec 32} {l : List Int} (hb : Bytes l) (hl : l.length ≤ 9000000000000000000) (hf : l.length < fu) : crc_register.f fu tabA (I32 x) l = some (I32 (regs x l)) := by
  unfold crc_register.f
  have : loopM (crc_register.s0 fu tabA l) fu (I32 x, 0) = some (I32 (regs x l)) := by
    refine loopM_run (S := fun j => (I32 (regs x (l.take j)), (j : Int))) l.length (by simp [regs]) ?_ ?_ hf
    · intro j hj
      unfold crc_register.s0
      have h1 : (j : Int) < (l.length : Int) := by omega
      have w3 : IntKind.i64.wrap ((j : Int) + 1) = ((j + 1 : Nat) : Int) := by rw [w64 (by omega) (by omega)]; omega
      have hc := hb _ (List.getElem_mem hj)
      have e1 : bXor .u32 (I32 (regs x (l.take j))) (IntKind.u32.wrap (ix l (j : Int))) = I32 (regs x (l.take j) ^^^ b32 l[j]) := by
        rw [ix_nat hj, b32_eq hc, bx32]
      have e2 : regs x (l.take (j + 1)) = stps 4 (stps 4 (regs x (l.take j) ^^^ b32 l[j])) := by
        rw [take_next hj]
        unfold regs
        rw [List.foldl_append]
        exact stps_add 4 4 _
      simp only [h1, decide_true, if_true, e1, nib, w3, e2]
      rw [if_pos ⟨by omega, trivial⟩, if_pos (nib_in _), if_pos (nib_in _)]
    · unfold crc_register.s0
      simp
  rw [this]
  rfl
def ones : BitVec 32 := 4294967295#32
def crc (l : List Int) : BitVec 32 := regs ones l ^^^ ones
theorem sum_eq {fu : Nat} {l : List Int} (hb : Bytes l) (hl : l.length ≤ 9000000000000000000) (hf : l.length + 20 < fu) : crc_Sum.f fu [l] = some (I32 (crc l)) := by
  unfold crc_Sum.f
  rw [table_eq (by omega)]
  have : loopM (crc_Sum.s0 fu [l] tabA) fu (4294967295, 0) = some (I32 (regs ones l)) := by
    refine loopM_run (S := fun j => (if j = 0 then I32 ones else I32 (regs ones l), (j : Int))) 1 rfl ?_ ?_ (by omega)
    · intro j hj
      obtain rfl : j = 0 := by omega
      unfold crc_Sum.s0
      have e0 : ix [l] ((0 : Nat) : Int) = l := rfl
      have w3 : IntKind.i64.wrap (((0 : Nat) : Int) + 1) = ((0 + 1 : Nat) : Int) := by decide
      simp only [e0, w3, if_true, reg_eq hb hl (by omega : l.length < fu)]
      simp
    · unfold crc_Sum.s0
      simp
  simp only [Option.bind_some]
  rw [this]
  simp only [Option.bind_some]
  exact congrArg some (bx32 _ ones)
theorem rsteps_eq {fu : Nat} {x : BitVec 32} (hf : 8 < fu) : rickyardref02_Steps.f fu (I32 x) 8 = some (I32 (stps 8 x)) := by
  unfold rickyardref02_Steps.f
  have : loopM (rickyardref02_Steps.s0 fu 8) fu (I32 x, 0) = some (I32 (stps 8 x)) := by
    refine loopM_run (S := fun j => (I32 (stps j x), (j : Int))) 8 rfl ?_ ?_ hf
    · intro j hj
      unfold rickyardref02_Steps.s0
      have h1 : (j : Int) < 8 := by omega
      have w3 : IntKind.i64.wrap ((j : Int) + 1) = ((j + 1 : Nat) : Int) := by rw [w64 (by omega) (by omega)]; omega
      simp only [h1, decide_true, if_true, rstep_eq, w3, stps_succ]
      rfl
    · unfold rickyardref02_Steps.s0
      simp
  rw [this]
  rfl
theorem rsum_eq {fu : Nat} {l : List Int} (hb : Bytes l) (hl : l.length ≤ 9000000000000000000) (hf : l.length + 20 < fu) : rickyardref02_Sum.f fu l = some (I32 (crc l)) := by
  unfold rickyardref02_Sum.f
  have : loopM (rickyardref02_Sum.s0 fu l) fu (4294967295, 0) = some (I32 (regs ones l)) := by
    refine loopM_run (S := fun j => (I32 (regs ones (l.take j)), (j : Int))) l.length (by simp [regs]; rfl) ?_ ?_ (by omega)
    · intro j hj
      unfold rickyardref02_Sum.s0
      have h1 : (j : Int) < (l.length : Int) := by omega
      have w3 : IntKind.i64.wrap ((j : Int) + 1) = ((j + 1 : Nat) : Int) := by rw [w64 (by omega) (by omega)]; omega
      have hc := hb _ (List.getElem_mem hj)
      have e1 : bXor .u32 (I32 (regs ones (l.take j))) (IntKind.u32.wrap (ix l (j : Int))) = I32 (regs ones (l.take j) ^^^ b32 l[j]) := by
        rw [ix_nat hj, b32_eq hc, bx32]
      have e2 : regs ones (l.take (j + 1)) = stps 8 (regs ones (l.take j) ^^^ b32 l[j]) := by
        rw [take_next hj]
        unfold regs
        rw [List.foldl_append]
        rfl
      simp only [h1, decide_true, if_true, e1, w3, e2, rsteps_eq (by omega : 8 < fu)]
      rw [if_pos ⟨by omega, trivial⟩]
      rfl
    · unfold rickyardref02_Sum.s0
      simp
  rw [this]
  have e : IntKind.u32.wrap (4294967295 - I32 (regs ones l)) = I32 (crc l) := by
    have hlt := (regs ones l).isLt
    have h2 : (crc l).toNat = 4294967295 - (regs ones l).toNat := by
      unfold crc
      have : regs ones l ^^^ ones = ~~~ (regs ones l) := by
        apply BitVec.eq_of_getLsbD_eq
        intro i hi
        have ho : ones.getLsbD i = true := by
          have := low_bit 32 i hi (by decide)
          exact this
        rw [BitVec.getLsbD_xor, BitVec.getLsbD_not, ho]
        simp [hi]
      rw [this, BitVec.toNat_not]
    unfold I32
    rw [h2, wu32 (by omega) (by omega)]
    omega
  simp only [Option.bind_some, e]
theorem toB_inj {a b : Int} (ha : 0 ≤ a ∧ a ≤ 255) (hb : 0 ≤ b ∧ b ≤ 255) (h : toB a = toB b) : a = b := by
  unfold toB at h
  have := congrArg UInt8.toNat h
  simp only [UInt8.toNat_ofNat'] at this
  omega
theorem map_toB_inj : ∀ {a b : List Int}, Bytes a → Bytes b → a.map toB = b.map toB → a = b
  | [], [], _, _, _ => rfl
  | [], _ :: _, _, _, h => by simp at h
  | _ :: _, [], _, _, h => by simp at h
  | x :: a, y :: b, ha, hb, h => by
    simp only [List.map_cons, List.cons.injEq] at h
    rw [toB_inj (ha x (by simp)) (hb y (by simp)) h.1, map_toB_inj (fun z hz => ha z (by simp [hz])) (fun z hz => hb z (by simp [hz])) h.2]
theorem map_toB_iff {a b : List Int} (ha : Bytes a) (hb : Bytes b) : (a.map toB = b.map toB) ↔ a = b := ⟨map_toB_inj ha hb, fun h => by rw [h]⟩
theorem Bytes.app {a b : List Int} (ha : Bytes a) (hb : Bytes b) : Bytes (a ++ b) := by
  intro x hx
  rcases List.mem_append.1 hx with h | h
  · exact ha x h
  · exact hb x h
theorem Bytes.rep (n : Nat) : Bytes (List.replicate n (0 : Int)) := by
  intro x hx
  obtain rfl := List.eq_of_mem_replicate hx
  omega
def summed (k t : Int) (body : List Int) : List Int := [k, t, 0, 0] ++ (body ++ List.replicate (56 - body.length) 0)
def sealed (s : List Int) : List Int := lay (crc s).toNat 4 ++ s
theorem summed_len {k t : Int} {body : List Int} (h : body.length ≤ 56) : (summed k t body).length = 60 := by
  simp [summed]
  omega
theorem summed_bytes {k t : Int} {body : List Int} (hk : 0 ≤ k ∧ k ≤ 255) (ht : 0 ≤ t ∧ t ≤ 255) (hb : Bytes body) : Bytes (summed k t body) := by
  refine Bytes.app ?_ (Bytes.app hb (Bytes.rep _))
  intro x hx
  simp only [List.mem_cons, List.not_mem_nil, or_false] at hx
  rcases hx with rfl | rfl | rfl | rfl <;> omega
theorem sealed_bytes {s : List Int} (h : Bytes s) : Bytes (sealed s) := Bytes.app (lay_bytes _ _) h
theorem x2_eq (k t : Int) : List.set (List.set (List.replicate (Int.toNat 64) (0 : Int)) (Int.toNat 4) k) (Int.toNat 5) t = [0, 0, 0, 0, k, t, 0, 0] ++ List.replicate 56 (0 : Int) := id rfl
theorem x3_eq {k t : Int} {body : List Int} (h : body.length ≤ 56) : splL ([0, 0, 0, 0, k, t, 0, 0] ++ List.replicate 56 (0 : Int)) (Int.toNat 8) (List.take (List.length ([0, 0, 0, 0, k, t, 0, 0] ++ List.replicate 56 (0 : Int)) - Int.toNat 8) body) = [0, 0, 0, 0] ++ summed k t body := by
  have e : List.take (List.length ([0, 0, 0, 0, k, t, 0, 0] ++ List.replicate 56 (0 : Int)) - Int.toNat 8) body = body := List.take_of_length_le (by simpa using h)
  rw [e]
  have e2 : List.drop (8 + body.length) ([0, 0, 0, 0, k, t, 0, 0] ++ List.replicate 56 (0 : Int)) = List.replicate (56 - body.length) 0 := by
    have h8 : ([0, 0, 0, 0, k, t, 0, 0] : List Int).length = 8 := rfl
    rw [List.drop_append, List.drop_eq_nil_of_le (by rw [h8]; omega), List.nil_append, h8, List.drop_replicate]
    congr 1
    omega
  unfold splL summed
  rw [show (Int.toNat 8) = 8 from rfl, e2]
  simp
theorem lay4_eq {fu : Nat} (x : BitVec 32) (hf : 8 < fu) : octet_Lay.f fu (IntKind.u64.wrap (I32 x)) 4 = some (lay x.toNat 4) := by
  have hb := I32_lt x
  rw [wu64 hb.1 (by omega)]
  exact olay_eq (n := 4) (by decide) (by omega)
theorem rlay4_eq {fu : Nat} (x : BitVec 32) (hf : 8 < fu) : rickyardref01_Lay.f fu (IntKind.u64.wrap (I32 x)) 4 = some ((lay x.toNat 4).map toB) := by
  have hb := I32_lt x
  rw [wu64 hb.1 (by omega)]
  exact rlay_eq (n := 4) (by have := x.isLt; omega) (by decide) (by omega)
theorem seal_eq {fu : Nat} {k t : Int} {body : List Int} (hb : Bytes body) (hk : 1 ≤ k ∧ k ≤ 255) (ht : 0 ≤ t ∧ t ≤ 255) (hl : body.length ≤ 56) (hf : 100 < fu) : block_Seal.f fu k t body = some (sealed (summed k t body), true) := by
  have hs := summed_len (k := k) (t := t) hl
  have hsb := summed_bytes ⟨by omega, hk.2⟩ ht hb
  unfold block_Seal.f
  rw [wu8 (by omega : 0 ≤ k) hk.2, wu8 ht.1 ht.2]
  have h1 : ¬ k < 1 := by omega
  have h2 : ¬ k ≥ 256 := by omega
  have h3 : ¬ t < 0 := by omega
  have h4 : ¬ t ≥ 256 := by omega
  have h5 : ¬ (List.length body : Int) > 56 := by omega
  rw [decide_eq_false h1, decide_eq_false h2, decide_eq_false h3, decide_eq_false h4, decide_eq_false h5]
  simp only [Bool.false_eq_true, if_false]
  simp only [x2_eq, Int.toNat_natCast, x3_eq hl]
  have e1 : cut ([0, 0, 0, 0] ++ summed k t body) 4 (List.length ([0, 0, 0, 0] ++ summed k t body) : Int) = summed k t body := by
    unfold cut
    rw [Int.toNat_natCast, List.take_length]
    rfl
  have e2 : ∀ v, splL ([0, 0, 0, 0] ++ summed k t body) 0 (List.take (List.length ([0, 0, 0, 0] ++ summed k t body)) (lay v 4)) = lay v 4 ++ summed k t body := by
    intro v
    rw [List.take_of_length_le (by simp [lay_len])]
    unfold splL
    simp [lay_len]
  simp only [e1, e2, sum_eq (fu := fu) hsb (by omega) (by omega), Option.bind_some, lay4_eq (fu := fu) _ (by omega)]
  simp [hs, sealed]
theorem fill_eq {fu : Nat} {body : List Int} (hl : body.length ≤ 56) : rickyardref07_Fill.f fu (body.map toB) 56 = some ((body ++ List.replicate (56 - body.length) 0).map toB) := by
  unfold rickyardref07_Fill.f
  have e1 : mxI (IntKind.i64.wrap (56 - (List.length (body.map toB) : Int))) 0 = ((56 - body.length : Nat) : Int) := by
    rw [List.length_map, w64 (by omega) (by omega)]
    unfold mxI
    split <;> omega
  have hL : (100 : Nat) ≤ LIM := by decide
  rw [e1, Int.toNat_natCast, if_pos ⟨by omega, by omega⟩, if_pos (by simp only [List.length_map, List.length_replicate]; omega), List.map_append]
theorem rseal_eq {fu : Nat} {k t : Int} {body : List Int} (hb : Bytes body) (hk : 0 ≤ k ∧ k ≤ 255) (ht : 0 ≤ t ∧ t ≤ 255) (hl : body.length ≤ 56) (hf : 100 < fu) : rickyardref07_Seal.f fu k t (body.map toB) = some ((sealed (summed k t body)).map toB) := by
  have hs := summed_len (k := k) (t := t) hl
  have hsb := summed_bytes hk ht hb
  unfold rickyardref07_Seal.f
  rw [wu8 hk.1 hk.2, wu8 ht.1 ht.2]
  have e1 : List.map toB [k, t, 0, 0] ++ List.map toB (body ++ List.replicate (56 - body.length) 0) = (summed k t body).map toB := by
    rw [← List.map_append]
    rfl
  have hL : (100 : Nat) ≤ LIM := by decide
  have e2 : List.length (List.map toB [k, t, 0, 0]) + List.length (List.map toB (body ++ List.replicate (56 - body.length) 0)) ≤ LIM := by
    simp
    omega
  simp only [fill_eq (fu := fu) hl, Option.bind_some, e1, of_toB hsb, rsum_eq (fu := fu) hsb (by omega) (by omega), rlay4_eq (fu := fu) _ (by omega : 8 < fu)]
  rw [if_pos e2, if_pos (by simp [lay_len, hs]; omega)]
  simp [sealed]
theorem there_eq {fu : Nat} {b : List Int} {i n : Nat} (hl : b.length ≤ 9000000000000000000) (h : i + n ≤ b.length) : octet_there.f fu b (i : Int) (n : Int) = some true := by
  unfold octet_there.f
  have h1 : (i : Int) ≥ 0 := by omega
  have h2 : (n : Int) ≥ 0 := by omega
  have h3 : (n : Int) ≤ (b.length : Int) := by omega
  have h4 : IntKind.i64.wrap ((b.length : Int) - (n : Int)) = (b.length : Int) - (n : Int) := w64 (by omega) (by omega)
  have h5 : (i : Int) ≤ (b.length : Int) - (n : Int) := by omega
  simp [h1, h2, h3, h4, h5]
theorem noughts_from {fu : Nat} (b : List Int) (x n : Int) {C : List Int} (hC : cut b x (IntKind.i64.wrap (x + n)) = C) (hl : C.length ≤ 9000000000000000000) : ∀ k m, m ≤ C.length → C.length - m < k → loopM (octet_Noughts.s0 fu b x n) k (m : Int) = some (if ∀ y ∈ C.drop m, y = 0 then .inr () else .inl false)
  | 0, m, _, hk => by omega
  | k + 1, m, hm, hk => by
    unfold loopM
    by_cases e : m = C.length
    · subst e
      have : octet_Noughts.s0 fu b x n (C.length : Int) = some (.inl (.inr ())) := by
        unfold octet_Noughts.s0
        rw [hC]
        simp
      rw [this]
      simp
    · have hlt : m < C.length := by omega
      have hx : ix C (m : Int) = C[m] := ix_nat hlt
      rw [List.drop_eq_getElem_cons hlt]
      have h1 : (m : Int) < (C.length : Int) := by omega
      by_cases hn : C[m] = 0
      · have w3 : IntKind.i64.wrap ((m : Int) + 1) = ((m + 1 : Nat) : Int) := by rw [w64 (by omega) (by omega)]; omega
        have : octet_Noughts.s0 fu b x n (m : Int) = some (.inr ((m + 1 : Nat) : Int)) := by
          unfold octet_Noughts.s0
          rw [hC]
          simp [h1, hx, hn, w3, hlt]
        rw [this]
        simp only
        rw [noughts_from b x n hC hl k (m + 1) (by omega) (by omega)]
        have e3 : (∀ y ∈ C[m] :: C.drop (m + 1), y = 0) ↔ ∀ y ∈ C.drop (m + 1), y = 0 := by
          constructor
          · intro h y hy
            exact h y (List.mem_cons_of_mem _ hy)
          · intro h y hy
            rcases List.mem_cons.1 hy with rfl | hy
            · exact hn
            · exact h y hy
        simp only [e3]
      · have : octet_Noughts.s0 fu b x n (m : Int) = some (.inl (.inl false)) := by
          unfold octet_Noughts.s0
          rw [hC]
          simp [h1, hx, hn, hlt]
        rw [this]
        have e3 : ¬ (∀ y ∈ C[m] :: C.drop (m + 1), y = 0) := fun h => hn (h _ (List.mem_cons_self ..))
        simp only [e3, if_false]
theorem noughts_eq {fu : Nat} {b : List Int} {i n : Nat} (hl : b.length ≤ 9000000000000000000) (h : i + n ≤ b.length) (hf : n < fu) : octet_Noughts.f fu b (i : Int) (n : Int) = some (decide (∀ y ∈ (b.drop i).take n, y = 0)) := by
  unfold octet_Noughts.f
  rw [there_eq hl h]
  have w1 : IntKind.i64.wrap ((i : Int) + (n : Int)) = ((i + n : Nat) : Int) := by rw [w64 (by omega) (by omega)]; omega
  have hC : cut b (i : Int) (IntKind.i64.wrap ((i : Int) + (n : Int))) = (b.drop i).take n := by
    rw [w1]
    unfold cut
    rw [Int.toNat_natCast, Int.toNat_natCast, List.drop_take]
    congr 1
    omega
  have hlen : ((b.drop i).take n).length = n := by
    rw [List.length_take, List.length_drop]
    omega
  have := noughts_from (fu := fu) b (i : Int) (n : Int) hC (by omega) fu 0 (by omega) (by omega)
  rw [Int.natCast_zero, List.drop_zero] at this
  have c1 : 0 ≤ (i : Int) ∧ (i : Int) ≤ IntKind.i64.wrap ((i : Int) + (n : Int)) ∧ IntKind.i64.wrap ((i : Int) + (n : Int)) ≤ (b.length : Int) := by
    rw [w1]
    omega
  simp only [Option.bind_some, Bool.not_true, Bool.false_eq_true, if_false]
  rw [if_pos c1, this]
  by_cases hz : ∀ y ∈ (b.drop i).take n, y = 0
  · rw [if_pos hz]
    simp only [Option.bind_some, decide_eq_true hz]
  · rw [if_neg hz]
    simp only [Option.bind_some, decide_eq_false hz]
def Is (b : List Int) : Prop := b.length = 64 ∧ ix b 4 ≠ 0 ∧ b = sealed (summed (ix b 4) (ix b 5) (b.drop 8))
instance (b : List Int) : Decidable (Is b) := inferInstanceAs (Decidable (_ ∧ _))
theorem parts {b : List Int} (h : b.length = 64) : b = b.take 4 ++ ([ix b 4, ix b 5, ix b 6, ix b 7] ++ b.drop 8) := by
  have e : b.drop 4 = [ix b 4, ix b 5, ix b 6, ix b 7] ++ b.drop 8 := by
    have g : ∀ j : Nat, j < 64 → b.drop j = ix b (j : Int) :: b.drop (j + 1) := by
      intro j hj
      rw [List.drop_eq_getElem_cons (by omega), ix_nat (by omega)]
    rw [g 4 (by omega), g 5 (by omega), g 6 (by omega), g 7 (by omega)]
    rfl
  rw [← e, List.take_append_drop]
theorem gap_eq {b : List Int} (h : b.length = 64) : (b.drop 6).take 2 = [ix b 6, ix b 7] := by
  have g : ∀ j : Nat, j < 64 → b.drop j = ix b (j : Int) :: b.drop (j + 1) := by
    intro j hj
    rw [List.drop_eq_getElem_cons (by omega), ix_nat (by omega)]
  rw [g 6 (by omega), g 7 (by omega)]
  rfl
theorem drop4 {b : List Int} (h : b.length = 64) : b.drop 4 = [ix b 4, ix b 5, ix b 6, ix b 7] ++ b.drop 8 := by
  have g : ∀ j : Nat, j < 64 → b.drop j = ix b (j : Int) :: b.drop (j + 1) := by
    intro j hj
    rw [List.drop_eq_getElem_cons (by omega), ix_nat (by omega)]
  rw [g 4 (by omega), g 5 (by omega), g 6 (by omega), g 7 (by omega)]
  rfl
theorem summed_full (k t : Int) {body : List Int} (h : body.length = 56) : summed k t body = [k, t, 0, 0] ++ body := by
  unfold summed
  rw [h]
  simp
theorem is_iff {b : List Int} (hb : Bytes b) (h : b.length = 64) : b = sealed (summed (ix b 4) (ix b 5) (b.drop 8)) ↔ (ix b 6 = 0 ∧ ix b 7 = 0) ∧ num (b.take 4) = (crc (b.drop 4)).toNat := by
  have h8 : (b.drop 8).length = 56 := by rw [List.length_drop, h]
  have h4 : (b.take 4).length = 4 := by rw [List.length_take, h]; rfl
  rw [summed_full _ _ h8]
  constructor
  · intro e
    have e2 : b.take 4 ++ b.drop 4 = lay (crc ([ix b 4, ix b 5, 0, 0] ++ b.drop 8)).toNat 4 ++ ([ix b 4, ix b 5, 0, 0] ++ b.drop 8) := by
      rw [List.take_append_drop]
      exact e
    obtain ⟨e3, e4⟩ := List.append_inj e2 (by rw [h4, lay_len])
    have e5 := e4
    rw [drop4 h] at e5
    have e6 := List.append_inj_left e5 rfl
    simp only [List.cons.injEq, and_true, true_and] at e6
    refine ⟨e6, ?_⟩
    rw [e3, e4, num_lay]
    exact Nat.mod_eq_of_lt (crc _).isLt
  · rintro ⟨⟨h6, h7⟩, hn⟩
    have e4 : b.drop 4 = [ix b 4, ix b 5, 0, 0] ++ b.drop 8 := by
      have := drop4 h
      rw [h6, h7] at this
      exact this
    unfold sealed
    rw [← e4, ← hn]
    have := lay_num (hb.take 4)
    rw [h4] at this
    rw [this, List.take_append_drop]
theorem right_is {fu : Nat} {b : List Int} (hb : Bytes b) (hl : b.length ≤ 9000000000000000000) (hf : 100 < fu) : block_right.f fu b = some (decide (Is b)) := by
  unfold block_right.f
  by_cases h : b.length = 64
  · have hL : (b.length : Int) = 64 := by omega
    by_cases h4 : ix b 4 = 0
    · simp [hL, h4, Is]
    · have hn : octet_Noughts.f fu b 6 2 = some (decide (∀ y ∈ (b.drop 6).take 2, y = 0)) := noughts_eq (i := 6) (n := 2) hl (by omega) (by omega)
      have hg : (∀ y ∈ (b.drop 6).take 2, y = 0) ↔ ix b 6 = 0 ∧ ix b 7 = 0 := by
        rw [gap_eq h]
        simp
      by_cases hz : ix b 6 = 0 ∧ ix b 7 = 0
      · have c1 : cut b 0 4 = b.take 4 := by
          unfold cut
          rfl
        have c2 : cut b 4 (b.length : Int) = b.drop 4 := by
          unfold cut
          rw [Int.toNat_natCast, List.take_length]
          rfl
        have h4' : (b.take 4).length = 4 := by rw [List.length_take, h]; rfl
        have hr : octet_Read.f fu (b.take 4) = some ((num (b.take 4) : Nat) : Int) := read_eq (hb.take 4) (by omega) (by omega)
        have hlt : num (b.take 4) < 4294967296 := by
          have := num_lt (hb.take 4)
          rwa [h4'] at this
        have hd : (b.drop 4).length = 60 := by rw [List.length_drop, h]
        have hs : crc_Sum.f fu [b.drop 4] = some (I32 (crc (b.drop 4))) := sum_eq (hb.drop 4) (by omega) (by omega)
        have hw : IntKind.u32.wrap ((num (b.take 4) : Nat) : Int) = ((num (b.take 4) : Nat) : Int) := wu32 (by omega) (by omega)
        have hi : Is b ↔ num (b.take 4) = (crc (b.drop 4)).toNat := by
          unfold Is
          rw [is_iff hb h]
          exact ⟨fun x => x.2.2.2, fun x => ⟨h, h4, hz, x⟩⟩
        have hq : (I32 (crc (b.drop 4)) = ((num (b.take 4) : Nat) : Int)) ↔ Is b := by
          rw [hi]
          unfold I32
          omega
        unfold crc_Fits.f
        rw [hn, decide_eq_true (hg.2 hz), c1, c2, hr]
        simp only [Option.bind_some, hw, hs, hq]
        have hL5 : (4 : Int) < (b.length : Int) := by omega
        have hL6 : (4 : Int) ≤ (b.length : Int) := by omega
        simp [hL, h4]
      · have hi : ¬ Is b := by
          intro x
          unfold Is at x
          rw [is_iff hb h] at x
          exact hz x.2.2.1
        rw [hn, decide_eq_false (fun x => hz (hg.1 x))]
        simp [hL, h4, hi]
  · have hi : ¬ Is b := fun x => h x.1
    have hL : ¬ (b.length : Int) = 64 := by omega
    simp [hL, hi]
theorem open_eq {fu : Nat} {b : List Int} (hb : Bytes b) (hl : b.length ≤ 9000000000000000000) (hf : 100 < fu) : block_Open.f fu b = some (if Is b then (ix b 4, ix b 5, b.drop 8, true) else (0, 0, [], false)) := by
  unfold block_Open.f
  rw [right_is hb hl hf]
  by_cases h : Is b
  · have h0 := h.1
    have c2 : cut b 8 (b.length : Int) = b.drop 8 := by
      unfold cut
      rw [Int.toNat_natCast, List.take_length]
      rfl
    have hc : bytes_Clone.f fu (b.drop 8) = some (b.drop 8) := by
      unfold bytes_Clone.f
      rw [if_pos]
      rw [List.length_drop, h0]
      decide
    have h4 : 0 ≤ ix b 4 ∧ ix b 4 ≤ 255 := by
      have := ix_nat (l := b) (j := 4) (by omega)
      rw [show ((4 : Nat) : Int) = 4 from rfl] at this
      rw [this]
      exact hb _ (List.getElem_mem _)
    have h5 : 0 ≤ ix b 5 ∧ ix b 5 ≤ 255 := by
      have := ix_nat (l := b) (j := 5) (by omega)
      rw [show ((5 : Nat) : Int) = 5 from rfl] at this
      rw [this]
      exact hb _ (List.getElem_mem _)
    have w4 : IntKind.i64.wrap (ix b 4) = ix b 4 := w64 (by omega) (by omega)
    have w5 : IntKind.i64.wrap (ix b 5) = ix b 5 := w64 (by omega) (by omega)
    simp only [c2, hc, w4, w5]
    simp [h, h0]
  · simp [h]
theorem sealed_parts (k t : Int) (body : List Int) : ix (sealed (summed k t body)) 4 = k ∧ ix (sealed (summed k t body)) 5 = t ∧ (sealed (summed k t body)).drop 8 = body ++ List.replicate (56 - body.length) 0 := by
  unfold sealed
  obtain ⟨a, b, c, d, e⟩ : ∃ a b c d, lay (crc (summed k t body)).toNat 4 = [a, b, c, d] := ⟨_, _, _, _, rfl⟩
  rw [e]
  exact ⟨rfl, rfl, rfl⟩
theorem fulled (body : List Int) (h : body.length ≤ 56) : (body ++ List.replicate (56 - body.length) (0 : Int)).length = 56 := by
  simp
  omega
theorem ix_byte {b : List Int} (hb : Bytes b) (j : Nat) (h : j < b.length) : 0 ≤ ix b (j : Int) ∧ ix b (j : Int) ≤ 255 := by
  rw [ix_nat h]
  exact hb _ (List.getElem_mem _)
theorem ropen_eq {fu : Nat} {b : List Int} (hb : Bytes b) (hf : 100 < fu) : rickyardref07_Open.f fu b = some (if Is b then (ix b 4, ix b 5, (b.drop 8).map toB, true) else (0, 0, [], false)) := by
  unfold rickyardref07_Open.f
  by_cases h : b.length = 64
  · have hL : (b.length : Int) = 64 := by omega
    have b4 := ix_byte hb 4 (by omega)
    have b5 := ix_byte hb 5 (by omega)
    rw [show ((4 : Nat) : Int) = 4 from rfl] at b4
    rw [show ((5 : Nat) : Int) = 5 from rfl] at b5
    have w4 : IntKind.i64.wrap (ix b 4) = ix b 4 := w64 (by omega) (by omega)
    have w5 : IntKind.i64.wrap (ix b 5) = ix b 5 := w64 (by omega) (by omega)
    have c2 : cut b 8 (b.length : Int) = b.drop 8 := by
      unfold cut
      rw [Int.toNat_natCast, List.take_length]
      rfl
    have h8 : (b.drop 8).length = 56 := by rw [List.length_drop, h]
    have hs : rickyardref07_Seal.f fu (ix b 4) (ix b 5) ((b.drop 8).map toB) = some ((sealed (summed (ix b 4) (ix b 5) (b.drop 8))).map toB) := rseal_eq (hb.drop 8) b4 b5 (by omega) hf
    have hq : (sealed (summed (ix b 4) (ix b 5) (b.drop 8))).map toB = b.map toB ↔ b = sealed (summed (ix b 4) (ix b 5) (b.drop 8)) :=
      (map_toB_iff (sealed_bytes (summed_bytes b4 b5 (hb.drop 8))) hb).trans ⟨Eq.symm, Eq.symm⟩
    rw [c2, w4, w5]
    by_cases h4 : ix b 4 = 0
    · have hi : ¬ Is b := fun x => x.2.1 h4
      simp [hL, h4, hi]
    · by_cases he : b = sealed (summed (ix b 4) (ix b 5) (b.drop 8))
      · have hi : Is b := ⟨h, h4, he⟩
        simp only [hs, hq.2 he]
        simp [hL, h4, hi]
      · have hi : ¬ Is b := fun x => he x.2.2
        have hne : ¬ (sealed (summed (ix b 4) (ix b 5) (b.drop 8))).map toB = b.map toB := fun x => he (hq.1 x)
        simp only [hs, hne]
        simp [hL, h4, hi]
        exact hne
  · have hi : ¬ Is b := fun x => h x.1
    have hL : ¬ (b.length : Int) = 64 := by omega
    simp [hL, hi]
theorem summed_fulled (k t : Int) (body : List Int) (h : body.length ≤ 56) : summed k t body = summed k t (body ++ List.replicate (56 - body.length) 0) := by
  rw [summed_full k t (fulled body h)]
  rfl
theorem sealed_iff {b : List Int} (hi : Is b) {k t : Int} {body : List Int} (hl : body.length ≤ 56) : sealed (summed k t body) = b ↔ k = ix b 4 ∧ t = ix b 5 ∧ body ++ List.replicate (56 - body.length) 0 = b.drop 8 := by
  obtain ⟨p4, p5, p8⟩ := sealed_parts k t body
  constructor
  · intro e
    rw [← e]
    exact ⟨p4.symm, p5.symm, p8.symm⟩
  · rintro ⟨h1, h2, h3⟩
    rw [summed_fulled k t body hl, h1, h2, h3]
    exact hi.2.2.symm
theorem sealed_map_iff {b : List Int} (hb : Bytes b) (hi : Is b) {k t : Int} {body : List Int} (hk : 0 ≤ k ∧ k ≤ 255) (ht : 0 ≤ t ∧ t ≤ 255) (hbb : Bytes body) (hl : body.length ≤ 56) :
    (sealed (summed k t body)).map toB = b.map toB ↔ k = ix b 4 ∧ t = ix b 5 ∧ body ++ List.replicate (56 - body.length) 0 = b.drop 8 :=
  (map_toB_iff (sealed_bytes (summed_bytes hk ht hbb)) hb).trans (sealed_iff hi hl)
theorem is_tag {b : List Int} (hb : Bytes b) (hi : Is b) : (0 ≤ ix b 4 ∧ ix b 4 ≤ 255) ∧ (0 ≤ ix b 5 ∧ ix b 5 ≤ 255) := by
  have h0 := hi.1
  exact ⟨ix_byte hb 4 (by omega), ix_byte hb 5 (by omega)⟩
theorem is_body {b : List Int} (hi : Is b) : (b.drop 8).length = 56 := by rw [List.length_drop, hi.1]
theorem full_iff {body full : List Int} (hl : body.length ≤ 56) (hf : full.length = 56) : body ++ List.replicate (56 - body.length) 0 = full ↔ body = full.take body.length ∧ ∀ y ∈ full.drop body.length, y = 0 := by
  constructor
  · intro e
    subst e
    refine ⟨by simp, fun y hy => ?_⟩
    rw [List.drop_left' rfl] at hy
    exact List.eq_of_mem_replicate hy
  · rintro ⟨h1, h2⟩
    have h3 : full.drop body.length = List.replicate (56 - body.length) 0 := by
      apply List.eq_replicate_iff.2
      exact ⟨by rw [List.length_drop, hf], h2⟩
    rw [← h3]
    conv => lhs; lhs; rw [h1]
    exact List.take_append_drop _ _
def fillA {n : Nat} {α : Type} (f : Nat → α) (a : Arr n α) : Nat → Arr n α
  | 0 => a
  | j + 1 => Arr.set (fillA f a j) (j : Int) (f j)
theorem fillA_l {n : Nat} {α : Type} (f : Nat → α) (a : Arr n α) : ∀ j, j ≤ n → (fillA f a j).l = (List.range j).map f ++ a.l.drop j
  | 0, _ => by simp [fillA]
  | j + 1, h => by
    have ih := fillA_l f a j (by omega)
    have ha := a.h
    show List.set (fillA f a j).l (Int.toNat (j : Int)) (f j) = _
    rw [ih, Int.toNat_natCast, List.set_append_right _ _ (by simp), List.length_map, List.length_range, Nat.sub_self, List.range_succ, List.map_append]
    rw [List.drop_eq_getElem_cons (by omega), List.set_cons_zero]
    simp
theorem fillA_all {n : Nat} {α : Type} (f : Nat → α) (a : Arr n α) : (fillA f a n).l = (List.range n).map f := by
  rw [fillA_l f a n (Nat.le_refl _)]
  have := a.h
  simp [← this]
theorem take_range {l : List Int} {n : Nat} (h : n ≤ l.length) : l.take n = (List.range n).map fun (j : Nat) => ix l (j : Int) := by
  apply List.ext_getElem
  · simp [h]
  · intro i h1 h2
    have hi : i < n := by simpa using h2
    simp [ix_nat (show i < l.length by omega)]
theorem getA {n : Nat} {α : Type} [Inhabited α] (a : Arr n α) {i : Nat} (hi : i < n) : Arr.get a (i : Int) = a.l[i]'(by rw [a.h]; exact hi) := by
  have hl : i < a.l.length := by rw [a.h]; exact hi
  simp [Arr.get, ix, List.getD_eq_getElem?_getD, List.getElem?_eq_getElem hl]
def u64n (x : Int) : Nat := (x % 18446744073709551616).toNat
theorem u64_wrap (x : Int) : IntKind.u64.wrap x = (u64n x : Int) := by
  unfold u64n IntKind.wrap
  simp only [IntKind.signed, IntKind.bits]
  simp
  omega
theorem u64n_lt (x : Int) : u64n x < 18446744073709551616 := by
  unfold u64n
  omega
theorem u64n_of {x : Int} (h0 : 0 ≤ x) (h1 : x ≤ 18446744073709551615) : u64n x = x.toNat := by
  unfold u64n
  rw [Int.emod_eq_of_lt h0 (by omega)]
theorem olay64 {fu n : Nat} {x : Int} (hn : n ≤ 8) (hf : n < fu) : octet_Lay.f fu (IntKind.u64.wrap x) (n : Int) = some (lay (u64n x) n) := by
  rw [u64_wrap]
  exact olay_eq hn hf
theorem rlay64 {fu n : Nat} {x : Int} (hn : n ≤ 8) (hf : n < fu) : rickyardref01_Lay.f fu (IntKind.u64.wrap x) (n : Int) = some ((lay (u64n x) n).map toB) := by
  rw [u64_wrap]
  exact rlay_eq (u64n_lt x) hn hf
theorem rint_eq {fu : Nat} {l : List Int} (hb : Bytes l) (hl : l.length ≤ 8) (hf : l.length < fu) : rickyardref01_Int.f fu (l.map toB) = some (IntKind.i64.wrap ((num l : Nat) : Int)) := by
  unfold rickyardref01_Int.f
  rw [rnumber_eq hb hl hf]
  rfl
theorem num_small {l : List Int} (hb : Bytes l) (hl : l.length ≤ 7) : IntKind.i64.wrap ((num l : Nat) : Int) = ((num l : Nat) : Int) := by
  have h1 := num_lt hb
  have h2 : (256 : Nat) ^ l.length ≤ 256 ^ 7 := Nat.pow_le_pow_right (by decide) hl
  have h3 : (256 : Nat) ^ 7 = 72057594037927936 := by decide
  exact w64 (by omega) (by omega)
def fieldAt (l : List Int) (w i : Nat) : List Int := (l.drop (w * i)).take w
theorem fieldAt_len {l : List Int} {w i n : Nat} (h : w * n ≤ l.length) (hi : i < n) : (fieldAt l w i).length = w := by
  have : w * (i + 1) ≤ w * n := Nat.mul_le_mul_left w hi
  rw [Nat.mul_succ] at this
  unfold fieldAt
  rw [List.length_take, List.length_drop]
  omega
theorem fieldAt_bytes {l : List Int} (hb : Bytes l) (w i : Nat) : Bytes (fieldAt l w i) := (hb.drop _).take _
theorem cut_eq (l : List Int) (i n : Nat) : cut l (i : Int) ((i + n : Nat) : Int) = (l.drop i).take n := by
  unfold cut
  rw [Int.toNat_natCast, Int.toNat_natCast, List.drop_take]
  congr 1
  omega
theorem flat_len {α : Type} {g : Nat → List α} {w : Nat} (hg : ∀ i, (g i).length = w) : ∀ n, ((List.range n).flatMap g).length = w * n
  | 0 => by simp
  | n + 1 => by
    rw [List.range_succ, List.flatMap_append, List.length_append, flat_len hg n]
    simp [hg, Nat.mul_succ]
theorem flat_succ {α : Type} (g : Nat → List α) (n : Nat) : (List.range (n + 1)).flatMap g = (List.range n).flatMap g ++ g n := by
  rw [List.range_succ, List.flatMap_append]
  simp
theorem field_flat {l : List Int} {w : Nat} : ∀ n, w * n ≤ l.length → (List.range n).flatMap (fieldAt l w) = l.take (w * n)
  | 0, _ => by simp
  | n + 1, h => by
    rw [Nat.mul_succ] at h
    rw [flat_succ, field_flat n (by omega), Nat.mul_succ, List.take_add]
    rfl
theorem flat_congr {α : Type} {g k : Nat → List α} {n : Nat} (h : ∀ i, i < n → g i = k i) : (List.range n).flatMap g = (List.range n).flatMap k := by
  induction n with
  | zero => rfl
  | succ n ih => rw [flat_succ, flat_succ, ih fun i hi => h i (by omega), h n (by omega)]
theorem flat_bytes {g : Nat → List Int} (hg : ∀ i, Bytes (g i)) (n : Nat) : Bytes ((List.range n).flatMap g) := by
  intro x hx
  obtain ⟨i, _, h⟩ := List.mem_flatMap.1 hx
  exact hg i x h
end Go.Proofs.YtdifnahlheogdaaGreat.Pure
namespace Go.Proofs.YtdifnahlheogdaaGreat
open Go Go.Xw Go.Yw
end Go.Proofs.YtdifnahlheogdaaGreat
namespace Go.Proofs.YtdifnahlheogdaaGreat.Pure
open Go Go.Xw Go.Yw
def rowE (l : List Int) (n : Nat) : List Int := (List.range n).flatMap fun (i : Nat) => lay (u64n (ix l (i : Int))) 2
theorem rowE_len (l : List Int) (n : Nat) : (rowE l n).length = 2 * n := flat_len (fun i => lay_len _ _) n
theorem rowE_bytes (l : List Int) (n : Nat) : Bytes (rowE l n) := flat_bytes (fun i => lay_bytes _ _) n
theorem lim_of' {a b : Nat} (h : a + b ≤ 1000) : a + b ≤ LIM := by
  have : (1000 : Nat) ≤ LIM := by decide
  omega
def part (l : List Int) (i n : Nat) : List Int := (l.drop i).take n
theorem part_len {l : List Int} {i n : Nat} (h : i + n ≤ l.length) : (part l i n).length = n := by
  unfold part
  rw [List.length_take, List.length_drop]
  omega
theorem part_bytes {l : List Int} (hb : Bytes l) (i n : Nat) : Bytes (part l i n) := (hb.drop i).take n
def intAt (l : List Int) (i n : Nat) : Int := IntKind.i64.wrap ((num (part l i n) : Nat) : Int)
theorem rintAt_eq {fu : Nat} {b : List Int} {i n : Nat} (hb : Bytes b) (h : i + n ≤ b.length) (hn : n ≤ 8) (hf : 100 < fu) : rickyardref01_Int.f fu (cut (b.map toB) (i : Int) ((i + n : Nat) : Int)) = some (intAt b i n) := by
  have e : cut (b.map toB) (i : Int) ((i + n : Nat) : Int) = (part b i n).map toB := by
    unfold cut part
    rw [Int.toNat_natCast, Int.toNat_natCast, List.drop_take, ← List.map_drop, ← List.map_take]
    congr 2
    omega
  rw [e, rint_eq (part_bytes hb i n) (by rw [part_len h]; exact hn) (by rw [part_len h]; omega)]
  rfl
theorem u64n_i64 {n : Nat} (h : n < 18446744073709551616) : u64n (IntKind.i64.wrap (n : Int)) = n := by
  unfold u64n IntKind.wrap
  simp only [IntKind.signed, IntKind.bits]
  simp
  split <;> omega
theorem lay_part {l : List Int} {i n : Nat} (hb : Bytes l) (h : i + n ≤ l.length) (hn : n ≤ 8) : lay (u64n (intAt l i n)) n = part l i n := by
  have hpl := part_len h
  have hpb := part_bytes hb i n
  unfold intAt
  rw [u64n_i64 (num_lt8 hpb (by omega))]
  have := lay_num hpb
  rwa [hpl] at this
theorem intAt_small {l : List Int} {i n : Nat} (hb : Bytes l) (h : i + n ≤ l.length) (hn : n ≤ 7) : intAt l i n = ((num (part l i n) : Nat) : Int) := num_small (part_bytes hb i n) (by rw [part_len h]; exact hn)
theorem ix_map {f : Nat → Int} {t i : Nat} (h : i < t) : ix ((List.range t).map f) (i : Int) = f i := by
  rw [ix_nat (by simpa using h)]
  simp
end Go.Proofs.YtdifnahlheogdaaGreat.Pure
