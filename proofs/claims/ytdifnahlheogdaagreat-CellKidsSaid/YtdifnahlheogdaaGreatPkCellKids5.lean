/- CellKids: texts merged, part 5 of 8. The last part proves that the law CellKids holds for every input. -/
import Derived.Test.YtdifnahlheogdaaGreatPkCellKids4
import Derived.Shelf.Strings.OnBuilder
import Derived.Shelf.Strconv.Itoa3
import Derived.Test.YtdifnahlheogdaaGreatProg
set_option maxRecDepth 100000
set_option maxHeartbeats 4000000
set_option linter.unusedVariables false
set_option linter.unusedSimpArgs false
namespace Go.Proofs.YtdifnahlheogdaaGreat
open Go Go.Xw Go.Yw
def cell_parse.f (fu : Nat) (a0 : List Int) : Option ((Option S_api_Node) × (Option S_api_Queue) × (Option S_api_Leaf) × (Option S_api_Fan) × (Option S_api_Chart) × (Option S_api_Dir) × (Option S_api_Super) × Bool) := ((block_Kind.f fu a0).bind fun t1 => (if (decide (t1 = 1)) then ((node_Get.f fu a0).bind fun t4 => some ((some t4.1), none, none, none, none, none, none, t4.2)) else (if (decide (t1 = 2)) then ((page_GetLeaf.f fu a0).bind fun t7 => some (none, none, (some t7.1), none, none, none, none, t7.2)) else (if (decide (t1 = 3)) then ((page_GetFan.f fu a0).bind fun t10 => some (none, none, none, (some t10.1), none, none, none, t10.2)) else (if (decide (t1 = 4)) then ((chart_Get.f fu a0).bind fun t13 => some (none, none, none, none, (some t13.1), none, none, t13.2)) else (if (decide (t1 = 5)) then ((label_GetQueue.f fu a0).bind fun t16 => some (none, (some t16.1), none, none, none, none, none, t16.2)) else (if (decide (t1 = 6)) then ((label_GetDir.f fu a0).bind fun t19 => some (none, none, none, none, none, (some t19.1), none, t19.2)) else (if (decide (t1 = 7)) then ((super_Get.f fu a0).bind fun t22 => some (none, none, none, none, none, none, (some t22.1), t22.2)) else some (none, none, none, none, none, none, none, false)))))))))
theorem cell_parse.sc (fu : Nat) (a0 : List Int) (r : (Option S_api_Node) × (Option S_api_Queue) × (Option S_api_Leaf) × (Option S_api_Fan) × (Option S_api_Chart) × (Option S_api_Dir) × (Option S_api_Super) × Bool) (h : cell_parse.f fu a0 = some r) : SC Tryz.prog CT 33 [.v (.sl (.int .u8)) (a0 : List Int)] [] (Option.elim r.1 (Option.elim r.2.1 (Option.elim r.2.2.1 (Option.elim r.2.2.2.1 (Option.elim r.2.2.2.2.1 (Option.elim r.2.2.2.2.2.1 (Option.elim r.2.2.2.2.2.2.1 (.tup [.nili, vb r.2.2.2.2.2.2.2]) (fun o6 => .tup [.ifc 136 (.v (.st .S_api_Super) (o6 : S_api_Super)), vb r.2.2.2.2.2.2.2])) (fun o5 => Option.elim r.2.2.2.2.2.2.1 (.tup [.ifc 134 (.v (.st .S_api_Dir) (o5 : S_api_Dir)), vb r.2.2.2.2.2.2.2]) (fun o6 => .undef))) (fun o4 => Option.elim r.2.2.2.2.2.1 (Option.elim r.2.2.2.2.2.2.1 (.tup [.ifc 128 (.v (.st .S_api_Chart) (o4 : S_api_Chart)), vb r.2.2.2.2.2.2.2]) (fun o6 => .undef)) (fun o5 => .undef))) (fun o3 => Option.elim r.2.2.2.2.1 (Option.elim r.2.2.2.2.2.1 (Option.elim r.2.2.2.2.2.2.1 (.tup [.ifc 126 (.v (.st .S_api_Fan) (o3 : S_api_Fan)), vb r.2.2.2.2.2.2.2]) (fun o6 => .undef)) (fun o5 => .undef)) (fun o4 => .undef))) (fun o2 => Option.elim r.2.2.2.1 (Option.elim r.2.2.2.2.1 (Option.elim r.2.2.2.2.2.1 (Option.elim r.2.2.2.2.2.2.1 (.tup [.ifc 124 (.v (.st .S_api_Leaf) (o2 : S_api_Leaf)), vb r.2.2.2.2.2.2.2]) (fun o6 => .undef)) (fun o5 => .undef)) (fun o4 => .undef)) (fun o3 => .undef))) (fun o1 => Option.elim r.2.2.1 (Option.elim r.2.2.2.1 (Option.elim r.2.2.2.2.1 (Option.elim r.2.2.2.2.2.1 (Option.elim r.2.2.2.2.2.2.1 (.tup [.ifc 98 (.v (.st .S_api_Queue) (o1 : S_api_Queue)), vb r.2.2.2.2.2.2.2]) (fun o6 => .undef)) (fun o5 => .undef)) (fun o4 => .undef)) (fun o3 => .undef)) (fun o2 => .undef))) (fun o0 => Option.elim r.2.1 (Option.elim r.2.2.1 (Option.elim r.2.2.2.1 (Option.elim r.2.2.2.2.1 (Option.elim r.2.2.2.2.2.1 (Option.elim r.2.2.2.2.2.2.1 (.tup [.ifc 95 (.v (.st .S_api_Node) (o0 : S_api_Node)), vb r.2.2.2.2.2.2.2]) (fun o6 => .undef)) (fun o5 => .undef)) (fun o4 => .undef)) (fun o3 => .undef)) (fun o2 => .undef)) (fun o1 => .undef))) (Option.elim r.1 (Option.elim r.2.1 (Option.elim r.2.2.1 (Option.elim r.2.2.2.1 (Option.elim r.2.2.2.2.1 (Option.elim r.2.2.2.2.2.1 (Option.elim r.2.2.2.2.2.2.1 ([]) (fun o6 => [])) (fun o5 => Option.elim r.2.2.2.2.2.2.1 ([]) (fun o6 => []))) (fun o4 => Option.elim r.2.2.2.2.2.1 (Option.elim r.2.2.2.2.2.2.1 ([]) (fun o6 => [])) (fun o5 => []))) (fun o3 => Option.elim r.2.2.2.2.1 (Option.elim r.2.2.2.2.2.1 (Option.elim r.2.2.2.2.2.2.1 ([]) (fun o6 => [])) (fun o5 => [])) (fun o4 => []))) (fun o2 => Option.elim r.2.2.2.1 (Option.elim r.2.2.2.2.1 (Option.elim r.2.2.2.2.2.1 (Option.elim r.2.2.2.2.2.2.1 ([]) (fun o6 => [])) (fun o5 => [])) (fun o4 => [])) (fun o3 => []))) (fun o1 => Option.elim r.2.2.1 (Option.elim r.2.2.2.1 (Option.elim r.2.2.2.2.1 (Option.elim r.2.2.2.2.2.1 (Option.elim r.2.2.2.2.2.2.1 ([]) (fun o6 => [])) (fun o5 => [])) (fun o4 => [])) (fun o3 => [])) (fun o2 => []))) (fun o0 => Option.elim r.2.1 (Option.elim r.2.2.1 (Option.elim r.2.2.2.1 (Option.elim r.2.2.2.2.1 (Option.elim r.2.2.2.2.2.1 (Option.elim r.2.2.2.2.2.2.1 ([]) (fun o6 => [])) (fun o5 => [])) (fun o4 => [])) (fun o3 => [])) (fun o2 => [])) (fun o1 => []))) := by
 unfold cell_parse.f at h
 refine sq Tryz.func33 r (fun r => Option.elim r.1 (Option.elim r.2.1 (Option.elim r.2.2.1 (Option.elim r.2.2.2.1 (Option.elim r.2.2.2.2.1 (Option.elim r.2.2.2.2.2.1 (Option.elim r.2.2.2.2.2.2.1 (.tup [.nili, vb r.2.2.2.2.2.2.2]) (fun o6 => .tup [.ifc 136 (.v (.st .S_api_Super) (o6 : S_api_Super)), vb r.2.2.2.2.2.2.2])) (fun o5 => Option.elim r.2.2.2.2.2.2.1 (.tup [.ifc 134 (.v (.st .S_api_Dir) (o5 : S_api_Dir)), vb r.2.2.2.2.2.2.2]) (fun o6 => .undef))) (fun o4 => Option.elim r.2.2.2.2.2.1 (Option.elim r.2.2.2.2.2.2.1 (.tup [.ifc 128 (.v (.st .S_api_Chart) (o4 : S_api_Chart)), vb r.2.2.2.2.2.2.2]) (fun o6 => .undef)) (fun o5 => .undef))) (fun o3 => Option.elim r.2.2.2.2.1 (Option.elim r.2.2.2.2.2.1 (Option.elim r.2.2.2.2.2.2.1 (.tup [.ifc 126 (.v (.st .S_api_Fan) (o3 : S_api_Fan)), vb r.2.2.2.2.2.2.2]) (fun o6 => .undef)) (fun o5 => .undef)) (fun o4 => .undef))) (fun o2 => Option.elim r.2.2.2.1 (Option.elim r.2.2.2.2.1 (Option.elim r.2.2.2.2.2.1 (Option.elim r.2.2.2.2.2.2.1 (.tup [.ifc 124 (.v (.st .S_api_Leaf) (o2 : S_api_Leaf)), vb r.2.2.2.2.2.2.2]) (fun o6 => .undef)) (fun o5 => .undef)) (fun o4 => .undef)) (fun o3 => .undef))) (fun o1 => Option.elim r.2.2.1 (Option.elim r.2.2.2.1 (Option.elim r.2.2.2.2.1 (Option.elim r.2.2.2.2.2.1 (Option.elim r.2.2.2.2.2.2.1 (.tup [.ifc 98 (.v (.st .S_api_Queue) (o1 : S_api_Queue)), vb r.2.2.2.2.2.2.2]) (fun o6 => .undef)) (fun o5 => .undef)) (fun o4 => .undef)) (fun o3 => .undef)) (fun o2 => .undef))) (fun o0 => Option.elim r.2.1 (Option.elim r.2.2.1 (Option.elim r.2.2.2.1 (Option.elim r.2.2.2.2.1 (Option.elim r.2.2.2.2.2.1 (Option.elim r.2.2.2.2.2.2.1 (.tup [.ifc 95 (.v (.st .S_api_Node) (o0 : S_api_Node)), vb r.2.2.2.2.2.2.2]) (fun o6 => .undef)) (fun o5 => .undef)) (fun o4 => .undef)) (fun o3 => .undef)) (fun o2 => .undef)) (fun o1 => .undef))) (fun r => Option.elim r.1 (Option.elim r.2.1 (Option.elim r.2.2.1 (Option.elim r.2.2.2.1 (Option.elim r.2.2.2.2.1 (Option.elim r.2.2.2.2.2.1 (Option.elim r.2.2.2.2.2.2.1 ([]) (fun o6 => [])) (fun o5 => Option.elim r.2.2.2.2.2.2.1 ([]) (fun o6 => []))) (fun o4 => Option.elim r.2.2.2.2.2.1 (Option.elim r.2.2.2.2.2.2.1 ([]) (fun o6 => [])) (fun o5 => []))) (fun o3 => Option.elim r.2.2.2.2.1 (Option.elim r.2.2.2.2.2.1 (Option.elim r.2.2.2.2.2.2.1 ([]) (fun o6 => [])) (fun o5 => [])) (fun o4 => []))) (fun o2 => Option.elim r.2.2.2.1 (Option.elim r.2.2.2.2.1 (Option.elim r.2.2.2.2.2.1 (Option.elim r.2.2.2.2.2.2.1 ([]) (fun o6 => [])) (fun o5 => [])) (fun o4 => [])) (fun o3 => []))) (fun o1 => Option.elim r.2.2.1 (Option.elim r.2.2.2.1 (Option.elim r.2.2.2.2.1 (Option.elim r.2.2.2.2.2.1 (Option.elim r.2.2.2.2.2.2.1 ([]) (fun o6 => [])) (fun o5 => [])) (fun o4 => [])) (fun o3 => [])) (fun o2 => []))) (fun o0 => Option.elim r.2.1 (Option.elim r.2.2.1 (Option.elim r.2.2.2.1 (Option.elim r.2.2.2.2.1 (Option.elim r.2.2.2.2.2.1 (Option.elim r.2.2.2.2.2.2.1 ([]) (fun o6 => [])) (fun o5 => [])) (fun o4 => [])) (fun o3 => [])) (fun o2 => [])) (fun o1 => []))) fun X => ?_
 refine bk h fun t1 k2 h => ?_
 refine cl4 cok.g (block_Kind.sc fu _ _ k2) (vi .i64 t1) [] 0 ?_
 refine t_cond cok ?_
 refine bi h (fun c3 h => ?_) (fun c3 h => ?_)
 ·skip
  refine bk h fun t4 k5 h => ?_
  refine cl4 cok.g (node_Get.sc fu _ _ k5) (.tup [.v (.st .S_api_Node) (t4.1 : S_api_Node), vb t4.2]) [] 0 ?_
  exact fk h
 refine t_cond cok ?_
 refine bi h (fun c6 h => ?_) (fun c6 h => ?_)
 ·skip
  refine bk h fun t7 k8 h => ?_
  refine cl4 cok.g (page_GetLeaf.sc fu _ _ k8) (.tup [.v (.st .S_api_Leaf) (t7.1 : S_api_Leaf), vb t7.2]) [] 0 ?_
  exact fk h
 refine t_cond cok ?_
 refine bi h (fun c9 h => ?_) (fun c9 h => ?_)
 ·skip
  refine bk h fun t10 k11 h => ?_
  refine cl4 cok.g (page_GetFan.sc fu _ _ k11) (.tup [.v (.st .S_api_Fan) (t10.1 : S_api_Fan), vb t10.2]) [] 0 ?_
  exact fk h
 refine t_cond cok ?_
 refine bi h (fun c12 h => ?_) (fun c12 h => ?_)
 ·skip
  refine bk h fun t13 k14 h => ?_
  refine cl4 cok.g (chart_Get.sc fu _ _ k14) (.tup [.v (.st .S_api_Chart) (t13.1 : S_api_Chart), vb t13.2]) [] 0 ?_
  exact fk h
 refine t_cond cok ?_
 refine bi h (fun c15 h => ?_) (fun c15 h => ?_)
 ·skip
  refine bk h fun t16 k17 h => ?_
  refine cl4 cok.g (label_GetQueue.sc fu _ _ k17) (.tup [.v (.st .S_api_Queue) (t16.1 : S_api_Queue), vb t16.2]) [] 0 ?_
  exact fk h
 refine t_cond cok ?_
 refine bi h (fun c18 h => ?_) (fun c18 h => ?_)
 ·skip
  refine bk h fun t19 k20 h => ?_
  refine cl4 cok.g (label_GetDir.sc fu _ _ k20) (.tup [.v (.st .S_api_Dir) (t19.1 : S_api_Dir), vb t19.2]) [] 0 ?_
  exact fk h
 refine t_cond cok ?_
 refine bi h (fun c21 h => ?_) (fun c21 h => ?_)
 ·skip
  refine bk h fun t22 k23 h => ?_
  refine cl4 cok.g (super_Get.sc fu _ _ k23) (.tup [.v (.st .S_api_Super) (t22.1 : S_api_Super), vb t22.2]) [] 0 ?_
  exact fk h
 exact fk h
theorem cell_parse.scsnnnnnn (fu : Nat) (a0 : List Int) (r : (Option S_api_Node) × (Option S_api_Queue) × (Option S_api_Leaf) × (Option S_api_Fan) × (Option S_api_Chart) × (Option S_api_Dir) × (Option S_api_Super) × Bool) (h : cell_parse.f fu a0 = some r) (o0 : S_api_Node) (q0 : r.1 = some o0) (q1 : r.2.1 = none) (q2 : r.2.2.1 = none) (q3 : r.2.2.2.1 = none) (q4 : r.2.2.2.2.1 = none) (q5 : r.2.2.2.2.2.1 = none) (q6 : r.2.2.2.2.2.2.1 = none) : SC Tryz.prog CT 33 [.v (.sl (.int .u8)) (a0 : List Int)] [] (.tup [.ifc 95 (.v (.st .S_api_Node) (o0 : S_api_Node)), vb r.2.2.2.2.2.2.2]) [] := by
 have k := cell_parse.sc fu a0 r h
 rw [q0, q1, q2, q3, q4, q5, q6] at k
 exact k
theorem cell_parse.scnnsnnnn (fu : Nat) (a0 : List Int) (r : (Option S_api_Node) × (Option S_api_Queue) × (Option S_api_Leaf) × (Option S_api_Fan) × (Option S_api_Chart) × (Option S_api_Dir) × (Option S_api_Super) × Bool) (h : cell_parse.f fu a0 = some r) (q0 : r.1 = none) (q1 : r.2.1 = none) (o2 : S_api_Leaf) (q2 : r.2.2.1 = some o2) (q3 : r.2.2.2.1 = none) (q4 : r.2.2.2.2.1 = none) (q5 : r.2.2.2.2.2.1 = none) (q6 : r.2.2.2.2.2.2.1 = none) : SC Tryz.prog CT 33 [.v (.sl (.int .u8)) (a0 : List Int)] [] (.tup [.ifc 124 (.v (.st .S_api_Leaf) (o2 : S_api_Leaf)), vb r.2.2.2.2.2.2.2]) [] := by
 have k := cell_parse.sc fu a0 r h
 rw [q0, q1, q2, q3, q4, q5, q6] at k
 exact k
theorem cell_parse.scnnnsnnn (fu : Nat) (a0 : List Int) (r : (Option S_api_Node) × (Option S_api_Queue) × (Option S_api_Leaf) × (Option S_api_Fan) × (Option S_api_Chart) × (Option S_api_Dir) × (Option S_api_Super) × Bool) (h : cell_parse.f fu a0 = some r) (q0 : r.1 = none) (q1 : r.2.1 = none) (q2 : r.2.2.1 = none) (o3 : S_api_Fan) (q3 : r.2.2.2.1 = some o3) (q4 : r.2.2.2.2.1 = none) (q5 : r.2.2.2.2.2.1 = none) (q6 : r.2.2.2.2.2.2.1 = none) : SC Tryz.prog CT 33 [.v (.sl (.int .u8)) (a0 : List Int)] [] (.tup [.ifc 126 (.v (.st .S_api_Fan) (o3 : S_api_Fan)), vb r.2.2.2.2.2.2.2]) [] := by
 have k := cell_parse.sc fu a0 r h
 rw [q0, q1, q2, q3, q4, q5, q6] at k
 exact k
theorem cell_parse.scnnnnsnn (fu : Nat) (a0 : List Int) (r : (Option S_api_Node) × (Option S_api_Queue) × (Option S_api_Leaf) × (Option S_api_Fan) × (Option S_api_Chart) × (Option S_api_Dir) × (Option S_api_Super) × Bool) (h : cell_parse.f fu a0 = some r) (q0 : r.1 = none) (q1 : r.2.1 = none) (q2 : r.2.2.1 = none) (q3 : r.2.2.2.1 = none) (o4 : S_api_Chart) (q4 : r.2.2.2.2.1 = some o4) (q5 : r.2.2.2.2.2.1 = none) (q6 : r.2.2.2.2.2.2.1 = none) : SC Tryz.prog CT 33 [.v (.sl (.int .u8)) (a0 : List Int)] [] (.tup [.ifc 128 (.v (.st .S_api_Chart) (o4 : S_api_Chart)), vb r.2.2.2.2.2.2.2]) [] := by
 have k := cell_parse.sc fu a0 r h
 rw [q0, q1, q2, q3, q4, q5, q6] at k
 exact k
theorem cell_parse.scnsnnnnn (fu : Nat) (a0 : List Int) (r : (Option S_api_Node) × (Option S_api_Queue) × (Option S_api_Leaf) × (Option S_api_Fan) × (Option S_api_Chart) × (Option S_api_Dir) × (Option S_api_Super) × Bool) (h : cell_parse.f fu a0 = some r) (q0 : r.1 = none) (o1 : S_api_Queue) (q1 : r.2.1 = some o1) (q2 : r.2.2.1 = none) (q3 : r.2.2.2.1 = none) (q4 : r.2.2.2.2.1 = none) (q5 : r.2.2.2.2.2.1 = none) (q6 : r.2.2.2.2.2.2.1 = none) : SC Tryz.prog CT 33 [.v (.sl (.int .u8)) (a0 : List Int)] [] (.tup [.ifc 98 (.v (.st .S_api_Queue) (o1 : S_api_Queue)), vb r.2.2.2.2.2.2.2]) [] := by
 have k := cell_parse.sc fu a0 r h
 rw [q0, q1, q2, q3, q4, q5, q6] at k
 exact k
theorem cell_parse.scnnnnnsn (fu : Nat) (a0 : List Int) (r : (Option S_api_Node) × (Option S_api_Queue) × (Option S_api_Leaf) × (Option S_api_Fan) × (Option S_api_Chart) × (Option S_api_Dir) × (Option S_api_Super) × Bool) (h : cell_parse.f fu a0 = some r) (q0 : r.1 = none) (q1 : r.2.1 = none) (q2 : r.2.2.1 = none) (q3 : r.2.2.2.1 = none) (q4 : r.2.2.2.2.1 = none) (o5 : S_api_Dir) (q5 : r.2.2.2.2.2.1 = some o5) (q6 : r.2.2.2.2.2.2.1 = none) : SC Tryz.prog CT 33 [.v (.sl (.int .u8)) (a0 : List Int)] [] (.tup [.ifc 134 (.v (.st .S_api_Dir) (o5 : S_api_Dir)), vb r.2.2.2.2.2.2.2]) [] := by
 have k := cell_parse.sc fu a0 r h
 rw [q0, q1, q2, q3, q4, q5, q6] at k
 exact k
theorem cell_parse.scnnnnnns (fu : Nat) (a0 : List Int) (r : (Option S_api_Node) × (Option S_api_Queue) × (Option S_api_Leaf) × (Option S_api_Fan) × (Option S_api_Chart) × (Option S_api_Dir) × (Option S_api_Super) × Bool) (h : cell_parse.f fu a0 = some r) (q0 : r.1 = none) (q1 : r.2.1 = none) (q2 : r.2.2.1 = none) (q3 : r.2.2.2.1 = none) (q4 : r.2.2.2.2.1 = none) (q5 : r.2.2.2.2.2.1 = none) (o6 : S_api_Super) (q6 : r.2.2.2.2.2.2.1 = some o6) : SC Tryz.prog CT 33 [.v (.sl (.int .u8)) (a0 : List Int)] [] (.tup [.ifc 136 (.v (.st .S_api_Super) (o6 : S_api_Super)), vb r.2.2.2.2.2.2.2]) [] := by
 have k := cell_parse.sc fu a0 r h
 rw [q0, q1, q2, q3, q4, q5, q6] at k
 exact k
theorem cell_parse.scnnnnnnn (fu : Nat) (a0 : List Int) (r : (Option S_api_Node) × (Option S_api_Queue) × (Option S_api_Leaf) × (Option S_api_Fan) × (Option S_api_Chart) × (Option S_api_Dir) × (Option S_api_Super) × Bool) (h : cell_parse.f fu a0 = some r) (q0 : r.1 = none) (q1 : r.2.1 = none) (q2 : r.2.2.1 = none) (q3 : r.2.2.2.1 = none) (q4 : r.2.2.2.2.1 = none) (q5 : r.2.2.2.2.2.1 = none) (q6 : r.2.2.2.2.2.2.1 = none) : SC Tryz.prog CT 33 [.v (.sl (.int .u8)) (a0 : List Int)] [] (.tup [.nili, vb r.2.2.2.2.2.2.2]) [] := by
 have k := cell_parse.sc fu a0 r h
 rw [q0, q1, q2, q3, q4, q5, q6] at k
 exact k
theorem label_Trees.gives (x : Int) (W : World) : FnGives Tryz.prog 161 #[] #[.int .i64 x] (.bool (decide (x = 0))) W := by
 show Calls Tryz.prog 161 #[.int .i64 x] W _
 go_enter Tryz.func161, Tryz.ntmps161
 go_wp2
 all_goals (go_ret; exact ⟨by (try simp_all) <;> (try rfl), 0, rfl⟩)
theorem label_Trees.del : DelF Tryz.prog 160 161 fun x => decide (x = 0) := fun blk off cap d w hH hsz hcap => by
 have eg : ∀ args w, (callFunc 161 args).run Tryz.prog w = .ok (.enter 161 args) w := enters_of Tryz.func161 (by kernel_rfl) rfl
 exact AnyE.slices_DeleteFunc Tryz.lDel vI (fun _ => rfl) (fun x => decide (x = 0)) 161 #[] eg 0 Tryz.zeroValue3 blk off cap d w (fun W x _ => label_Trees.gives x W) (fun _ _ _ x _ => label_Trees.gives x _) hH hsz hcap
def label_Trees.f (fu : Nat) (a0 : Arr 12 Int) : Option (List Int) := some (a0.l.filter fun x => !decide (x = 0))
theorem label_Trees.call (l : List Int) (hl : l.length = 12) (w : World) : Calls Tryz.prog 158 #[.agg (l.map vI).toArray] w fun e w' => ∃ g o c, e = .returned (.slice (some ⟨g, o, none⟩) (l.filter fun x => !decide (x = 0)).length c) ∧ (l.filter fun x => !decide (x = 0)).length ≤ c ∧ Gr w w' ∧ w.heap.size ≤ g ∧ g < w'.heap.size ∧ At w' g o ((l.filter fun x => !decide (x = 0)).map vI) := by
 have hD := fun q => del_new (w := w) (l := l) (T := 75) (p := fun x => decide (x = 0)) (q := q)
 have hcon := label_Trees.del w.heap.size 0 12 l.toArray (w.alloc (.cells (l.map vI).toArray 75)) (holds_ints (heap_alloc_new w _) (by rw [List.take_of_length_le (by simp)])) (by simp [hl]) (by simp [hl])
 have hfl : (l.filter fun x => !decide (x = 0)).length ≤ 12 := by rw [← hl]; exact List.length_filter_le _ _
 rw [show l.toArray.size = 12 by simp [hl]] at hcon
 simp only [List.toList_toArray] at hcon
 rw [hl] at hD
 generalize (l.filter fun x => !decide (x = 0)) = m at hcon hD hfl ⊢
 generalize (l.map vI).toArray = cs at hcon hD ⊢
 go_enter Tryz.func158, Tryz.ntmps158
 go_wp2_with (go_at_call 160; refine hcon.mono ?_; rintro e w' ⟨rfl, q, rfl⟩)
 go_ret
 exact ⟨_, _, _, rfl, hfl, (hD q).1, Nat.le_refl _, by simp, (hD q).2⟩
theorem label_Trees.sc (fu : Nat) (a0 : Arr 12 Int) (r : List Int) (h : label_Trees.f fu a0 = some r) : SC Tryz.prog CT 158 [.v (.arr 12 (.int .i64)) (a0 : Arr 12 Int)] [] (.v (.sl (.int .i64)) (r : List Int)) [] := by
 unfold label_Trees.f at h
 cases h
 refine sc_newI (by kernel_rfl) fun β F w us hs hl => ?_
 obtain ⟨u, r, rfl, h1, h2⟩ := hl.cons_inv
 cases h2
 obtain ⟨cs, hc, hp⟩ := h1.v
 have hc := CL.ints_inv hc.arr_inv
 have hp : u = .agg cs.toArray := hp
 subst hp hc
 exact label_Trees.call a0.l a0.h w
def cell_queues_kids.f (fu : Nat) (a0 : S_api_Queue) : Option (List Int) := ((label_Trees.f fu a0.Roots).bind fun t1 => some (t1))
theorem cell_queues_kids.sc (fu : Nat) (a0 : S_api_Queue) (r : (List Int)) (h : cell_queues_kids.f fu a0 = some r) : SC Tryz.prog CT 155 [.v (.st .S_api_Queue) (a0 : S_api_Queue)] [] (.v (.sl (.int .i64)) (r : List Int)) [] := by
 unfold cell_queues_kids.f at h
 refine sq Tryz.func155 r (fun r => .v (.sl (.int .i64)) (r : List Int)) (fun r => []) fun X => ?_
 refine bk h fun t1 k2 h => ?_
 refine cl4 cok.g (label_Trees.sc fu _ _ k2) (.v (.sl (.int .i64)) (t1 : List Int)) [] 1 ?_
 exact fk h
def cell_supers_kids.f (fu : Nat) (a0 : S_api_Super) : Option (List Int) := ((cell_there.f fu [a0.Tickets.Top, a0.Dir]).bind fun t1 => if List.length t1 + List.length a0.Charts ≤ LIM then some ((t1 ++ a0.Charts)) else none)
theorem cell_supers_kids.sc (fu : Nat) (a0 : S_api_Super) (r : (List Int)) (h : cell_supers_kids.f fu a0 = some r) : SC Tryz.prog CT 183 [.v (.st .S_api_Super) (a0 : S_api_Super)] [] (.sl 0 1 []) [.row (.int .i64) 3 (r : List Int)] := by
 unfold cell_supers_kids.f at h
 refine sq Tryz.func183 r (fun r => .sl 0 1 []) (fun r => [.row (.int .i64) 3 (r : List Int)]) fun X => ?_
 refine t_draw cok mo [⟨0, false, [1], [], 0, []⟩, ⟨1, false, [3], [], 0, [0]⟩, ⟨2, false, [4], [], 0, [0, 1]⟩, ⟨3, false, [5], [0], 0, [0, 1, 2]⟩, ⟨4, false, [1], [], 0, []⟩, ⟨5, false, [7], [], 0, [4]⟩, ⟨6, false, [8], [0], 0, [4, 5]⟩, ⟨7, true, [6, 9], [], 1, cl 7⟩, ⟨8, true, [10], [1], 1, cl 8⟩, ⟨9, false, [1], [], 0, []⟩, ⟨10, false, [12], [], 0, [9]⟩, ⟨11, false, [13], [0], 0, [9, 10]⟩, ⟨12, true, [11, 14], [2], 1, cl 12⟩, ⟨13, false, [15], [], 0, cl 13⟩] (by kernel_rfl) ?_
 refine bk h fun t1 k2 h => ?_
 refine cl4 cok.g (cell_there.sc fu _ _ k2) (.sl 2 1 []) [(2, .row (.int .i64) 3 (t1 : List Int))] 3 ?_
 refine ag h fun h => ?_
 exact fk h
def cell_Kids.f (fu : Nat) (a0 : List Int) : Option (List Int) := ((cell_parse.f fu a0).bind fun t1 => (Option.elim t1.1 ((Option.elim t1.2.1 ((Option.elim t1.2.2.1 ((Option.elim t1.2.2.2.1 ((Option.elim t1.2.2.2.2.1 ((Option.elim t1.2.2.2.2.2.1 ((Option.elim t1.2.2.2.2.2.2.1 ((if (!t1.2.2.2.2.2.2.2) then some ([]) else none)) (fun o15 => (if (!t1.2.2.2.2.2.2.2) then some ([]) else ((cell_supers_kids.f fu o15).bind fun t19 => some (t19)))))) (fun o13 => (Option.elim t1.2.2.2.2.2.2.1 ((if (!t1.2.2.2.2.2.2.2) then some ([]) else ((cell_dirs_kids.f fu o13).bind fun t24 => some (t24)))) (fun o21 => none))))) (fun o11 => (Option.elim t1.2.2.2.2.2.1 ((Option.elim t1.2.2.2.2.2.2.1 ((if (!t1.2.2.2.2.2.2.2) then some ([]) else ((cell_charts_kids.f fu o11).bind fun t31 => some (t31)))) (fun o28 => none))) (fun o26 => none))))) (fun o9 => (Option.elim t1.2.2.2.2.1 ((Option.elim t1.2.2.2.2.2.1 ((Option.elim t1.2.2.2.2.2.2.1 ((if (!t1.2.2.2.2.2.2.2) then some ([]) else ((cell_fans_kids.f fu o9).bind fun t40 => some (t40)))) (fun o37 => none))) (fun o35 => none))) (fun o33 => none))))) (fun o7 => (Option.elim t1.2.2.2.1 ((Option.elim t1.2.2.2.2.1 ((Option.elim t1.2.2.2.2.2.1 ((Option.elim t1.2.2.2.2.2.2.1 ((if (!t1.2.2.2.2.2.2.2) then some ([]) else ((cell_leaves_kids.f fu o7).bind fun t51 => some (t51)))) (fun o48 => none))) (fun o46 => none))) (fun o44 => none))) (fun o42 => none))))) (fun o5 => (Option.elim t1.2.2.1 ((Option.elim t1.2.2.2.1 ((Option.elim t1.2.2.2.2.1 ((Option.elim t1.2.2.2.2.2.1 ((Option.elim t1.2.2.2.2.2.2.1 ((if (!t1.2.2.2.2.2.2.2) then some ([]) else ((cell_queues_kids.f fu o5).bind fun t64 => some (t64)))) (fun o61 => none))) (fun o59 => none))) (fun o57 => none))) (fun o55 => none))) (fun o53 => none))))) (fun o3 => (Option.elim t1.2.1 ((Option.elim t1.2.2.1 ((Option.elim t1.2.2.2.1 ((Option.elim t1.2.2.2.2.1 ((Option.elim t1.2.2.2.2.2.1 ((Option.elim t1.2.2.2.2.2.2.1 ((if (!t1.2.2.2.2.2.2.2) then some ([]) else ((cell_nodes_kids.f fu o3).bind fun t79 => some (t79)))) (fun o76 => none))) (fun o74 => none))) (fun o72 => none))) (fun o70 => none))) (fun o68 => none))) (fun o66 => none)))))
theorem cell_Kids.sc (fu : Nat) (a0 : List Int) (r : (List Int)) (h : cell_Kids.f fu a0 = some r) : SC Tryz.prog CT 13 [.v (.sl (.int .u8)) (a0 : List Int)] [] (.v (.sl (.int .i64)) (r : List Int)) [] := by
 unfold cell_Kids.f at h
 refine sq Tryz.func13 r (fun r => .v (.sl (.int .i64)) (r : List Int)) (fun r => []) fun X => ?_
 refine bk h fun t1 k2 h => ?_
 refine oe (x := t1.1) h (fun q4 h => ?_) (fun o3 q4 h => ?_)
 ·skip
  refine oe (x := t1.2.1) h (fun q6 h => ?_) (fun o5 q6 h => ?_)
  ·skip
   refine oe (x := t1.2.2.1) h (fun q8 h => ?_) (fun o7 q8 h => ?_)
   ·skip
    refine oe (x := t1.2.2.2.1) h (fun q10 h => ?_) (fun o9 q10 h => ?_)
    ·skip
     refine oe (x := t1.2.2.2.2.1) h (fun q12 h => ?_) (fun o11 q12 h => ?_)
     ·skip
      refine oe (x := t1.2.2.2.2.2.1) h (fun q14 h => ?_) (fun o13 q14 h => ?_)
      ·skip
       refine oe (x := t1.2.2.2.2.2.2.1) h (fun q16 h => ?_) (fun o15 q16 h => ?_)
       ·skip
        refine cl4 cok.g (cell_parse.scnnnnnnn fu _ _ k2 q4 q6 q8 q10 q12 q14 q16) (.tup [.nili, vb t1.2.2.2.2.2.2.2]) [] 0 ?_
        refine t_cond cok ?_
        refine bi h (fun c17 h => ?_) (fun c17 h => ?_)
        ·skip
         exact fk h
        cases h
       refine cl4 cok.g (cell_parse.scnnnnnns fu _ _ k2 q4 q6 q8 q10 q12 q14 o15 q16) (.tup [.ifc 136 (.v (.st .S_api_Super) (o15 : S_api_Super)), vb t1.2.2.2.2.2.2.2]) [] 0 ?_
       refine t_cond cok ?_
       refine bi h (fun c18 h => ?_) (fun c18 h => ?_)
       ·skip
        exact fk h
       refine civ (f := 183) (meth_ok (by kernel_rfl)) ?_
       refine bk h fun t19 k20 h => ?_
       refine cl4 cok.g (cell_supers_kids.sc fu _ _ k20) (.sl 0 1 []) [(0, .row (.int .i64) 3 (t19 : List Int))] 1 ?_
       exact fk h
      refine oe (x := t1.2.2.2.2.2.2.1) h (fun q22 h => ?_) (fun o21 q22 h => ?_)
      ·skip
       refine cl4 cok.g (cell_parse.scnnnnnsn fu _ _ k2 q4 q6 q8 q10 q12 o13 q14 q22) (.tup [.ifc 134 (.v (.st .S_api_Dir) (o13 : S_api_Dir)), vb t1.2.2.2.2.2.2.2]) [] 0 ?_
       refine t_cond cok ?_
       refine bi h (fun c23 h => ?_) (fun c23 h => ?_)
       ·skip
        exact fk h
       refine civ (f := 179) (meth_ok (by kernel_rfl)) ?_
       refine bk h fun t24 k25 h => ?_
       refine cl4 cok.g (cell_dirs_kids.sc fu _ _ k25) (.sl 0 1 []) [(0, .row (.int .i64) 3 (t24 : List Int))] 1 ?_
       exact fk h
      cases h
     refine oe (x := t1.2.2.2.2.2.1) h (fun q27 h => ?_) (fun o26 q27 h => ?_)
     ·skip
      refine oe (x := t1.2.2.2.2.2.2.1) h (fun q29 h => ?_) (fun o28 q29 h => ?_)
      ·skip
       refine cl4 cok.g (cell_parse.scnnnnsnn fu _ _ k2 q4 q6 q8 q10 o11 q12 q27 q29) (.tup [.ifc 128 (.v (.st .S_api_Chart) (o11 : S_api_Chart)), vb t1.2.2.2.2.2.2.2]) [] 0 ?_
       refine t_cond cok ?_
       refine bi h (fun c30 h => ?_) (fun c30 h => ?_)
       ·skip
        exact fk h
       refine civ (f := 172) (meth_ok (by kernel_rfl)) ?_
       refine bk h fun t31 k32 h => ?_
       refine cl4 cok.g (cell_charts_kids.sc fu _ _ k32) (.sl 0 1 []) [(0, .row (.int .i64) 3 (t31 : List Int))] 1 ?_
       exact fk h
      cases h
     cases h
    refine oe (x := t1.2.2.2.2.1) h (fun q34 h => ?_) (fun o33 q34 h => ?_)
    ·skip
     refine oe (x := t1.2.2.2.2.2.1) h (fun q36 h => ?_) (fun o35 q36 h => ?_)
     ·skip
      refine oe (x := t1.2.2.2.2.2.2.1) h (fun q38 h => ?_) (fun o37 q38 h => ?_)
      ·skip
       refine cl4 cok.g (cell_parse.scnnnsnnn fu _ _ k2 q4 q6 q8 o9 q10 q34 q36 q38) (.tup [.ifc 126 (.v (.st .S_api_Fan) (o9 : S_api_Fan)), vb t1.2.2.2.2.2.2.2]) [] 0 ?_
       refine t_cond cok ?_
       refine bi h (fun c39 h => ?_) (fun c39 h => ?_)
       ·skip
        exact fk h
       refine civ (f := 166) (meth_ok (by kernel_rfl)) ?_
       refine bk h fun t40 k41 h => ?_
       refine cl4 cok.g (cell_fans_kids.sc fu _ _ k41) (.sl 0 1 []) [(0, .row (.int .i64) 3 (t40 : List Int))] 1 ?_
       exact fk h
      cases h
     cases h
    cases h
   refine oe (x := t1.2.2.2.1) h (fun q43 h => ?_) (fun o42 q43 h => ?_)
   ·skip
    refine oe (x := t1.2.2.2.2.1) h (fun q45 h => ?_) (fun o44 q45 h => ?_)
    ·skip
     refine oe (x := t1.2.2.2.2.2.1) h (fun q47 h => ?_) (fun o46 q47 h => ?_)
     ·skip
      refine oe (x := t1.2.2.2.2.2.2.1) h (fun q49 h => ?_) (fun o48 q49 h => ?_)
      ·skip
       refine cl4 cok.g (cell_parse.scnnsnnnn fu _ _ k2 q4 q6 o7 q8 q43 q45 q47 q49) (.tup [.ifc 124 (.v (.st .S_api_Leaf) (o7 : S_api_Leaf)), vb t1.2.2.2.2.2.2.2]) [] 0 ?_
       refine t_cond cok ?_
       refine bi h (fun c50 h => ?_) (fun c50 h => ?_)
       ·skip
        exact fk h
       refine civ (f := 162) (meth_ok (by kernel_rfl)) ?_
       refine bk h fun t51 k52 h => ?_
       refine cl4 cok.g (cell_leaves_kids.sc fu _ _ k52) (.sl 0 1 []) [(0, .row (.int .i64) 3 (t51 : List Int))] 1 ?_
       exact fk h
      cases h
     cases h
    cases h
   cases h
  refine oe (x := t1.2.2.1) h (fun q54 h => ?_) (fun o53 q54 h => ?_)
  ·skip
   refine oe (x := t1.2.2.2.1) h (fun q56 h => ?_) (fun o55 q56 h => ?_)
   ·skip
    refine oe (x := t1.2.2.2.2.1) h (fun q58 h => ?_) (fun o57 q58 h => ?_)
    ·skip
     refine oe (x := t1.2.2.2.2.2.1) h (fun q60 h => ?_) (fun o59 q60 h => ?_)
     ·skip
      refine oe (x := t1.2.2.2.2.2.2.1) h (fun q62 h => ?_) (fun o61 q62 h => ?_)
      ·skip
       refine cl4 cok.g (cell_parse.scnsnnnnn fu _ _ k2 q4 o5 q6 q54 q56 q58 q60 q62) (.tup [.ifc 98 (.v (.st .S_api_Queue) (o5 : S_api_Queue)), vb t1.2.2.2.2.2.2.2]) [] 0 ?_
       refine t_cond cok ?_
       refine bi h (fun c63 h => ?_) (fun c63 h => ?_)
       ·skip
        exact fk h
       refine civ (f := 155) (meth_ok (by kernel_rfl)) ?_
       refine bk h fun t64 k65 h => ?_
       refine cl4 cok.g (cell_queues_kids.sc fu _ _ k65) (.v (.sl (.int .i64)) (t64 : List Int)) [] 0 ?_
       exact fk h
      cases h
     cases h
    cases h
   cases h
  cases h
 refine oe (x := t1.2.1) h (fun q67 h => ?_) (fun o66 q67 h => ?_)
 ·skip
  refine oe (x := t1.2.2.1) h (fun q69 h => ?_) (fun o68 q69 h => ?_)
  ·skip
   refine oe (x := t1.2.2.2.1) h (fun q71 h => ?_) (fun o70 q71 h => ?_)
   ·skip
    refine oe (x := t1.2.2.2.2.1) h (fun q73 h => ?_) (fun o72 q73 h => ?_)
    ·skip
     refine oe (x := t1.2.2.2.2.2.1) h (fun q75 h => ?_) (fun o74 q75 h => ?_)
     ·skip
      refine oe (x := t1.2.2.2.2.2.2.1) h (fun q77 h => ?_) (fun o76 q77 h => ?_)
      ·skip
       refine cl4 cok.g (cell_parse.scsnnnnnn fu _ _ k2 o3 q4 q67 q69 q71 q73 q75 q77) (.tup [.ifc 95 (.v (.st .S_api_Node) (o3 : S_api_Node)), vb t1.2.2.2.2.2.2.2]) [] 0 ?_
       refine t_cond cok ?_
       refine bi h (fun c78 h => ?_) (fun c78 h => ?_)
       ·skip
        exact fk h
       refine civ (f := 129) (meth_ok (by kernel_rfl)) ?_
       refine bk h fun t79 k80 h => ?_
       refine cl4 cok.g (cell_nodes_kids.sc fu _ _ k80) (.sl 0 1 []) [(0, .row (.int .i64) 3 (t79 : List Int))] 1 ?_
       exact fk h
      cases h
     cases h
    cases h
   cases h
  cases h
 cases h
def octet_Lay.s0 (fu : Nat) (a1 : Int) : (Int × Int × (List Int)) → Option (Sum (List Int) (Int × Int × (List Int))) := fun s3 => (if (decide (s3.2.1 < (List.length (List.replicate (Int.toNat a1) (0 : Int)) : Int))) then if 0 ≤ s3.2.1 ∧ s3.2.1 < (List.length s3.2.2 : Int) then some (Sum.inr ((shR .u64 s3.1 8), (IntKind.i64.wrap (s3.2.1 + 1)), (List.set s3.2.2 (Int.toNat s3.2.1) (IntKind.u8.wrap s3.1)))) else none else some (Sum.inl (s3.2.2)))
def octet_Lay.f (fu : Nat) (a0 : Int) (a1 : Int) : Option (List Int) := (if (decide (a1 < 0)) then some ([]) else (if (decide (a1 > 8)) then some ([]) else if 0 ≤ a1 ∧ Int.toNat a1 ≤ LIM then ((loopM (octet_Lay.s0 fu a1) fu (a0, 0, (List.replicate (Int.toNat a1) (0 : Int)))).bind fun e4 => some (e4)) else none))
theorem octet_Lay.sc (fu : Nat) (a0 : Int) (a1 : Int) (r : (List Int)) (h : octet_Lay.f fu a0 a1 = some r) : SC Tryz.prog CT 138 [vi .u64 a0, vi .i64 a1] [] (.sl 0 1 []) [.row (.int .u8) 5 (r : List Int)] := by
 unfold octet_Lay.f at h
 refine sq Tryz.func138 r (fun r => .sl 0 1 []) (fun r => [.row (.int .u8) 5 (r : List Int)]) fun X => ?_
 refine t_reg cok ?_
 refine bi h (fun c1 h => ?_) (fun c1 h => ?_)
 ·skip
  refine t_cond cok ?_
  exact fk h
 refine t_cond cok ?_
 refine bi h (fun c2 h => ?_) (fun c2 h => ?_)
 ·skip
  exact fk h
 refine agL h rfl fun h => ?_
 refine bk h fun e4 l5 h => ?_
 refine t_cutx cok 0 (fun (e4 : (List Int)) => ⟨[(5, .sl 0 1 [])], [.row (.int .u8) 5 (e4 : List Int)]⟩) e4 ?_ ?_
 ·skip
  have h6 := h
  refine t_loop cok (fun (s3 : Int × Int × (List Int)) => ⟨[(0, vi .u64 s3.1), (5, .sl 0 1 []), (16, vi .i64 (List.length (List.replicate (Int.toNat a1) (0 : Int)) : Int)), (17, vi .i64 s3.2.1)], [.row (.int .u8) 5 (s3.2.2 : List Int)]⟩) l5 (by kernel_rfl) (fun s3 x7 h => ?_)
  unfold octet_Lay.s0 at h
  refine t_cond cok ?_
  refine bi h (fun c8 h => ?_) (fun c8 h => ?_)
  ·skip
   refine ag h fun h => ?_
   refine ⟨by decide, ?_⟩
   exact lik h
  exact lpx h fun hy => ek (sj hy)
 exact fk h
def block_Seal.f (fu : Nat) (a0 : Int) (a1 : Int) (a2 : List Int) : Option ((List Int) × Bool) := (if (decide (a0 < 1)) then some ([], false) else (if (decide (a0 ≥ 256)) then some ([], false) else (if (decide (a1 < 0)) then some ([], false) else (if (decide (a1 ≥ 256)) then some ([], false) else (if (decide ((List.length a2 : Int) > 56)) then some ([], false) else if (4 : Int) < (List.length (List.replicate (Int.toNat 64) (0 : Int)) : Int) then if (5 : Int) < (List.length (List.set (List.replicate (Int.toNat 64) (0 : Int)) (Int.toNat 4) (IntKind.u8.wrap a0)) : Int) then if (8 : Int) ≤ (List.length (List.set (List.set (List.replicate (Int.toNat 64) (0 : Int)) (Int.toNat 4) (IntKind.u8.wrap a0)) (Int.toNat 5) (IntKind.u8.wrap a1)) : Int) then if Int.toNat 8 ≤ Int.toNat (List.length (List.set (List.set (List.replicate (Int.toNat 64) (0 : Int)) (Int.toNat 4) (IntKind.u8.wrap a0)) (Int.toNat 5) (IntKind.u8.wrap a1)) : Int) ∧ Int.toNat (List.length (List.set (List.set (List.replicate (Int.toNat 64) (0 : Int)) (Int.toNat 4) (IntKind.u8.wrap a0)) (Int.toNat 5) (IntKind.u8.wrap a1)) : Int) ≤ List.length (List.set (List.set (List.replicate (Int.toNat 64) (0 : Int)) (Int.toNat 4) (IntKind.u8.wrap a0)) (Int.toNat 5) (IntKind.u8.wrap a1)) then if (4 : Int) ≤ (List.length (splL (List.set (List.set (List.replicate (Int.toNat 64) (0 : Int)) (Int.toNat 4) (IntKind.u8.wrap a0)) (Int.toNat 5) (IntKind.u8.wrap a1)) (Int.toNat 8) (List.take (Int.toNat (List.length (List.set (List.set (List.replicate (Int.toNat 64) (0 : Int)) (Int.toNat 4) (IntKind.u8.wrap a0)) (Int.toNat 5) (IntKind.u8.wrap a1)) : Int) - Int.toNat 8) a2)) : Int) then ((crc_Sum.f fu [(cut (splL (List.set (List.set (List.replicate (Int.toNat 64) (0 : Int)) (Int.toNat 4) (IntKind.u8.wrap a0)) (Int.toNat 5) (IntKind.u8.wrap a1)) (Int.toNat 8) (List.take (Int.toNat (List.length (List.set (List.set (List.replicate (Int.toNat 64) (0 : Int)) (Int.toNat 4) (IntKind.u8.wrap a0)) (Int.toNat 5) (IntKind.u8.wrap a1)) : Int) - Int.toNat 8) a2)) 4 (List.length (splL (List.set (List.set (List.replicate (Int.toNat 64) (0 : Int)) (Int.toNat 4) (IntKind.u8.wrap a0)) (Int.toNat 5) (IntKind.u8.wrap a1)) (Int.toNat 8) (List.take (Int.toNat (List.length (List.set (List.set (List.replicate (Int.toNat 64) (0 : Int)) (Int.toNat 4) (IntKind.u8.wrap a0)) (Int.toNat 5) (IntKind.u8.wrap a1)) : Int) - Int.toNat 8) a2)) : Int))]).bind fun t6 => ((octet_Lay.f fu (IntKind.u64.wrap t6) 4).bind fun t8 => some ((splL (splL (List.set (List.set (List.replicate (Int.toNat 64) (0 : Int)) (Int.toNat 4) (IntKind.u8.wrap a0)) (Int.toNat 5) (IntKind.u8.wrap a1)) (Int.toNat 8) (List.take (Int.toNat (List.length (List.set (List.set (List.replicate (Int.toNat 64) (0 : Int)) (Int.toNat 4) (IntKind.u8.wrap a0)) (Int.toNat 5) (IntKind.u8.wrap a1)) : Int) - Int.toNat 8) a2)) 0 (List.take (List.length (splL (List.set (List.set (List.replicate (Int.toNat 64) (0 : Int)) (Int.toNat 4) (IntKind.u8.wrap a0)) (Int.toNat 5) (IntKind.u8.wrap a1)) (Int.toNat 8) (List.take (Int.toNat (List.length (List.set (List.set (List.replicate (Int.toNat 64) (0 : Int)) (Int.toNat 4) (IntKind.u8.wrap a0)) (Int.toNat 5) (IntKind.u8.wrap a1)) : Int) - Int.toNat 8) a2))) t8)), true))) else none else none else none else none else none)))))
theorem block_Seal.sc (fu : Nat) (a0 : Int) (a1 : Int) (a2 : List Int) (r : (List Int) × Bool) (h : block_Seal.f fu a0 a1 a2 = some r) : SC Tryz.prog CT 139 [vi .i64 a0, vi .i64 a1, .v (.sl (.int .u8)) (a2 : List Int)] [] (.tup [.sl 0 1 [], vb r.2]) [.row (.int .u8) 5 (r.1 : List Int)] := by
 unfold block_Seal.f at h
 refine sq Tryz.func139 r (fun r => .tup [.sl 0 1 [], vb r.2]) (fun r => [.row (.int .u8) 5 (r.1 : List Int)]) fun X => ?_
 refine t_reg cok ?_
 refine bi h (fun c1 h => ?_) (fun c1 h => ?_)
 ·skip
  refine t_cond cok ?_
  exact fk h
 refine bi h (fun c2 h => ?_) (fun c2 h => ?_)
 ·skip
  refine t_cond cok ?_
  exact fk h
 refine bi h (fun c3 h => ?_) (fun c3 h => ?_)
 ·skip
  refine t_cond cok ?_
  exact fk h
 refine bi h (fun c4 h => ?_) (fun c4 h => ?_)
 ·skip
  refine t_cond cok ?_
  exact fk h
 refine t_cond cok ?_
 refine bi h (fun c5 h => ?_) (fun c5 h => ?_)
 ·skip
  exact fk h
 refine ⟨by decide, ?_⟩
 refine agL h (by decide) fun h => ?_
 refine agL h (by decide) fun h => ?_
 refine agL h (by decide) fun h => ?_
 refine ag h fun h => ?_
 refine agL h (by decide) fun h => ?_
 refine bk h fun t6 k7 h => ?_
 refine cl4 cok.g (crc_Sum.sc fu _ _ k7) (vi .u32 t6) [] 2 ?_
 refine bk h fun t8 k9 h => ?_
 refine cl4 cok.g (octet_Lay.sc fu _ _ _ k9) (.sl 2 1 []) [(2, .row (.int .u8) 5 (t8 : List Int))] 3 ?_
 exact fk h
def chart_right.f (fu : Nat) (a0 : S_api_Chart) : Option Bool := (if (decide (a0.Place ≥ 0)) then some ((decide (a0.Place < 8))) else some (false))
theorem chart_right.sc (fu : Nat) (a0 : S_api_Chart) (r : Bool) (h : chart_right.f fu a0 = some r) : SC Tryz.prog CT 177 [.v (.st .S_api_Chart) (a0 : S_api_Chart)] [] (vb r) [] := by
 unfold chart_right.f at h
 refine sq Tryz.func177 r (fun r => vb r) (fun r => []) fun X => ?_
 refine t_reg cok ?_
 refine bi h (fun c1 h => ?_) (fun c1 h => ?_)
 ·skip
  exact fk h
 exact fk h
def chart_Put.f (fu : Nat) (a0 : S_api_Chart) : Option ((List Int) × Bool) := ((chart_right.f fu a0).bind fun t1 => (if (!t1) then some ([], false) else ((block_Seal.f fu 4 a0.Place (Arr.l a0.Bits)).bind fun t4 => some (t4.1, t4.2))))
theorem chart_Put.sc (fu : Nat) (a0 : S_api_Chart) (r : (List Int) × Bool) (h : chart_Put.f fu a0 = some r) : SC Tryz.prog CT 175 [.v (.st .S_api_Chart) (a0 : S_api_Chart)] [] (.tup [.sl 0 1 [], vb r.2]) [.row (.int .u8) 5 (r.1 : List Int)] := by
 unfold chart_Put.f at h
 refine sq Tryz.func175 r (fun r => .tup [.sl 0 1 [], vb r.2]) (fun r => [.row (.int .u8) 5 (r.1 : List Int)]) fun X => ?_
 refine bk h fun t1 k2 h => ?_
 refine cl4 cok.g (chart_right.sc fu _ _ k2) (vb t1) [] 1 ?_
 refine t_cond cok ?_
 refine bi h (fun c3 h => ?_) (fun c3 h => ?_)
 ·skip
  exact fk h
 refine t_draw cok mo [⟨0, false, [1], [], 0, []⟩, ⟨1, false, [7], [0], 0, [0]⟩, ⟨2, false, [1], [], 0, []⟩, ⟨3, false, [9], [], 0, [2]⟩, ⟨4, true, [8, 10], [0], 1, cl 4⟩, ⟨5, false, [11], [], 0, cl 5⟩, ⟨6, false, [11], [], 0, cl 5⟩, ⟨7, false, [12], [], 0, cl 7⟩, ⟨8, false, [13], [], 0, cl 8⟩] (by kernel_rfl) ?_
 refine bk h fun t4 k5 h => ?_
 refine cl4 cok.g (block_Seal.sc fu _ _ _ _ k5) (.tup [.sl 1 1 [], vb t4.2]) [(1, .row (.int .u8) 5 (t4.1 : List Int))] 2 ?_
 exact fk h
def cell_charts_turned_cell_Turn_1.f (fu : Nat) (a0 : S_api_Chart) (a1c0 : Int) (a1c1 : Int) : Option ((List Int) × Bool) := ((chart_Put.f fu a0).bind fun t1 => some (t1.1, t1.2))
theorem cell_charts_turned_cell_Turn_1.sc (fu : Nat) (a0 : S_api_Chart) (a1c0 : Int) (a1c1 : Int) (r : (List Int) × Bool) (h : cell_charts_turned_cell_Turn_1.f fu a0 a1c0 a1c1 = some r) : SC Tryz.prog CT 173 [.v (.st .S_api_Chart) (a0 : S_api_Chart), .fn 39 [.ptr 0 0, .ptr 1 0]] [.box 3 (vi .i64 a1c0), .box 3 (vi .i64 a1c1)] (.tup [.sl 2 1 [], vb r.2]) [.box 3 (vi .i64 a1c0), .box 3 (vi .i64 a1c1), .row (.int .u8) 5 (r.1 : List Int)] := by
 unfold cell_charts_turned_cell_Turn_1.f at h
 refine sq Tryz.func173 r (fun r => .tup [.sl 2 1 [], vb r.2]) (fun r => [.box 3 (vi .i64 a1c0), .box 3 (vi .i64 a1c1), .row (.int .u8) 5 (r.1 : List Int)]) fun X => ?_
 refine bk h fun t1 k2 h => ?_
 refine cl4 cok.g (chart_Put.sc fu _ _ k2) (.tup [.sl 3 1 [], vb t1.2]) [(3, .row (.int .u8) 5 (t1.1 : List Int))] 4 ?_
 exact fk h
def cell_Turn_1_v1_v2.f (fu : Nat) (a0 : Int) (a1 : Int) (a2 : Int) : Option Int := (if (decide (a0 = a1)) then some (a2) else some (a0))
theorem cell_Turn_1_v1_v2.sc (fu : Nat) (a0 : Int) (a1 : Int) (a2 : Int) (r : Int) (h : cell_Turn_1_v1_v2.f fu a0 a1 a2 = some r) : SC Tryz.prog CT 39 [vi .i64 a0, .ptr 0 0, .ptr 1 0] [.box 3 (vi .i64 a1), .box 3 (vi .i64 a2)] (vi .i64 r) [.box 3 (vi .i64 a1), .box 3 (vi .i64 a2)] := by
 unfold cell_Turn_1_v1_v2.f at h
 refine sq Tryz.func39 r (fun r => vi .i64 r) (fun r => [.box 3 (vi .i64 a1), .box 3 (vi .i64 a2)]) fun X => ?_
 refine t_cond cok ?_
 refine bi h (fun c1 h => ?_) (fun c1 h => ?_)
 ·skip
  exact fk h
 exact fk h
def cell_each_cell_Turn_1.s0 (fu : Nat) (a1c0 : Int) (a1c1 : Int) (t1 : List Int) : (Int × (List Int)) → Option (Sum (List Int) (Int × (List Int))) := fun s3 => (if (decide (s3.1 < (List.length t1 : Int))) then if 0 ≤ s3.1 ∧ s3.1 < (List.length s3.2 : Int) then ((cell_Turn_1_v1_v2.f fu (ix s3.2 s3.1) a1c0 a1c1).bind fun t9 => if 0 ≤ s3.1 ∧ s3.1 < (List.length s3.2 : Int) then some (Sum.inr ((IntKind.i64.wrap (s3.1 + 1)), (List.set s3.2 (Int.toNat s3.1) t9))) else none) else none else some (Sum.inl (s3.2)))
def cell_each_cell_Turn_1.f (fu : Nat) (a0 : List Int) (a1c0 : Int) (a1c1 : Int) : Option (List Int) := ((slices_Clone.f fu a0).bind fun t1 => ((loopM (cell_each_cell_Turn_1.s0 fu a1c0 a1c1 t1) fu (0, t1)).bind fun e4 => some (e4)))
theorem cell_each_cell_Turn_1.sc (fu : Nat) (a0 : List Int) (a1c0 : Int) (a1c1 : Int) (r : (List Int)) (h : cell_each_cell_Turn_1.f fu a0 a1c0 a1c1 = some r) : SC Tryz.prog CT 133 [.v (.sl (.int .i64)) (a0 : List Int), .fn 39 [.ptr 0 0, .ptr 1 0]] [.box 3 (vi .i64 a1c0), .box 3 (vi .i64 a1c1)] (.sl 2 1 []) [.box 3 (vi .i64 a1c0), .box 3 (vi .i64 a1c1), .row (.int .i64) 3 (r : List Int)] := by
 unfold cell_each_cell_Turn_1.f at h
 refine sq Tryz.func133 r (fun r => .sl 2 1 []) (fun r => [.box 3 (vi .i64 a1c0), .box 3 (vi .i64 a1c1), .row (.int .i64) 3 (r : List Int)]) fun X => ?_
 refine bk h fun t1 k2 h => ?_
 refine cl4 cok.g (slices_Clone.sc fu _ _ k2) (.sl 2 1 []) [(2, .row (.int .i64) 3 (t1 : List Int))] 3 ?_
 refine bk h fun e4 l5 h => ?_
 refine t_cutx cok 0 (fun (e4 : (List Int)) => ⟨[(5, .sl 2 1 [])], [.box 3 (vi .i64 a1c0), .box 3 (vi .i64 a1c1), .row (.int .i64) 3 (e4 : List Int)]⟩) e4 ?_ ?_
 ·skip
  have h6 := h
  refine t_loop cok (fun (s3 : Int × (List Int)) => ⟨[(1, .fn 39 [.ptr 0 0, .ptr 1 0]), (5, .sl 2 1 []), (10, .sl 2 1 []), (11, vi .i64 (List.length t1 : Int)), (12, vi .i64 s3.1)], [.box 3 (vi .i64 a1c0), .box 3 (vi .i64 a1c1), .row (.int .i64) 3 (s3.2 : List Int)]⟩) l5 (by kernel_rfl) (fun s3 x7 h => ?_)
  unfold cell_each_cell_Turn_1.s0 at h
  refine t_cond cok ?_
  refine bi h (fun c8 h => ?_) (fun c8 h => ?_)
  ·skip
   refine ag h fun h => ?_
   refine bk h fun t9 k10 h => ?_
   refine cl4 cok.g (cell_Turn_1_v1_v2.sc fu _ _ _ _ k10) (vi .i64 t9) [(0, .box 3 (vi .i64 a1c0)), (1, .box 3 (vi .i64 a1c1))] 5 ?_
   refine ag h fun h => ?_
   exact lik h
  exact lpx h fun hy => ek (sj hy)
 exact fk h
def label_PutDir.s0 (fu : Nat) (a0 : S_api_Dir) : ((List Int) × Int) → Option (Sum (List Int) ((List Int) × Int)) := fun s4 => (if (decide (s4.2 < (List.length a0.Queues : Int))) then if 0 ≤ s4.2 ∧ s4.2 < (List.length a0.Queues : Int) then ((octet_Lay.f fu (IntKind.u64.wrap (ix a0.Queues s4.2)) 2).bind fun t10 => if List.length s4.1 + List.length t10 ≤ LIM then some (Sum.inr ((s4.1 ++ t10), (IntKind.i64.wrap (s4.2 + 1)))) else none) else none else some (Sum.inl (s4.1)))
def label_PutDir.f (fu : Nat) (a0 : S_api_Dir) : Option ((List Int) × Bool) := ((label_RightDir.f fu a0).bind fun t1 => (if (!t1) then some ([], false) else ((loopM (label_PutDir.s0 fu a0) fu (([] : List Int), 0)).bind fun e5 => ((block_Seal.f fu 6 (List.length a0.Queues : Int) e5).bind fun t12 => some (t12.1, t12.2)))))
theorem label_PutDir.sc (fu : Nat) (a0 : S_api_Dir) (r : (List Int) × Bool) (h : label_PutDir.f fu a0 = some r) : SC Tryz.prog CT 182 [.v (.st .S_api_Dir) (a0 : S_api_Dir)] [] (.tup [.sl 0 1 [], vb r.2]) [.row (.int .u8) 5 (r.1 : List Int)] := by
 unfold label_PutDir.f at h
 refine sq Tryz.func182 r (fun r => .tup [.sl 0 1 [], vb r.2]) (fun r => [.row (.int .u8) 5 (r.1 : List Int)]) fun X => ?_
 refine bk h fun t1 k2 h => ?_
 refine cl4 cok.g (label_RightDir.sc fu _ _ k2) (vb t1) [] 1 ?_
 refine t_cond cok ?_
 refine bi h (fun c3 h => ?_) (fun c3 h => ?_)
 ·skip
  exact fk h
 refine bk h fun e5 l6 h => ?_
 refine t_cutx cok 0 (fun (e5 : (List Int)) => ⟨[(1, .ptr 0 0), (4, .sl 1 1 [])], [.box 130 (.v (.st .S_api_Dir) (a0 : S_api_Dir)), .row (.int .u8) 5 (e5 : List Int)]⟩) e5 ?_ ?_
 ·skip
  have h7 := h
  refine t_loop cok (fun (s4 : (List Int) × Int) => ⟨[(1, .ptr 0 0), (4, .sl 1 1 []), (11, .v (.sl (.int .i64)) (a0.Queues : List Int)), (12, vi .i64 (List.length a0.Queues : Int)), (13, vi .i64 s4.2)], [.box 130 (.v (.st .S_api_Dir) (a0 : S_api_Dir)), .row (.int .u8) 5 (s4.1 : List Int)]⟩) l6 (by kernel_rfl) (fun s4 x8 h => ?_)
  unfold label_PutDir.s0 at h
  refine t_cond cok ?_
  refine bi h (fun c9 h => ?_) (fun c9 h => ?_)
  ·skip
   refine ag h fun h => ?_
   refine bk h fun t10 k11 h => ?_
   refine cl4 cok.g (octet_Lay.sc fu _ _ _ k11) (.sl 2 1 []) [(2, .row (.int .u8) 5 (t10 : List Int))] 3 ?_
   refine ag h fun h => ?_
   exact lik h
  exact lpx h fun hy => ek (sj hy)
 refine bk h fun t12 k13 h => ?_
 refine cl4 cok.g (block_Seal.sc fu _ _ _ _ k13) (.tup [.sl 2 1 [], vb t12.2]) [(2, .row (.int .u8) 5 (t12.1 : List Int))] 3 ?_
 exact fk h
def cell_dirs_turned_cell_Turn_1.f (fu : Nat) (a0 : S_api_Dir) (a1c0 : Int) (a1c1 : Int) : Option ((List Int) × Bool) := ((cell_each_cell_Turn_1.f fu a0.Queues a1c0 a1c1).bind fun t1 => ((label_PutDir.f fu (⟨t1⟩ : S_api_Dir)).bind fun t3 => some (t3.1, t3.2)))
theorem cell_dirs_turned_cell_Turn_1.sc (fu : Nat) (a0 : S_api_Dir) (a1c0 : Int) (a1c1 : Int) (r : (List Int) × Bool) (h : cell_dirs_turned_cell_Turn_1.f fu a0 a1c0 a1c1 = some r) : SC Tryz.prog CT 180 [.v (.st .S_api_Dir) (a0 : S_api_Dir), .fn 39 [.ptr 0 0, .ptr 1 0]] [.box 3 (vi .i64 a1c0), .box 3 (vi .i64 a1c1)] (.tup [.sl 2 1 [], vb r.2]) [.box 3 (vi .i64 a1c0), .box 3 (vi .i64 a1c1), .row (.int .u8) 5 (r.1 : List Int)] := by
 unfold cell_dirs_turned_cell_Turn_1.f at h
 refine sq Tryz.func180 r (fun r => .tup [.sl 2 1 [], vb r.2]) (fun r => [.box 3 (vi .i64 a1c0), .box 3 (vi .i64 a1c1), .row (.int .u8) 5 (r.1 : List Int)]) fun X => ?_
 refine bk h fun t1 k2 h => ?_
 refine cl4 cok.g (cell_each_cell_Turn_1.sc fu _ _ _ _ k2) (.sl 5 1 []) [(0, .box 3 (vi .i64 a1c0)), (1, .box 3 (vi .i64 a1c1)), (5, .row (.int .i64) 3 (t1 : List Int))] 6 ?_
 refine bk h fun t3 k4 h => ?_
 refine cl4 cok.g (label_PutDir.sc fu _ _ k4) (.tup [.sl 6 1 [], vb t3.2]) [(6, .row (.int .u8) 5 (t3.1 : List Int))] 7 ?_
 exact fk h
def page_PutFan.s0 (fu : Nat) (a0 : S_api_Fan) : ((List Int) × Int) → Option (Sum (List Int) ((List Int) × Int)) := fun s4 => (if (decide (s4.2 < 16)) then if 0 ≤ s4.2 ∧ s4.2 < 16 then ((octet_Lay.f fu (IntKind.u64.wrap (Arr.get a0.Kids s4.2)) 2).bind fun t10 => if List.length s4.1 + List.length t10 ≤ LIM then some (Sum.inr ((s4.1 ++ t10), (IntKind.i64.wrap (s4.2 + 1)))) else none) else none else some (Sum.inl (s4.1)))
def page_PutFan.f (fu : Nat) (a0 : S_api_Fan) : Option ((List Int) × Bool) := ((page_rightFan.f fu a0).bind fun t1 => (if (!t1) then some ([], false) else ((loopM (page_PutFan.s0 fu a0) fu (([] : List Int), 0)).bind fun e5 => ((block_Seal.f fu 3 0 e5).bind fun t12 => some (t12.1, t12.2)))))
theorem page_PutFan.sc (fu : Nat) (a0 : S_api_Fan) (r : (List Int) × Bool) (h : page_PutFan.f fu a0 = some r) : SC Tryz.prog CT 170 [.v (.st .S_api_Fan) (a0 : S_api_Fan)] [] (.tup [.sl 0 1 [], vb r.2]) [.row (.int .u8) 5 (r.1 : List Int)] := by
 unfold page_PutFan.f at h
 refine sq Tryz.func170 r (fun r => .tup [.sl 0 1 [], vb r.2]) (fun r => [.row (.int .u8) 5 (r.1 : List Int)]) fun X => ?_
 refine bk h fun t1 k2 h => ?_
 refine cl4 cok.g (page_rightFan.sc fu _ _ k2) (vb t1) [] 1 ?_
 refine t_cond cok ?_
 refine bi h (fun c3 h => ?_) (fun c3 h => ?_)
 ·skip
  exact fk h
 refine bk h fun e5 l6 h => ?_
 refine t_cutx cok 0 (fun (e5 : (List Int)) => ⟨[(4, .sl 0 1 [])], [.row (.int .u8) 5 (e5 : List Int)]⟩) e5 ?_ ?_
 ·skip
  have h7 := h
  refine t_loop cok (fun (s4 : (List Int) × Int) => ⟨[(4, .sl 0 1 []), (11, .v (.arr 16 (.int .i64)) (a0.Kids : Arr 16 Int)), (12, vi .i64 s4.2)], [.row (.int .u8) 5 (s4.1 : List Int)]⟩) l6 (by kernel_rfl) (fun s4 x8 h => ?_)
  unfold page_PutFan.s0 at h
  refine t_cond cok ?_
  refine bi h (fun c9 h => ?_) (fun c9 h => ?_)
  ·skip
   refine ag h fun h => ?_
   refine bk h fun t10 k11 h => ?_
   refine cl4 cok.g (octet_Lay.sc fu _ _ _ k11) (.sl 1 1 []) [(1, .row (.int .u8) 5 (t10 : List Int))] 2 ?_
   refine ag h fun h => ?_
   exact lik h
  exact lpx h fun hy => ek (sj hy)
 refine bk h fun t12 k13 h => ?_
 refine cl4 cok.g (block_Seal.sc fu _ _ _ _ k13) (.tup [.sl 1 1 [], vb t12.2]) [(1, .row (.int .u8) 5 (t12.1 : List Int))] 2 ?_
 exact fk h
def cell_fans_turned_cell_Turn_1.s0 (fu : Nat) (a0 : S_api_Fan) (a1c0 : Int) (a1c1 : Int) : (Int × S_api_Fan) → Option (Sum S_api_Fan (Int × S_api_Fan)) := fun s1 => (if (decide (s1.1 < 16)) then if 0 ≤ s1.1 ∧ s1.1 < 16 then (((if (!decide ((Arr.get a0.Kids s1.1) = 0)) then ((cell_Turn_1_v1_v2.f fu (Arr.get a0.Kids s1.1) a1c0 a1c1).bind fun t11 => if 0 ≤ s1.1 ∧ s1.1 < 16 then some ((⟨(Arr.set s1.2.Kids s1.1 t11)⟩ : S_api_Fan)) else none) else some (s1.2)) : Option S_api_Fan).bind fun x7 => some (Sum.inr ((IntKind.i64.wrap (s1.1 + 1)), x7))) else none else some (Sum.inl (s1.2)))
def cell_fans_turned_cell_Turn_1.f (fu : Nat) (a0 : S_api_Fan) (a1c0 : Int) (a1c1 : Int) : Option ((List Int) × Bool) := ((loopM (cell_fans_turned_cell_Turn_1.s0 fu a0 a1c0 a1c1) fu (0, a0)).bind fun e2 => ((page_PutFan.f fu e2).bind fun t13 => some (t13.1, t13.2)))
theorem cell_fans_turned_cell_Turn_1.sc (fu : Nat) (a0 : S_api_Fan) (a1c0 : Int) (a1c1 : Int) (r : (List Int) × Bool) (h : cell_fans_turned_cell_Turn_1.f fu a0 a1c0 a1c1 = some r) : SC Tryz.prog CT 167 [.v (.st .S_api_Fan) (a0 : S_api_Fan), .fn 39 [.ptr 0 0, .ptr 1 0]] [.box 3 (vi .i64 a1c0), .box 3 (vi .i64 a1c1)] (.tup [.sl 2 1 [], vb r.2]) [.box 3 (vi .i64 a1c0), .box 3 (vi .i64 a1c1), .row (.int .u8) 5 (r.1 : List Int)] := by
 unfold cell_fans_turned_cell_Turn_1.f at h
 refine sq Tryz.func167 r (fun r => .tup [.sl 2 1 [], vb r.2]) (fun r => [.box 3 (vi .i64 a1c0), .box 3 (vi .i64 a1c1), .row (.int .u8) 5 (r.1 : List Int)]) fun X => ?_
 refine bk h fun e2 l3 h => ?_
 refine t_cutx cok 0 (fun (e2 : S_api_Fan) => ⟨[(2, .ptr 2 0)], [.box 3 (vi .i64 a1c0), .box 3 (vi .i64 a1c1), .box 126 (.v (.st .S_api_Fan) (e2 : S_api_Fan))]⟩) e2 ?_ ?_
 ·skip
  have h4 := h
  refine t_loop cok (fun (s1 : Int × S_api_Fan) => ⟨[(1, .fn 39 [.ptr 0 0, .ptr 1 0]), (2, .ptr 2 0), (10, .v (.arr 16 (.int .i64)) (a0.Kids : Arr 16 Int)), (11, vi .i64 s1.1)], [.box 3 (vi .i64 a1c0), .box 3 (vi .i64 a1c1), .box 126 (.v (.st .S_api_Fan) (s1.2 : S_api_Fan))]⟩) l3 (by kernel_rfl) (fun s1 x5 h => ?_)
  unfold cell_fans_turned_cell_Turn_1.s0 at h
  refine t_cond cok ?_
  refine bi h (fun c6 h => ?_) (fun c6 h => ?_)
  ·skip
   refine ag h fun h => ?_
   refine bk h fun x7 j8 h => ?_
   refine t_cut cok (fun (x7 : S_api_Fan) => ⟨[(1, .fn 39 [.ptr 0 0, .ptr 1 0]), (2, .ptr 2 0), (10, .v (.arr 16 (.int .i64)) (a0.Kids : Arr 16 Int)), (11, vi .i64 s1.1)], [.box 3 (vi .i64 a1c0), .box 3 (vi .i64 a1c1), .box 126 (.v (.st .S_api_Fan) (x7 : S_api_Fan))]⟩) x7 ?_ ?_
   ·skip
    have h9 := h
    have h := j8
    refine t_cond cok ?_
    refine bi h (fun c10 h => ?_) (fun c10 h => ?_)
    ·skip
     refine bk h fun t11 k12 h => ?_
     refine cl4 cok.g (cell_Turn_1_v1_v2.sc fu _ _ _ _ k12) (vi .i64 t11) [(0, .box 3 (vi .i64 a1c0)), (1, .box 3 (vi .i64 a1c1))] 5 ?_
     refine ag h fun h => ?_
     exact ek h
    exact ek h
   exact lik h
  exact lpx h fun hy => ek (sj hy)
 refine bk h fun t13 k14 h => ?_
 refine cl4 cok.g (page_PutFan.sc fu _ _ k14) (.tup [.sl 3 1 [], vb t13.2]) [(3, .row (.int .u8) 5 (t13.1 : List Int))] 4 ?_
 exact fk h
def page_PutLeaf.s0 (fu : Nat) (a0 : S_api_Leaf) : ((List Int) × Int × Int) → Option (Sum (Sum ((List Int) × Bool) ((List Int) × Int)) ((List Int) × Int × Int)) := fun s1 => (if (decide (s1.2.2 < 7)) then if 0 ≤ s1.2.2 ∧ s1.2.2 < 7 then ((page_RightSeat.f fu (Arr.get a0.Seats s1.2.2)).bind fun t8 => (if (!t8) then some (Sum.inl (Sum.inl ([], false))) else (((if (Arr.get a0.Seats s1.2.2).Live then if 0 ≤ s1.2.2 then some ((bOr .i64 s1.2.1 (shL .i64 1 s1.2.2))) else none else some (s1.2.1)) : Option Int).bind fun x11 => ((octet_Lay.f fu (IntKind.u64.wrap ((Arr.get a0.Seats s1.2.2).Gen)) 4).bind fun t15 => if List.length s1.1 + List.length t15 ≤ LIM then ((octet_Lay.f fu (IntKind.u64.wrap ((Arr.get a0.Seats s1.2.2).Next)) 4).bind fun t17 => if List.length (s1.1 ++ t15) + List.length t17 ≤ LIM then some (Sum.inr (((s1.1 ++ t15) ++ t17), x11, (IntKind.i64.wrap (s1.2.2 + 1)))) else none) else none)))) else none else some (Sum.inl (Sum.inr (s1.1, s1.2.1))))
def page_PutLeaf.f (fu : Nat) (a0 : S_api_Leaf) : Option ((List Int) × Bool) := ((loopM (page_PutLeaf.s0 fu a0) fu (([] : List Int), 0, 0)).bind fun e2 => match e2 with | Sum.inl p => some p | Sum.inr x4 => ((block_Seal.f fu 2 x4.2 x4.1).bind fun t19 => some (t19.1, t19.2)))
theorem page_PutLeaf.sc (fu : Nat) (a0 : S_api_Leaf) (r : (List Int) × Bool) (h : page_PutLeaf.f fu a0 = some r) : SC Tryz.prog CT 165 [.v (.st .S_api_Leaf) (a0 : S_api_Leaf)] [] (.tup [.sl 0 1 [], vb r.2]) [.row (.int .u8) 5 (r.1 : List Int)] := by
 unfold page_PutLeaf.f at h
 refine sq Tryz.func165 r (fun r => .tup [.sl 0 1 [], vb r.2]) (fun r => [.row (.int .u8) 5 (r.1 : List Int)]) fun X => ?_
 refine bk h fun e2 l3 h => ?_
 refine t_cutxS cok 0 (fun (x4 : (List Int) × Int) => ⟨[(4, .sl 0 1 []), (5, vi .i64 x4.2)], [.row (.int .u8) 5 (x4.1 : List Int)]⟩) e2 ?_ (fun x4 hy => ?_)
 ·skip
  have h5 := h
  refine t_loop cok (fun (s1 : (List Int) × Int × Int) => ⟨[(4, .sl 0 1 []), (5, vi .i64 s1.2.1), (9, .v (.arr 7 (.st .S_api_Seat)) (a0.Seats : Arr 7 S_api_Seat)), (10, vi .i64 s1.2.2)], [.row (.int .u8) 5 (s1.1 : List Int)]⟩) l3 (by kernel_rfl) (fun s1 x6 h => ?_)
  unfold page_PutLeaf.s0 at h
  refine t_cond cok ?_
  refine bi h (fun c7 h => ?_) (fun c7 h => ?_)
  ·skip
   refine ag h fun h => ?_
   refine bk h fun t8 k9 h => ?_
   refine cl4 cok.g (page_RightSeat.sc fu _ _ k9) (vb t8) [] 2 ?_
   refine t_cond cok ?_
   refine bi h (fun c10 h => ?_) (fun c10 h => ?_)
   ·skip
    refine lpr h (fun hy => ?_)
    have h := h5
    rw [← hy] at h
    exact fk h
   refine bk h fun x11 j12 h => ?_
   refine t_cut cok (fun (x11 : Int) => ⟨[(4, .sl 0 1 []), (5, vi .i64 x11), (7, .ptr 1 0), (9, .v (.arr 7 (.st .S_api_Seat)) (a0.Seats : Arr 7 S_api_Seat)), (10, vi .i64 s1.2.2)], [.row (.int .u8) 5 (s1.1 : List Int), .box 51 (.v (.st .S_api_Seat) ((Arr.get a0.Seats s1.2.2) : S_api_Seat))]⟩) x11 ?_ ?_
   ·skip
    have h13 := h
    have h := j12
    refine t_cond cok ?_
    refine bi h (fun c14 h => ?_) (fun c14 h => ?_)
    ·skip
     refine ag h fun h => ?_
     exact ek h
    exact ek h
   refine bk h fun t15 k16 h => ?_
   refine cl4 cok.g (octet_Lay.sc fu _ _ _ k16) (.sl 2 1 []) [(2, .row (.int .u8) 5 (t15 : List Int))] 3 ?_
   refine ag h fun h => ?_
   refine bk h fun t17 k18 h => ?_
   refine cl4 cok.g (octet_Lay.sc fu _ _ _ k18) (.sl 4 1 []) [(4, .row (.int .u8) 5 (t17 : List Int))] 5 ?_
   refine ag h fun h => ?_
   exact lik h
  exact lpx h fun hy => esk (sj hy)
 subst hy
 refine bk h fun t19 k20 h => ?_
 refine cl4 cok.g (block_Seal.sc fu _ _ _ _ k20) (.tup [.sl 1 1 [], vb t19.2]) [(1, .row (.int .u8) 5 (t19.1 : List Int))] 2 ?_
 exact fk h
def cell_leaves_turned_cell_Turn_1.s0 (fu : Nat) (a0 : S_api_Leaf) (a1c0 : Int) (a1c1 : Int) : (Int × S_api_Leaf) → Option (Sum S_api_Leaf (Int × S_api_Leaf)) := fun s1 => (if (decide (s1.1 < 7)) then if 0 ≤ s1.1 ∧ s1.1 < 7 then (((if (Arr.get a0.Seats s1.1).Live then ((cell_Turn_1_v1_v2.f fu ((Arr.get a0.Seats s1.1).Next) a1c0 a1c1).bind fun t11 => if 0 ≤ s1.1 ∧ s1.1 < 7 then some ((⟨(updA s1.2.Seats s1.1 fun w => (⟨w.Live, w.Gen, t11⟩ : S_api_Seat))⟩ : S_api_Leaf)) else none) else some (s1.2)) : Option S_api_Leaf).bind fun x7 => some (Sum.inr ((IntKind.i64.wrap (s1.1 + 1)), x7))) else none else some (Sum.inl (s1.2)))
def cell_leaves_turned_cell_Turn_1.f (fu : Nat) (a0 : S_api_Leaf) (a1c0 : Int) (a1c1 : Int) : Option ((List Int) × Bool) := ((loopM (cell_leaves_turned_cell_Turn_1.s0 fu a0 a1c0 a1c1) fu (0, a0)).bind fun e2 => ((page_PutLeaf.f fu e2).bind fun t13 => some (t13.1, t13.2)))
theorem cell_leaves_turned_cell_Turn_1.sc (fu : Nat) (a0 : S_api_Leaf) (a1c0 : Int) (a1c1 : Int) (r : (List Int) × Bool) (h : cell_leaves_turned_cell_Turn_1.f fu a0 a1c0 a1c1 = some r) : SC Tryz.prog CT 163 [.v (.st .S_api_Leaf) (a0 : S_api_Leaf), .fn 39 [.ptr 0 0, .ptr 1 0]] [.box 3 (vi .i64 a1c0), .box 3 (vi .i64 a1c1)] (.tup [.sl 2 1 [], vb r.2]) [.box 3 (vi .i64 a1c0), .box 3 (vi .i64 a1c1), .row (.int .u8) 5 (r.1 : List Int)] := by
 unfold cell_leaves_turned_cell_Turn_1.f at h
 refine sq Tryz.func163 r (fun r => .tup [.sl 2 1 [], vb r.2]) (fun r => [.box 3 (vi .i64 a1c0), .box 3 (vi .i64 a1c1), .row (.int .u8) 5 (r.1 : List Int)]) fun X => ?_
 refine bk h fun e2 l3 h => ?_
 refine t_cutx cok 0 (fun (e2 : S_api_Leaf) => ⟨[(2, .ptr 2 0)], [.box 3 (vi .i64 a1c0), .box 3 (vi .i64 a1c1), .box 124 (.v (.st .S_api_Leaf) (e2 : S_api_Leaf))]⟩) e2 ?_ ?_
 ·skip
  have h4 := h
  refine t_loop cok (fun (s1 : Int × S_api_Leaf) => ⟨[(1, .fn 39 [.ptr 0 0, .ptr 1 0]), (2, .ptr 2 0), (10, .v (.arr 7 (.st .S_api_Seat)) (a0.Seats : Arr 7 S_api_Seat)), (11, vi .i64 s1.1)], [.box 3 (vi .i64 a1c0), .box 3 (vi .i64 a1c1), .box 124 (.v (.st .S_api_Leaf) (s1.2 : S_api_Leaf))]⟩) l3 (by kernel_rfl) (fun s1 x5 h => ?_)
  unfold cell_leaves_turned_cell_Turn_1.s0 at h
  refine t_cond cok ?_
  refine bi h (fun c6 h => ?_) (fun c6 h => ?_)
  ·skip
   refine ag h fun h => ?_
   refine bk h fun x7 j8 h => ?_
   refine t_cut cok (fun (x7 : S_api_Leaf) => ⟨[(1, .fn 39 [.ptr 0 0, .ptr 1 0]), (2, .ptr 2 0), (10, .v (.arr 7 (.st .S_api_Seat)) (a0.Seats : Arr 7 S_api_Seat)), (11, vi .i64 s1.1)], [.box 3 (vi .i64 a1c0), .box 3 (vi .i64 a1c1), .box 124 (.v (.st .S_api_Leaf) (x7 : S_api_Leaf))]⟩) x7 ?_ ?_
   ·skip
    have h9 := h
    have h := j8
    refine t_cond cok ?_
    refine bi h (fun c10 h => ?_) (fun c10 h => ?_)
    ·skip
     refine bk h fun t11 k12 h => ?_
     refine cl4 cok.g (cell_Turn_1_v1_v2.sc fu _ _ _ _ k12) (vi .i64 t11) [(0, .box 3 (vi .i64 a1c0)), (1, .box 3 (vi .i64 a1c1))] 6 ?_
     refine ag h fun h => ?_
     exact ek h
    exact ek h
   exact lik h
  exact lpx h fun hy => ek (sj hy)
 refine bk h fun t13 k14 h => ?_
 refine cl4 cok.g (page_PutLeaf.sc fu _ _ k14) (.tup [.sl 3 1 [], vb t13.2]) [(3, .row (.int .u8) 5 (t13.1 : List Int))] 4 ?_
 exact fk h
def octet_Octets.s0 (fu : Nat) (a0 : List Int) : ((List Int) × Int) → Option (Sum (List Int) ((List Int) × Int)) := fun s1 => (if (decide (s1.2 < (List.length a0 : Int))) then if 0 ≤ s1.2 ∧ s1.2 < (List.length a0 : Int) then ((octet_Lay.f fu (ix a0 s1.2) 8).bind fun t7 => if List.length s1.1 + List.length t7 ≤ LIM then some (Sum.inr ((s1.1 ++ t7), (IntKind.i64.wrap (s1.2 + 1)))) else none) else none else some (Sum.inl (s1.1)))
def octet_Octets.f (fu : Nat) (a0 : List Int) : Option (List Int) := ((loopM (octet_Octets.s0 fu a0) fu (([] : List Int), 0)).bind fun e2 => some (e2))
theorem octet_Octets.sc (fu : Nat) (a0 : List Int) (r : (List Int)) (h : octet_Octets.f fu a0 = some r) : SC Tryz.prog CT 137 [.v (.sl (.int .u64)) (a0 : List Int)] [] (.sl 0 1 []) [.row (.int .u8) 5 (r : List Int)] := by
 unfold octet_Octets.f at h
 refine sq Tryz.func137 r (fun r => .sl 0 1 []) (fun r => [.row (.int .u8) 5 (r : List Int)]) fun X => ?_
 refine bk h fun e2 l3 h => ?_
 refine t_cutx cok 0 (fun (e2 : (List Int)) => ⟨[(3, .sl 0 1 [])], [.row (.int .u8) 5 (e2 : List Int)]⟩) e2 ?_ ?_
 ·skip
  have h4 := h
  refine t_loop cok (fun (s1 : (List Int) × Int) => ⟨[(3, .sl 0 1 []), (6, .v (.sl (.int .u64)) (a0 : List Int)), (7, vi .i64 (List.length a0 : Int)), (8, vi .i64 s1.2)], [.row (.int .u8) 5 (s1.1 : List Int)]⟩) l3 (by kernel_rfl) (fun s1 x5 h => ?_)
  unfold octet_Octets.s0 at h
  refine t_cond cok ?_
  refine bi h (fun c6 h => ?_) (fun c6 h => ?_)
  ·skip
   refine ag h fun h => ?_
   refine bk h fun t7 k8 h => ?_
   refine cl4 cok.g (octet_Lay.sc fu _ _ _ k8) (.sl 1 1 []) [(1, .row (.int .u8) 5 (t7 : List Int))] 2 ?_
   refine ag h fun h => ?_
   exact lik h
  exact lpx h fun hy => ek (sj hy)
 exact fk h
def node_Put.s0 (fu : Nat) (a0 : S_api_Node) : ((List Int) × Int) → Option (Sum (List Int) ((List Int) × Int)) := fun s10 => (if (decide (s10.2 < (List.length a0.Kids : Int))) then if 0 ≤ s10.2 ∧ s10.2 < (List.length a0.Kids : Int) then ((octet_Lay.f fu (IntKind.u64.wrap (ix a0.Kids s10.2)) 2).bind fun t16 => if List.length s10.1 + List.length t16 ≤ LIM then some (Sum.inr ((s10.1 ++ t16), (IntKind.i64.wrap (s10.2 + 1)))) else none) else none else some (Sum.inl (s10.1)))
def node_Put.f (fu : Nat) (a0 : S_api_Node) : Option ((List Int) × Bool) := ((node_Right.f fu a0).bind fun t1 => (if (!t1) then some ([], false) else ((octet_Octets.f fu [(IntKind.u64.wrap a0.Entry.Key), (IntKind.u64.wrap a0.Entry.Value)]).bind fun t4 => ((octet_Lay.f fu (IntKind.u64.wrap a0.Entry.Handle.Slot) 4).bind fun t6 => if List.length t4 + List.length t6 ≤ LIM then ((octet_Lay.f fu (IntKind.u64.wrap a0.Entry.Handle.Gen) 4).bind fun t8 => if List.length (t4 ++ t6) + List.length t8 ≤ LIM then ((loopM (node_Put.s0 fu a0) fu (((t4 ++ t6) ++ t8), 0)).bind fun e11 => ((block_Seal.f fu 1 (List.length a0.Kids : Int) e11).bind fun t18 => some (t18.1, t18.2))) else none) else none))))
theorem node_Put.sc (fu : Nat) (a0 : S_api_Node) (r : (List Int) × Bool) (h : node_Put.f fu a0 = some r) : SC Tryz.prog CT 134 [.v (.st .S_api_Node) (a0 : S_api_Node)] [] (.tup [.sl 0 1 [], vb r.2]) [.row (.int .u8) 5 (r.1 : List Int)] := by
 unfold node_Put.f at h
 refine sq Tryz.func134 r (fun r => .tup [.sl 0 1 [], vb r.2]) (fun r => [.row (.int .u8) 5 (r.1 : List Int)]) fun X => ?_
 refine bk h fun t1 k2 h => ?_
 refine cl4 cok.g (node_Right.sc fu _ _ k2) (vb t1) [] 1 ?_
 refine t_cond cok ?_
 refine bi h (fun c3 h => ?_) (fun c3 h => ?_)
 ·skip
  exact fk h
 refine bk h fun t4 k5 h => ?_
 refine cl4 cok.g (octet_Octets.sc fu _ _ k5) (.sl 3 1 []) [(3, .row (.int .u8) 5 (t4 : List Int))] 4 ?_
 refine bk h fun t6 k7 h => ?_
 refine cl4 cok.g (octet_Lay.sc fu _ _ _ k7) (.sl 4 1 []) [(4, .row (.int .u8) 5 (t6 : List Int))] 5 ?_
 refine ag h fun h => ?_
 refine bk h fun t8 k9 h => ?_
 refine cl4 cok.g (octet_Lay.sc fu _ _ _ k9) (.sl 6 1 []) [(6, .row (.int .u8) 5 (t8 : List Int))] 7 ?_
 refine ag h fun h => ?_
 refine bk h fun e11 l12 h => ?_
 refine t_cutx cok 0 (fun (e11 : (List Int)) => ⟨[(1, .ptr 0 0), (5, .sl 1 1 [])], [.box 42 (.v (.st .S_api_Node) (a0 : S_api_Node)), .row (.int .u8) 5 (e11 : List Int)]⟩) e11 ?_ ?_
 ·skip
  have h13 := h
  refine t_loop cok (fun (s10 : (List Int) × Int) => ⟨[(1, .ptr 0 0), (5, .sl 1 1 []), (36, .v (.sl (.int .i64)) (a0.Kids : List Int)), (37, vi .i64 (List.length a0.Kids : Int)), (38, vi .i64 s10.2)], [.box 42 (.v (.st .S_api_Node) (a0 : S_api_Node)), .row (.int .u8) 5 (s10.1 : List Int)]⟩) l12 (by kernel_rfl) (fun s10 x14 h => ?_)
  unfold node_Put.s0 at h
  refine t_cond cok ?_
  refine bi h (fun c15 h => ?_) (fun c15 h => ?_)
  ·skip
   refine ag h fun h => ?_
   refine bk h fun t16 k17 h => ?_
   refine cl4 cok.g (octet_Lay.sc fu _ _ _ k17) (.sl 2 1 []) [(2, .row (.int .u8) 5 (t16 : List Int))] 3 ?_
   refine ag h fun h => ?_
   exact lik h
  exact lpx h fun hy => ek (sj hy)
 refine bk h fun t18 k19 h => ?_
 refine cl4 cok.g (block_Seal.sc fu _ _ _ _ k19) (.tup [.sl 2 1 [], vb t18.2]) [(2, .row (.int .u8) 5 (t18.1 : List Int))] 3 ?_
 exact fk h
def cell_nodes_turned_cell_Turn_1.f (fu : Nat) (a0 : S_api_Node) (a1c0 : Int) (a1c1 : Int) : Option ((List Int) × Bool) := ((cell_each_cell_Turn_1.f fu a0.Kids a1c0 a1c1).bind fun t1 => ((node_Put.f fu (⟨a0.Entry, t1⟩ : S_api_Node)).bind fun t3 => some (t3.1, t3.2)))
theorem cell_nodes_turned_cell_Turn_1.sc (fu : Nat) (a0 : S_api_Node) (a1c0 : Int) (a1c1 : Int) (r : (List Int) × Bool) (h : cell_nodes_turned_cell_Turn_1.f fu a0 a1c0 a1c1 = some r) : SC Tryz.prog CT 130 [.v (.st .S_api_Node) (a0 : S_api_Node), .fn 39 [.ptr 0 0, .ptr 1 0]] [.box 3 (vi .i64 a1c0), .box 3 (vi .i64 a1c1)] (.tup [.sl 2 1 [], vb r.2]) [.box 3 (vi .i64 a1c0), .box 3 (vi .i64 a1c1), .row (.int .u8) 5 (r.1 : List Int)] := by
 unfold cell_nodes_turned_cell_Turn_1.f at h
 refine sq Tryz.func130 r (fun r => .tup [.sl 2 1 [], vb r.2]) (fun r => [.box 3 (vi .i64 a1c0), .box 3 (vi .i64 a1c1), .row (.int .u8) 5 (r.1 : List Int)]) fun X => ?_
 refine bk h fun t1 k2 h => ?_
 refine cl4 cok.g (cell_each_cell_Turn_1.sc fu _ _ _ _ k2) (.sl 5 1 []) [(0, .box 3 (vi .i64 a1c0)), (1, .box 3 (vi .i64 a1c1)), (5, .row (.int .i64) 3 (t1 : List Int))] 6 ?_
 refine bk h fun t3 k4 h => ?_
 refine cl4 cok.g (node_Put.sc fu _ _ k4) (.tup [.sl 6 1 [], vb t3.2]) [(6, .row (.int .u8) 5 (t3.1 : List Int))] 7 ?_
 exact fk h
def label_PutQueue.s0 (fu : Nat) (a0 : S_api_Queue) : ((List Int) × Int) → Option (Sum (List Int) ((List Int) × Int)) := fun s6 => (if (decide (s6.2 < 12)) then if 0 ≤ s6.2 ∧ s6.2 < 12 then ((octet_Lay.f fu (IntKind.u64.wrap (Arr.get a0.Roots s6.2)) 2).bind fun t12 => if List.length s6.1 + List.length t12 ≤ LIM then some (Sum.inr ((s6.1 ++ t12), (IntKind.i64.wrap (s6.2 + 1)))) else none) else none else some (Sum.inl (s6.1)))
def label_PutQueue.f (fu : Nat) (a0 : S_api_Queue) : Option ((List Int) × Bool) := ((label_RightQueue.f fu a0).bind fun t1 => (if (!t1) then some ([], false) else ((octet_Lay.f fu (IntKind.u64.wrap a0.Count) 4).bind fun t4 => ((loopM (label_PutQueue.s0 fu a0) fu (t4, 0)).bind fun e7 => if List.length e7 + List.length a0.Name ≤ LIM then ((block_Seal.f fu 5 (List.length a0.Name : Int) (e7 ++ (List.map ofB a0.Name))).bind fun t14 => some (t14.1, t14.2)) else none))))
theorem label_PutQueue.sc (fu : Nat) (a0 : S_api_Queue) (r : (List Int) × Bool) (h : label_PutQueue.f fu a0 = some r) : SC Tryz.prog CT 159 [.v (.st .S_api_Queue) (a0 : S_api_Queue)] [] (.tup [.sl 0 1 [], vb r.2]) [.row (.int .u8) 5 (r.1 : List Int)] := by
 unfold label_PutQueue.f at h
 refine sq Tryz.func159 r (fun r => .tup [.sl 0 1 [], vb r.2]) (fun r => [.row (.int .u8) 5 (r.1 : List Int)]) fun X => ?_
 refine bk h fun t1 k2 h => ?_
 refine cl4 cok.g (label_RightQueue.sc fu _ _ k2) (vb t1) [] 1 ?_
 refine t_cond cok ?_
 refine bi h (fun c3 h => ?_) (fun c3 h => ?_)
 ·skip
  exact fk h
 refine bk h fun t4 k5 h => ?_
 refine cl4 cok.g (octet_Lay.sc fu _ _ _ k5) (.sl 1 1 []) [(1, .row (.int .u8) 5 (t4 : List Int))] 2 ?_
 refine bk h fun e7 l8 h => ?_
 refine t_cutx cok 0 (fun (e7 : (List Int)) => ⟨[(1, .ptr 0 0), (4, .sl 1 1 [])], [.box 77 (.v (.st .S_api_Queue) (a0 : S_api_Queue)), .row (.int .u8) 5 (e7 : List Int)]⟩) e7 ?_ ?_
 ·skip
  have h9 := h
  refine t_loop cok (fun (s6 : (List Int) × Int) => ⟨[(1, .ptr 0 0), (4, .sl 1 1 []), (15, .v (.arr 12 (.int .i64)) (a0.Roots : Arr 12 Int)), (16, vi .i64 s6.2)], [.box 77 (.v (.st .S_api_Queue) (a0 : S_api_Queue)), .row (.int .u8) 5 (s6.1 : List Int)]⟩) l8 (by kernel_rfl) (fun s6 x10 h => ?_)
  unfold label_PutQueue.s0 at h
  refine t_cond cok ?_
  refine bi h (fun c11 h => ?_) (fun c11 h => ?_)
  ·skip
   refine ag h fun h => ?_
   refine bk h fun t12 k13 h => ?_
   refine cl4 cok.g (octet_Lay.sc fu _ _ _ k13) (.sl 2 1 []) [(2, .row (.int .u8) 5 (t12 : List Int))] 3 ?_
   refine ag h fun h => ?_
   exact lik h
  exact lpx h fun hy => ek (sj hy)
 refine ag h fun h => ?_
 refine bk h fun t14 k15 h => ?_
 refine cl4 cok.g (block_Seal.sc fu _ _ _ _ k15) (.tup [.sl 3 1 [], vb t14.2]) [(3, .row (.int .u8) 5 (t14.1 : List Int))] 4 ?_
 exact fk h
def cell_queues_turned_cell_Turn_1.s0 (fu : Nat) (a0 : S_api_Queue) (a1c0 : Int) (a1c1 : Int) : (Int × S_api_Queue) → Option (Sum S_api_Queue (Int × S_api_Queue)) := fun s1 => (if (decide (s1.1 < 12)) then if 0 ≤ s1.1 ∧ s1.1 < 12 then (((if (!decide ((Arr.get a0.Roots s1.1) = 0)) then ((cell_Turn_1_v1_v2.f fu (Arr.get a0.Roots s1.1) a1c0 a1c1).bind fun t11 => if 0 ≤ s1.1 ∧ s1.1 < 12 then some ((⟨s1.2.Name, s1.2.Count, (Arr.set s1.2.Roots s1.1 t11)⟩ : S_api_Queue)) else none) else some (s1.2)) : Option S_api_Queue).bind fun x7 => some (Sum.inr ((IntKind.i64.wrap (s1.1 + 1)), x7))) else none else some (Sum.inl (s1.2)))
def cell_queues_turned_cell_Turn_1.f (fu : Nat) (a0 : S_api_Queue) (a1c0 : Int) (a1c1 : Int) : Option ((List Int) × Bool) := ((loopM (cell_queues_turned_cell_Turn_1.s0 fu a0 a1c0 a1c1) fu (0, a0)).bind fun e2 => ((label_PutQueue.f fu e2).bind fun t13 => some (t13.1, t13.2)))
theorem cell_queues_turned_cell_Turn_1.sc (fu : Nat) (a0 : S_api_Queue) (a1c0 : Int) (a1c1 : Int) (r : (List Int) × Bool) (h : cell_queues_turned_cell_Turn_1.f fu a0 a1c0 a1c1 = some r) : SC Tryz.prog CT 156 [.v (.st .S_api_Queue) (a0 : S_api_Queue), .fn 39 [.ptr 0 0, .ptr 1 0]] [.box 3 (vi .i64 a1c0), .box 3 (vi .i64 a1c1)] (.tup [.sl 2 1 [], vb r.2]) [.box 3 (vi .i64 a1c0), .box 3 (vi .i64 a1c1), .row (.int .u8) 5 (r.1 : List Int)] := by
 unfold cell_queues_turned_cell_Turn_1.f at h
 refine sq Tryz.func156 r (fun r => .tup [.sl 2 1 [], vb r.2]) (fun r => [.box 3 (vi .i64 a1c0), .box 3 (vi .i64 a1c1), .row (.int .u8) 5 (r.1 : List Int)]) fun X => ?_
 refine bk h fun e2 l3 h => ?_
 refine t_cutx cok 0 (fun (e2 : S_api_Queue) => ⟨[(2, .ptr 2 0)], [.box 3 (vi .i64 a1c0), .box 3 (vi .i64 a1c1), .box 98 (.v (.st .S_api_Queue) (e2 : S_api_Queue))]⟩) e2 ?_ ?_
 ·skip
  have h4 := h
  refine t_loop cok (fun (s1 : Int × S_api_Queue) => ⟨[(1, .fn 39 [.ptr 0 0, .ptr 1 0]), (2, .ptr 2 0), (10, .v (.arr 12 (.int .i64)) (a0.Roots : Arr 12 Int)), (11, vi .i64 s1.1)], [.box 3 (vi .i64 a1c0), .box 3 (vi .i64 a1c1), .box 98 (.v (.st .S_api_Queue) (s1.2 : S_api_Queue))]⟩) l3 (by kernel_rfl) (fun s1 x5 h => ?_)
  unfold cell_queues_turned_cell_Turn_1.s0 at h
  refine t_cond cok ?_
  refine bi h (fun c6 h => ?_) (fun c6 h => ?_)
  ·skip
   refine ag h fun h => ?_
   refine bk h fun x7 j8 h => ?_
   refine t_cut cok (fun (x7 : S_api_Queue) => ⟨[(1, .fn 39 [.ptr 0 0, .ptr 1 0]), (2, .ptr 2 0), (10, .v (.arr 12 (.int .i64)) (a0.Roots : Arr 12 Int)), (11, vi .i64 s1.1)], [.box 3 (vi .i64 a1c0), .box 3 (vi .i64 a1c1), .box 98 (.v (.st .S_api_Queue) (x7 : S_api_Queue))]⟩) x7 ?_ ?_
   ·skip
    have h9 := h
    have h := j8
    refine t_cond cok ?_
    refine bi h (fun c10 h => ?_) (fun c10 h => ?_)
    ·skip
     refine bk h fun t11 k12 h => ?_
     refine cl4 cok.g (cell_Turn_1_v1_v2.sc fu _ _ _ _ k12) (vi .i64 t11) [(0, .box 3 (vi .i64 a1c0)), (1, .box 3 (vi .i64 a1c1))] 5 ?_
     refine ag h fun h => ?_
     exact ek h
    exact ek h
   exact lik h
  exact lpx h fun hy => ek (sj hy)
 refine bk h fun t13 k14 h => ?_
 refine cl4 cok.g (label_PutQueue.sc fu _ _ k14) (.tup [.sl 3 1 [], vb t13.2]) [(3, .row (.int .u8) 5 (t13.1 : List Int))] 4 ?_
 exact fk h
def super_Put.s0 (fu : Nat) (a0 : S_api_Super) : ((List Int) × Int) → Option (Sum (List Int) ((List Int) × Int)) := fun s16 => (if (decide (s16.2 < (List.length ([a0.Tickets.Top, a0.Dir] ++ a0.Charts) : Int))) then if 0 ≤ s16.2 ∧ s16.2 < (List.length ([a0.Tickets.Top, a0.Dir] ++ a0.Charts) : Int) then ((octet_Lay.f fu (IntKind.u64.wrap (ix ([a0.Tickets.Top, a0.Dir] ++ a0.Charts) s16.2)) 2).bind fun t22 => if List.length s16.1 + List.length t22 ≤ LIM then some (Sum.inr ((s16.1 ++ t22), (IntKind.i64.wrap (s16.2 + 1)))) else none) else none else some (Sum.inl (s16.1)))
def super_Put.f (fu : Nat) (a0 : S_api_Super) : Option ((List Int) × Bool) := ((super_Right.f fu a0).bind fun t1 => (if (!t1) then some ([], false) else ((octet_Octets.f fu [(IntKind.u64.wrap a0.Epoch)]).bind fun t4 => ((octet_Lay.f fu (IntKind.u64.wrap a0.Tickets.Geometry.Blocks) 4).bind fun t6 => if List.length t4 + List.length t6 ≤ LIM then ((octet_Lay.f fu (IntKind.u64.wrap a0.Tickets.Geometry.Slots) 4).bind fun t8 => if List.length (t4 ++ t6) + List.length t8 ≤ LIM then ((octet_Lay.f fu (IntKind.u64.wrap a0.Tickets.Geometry.Gens) 4).bind fun t10 => if List.length ((t4 ++ t6) ++ t8) + List.length t10 ≤ LIM then ((octet_Lay.f fu (IntKind.u64.wrap a0.Tickets.High) 4).bind fun t12 => if List.length (((t4 ++ t6) ++ t8) ++ t10) + List.length t12 ≤ LIM then ((octet_Lay.f fu (IntKind.u64.wrap a0.Tickets.Free) 4).bind fun t14 => if List.length ((((t4 ++ t6) ++ t8) ++ t10) ++ t12) + List.length t14 ≤ LIM then if List.length [a0.Tickets.Top, a0.Dir] + List.length a0.Charts ≤ LIM then ((loopM (super_Put.s0 fu a0) fu ((((((t4 ++ t6) ++ t8) ++ t10) ++ t12) ++ t14), 0)).bind fun e17 => ((block_Seal.f fu 7 (List.length a0.Charts : Int) e17).bind fun t24 => some (t24.1, t24.2))) else none else none) else none) else none) else none) else none))))
theorem super_Put.sc (fu : Nat) (a0 : S_api_Super) (r : (List Int) × Bool) (h : super_Put.f fu a0 = some r) : SC Tryz.prog CT 186 [.v (.st .S_api_Super) (a0 : S_api_Super)] [] (.tup [.sl 0 1 [], vb r.2]) [.row (.int .u8) 5 (r.1 : List Int)] := by
 unfold super_Put.f at h
 refine sq Tryz.func186 r (fun r => .tup [.sl 0 1 [], vb r.2]) (fun r => [.row (.int .u8) 5 (r.1 : List Int)]) fun X => ?_
 refine bk h fun t1 k2 h => ?_
 refine cl4 cok.g (super_Right.sc fu _ _ k2) (vb t1) [] 1 ?_
 refine t_cond cok ?_
 refine bi h (fun c3 h => ?_) (fun c3 h => ?_)
 ·skip
  exact fk h
 refine bk h fun t4 k5 h => ?_
 refine cl4 cok.g (octet_Octets.sc fu _ _ k5) (.sl 2 1 []) [(2, .row (.int .u8) 5 (t4 : List Int))] 3 ?_
 refine t_rounds ?_
 refine t_round cok ?_
 refine t_cond cok ?_
 refine ⟨by decide, ?_⟩
 refine bk h fun t6 k7 h => ?_
 refine cl4 cok.g (octet_Lay.sc fu _ _ _ k7) (.sl 3 1 []) [(3, .row (.int .u8) 5 (t6 : List Int))] 4 ?_
 refine ag h fun h => ?_
 refine t_embL cok (fun (_x : Unit) => ⟨[(1, .ptr 0 0), (4, .sl 1 1 []), (35, .v (.arr 5 (.int .i64)) ((Arr.set (Arr.set (Arr.set (Arr.set (Arr.set (Arr.rep 5 (0 : Int)) 0 a0.Tickets.Geometry.Blocks) 1 a0.Tickets.Geometry.Slots) 2 a0.Tickets.Geometry.Gens) 3 a0.Tickets.High) 4 a0.Tickets.Free) : Arr 5 Int)), (36, vi .i64 1)], [.box 87 (.v (.st .S_api_Super) (a0 : S_api_Super)), .row (.int .u8) 5 ((t4 ++ t6) : List Int)]⟩) () (by kernel_rfl) ?_
 refine t_round cok ?_
 refine t_cond cok ?_
 refine ⟨by decide, ?_⟩
 refine bk h fun t8 k9 h => ?_
 refine cl4 cok.g (octet_Lay.sc fu _ _ _ k9) (.sl 2 1 []) [(2, .row (.int .u8) 5 (t8 : List Int))] 3 ?_
 refine ag h fun h => ?_
 refine t_embL cok (fun (_x : Unit) => ⟨[(1, .ptr 0 0), (4, .sl 1 1 []), (35, .v (.arr 5 (.int .i64)) ((Arr.set (Arr.set (Arr.set (Arr.set (Arr.set (Arr.rep 5 (0 : Int)) 0 a0.Tickets.Geometry.Blocks) 1 a0.Tickets.Geometry.Slots) 2 a0.Tickets.Geometry.Gens) 3 a0.Tickets.High) 4 a0.Tickets.Free) : Arr 5 Int)), (36, vi .i64 2)], [.box 87 (.v (.st .S_api_Super) (a0 : S_api_Super)), .row (.int .u8) 5 (((t4 ++ t6) ++ t8) : List Int)]⟩) () (by kernel_rfl) ?_
 refine t_round cok ?_
 refine t_cond cok ?_
 refine ⟨by decide, ?_⟩
 refine bk h fun t10 k11 h => ?_
 refine cl4 cok.g (octet_Lay.sc fu _ _ _ k11) (.sl 2 1 []) [(2, .row (.int .u8) 5 (t10 : List Int))] 3 ?_
 refine ag h fun h => ?_
 refine t_embL cok (fun (_x : Unit) => ⟨[(1, .ptr 0 0), (4, .sl 1 1 []), (35, .v (.arr 5 (.int .i64)) ((Arr.set (Arr.set (Arr.set (Arr.set (Arr.set (Arr.rep 5 (0 : Int)) 0 a0.Tickets.Geometry.Blocks) 1 a0.Tickets.Geometry.Slots) 2 a0.Tickets.Geometry.Gens) 3 a0.Tickets.High) 4 a0.Tickets.Free) : Arr 5 Int)), (36, vi .i64 3)], [.box 87 (.v (.st .S_api_Super) (a0 : S_api_Super)), .row (.int .u8) 5 ((((t4 ++ t6) ++ t8) ++ t10) : List Int)]⟩) () (by kernel_rfl) ?_
 refine t_round cok ?_
 refine t_cond cok ?_
 refine ⟨by decide, ?_⟩
 refine bk h fun t12 k13 h => ?_
 refine cl4 cok.g (octet_Lay.sc fu _ _ _ k13) (.sl 2 1 []) [(2, .row (.int .u8) 5 (t12 : List Int))] 3 ?_
 refine ag h fun h => ?_
 refine t_embL cok (fun (_x : Unit) => ⟨[(1, .ptr 0 0), (4, .sl 1 1 []), (35, .v (.arr 5 (.int .i64)) ((Arr.set (Arr.set (Arr.set (Arr.set (Arr.set (Arr.rep 5 (0 : Int)) 0 a0.Tickets.Geometry.Blocks) 1 a0.Tickets.Geometry.Slots) 2 a0.Tickets.Geometry.Gens) 3 a0.Tickets.High) 4 a0.Tickets.Free) : Arr 5 Int)), (36, vi .i64 4)], [.box 87 (.v (.st .S_api_Super) (a0 : S_api_Super)), .row (.int .u8) 5 (((((t4 ++ t6) ++ t8) ++ t10) ++ t12) : List Int)]⟩) () (by kernel_rfl) ?_
 refine t_round cok ?_
 refine t_cond cok ?_
 refine ⟨by decide, ?_⟩
 refine bk h fun t14 k15 h => ?_
 refine cl4 cok.g (octet_Lay.sc fu _ _ _ k15) (.sl 2 1 []) [(2, .row (.int .u8) 5 (t14 : List Int))] 3 ?_
 refine ag h fun h => ?_
 refine t_embL cok (fun (_x : Unit) => ⟨[(1, .ptr 0 0), (4, .sl 1 1 []), (35, .v (.arr 5 (.int .i64)) ((Arr.set (Arr.set (Arr.set (Arr.set (Arr.set (Arr.rep 5 (0 : Int)) 0 a0.Tickets.Geometry.Blocks) 1 a0.Tickets.Geometry.Slots) 2 a0.Tickets.Geometry.Gens) 3 a0.Tickets.High) 4 a0.Tickets.Free) : Arr 5 Int)), (36, vi .i64 5)], [.box 87 (.v (.st .S_api_Super) (a0 : S_api_Super)), .row (.int .u8) 5 ((((((t4 ++ t6) ++ t8) ++ t10) ++ t12) ++ t14) : List Int)]⟩) () (by kernel_rfl) ?_
 refine t_round cok ?_
 refine t_cond cok ?_
 refine ag h fun h => ?_
 refine bk h fun e17 l18 h => ?_
 refine t_cutx cok 2 (fun (e17 : (List Int)) => ⟨[(1, .ptr 0 0), (4, .sl 1 1 [])], [.box 87 (.v (.st .S_api_Super) (a0 : S_api_Super)), .row (.int .u8) 5 (e17 : List Int)]⟩) e17 ?_ ?_
 ·skip
  have h19 := h
  refine t_loop cok (fun (s16 : (List Int) × Int) => ⟨[(1, .ptr 0 0), (4, .sl 1 1 []), (53, .sl 2 1 []), (54, vi .i64 (List.length ([a0.Tickets.Top, a0.Dir] ++ a0.Charts) : Int)), (55, vi .i64 s16.2)], [.box 87 (.v (.st .S_api_Super) (a0 : S_api_Super)), .row (.int .u8) 5 (s16.1 : List Int), .row (.int .i64) 3 (([a0.Tickets.Top, a0.Dir] ++ a0.Charts) : List Int)]⟩) l18 (by kernel_rfl) (fun s16 x20 h => ?_)
  unfold super_Put.s0 at h
  refine t_cond cok ?_
  refine bi h (fun c21 h => ?_) (fun c21 h => ?_)
  ·skip
   refine ag h fun h => ?_
   refine bk h fun t22 k23 h => ?_
   refine cl4 cok.g (octet_Lay.sc fu _ _ _ k23) (.sl 3 1 []) [(3, .row (.int .u8) 5 (t22 : List Int))] 4 ?_
   refine ag h fun h => ?_
   exact lik h
  exact lpx h fun hy => ek (sj hy)
 refine bk h fun t24 k25 h => ?_
 refine cl4 cok.g (block_Seal.sc fu _ _ _ _ k25) (.tup [.sl 2 1 [], vb t24.2]) [(2, .row (.int .u8) 5 (t24.1 : List Int))] 3 ?_
 exact fk h
def cell_supers_turned_cell_Turn_1.f (fu : Nat) (a0 : S_api_Super) (a1c0 : Int) (a1c1 : Int) : Option ((List Int) × Bool) := (((if (!decide (a0.Tickets.Top = 0)) then ((cell_Turn_1_v1_v2.f fu a0.Tickets.Top a1c0 a1c1).bind fun t5 => some ((⟨a0.Epoch, (⟨a0.Tickets.Geometry, t5, a0.Tickets.High, a0.Tickets.Free⟩ : S_api_Tickets), a0.Dir, a0.Charts⟩ : S_api_Super))) else some (a0)) : Option S_api_Super).bind fun x1 => (((if (!decide (x1.Dir = 0)) then ((cell_Turn_1_v1_v2.f fu x1.Dir a1c0 a1c1).bind fun t11 => some ((⟨x1.Epoch, x1.Tickets, t11, x1.Charts⟩ : S_api_Super))) else some (x1)) : Option S_api_Super).bind fun x7 => ((cell_each_cell_Turn_1.f fu x7.Charts a1c0 a1c1).bind fun t13 => ((super_Put.f fu (⟨x7.Epoch, x7.Tickets, x7.Dir, t13⟩ : S_api_Super)).bind fun t15 => some (t15.1, t15.2)))))
theorem cell_supers_turned_cell_Turn_1.sc (fu : Nat) (a0 : S_api_Super) (a1c0 : Int) (a1c1 : Int) (r : (List Int) × Bool) (h : cell_supers_turned_cell_Turn_1.f fu a0 a1c0 a1c1 = some r) : SC Tryz.prog CT 184 [.v (.st .S_api_Super) (a0 : S_api_Super), .fn 39 [.ptr 0 0, .ptr 1 0]] [.box 3 (vi .i64 a1c0), .box 3 (vi .i64 a1c1)] (.tup [.sl 2 1 [], vb r.2]) [.box 3 (vi .i64 a1c0), .box 3 (vi .i64 a1c1), .row (.int .u8) 5 (r.1 : List Int)] := by
 unfold cell_supers_turned_cell_Turn_1.f at h
 refine sq Tryz.func184 r (fun r => .tup [.sl 2 1 [], vb r.2]) (fun r => [.box 3 (vi .i64 a1c0), .box 3 (vi .i64 a1c1), .row (.int .u8) 5 (r.1 : List Int)]) fun X => ?_
 refine t_rounds ?_
 refine t_round cok ?_
 refine t_cond cok ?_
 refine ⟨rfl, ?_⟩
 refine bk h fun x1 j2 h => ?_
 refine t_cut cok (fun (x1 : S_api_Super) => ⟨[(1, .fn 39 [.ptr 0 0, .ptr 1 0]), (2, .ptr 2 0), (13, .asp 3 0 2), (14, vi .i64 2), (15, vi .i64 0)], [.box 3 (vi .i64 a1c0), .box 3 (vi .i64 a1c1), .box 136 (.v (.st .S_api_Super) (x1 : S_api_Super)), .box 162 (.agg [.ptr 2 4, .ptr 2 7])]⟩) x1 ?_ ?_
 ·skip
  have h3 := h
  have h := j2
  refine t_cond cok ?_
  refine bi h (fun c4 h => ?_) (fun c4 h => ?_)
  ·skip
   refine bk h fun t5 k6 h => ?_
   refine cl4 cok.g (cell_Turn_1_v1_v2.sc fu _ _ _ _ k6) (vi .i64 t5) [(0, .box 3 (vi .i64 a1c0)), (1, .box 3 (vi .i64 a1c1))] 6 ?_
   exact ek h
  exact ek h
 refine t_embL cok (fun (_x : Unit) => ⟨[(1, .fn 39 [.ptr 0 0, .ptr 1 0]), (2, .ptr 2 0), (13, .asp 3 0 2), (14, vi .i64 2), (15, vi .i64 1)], [.box 3 (vi .i64 a1c0), .box 3 (vi .i64 a1c1), .box 136 (.v (.st .S_api_Super) (x1 : S_api_Super)), .box 162 (.agg [.ptr 2 4, .ptr 2 7])]⟩) () (by kernel_rfl) ?_
 refine t_round cok ?_
 refine t_cond cok ?_
 refine ⟨rfl, ?_⟩
 refine bk h fun x7 j8 h => ?_
 refine t_cut cok (fun (x7 : S_api_Super) => ⟨[(1, .fn 39 [.ptr 0 0, .ptr 1 0]), (2, .ptr 2 0), (13, .asp 3 0 2), (14, vi .i64 2), (15, vi .i64 1)], [.box 3 (vi .i64 a1c0), .box 3 (vi .i64 a1c1), .box 136 (.v (.st .S_api_Super) (x7 : S_api_Super)), .box 162 (.agg [.ptr 2 4, .ptr 2 7])]⟩) x7 ?_ ?_
 ·skip
  have h9 := h
  have h := j8
  refine t_cond cok ?_
  refine bi h (fun c10 h => ?_) (fun c10 h => ?_)
  ·skip
   refine bk h fun t11 k12 h => ?_
   refine cl4 cok.g (cell_Turn_1_v1_v2.sc fu _ _ _ _ k12) (vi .i64 t11) [(0, .box 3 (vi .i64 a1c0)), (1, .box 3 (vi .i64 a1c1))] 6 ?_
   exact ek h
  exact ek h
 refine t_embL cok (fun (_x : Unit) => ⟨[(1, .fn 39 [.ptr 0 0, .ptr 1 0]), (2, .ptr 2 0), (13, .asp 3 0 2), (14, vi .i64 2), (15, vi .i64 2)], [.box 3 (vi .i64 a1c0), .box 3 (vi .i64 a1c1), .box 136 (.v (.st .S_api_Super) (x7 : S_api_Super)), .box 162 (.agg [.ptr 2 4, .ptr 2 7])]⟩) () (by kernel_rfl) ?_
 refine t_round cok ?_
 refine t_cond cok ?_
 refine bk h fun t13 k14 h => ?_
 refine cl4 cok.g (cell_each_cell_Turn_1.sc fu _ _ _ _ k14) (.sl 6 1 []) [(0, .box 3 (vi .i64 a1c0)), (1, .box 3 (vi .i64 a1c1)), (6, .row (.int .i64) 3 (t13 : List Int))] 7 ?_
 refine bk h fun t15 k16 h => ?_
 refine cl4 cok.g (super_Put.sc fu _ _ k16) (.tup [.sl 7 1 [], vb t15.2]) [(7, .row (.int .u8) 5 (t15.1 : List Int))] 8 ?_
 exact fk h
def cell_Turn.f (fu : Nat) (a0 : List Int) (a1 : Int) (a2 : Int) : Option ((List Int) × Bool) := ((cell_parse.f fu a0).bind fun t1 => (Option.elim t1.1 ((Option.elim t1.2.1 ((Option.elim t1.2.2.1 ((Option.elim t1.2.2.2.1 ((Option.elim t1.2.2.2.2.1 ((Option.elim t1.2.2.2.2.2.1 ((Option.elim t1.2.2.2.2.2.2.1 ((if (!t1.2.2.2.2.2.2.2) then some ([], false) else none)) (fun o15 => (if (!t1.2.2.2.2.2.2.2) then some ([], false) else ((cell_supers_turned_cell_Turn_1.f fu o15 a1 a2).bind fun t19 => some (t19.1, t19.2)))))) (fun o13 => (Option.elim t1.2.2.2.2.2.2.1 ((if (!t1.2.2.2.2.2.2.2) then some ([], false) else ((cell_dirs_turned_cell_Turn_1.f fu o13 a1 a2).bind fun t24 => some (t24.1, t24.2)))) (fun o21 => none))))) (fun o11 => (Option.elim t1.2.2.2.2.2.1 ((Option.elim t1.2.2.2.2.2.2.1 ((if (!t1.2.2.2.2.2.2.2) then some ([], false) else ((cell_charts_turned_cell_Turn_1.f fu o11 a1 a2).bind fun t31 => some (t31.1, t31.2)))) (fun o28 => none))) (fun o26 => none))))) (fun o9 => (Option.elim t1.2.2.2.2.1 ((Option.elim t1.2.2.2.2.2.1 ((Option.elim t1.2.2.2.2.2.2.1 ((if (!t1.2.2.2.2.2.2.2) then some ([], false) else ((cell_fans_turned_cell_Turn_1.f fu o9 a1 a2).bind fun t40 => some (t40.1, t40.2)))) (fun o37 => none))) (fun o35 => none))) (fun o33 => none))))) (fun o7 => (Option.elim t1.2.2.2.1 ((Option.elim t1.2.2.2.2.1 ((Option.elim t1.2.2.2.2.2.1 ((Option.elim t1.2.2.2.2.2.2.1 ((if (!t1.2.2.2.2.2.2.2) then some ([], false) else ((cell_leaves_turned_cell_Turn_1.f fu o7 a1 a2).bind fun t51 => some (t51.1, t51.2)))) (fun o48 => none))) (fun o46 => none))) (fun o44 => none))) (fun o42 => none))))) (fun o5 => (Option.elim t1.2.2.1 ((Option.elim t1.2.2.2.1 ((Option.elim t1.2.2.2.2.1 ((Option.elim t1.2.2.2.2.2.1 ((Option.elim t1.2.2.2.2.2.2.1 ((if (!t1.2.2.2.2.2.2.2) then some ([], false) else ((cell_queues_turned_cell_Turn_1.f fu o5 a1 a2).bind fun t64 => some (t64.1, t64.2)))) (fun o61 => none))) (fun o59 => none))) (fun o57 => none))) (fun o55 => none))) (fun o53 => none))))) (fun o3 => (Option.elim t1.2.1 ((Option.elim t1.2.2.1 ((Option.elim t1.2.2.2.1 ((Option.elim t1.2.2.2.2.1 ((Option.elim t1.2.2.2.2.2.1 ((Option.elim t1.2.2.2.2.2.2.1 ((if (!t1.2.2.2.2.2.2.2) then some ([], false) else ((cell_nodes_turned_cell_Turn_1.f fu o3 a1 a2).bind fun t79 => some (t79.1, t79.2)))) (fun o76 => none))) (fun o74 => none))) (fun o72 => none))) (fun o70 => none))) (fun o68 => none))) (fun o66 => none)))))
theorem cell_Turn.sc (fu : Nat) (a0 : List Int) (a1 : Int) (a2 : Int) (r : (List Int) × Bool) (h : cell_Turn.f fu a0 a1 a2 = some r) : SC Tryz.prog CT 18 [.v (.sl (.int .u8)) (a0 : List Int), vi .i64 a1, vi .i64 a2] [] (.tup [.sl 0 1 [], vb r.2]) [.row (.int .u8) 5 (r.1 : List Int)] := by
 unfold cell_Turn.f at h
 refine sq Tryz.func18 r (fun r => .tup [.sl 0 1 [], vb r.2]) (fun r => [.row (.int .u8) 5 (r.1 : List Int)]) fun X => ?_
 refine bk h fun t1 k2 h => ?_
 refine oe (x := t1.1) h (fun q4 h => ?_) (fun o3 q4 h => ?_)
 ·skip
  refine oe (x := t1.2.1) h (fun q6 h => ?_) (fun o5 q6 h => ?_)
  ·skip
   refine oe (x := t1.2.2.1) h (fun q8 h => ?_) (fun o7 q8 h => ?_)
   ·skip
    refine oe (x := t1.2.2.2.1) h (fun q10 h => ?_) (fun o9 q10 h => ?_)
    ·skip
     refine oe (x := t1.2.2.2.2.1) h (fun q12 h => ?_) (fun o11 q12 h => ?_)
     ·skip
      refine oe (x := t1.2.2.2.2.2.1) h (fun q14 h => ?_) (fun o13 q14 h => ?_)
      ·skip
       refine oe (x := t1.2.2.2.2.2.2.1) h (fun q16 h => ?_) (fun o15 q16 h => ?_)
       ·skip
        refine cl4 cok.g (cell_parse.scnnnnnnn fu _ _ k2 q4 q6 q8 q10 q12 q14 q16) (.tup [.nili, vb t1.2.2.2.2.2.2.2]) [] 2 ?_
        refine t_cond cok ?_
        refine bi h (fun c17 h => ?_) (fun c17 h => ?_)
        ·skip
         exact fk h
        cases h
       refine cl4 cok.g (cell_parse.scnnnnnns fu _ _ k2 q4 q6 q8 q10 q12 q14 o15 q16) (.tup [.ifc 136 (.v (.st .S_api_Super) (o15 : S_api_Super)), vb t1.2.2.2.2.2.2.2]) [] 2 ?_
       refine t_cond cok ?_
       refine bi h (fun c18 h => ?_) (fun c18 h => ?_)
       ·skip
        exact fk h
       refine civ (f := 184) (meth_ok (by kernel_rfl)) ?_
       refine bk h fun t19 k20 h => ?_
       refine cl4 cok.g (cell_supers_turned_cell_Turn_1.sc fu _ _ _ _ k20) (.tup [.sl 4 1 [], vb t19.2]) [(0, .box 3 (vi .i64 a1)), (1, .box 3 (vi .i64 a2)), (4, .row (.int .u8) 5 (t19.1 : List Int))] 5 ?_
       exact fk h
      refine oe (x := t1.2.2.2.2.2.2.1) h (fun q22 h => ?_) (fun o21 q22 h => ?_)
      ·skip
       refine cl4 cok.g (cell_parse.scnnnnnsn fu _ _ k2 q4 q6 q8 q10 q12 o13 q14 q22) (.tup [.ifc 134 (.v (.st .S_api_Dir) (o13 : S_api_Dir)), vb t1.2.2.2.2.2.2.2]) [] 2 ?_
       refine t_cond cok ?_
       refine bi h (fun c23 h => ?_) (fun c23 h => ?_)
       ·skip
        exact fk h
       refine civ (f := 180) (meth_ok (by kernel_rfl)) ?_
       refine bk h fun t24 k25 h => ?_
       refine cl4 cok.g (cell_dirs_turned_cell_Turn_1.sc fu _ _ _ _ k25) (.tup [.sl 4 1 [], vb t24.2]) [(0, .box 3 (vi .i64 a1)), (1, .box 3 (vi .i64 a2)), (4, .row (.int .u8) 5 (t24.1 : List Int))] 5 ?_
       exact fk h
      cases h
     refine oe (x := t1.2.2.2.2.2.1) h (fun q27 h => ?_) (fun o26 q27 h => ?_)
     ·skip
      refine oe (x := t1.2.2.2.2.2.2.1) h (fun q29 h => ?_) (fun o28 q29 h => ?_)
      ·skip
       refine cl4 cok.g (cell_parse.scnnnnsnn fu _ _ k2 q4 q6 q8 q10 o11 q12 q27 q29) (.tup [.ifc 128 (.v (.st .S_api_Chart) (o11 : S_api_Chart)), vb t1.2.2.2.2.2.2.2]) [] 2 ?_
       refine t_cond cok ?_
       refine bi h (fun c30 h => ?_) (fun c30 h => ?_)
       ·skip
        exact fk h
       refine civ (f := 173) (meth_ok (by kernel_rfl)) ?_
       refine bk h fun t31 k32 h => ?_
       refine cl4 cok.g (cell_charts_turned_cell_Turn_1.sc fu _ _ _ _ k32) (.tup [.sl 4 1 [], vb t31.2]) [(0, .box 3 (vi .i64 a1)), (1, .box 3 (vi .i64 a2)), (4, .row (.int .u8) 5 (t31.1 : List Int))] 5 ?_
       exact fk h
      cases h
     cases h
    refine oe (x := t1.2.2.2.2.1) h (fun q34 h => ?_) (fun o33 q34 h => ?_)
    ·skip
     refine oe (x := t1.2.2.2.2.2.1) h (fun q36 h => ?_) (fun o35 q36 h => ?_)
     ·skip
      refine oe (x := t1.2.2.2.2.2.2.1) h (fun q38 h => ?_) (fun o37 q38 h => ?_)
      ·skip
       refine cl4 cok.g (cell_parse.scnnnsnnn fu _ _ k2 q4 q6 q8 o9 q10 q34 q36 q38) (.tup [.ifc 126 (.v (.st .S_api_Fan) (o9 : S_api_Fan)), vb t1.2.2.2.2.2.2.2]) [] 2 ?_
       refine t_cond cok ?_
       refine bi h (fun c39 h => ?_) (fun c39 h => ?_)
       ·skip
        exact fk h
       refine civ (f := 167) (meth_ok (by kernel_rfl)) ?_
       refine bk h fun t40 k41 h => ?_
       refine cl4 cok.g (cell_fans_turned_cell_Turn_1.sc fu _ _ _ _ k41) (.tup [.sl 4 1 [], vb t40.2]) [(0, .box 3 (vi .i64 a1)), (1, .box 3 (vi .i64 a2)), (4, .row (.int .u8) 5 (t40.1 : List Int))] 5 ?_
       exact fk h
      cases h
     cases h
    cases h
   refine oe (x := t1.2.2.2.1) h (fun q43 h => ?_) (fun o42 q43 h => ?_)
   ·skip
    refine oe (x := t1.2.2.2.2.1) h (fun q45 h => ?_) (fun o44 q45 h => ?_)
    ·skip
     refine oe (x := t1.2.2.2.2.2.1) h (fun q47 h => ?_) (fun o46 q47 h => ?_)
     ·skip
      refine oe (x := t1.2.2.2.2.2.2.1) h (fun q49 h => ?_) (fun o48 q49 h => ?_)
      ·skip
       refine cl4 cok.g (cell_parse.scnnsnnnn fu _ _ k2 q4 q6 o7 q8 q43 q45 q47 q49) (.tup [.ifc 124 (.v (.st .S_api_Leaf) (o7 : S_api_Leaf)), vb t1.2.2.2.2.2.2.2]) [] 2 ?_
       refine t_cond cok ?_
       refine bi h (fun c50 h => ?_) (fun c50 h => ?_)
       ·skip
        exact fk h
       refine civ (f := 163) (meth_ok (by kernel_rfl)) ?_
       refine bk h fun t51 k52 h => ?_
       refine cl4 cok.g (cell_leaves_turned_cell_Turn_1.sc fu _ _ _ _ k52) (.tup [.sl 4 1 [], vb t51.2]) [(0, .box 3 (vi .i64 a1)), (1, .box 3 (vi .i64 a2)), (4, .row (.int .u8) 5 (t51.1 : List Int))] 5 ?_
       exact fk h
      cases h
     cases h
    cases h
   cases h
  refine oe (x := t1.2.2.1) h (fun q54 h => ?_) (fun o53 q54 h => ?_)
  ·skip
   refine oe (x := t1.2.2.2.1) h (fun q56 h => ?_) (fun o55 q56 h => ?_)
   ·skip
    refine oe (x := t1.2.2.2.2.1) h (fun q58 h => ?_) (fun o57 q58 h => ?_)
    ·skip
     refine oe (x := t1.2.2.2.2.2.1) h (fun q60 h => ?_) (fun o59 q60 h => ?_)
     ·skip
      refine oe (x := t1.2.2.2.2.2.2.1) h (fun q62 h => ?_) (fun o61 q62 h => ?_)
      ·skip
       refine cl4 cok.g (cell_parse.scnsnnnnn fu _ _ k2 q4 o5 q6 q54 q56 q58 q60 q62) (.tup [.ifc 98 (.v (.st .S_api_Queue) (o5 : S_api_Queue)), vb t1.2.2.2.2.2.2.2]) [] 2 ?_
       refine t_cond cok ?_
       refine bi h (fun c63 h => ?_) (fun c63 h => ?_)
       ·skip
        exact fk h
       refine civ (f := 156) (meth_ok (by kernel_rfl)) ?_
       refine bk h fun t64 k65 h => ?_
       refine cl4 cok.g (cell_queues_turned_cell_Turn_1.sc fu _ _ _ _ k65) (.tup [.sl 4 1 [], vb t64.2]) [(0, .box 3 (vi .i64 a1)), (1, .box 3 (vi .i64 a2)), (4, .row (.int .u8) 5 (t64.1 : List Int))] 5 ?_
       exact fk h
      cases h
     cases h
    cases h
   cases h
  cases h
 refine oe (x := t1.2.1) h (fun q67 h => ?_) (fun o66 q67 h => ?_)
 ·skip
  refine oe (x := t1.2.2.1) h (fun q69 h => ?_) (fun o68 q69 h => ?_)
  ·skip
   refine oe (x := t1.2.2.2.1) h (fun q71 h => ?_) (fun o70 q71 h => ?_)
   ·skip
    refine oe (x := t1.2.2.2.2.1) h (fun q73 h => ?_) (fun o72 q73 h => ?_)
    ·skip
     refine oe (x := t1.2.2.2.2.2.1) h (fun q75 h => ?_) (fun o74 q75 h => ?_)
     ·skip
      refine oe (x := t1.2.2.2.2.2.2.1) h (fun q77 h => ?_) (fun o76 q77 h => ?_)
      ·skip
       refine cl4 cok.g (cell_parse.scsnnnnnn fu _ _ k2 o3 q4 q67 q69 q71 q73 q75 q77) (.tup [.ifc 95 (.v (.st .S_api_Node) (o3 : S_api_Node)), vb t1.2.2.2.2.2.2.2]) [] 2 ?_
       refine t_cond cok ?_
       refine bi h (fun c78 h => ?_) (fun c78 h => ?_)
       ·skip
        exact fk h
       refine civ (f := 130) (meth_ok (by kernel_rfl)) ?_
       refine bk h fun t79 k80 h => ?_
       refine cl4 cok.g (cell_nodes_turned_cell_Turn_1.sc fu _ _ _ _ k80) (.tup [.sl 4 1 [], vb t79.2]) [(0, .box 3 (vi .i64 a1)), (1, .box 3 (vi .i64 a2)), (4, .row (.int .u8) 5 (t79.1 : List Int))] 5 ?_
       exact fk h
      cases h
     cases h
    cases h
   cases h
  cases h
 cases h
end Go.Proofs.YtdifnahlheogdaaGreat
namespace Go.Proofs
open Go.Shelf
def Tryz.lays156_ren : Go.Shelf.Ren := ⟨fun | 156 => 35 | 165 => 60 | 166 => 61 | 169 => 62 | 240 => 82 | 241 => 83 | 276 => 101 | 277 => 102 | n => n, fun | 31 => 102 | 9 => 9 | 3 => 3 | 4 => 4 | 0 => 0 | 20 => 20 | 72 => 139 | 76 => 143 | 70 => 137 | 37 => 22 | 75 => 142 | 127 => 165 | 164 => 177 | 5 => 5 | 80 => 145 | n => n, fun | n => n⟩
theorem Tryz.lays156 : Go.Proofs.Lays.n156 Tryz.prog Tryz.lays156_ren := {
  mixed := by kernel_rfl
  f156 := Tryz.func35.trans (congrArg some (by kernel_rfl))
  f165 := Tryz.func60.trans (congrArg some (by kernel_rfl))
  f166 := Tryz.func61.trans (congrArg some (by kernel_rfl))
  f169 := Tryz.func62.trans (congrArg some (by kernel_rfl))
  f240 := Tryz.func82.trans (congrArg some (by kernel_rfl))
  f241 := Tryz.func83.trans (congrArg some (by kernel_rfl))
  f276 := Tryz.func101.trans (congrArg some (by kernel_rfl))
  f277 := Tryz.func102.trans (congrArg some (by kernel_rfl))
  t0 := Tryz.underlying0
  a0 := Tryz.isAgg0
  z0 := Tryz.sizeOf0
  v0 := Tryz.zeroValue0
  t3 := Tryz.underlying3
  a3 := Tryz.isAgg3
  z3 := Tryz.sizeOf3
  v3 := Tryz.zeroValue3
  t4 := Tryz.underlying4
  a4 := Tryz.isAgg4
  z4 := Tryz.sizeOf4
  v4 := Tryz.zeroValue4
  t9 := Tryz.underlying9
  a9 := Tryz.isAgg9
  z9 := Tryz.sizeOf9
  v9 := Tryz.zeroValue9
  t20 := Tryz.underlying20
  a20 := Tryz.isAgg20
  z20 := Tryz.sizeOf20
  v20 := Tryz.zeroValue20
  t31 := Tryz.underlying102
  a31 := Tryz.isAgg102
  z31 := Tryz.sizeOf102
  v31 := Tryz.zeroValue102
  t37 := Tryz.underlying22
  a37 := Tryz.isAgg22
  z37 := Tryz.sizeOf22
  v37 := Tryz.zeroValue22
  t70 := Tryz.underlying137
  a70 := Tryz.isAgg137
  z70 := Tryz.sizeOf137
  v70 := Tryz.zeroValue137
  t72 := Tryz.underlying139
  a72 := Tryz.isAgg139
  z72 := Tryz.sizeOf139
  v72 := Tryz.zeroValue139
  t75 := Tryz.underlying142
  a75 := Tryz.isAgg142
  z75 := Tryz.sizeOf142
  v75 := Tryz.zeroValue142
  t76 := Tryz.underlying143
  a76 := Tryz.isAgg143
  z76 := Tryz.sizeOf143
  v76 := Tryz.zeroValue143
  t127 := Tryz.underlying165
  a127 := Tryz.isAgg165
  z127 := Tryz.sizeOf165
  v127 := Tryz.zeroValue165
  t164 := Tryz.underlying177
  a164 := Tryz.isAgg177
  z164 := Tryz.sizeOf177
  v164 := Tryz.zeroValue177 }
theorem Tryz.Builder_Extra_156 : Builder.Extra Tryz.prog Tryz.lays156_ren := {
  sizeBuilder := by kernel_rfl
  liesBuilder := by kernel_rfl
  t5 := Tryz.underlying5
  a5 := Tryz.isAgg5
  z5 := Tryz.sizeOf5
  v5 := Tryz.zeroValue5
  infoByte := by kernel_rfl
  cellsByte := by kernel_rfl
  sizeByte := by kernel_rfl
  neB5 := by decide }
open Go.RowKit in
theorem Tryz.strings_Join_none (a : Option Addr) (c : Nat) (sep : ByteArray) (w : World) :
    Calls Tryz.prog 35 #[.slice a 0 c, .string sep] w fun e w' => e = .returned (.string ⟨#[]⟩) ∧ w' = w := Any.strings_Join_none Tryz.lays156 Tryz.Builder_Extra_156 a c sep w
open Go.RowKit in
theorem Tryz.strings_Join (bk o c : Nat) (xs : List ByteArray) (sep : ByteArray) (w : World) (hcells : ∀ (j : Nat) x, xs[j]? = some x → w.cell? ⟨bk, o + j, none⟩ = some (.string x)) (hbk : bk < w.heap.size) (hN : xs.length ≤ 140737488355328) (hcap : xs.length ≤ c) (hlen : (Lib.join (xs.map (·.data.toList)) sep.data.toList).length ≤ 140737488355328) :
    Calls Tryz.prog 35 #[.slice (some ⟨bk, o, none⟩) xs.length c, .string sep] w fun e w' => e = .returned (.string ⟨(Lib.join (xs.map (·.data.toList)) sep.data.toList).toArray⟩) ∧ Below w.heap.size w w' := Any.strings_Join Tryz.lays156 Tryz.Builder_Extra_156 bk o c xs sep w hcells hbk hN hcap hlen
def Tryz.lays171_ren : Go.Shelf.Ren := ⟨fun | 171 => 141 | 243 => 142 | 246 => 143 | 283 => 144 | 284 => 145 | 285 => 146 | 286 => 147 | 129 => 149 | 317 => 148 | 318 => 150 | 319 => 151 | 320 => 152 | 337 => 153 | 338 => 154 | n => n, fun | 3 => 3 | 9 => 9 | 2 => 2 | 4 => 4 | 171 => 219 | 0 => 0 | 53 => 106 | 37 => 22 | 5 => 5 | 173 => 222 | 212 => 225 | 51 => 148 | 20 => 20 | 213 => 226 | 46 => 195 | 232 => 229 | 233 => 230 | n => n, fun | 17 => 1 | 18 => 2 | 19 => 3 | n => n⟩
theorem Tryz.lays171 : Go.Proofs.Lays.n171 Tryz.prog Tryz.lays171_ren := {
  mixed := by kernel_rfl
  f129 := Tryz.func149.trans (congrArg some (by kernel_rfl))
  f171 := Tryz.func141.trans (congrArg some (by kernel_rfl))
  f243 := Tryz.func142.trans (congrArg some (by kernel_rfl))
  f246 := Tryz.func143.trans (congrArg some (by kernel_rfl))
  f283 := Tryz.func144.trans (congrArg some (by kernel_rfl))
  f284 := Tryz.func145.trans (congrArg some (by kernel_rfl))
  f285 := Tryz.func146.trans (congrArg some (by kernel_rfl))
  f286 := Tryz.func147.trans (congrArg some (by kernel_rfl))
  f317 := Tryz.func148.trans (congrArg some (by kernel_rfl))
  f318 := Tryz.func150.trans (congrArg some (by kernel_rfl))
  f319 := Tryz.func151.trans (congrArg some (by kernel_rfl))
  f320 := Tryz.func152.trans (congrArg some (by kernel_rfl))
  f337 := Tryz.func153.trans (congrArg some (by kernel_rfl))
  f338 := Tryz.func154.trans (congrArg some (by kernel_rfl))
  t0 := Tryz.underlying0
  a0 := Tryz.isAgg0
  z0 := Tryz.sizeOf0
  v0 := Tryz.zeroValue0
  t2 := Tryz.underlying2
  a2 := Tryz.isAgg2
  z2 := Tryz.sizeOf2
  v2 := Tryz.zeroValue2
  t3 := Tryz.underlying3
  a3 := Tryz.isAgg3
  z3 := Tryz.sizeOf3
  v3 := Tryz.zeroValue3
  t4 := Tryz.underlying4
  a4 := Tryz.isAgg4
  z4 := Tryz.sizeOf4
  v4 := Tryz.zeroValue4
  t5 := Tryz.underlying5
  a5 := Tryz.isAgg5
  z5 := Tryz.sizeOf5
  v5 := Tryz.zeroValue5
  t9 := Tryz.underlying9
  a9 := Tryz.isAgg9
  z9 := Tryz.sizeOf9
  v9 := Tryz.zeroValue9
  t20 := Tryz.underlying20
  a20 := Tryz.isAgg20
  z20 := Tryz.sizeOf20
  v20 := Tryz.zeroValue20
  t37 := Tryz.underlying22
  a37 := Tryz.isAgg22
  z37 := Tryz.sizeOf22
  v37 := Tryz.zeroValue22
  t46 := Tryz.underlying195
  a46 := Tryz.isAgg195
  z46 := Tryz.sizeOf195
  v46 := Tryz.zeroValue195
  t51 := Tryz.underlying148
  a51 := Tryz.isAgg148
  z51 := Tryz.sizeOf148
  v51 := Tryz.zeroValue148
  t53 := Tryz.underlying106
  a53 := Tryz.isAgg106
  z53 := Tryz.sizeOf106
  v53 := Tryz.zeroValue106
  t171 := Tryz.underlying219
  a171 := Tryz.isAgg219
  z171 := Tryz.sizeOf219
  v171 := Tryz.zeroValue219
  t173 := Tryz.underlying222
  a173 := Tryz.isAgg222
  z173 := Tryz.sizeOf222
  v173 := Tryz.zeroValue222
  t212 := Tryz.underlying225
  a212 := Tryz.isAgg225
  z212 := Tryz.sizeOf225
  v212 := Tryz.zeroValue225
  t213 := Tryz.underlying226
  a213 := Tryz.isAgg226
  z213 := Tryz.sizeOf226
  t232 := Tryz.underlying229
  a232 := Tryz.isAgg229
  z232 := Tryz.sizeOf229
  v232 := Tryz.zeroValue229
  t233 := Tryz.underlying230
  a233 := Tryz.isAgg230
  z233 := Tryz.sizeOf230
  v233 := Tryz.zeroValue230
  g17 := by kernel_rfl
  g18 := by kernel_rfl
  g19 := by kernel_rfl }
open Go.RowKit Go.Sort Go.Lib in
theorem Tryz.strconv_Itoa_small (i : Nat) (hi : i < 100) (w : World) :
    Calls Tryz.prog 141 #[.int .i64 i] w fun e w' => e = .returned (.string ⟨(Lib.decDigits i).toArray⟩) ∧ w' = w := Any.strconv_Itoa_small Tryz.lays171 i hi w
end Go.Proofs
namespace Go.Proofs.YtdifnahlheogdaaGreat
open Go Go.Xw Go.Yw
def strconv_Itoa_1.f (fu : Nat) (a0 : Int) : Option (List UInt8) := if 0 ≤ a0 ∧ a0 < 100 then some (Lib.decDigits a0.toNat) else none
theorem strconv_Itoa_1.sc (fu : Nat) (a0 : Int) (r : List UInt8) (h : strconv_Itoa_1.f fu a0 = some r) : SC Tryz.prog CT 141 [vi .i64 a0] [] (vs r) [] := by
 unfold strconv_Itoa_1.f at h
 obtain ⟨g, h⟩ := gs h
 cases h
 exact sc_itoa_small (by kernel_rfl) (fun i hi w => Tryz.strconv_Itoa_small i hi w) g
def digit_Show.f (fu : Nat) (a0 : Int) : Option (List UInt8) := ((strconv_Itoa_1.f fu a0).bind fun t1 => some (t1))
theorem digit_Show.sc (fu : Nat) (a0 : Int) (r : (List UInt8)) (h : digit_Show.f fu a0 = some r) : SC Tryz.prog CT 140 [vi .i64 a0] [] (vs r) [] := by
 unfold digit_Show.f at h
 refine sq Tryz.func140 r (fun r => vs r) (fun r => []) fun X => ?_
 refine bk h fun t1 k2 h => ?_
 refine cl4 cok.g (strconv_Itoa_1.sc fu _ _ k2) (vs t1) [] 0 ?_
 exact fk h
def cell_leaves_words.s0 (fu : Nat) (a0 : S_api_Leaf) : ((List (List UInt8)) × Int) → Option (Sum (List (List UInt8)) ((List (List UInt8)) × Int)) := fun s1 => (if (decide (s1.2 < 7)) then if 0 ≤ s1.2 ∧ s1.2 < 7 then (((if (Arr.get a0.Seats s1.2).Live then some ([43]) else some ([45])) : Option (List UInt8)).bind fun x7 => ((digit_Show.f fu ((Arr.get a0.Seats s1.2).Gen)).bind fun t11 => if List.length t11 + List.length x7 ≤ LIM then ((digit_Show.f fu ((Arr.get a0.Seats s1.2).Next)).bind fun t13 => if List.length (t11 ++ x7) + List.length t13 ≤ LIM then if List.length s1.1 + List.length [((t11 ++ x7) ++ t13)] ≤ LIM then some (Sum.inr ((s1.1 ++ [((t11 ++ x7) ++ t13)]), (IntKind.i64.wrap (s1.2 + 1)))) else none else none) else none)) else none else some (Sum.inl (s1.1)))
def cell_leaves_words.f (fu : Nat) (a0 : S_api_Leaf) : Option (List (List UInt8)) := ((loopM (cell_leaves_words.s0 fu a0) fu ([[108, 101, 97, 102]], 0)).bind fun e2 => some (e2))
theorem cell_leaves_words.sc (fu : Nat) (a0 : S_api_Leaf) (r : (List (List UInt8))) (h : cell_leaves_words.f fu a0 = some r) : SC Tryz.prog CT 164 [.v (.st .S_api_Leaf) (a0 : S_api_Leaf)] [] (.sl 0 1 []) [.row (.str) 9 (r : List (List UInt8))] := by
 unfold cell_leaves_words.f at h
 refine sq Tryz.func164 r (fun r => .sl 0 1 []) (fun r => [.row (.str) 9 (r : List (List UInt8))]) fun X => ?_
 refine bk h fun e2 l3 h => ?_
 refine t_cutx cok 0 (fun (e2 : (List (List UInt8))) => ⟨[(3, .sl 0 1 [])], [.row (.str) 9 (e2 : List (List UInt8))]⟩) e2 ?_ ?_
 ·skip
  have h4 := h
  refine t_loop cok (fun (s1 : (List (List UInt8)) × Int) => ⟨[(3, .sl 0 1 []), (10, .v (.arr 7 (.st .S_api_Seat)) (a0.Seats : Arr 7 S_api_Seat)), (11, vi .i64 s1.2)], [.row (.str) 9 (s1.1 : List (List UInt8))]⟩) l3 (by kernel_rfl) (fun s1 x5 h => ?_)
  unfold cell_leaves_words.s0 at h
  refine t_cond cok ?_
  refine bi h (fun c6 h => ?_) (fun c6 h => ?_)
  ·skip
   refine ag h fun h => ?_
   refine bk h fun x7 j8 h => ?_
   refine t_cut cok (fun (x7 : (List UInt8)) => ⟨[(3, .sl 0 1 []), (5, .ptr 1 0), (6, vs x7), (10, .v (.arr 7 (.st .S_api_Seat)) (a0.Seats : Arr 7 S_api_Seat)), (11, vi .i64 s1.2)], [.row (.str) 9 (s1.1 : List (List UInt8)), .box 51 (.v (.st .S_api_Seat) ((Arr.get a0.Seats s1.2) : S_api_Seat))]⟩) x7 ?_ ?_
   ·skip
    have h9 := h
    have h := j8
    refine t_cond cok ?_
    refine bi h (fun c10 h => ?_) (fun c10 h => ?_)
    ·skip
     exact ek h
    exact ek h
   refine t_draw cok mo [⟨0, false, [3], [], 0, []⟩, ⟨1, false, [5], [], 0, []⟩, ⟨2, false, [17], [1], 0, [1]⟩, ⟨3, true, [18], [], 0, [1, 2]⟩, ⟨4, false, [6], [], 0, []⟩, ⟨5, false, [19, 20], [], 0, [1, 2, 3, 4]⟩, ⟨6, false, [5], [], 0, []⟩, ⟨7, false, [22], [1], 0, [6]⟩, ⟨8, true, [23], [], 0, [1, 2, 3, 6, 7]⟩, ⟨9, false, [21, 24], [], 0, [1, 2, 3, 4, 5, 6, 7, 8]⟩, ⟨10, true, [25], [], 1, [1, 2, 3, 4, 5, 6, 7, 8, 9]⟩, ⟨11, true, [16, 26], [0, 2], 1, cl 11⟩, ⟨12, false, [27], [], 0, cl 12⟩] (by kernel_rfl) ?_
   refine bk h fun t11 k12 h => ?_
   refine cl4 cok.g (digit_Show.sc fu _ _ k12) (vs t11) [] 2 ?_
   refine ag h fun h => ?_
   refine bk h fun t13 k14 h => ?_
   refine cl4 cok.g (digit_Show.sc fu _ _ k14) (vs t13) [] 2 ?_
   refine ag h fun h => ?_
   refine ag h fun h => ?_
   exact lik h
  exact lpx h fun hy => ek (sj hy)
 exact fk h
def strings_Join.f (fu : Nat) (a0 : List (List UInt8)) (a1 : List UInt8) : Option (List UInt8) := if List.length a0 ≤ 140737488355328 ∧ List.length (Lib.join a0 a1) ≤ 140737488355328 then some (Lib.join a0 a1) else none
theorem strings_Join.sc (fu : Nat) (a0 : List (List UInt8)) (a1 : List UInt8) (r : List UInt8) (h : strings_Join.f fu a0 a1 = some r) : SC Tryz.prog CT 35 [.v (.sl (.str)) (a0 : List (List UInt8)), vs a1] [] (vs r) [] := by
 unfold strings_Join.f at h
 obtain ⟨g, h⟩ := gs h
 cases h
 exact sc_join cok.g (by kernel_rfl) (fun a c sep w => Tryz.strings_Join_none a c sep w) (fun bk o c xs sep w h1 h2 h3 h4 h5 => Tryz.strings_Join bk o c xs sep w h1 h2 h3 h4 h5) g.1 g.2
def cell_Text.f (fu : Nat) (a0 : List Int) : Option (List UInt8) := ((cell_parse.f fu a0).bind fun t1 => (Option.elim t1.1 ((Option.elim t1.2.1 ((Option.elim t1.2.2.1 ((Option.elim t1.2.2.2.1 ((Option.elim t1.2.2.2.2.1 ((Option.elim t1.2.2.2.2.2.1 ((Option.elim t1.2.2.2.2.2.2.1 ((if (!t1.2.2.2.2.2.2.2) then some ([110, 111, 110, 101]) else none)) (fun o15 => (if (!t1.2.2.2.2.2.2.2) then some ([110, 111, 110, 101]) else none)))) (fun o13 => (Option.elim t1.2.2.2.2.2.2.1 ((if (!t1.2.2.2.2.2.2.2) then some ([110, 111, 110, 101]) else none)) (fun o19 => none))))) (fun o11 => (Option.elim t1.2.2.2.2.2.1 ((Option.elim t1.2.2.2.2.2.2.1 ((if (!t1.2.2.2.2.2.2.2) then some ([110, 111, 110, 101]) else none)) (fun o24 => none))) (fun o22 => none))))) (fun o9 => (Option.elim t1.2.2.2.2.1 ((Option.elim t1.2.2.2.2.2.1 ((Option.elim t1.2.2.2.2.2.2.1 ((if (!t1.2.2.2.2.2.2.2) then some ([110, 111, 110, 101]) else none)) (fun o31 => none))) (fun o29 => none))) (fun o27 => none))))) (fun o7 => (Option.elim t1.2.2.2.1 ((Option.elim t1.2.2.2.2.1 ((Option.elim t1.2.2.2.2.2.1 ((Option.elim t1.2.2.2.2.2.2.1 ((if (!t1.2.2.2.2.2.2.2) then some ([110, 111, 110, 101]) else ((cell_leaves_words.f fu o7).bind fun t43 => ((strings_Join.f fu t43 [32]).bind fun t45 => some (t45))))) (fun o40 => none))) (fun o38 => none))) (fun o36 => none))) (fun o34 => none))))) (fun o5 => (Option.elim t1.2.2.1 ((Option.elim t1.2.2.2.1 ((Option.elim t1.2.2.2.2.1 ((Option.elim t1.2.2.2.2.2.1 ((Option.elim t1.2.2.2.2.2.2.1 ((if (!t1.2.2.2.2.2.2.2) then some ([110, 111, 110, 101]) else none)) (fun o55 => none))) (fun o53 => none))) (fun o51 => none))) (fun o49 => none))) (fun o47 => none))))) (fun o3 => (Option.elim t1.2.1 ((Option.elim t1.2.2.1 ((Option.elim t1.2.2.2.1 ((Option.elim t1.2.2.2.2.1 ((Option.elim t1.2.2.2.2.2.1 ((Option.elim t1.2.2.2.2.2.2.1 ((if (!t1.2.2.2.2.2.2.2) then some ([110, 111, 110, 101]) else none)) (fun o68 => none))) (fun o66 => none))) (fun o64 => none))) (fun o62 => none))) (fun o60 => none))) (fun o58 => none)))))
theorem cell_Text.sc (fu : Nat) (a0 : List Int) (r : (List UInt8)) (h : cell_Text.f fu a0 = some r) : SC Tryz.prog CT 15 [.v (.sl (.int .u8)) (a0 : List Int)] [] (vs r) [] := by
 unfold cell_Text.f at h
 refine sq Tryz.func15 r (fun r => vs r) (fun r => []) fun X => ?_
 refine bk h fun t1 k2 h => ?_
 refine oe (x := t1.1) h (fun q4 h => ?_) (fun o3 q4 h => ?_)
 ·skip
  refine oe (x := t1.2.1) h (fun q6 h => ?_) (fun o5 q6 h => ?_)
  ·skip
   refine oe (x := t1.2.2.1) h (fun q8 h => ?_) (fun o7 q8 h => ?_)
   ·skip
    refine oe (x := t1.2.2.2.1) h (fun q10 h => ?_) (fun o9 q10 h => ?_)
    ·skip
     refine oe (x := t1.2.2.2.2.1) h (fun q12 h => ?_) (fun o11 q12 h => ?_)
     ·skip
      refine oe (x := t1.2.2.2.2.2.1) h (fun q14 h => ?_) (fun o13 q14 h => ?_)
      ·skip
       refine oe (x := t1.2.2.2.2.2.2.1) h (fun q16 h => ?_) (fun o15 q16 h => ?_)
       ·skip
        refine cl4 cok.g (cell_parse.scnnnnnnn fu _ _ k2 q4 q6 q8 q10 q12 q14 q16) (.tup [.nili, vb t1.2.2.2.2.2.2.2]) [] 0 ?_
        refine t_cond cok ?_
        refine bi h (fun c17 h => ?_) (fun c17 h => ?_)
        ·skip
         exact fk h
        cases h
       refine cl4 cok.g (cell_parse.scnnnnnns fu _ _ k2 q4 q6 q8 q10 q12 q14 o15 q16) (.tup [.ifc 136 (.v (.st .S_api_Super) (o15 : S_api_Super)), vb t1.2.2.2.2.2.2.2]) [] 0 ?_
       refine t_cond cok ?_
       refine bi h (fun c18 h => ?_) (fun c18 h => ?_)
       ·skip
        exact fk h
       cases h
      refine oe (x := t1.2.2.2.2.2.2.1) h (fun q20 h => ?_) (fun o19 q20 h => ?_)
      ·skip
       refine cl4 cok.g (cell_parse.scnnnnnsn fu _ _ k2 q4 q6 q8 q10 q12 o13 q14 q20) (.tup [.ifc 134 (.v (.st .S_api_Dir) (o13 : S_api_Dir)), vb t1.2.2.2.2.2.2.2]) [] 0 ?_
       refine t_cond cok ?_
       refine bi h (fun c21 h => ?_) (fun c21 h => ?_)
       ·skip
        exact fk h
       cases h
      cases h
     refine oe (x := t1.2.2.2.2.2.1) h (fun q23 h => ?_) (fun o22 q23 h => ?_)
     ·skip
      refine oe (x := t1.2.2.2.2.2.2.1) h (fun q25 h => ?_) (fun o24 q25 h => ?_)
      ·skip
       refine cl4 cok.g (cell_parse.scnnnnsnn fu _ _ k2 q4 q6 q8 q10 o11 q12 q23 q25) (.tup [.ifc 128 (.v (.st .S_api_Chart) (o11 : S_api_Chart)), vb t1.2.2.2.2.2.2.2]) [] 0 ?_
       refine t_cond cok ?_
       refine bi h (fun c26 h => ?_) (fun c26 h => ?_)
       ·skip
        exact fk h
       cases h
      cases h
     cases h
    refine oe (x := t1.2.2.2.2.1) h (fun q28 h => ?_) (fun o27 q28 h => ?_)
    ·skip
     refine oe (x := t1.2.2.2.2.2.1) h (fun q30 h => ?_) (fun o29 q30 h => ?_)
     ·skip
      refine oe (x := t1.2.2.2.2.2.2.1) h (fun q32 h => ?_) (fun o31 q32 h => ?_)
      ·skip
       refine cl4 cok.g (cell_parse.scnnnsnnn fu _ _ k2 q4 q6 q8 o9 q10 q28 q30 q32) (.tup [.ifc 126 (.v (.st .S_api_Fan) (o9 : S_api_Fan)), vb t1.2.2.2.2.2.2.2]) [] 0 ?_
       refine t_cond cok ?_
       refine bi h (fun c33 h => ?_) (fun c33 h => ?_)
       ·skip
        exact fk h
       cases h
      cases h
     cases h
    cases h
   refine oe (x := t1.2.2.2.1) h (fun q35 h => ?_) (fun o34 q35 h => ?_)
   ·skip
    refine oe (x := t1.2.2.2.2.1) h (fun q37 h => ?_) (fun o36 q37 h => ?_)
    ·skip
     refine oe (x := t1.2.2.2.2.2.1) h (fun q39 h => ?_) (fun o38 q39 h => ?_)
     ·skip
      refine oe (x := t1.2.2.2.2.2.2.1) h (fun q41 h => ?_) (fun o40 q41 h => ?_)
      ·skip
       refine cl4 cok.g (cell_parse.scnnsnnnn fu _ _ k2 q4 q6 o7 q8 q35 q37 q39 q41) (.tup [.ifc 124 (.v (.st .S_api_Leaf) (o7 : S_api_Leaf)), vb t1.2.2.2.2.2.2.2]) [] 0 ?_
       refine t_cond cok ?_
       refine bi h (fun c42 h => ?_) (fun c42 h => ?_)
       ·skip
        exact fk h
       refine civ (f := 164) (meth_ok (by kernel_rfl)) ?_
       refine bk h fun t43 k44 h => ?_
       refine cl4 cok.g (cell_leaves_words.sc fu _ _ k44) (.sl 0 1 []) [(0, .row (.str) 9 (t43 : List (List UInt8)))] 1 ?_
       refine bk h fun t45 k46 h => ?_
       refine cl4 cok.g (strings_Join.sc fu _ _ _ k46) (vs t45) [] 1 ?_
       exact fk h
      cases h
     cases h
    cases h
   cases h
  refine oe (x := t1.2.2.1) h (fun q48 h => ?_) (fun o47 q48 h => ?_)
  ·skip
   refine oe (x := t1.2.2.2.1) h (fun q50 h => ?_) (fun o49 q50 h => ?_)
   ·skip
    refine oe (x := t1.2.2.2.2.1) h (fun q52 h => ?_) (fun o51 q52 h => ?_)
    ·skip
     refine oe (x := t1.2.2.2.2.2.1) h (fun q54 h => ?_) (fun o53 q54 h => ?_)
     ·skip
      refine oe (x := t1.2.2.2.2.2.2.1) h (fun q56 h => ?_) (fun o55 q56 h => ?_)
      ·skip
       refine cl4 cok.g (cell_parse.scnsnnnnn fu _ _ k2 q4 o5 q6 q48 q50 q52 q54 q56) (.tup [.ifc 98 (.v (.st .S_api_Queue) (o5 : S_api_Queue)), vb t1.2.2.2.2.2.2.2]) [] 0 ?_
       refine t_cond cok ?_
       refine bi h (fun c57 h => ?_) (fun c57 h => ?_)
       ·skip
        exact fk h
       cases h
      cases h
     cases h
    cases h
   cases h
  cases h
 refine oe (x := t1.2.1) h (fun q59 h => ?_) (fun o58 q59 h => ?_)
 ·skip
  refine oe (x := t1.2.2.1) h (fun q61 h => ?_) (fun o60 q61 h => ?_)
  ·skip
   refine oe (x := t1.2.2.2.1) h (fun q63 h => ?_) (fun o62 q63 h => ?_)
   ·skip
    refine oe (x := t1.2.2.2.2.1) h (fun q65 h => ?_) (fun o64 q65 h => ?_)
    ·skip
     refine oe (x := t1.2.2.2.2.2.1) h (fun q67 h => ?_) (fun o66 q67 h => ?_)
     ·skip
      refine oe (x := t1.2.2.2.2.2.2.1) h (fun q69 h => ?_) (fun o68 q69 h => ?_)
      ·skip
       refine cl4 cok.g (cell_parse.scsnnnnnn fu _ _ k2 o3 q4 q59 q61 q63 q65 q67 q69) (.tup [.ifc 95 (.v (.st .S_api_Node) (o3 : S_api_Node)), vb t1.2.2.2.2.2.2.2]) [] 0 ?_
       refine t_cond cok ?_
       refine bi h (fun c70 h => ?_) (fun c70 h => ?_)
       ·skip
        exact fk h
       cases h
      cases h
     cases h
    cases h
   cases h
  cases h
 cases h
def rickyardref01_Octet.s0 (fu : Nat) (a1 : Int) : (Int × Int) → Option (Sum Int (Int × Int)) := fun s1 => (if (decide (s1.2 < a1)) then some (Sum.inr ((IntKind.u64.wrap (Int.tdiv s1.1 256)), (IntKind.i64.wrap (s1.2 + 1)))) else some (Sum.inl (s1.1)))
def rickyardref01_Octet.f (fu : Nat) (a0 : Int) (a1 : Int) : Option Int := ((loopM (rickyardref01_Octet.s0 fu a1) fu (a0, 0)).bind fun e2 => some ((IntKind.u8.wrap (Int.tmod e2 256))))
theorem rickyardref01_Octet.sc (fu : Nat) (a0 : Int) (a1 : Int) (r : Int) (h : rickyardref01_Octet.f fu a0 a1 = some r) : SC Tryz.prog CT 63 [vi .u64 a0, vi .i64 a1] [] (vi .u8 r) [] := by
 unfold rickyardref01_Octet.f at h
 refine sq Tryz.func63 r (fun r => vi .u8 r) (fun r => []) fun X => ?_
 refine bk h fun e2 l3 h => ?_
 refine t_cutx cok 0 (fun (e2 : Int) => ⟨[(0, vi .u64 e2)], []⟩) e2 ?_ ?_
 ·skip
  have h4 := h
  refine t_loop cok (fun (s1 : Int × Int) => ⟨[(0, vi .u64 s1.1), (1, vi .i64 a1), (5, vi .i64 s1.2)], []⟩) l3 (by kernel_rfl) (fun s1 x5 h => ?_)
  unfold rickyardref01_Octet.s0 at h
  refine t_cond cok ?_
  refine bi h (fun c6 h => ?_) (fun c6 h => ?_)
  ·skip
   refine ⟨by decide, ?_⟩
   exact lik h
  exact lpx h fun hy => ek (sj hy)
 refine ⟨by decide, ?_⟩
 exact fk h
def rickyardref01_Lay.s0 (fu : Nat) (a0 : Int) (a1 : Int) : ((List UInt8) × Int) → Option (Sum (List UInt8) ((List UInt8) × Int)) := fun s1 => (if (decide (s1.2 < a1)) then ((rickyardref01_Octet.f fu a0 s1.2).bind fun t7 => if List.length s1.1 + List.length (List.map toB [t7]) ≤ LIM then some (Sum.inr ((s1.1 ++ (List.map toB [t7])), (IntKind.i64.wrap (s1.2 + 1)))) else none) else some (Sum.inl (s1.1)))
def rickyardref01_Lay.f (fu : Nat) (a0 : Int) (a1 : Int) : Option (List UInt8) := ((loopM (rickyardref01_Lay.s0 fu a0 a1) fu ([], 0)).bind fun e2 => some (e2))
theorem rickyardref01_Lay.sc (fu : Nat) (a0 : Int) (a1 : Int) (r : (List UInt8)) (h : rickyardref01_Lay.f fu a0 a1 = some r) : SC Tryz.prog CT 37 [vi .u64 a0, vi .i64 a1] [] (vs r) [] := by
 unfold rickyardref01_Lay.f at h
 refine sq Tryz.func37 r (fun r => vs r) (fun r => []) fun X => ?_
 refine bk h fun e2 l3 h => ?_
 refine t_cutx cok 0 (fun (e2 : (List UInt8)) => ⟨[(5, vs e2)], []⟩) e2 ?_ ?_
 ·skip
  have h4 := h
  refine t_loop cok (fun (s1 : (List UInt8) × Int) => ⟨[(0, vi .u64 a0), (1, vi .i64 a1), (5, vs s1.1), (6, vi .i64 s1.2)], []⟩) l3 (by kernel_rfl) (fun s1 x5 h => ?_)
  unfold rickyardref01_Lay.s0 at h
  refine t_cond cok ?_
  refine bi h (fun c6 h => ?_) (fun c6 h => ?_)
  ·skip
   refine bk h fun t7 k8 h => ?_
   refine cl4 cok.g (rickyardref01_Octet.sc fu _ _ _ k8) (vi .u8 t7) [] 0 ?_
   refine ag h fun h => ?_
   exact lik h
  exact lpx h fun hy => ek (sj hy)
 exact fk h
def rickyardref02_Step.f (fu : Nat) (a0 : Int) : Option Int := (if (decide ((Int.tmod a0 2) = 1)) then some ((bXor .u32 (IntKind.u32.wrap (Int.tdiv a0 2)) 2197175160)) else some ((IntKind.u32.wrap (Int.tdiv a0 2))))
theorem rickyardref02_Step.sc (fu : Nat) (a0 : Int) (r : Int) (h : rickyardref02_Step.f fu a0 = some r) : SC Tryz.prog CT 103 [vi .u32 a0] [] (vi .u32 r) [] := by
 unfold rickyardref02_Step.f at h
 refine sq Tryz.func103 r (fun r => vi .u32 r) (fun r => []) fun X => ?_
 refine ⟨by decide, ?_⟩
 refine t_cond cok ?_
 refine bi h (fun c1 h => ?_) (fun c1 h => ?_)
 ·skip
  refine ⟨by decide, ?_⟩
  exact fk h
 refine ⟨by decide, ?_⟩
 exact fk h
def rickyardref02_Steps.s0 (fu : Nat) (a1 : Int) : (Int × Int) → Option (Sum Int (Int × Int)) := fun s1 => (if (decide (s1.2 < a1)) then ((rickyardref02_Step.f fu s1.1).bind fun t7 => some (Sum.inr (t7, (IntKind.i64.wrap (s1.2 + 1))))) else some (Sum.inl (s1.1)))
def rickyardref02_Steps.f (fu : Nat) (a0 : Int) (a1 : Int) : Option Int := ((loopM (rickyardref02_Steps.s0 fu a1) fu (a0, 0)).bind fun e2 => some (e2))
theorem rickyardref02_Steps.sc (fu : Nat) (a0 : Int) (a1 : Int) (r : Int) (h : rickyardref02_Steps.f fu a0 a1 = some r) : SC Tryz.prog CT 84 [vi .u32 a0, vi .i64 a1] [] (vi .u32 r) [] := by
 unfold rickyardref02_Steps.f at h
 refine sq Tryz.func84 r (fun r => vi .u32 r) (fun r => []) fun X => ?_
 refine bk h fun e2 l3 h => ?_
 refine t_cutx cok 0 (fun (e2 : Int) => ⟨[(0, vi .u32 e2)], []⟩) e2 ?_ ?_
 ·skip
  have h4 := h
  refine t_loop cok (fun (s1 : Int × Int) => ⟨[(0, vi .u32 s1.1), (1, vi .i64 a1), (5, vi .i64 s1.2)], []⟩) l3 (by kernel_rfl) (fun s1 x5 h => ?_)
  unfold rickyardref02_Steps.s0 at h
  refine t_cond cok ?_
  refine bi h (fun c6 h => ?_) (fun c6 h => ?_)
  ·skip
   refine bk h fun t7 k8 h => ?_
   refine cl4 cok.g (rickyardref02_Step.sc fu _ _ k8) (vi .u32 t7) [] 0 ?_
   exact lik h
  exact lpx h fun hy => ek (sj hy)
 exact fk h
def rickyardref02_Sum.s0 (fu : Nat) (a0 : List Int) : (Int × Int) → Option (Sum Int (Int × Int)) := fun s1 => (if (decide (s1.2 < (List.length a0 : Int))) then if 0 ≤ s1.2 ∧ s1.2 < (List.length a0 : Int) then ((rickyardref02_Steps.f fu (bXor .u32 s1.1 (IntKind.u32.wrap (ix a0 s1.2))) 8).bind fun t7 => some (Sum.inr (t7, (IntKind.i64.wrap (s1.2 + 1))))) else none else some (Sum.inl (s1.1)))
def rickyardref02_Sum.f (fu : Nat) (a0 : List Int) : Option Int := ((loopM (rickyardref02_Sum.s0 fu a0) fu (4294967295, 0)).bind fun e2 => some ((IntKind.u32.wrap (4294967295 - e2))))
theorem rickyardref02_Sum.sc (fu : Nat) (a0 : List Int) (r : Int) (h : rickyardref02_Sum.f fu a0 = some r) : SC Tryz.prog CT 65 [.v (.sl (.int .u8)) (a0 : List Int)] [] (vi .u32 r) [] := by
 unfold rickyardref02_Sum.f at h
 refine sq Tryz.func65 r (fun r => vi .u32 r) (fun r => []) fun X => ?_
 refine bk h fun e2 l3 h => ?_
 refine t_cutx cok 0 (fun (e2 : Int) => ⟨[(3, vi .u32 e2)], []⟩) e2 ?_ ?_
 ·skip
  have h4 := h
  refine t_loop cok (fun (s1 : Int × Int) => ⟨[(0, .v (.sl (.int .u8)) (a0 : List Int)), (3, vi .u32 s1.1), (4, vi .i64 s1.2)], []⟩) l3 (by kernel_rfl) (fun s1 x5 h => ?_)
  unfold rickyardref02_Sum.s0 at h
  refine t_cond cok ?_
  refine bi h (fun c6 h => ?_) (fun c6 h => ?_)
  ·skip
   refine ag h fun h => ?_
   refine bk h fun t7 k8 h => ?_
   refine cl4 cok.g (rickyardref02_Steps.sc fu _ _ _ k8) (vi .u32 t7) [] 0 ?_
   exact lik h
  exact lpx h fun hy => ek (sj hy)
 exact fk h
def rickyardref07_Fill.f (fu : Nat) (a0 : List UInt8) (a1 : Int) : Option (List UInt8) := if 0 ≤ (mxI (IntKind.i64.wrap (a1 - (List.length a0 : Int))) 0) ∧ Int.toNat (mxI (IntKind.i64.wrap (a1 - (List.length a0 : Int))) 0) ≤ LIM then if List.length a0 + List.length (List.map toB (List.replicate (Int.toNat (mxI (IntKind.i64.wrap (a1 - (List.length a0 : Int))) 0)) (0 : Int))) ≤ LIM then some ((a0 ++ (List.map toB (List.replicate (Int.toNat (mxI (IntKind.i64.wrap (a1 - (List.length a0 : Int))) 0)) (0 : Int))))) else none else none
theorem rickyardref07_Fill.sc (fu : Nat) (a0 : List UInt8) (a1 : Int) (r : (List UInt8)) (h : rickyardref07_Fill.f fu a0 a1 = some r) : SC Tryz.prog CT 64 [vs a0, vi .i64 a1] [] (vs r) [] := by
 unfold rickyardref07_Fill.f at h
 refine sq Tryz.func64 r (fun r => vs r) (fun r => []) fun X => ?_
 refine agL h rfl fun h => ?_
 refine ag h fun h => ?_
 exact fk h
def rickyardref07_Seal.f (fu : Nat) (a0 : Int) (a1 : Int) (a2 : List UInt8) : Option (List UInt8) := ((rickyardref07_Fill.f fu a2 56).bind fun t1 => if List.length (List.map toB [(IntKind.u8.wrap a0), (IntKind.u8.wrap a1), 0, 0]) + List.length t1 ≤ LIM then ((rickyardref02_Sum.f fu (List.map ofB ((List.map toB [(IntKind.u8.wrap a0), (IntKind.u8.wrap a1), 0, 0]) ++ t1))).bind fun t3 => ((rickyardref01_Lay.f fu (IntKind.u64.wrap t3) 4).bind fun t5 => if List.length t5 + List.length ((List.map toB [(IntKind.u8.wrap a0), (IntKind.u8.wrap a1), 0, 0]) ++ t1) ≤ LIM then some ((t5 ++ ((List.map toB [(IntKind.u8.wrap a0), (IntKind.u8.wrap a1), 0, 0]) ++ t1))) else none)) else none)
theorem rickyardref07_Seal.sc (fu : Nat) (a0 : Int) (a1 : Int) (a2 : List UInt8) (r : (List UInt8)) (h : rickyardref07_Seal.f fu a0 a1 a2 = some r) : SC Tryz.prog CT 38 [vi .i64 a0, vi .i64 a1, vs a2] [] (vs r) [] := by
 unfold rickyardref07_Seal.f at h
 refine sq Tryz.func38 r (fun r => vs r) (fun r => []) fun X => ?_
 refine t_draw cok mo [⟨0, false, [0], [], 0, []⟩, ⟨1, false, [8], [], 0, [0]⟩, ⟨2, false, [1], [], 0, []⟩, ⟨3, false, [10], [], 0, [2]⟩, ⟨4, true, [9, 11], [], 1, cl 4⟩, ⟨5, false, [12], [0], 0, cl 5⟩, ⟨6, false, [2], [], 0, []⟩, ⟨7, true, [14], [], 0, [6]⟩, ⟨8, false, [13, 15], [], 0, cl 8⟩, ⟨9, false, [16], [], 0, cl 9⟩] (by kernel_rfl) ?_
 refine bk h fun t1 k2 h => ?_
 refine cl4 cok.g (rickyardref07_Fill.sc fu _ _ _ k2) (vs t1) [] 1 ?_
 refine ag h fun h => ?_
 refine bk h fun t3 k4 h => ?_
 refine cl4 cok.g (rickyardref02_Sum.sc fu _ _ k4) (vi .u32 t3) [] 2 ?_
 refine bk h fun t5 k6 h => ?_
 refine cl4 cok.g (rickyardref01_Lay.sc fu _ _ _ k6) (vs t5) [] 2 ?_
 refine ag h fun h => ?_
 exact fk h
def rickyardref08_Block.f (fu : Nat) (a0 : Int) : Option Bool := (if (decide (a0 ≥ 2)) then some ((decide (a0 ≤ 3071))) else some (false))
theorem rickyardref08_Block.sc (fu : Nat) (a0 : Int) (r : Bool) (h : rickyardref08_Block.f fu a0 = some r) : SC Tryz.prog CT 36 [vi .i64 a0] [] (vb r) [] := by
 unfold rickyardref08_Block.f at h
 refine sq Tryz.func36 r (fun r => vb r) (fun r => []) fun X => ?_
 refine t_reg cok ?_
 refine bi h (fun c1 h => ?_) (fun c1 h => ?_)
 ·skip
  exact fk h
 exact fk h
def rickyardref09_Seat.f (fu : Nat) (a0 : S_api_Seat) : Option Bool := (if (decide (a0.Gen < 0)) then some (false) else (if (decide (a0.Gen > 4294967295)) then some (false) else (if a0.Live then (if (decide (a0.Gen > 0)) then ((rickyardref08_Block.f fu a0.Next).bind fun t5 => some (t5)) else some (false)) else (if (decide (a0.Next ≥ 0)) then (if (decide (a0.Next ≤ 1792)) then (if (!decide (a0.Gen = 0)) then some (true) else some ((decide (a0.Next = 0)))) else some (false)) else some (false)))))
theorem rickyardref09_Seat.sc (fu : Nat) (a0 : S_api_Seat) (r : Bool) (h : rickyardref09_Seat.f fu a0 = some r) : SC Tryz.prog CT 47 [.v (.st .S_api_Seat) (a0 : S_api_Seat)] [] (vb r) [] := by
 unfold rickyardref09_Seat.f at h
 refine sq Tryz.func47 r (fun r => vb r) (fun r => []) fun X => ?_
 refine t_reg cok ?_
 refine bi h (fun c1 h => ?_) (fun c1 h => ?_)
 ·skip
  refine t_cond cok ?_
  exact fk h
 refine t_cond cok ?_
 refine bi h (fun c2 h => ?_) (fun c2 h => ?_)
 ·skip
  exact fk h
 refine t_cond cok ?_
 refine bi h (fun c3 h => ?_) (fun c3 h => ?_)
 ·skip
  refine t_reg cok ?_
  refine bi h (fun c4 h => ?_) (fun c4 h => ?_)
  ·skip
   refine bk h fun t5 k6 h => ?_
   refine cl4 cok.g (rickyardref08_Block.sc fu _ _ k6) (vb t5) [] 1 ?_
   exact fk h
  exact fk h
 refine t_reg cok ?_
 refine bi h (fun c7 h => ?_) (fun c7 h => ?_)
 ·skip
  refine bi h (fun c8 h => ?_) (fun c8 h => ?_)
  ·skip
   refine bi h (fun c9 h => ?_) (fun c9 h => ?_)
   ·skip
    exact fk h
   exact fk h
  exact fk h
 exact fk h
def rickyardref09_Leaf.s0 (fu : Nat) (a0 : S_api_Leaf) : ((List UInt8) × Int × Int) → Option (Sum (Sum ((List UInt8) × Bool) ((List UInt8) × Int)) ((List UInt8) × Int × Int)) := fun s1 => (if (decide (s1.2.2 < 7)) then if 0 ≤ s1.2.2 ∧ s1.2.2 < 7 then ((rickyardref09_Seat.f fu (Arr.get a0.Seats s1.2.2)).bind fun t8 => (if (!t8) then some (Sum.inl (Sum.inl ([], false))) else (((if (Arr.get a0.Seats s1.2.2).Live then if 0 ≤ s1.2.2 then some ((IntKind.i64.wrap (s1.2.1 + (shL .i64 1 s1.2.2)))) else none else some (s1.2.1)) : Option Int).bind fun x11 => ((rickyardref01_Lay.f fu (IntKind.u64.wrap ((Arr.get a0.Seats s1.2.2).Gen)) 4).bind fun t15 => if List.length s1.1 + List.length t15 ≤ LIM then ((rickyardref01_Lay.f fu (IntKind.u64.wrap ((Arr.get a0.Seats s1.2.2).Next)) 4).bind fun t17 => if List.length (s1.1 ++ t15) + List.length t17 ≤ LIM then some (Sum.inr (((s1.1 ++ t15) ++ t17), x11, (IntKind.i64.wrap (s1.2.2 + 1)))) else none) else none)))) else none else some (Sum.inl (Sum.inr (s1.1, s1.2.1))))
def rickyardref09_Leaf.f (fu : Nat) (a0 : S_api_Leaf) : Option ((List UInt8) × Bool) := ((loopM (rickyardref09_Leaf.s0 fu a0) fu ([], 0, 0)).bind fun e2 => match e2 with | Sum.inl p => some p | Sum.inr x4 => ((rickyardref07_Seal.f fu 2 x4.2 x4.1).bind fun t19 => some (t19, true)))
theorem rickyardref09_Leaf.sc (fu : Nat) (a0 : S_api_Leaf) (r : (List UInt8) × Bool) (h : rickyardref09_Leaf.f fu a0 = some r) : SC Tryz.prog CT 21 [.v (.st .S_api_Leaf) (a0 : S_api_Leaf)] [] (.tup [vs r.1, vb r.2]) [] := by
 unfold rickyardref09_Leaf.f at h
 refine sq Tryz.func21 r (fun r => .tup [vs r.1, vb r.2]) (fun r => []) fun X => ?_
 refine bk h fun e2 l3 h => ?_
 refine t_cutxS cok 0 (fun (x4 : (List UInt8) × Int) => ⟨[(4, vs x4.1), (5, vi .i64 x4.2)], []⟩) e2 ?_ (fun x4 hy => ?_)
 ·skip
  have h5 := h
  refine t_loop cok (fun (s1 : (List UInt8) × Int × Int) => ⟨[(1, .ptr 0 0), (4, vs s1.1), (5, vi .i64 s1.2.1), (6, vi .i64 s1.2.2)], [.box 54 (.v (.st .S_api_Leaf) (a0 : S_api_Leaf))]⟩) l3 (by kernel_rfl) (fun s1 x6 h => ?_)
  unfold rickyardref09_Leaf.s0 at h
  refine t_cond cok ?_
  refine bi h (fun c7 h => ?_) (fun c7 h => ?_)
  ·skip
   refine ag h fun h => ?_
   refine bk h fun t8 k9 h => ?_
   refine cl4 cok.g (rickyardref09_Seat.sc fu _ _ k9) (vb t8) [] 2 ?_
   refine t_cond cok ?_
   refine bi h (fun c10 h => ?_) (fun c10 h => ?_)
   ·skip
    refine lpr h (fun hy => ?_)
    have h := h5
    rw [← hy] at h
    exact fk h
   refine bk h fun x11 j12 h => ?_
   refine t_cut cok (fun (x11 : Int) => ⟨[(1, .ptr 0 0), (4, vs s1.1), (5, vi .i64 x11), (6, vi .i64 s1.2.2), (7, .ptr 1 0)], [.box 54 (.v (.st .S_api_Leaf) (a0 : S_api_Leaf)), .box 51 (.v (.st .S_api_Seat) ((Arr.get a0.Seats s1.2.2) : S_api_Seat))]⟩) x11 ?_ ?_
   ·skip
    have h13 := h
    have h := j12
    refine t_cond cok ?_
    refine bi h (fun c14 h => ?_) (fun c14 h => ?_)
    ·skip
     refine ag h fun h => ?_
     exact ek h
    exact ek h
   refine t_draw cok mo [⟨0, false, [4], [], 0, []⟩, ⟨1, false, [7], [], 0, []⟩, ⟨2, false, [26], [1], 0, [1]⟩, ⟨3, false, [27], [], 0, [1, 2]⟩, ⟨4, true, [28], [], 0, [1, 2, 3]⟩, ⟨5, false, [25, 29], [], 0, cl 5⟩, ⟨6, false, [7], [], 0, []⟩, ⟨7, false, [31], [1], 0, [6]⟩, ⟨8, false, [32], [], 0, [6, 7]⟩, ⟨9, true, [33], [], 0, [1, 2, 3, 4, 6, 7, 8]⟩, ⟨10, false, [30, 34], [], 0, cl 10⟩, ⟨11, false, [35], [], 0, cl 11⟩] (by kernel_rfl) ?_
   refine bk h fun t15 k16 h => ?_
   refine cl4 cok.g (rickyardref01_Lay.sc fu _ _ _ k16) (vs t15) [] 2 ?_
   refine ag h fun h => ?_
   refine bk h fun t17 k18 h => ?_
   refine cl4 cok.g (rickyardref01_Lay.sc fu _ _ _ k18) (vs t17) [] 2 ?_
   refine ag h fun h => ?_
   exact lik h
  exact lpx h fun hy => esk (sj hy)
 subst hy
 refine bk h fun t19 k20 h => ?_
 refine cl4 cok.g (rickyardref07_Seal.sc fu _ _ _ _ k20) (vs t19) [] 0 ?_
 exact fk h
def rickyardlaw14_awake.f (fu : Nat) : Option Bool := ((rickyardref09_Leaf.f fu (⟨(Arr.set (Arr.rep 7 (⟨false, (0 : Int), (0 : Int)⟩ : S_api_Seat)) 1 (⟨true, 3, 9⟩ : S_api_Seat))⟩ : S_api_Leaf)).bind fun t1 => ((cell_Text.f fu (List.map ofB t1.1)).bind fun t3 => (if (decide (t3 = [108, 101, 97, 102, 32, 48, 45, 48, 32, 51, 43, 57, 32, 48, 45, 48, 32, 48, 45, 48, 32, 48, 45, 48, 32, 48, 45, 48, 32, 48, 45, 48])) then ((cell_Kids.f fu (List.map ofB t1.1)).bind fun t6 => some ((decide ((List.length t6 : Int) = 1)))) else some (false))))
theorem rickyardlaw14_awake.sc (fu : Nat) (r : Bool) (h : rickyardlaw14_awake.f fu = some r) : SC Tryz.prog CT 7 [] [] (vb r) [] := by
 unfold rickyardlaw14_awake.f at h
 refine sq Tryz.func7 r (fun r => vb r) (fun r => []) fun X => ?_
 refine ⟨by decide, ?_⟩
 refine bk h fun t1 k2 h => ?_
 refine cl4 cok.g (rickyardref09_Leaf.sc fu _ _ k2) (.tup [vs t1.1, vb t1.2]) [] 1 ?_
 refine t_reg cok ?_
 refine bk h fun t3 k4 h => ?_
 refine cl4 cok.g (cell_Text.sc fu _ _ k4) (vs t3) [] 2 ?_
 refine bi h (fun c5 h => ?_) (fun c5 h => ?_)
 ·skip
  refine bk h fun t6 k7 h => ?_
  refine cl4 cok.g (cell_Kids.sc fu _ _ k7) (.v (.sl (.int .i64)) (t6 : List Int)) [(2, .fz (.int .u8) ((List.map ofB t1.1) : List Int))] 3 ?_
  exact fk h
 exact fk h
def rickyardref01_Rest.f (fu : Nat) (a0 : Int) (a1 : Int) : Option Int := if a1 ≠ 0 then if a1 ≠ 0 then some ((Int.tmod (IntKind.i64.wrap ((Int.tmod a0 a1) + a1)) a1)) else none else none
theorem rickyardref01_Rest.sc (fu : Nat) (a0 : Int) (a1 : Int) (r : Int) (h : rickyardref01_Rest.f fu a0 a1 = some r) : SC Tryz.prog CT 20 [vi .i64 a0, vi .i64 a1] [] (vi .i64 r) [] := by
 unfold rickyardref01_Rest.f at h
 refine sq Tryz.func20 r (fun r => vi .i64 r) (fun r => []) fun X => ?_
 refine ag h fun h => ?_
 refine ag h fun h => ?_
 exact fk h
def rickyardref03_Show.s0 (fu : Nat) : ((List UInt8) × Int) → Option (Sum (List UInt8) ((List UInt8) × Int)) := fun s2 => (if (!decide (s2.2 = 0)) then (((if (decide ((Int.tmod s2.2 10) < 0)) then some ((IntKind.i64.wrap (-(Int.tmod s2.2 10)))) else some ((Int.tmod s2.2 10))) : Option Int).bind fun x8 => if List.length (List.map toB [(IntKind.u8.wrap (IntKind.i64.wrap (48 + x8)))]) + List.length s2.1 ≤ LIM then some (Sum.inr (((List.map toB [(IntKind.u8.wrap (IntKind.i64.wrap (48 + x8)))]) ++ s2.1), (IntKind.i64.wrap (Int.tdiv s2.2 10)))) else none) else some (Sum.inl (s2.1)))
def rickyardref03_Show.f (fu : Nat) (a0 : Int) : Option (List UInt8) := (if (decide (a0 = 0)) then some ([48]) else ((loopM (rickyardref03_Show.s0 fu) fu ([], a0)).bind fun e3 => (if (decide (a0 < 0)) then if List.length [45] + List.length e3 ≤ LIM then some (([45] ++ e3)) else none else some (e3))))
theorem rickyardref03_Show.sc (fu : Nat) (a0 : Int) (r : (List UInt8)) (h : rickyardref03_Show.f fu a0 = some r) : SC Tryz.prog CT 24 [vi .i64 a0] [] (vs r) [] := by
 unfold rickyardref03_Show.f at h
 refine sq Tryz.func24 r (fun r => vs r) (fun r => []) fun X => ?_
 refine t_cond cok ?_
 refine bi h (fun c1 h => ?_) (fun c1 h => ?_)
 ·skip
  exact fk h
 refine bk h fun e3 l4 h => ?_
 refine t_cutx cok 0 (fun (e3 : (List UInt8)) => ⟨[(0, vi .i64 a0), (3, vs e3)], []⟩) e3 ?_ ?_
 ·skip
  have h5 := h
  refine t_loop cok (fun (s2 : (List UInt8) × Int) => ⟨[(0, vi .i64 a0), (3, vs s2.1), (4, vi .i64 s2.2)], []⟩) l4 (by kernel_rfl) (fun s2 x6 h => ?_)
  unfold rickyardref03_Show.s0 at h
  refine t_cond cok ?_
  refine bi h (fun c7 h => ?_) (fun c7 h => ?_)
  ·skip
   refine ⟨by decide, ?_⟩
   refine bk h fun x8 j9 h => ?_
   refine t_cut cok (fun (x8 : Int) => ⟨[(0, vi .i64 a0), (3, vs s2.1), (4, vi .i64 s2.2), (5, vi .i64 x8)], []⟩) x8 ?_ ?_
   ·skip
    have h10 := h
    have h := j9
    refine t_cond cok ?_
    refine bi h (fun c11 h => ?_) (fun c11 h => ?_)
    ·skip
     exact ek h
    exact ek h
   refine ag h fun h => ?_
   refine ⟨by decide, ?_⟩
   exact lik h
  exact lpx h fun hy => ek (sj hy)
 refine t_cond cok ?_
 refine bi h (fun c12 h => ?_) (fun c12 h => ?_)
 ·skip
  refine ag h fun h => ?_
  exact fk h
 exact fk h
def rickyardref01_Number.s0 (fu : Nat) (a0 : List UInt8) : (Int × Int) → Option (Sum Int (Int × Int)) := fun s1 => (if (decide (s1.2 ≥ 0)) then (((if (decide (s1.2 < 8)) then if 0 ≤ s1.2 ∧ s1.2 < (List.length a0 : Int) then some ((IntKind.u64.wrap ((IntKind.u64.wrap (s1.1 * 256)) + (IntKind.u64.wrap (ofB (List.getD a0 (Int.toNat s1.2) 0)))))) else none else some (s1.1)) : Option Int).bind fun x7 => some (Sum.inr (x7, (IntKind.i64.wrap (s1.2 - 1))))) else some (Sum.inl (s1.1)))
def rickyardref01_Number.f (fu : Nat) (a0 : List UInt8) : Option Int := ((loopM (rickyardref01_Number.s0 fu a0) fu (0, (IntKind.i64.wrap ((List.length a0 : Int) - 1)))).bind fun e2 => some (e2))
theorem rickyardref01_Number.sc (fu : Nat) (a0 : List UInt8) (r : Int) (h : rickyardref01_Number.f fu a0 = some r) : SC Tryz.prog CT 69 [vs a0] [] (vi .u64 r) [] := by
 unfold rickyardref01_Number.f at h
 refine sq Tryz.func69 r (fun r => vi .u64 r) (fun r => []) fun X => ?_
 refine bk h fun e2 l3 h => ?_
 refine t_cutx cok 0 (fun (e2 : Int) => ⟨[(3, vi .u64 e2)], []⟩) e2 ?_ ?_
 ·skip
  have h4 := h
  refine t_loop cok (fun (s1 : Int × Int) => ⟨[(0, vs a0), (3, vi .u64 s1.1), (4, vi .i64 s1.2)], []⟩) l3 (by kernel_rfl) (fun s1 x5 h => ?_)
  unfold rickyardref01_Number.s0 at h
  refine t_cond cok ?_
  refine bi h (fun c6 h => ?_) (fun c6 h => ?_)
  ·skip
   refine bk h fun x7 j8 h => ?_
   refine t_cut cok (fun (x7 : Int) => ⟨[(0, vs a0), (3, vi .u64 x7), (4, vi .i64 s1.2)], []⟩) x7 ?_ ?_
   ·skip
    have h9 := h
    have h := j8
    refine t_cond cok ?_
    refine bi h (fun c10 h => ?_) (fun c10 h => ?_)
    ·skip
     refine ag h fun h => ?_
     exact ek h
    exact ek h
   exact lik h
  exact lpx h fun hy => ek (sj hy)
 exact fk h
def rickyardref01_Int.f (fu : Nat) (a0 : List UInt8) : Option Int := ((rickyardref01_Number.f fu a0).bind fun t1 => some ((IntKind.i64.wrap t1)))
theorem rickyardref01_Int.sc (fu : Nat) (a0 : List UInt8) (r : Int) (h : rickyardref01_Int.f fu a0 = some r) : SC Tryz.prog CT 49 [vs a0] [] (vi .i64 r) [] := by
 unfold rickyardref01_Int.f at h
 refine sq Tryz.func49 r (fun r => vi .i64 r) (fun r => []) fun X => ?_
 refine bk h fun t1 k2 h => ?_
 refine cl4 cok.g (rickyardref01_Number.sc fu _ _ k2) (vi .u64 t1) [] 0 ?_
 exact fk h
def rickyardref07_Open.f (fu : Nat) (a0 : List Int) : Option (Int × Int × (List UInt8) × Bool) := (if (!decide ((List.length a0 : Int) = 64)) then some (0, 0, [], false) else if (4 : Int) < (List.length a0 : Int) then (if (decide ((ix a0 4) = 0)) then some (0, 0, [], false) else if (4 : Int) < (List.length a0 : Int) then if (5 : Int) < (List.length a0 : Int) then if (8 : Int) ≤ (List.length a0 : Int) then ((rickyardref07_Seal.f fu (IntKind.i64.wrap (ix a0 4)) (IntKind.i64.wrap (ix a0 5)) (List.map toB (cut a0 8 (List.length a0 : Int)))).bind fun t3 => (if (!decide (t3 = (List.map toB a0))) then some (0, 0, [], false) else if (4 : Int) < (List.length a0 : Int) then if (5 : Int) < (List.length a0 : Int) then if (8 : Int) ≤ (List.length a0 : Int) then some ((IntKind.i64.wrap (ix a0 4)), (IntKind.i64.wrap (ix a0 5)), (List.map toB (cut a0 8 (List.length a0 : Int))), true) else none else none else none)) else none else none else none) else none)
theorem rickyardref07_Open.sc (fu : Nat) (a0 : List Int) (r : Int × Int × (List UInt8) × Bool) (h : rickyardref07_Open.f fu a0 = some r) : SC Tryz.prog CT 48 [.v (.sl (.int .u8)) (a0 : List Int)] [] (.tup [vi .i64 r.1, vi .i64 r.2.1, vs r.2.2.1, vb r.2.2.2]) [] := by
 unfold rickyardref07_Open.f at h
 refine sq Tryz.func48 r (fun r => .tup [vi .i64 r.1, vi .i64 r.2.1, vs r.2.2.1, vb r.2.2.2]) (fun r => []) fun X => ?_
 refine t_draw cok mo [⟨0, false, [0], [], 0, []⟩, ⟨1, false, [6], [], 0, [0]⟩, ⟨2, false, [7], [], 0, [0, 1]⟩, ⟨3, false, [8], [], 0, [0, 1, 2]⟩, ⟨4, false, [0, 9], [], 0, cl 4⟩, ⟨5, false, [9, 10], [], 0, cl 5⟩, ⟨6, false, [9, 11], [], 0, cl 6⟩, ⟨7, false, [9, 12], [], 0, cl 7⟩, ⟨8, true, [9, 13], [], 0, cl 8⟩, ⟨9, false, [14], [], 0, cl 9⟩, ⟨10, false, [0, 15], [], 0, cl 10⟩, ⟨11, false, [15, 16], [], 0, cl 11⟩, ⟨12, false, [15, 17], [], 0, cl 12⟩, ⟨13, false, [15, 18], [], 0, cl 13⟩, ⟨14, false, [0, 15], [], 0, cl 10⟩, ⟨15, false, [15, 20], [], 0, cl 10 ++ [14]⟩, ⟨16, false, [15, 21], [], 0, cl 10 ++ [14, 15]⟩, ⟨17, false, [15, 22], [], 0, cl 10 ++ [14, 15, 16]⟩, ⟨18, false, [0, 15], [], 0, cl 10⟩, ⟨19, false, [15, 24], [], 0, cl 10 ++ [18]⟩, ⟨20, false, [15, 25], [], 0, cl 10 ++ [18, 19]⟩, ⟨21, true, [15, 19, 23, 26], [], 0, cl 21⟩, ⟨22, false, [0, 15], [], 0, cl 10⟩, ⟨23, false, [15, 28], [], 0, cl 10 ++ [22]⟩, ⟨24, false, [15, 27, 29], [], 0, cl 24⟩, ⟨25, true, [15, 30], [], 0, cl 25⟩] (by kernel_rfl) ?_
 refine bi h (fun c1 h => ?_) (fun c1 h => ?_)
 ·skip
  refine t_cond cok ?_
  exact fk h
 refine agL h (by decide) fun h => ?_
 refine bi h (fun c2 h => ?_) (fun c2 h => ?_)
 ·skip
  refine t_cond cok ?_
  exact fk h
 refine agL h (by decide) fun h => ?_
 refine agL h (by decide) fun h => ?_
 refine agL h (by decide) fun h => ?_
 refine bk h fun t3 k4 h => ?_
 refine cl4 cok.g (rickyardref07_Seal.sc fu _ _ _ _ k4) (vs t3) [] 0 ?_
 refine t_cond cok ?_
 refine bi h (fun c5 h => ?_) (fun c5 h => ?_)
 ·skip
  exact fk h
 refine t_draw cok mo [⟨0, false, [0], [], 0, []⟩, ⟨1, false, [32], [], 0, [0]⟩, ⟨2, false, [33], [], 0, [0, 1]⟩, ⟨3, false, [34], [], 0, [0, 1, 2]⟩, ⟨4, false, [0], [], 0, []⟩, ⟨5, false, [36], [], 0, [4]⟩, ⟨6, false, [37], [], 0, [4, 5]⟩, ⟨7, false, [38], [], 0, [4, 5, 6]⟩, ⟨8, false, [0], [], 0, []⟩, ⟨9, false, [40], [], 0, [8]⟩, ⟨10, false, [41], [], 0, [8, 9]⟩, ⟨11, false, [35], [], 0, cl 4⟩, ⟨12, false, [39], [], 0, cl 8 ++ [11]⟩, ⟨13, false, [42], [], 0, cl 13⟩, ⟨14, false, [], [], 0, cl 14⟩] (by kernel_rfl) ?_
 refine agL h (by decide) fun h => ?_
 refine agL h (by decide) fun h => ?_
 refine agL h (by decide) fun h => ?_
 exact fk h
def rickyardref08_Put.s0 (fu : Nat) (a0 : S_api_Node) : ((List UInt8) × Int) → Option (Sum (List UInt8) ((List UInt8) × Int)) := fun s9 => (if (decide (s9.2 < (List.length a0.Kids : Int))) then if 0 ≤ s9.2 ∧ s9.2 < (List.length a0.Kids : Int) then ((rickyardref01_Lay.f fu (IntKind.u64.wrap (ix a0.Kids s9.2)) 2).bind fun t15 => if List.length s9.1 + List.length t15 ≤ LIM then some (Sum.inr ((s9.1 ++ t15), (IntKind.i64.wrap (s9.2 + 1)))) else none) else none else some (Sum.inl (s9.1)))
def rickyardref08_Put.f (fu : Nat) (a0 : S_api_Node) : Option (List UInt8) := ((rickyardref01_Lay.f fu (IntKind.u64.wrap a0.Entry.Key) 8).bind fun t1 => ((rickyardref01_Lay.f fu (IntKind.u64.wrap a0.Entry.Value) 8).bind fun t3 => if List.length t1 + List.length t3 ≤ LIM then ((rickyardref01_Lay.f fu (IntKind.u64.wrap a0.Entry.Handle.Slot) 4).bind fun t5 => if List.length (t1 ++ t3) + List.length t5 ≤ LIM then ((rickyardref01_Lay.f fu (IntKind.u64.wrap a0.Entry.Handle.Gen) 4).bind fun t7 => if List.length ((t1 ++ t3) ++ t5) + List.length t7 ≤ LIM then ((loopM (rickyardref08_Put.s0 fu a0) fu ((((t1 ++ t3) ++ t5) ++ t7), 0)).bind fun e10 => ((rickyardref07_Seal.f fu 1 (List.length a0.Kids : Int) e10).bind fun t17 => some (t17))) else none) else none) else none))
theorem rickyardref08_Put.sc (fu : Nat) (a0 : S_api_Node) (r : (List UInt8)) (h : rickyardref08_Put.f fu a0 = some r) : SC Tryz.prog CT 17 [.v (.st .S_api_Node) (a0 : S_api_Node)] [] (vs r) [] := by
 unfold rickyardref08_Put.f at h
 refine sq Tryz.func17 r (fun r => vs r) (fun r => []) fun X => ?_
 refine t_draw cok mo [⟨0, false, [3], [], 0, []⟩, ⟨1, false, [8], [1], 0, [0]⟩, ⟨2, false, [9], [], 0, [0, 1]⟩, ⟨3, true, [10], [], 0, [0, 1, 2]⟩, ⟨4, false, [3], [], 0, []⟩, ⟨5, false, [12], [1], 0, [4]⟩, ⟨6, false, [13], [], 0, [4, 5]⟩, ⟨7, true, [14], [], 0, cl 7⟩, ⟨8, false, [11, 15], [], 0, cl 8⟩, ⟨9, false, [3], [], 0, []⟩, ⟨10, false, [17], [], 0, [9]⟩, ⟨11, false, [18], [1], 0, [9, 10]⟩, ⟨12, false, [19], [], 0, [9, 10, 11]⟩, ⟨13, true, [20], [], 0, cl 8 ++ [9, 10, 11, 12]⟩, ⟨14, false, [16, 21], [], 0, cl 14⟩, ⟨15, false, [3], [], 0, []⟩, ⟨16, false, [23], [], 0, [15]⟩, ⟨17, false, [24], [1], 0, [15, 16]⟩, ⟨18, false, [25], [], 0, [15, 16, 17]⟩, ⟨19, true, [26], [], 0, cl 8 ++ [9, 10, 11, 12, 13, 15, 16, 17, 18]⟩, ⟨20, false, [22, 27], [], 0, cl 20⟩, ⟨21, false, [28], [], 0, cl 21⟩] (by kernel_rfl) ?_
 refine bk h fun t1 k2 h => ?_
 refine cl4 cok.g (rickyardref01_Lay.sc fu _ _ _ k2) (vs t1) [] 2 ?_
 refine bk h fun t3 k4 h => ?_
 refine cl4 cok.g (rickyardref01_Lay.sc fu _ _ _ k4) (vs t3) [] 2 ?_
 refine ag h fun h => ?_
 refine bk h fun t5 k6 h => ?_
 refine cl4 cok.g (rickyardref01_Lay.sc fu _ _ _ k6) (vs t5) [] 2 ?_
 refine ag h fun h => ?_
 refine bk h fun t7 k8 h => ?_
 refine cl4 cok.g (rickyardref01_Lay.sc fu _ _ _ k8) (vs t7) [] 2 ?_
 refine ag h fun h => ?_
 refine bk h fun e10 l11 h => ?_
 refine t_cutx cok 0 (fun (e10 : (List UInt8)) => ⟨[(1, .ptr 0 0), (4, vs e10)], [.box 42 (.v (.st .S_api_Node) (a0 : S_api_Node))]⟩) e10 ?_ ?_
 ·skip
  have h12 := h
  refine t_loop cok (fun (s9 : (List UInt8) × Int) => ⟨[(1, .ptr 0 0), (4, vs s9.1), (5, vi .i64 s9.2)], [.box 42 (.v (.st .S_api_Node) (a0 : S_api_Node))]⟩) l11 (by kernel_rfl) (fun s9 x13 h => ?_)
  unfold rickyardref08_Put.s0 at h
  refine t_cond cok ?_
  refine bi h (fun c14 h => ?_) (fun c14 h => ?_)
  ·skip
   refine ag h fun h => ?_
   refine bk h fun t15 k16 h => ?_
   refine cl4 cok.g (rickyardref01_Lay.sc fu _ _ _ k16) (vs t15) [] 1 ?_
   refine ag h fun h => ?_
   exact lik h
  exact lpx h fun hy => ek (sj hy)
 refine bk h fun t17 k18 h => ?_
 refine cl4 cok.g (rickyardref07_Seal.sc fu _ _ _ _ k18) (vs t17) [] 1 ?_
 exact fk h
def rickyardref08_Right.s0 (fu : Nat) (a0 : S_api_Node) : (Bool × Int) → Option (Sum Bool (Bool × Int)) := fun s5 => (if (decide (s5.2 < (List.length a0.Kids : Int))) then (if s5.1 then if 0 ≤ s5.2 ∧ s5.2 < (List.length a0.Kids : Int) then ((rickyardref08_Block.f fu (ix a0.Kids s5.2)).bind fun t12 => some (Sum.inr (t12, (IntKind.i64.wrap (s5.2 + 1))))) else none else some (Sum.inl (s5.1))) else some (Sum.inl (s5.1)))
def rickyardref08_Right.s1 (fu : Nat) (a0 : S_api_Node) : (Bool × Int) → Option (Sum Bool (Bool × Int)) := fun s14 => (if (decide (s14.2 < (List.length a0.Kids : Int))) then (if s14.1 then if 0 ≤ s14.2 ∧ s14.2 < (List.length a0.Kids : Int) then ((rickyardref08_Block.f fu (ix a0.Kids s14.2)).bind fun t21 => some (Sum.inr (t21, (IntKind.i64.wrap (s14.2 + 1))))) else none else some (Sum.inl (s14.1))) else some (Sum.inl (s14.1)))
def rickyardref08_Right.s2 (fu : Nat) (a0 : S_api_Node) : (Bool × Int) → Option (Sum Bool (Bool × Int)) := fun s23 => (if (decide (s23.2 < (List.length a0.Kids : Int))) then (if s23.1 then if 0 ≤ s23.2 ∧ s23.2 < (List.length a0.Kids : Int) then ((rickyardref08_Block.f fu (ix a0.Kids s23.2)).bind fun t30 => some (Sum.inr (t30, (IntKind.i64.wrap (s23.2 + 1))))) else none else some (Sum.inl (s23.1))) else some (Sum.inl (s23.1)))
def rickyardref08_Right.s3 (fu : Nat) (a0 : S_api_Node) : (Bool × Int) → Option (Sum Bool (Bool × Int)) := fun s32 => (if (decide (s32.2 < (List.length a0.Kids : Int))) then (if s32.1 then if 0 ≤ s32.2 ∧ s32.2 < (List.length a0.Kids : Int) then ((rickyardref08_Block.f fu (ix a0.Kids s32.2)).bind fun t39 => some (Sum.inr (t39, (IntKind.i64.wrap (s32.2 + 1))))) else none else some (Sum.inl (s32.1))) else some (Sum.inl (s32.1)))
def rickyardref08_Right.s4 (fu : Nat) (a0 : S_api_Node) : (Bool × Int) → Option (Sum Bool (Bool × Int)) := fun s41 => (if (decide (s41.2 < (List.length a0.Kids : Int))) then (if s41.1 then if 0 ≤ s41.2 ∧ s41.2 < (List.length a0.Kids : Int) then ((rickyardref08_Block.f fu (ix a0.Kids s41.2)).bind fun t48 => some (Sum.inr (t48, (IntKind.i64.wrap (s41.2 + 1))))) else none else some (Sum.inl (s41.1))) else some (Sum.inl (s41.1)))
def rickyardref08_Right.f (fu : Nat) (a0 : S_api_Node) : Option Bool := (if (decide (a0.Entry.Handle.Slot ≥ 0)) then (if (decide (a0.Entry.Handle.Slot ≤ 1791)) then (if (decide (a0.Entry.Handle.Gen ≥ 1)) then (if (decide (a0.Entry.Handle.Gen ≤ 4294967295)) then ((loopM (rickyardref08_Right.s0 fu a0) fu ((decide ((List.length a0.Kids : Int) ≤ 12)), 0)).bind fun e6 => some (e6)) else ((loopM (rickyardref08_Right.s1 fu a0) fu (false, 0)).bind fun e15 => some (e15))) else ((loopM (rickyardref08_Right.s2 fu a0) fu (false, 0)).bind fun e24 => some (e24))) else ((loopM (rickyardref08_Right.s3 fu a0) fu (false, 0)).bind fun e33 => some (e33))) else ((loopM (rickyardref08_Right.s4 fu a0) fu (false, 0)).bind fun e42 => some (e42)))
theorem rickyardref08_Right.sc (fu : Nat) (a0 : S_api_Node) (r : Bool) (h : rickyardref08_Right.f fu a0 = some r) : SC Tryz.prog CT 16 [.v (.st .S_api_Node) (a0 : S_api_Node)] [] (vb r) [] := by
 unfold rickyardref08_Right.f at h
 refine sq Tryz.func16 r (fun r => vb r) (fun r => []) fun X => ?_
 refine t_reg cok ?_
 refine bi h (fun c1 h => ?_) (fun c1 h => ?_)
 ·skip
  refine bi h (fun c2 h => ?_) (fun c2 h => ?_)
  ·skip
   refine bi h (fun c3 h => ?_) (fun c3 h => ?_)
   ·skip
    refine bi h (fun c4 h => ?_) (fun c4 h => ?_)
    ·skip
     refine bk h fun e6 l7 h => ?_
     refine t_cutx cok 0 (fun (e6 : Bool) => ⟨[(4, vb e6)], []⟩) e6 ?_ ?_
     ·skip
      have h8 := h
      refine t_loop cok (fun (s5 : Bool × Int) => ⟨[(1, .ptr 0 0), (4, vb s5.1), (5, vi .i64 s5.2)], [.box 42 (.v (.st .S_api_Node) (a0 : S_api_Node))]⟩) l7 (by kernel_rfl) (fun s5 x9 h => ?_)
      unfold rickyardref08_Right.s0 at h
      refine t_reg cok ?_
      refine bi h (fun c10 h => ?_) (fun c10 h => ?_)
      ·skip
       refine t_cond cok ?_
       refine bi h (fun c11 h => ?_) (fun c11 h => ?_)
       ·skip
        refine ag h fun h => ?_
        refine bk h fun t12 k13 h => ?_
        refine cl4 cok.g (rickyardref08_Block.sc fu _ _ k13) (vb t12) [] 1 ?_
        exact lik h
       exact lpx h fun hy => ek (sj hy)
      refine t_cond cok ?_
      exact lpx h fun hy => ek (sj hy)
     exact fk h
    refine bk h fun e15 l16 h => ?_
    refine t_cutx cok 0 (fun (e15 : Bool) => ⟨[(4, vb e15)], []⟩) e15 ?_ ?_
    ·skip
     have h17 := h
     refine t_loop cok (fun (s14 : Bool × Int) => ⟨[(1, .ptr 0 0), (4, vb s14.1), (5, vi .i64 s14.2)], [.box 42 (.v (.st .S_api_Node) (a0 : S_api_Node))]⟩) l16 (by kernel_rfl) (fun s14 x18 h => ?_)
     unfold rickyardref08_Right.s1 at h
     refine t_reg cok ?_
     refine bi h (fun c19 h => ?_) (fun c19 h => ?_)
     ·skip
      refine t_cond cok ?_
      refine bi h (fun c20 h => ?_) (fun c20 h => ?_)
      ·skip
       refine ag h fun h => ?_
       refine bk h fun t21 k22 h => ?_
       refine cl4 cok.g (rickyardref08_Block.sc fu _ _ k22) (vb t21) [] 1 ?_
       exact lik h
      exact lpx h fun hy => ek (sj hy)
     refine t_cond cok ?_
     exact lpx h fun hy => ek (sj hy)
    exact fk h
   refine bk h fun e24 l25 h => ?_
   refine t_cutx cok 0 (fun (e24 : Bool) => ⟨[(4, vb e24)], []⟩) e24 ?_ ?_
   ·skip
    have h26 := h
    refine t_loop cok (fun (s23 : Bool × Int) => ⟨[(1, .ptr 0 0), (4, vb s23.1), (5, vi .i64 s23.2)], [.box 42 (.v (.st .S_api_Node) (a0 : S_api_Node))]⟩) l25 (by kernel_rfl) (fun s23 x27 h => ?_)
    unfold rickyardref08_Right.s2 at h
    refine t_reg cok ?_
    refine bi h (fun c28 h => ?_) (fun c28 h => ?_)
    ·skip
     refine t_cond cok ?_
     refine bi h (fun c29 h => ?_) (fun c29 h => ?_)
     ·skip
      refine ag h fun h => ?_
      refine bk h fun t30 k31 h => ?_
      refine cl4 cok.g (rickyardref08_Block.sc fu _ _ k31) (vb t30) [] 1 ?_
      exact lik h
     exact lpx h fun hy => ek (sj hy)
    refine t_cond cok ?_
    exact lpx h fun hy => ek (sj hy)
   exact fk h
  refine bk h fun e33 l34 h => ?_
  refine t_cutx cok 0 (fun (e33 : Bool) => ⟨[(4, vb e33)], []⟩) e33 ?_ ?_
  ·skip
   have h35 := h
   refine t_loop cok (fun (s32 : Bool × Int) => ⟨[(1, .ptr 0 0), (4, vb s32.1), (5, vi .i64 s32.2)], [.box 42 (.v (.st .S_api_Node) (a0 : S_api_Node))]⟩) l34 (by kernel_rfl) (fun s32 x36 h => ?_)
   unfold rickyardref08_Right.s3 at h
   refine t_reg cok ?_
   refine bi h (fun c37 h => ?_) (fun c37 h => ?_)
   ·skip
    refine t_cond cok ?_
    refine bi h (fun c38 h => ?_) (fun c38 h => ?_)
    ·skip
     refine ag h fun h => ?_
     refine bk h fun t39 k40 h => ?_
     refine cl4 cok.g (rickyardref08_Block.sc fu _ _ k40) (vb t39) [] 1 ?_
     exact lik h
    exact lpx h fun hy => ek (sj hy)
   refine t_cond cok ?_
   exact lpx h fun hy => ek (sj hy)
  exact fk h
 refine bk h fun e42 l43 h => ?_
 refine t_cutx cok 0 (fun (e42 : Bool) => ⟨[(4, vb e42)], []⟩) e42 ?_ ?_
 ·skip
  have h44 := h
  refine t_loop cok (fun (s41 : Bool × Int) => ⟨[(1, .ptr 0 0), (4, vb s41.1), (5, vi .i64 s41.2)], [.box 42 (.v (.st .S_api_Node) (a0 : S_api_Node))]⟩) l43 (by kernel_rfl) (fun s41 x45 h => ?_)
  unfold rickyardref08_Right.s4 at h
  refine t_reg cok ?_
  refine bi h (fun c46 h => ?_) (fun c46 h => ?_)
  ·skip
   refine t_cond cok ?_
   refine bi h (fun c47 h => ?_) (fun c47 h => ?_)
   ·skip
    refine ag h fun h => ?_
    refine bk h fun t48 k49 h => ?_
    refine cl4 cok.g (rickyardref08_Block.sc fu _ _ k49) (vb t48) [] 1 ?_
    exact lik h
   exact lpx h fun hy => ek (sj hy)
  refine t_cond cok ?_
  exact lpx h fun hy => ek (sj hy)
 exact fk h
def rickyardref08_Get.s0 (fu : Nat) (t1 : Int × Int × (List UInt8) × Bool) : (Int × (List Int)) → Option (Sum (List Int) (Int × (List Int))) := fun s14 => (if (decide (s14.1 < t1.2.1)) then if (0 : Int) ≤ (IntKind.i64.wrap (24 + (IntKind.i64.wrap (2 * s14.1)))) ∧ (IntKind.i64.wrap (24 + (IntKind.i64.wrap (2 * s14.1)))) ≤ (IntKind.i64.wrap (26 + (IntKind.i64.wrap (2 * s14.1)))) ∧ (IntKind.i64.wrap (26 + (IntKind.i64.wrap (2 * s14.1)))) ≤ (List.length t1.2.2.1 : Int) then ((rickyardref01_Int.f fu (cut t1.2.2.1 (IntKind.i64.wrap (24 + (IntKind.i64.wrap (2 * s14.1)))) (IntKind.i64.wrap (26 + (IntKind.i64.wrap (2 * s14.1)))))).bind fun t20 => if List.length s14.2 + List.length [t20] ≤ LIM then some (Sum.inr ((IntKind.i64.wrap (s14.1 + 1)), (s14.2 ++ [t20]))) else none) else none else some (Sum.inl (s14.2)))
def rickyardref08_Get.f (fu : Nat) (a0 : List Int) : Option (S_api_Node × Bool) := ((rickyardref07_Open.f fu a0).bind fun t1 => (if (!t1.2.2.2) then some ((⟨(⟨(⟨(0 : Int), (0 : Int)⟩ : S_api_Handle), (0 : Int), (0 : Int)⟩ : S_api_Entry), []⟩ : S_api_Node), false) else (if (!decide (t1.1 = 1)) then some ((⟨(⟨(⟨(0 : Int), (0 : Int)⟩ : S_api_Handle), (0 : Int), (0 : Int)⟩ : S_api_Entry), []⟩ : S_api_Node), false) else (if (decide (t1.2.1 > 12)) then some ((⟨(⟨(⟨(0 : Int), (0 : Int)⟩ : S_api_Handle), (0 : Int), (0 : Int)⟩ : S_api_Entry), []⟩ : S_api_Node), false) else if (20 : Int) ≤ (List.length t1.2.2.1 : Int) then ((rickyardref01_Int.f fu (cut t1.2.2.1 16 20)).bind fun t6 => if (24 : Int) ≤ (List.length t1.2.2.1 : Int) then ((rickyardref01_Int.f fu (cut t1.2.2.1 20 24)).bind fun t8 => if (8 : Int) ≤ (List.length t1.2.2.1 : Int) then ((rickyardref01_Int.f fu (cut t1.2.2.1 0 8)).bind fun t10 => if (16 : Int) ≤ (List.length t1.2.2.1 : Int) then ((rickyardref01_Int.f fu (cut t1.2.2.1 8 16)).bind fun t12 => ((loopM (rickyardref08_Get.s0 fu t1) fu (0, ([] : List Int))).bind fun e15 => ((rickyardref08_Right.f fu (⟨(⟨(⟨t6, t8⟩ : S_api_Handle), t10, t12⟩ : S_api_Entry), e15⟩ : S_api_Node)).bind fun t22 => (if (!t22) then some ((⟨(⟨(⟨(0 : Int), (0 : Int)⟩ : S_api_Handle), (0 : Int), (0 : Int)⟩ : S_api_Entry), []⟩ : S_api_Node), false) else ((rickyardref08_Put.f fu (⟨(⟨(⟨t6, t8⟩ : S_api_Handle), t10, t12⟩ : S_api_Entry), e15⟩ : S_api_Node)).bind fun t25 => (if (!decide (t25 = (List.map toB a0))) then some ((⟨(⟨(⟨(0 : Int), (0 : Int)⟩ : S_api_Handle), (0 : Int), (0 : Int)⟩ : S_api_Entry), []⟩ : S_api_Node), false) else some ((⟨(⟨(⟨t6, t8⟩ : S_api_Handle), t10, t12⟩ : S_api_Entry), e15⟩ : S_api_Node), true))))))) else none) else none) else none) else none))))
theorem rickyardref08_Get.sc (fu : Nat) (a0 : List Int) (r : S_api_Node × Bool) (h : rickyardref08_Get.f fu a0 = some r) : SC Tryz.prog CT 22 [.v (.sl (.int .u8)) (a0 : List Int)] [] (.tup [.v (.st .S_api_Node) (r.1 : S_api_Node), vb r.2]) [] := by
 unfold rickyardref08_Get.f at h
 refine sq Tryz.func22 r (fun r => .tup [.v (.st .S_api_Node) (r.1 : S_api_Node), vb r.2]) (fun r => []) fun X => ?_
 refine bk h fun t1 k2 h => ?_
 refine cl4 cok.g (rickyardref07_Open.sc fu _ _ k2) (.tup [vi .i64 t1.1, vi .i64 t1.2.1, vs t1.2.2.1, vb t1.2.2.2]) [] 1 ?_
 refine t_reg cok ?_
 refine bi h (fun c3 h => ?_) (fun c3 h => ?_)
 ·skip
  refine t_cond cok ?_
  exact fk h
 refine bi h (fun c4 h => ?_) (fun c4 h => ?_)
 ·skip
  refine t_cond cok ?_
  exact fk h
 refine t_cond cok ?_
 refine bi h (fun c5 h => ?_) (fun c5 h => ?_)
 ·skip
  exact fk h
 refine t_draw cok mo [⟨0, false, [6], [], 0, []⟩, ⟨1, false, [28], [], 0, [0]⟩, ⟨2, true, [29], [], 0, [0, 1]⟩, ⟨3, false, [6], [], 0, []⟩, ⟨4, false, [31], [], 0, [3]⟩, ⟨5, true, [32], [], 0, cl 5⟩, ⟨6, false, [30, 33], [], 0, cl 6⟩, ⟨7, false, [6], [], 0, []⟩, ⟨8, false, [35], [], 0, [7]⟩, ⟨9, true, [36], [], 0, cl 6 ++ [7, 8]⟩, ⟨10, false, [6], [], 0, []⟩, ⟨11, false, [38], [], 0, [10]⟩, ⟨12, true, [39], [], 0, cl 6 ++ [7, 8, 9, 10, 11]⟩, ⟨13, false, [34, 37, 40], [], 0, cl 13⟩, ⟨14, false, [41], [], 0, cl 14⟩, ⟨15, true, [], [], 1, []⟩, ⟨16, true, [8, 42], [1], 0, cl 16⟩] (by kernel_rfl) ?_
 refine agM h (by decide) (by decide) fun h => ?_
 refine bk h fun t6 k7 h => ?_
 refine cl4 cok.g (rickyardref01_Int.sc fu _ _ k7) (vi .i64 t6) [] 1 ?_
 refine agM h (by decide) (by decide) fun h => ?_
 refine bk h fun t8 k9 h => ?_
 refine cl4 cok.g (rickyardref01_Int.sc fu _ _ k9) (vi .i64 t8) [] 1 ?_
 refine agL h (by decide) fun h => ?_
 refine bk h fun t10 k11 h => ?_
 refine cl4 cok.g (rickyardref01_Int.sc fu _ _ k11) (vi .i64 t10) [] 1 ?_
 refine agM h (by decide) (by decide) fun h => ?_
 refine bk h fun t12 k13 h => ?_
 refine cl4 cok.g (rickyardref01_Int.sc fu _ _ k13) (vi .i64 t12) [] 1 ?_
 refine bk h fun e15 l16 h => ?_
 refine t_cutx cok 0 (fun (e15 : (List Int)) => ⟨[(0, .v (.sl (.int .u8)) (a0 : List Int)), (2, .ptr 0 0), (8, .ptr 1 0)], [.box 42 (.agg [.v (.st .S_api_Entry) ((⟨(⟨(0 : Int), (0 : Int)⟩ : S_api_Handle), (0 : Int), (0 : Int)⟩ : S_api_Entry) : S_api_Entry), .nils]), .box 42 (.agg [.v (.st .S_api_Entry) ((⟨(⟨t6, t8⟩ : S_api_Handle), t10, t12⟩ : S_api_Entry) : S_api_Entry), .sl 2 1 []]), .row (.int .i64) 3 (e15 : List Int)]⟩) e15 ?_ ?_
 ·skip
  have h17 := h
  refine t_loop cok (fun (s14 : Int × (List Int)) => ⟨[(0, .v (.sl (.int .u8)) (a0 : List Int)), (2, .ptr 0 0), (5, vi .i64 t1.2.1), (6, vs t1.2.2.1), (8, .ptr 1 0), (9, vi .i64 s14.1)], [.box 42 (.agg [.v (.st .S_api_Entry) ((⟨(⟨(0 : Int), (0 : Int)⟩ : S_api_Handle), (0 : Int), (0 : Int)⟩ : S_api_Entry) : S_api_Entry), .nils]), .box 42 (.agg [.v (.st .S_api_Entry) ((⟨(⟨t6, t8⟩ : S_api_Handle), t10, t12⟩ : S_api_Entry) : S_api_Entry), .sl 2 1 []]), .row (.int .i64) 3 (s14.2 : List Int)]⟩) l16 (by kernel_rfl) (fun s14 x18 h => ?_)
  unfold rickyardref08_Get.s0 at h
  refine t_cond cok ?_
  refine bi h (fun c19 h => ?_) (fun c19 h => ?_)
  ·skip
   refine t_draw cok mo [⟨0, false, [8], [], 0, []⟩, ⟨1, false, [48], [1], 0, [0]⟩, ⟨2, false, [6], [], 0, []⟩, ⟨3, false, [9], [], 0, []⟩, ⟨4, false, [51], [], 0, [3]⟩, ⟨5, false, [52], [], 0, [3, 4]⟩, ⟨6, false, [9], [], 0, []⟩, ⟨7, false, [54], [], 0, [6]⟩, ⟨8, false, [55], [], 0, [6, 7]⟩, ⟨9, false, [50, 53, 56], [], 0, [2, 3, 4, 5, 6, 7, 8]⟩, ⟨10, true, [57], [], 0, [2, 3, 4, 5, 6, 7, 8, 9]⟩, ⟨11, true, [58], [], 1, [2, 3, 4, 5, 6, 7, 8, 9, 10]⟩, ⟨12, true, [49, 59], [2, 3], 1, cl 12⟩, ⟨13, false, [8], [], 0, cl 13⟩, ⟨14, true, [60, 61], [1, 4], 0, cl 14⟩] (by kernel_rfl) ?_
   refine ag h fun h => ?_
   refine bk h fun t20 k21 h => ?_
   refine cl4 cok.g (rickyardref01_Int.sc fu _ _ k21) (vi .i64 t20) [] 3 ?_
   refine ag h fun h => ?_
   exact lik h
  exact lpx h fun hy => ek (sj hy)
 refine t_draw cok mo [⟨0, false, [8], [1], 0, []⟩, ⟨1, true, [62], [2], 0, [0]⟩, ⟨2, false, [63], [], 0, [0, 1]⟩, ⟨3, false, [64], [], 0, [0, 1, 2]⟩, ⟨4, false, [8, 65], [1], 0, cl 4⟩, ⟨5, true, [65, 66], [2], 0, cl 5⟩, ⟨6, false, [0, 65], [], 0, cl 4⟩, ⟨7, false, [65, 68], [], 0, cl 4 ++ [6]⟩, ⟨8, false, [65, 67, 69], [], 0, cl 8⟩, ⟨9, true, [65, 70], [], 0, cl 9⟩] (by kernel_rfl) ?_
 refine bk h fun t22 k23 h => ?_
 refine cl4 cok.g (rickyardref08_Right.sc fu _ _ k23) (vb t22) [] 3 ?_
 refine bi h (fun c24 h => ?_) (fun c24 h => ?_)
 ·skip
  refine t_cond cok ?_
  exact fk h
 refine bk h fun t25 k26 h => ?_
 refine cl4 cok.g (rickyardref08_Put.sc fu _ _ k26) (vs t25) [] 3 ?_
 refine t_cond cok ?_
 refine bi h (fun c27 h => ?_) (fun c27 h => ?_)
 ·skip
  exact fk h
 exact fk h
def rickyardref09_Fan.s0 (fu : Nat) (a0 : S_api_Fan) : ((List UInt8) × Int) → Option (Sum (Sum ((List UInt8) × Bool) (List UInt8)) ((List UInt8) × Int)) := fun s1 => (if (decide (s1.2 < 16)) then if 0 ≤ s1.2 ∧ s1.2 < 16 then (if (!decide ((Arr.get a0.Kids s1.2) = 0)) then if 0 ≤ s1.2 ∧ s1.2 < 16 then ((rickyardref08_Block.f fu (Arr.get a0.Kids s1.2)).bind fun t9 => (if (!t9) then some (Sum.inl (Sum.inl ([], false))) else if 0 ≤ s1.2 ∧ s1.2 < 16 then ((rickyardref01_Lay.f fu (IntKind.u64.wrap (Arr.get a0.Kids s1.2)) 2).bind fun t12 => if List.length s1.1 + List.length t12 ≤ LIM then some (Sum.inr ((s1.1 ++ t12), (IntKind.i64.wrap (s1.2 + 1)))) else none) else none)) else none else if 0 ≤ s1.2 ∧ s1.2 < 16 then ((rickyardref01_Lay.f fu (IntKind.u64.wrap (Arr.get a0.Kids s1.2)) 2).bind fun t14 => if List.length s1.1 + List.length t14 ≤ LIM then some (Sum.inr ((s1.1 ++ t14), (IntKind.i64.wrap (s1.2 + 1)))) else none) else none) else none else some (Sum.inl (Sum.inr (s1.1))))
def rickyardref09_Fan.f (fu : Nat) (a0 : S_api_Fan) : Option ((List UInt8) × Bool) := ((loopM (rickyardref09_Fan.s0 fu a0) fu ([], 0)).bind fun e2 => match e2 with | Sum.inl p => some p | Sum.inr x4 => ((rickyardref07_Seal.f fu 3 0 x4).bind fun t16 => some (t16, true)))
theorem rickyardref09_Fan.sc (fu : Nat) (a0 : S_api_Fan) (r : (List UInt8) × Bool) (h : rickyardref09_Fan.f fu a0 = some r) : SC Tryz.prog CT 41 [.v (.st .S_api_Fan) (a0 : S_api_Fan)] [] (.tup [vs r.1, vb r.2]) [] := by
 unfold rickyardref09_Fan.f at h
 refine sq Tryz.func41 r (fun r => .tup [vs r.1, vb r.2]) (fun r => []) fun X => ?_
 refine bk h fun e2 l3 h => ?_
 refine t_cutxS cok 0 (fun (x4 : (List UInt8)) => ⟨[(4, vs x4)], []⟩) e2 ?_ (fun x4 hy => ?_)
 ·skip
  have h5 := h
  refine t_loop cok (fun (s1 : (List UInt8) × Int) => ⟨[(1, .ptr 0 0), (4, vs s1.1), (5, vi .i64 s1.2)], [.box 65 (.v (.st .S_api_Fan) (a0 : S_api_Fan))]⟩) l3 (by kernel_rfl) (fun s1 x6 h => ?_)
  unfold rickyardref09_Fan.s0 at h
  refine t_cond cok ?_
  refine bi h (fun c7 h => ?_) (fun c7 h => ?_)
  ·skip
   refine t_reg cok ?_
   refine ag h fun h => ?_
   refine bi h (fun c8 h => ?_) (fun c8 h => ?_)
   ·skip
    refine ag h fun h => ?_
    refine bk h fun t9 k10 h => ?_
    refine cl4 cok.g (rickyardref08_Block.sc fu _ _ k10) (vb t9) [] 1 ?_
    refine t_cond cok ?_
    refine bi h (fun c11 h => ?_) (fun c11 h => ?_)
    ·skip
     refine lpr h (fun hy => ?_)
     have h := h5
     rw [← hy] at h
     exact fk h
    refine ag h fun h => ?_
    refine bk h fun t12 k13 h => ?_
    refine cl4 cok.g (rickyardref01_Lay.sc fu _ _ _ k13) (vs t12) [] 1 ?_
    refine ag h fun h => ?_
    exact lik h
   refine t_cond cok ?_
   refine ag h fun h => ?_
   refine bk h fun t14 k15 h => ?_
   refine cl4 cok.g (rickyardref01_Lay.sc fu _ _ _ k15) (vs t14) [] 1 ?_
   refine ag h fun h => ?_
   exact lik h
  exact lpx h fun hy => esk (sj hy)
 subst hy
 refine bk h fun t16 k17 h => ?_
 refine cl4 cok.g (rickyardref07_Seal.sc fu _ _ _ _ k17) (vs t16) [] 0 ?_
 exact fk h
def rickyardref09_GetFan.s0 (fu : Nat) (t1 : Int × Int × (List UInt8) × Bool) : (Int × S_api_Fan) → Option (Sum S_api_Fan (Int × S_api_Fan)) := fun s5 => (if (decide (s5.1 < 16)) then if (0 : Int) ≤ (IntKind.i64.wrap (2 * s5.1)) ∧ (IntKind.i64.wrap (2 * s5.1)) ≤ (IntKind.i64.wrap ((IntKind.i64.wrap (2 * s5.1)) + 2)) ∧ (IntKind.i64.wrap ((IntKind.i64.wrap (2 * s5.1)) + 2)) ≤ (List.length t1.2.2.1 : Int) then ((rickyardref01_Int.f fu (cut t1.2.2.1 (IntKind.i64.wrap (2 * s5.1)) (IntKind.i64.wrap ((IntKind.i64.wrap (2 * s5.1)) + 2)))).bind fun t11 => if 0 ≤ s5.1 ∧ s5.1 < 16 then some (Sum.inr ((IntKind.i64.wrap (s5.1 + 1)), (⟨(Arr.set s5.2.Kids s5.1 t11)⟩ : S_api_Fan))) else none) else none else some (Sum.inl (s5.2)))
def rickyardref09_GetFan.f (fu : Nat) (a0 : List Int) : Option (S_api_Fan × Bool) := ((rickyardref07_Open.f fu a0).bind fun t1 => (if (!t1.2.2.2) then some ((⟨(Arr.rep 16 (0 : Int))⟩ : S_api_Fan), false) else (if (!decide (t1.1 = 3)) then some ((⟨(Arr.rep 16 (0 : Int))⟩ : S_api_Fan), false) else ((loopM (rickyardref09_GetFan.s0 fu t1) fu (0, (⟨(Arr.rep 16 (0 : Int))⟩ : S_api_Fan))).bind fun e6 => ((rickyardref09_Fan.f fu e6).bind fun t13 => (if (!t13.2) then some ((⟨(Arr.rep 16 (0 : Int))⟩ : S_api_Fan), false) else (if (!decide (t13.1 = (List.map toB a0))) then some ((⟨(Arr.rep 16 (0 : Int))⟩ : S_api_Fan), false) else some (e6, true))))))))
theorem rickyardref09_GetFan.sc (fu : Nat) (a0 : List Int) (r : S_api_Fan × Bool) (h : rickyardref09_GetFan.f fu a0 = some r) : SC Tryz.prog CT 27 [.v (.sl (.int .u8)) (a0 : List Int)] [] (.tup [.v (.st .S_api_Fan) (r.1 : S_api_Fan), vb r.2]) [] := by
 unfold rickyardref09_GetFan.f at h
 refine sq Tryz.func27 r (fun r => .tup [.v (.st .S_api_Fan) (r.1 : S_api_Fan), vb r.2]) (fun r => []) fun X => ?_
 refine bk h fun t1 k2 h => ?_
 refine cl4 cok.g (rickyardref07_Open.sc fu _ _ k2) (.tup [vi .i64 t1.1, vi .i64 t1.2.1, vs t1.2.2.1, vb t1.2.2.2]) [] 1 ?_
 refine t_reg cok ?_
 refine bi h (fun c3 h => ?_) (fun c3 h => ?_)
 ·skip
  refine t_cond cok ?_
  exact fk h
 refine t_cond cok ?_
 refine bi h (fun c4 h => ?_) (fun c4 h => ?_)
 ·skip
  exact fk h
 refine bk h fun e6 l7 h => ?_
 refine t_cutx cok 0 (fun (e6 : S_api_Fan) => ⟨[(0, .v (.sl (.int .u8)) (a0 : List Int)), (2, .ptr 0 0), (8, .ptr 1 0)], [.box 65 (.v (.st .S_api_Fan) ((⟨(Arr.rep 16 (0 : Int))⟩ : S_api_Fan) : S_api_Fan)), .box 65 (.v (.st .S_api_Fan) (e6 : S_api_Fan))]⟩) e6 ?_ ?_
 ·skip
  have h8 := h
  refine t_loop cok (fun (s5 : Int × S_api_Fan) => ⟨[(0, .v (.sl (.int .u8)) (a0 : List Int)), (2, .ptr 0 0), (6, vs t1.2.2.1), (8, .ptr 1 0), (9, vi .i64 s5.1)], [.box 65 (.v (.st .S_api_Fan) ((⟨(Arr.rep 16 (0 : Int))⟩ : S_api_Fan) : S_api_Fan)), .box 65 (.v (.st .S_api_Fan) (s5.2 : S_api_Fan))]⟩) l7 (by kernel_rfl) (fun s5 x9 h => ?_)
  unfold rickyardref09_GetFan.s0 at h
  refine t_cond cok ?_
  refine bi h (fun c10 h => ?_) (fun c10 h => ?_)
  ·skip
   refine ag h fun h => ?_
   refine bk h fun t11 k12 h => ?_
   refine cl4 cok.g (rickyardref01_Int.sc fu _ _ k12) (vi .i64 t11) [] 2 ?_
   refine ag h fun h => ?_
   exact lik h
  exact lpx h fun hy => ek (sj hy)
 refine bk h fun t13 k14 h => ?_
 refine cl4 cok.g (rickyardref09_Fan.sc fu _ _ k14) (.tup [vs t13.1, vb t13.2]) [] 2 ?_
 refine t_reg cok ?_
 refine bi h (fun c15 h => ?_) (fun c15 h => ?_)
 ·skip
  refine t_cond cok ?_
  exact fk h
 refine t_cond cok ?_
 refine bi h (fun c16 h => ?_) (fun c16 h => ?_)
 ·skip
  exact fk h
 exact fk h
def rickyardref09_GetLeaf.s0 (fu : Nat) (t1 : Int × Int × (List UInt8) × Bool) : (Int × S_api_Leaf) → Option (Sum S_api_Leaf (Int × S_api_Leaf)) := fun s5 => (if (decide (s5.1 < 7)) then if 0 ≤ s5.1 then if (shL .i64 1 s5.1) ≠ 0 then if (0 : Int) ≤ (IntKind.i64.wrap (8 * s5.1)) ∧ (IntKind.i64.wrap (8 * s5.1)) ≤ (IntKind.i64.wrap ((IntKind.i64.wrap (8 * s5.1)) + 4)) ∧ (IntKind.i64.wrap ((IntKind.i64.wrap (8 * s5.1)) + 4)) ≤ (List.length t1.2.2.1 : Int) then ((rickyardref01_Int.f fu (cut t1.2.2.1 (IntKind.i64.wrap (8 * s5.1)) (IntKind.i64.wrap ((IntKind.i64.wrap (8 * s5.1)) + 4)))).bind fun t11 => if (0 : Int) ≤ (IntKind.i64.wrap ((IntKind.i64.wrap (8 * s5.1)) + 4)) ∧ (IntKind.i64.wrap ((IntKind.i64.wrap (8 * s5.1)) + 4)) ≤ (IntKind.i64.wrap ((IntKind.i64.wrap (8 * s5.1)) + 8)) ∧ (IntKind.i64.wrap ((IntKind.i64.wrap (8 * s5.1)) + 8)) ≤ (List.length t1.2.2.1 : Int) then ((rickyardref01_Int.f fu (cut t1.2.2.1 (IntKind.i64.wrap ((IntKind.i64.wrap (8 * s5.1)) + 4)) (IntKind.i64.wrap ((IntKind.i64.wrap (8 * s5.1)) + 8)))).bind fun t13 => if 0 ≤ s5.1 ∧ s5.1 < 7 then some (Sum.inr ((IntKind.i64.wrap (s5.1 + 1)), (⟨(Arr.set s5.2.Seats s5.1 (⟨(decide ((Int.tmod (IntKind.i64.wrap (Int.tdiv t1.2.1 (shL .i64 1 s5.1))) 2) = 1)), t11, t13⟩ : S_api_Seat))⟩ : S_api_Leaf))) else none) else none) else none else none else none else some (Sum.inl (s5.2)))
def rickyardref09_GetLeaf.f (fu : Nat) (a0 : List Int) : Option (S_api_Leaf × Bool) := ((rickyardref07_Open.f fu a0).bind fun t1 => (if (!t1.2.2.2) then some ((⟨(Arr.rep 7 (⟨false, (0 : Int), (0 : Int)⟩ : S_api_Seat))⟩ : S_api_Leaf), false) else (if (!decide (t1.1 = 2)) then some ((⟨(Arr.rep 7 (⟨false, (0 : Int), (0 : Int)⟩ : S_api_Seat))⟩ : S_api_Leaf), false) else ((loopM (rickyardref09_GetLeaf.s0 fu t1) fu (0, (⟨(Arr.rep 7 (⟨false, (0 : Int), (0 : Int)⟩ : S_api_Seat))⟩ : S_api_Leaf))).bind fun e6 => ((rickyardref09_Leaf.f fu e6).bind fun t15 => (if (!t15.2) then some ((⟨(Arr.rep 7 (⟨false, (0 : Int), (0 : Int)⟩ : S_api_Seat))⟩ : S_api_Leaf), false) else (if (!decide (t15.1 = (List.map toB a0))) then some ((⟨(Arr.rep 7 (⟨false, (0 : Int), (0 : Int)⟩ : S_api_Seat))⟩ : S_api_Leaf), false) else some (e6, true))))))))
theorem rickyardref09_GetLeaf.sc (fu : Nat) (a0 : List Int) (r : S_api_Leaf × Bool) (h : rickyardref09_GetLeaf.f fu a0 = some r) : SC Tryz.prog CT 25 [.v (.sl (.int .u8)) (a0 : List Int)] [] (.tup [.v (.st .S_api_Leaf) (r.1 : S_api_Leaf), vb r.2]) [] := by
 unfold rickyardref09_GetLeaf.f at h
 refine sq Tryz.func25 r (fun r => .tup [.v (.st .S_api_Leaf) (r.1 : S_api_Leaf), vb r.2]) (fun r => []) fun X => ?_
 refine bk h fun t1 k2 h => ?_
 refine cl4 cok.g (rickyardref07_Open.sc fu _ _ k2) (.tup [vi .i64 t1.1, vi .i64 t1.2.1, vs t1.2.2.1, vb t1.2.2.2]) [] 1 ?_
 refine t_reg cok ?_
 refine bi h (fun c3 h => ?_) (fun c3 h => ?_)
 ·skip
  refine t_cond cok ?_
  exact fk h
 refine t_cond cok ?_
 refine bi h (fun c4 h => ?_) (fun c4 h => ?_)
 ·skip
  exact fk h
 refine bk h fun e6 l7 h => ?_
 refine t_cutx cok 0 (fun (e6 : S_api_Leaf) => ⟨[(0, .v (.sl (.int .u8)) (a0 : List Int)), (2, .ptr 0 0), (8, .ptr 1 0)], [.box 54 (.v (.st .S_api_Leaf) ((⟨(Arr.rep 7 (⟨false, (0 : Int), (0 : Int)⟩ : S_api_Seat))⟩ : S_api_Leaf) : S_api_Leaf)), .box 54 (.v (.st .S_api_Leaf) (e6 : S_api_Leaf))]⟩) e6 ?_ ?_
 ·skip
  have h8 := h
  refine t_loop cok (fun (s5 : Int × S_api_Leaf) => ⟨[(0, .v (.sl (.int .u8)) (a0 : List Int)), (2, .ptr 0 0), (5, vi .i64 t1.2.1), (6, vs t1.2.2.1), (8, .ptr 1 0), (9, vi .i64 s5.1)], [.box 54 (.v (.st .S_api_Leaf) ((⟨(Arr.rep 7 (⟨false, (0 : Int), (0 : Int)⟩ : S_api_Seat))⟩ : S_api_Leaf) : S_api_Leaf)), .box 54 (.v (.st .S_api_Leaf) (s5.2 : S_api_Leaf))]⟩) l7 (by kernel_rfl) (fun s5 x9 h => ?_)
  unfold rickyardref09_GetLeaf.s0 at h
  refine t_cond cok ?_
  refine bi h (fun c10 h => ?_) (fun c10 h => ?_)
  ·skip
   refine t_draw cok mo [⟨0, false, [9], [], 0, []⟩, ⟨1, false, [5], [], 0, []⟩, ⟨2, false, [9], [], 0, []⟩, ⟨3, false, [32], [], 0, [2]⟩, ⟨4, false, [31, 33], [], 0, [1, 2, 3]⟩, ⟨5, false, [34], [], 0, [1, 2, 3, 4]⟩, ⟨6, false, [35], [], 0, [1, 2, 3, 4, 5]⟩, ⟨7, false, [6], [], 0, []⟩, ⟨8, false, [9], [], 0, []⟩, ⟨9, false, [38], [], 0, [8]⟩, ⟨10, false, [9], [], 0, []⟩, ⟨11, false, [40], [], 0, [10]⟩, ⟨12, false, [41], [], 0, [10, 11]⟩, ⟨13, false, [37, 39, 42], [], 0, [7, 8, 9, 10, 11, 12]⟩, ⟨14, true, [43], [], 0, [7, 8, 9, 10, 11, 12, 13]⟩, ⟨15, false, [6], [], 0, []⟩, ⟨16, false, [9], [], 0, []⟩, ⟨17, false, [46], [], 0, [16]⟩, ⟨18, false, [47], [], 0, [16, 17]⟩, ⟨19, false, [9], [], 0, []⟩, ⟨20, false, [49], [], 0, [19]⟩, ⟨21, false, [50], [], 0, [19, 20]⟩, ⟨22, false, [45, 48, 51], [], 0, [15, 16, 17, 18, 19, 20, 21]⟩, ⟨23, true, [52], [], 0, [7, 8, 9, 10, 11, 12, 13, 14, 15, 16, 17, 18, 19, 20, 21, 22]⟩, ⟨24, false, [36, 44, 53], [], 0, [1, 2, 3, 4, 5, 6, 7, 8, 9, 10, 11, 12, 13, 14, 15, 16, 17, 18, 19, 20, 21, 22, 23]⟩, ⟨25, false, [8], [], 0, []⟩, ⟨26, false, [30, 55], [], 0, cl 26⟩, ⟨27, true, [54, 56], [1], 0, cl 27⟩] (by kernel_rfl) ?_
   refine ag h fun h => ?_
   refine ag h fun h => ?_
   refine ⟨by decide, ?_⟩
   refine ag h fun h => ?_
   refine bk h fun t11 k12 h => ?_
   refine cl4 cok.g (rickyardref01_Int.sc fu _ _ k12) (vi .i64 t11) [] 2 ?_
   refine ag h fun h => ?_
   refine bk h fun t13 k14 h => ?_
   refine cl4 cok.g (rickyardref01_Int.sc fu _ _ k14) (vi .i64 t13) [] 2 ?_
   refine ag h fun h => ?_
   exact lik h
  exact lpx h fun hy => ek (sj hy)
 refine bk h fun t15 k16 h => ?_
 refine cl4 cok.g (rickyardref09_Leaf.sc fu _ _ k16) (.tup [vs t15.1, vb t15.2]) [] 2 ?_
 refine t_reg cok ?_
 refine bi h (fun c17 h => ?_) (fun c17 h => ?_)
 ·skip
  refine t_cond cok ?_
  exact fk h
 refine t_cond cok ?_
 refine bi h (fun c18 h => ?_) (fun c18 h => ?_)
 ·skip
  exact fk h
 exact fk h
def rickyardref10_Put.f (fu : Nat) (a0 : S_api_Chart) : Option (List UInt8) := ((rickyardref07_Seal.f fu 4 a0.Place (List.map toB (Arr.l a0.Bits))).bind fun t1 => some (t1))
theorem rickyardref10_Put.sc (fu : Nat) (a0 : S_api_Chart) (r : (List UInt8)) (h : rickyardref10_Put.f fu a0 = some r) : SC Tryz.prog CT 50 [.v (.st .S_api_Chart) (a0 : S_api_Chart)] [] (vs r) [] := by
 unfold rickyardref10_Put.f at h
 refine sq Tryz.func50 r (fun r => vs r) (fun r => []) fun X => ?_
 refine t_draw cok mo [⟨0, false, [1], [], 0, []⟩, ⟨1, false, [3], [0], 0, [0]⟩, ⟨2, false, [1], [], 0, []⟩, ⟨3, false, [5], [], 0, [2]⟩, ⟨4, false, [6], [0], 0, [2, 3]⟩, ⟨5, true, [4, 7], [], 0, cl 5⟩, ⟨6, false, [8], [], 0, cl 6⟩] (by kernel_rfl) ?_
 refine bk h fun t1 k2 h => ?_
 refine cl4 cok.g (rickyardref07_Seal.sc fu _ _ _ _ k2) (vs t1) [] 1 ?_
 exact fk h
def rickyardref10_Get.s0 (fu : Nat) (t1 : Int × Int × (List UInt8) × Bool) : (Int × S_api_Chart) → Option (Sum S_api_Chart (Int × S_api_Chart)) := fun s6 => (if (decide (s6.1 < 48)) then if 0 ≤ s6.1 ∧ s6.1 < (List.length t1.2.2.1 : Int) then if 0 ≤ s6.1 ∧ s6.1 < 48 then some (Sum.inr ((IntKind.i64.wrap (s6.1 + 1)), (⟨s6.2.Place, (Arr.set s6.2.Bits s6.1 (ofB (List.getD t1.2.2.1 (Int.toNat s6.1) 0)))⟩ : S_api_Chart))) else none else none else some (Sum.inl (s6.2)))
def rickyardref10_Get.f (fu : Nat) (a0 : List Int) : Option (S_api_Chart × Bool) := ((rickyardref07_Open.f fu a0).bind fun t1 => (if (!t1.2.2.2) then some ((⟨(0 : Int), (Arr.rep 48 (0 : Int))⟩ : S_api_Chart), false) else (if (!decide (t1.1 = 4)) then some ((⟨(0 : Int), (Arr.rep 48 (0 : Int))⟩ : S_api_Chart), false) else (if (decide (t1.2.1 > 7)) then some ((⟨(0 : Int), (Arr.rep 48 (0 : Int))⟩ : S_api_Chart), false) else ((loopM (rickyardref10_Get.s0 fu t1) fu (0, (⟨t1.2.1, (Arr.rep 48 (0 : Int))⟩ : S_api_Chart))).bind fun e7 => ((rickyardref10_Put.f fu e7).bind fun t12 => (if (!decide (t12 = (List.map toB a0))) then some ((⟨(0 : Int), (Arr.rep 48 (0 : Int))⟩ : S_api_Chart), false) else some (e7, true))))))))
theorem rickyardref10_Get.sc (fu : Nat) (a0 : List Int) (r : S_api_Chart × Bool) (h : rickyardref10_Get.f fu a0 = some r) : SC Tryz.prog CT 28 [.v (.sl (.int .u8)) (a0 : List Int)] [] (.tup [.v (.st .S_api_Chart) (r.1 : S_api_Chart), vb r.2]) [] := by
 unfold rickyardref10_Get.f at h
 refine sq Tryz.func28 r (fun r => .tup [.v (.st .S_api_Chart) (r.1 : S_api_Chart), vb r.2]) (fun r => []) fun X => ?_
 refine bk h fun t1 k2 h => ?_
 refine cl4 cok.g (rickyardref07_Open.sc fu _ _ k2) (.tup [vi .i64 t1.1, vi .i64 t1.2.1, vs t1.2.2.1, vb t1.2.2.2]) [] 1 ?_
 refine t_reg cok ?_
 refine bi h (fun c3 h => ?_) (fun c3 h => ?_)
 ·skip
  refine t_cond cok ?_
  exact fk h
 refine bi h (fun c4 h => ?_) (fun c4 h => ?_)
 ·skip
  refine t_cond cok ?_
  exact fk h
 refine t_cond cok ?_
 refine bi h (fun c5 h => ?_) (fun c5 h => ?_)
 ·skip
  exact fk h
 refine bk h fun e7 l8 h => ?_
 refine t_cutx cok 0 (fun (e7 : S_api_Chart) => ⟨[(0, .v (.sl (.int .u8)) (a0 : List Int)), (2, .ptr 0 0), (8, .ptr 1 0)], [.box 70 (.v (.st .S_api_Chart) ((⟨(0 : Int), (Arr.rep 48 (0 : Int))⟩ : S_api_Chart) : S_api_Chart)), .box 70 (.v (.st .S_api_Chart) (e7 : S_api_Chart))]⟩) e7 ?_ ?_
 ·skip
  have h9 := h
  refine t_loop cok (fun (s6 : Int × S_api_Chart) => ⟨[(0, .v (.sl (.int .u8)) (a0 : List Int)), (2, .ptr 0 0), (6, vs t1.2.2.1), (8, .ptr 1 0), (9, vi .i64 s6.1)], [.box 70 (.v (.st .S_api_Chart) ((⟨(0 : Int), (Arr.rep 48 (0 : Int))⟩ : S_api_Chart) : S_api_Chart)), .box 70 (.v (.st .S_api_Chart) (s6.2 : S_api_Chart))]⟩) l8 (by kernel_rfl) (fun s6 x10 h => ?_)
  unfold rickyardref10_Get.s0 at h
  refine t_cond cok ?_
  refine bi h (fun c11 h => ?_) (fun c11 h => ?_)
  ·skip
   refine ag h fun h => ?_
   refine ag h fun h => ?_
   exact lik h
  exact lpx h fun hy => ek (sj hy)
 refine t_draw cok mo [⟨0, false, [8], [1], 0, []⟩, ⟨1, true, [40], [], 0, [0]⟩, ⟨2, false, [0], [], 0, []⟩, ⟨3, false, [42], [], 0, [2]⟩, ⟨4, false, [41, 43], [], 0, cl 4⟩] (by kernel_rfl) ?_
 refine bk h fun t12 k13 h => ?_
 refine cl4 cok.g (rickyardref10_Put.sc fu _ _ k13) (vs t12) [] 2 ?_
 refine t_cond cok ?_
 refine bi h (fun c14 h => ?_) (fun c14 h => ?_)
 ·skip
  exact fk h
 exact fk h
def rickyardref10_Right.f (fu : Nat) (a0 : S_api_Chart) : Option Bool := (if (decide (a0.Place ≥ 0)) then some ((decide (a0.Place ≤ 7))) else some (false))
theorem rickyardref10_Right.sc (fu : Nat) (a0 : S_api_Chart) (r : Bool) (h : rickyardref10_Right.f fu a0 = some r) : SC Tryz.prog CT 51 [.v (.st .S_api_Chart) (a0 : S_api_Chart)] [] (vb r) [] := by
 unfold rickyardref10_Right.f at h
 refine sq Tryz.func51 r (fun r => vb r) (fun r => []) fun X => ?_
 refine t_reg cok ?_
 refine bi h (fun c1 h => ?_) (fun c1 h => ?_)
 ·skip
  exact fk h
 exact fk h
def rickyardref10_List.s1 (fu : Nat) (a0 : S_api_Chart) (s1 : (List Int) × Int) : ((List Int) × Int × Int) → Option (Sum (List Int) ((List Int) × Int × Int)) := fun s10 => (if (decide (s10.2.2 < 8)) then (((if (decide ((Int.tmod s10.2.1 2) = 1)) then if List.length s10.1 + List.length [(IntKind.i64.wrap ((IntKind.i64.wrap ((IntKind.i64.wrap (384 * a0.Place)) + (IntKind.i64.wrap (8 * s1.2)))) + s10.2.2))] ≤ LIM then some ((s10.1 ++ [(IntKind.i64.wrap ((IntKind.i64.wrap ((IntKind.i64.wrap (384 * a0.Place)) + (IntKind.i64.wrap (8 * s1.2)))) + s10.2.2))])) else none else some (s10.1)) : Option (List Int)).bind fun x16 => some (Sum.inr (x16, (IntKind.i64.wrap (Int.tdiv s10.2.1 2)), (IntKind.i64.wrap (s10.2.2 + 1))))) else some (Sum.inl (s10.1)))
def rickyardref10_List.s0 (fu : Nat) (a0 : S_api_Chart) : ((List Int) × Int) → Option (Sum (List Int) ((List Int) × Int)) := fun s1 => (if (decide (s1.2 < 48)) then ((rickyardref10_Right.f fu a0).bind fun t7 => (if t7 then if 0 ≤ s1.2 ∧ s1.2 < 48 then ((loopM (rickyardref10_List.s1 fu a0 s1) fu (s1.1, (IntKind.i64.wrap (Arr.get a0.Bits s1.2)), 0)).bind fun e11 => some (Sum.inr (e11, (IntKind.i64.wrap (s1.2 + 1))))) else none else some (Sum.inl (s1.1)))) else some (Sum.inl (s1.1)))
def rickyardref10_List.f (fu : Nat) (a0 : S_api_Chart) : Option (List Int) := ((loopM (rickyardref10_List.s0 fu a0) fu (([] : List Int), 0)).bind fun e2 => some (e2))
theorem rickyardref10_List.sc (fu : Nat) (a0 : S_api_Chart) (r : (List Int)) (h : rickyardref10_List.f fu a0 = some r) : SC Tryz.prog CT 29 [.v (.st .S_api_Chart) (a0 : S_api_Chart)] [] (.sl 0 1 []) [.row (.int .i64) 3 (r : List Int)] := by
 unfold rickyardref10_List.f at h
 refine sq Tryz.func29 r (fun r => .sl 0 1 []) (fun r => [.row (.int .i64) 3 (r : List Int)]) fun X => ?_
 refine bk h fun e2 l3 h => ?_
 refine t_cutx cok 0 (fun (e2 : (List Int)) => ⟨[(3, .sl 0 1 [])], [.row (.int .i64) 3 (e2 : List Int)]⟩) e2 ?_ ?_
 ·skip
  have h4 := h
  refine t_loop cok (fun (s1 : (List Int) × Int) => ⟨[(1, .ptr 0 0), (3, .sl 1 1 []), (4, vi .i64 s1.2)], [.box 70 (.v (.st .S_api_Chart) (a0 : S_api_Chart)), .row (.int .i64) 3 (s1.1 : List Int)]⟩) l3 (by kernel_rfl) (fun s1 x5 h => ?_)
  unfold rickyardref10_List.s0 at h
  refine t_reg cok ?_
  refine bi h (fun c6 h => ?_) (fun c6 h => ?_)
  ·skip
   refine bk h fun t7 k8 h => ?_
   refine cl4 cok.g (rickyardref10_Right.sc fu _ _ k8) (vb t7) [] 2 ?_
   refine t_cond cok ?_
   refine bi h (fun c9 h => ?_) (fun c9 h => ?_)
   ·skip
    refine ag h fun h => ?_
    refine bk h fun e11 l12 h => ?_
    refine t_cutx cok 2 (fun (e11 : (List Int)) => ⟨[(1, .ptr 0 0), (3, .sl 1 1 []), (4, vi .i64 s1.2), (10, .v (.st .S_api_Chart) (a0 : S_api_Chart)), (11, vb t7)], [.box 70 (.v (.st .S_api_Chart) (a0 : S_api_Chart)), .row (.int .i64) 3 (e11 : List Int)]⟩) e11 ?_ ?_
    ·skip
     have h13 := h
     refine t_loop cok (fun (s10 : (List Int) × Int × Int) => ⟨[(1, .ptr 0 0), (3, .sl 1 1 []), (4, vi .i64 s1.2), (5, vi .i64 s10.2.1), (6, vi .i64 s10.2.2), (10, .v (.st .S_api_Chart) (a0 : S_api_Chart)), (11, vb t7)], [.box 70 (.v (.st .S_api_Chart) (a0 : S_api_Chart)), .row (.int .i64) 3 (s10.1 : List Int)]⟩) l12 (by kernel_rfl) (fun s10 x14 h => ?_)
     unfold rickyardref10_List.s1 at h
     refine t_cond cok ?_
     refine bi h (fun c15 h => ?_) (fun c15 h => ?_)
     ·skip
      refine ⟨by decide, ?_⟩
      refine bk h fun x16 j17 h => ?_
      refine t_cut cok (fun (x16 : (List Int)) => ⟨[(1, .ptr 0 0), (3, .sl 1 1 []), (4, vi .i64 s1.2), (5, vi .i64 s10.2.1), (6, vi .i64 s10.2.2), (10, .v (.st .S_api_Chart) (a0 : S_api_Chart)), (11, vb t7)], [.box 70 (.v (.st .S_api_Chart) (a0 : S_api_Chart)), .row (.int .i64) 3 (x16 : List Int)]⟩) x16 ?_ ?_
      ·skip
       have h18 := h
       have h := j17
       refine t_cond cok ?_
       refine bi h (fun c19 h => ?_) (fun c19 h => ?_)
       ·skip
        refine ag h fun h => ?_
        exact ek h
       exact ek h
      refine ⟨by decide, ?_⟩
      exact lik h
     exact lpx h fun hy => ek (sj hy)
    exact lik h
   exact lpx h fun hy => ek (sj hy)
  refine t_cond cok ?_
  exact lpx h fun hy => ek (sj hy)
 exact fk h
def rickyardref11_Put.s0 (fu : Nat) (a0 : S_api_Queue) : ((List UInt8) × Int) → Option (Sum (List UInt8) ((List UInt8) × Int)) := fun s3 => (if (decide (s3.2 < 12)) then if 0 ≤ s3.2 ∧ s3.2 < 12 then ((rickyardref01_Lay.f fu (IntKind.u64.wrap (Arr.get a0.Roots s3.2)) 2).bind fun t9 => if List.length s3.1 + List.length t9 ≤ LIM then some (Sum.inr ((s3.1 ++ t9), (IntKind.i64.wrap (s3.2 + 1)))) else none) else none else some (Sum.inl (s3.1)))
def rickyardref11_Put.f (fu : Nat) (a0 : S_api_Queue) : Option (List UInt8) := ((rickyardref01_Lay.f fu (IntKind.u64.wrap a0.Count) 4).bind fun t1 => ((loopM (rickyardref11_Put.s0 fu a0) fu (t1, 0)).bind fun e4 => if List.length e4 + List.length a0.Name ≤ LIM then ((rickyardref07_Seal.f fu 5 (List.length a0.Name : Int) (e4 ++ a0.Name)).bind fun t11 => some (t11)) else none))
theorem rickyardref11_Put.sc (fu : Nat) (a0 : S_api_Queue) (r : (List UInt8)) (h : rickyardref11_Put.f fu a0 = some r) : SC Tryz.prog CT 43 [.v (.st .S_api_Queue) (a0 : S_api_Queue)] [] (vs r) [] := by
 unfold rickyardref11_Put.f at h
 refine sq Tryz.func43 r (fun r => vs r) (fun r => []) fun X => ?_
 refine bk h fun t1 k2 h => ?_
 refine cl4 cok.g (rickyardref01_Lay.sc fu _ _ _ k2) (vs t1) [] 1 ?_
 refine bk h fun e4 l5 h => ?_
 refine t_cutx cok 0 (fun (e4 : (List UInt8)) => ⟨[(1, .ptr 0 0), (3, vs e4)], [.box 77 (.v (.st .S_api_Queue) (a0 : S_api_Queue))]⟩) e4 ?_ ?_
 ·skip
  have h6 := h
  refine t_loop cok (fun (s3 : (List UInt8) × Int) => ⟨[(1, .ptr 0 0), (3, vs s3.1), (4, vi .i64 s3.2)], [.box 77 (.v (.st .S_api_Queue) (a0 : S_api_Queue))]⟩) l5 (by kernel_rfl) (fun s3 x7 h => ?_)
  unfold rickyardref11_Put.s0 at h
  refine t_cond cok ?_
  refine bi h (fun c8 h => ?_) (fun c8 h => ?_)
  ·skip
   refine ag h fun h => ?_
   refine bk h fun t9 k10 h => ?_
   refine cl4 cok.g (rickyardref01_Lay.sc fu _ _ _ k10) (vs t9) [] 1 ?_
   refine ag h fun h => ?_
   exact lik h
  exact lpx h fun hy => ek (sj hy)
 refine ag h fun h => ?_
 refine bk h fun t11 k12 h => ?_
 refine cl4 cok.g (rickyardref07_Seal.sc fu _ _ _ _ k12) (vs t11) [] 1 ?_
 exact fk h
def rickyardref04_Of.f (fu : Nat) (a0 : Int) : Option Bool := (if (decide (a0 ≥ 97)) then (if (decide (a0 ≤ 122)) then some (true) else (if (decide (a0 ≥ 65)) then (if (decide (a0 ≤ 90)) then some (true) else (if (decide (a0 ≥ 48)) then (if (decide (a0 ≤ 57)) then some (true) else (if (decide (a0 = 45)) then some (true) else (if (decide (a0 = 95)) then some (true) else (if (decide (a0 ≥ 161)) then some ((decide (a0 ≤ 65519))) else some (false))))) else (if (decide (a0 = 45)) then some (true) else (if (decide (a0 = 95)) then some (true) else (if (decide (a0 ≥ 161)) then some ((decide (a0 ≤ 65519))) else some (false)))))) else (if (decide (a0 ≥ 48)) then (if (decide (a0 ≤ 57)) then some (true) else (if (decide (a0 = 45)) then some (true) else (if (decide (a0 = 95)) then some (true) else (if (decide (a0 ≥ 161)) then some ((decide (a0 ≤ 65519))) else some (false))))) else (if (decide (a0 = 45)) then some (true) else (if (decide (a0 = 95)) then some (true) else (if (decide (a0 ≥ 161)) then some ((decide (a0 ≤ 65519))) else some (false))))))) else (if (decide (a0 ≥ 65)) then (if (decide (a0 ≤ 90)) then some (true) else (if (decide (a0 ≥ 48)) then (if (decide (a0 ≤ 57)) then some (true) else (if (decide (a0 = 45)) then some (true) else (if (decide (a0 = 95)) then some (true) else (if (decide (a0 ≥ 161)) then some ((decide (a0 ≤ 65519))) else some (false))))) else (if (decide (a0 = 45)) then some (true) else (if (decide (a0 = 95)) then some (true) else (if (decide (a0 ≥ 161)) then some ((decide (a0 ≤ 65519))) else some (false)))))) else (if (decide (a0 ≥ 48)) then (if (decide (a0 ≤ 57)) then some (true) else (if (decide (a0 = 45)) then some (true) else (if (decide (a0 = 95)) then some (true) else (if (decide (a0 ≥ 161)) then some ((decide (a0 ≤ 65519))) else some (false))))) else (if (decide (a0 = 45)) then some (true) else (if (decide (a0 = 95)) then some (true) else (if (decide (a0 ≥ 161)) then some ((decide (a0 ≤ 65519))) else some (false)))))))
theorem rickyardref04_Of.sc (fu : Nat) (a0 : Int) (r : Bool) (h : rickyardref04_Of.f fu a0 = some r) : SC Tryz.prog CT 86 [vi .i64 a0] [] (vb r) [] := by
 unfold rickyardref04_Of.f at h
 refine sq Tryz.func86 r (fun r => vb r) (fun r => []) fun X => ?_
 refine t_reg cok ?_
 refine bi h (fun c1 h => ?_) (fun c1 h => ?_)
 ·skip
  refine bi h (fun c2 h => ?_) (fun c2 h => ?_)
  ·skip
   exact fk h
  refine bi h (fun c3 h => ?_) (fun c3 h => ?_)
  ·skip
   refine bi h (fun c4 h => ?_) (fun c4 h => ?_)
   ·skip
    exact fk h
   refine bi h (fun c5 h => ?_) (fun c5 h => ?_)
   ·skip
    refine bi h (fun c6 h => ?_) (fun c6 h => ?_)
    ·skip
     exact fk h
    refine bi h (fun c7 h => ?_) (fun c7 h => ?_)
    ·skip
     exact fk h
    refine bi h (fun c8 h => ?_) (fun c8 h => ?_)
    ·skip
     exact fk h
    refine bi h (fun c9 h => ?_) (fun c9 h => ?_)
    ·skip
     exact fk h
    exact fk h
   refine bi h (fun c10 h => ?_) (fun c10 h => ?_)
   ·skip
    exact fk h
   refine bi h (fun c11 h => ?_) (fun c11 h => ?_)
   ·skip
    exact fk h
   refine bi h (fun c12 h => ?_) (fun c12 h => ?_)
   ·skip
    exact fk h
   exact fk h
  refine bi h (fun c13 h => ?_) (fun c13 h => ?_)
  ·skip
   refine bi h (fun c14 h => ?_) (fun c14 h => ?_)
   ·skip
    exact fk h
   refine bi h (fun c15 h => ?_) (fun c15 h => ?_)
   ·skip
    exact fk h
   refine bi h (fun c16 h => ?_) (fun c16 h => ?_)
   ·skip
    exact fk h
   refine bi h (fun c17 h => ?_) (fun c17 h => ?_)
   ·skip
    exact fk h
   exact fk h
  refine bi h (fun c18 h => ?_) (fun c18 h => ?_)
  ·skip
   exact fk h
  refine bi h (fun c19 h => ?_) (fun c19 h => ?_)
  ·skip
   exact fk h
  refine bi h (fun c20 h => ?_) (fun c20 h => ?_)
  ·skip
   exact fk h
  exact fk h
 refine bi h (fun c21 h => ?_) (fun c21 h => ?_)
 ·skip
  refine bi h (fun c22 h => ?_) (fun c22 h => ?_)
  ·skip
   exact fk h
  refine bi h (fun c23 h => ?_) (fun c23 h => ?_)
  ·skip
   refine bi h (fun c24 h => ?_) (fun c24 h => ?_)
   ·skip
    exact fk h
   refine bi h (fun c25 h => ?_) (fun c25 h => ?_)
   ·skip
    exact fk h
   refine bi h (fun c26 h => ?_) (fun c26 h => ?_)
   ·skip
    exact fk h
   refine bi h (fun c27 h => ?_) (fun c27 h => ?_)
   ·skip
    exact fk h
   exact fk h
  refine bi h (fun c28 h => ?_) (fun c28 h => ?_)
  ·skip
   exact fk h
  refine bi h (fun c29 h => ?_) (fun c29 h => ?_)
  ·skip
   exact fk h
  refine bi h (fun c30 h => ?_) (fun c30 h => ?_)
  ·skip
   exact fk h
  exact fk h
 refine bi h (fun c31 h => ?_) (fun c31 h => ?_)
 ·skip
  refine bi h (fun c32 h => ?_) (fun c32 h => ?_)
  ·skip
   exact fk h
  refine bi h (fun c33 h => ?_) (fun c33 h => ?_)
  ·skip
   exact fk h
  refine bi h (fun c34 h => ?_) (fun c34 h => ?_)
  ·skip
   exact fk h
  refine bi h (fun c35 h => ?_) (fun c35 h => ?_)
  ·skip
   exact fk h
  exact fk h
 refine bi h (fun c36 h => ?_) (fun c36 h => ?_)
 ·skip
  exact fk h
 refine bi h (fun c37 h => ?_) (fun c37 h => ?_)
 ·skip
  exact fk h
 refine bi h (fun c38 h => ?_) (fun c38 h => ?_)
 ·skip
  exact fk h
 exact fk h
def rickyardref04_follows.f (fu : Nat) (a0 : List UInt8) (a1 : Int) (a2 : Int) (a3 : Int) : Option Bool := (if (decide (a1 < (List.length a0 : Int))) then if 0 ≤ a1 ∧ a1 < (List.length a0 : Int) then (if (decide ((ofB (List.getD a0 (Int.toNat a1) 0)) ≥ a2)) then if 0 ≤ a1 ∧ a1 < (List.length a0 : Int) then some ((decide ((ofB (List.getD a0 (Int.toNat a1) 0)) ≤ a3))) else none else some (false)) else none else some (false))
theorem rickyardref04_follows.sc (fu : Nat) (a0 : List UInt8) (a1 : Int) (a2 : Int) (a3 : Int) (r : Bool) (h : rickyardref04_follows.f fu a0 a1 a2 a3 = some r) : SC Tryz.prog CT 111 [vs a0, vi .i64 a1, vi .u8 a2, vi .u8 a3] [] (vb r) [] := by
 unfold rickyardref04_follows.f at h
 refine sq Tryz.func111 r (fun r => vb r) (fun r => []) fun X => ?_
 refine t_reg cok ?_
 refine bi h (fun c1 h => ?_) (fun c1 h => ?_)
 ·skip
  refine ag h fun h => ?_
  refine bi h (fun c2 h => ?_) (fun c2 h => ?_)
  ·skip
   refine ag h fun h => ?_
   exact fk h
  exact fk h
 exact fk h
end Go.Proofs.YtdifnahlheogdaaGreat
