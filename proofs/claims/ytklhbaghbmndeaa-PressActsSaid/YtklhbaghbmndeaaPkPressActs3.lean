/- PressActs: texts merged, part 3 of 8. The last part proves that the law PressActs holds for every input. -/
import Derived.Test.YtklhbaghbmndeaaPkPressActs2
set_option linter.unusedVariables false
set_option linter.unusedSimpArgs false
namespace Go.Proofs.Ytklhbaghbmndeaa
open Go Go.Xw
def pmem_Device_Lines.f (fu : Nat) (a0 : S_pmem_Device) : Option Int := some ((IntKind.i64.wrap (Int.tdiv (List.length a0.cells : Int) 8)))
set_option maxRecDepth 100000 in
set_option maxHeartbeats 400000 in
theorem pmem_Device_Lines.ok (fu : Nat) (w : World) (a0 : S_pmem_Device) (G_0 : Nat) (V0_0 : Value) (R0_0 : Rd k_pmem_cell w V0_0 a0.cells) (V0_1 : Value) (R0_1 : Rd (kI .i64) w V0_1 a0.plan.list) (b_0 : Blk w G_0 139 [Seg.cell V0_0 R0_0.one, Seg.cell V0_1 R0_1.one, Seg.cell (.int .i64 a0.plan.at_), Seg.cell (.bool a0.off), Seg.cell (.bool a0.armed), Seg.cell (.int .i64 a0.left), Seg.cell (.int .i64 a0.steps)]) (r : Int) (h : pmem_Device_Lines.f fu a0 = some r) :
  Calls Try.prog 43 (([.pointer (some ⟨G_0, 0, none⟩)] : List Value).toArray) w (fun e w' => ∃ v, e = .returned v ∧ v = .int .i64 r ∧ Gr w w') := by
 unfold pmem_Device_Lines.f at h
 have fB : Gr w w := Fr.refl _ _
 refine calls_cw Try.func43 rfl Try.ntmps43 rfl ?_
 refine cw_seq ?_
 refine cw_region ?_
 refine ol_val (v := .int .i64 0) (by exact xr_assign rfl rfl) rfl rfl rfl ?_
 refine ol_nil ?_
 refine cw_seq ?_
 refine cw_region ?_
 refine ol_val (v := .pointer (some ⟨G_0, 0, none⟩)) (by exact xr_move rfl rfl) rfl rfl rfl ?_
 refine ol_val (v := .pointer (some ⟨G_0, 0, none⟩)) (by exact xr_nilCheck rfl rfl) rfl rfl rfl ?_
 refine ol_val (v := .pointer (some ⟨G_0, 0, none⟩)) (by exact xr_fieldAddr (p := 0) (q := 0) rfl fl139_0 rfl) rfl rfl rfl ?_
 refine ol_val (v := V0_0) (by exact xr_load1 (v := V0_0) rfl ag135 rfl (b_0.seg 0 rfl rfl)) rfl rfl rfl ?_
 refine ol_val (v := .int .i64 (List.length a0.cells : Int)) (by exact xr_lenR rfl Try.underlying135 rfl (R0_0.gr fB)) rfl rfl rfl ?_
 refine ol_val (v := .int .i64 (IntKind.i64.wrap (Int.tdiv (List.length a0.cells : Int) 8))) (by exact xr_quo rfl rfl rfl (by decide)) rfl rfl rfl ?_
 refine ol_val (v := .int .i64 (IntKind.i64.wrap (Int.tdiv (List.length a0.cells : Int) 8))) (by exact xr_assign rfl rfl) rfl rfl rfl ?_
 refine ol_nil ?_
 refine cw_ret ?_
 repeat (first | with_reducible refine thn_r ?_ | with_reducible refine blk_r ?_)
 obtain rfl := Option.some.inj h
 refine fin_ret1 Try.results43 rfl ?_
 exact ⟨_, rfl, rfl, fB⟩
def press_may.f (fu : Nat) (a0 : S_pmem_Device) (a1 : Int) : Option Int := (((if (decide (a1 < 0)) = true then some (true) else ((pmem_Device_Lines.f fu a0 : Option Int).bind fun t4 => some ((decide (a1 ≥ t4))))) : Option Bool).bind fun x1 => (if x1 = true then some (2) else some (0)))
set_option maxRecDepth 100000 in
set_option maxHeartbeats 400000 in
theorem press_may.ok (fu : Nat) (w : World) (a0 : S_pmem_Device) (G_0 : Nat) (V0_0 : Value) (R0_0 : Rd k_pmem_cell w V0_0 a0.cells) (V0_1 : Value) (R0_1 : Rd (kI .i64) w V0_1 a0.plan.list) (b_0 : Blk w G_0 139 [Seg.cell V0_0 R0_0.one, Seg.cell V0_1 R0_1.one, Seg.cell (.int .i64 a0.plan.at_), Seg.cell (.bool a0.off), Seg.cell (.bool a0.armed), Seg.cell (.int .i64 a0.left), Seg.cell (.int .i64 a0.steps)]) (a1 : Int) (r : Int) (h : press_may.f fu a0 a1 = some r) :
  Calls Try.prog 102 (([.pointer (some ⟨G_0, 0, none⟩), .int .i64 a1] : List Value).toArray) w (fun e w' => ∃ v, e = .returned v ∧ v = .int .i64 r ∧ Gr w w') := by
 unfold press_may.f at h
 have fB : Gr w w := Fr.refl _ _
 refine calls_cw Try.func102 rfl Try.ntmps102 rfl ?_
 refine cw_seq ?_
 refine cw_region ?_
 refine ol_val (v := .int .i64 0) (by exact xr_assign rfl rfl) rfl rfl rfl ?_
 refine ol_nil ?_
 refine cw_seq ?_
 refine cw_block ?_
 refine cw_seq ?_
 refine cw_region ?_
 refine ol_val (v := .pointer (some ⟨G_0, 0, none⟩)) (by exact xr_move rfl rfl) rfl rfl rfl ?_
 refine ol_val (v := .bool false) (by exact xr_eqP (b := false) rfl Try.underlying30 rfl rfl (by simp) (by simp)) rfl rfl rfl ?_
 refine ol_val (v := .bool false) (by exact xr_assign rfl rfl) rfl rfl rfl ?_
 refine ol_nil ?_
 refine cw_condF rfl rfl ?_
 refine cw_seq ?_
 obtain ⟨x1, j2, h⟩ := bs h
 refine cw_mid (fun ρ' w' => ρ' 8 = .bool x1 ∧ Gr w w') ?_ ?_
 ·skip
  refine cw_region ?_
  refine ol_val (v := .int .i64 a1) (by exact xr_move rfl rfl) rfl rfl rfl ?_
  refine ol_val (v := .bool (decide (a1 < 0))) (by exact xr_lss rfl rfl rfl) rfl rfl rfl ?_
  refine ol_val (v := .bool (decide (a1 < 0))) (by exact xr_move rfl rfl) rfl rfl rfl ?_
  rcases is j2 with ⟨c3, j2⟩ | ⟨c3, j2⟩
  ·skip
   refine ol_gskip rfl rfl rfl rfl rfl c3 ?_
   refine ol_gskip rfl rfl rfl rfl rfl c3 ?_
   refine ol_gskip rfl rfl rfl rfl rfl c3 ?_
   refine ol_gskip rfl rfl rfl rfl rfl c3 ?_
   refine ol_val (v := .bool true) (by exact xr_pickT rfl rfl c3 rfl) rfl rfl rfl ?_
   refine ol_val (v := .bool true) (by exact xr_assign rfl rfl) rfl rfl rfl ?_
   refine ol_nil ?_
   obtain rfl := Option.some.inj j2
   refine thn_i ?_
   exact ⟨rfl, Fr.refl _ _⟩
  refine ol_gval (v := .int .i64 a1) (by exact xr_move rfl rfl) rfl rfl rfl rfl rfl c3 ?_
  refine ol_gval (v := .pointer (some ⟨G_0, 0, none⟩)) (by exact xr_move rfl rfl) rfl rfl rfl rfl rfl c3 ?_
  obtain ⟨t4, k5, j2⟩ := bs j2
  refine ol_gop (by exact opv_call rfl cal43 (ac rfl an) (pmem_Device_Lines.ok fu _ a0 G_0 V0_0 (R0_0.gr fB) V0_1 (R0_1.gr fB) b_0 _ k5)) rfl rfl rfl rfl rfl c3 ?_
  rintro _ w7 ⟨rfl, q6⟩
  have b_0 := b_0.gr q6
  have fB := fB.gr q6
  refine ol_gval (v := .bool (decide (a1 ≥ t4))) (by exact xr_geq rfl rfl rfl) rfl rfl rfl rfl rfl c3 ?_
  refine ol_val (v := .bool (decide (a1 ≥ t4))) (by exact xr_pickF rfl rfl c3 rfl) rfl rfl rfl ?_
  refine ol_val (v := .bool (decide (a1 ≥ t4))) (by exact xr_assign rfl rfl) rfl rfl rfl ?_
  refine ol_nil ?_
  obtain rfl := Option.some.inj j2
  refine thn_i ?_
  exact ⟨rfl, q6⟩
 rintro ρ8 w9 ⟨e8, q10⟩
 have b_0 := b_0.gr q10
 have fB := fB.gr q10
 rcases is h with ⟨c11, h⟩ | ⟨c11, h⟩
 ·refine cw_condT e8 c11 ?_
  refine cw_seq ?_
  refine cw_region ?_
  refine ol_val (v := .int .i64 2) (by exact xr_assign rfl rfl) rfl rfl rfl ?_
  refine ol_nil ?_
  refine cw_ret ?_
  repeat (first | with_reducible refine thn_r ?_ | with_reducible refine blk_r ?_)
  obtain rfl := Option.some.inj h
  refine fin_ret1 Try.results102 rfl ?_
  exact ⟨_, rfl, rfl, fB⟩
 refine cw_condF e8 c11 ?_
 refine cw_skip ?_
 refine blk_i ?_
 refine cw_seq ?_
 refine cw_region ?_
 refine ol_val (v := .int .i64 0) (by exact xr_assign rfl rfl) rfl rfl rfl ?_
 refine ol_nil ?_
 refine cw_ret ?_
 repeat (first | with_reducible refine thn_r ?_ | with_reducible refine blk_r ?_)
 obtain rfl := Option.some.inj h
 refine fin_ret1 Try.results102 rfl ?_
 exact ⟨_, rfl, rfl, fB⟩
def pmem_Device_may.f (fu : Nat) (a0 : S_pmem_Device) (a1 : Int) (a2 : Int) : Option Int := (if a0.off = true then some (3) else (if (if (decide (a1 < 0)) = true then true else (decide (a1 ≥ a2))) = true then some (2) else some (0)))
set_option maxRecDepth 100000 in
set_option maxHeartbeats 400000 in
theorem pmem_Device_may.ok (fu : Nat) (w : World) (a0 : S_pmem_Device) (G_0 : Nat) (V0_0 : Value) (R0_0 : Rd k_pmem_cell w V0_0 a0.cells) (V0_1 : Value) (R0_1 : Rd (kI .i64) w V0_1 a0.plan.list) (b_0 : Blk w G_0 139 [Seg.cell V0_0 R0_0.one, Seg.cell V0_1 R0_1.one, Seg.cell (.int .i64 a0.plan.at_), Seg.cell (.bool a0.off), Seg.cell (.bool a0.armed), Seg.cell (.int .i64 a0.left), Seg.cell (.int .i64 a0.steps)]) (a1 : Int) (a2 : Int) (r : Int) (h : pmem_Device_may.f fu a0 a1 a2 = some r) :
  Calls Try.prog 83 (([.pointer (some ⟨G_0, 0, none⟩), .int .i64 a1, .int .i64 a2] : List Value).toArray) w (fun e w' => ∃ v, e = .returned v ∧ v = .int .i64 r ∧ Gr w w') := by
 unfold pmem_Device_may.f at h
 have fB : Gr w w := Fr.refl _ _
 refine calls_cw Try.func83 rfl Try.ntmps83 rfl ?_
 refine cw_seq ?_
 refine cw_region ?_
 refine ol_val (v := .int .i64 0) (by exact xr_assign rfl rfl) rfl rfl rfl ?_
 refine ol_nil ?_
 refine cw_seq ?_
 refine cw_block ?_
 refine cw_seq ?_
 refine cw_region ?_
 refine ol_val (v := .pointer (some ⟨G_0, 0, none⟩)) (by exact xr_move rfl rfl) rfl rfl rfl ?_
 refine ol_val (v := .pointer (some ⟨G_0, 0, none⟩)) (by exact xr_nilCheck rfl rfl) rfl rfl rfl ?_
 refine ol_val (v := .pointer (some ⟨G_0, 3, none⟩)) (by exact xr_fieldAddr (p := 0) (q := 3) rfl fl139_2 rfl) rfl rfl rfl ?_
 refine ol_val (v := .bool a0.off) (by exact xr_load1 (v := .bool a0.off) rfl ag4 rfl (b_0.seg 3 rfl rfl)) rfl rfl rfl ?_
 refine ol_val (v := .bool a0.off) (by exact xr_assign rfl rfl) rfl rfl rfl ?_
 refine ol_nil ?_
 rcases is h with ⟨c1, h⟩ | ⟨c1, h⟩
 ·refine cw_condT rfl c1 ?_
  refine cw_seq ?_
  refine cw_region ?_
  refine ol_val (v := .int .i64 3) (by exact xr_assign rfl rfl) rfl rfl rfl ?_
  refine ol_nil ?_
  refine cw_ret ?_
  repeat (first | with_reducible refine thn_r ?_ | with_reducible refine blk_r ?_)
  obtain rfl := Option.some.inj h
  refine fin_ret1 Try.results83 rfl ?_
  exact ⟨_, rfl, rfl, fB⟩
 refine cw_condF rfl c1 ?_
 refine cw_seq ?_
 refine cw_mid (fun ρ' w' => ρ' 12 = .bool (if (decide (a1 < 0)) = true then true else (decide (a1 ≥ a2))) ∧ w = w') ?_ ?_
 ·skip
  refine cw_region ?_
  refine ol_val (v := .int .i64 a1) (by exact xr_move rfl rfl) rfl rfl rfl ?_
  refine ol_val (v := .bool (decide (a1 < 0))) (by exact xr_lss rfl rfl rfl) rfl rfl rfl ?_
  refine ol_val (v := .bool (decide (a1 < 0))) (by exact xr_move rfl rfl) rfl rfl rfl ?_
  rcases bt (decide (a1 < 0)) with c2 | c2
  ·skip
   refine ol_gskip rfl rfl rfl rfl rfl c2 ?_
   refine ol_gskip rfl rfl rfl rfl rfl c2 ?_
   refine ol_gskip rfl rfl rfl rfl rfl c2 ?_
   refine ol_val (v := .bool true) (by exact xr_pickT rfl rfl c2 rfl) rfl rfl rfl ?_
   refine ol_val (v := .bool true) (by exact xr_assign rfl rfl) rfl rfl rfl ?_
   refine ol_nil ?_
   refine thn_i ?_
   exact ⟨(rfl).trans (congrArg (fun z => (.bool z : Value)) (show true = (if (decide (a1 < 0)) = true then true else (decide (a1 ≥ a2))) from by rw [ite_t c2])), rfl⟩
  refine ol_gval (v := .int .i64 a1) (by exact xr_move rfl rfl) rfl rfl rfl rfl rfl c2 ?_
  refine ol_gval (v := .int .i64 a2) (by exact xr_move rfl rfl) rfl rfl rfl rfl rfl c2 ?_
  refine ol_gval (v := .bool (decide (a1 ≥ a2))) (by exact xr_geq rfl rfl rfl) rfl rfl rfl rfl rfl c2 ?_
  refine ol_val (v := .bool (decide (a1 ≥ a2))) (by exact xr_pickF rfl rfl c2 rfl) rfl rfl rfl ?_
  refine ol_val (v := .bool (decide (a1 ≥ a2))) (by exact xr_assign rfl rfl) rfl rfl rfl ?_
  refine ol_nil ?_
  refine thn_i ?_
  exact ⟨(rfl).trans (congrArg (fun z => (.bool z : Value)) (show (decide (a1 ≥ a2)) = (if (decide (a1 < 0)) = true then true else (decide (a1 ≥ a2))) from by rw [ite_f c2])), rfl⟩
 rintro ρ3 _ ⟨e12, rfl⟩
 rcases is h with ⟨c4, h⟩ | ⟨c4, h⟩
 ·refine cw_condT e12 c4 ?_
  refine cw_seq ?_
  refine cw_region ?_
  refine ol_val (v := .int .i64 2) (by exact xr_assign rfl rfl) rfl rfl rfl ?_
  refine ol_nil ?_
  refine cw_ret ?_
  repeat (first | with_reducible refine thn_r ?_ | with_reducible refine blk_r ?_)
  obtain rfl := Option.some.inj h
  refine fin_ret1 Try.results83 rfl ?_
  exact ⟨_, rfl, rfl, fB⟩
 refine cw_condF e12 c4 ?_
 refine cw_skip ?_
 refine blk_i ?_
 refine cw_seq ?_
 refine cw_region ?_
 refine ol_val (v := .int .i64 0) (by exact xr_assign rfl rfl) rfl rfl rfl ?_
 refine ol_nil ?_
 refine cw_ret ?_
 repeat (first | with_reducible refine thn_r ?_ | with_reducible refine blk_r ?_)
 obtain rfl := Option.some.inj h
 refine fin_ret1 Try.results83 rfl ?_
 exact ⟨_, rfl, rfl, fB⟩
def pmem_plan_next__i0.f (fu : Nat) (a0 : S_pmem_plan) : Option (Int × S_pmem_plan) := (if (decide ((List.length a0.list : Int) = 0)) = true then some ((-1), a0) else (if 0 ≤ a0.at_ ∧ a0.at_ < (List.length a0.list : Int) then (if (List.length a0.list : Int) ≠ 0 then some ((ix a0.list a0.at_), (⟨a0.list, (Int.tmod (IntKind.i64.wrap (a0.at_ + 1)) (List.length a0.list : Int))⟩ : S_pmem_plan)) else none) else none))
set_option maxRecDepth 100000 in
set_option maxHeartbeats 400000 in
theorem pmem_plan_next__i0.ok (fu : Nat) (w : World) (a0 : S_pmem_plan) (G_0 : Nat) (T_0 : TypeId) (X_0 Y_0 : List Value) (V0_0 : Value) (R0_0 : Rd (kI .i64) w V0_0 a0.list) (N0_0 : OffR V0_0 a0.list G_0) (b_0 : SubB w G_0 T_0 X_0 [Seg.cell V0_0 R0_0.one, Seg.cell (.int .i64 a0.at_)] Y_0) (r : Int × S_pmem_plan) (h : pmem_plan_next__i0.f fu a0 = some r) :
  Calls Try.prog 123 (([.pointer (some ⟨G_0, List.length X_0, none⟩)] : List Value).toArray) w (fun e w' => ∃ v, e = .returned v ∧ v = .int .i64 r.1 ∧ SubB w' G_0 T_0 X_0 [Seg.cell V0_0 R0_0.one, Seg.cell (.int .i64 r.2.at_)] Y_0 ∧ Fr (fun j => j = G_0) w w') := by
 unfold pmem_plan_next__i0.f at h
 have fB : Fr (fun j => j = G_0) w w := Fr.refl _ _
 refine calls_cw Try.func123 rfl Try.ntmps123 rfl ?_
 refine cw_seq ?_
 refine cw_region ?_
 refine ol_val (v := .int .i64 0) (by exact xr_assign rfl rfl) rfl rfl rfl ?_
 refine ol_nil ?_
 refine cw_seq ?_
 refine cw_seq ?_
 refine cw_region ?_
 refine ol_val (v := .pointer (some ⟨G_0, List.length X_0, none⟩)) (by exact xr_move rfl rfl) rfl rfl rfl ?_
 refine ol_val (v := .pointer (some ⟨G_0, List.length X_0, none⟩)) (by exact xr_nilCheck rfl rfl) rfl rfl rfl ?_
 refine ol_val (v := .pointer (some ⟨G_0, List.length X_0 + 0, none⟩)) (by exact xr_fieldAddr (p := List.length X_0) (q := 0) rfl fl137_0 rfl) rfl rfl rfl ?_
 refine ol_val (v := V0_0) (by exact xr_load1 (v := V0_0) rfl ag25 rfl (b_0.seg 0 rfl rfl)) rfl rfl rfl ?_
 refine ol_val (v := .int .i64 (List.length a0.list : Int)) (by exact xr_lenR rfl Try.underlying25 rfl R0_0) rfl rfl rfl ?_
 refine ol_val (v := .bool (decide ((List.length a0.list : Int) = 0))) (by exact xr_eqI rfl Try.underlying3 rfl rfl rfl) rfl rfl rfl ?_
 refine ol_nil ?_
 rcases is h with ⟨c1, h⟩ | ⟨c1, h⟩
 ·refine cw_condT rfl c1 ?_
  refine cw_seq ?_
  refine cw_region ?_
  refine ol_val (v := .int .i64 (-1)) (by exact xr_assign rfl rfl) rfl rfl rfl ?_
  refine ol_nil ?_
  refine cw_ret ?_
  repeat (first | with_reducible refine thn_r ?_ | with_reducible refine blk_r ?_)
  obtain rfl := Option.some.inj h
  refine fin_ret1 Try.results123 rfl ?_
  exact ⟨_, rfl, rfl, b_0, fB⟩
 refine cw_condF rfl c1 ?_
 refine cw_skip ?_
 refine cw_seq ?_
 refine cw_drawL 8 [fun vz wz => vz = (.pointer (some ⟨G_0, List.length X_0, none⟩) : Value), fun vz wz => vz = (.pointer (some ⟨G_0, List.length X_0, none⟩) : Value), fun vz wz => vz = (.pointer (some ⟨G_0, List.length X_0 + 0, none⟩) : Value), fun vz wz => vz = (V0_0 : Value), fun vz wz => vz = (.pointer (some ⟨G_0, List.length X_0, none⟩) : Value), fun vz wz => vz = (.pointer (some ⟨G_0, List.length X_0, none⟩) : Value), fun vz wz => vz = (.pointer (some ⟨G_0, List.length X_0 + 1, none⟩) : Value), fun vz wz => vz = (.int .i64 a0.at_ : Value)] mo rfl ⟨fun _ _ _ h _ => h, fun _ _ _ h _ => h, fun _ _ _ h _ => h, fun _ _ _ h _ => h, fun _ _ _ h _ => h, fun _ _ _ h _ => h, fun _ _ _ h _ => h, fun _ _ _ h _ => h, trivial⟩ ?_ ?_
 ·refine ⟨?_, ?_, ?_, ?_, ?_, ?_, ?_, ?_, trivial⟩
  ·intro ρz wz hz hk hd
   exact sk_val (v := .pointer (some ⟨G_0, List.length X_0, none⟩)) (by exact xr_move rfl ((hk 0 rfl).trans rfl)) rfl rfl
  ·intro ρz wz hz hk hd
   have d10 := hd 0 rfl 10 rfl
   exact sk_val (v := .pointer (some ⟨G_0, List.length X_0, none⟩)) (by exact xr_nilCheck rfl d10) rfl rfl
  ·intro ρz wz hz hk hd
   have d11 := hd 1 rfl 11 rfl
   exact sk_val (v := .pointer (some ⟨G_0, List.length X_0 + 0, none⟩)) (by exact xr_fieldAddr (p := List.length X_0) (q := 0) rfl fl137_0 d11) rfl rfl
  ·intro ρz wz hz hk hd
   have d12 := hd 2 rfl 12 rfl
   exact sk_val (v := V0_0) (by exact xr_load1 (v := V0_0) rfl ag25 d12 ((b_0.gr hz).seg 0 rfl rfl)) rfl rfl
  ·intro ρz wz hz hk hd
   exact sk_val (v := .pointer (some ⟨G_0, List.length X_0, none⟩)) (by exact xr_move rfl ((hk 0 rfl).trans rfl)) rfl rfl
  ·intro ρz wz hz hk hd
   have d14 := hd 4 rfl 14 rfl
   exact sk_val (v := .pointer (some ⟨G_0, List.length X_0, none⟩)) (by exact xr_nilCheck rfl d14) rfl rfl
  ·intro ρz wz hz hk hd
   have d15 := hd 5 rfl 15 rfl
   exact sk_val (v := .pointer (some ⟨G_0, List.length X_0 + 1, none⟩)) (by exact xr_fieldAddr (p := List.length X_0) (q := 1) rfl fl137_1 d15) rfl rfl
  intro ρz wz hz hk hd
  have d16 := hd 6 rfl 16 rfl
  exact sk_val (v := .int .i64 a0.at_) (by exact xr_load1 (v := .int .i64 a0.at_) rfl ag3 d16 ((b_0.gr hz).seg 1 rfl rfl)) rfl rfl
 intro ρ2 w3 q4 hk hd
 have e0 := (hk 0 rfl).trans rfl
 have e13 := hd 3 rfl 13 rfl
 have e17 := hd 7 rfl 17 rfl
 have b_0 := b_0.gr q4
 have R0_0 := R0_0.gr q4
 have fB := fB.gr q4
 obtain ⟨g5, h⟩ := gs h
 refine ol_val (v := .pointer (some ⟨(sb V0_0), so V0_0 + Int.toNat a0.at_ * 1, none⟩)) (by exact xr_indexR (K := (kI .i64)) (v := V0_0) rfl Try.underlying25 sz3 e13 R0_0 e17 g5.1 g5.2) rfl rfl rfl ?_
 refine ol_val (v := .int .i64 (ix a0.list a0.at_)) (by exact xr_load1 (v := .int .i64 (ix a0.list a0.at_)) rfl ag3 rfl (R0_0.elem g5.1 g5.2)) rfl rfl rfl ?_
 refine ol_val (v := .int .i64 (ix a0.list a0.at_)) (by exact xr_assign rfl rfl) rfl rfl rfl ?_
 refine ol_nil ?_
 refine cw_seq ?_
 obtain ⟨g6, h⟩ := gs h
 refine cw_drawL 12 [fun vz wz => vz = (.pointer (some ⟨G_0, List.length X_0, none⟩) : Value), fun vz wz => vz = (.pointer (some ⟨G_0, List.length X_0, none⟩) : Value), fun vz wz => vz = (.pointer (some ⟨G_0, List.length X_0, none⟩) : Value), fun vz wz => vz = (.pointer (some ⟨G_0, List.length X_0 + 1, none⟩) : Value), fun vz wz => vz = (.int .i64 a0.at_ : Value), fun vz wz => vz = (.int .i64 (IntKind.i64.wrap (a0.at_ + 1)) : Value), fun vz wz => vz = (.pointer (some ⟨G_0, List.length X_0, none⟩) : Value), fun vz wz => vz = (.pointer (some ⟨G_0, List.length X_0, none⟩) : Value), fun vz wz => vz = (.pointer (some ⟨G_0, List.length X_0 + 0, none⟩) : Value), fun vz wz => vz = (V0_0 : Value), fun vz wz => vz = (.int .i64 (List.length a0.list : Int) : Value), fun vz wz => vz = (.int .i64 (Int.tmod (IntKind.i64.wrap (a0.at_ + 1)) (List.length a0.list : Int)) : Value)] mo rfl ⟨fun _ _ _ h _ => h, fun _ _ _ h _ => h, fun _ _ _ h _ => h, fun _ _ _ h _ => h, fun _ _ _ h _ => h, fun _ _ _ h _ => h, fun _ _ _ h _ => h, fun _ _ _ h _ => h, fun _ _ _ h _ => h, fun _ _ _ h _ => h, fun _ _ _ h _ => h, fun _ _ _ h _ => h, trivial⟩ ?_ ?_
 ·refine ⟨?_, ?_, ?_, ?_, ?_, ?_, ?_, ?_, ?_, ?_, ?_, ?_, trivial⟩
  ·intro ρz wz hz hk hd
   exact sk_val (v := .pointer (some ⟨G_0, List.length X_0, none⟩)) (by exact xr_move rfl ((hk 0 rfl).trans e0)) rfl rfl
  ·intro ρz wz hz hk hd
   exact sk_val (v := .pointer (some ⟨G_0, List.length X_0, none⟩)) (by exact xr_move rfl ((hk 0 rfl).trans e0)) rfl rfl
  ·intro ρz wz hz hk hd
   have d21 := hd 1 rfl 21 rfl
   exact sk_val (v := .pointer (some ⟨G_0, List.length X_0, none⟩)) (by exact xr_nilCheck rfl d21) rfl rfl
  ·intro ρz wz hz hk hd
   have d22 := hd 2 rfl 22 rfl
   exact sk_val (v := .pointer (some ⟨G_0, List.length X_0 + 1, none⟩)) (by exact xr_fieldAddr (p := List.length X_0) (q := 1) rfl fl137_1 d22) rfl rfl
  ·intro ρz wz hz hk hd
   have d23 := hd 3 rfl 23 rfl
   exact sk_val (v := .int .i64 a0.at_) (by exact xr_load1 (v := .int .i64 a0.at_) rfl ag3 d23 ((b_0.gr hz).seg 1 rfl rfl)) rfl rfl
  ·intro ρz wz hz hk hd
   have d24 := hd 4 rfl 24 rfl
   exact sk_val (v := .int .i64 (IntKind.i64.wrap (a0.at_ + 1))) (by exact xr_add rfl d24 rfl) rfl rfl
  ·intro ρz wz hz hk hd
   exact sk_val (v := .pointer (some ⟨G_0, List.length X_0, none⟩)) (by exact xr_move rfl ((hk 0 rfl).trans e0)) rfl rfl
  ·intro ρz wz hz hk hd
   have d26 := hd 6 rfl 26 rfl
   exact sk_val (v := .pointer (some ⟨G_0, List.length X_0, none⟩)) (by exact xr_nilCheck rfl d26) rfl rfl
  ·intro ρz wz hz hk hd
   have d27 := hd 7 rfl 27 rfl
   exact sk_val (v := .pointer (some ⟨G_0, List.length X_0 + 0, none⟩)) (by exact xr_fieldAddr (p := List.length X_0) (q := 0) rfl fl137_0 d27) rfl rfl
  ·intro ρz wz hz hk hd
   have d28 := hd 8 rfl 28 rfl
   exact sk_val (v := V0_0) (by exact xr_load1 (v := V0_0) rfl ag25 d28 ((b_0.gr hz).seg 0 rfl rfl)) rfl rfl
  ·intro ρz wz hz hk hd
   have d29 := hd 9 rfl 29 rfl
   exact sk_val (v := .int .i64 (List.length a0.list : Int)) (by exact xr_lenR rfl Try.underlying25 d29 (R0_0.gr hz)) rfl rfl
  intro ρz wz hz hk hd
  have d25 := hd 5 rfl 25 rfl
  have d30 := hd 10 rfl 30 rfl
  exact sk_val (by exact xr_rem rfl d25 d30 g6) rfl rfl
 intro ρ7 w8 q9 hk hd
 have e3 := (hk 3 rfl).trans rfl
 have e20 := hd 0 rfl 20 rfl
 have e31 := hd 11 rfl 31 rfl
 have b_0 := b_0.gr q9
 have R0_0 := R0_0.gr q9
 have fB := fB.gr q9
 refine ol_val (v := .pointer (some ⟨G_0, List.length X_0, none⟩)) (by exact xr_nilCheck rfl e20) rfl rfl rfl ?_
 refine ol_val (v := .pointer (some ⟨G_0, List.length X_0 + 1, none⟩)) (by exact xr_fieldAddr (p := List.length X_0) (q := 1) rfl fl137_1 rfl) rfl rfl rfl ?_
 refine ol_op0 (by exact opv_storeSub (ss' := [Seg.cell V0_0 R0_0.one, Seg.cell (.int .i64 (Int.tmod (IntKind.i64.wrap (a0.at_ + 1)) (List.length a0.list : Int)))]) (xs := cellsOf [Seg.cell (.int .i64 (Int.tmod (IntKind.i64.wrap (a0.at_ + 1)) (List.length a0.list : Int)))]) rfl sz3 rfl e31 rfl (len_cellsOf _) (one_cellsOf _) b_0 (Spl.segs _ 1 1 [Seg.cell (.int .i64 (Int.tmod (IntKind.i64.wrap (a0.at_ + 1)) (List.length a0.list : Int)))] rfl rfl)) rfl rfl ?_
 rintro _ w11 ⟨b_0, q10⟩
 have R0_0 := R0_0.wr q10 N0_0
 have fB := fB.wrS q10 rfl
 refine ol_nil ?_
 refine cw_seq ?_
 refine cw_region ?_
 refine ol_val (v := .int .i64 (ix a0.list a0.at_)) (by exact xr_move rfl e3) rfl rfl rfl ?_
 refine ol_val (v := .int .i64 (ix a0.list a0.at_)) (by exact xr_assign rfl rfl) rfl rfl rfl ?_
 refine ol_nil ?_
 refine cw_ret ?_
 repeat (first | with_reducible refine thn_r ?_ | with_reducible refine blk_r ?_)
 obtain rfl := Option.some.inj h
 refine fin_ret1 Try.results123 rfl ?_
 exact ⟨_, rfl, rfl, b_0, fB⟩
def pmem_Device_step.f (fu : Nat) (a0 : S_pmem_Device) : Option S_pmem_Device := ((pmem_plan_next__i0.f fu a0.plan : Option (Int × S_pmem_plan)).bind fun t11 => (((if (if (decide (t11.1 ≥ 0)) = true then (decide ((List.length a0.cells : Int) > 0)) else false) = true then (if (List.length a0.cells : Int) ≠ 0 then (if 0 ≤ (Int.tmod t11.1 (List.length a0.cells : Int)) ∧ (Int.tmod t11.1 (List.length a0.cells : Int)) < (List.length a0.cells : Int) then ((pmem_cell_keep__i0.f fu (ix a0.cells (Int.tmod t11.1 (List.length a0.cells : Int))) ((ix a0.cells (Int.tmod t11.1 (List.length a0.cells : Int))).stored) : Option S_pmem_cell).bind fun t35 => some ((List.set a0.cells (Int.toNat (Int.tmod t11.1 (List.length a0.cells : Int))) t35))) else none) else none) else some (a0.cells)) : Option (List S_pmem_cell)).bind fun x20 => (((if a0.armed = true then some ((decide ((IntKind.i64.wrap (a0.left - 1)) = 0)), (IntKind.i64.wrap (a0.left - 1))) else some (a0.off, a0.left)) : Option (Bool × Int)).bind fun x45 => some ((⟨x20, (⟨a0.plan.list, t11.2.at_⟩ : S_pmem_plan), x45.1, a0.armed, x45.2, (IntKind.i64.wrap (a0.steps + 1))⟩ : S_pmem_Device)))))
set_option maxRecDepth 100000 in
set_option maxHeartbeats 400000 in
theorem pmem_Device_step.ok (fu : Nat) (w : World) (a0 : S_pmem_Device) (G_0 : Nat) (V0_0 : Value) (O0_0 : Own k_pmem_cell 142 w 0 V0_0 a0.cells) (V0_1 : Value) (O0_1 : Own (kI .i64) 3 w 0 V0_1 a0.plan.list) (b_0 : Blk w G_0 139 [Seg.cell V0_0 O0_0.one, Seg.cell V0_1 O0_1.one, Seg.cell (.int .i64 a0.plan.at_), Seg.cell (.bool a0.off), Seg.cell (.bool a0.armed), Seg.cell (.int .i64 a0.left), Seg.cell (.int .i64 a0.steps)]) (r : S_pmem_Device) (h : pmem_Device_step.f fu a0 = some r) :
  Calls Try.prog 84 (([.pointer (some ⟨G_0, 0, none⟩)] : List Value).toArray) w (fun e w' => ∃ v, e = .returned v ∧ ∃ u1 : Value, ∃ u4 : Value, ∃ o2 : Own k_pmem_cell 142 w' 0 u1 r.cells, ∃ m3 : ∀ g, Value.ownBlock u1 = some g → w.heap.size ≤ g ∨ (g = G_0 ∨ some g = Value.ownBlock V0_0 ∨ some g = Value.ownBlock V0_1), ∃ o5 : Own (kI .i64) 3 w' 0 u4 r.plan.list, ∃ m6 : ∀ g, Value.ownBlock u4 = some g → w.heap.size ≤ g ∨ (g = G_0 ∨ some g = Value.ownBlock V0_0 ∨ some g = Value.ownBlock V0_1), v = .tuple #[] ∧ Blk w' G_0 139 [Seg.cell u1 o2.one, Seg.cell u4 o5.one, Seg.cell (.int .i64 r.plan.at_), Seg.cell (.bool r.off), Seg.cell (.bool r.armed), Seg.cell (.int .i64 r.left), Seg.cell (.int .i64 r.steps)] ∧ Fr (fun j => j = G_0 ∨ some j = Value.ownBlock V0_0 ∨ some j = Value.ownBlock V0_1) w w') := by
 unfold pmem_Device_step.f at h
 have fB : Fr (fun j => j = G_0 ∨ some j = Value.ownBlock V0_0 ∨ some j = Value.ownBlock V0_1) w w := Fr.refl _ _
 have M0_0 : ∀ g, Value.ownBlock V0_0 = some g → w.heap.size ≤ g ∨ (g = G_0 ∨ some g = Value.ownBlock V0_0 ∨ some g = Value.ownBlock V0_1) := fun g hg => .inr (.inr (.inl hg.symm))
 have M0_1 : ∀ g, Value.ownBlock V0_1 = some g → w.heap.size ≤ g ∨ (g = G_0 ∨ some g = Value.ownBlock V0_0 ∨ some g = Value.ownBlock V0_1) := fun g hg => .inr (.inr (.inr hg.symm))
 refine calls_cw Try.func84 rfl Try.ntmps84 rfl ?_
 refine cw_seq ?_
 refine cw_region ?_
 refine ol_val (v := .pointer (some ⟨G_0, 0, none⟩)) (by exact xr_move rfl rfl) rfl rfl rfl ?_
 refine ol_val (v := .pointer (some ⟨G_0, 0, none⟩)) (by exact xr_nilCheck rfl rfl) rfl rfl rfl ?_
 refine ol_val (v := .pointer (some ⟨G_0, 6, none⟩)) (by exact xr_fieldAddr (p := 0) (q := 6) rfl fl139_5 rfl) rfl rfl rfl ?_
 refine ol_val (v := .int .i64 a0.steps) (by exact xr_load1 (v := .int .i64 a0.steps) rfl ag3 rfl (b_0.seg 6 rfl rfl)) rfl rfl rfl ?_
 refine ol_val (v := .int .i64 (IntKind.i64.wrap (a0.steps + 1))) (by exact xr_add rfl rfl rfl) rfl rfl rfl ?_
 refine ol_val (v := .pointer (some ⟨G_0, 0, none⟩)) (by exact xr_nilCheck rfl rfl) rfl rfl rfl ?_
 refine ol_val (v := .pointer (some ⟨G_0, 6, none⟩)) (by exact xr_fieldAddr (p := 0) (q := 6) rfl fl139_5 rfl) rfl rfl rfl ?_
 have f8 := off_ty b_0 O0_0 (by decide)
 have f9 := off_ty b_0 O0_1 (by decide)
 refine ol_op0 (by exact opv_store (ss' := [Seg.cell V0_0 O0_0.one, Seg.cell V0_1 O0_1.one, Seg.cell (.int .i64 a0.plan.at_), Seg.cell (.bool a0.off), Seg.cell (.bool a0.armed), Seg.cell (.int .i64 a0.left), Seg.cell (.int .i64 (IntKind.i64.wrap (a0.steps + 1)))]) (xs := cellsOf [Seg.cell (.int .i64 (IntKind.i64.wrap (a0.steps + 1)))]) rfl sz3 rfl rfl rfl (len_cellsOf _) (one_cellsOf _) b_0 (Spl.segs _ 6 1 [Seg.cell (.int .i64 (IntKind.i64.wrap (a0.steps + 1)))] rfl rfl)) rfl rfl ?_
 rintro _ w10 ⟨b_0, q7⟩
 have O0_0 := O0_0.wr q7 f8
 have O0_1 := O0_1.wr q7 f9
 have fB := fB.wrS q7 (.inl rfl)
 refine ol_nil ?_
 refine cw_seq ?_
 refine cw_seq ?_
 refine cw_region ?_
 refine ol_val (v := .pointer (some ⟨G_0, 0, none⟩)) (by exact xr_move rfl rfl) rfl rfl rfl ?_
 refine ol_val (v := .pointer (some ⟨G_0, 0, none⟩)) (by exact xr_nilCheck rfl rfl) rfl rfl rfl ?_
 refine ol_val (v := .pointer (some ⟨G_0, 1, none⟩)) (by exact xr_fieldAddr (p := 0) (q := 1) rfl fl139_1 rfl) rfl rfl rfl ?_
 obtain ⟨t11, k12, h⟩ := bs h
 have f15 := off_ty b_0 O0_0 (by decide)
 have f16 := off_ty b_0 O0_1 (by decide)
 refine ol_op (by exact opv_call rfl cal123 (ac (ptrE (q := List.length (cellsOf [Seg.cell V0_0 O0_0.one])) rfl (len_cellsOf _)) an) (pmem_plan_next__i0.ok fu _ a0.plan G_0 139 (cellsOf [Seg.cell V0_0 O0_0.one]) _ V0_1 O0_1.rd (OffR.own O0_1 (off_ty b_0 O0_1 (by decide))) (b_0.sub 1 2) _ k12)) rfl rfl rfl ?_
 rintro _ w17 ⟨rfl, b14, q13⟩
 have b_0 : Blk w17 G_0 139 [Seg.cell V0_0 O0_0.one, Seg.cell V0_1 O0_1.one, Seg.cell (.int .i64 t11.2.at_), Seg.cell (.bool a0.off), Seg.cell (.bool a0.armed), Seg.cell (.int .i64 a0.left), Seg.cell (.int .i64 (IntKind.i64.wrap (a0.steps + 1)))] := Blk.unsub (pre := [Seg.cell V0_0 O0_0.one]) (mid := [Seg.cell V0_1 O0_1.one, Seg.cell (.int .i64 t11.2.at_)]) (post := [Seg.cell (.bool a0.off), Seg.cell (.bool a0.armed), Seg.cell (.int .i64 a0.left), Seg.cell (.int .i64 (IntKind.i64.wrap (a0.steps + 1)))]) b14
 have O0_0 := O0_0.wr q13 f15
 have O0_1 := O0_1.wr q13 f16
 have fB := fB.wrS q13 (.inl rfl)
 refine ol_val (v := .int .i64 t11.1) (by exact xr_assign rfl rfl) rfl rfl rfl ?_
 refine ol_nil ?_
 refine cw_seq ?_
 refine cw_mid (fun ρ' w' => ρ' 0 = .pointer (some ⟨G_0, 0, none⟩) ∧ ρ' 2 = .int .i64 t11.1 ∧ ρ' 24 = .bool (if (decide (t11.1 ≥ 0)) = true then (decide ((List.length a0.cells : Int) > 0)) else false) ∧ w17 = w') ?_ ?_
 ·skip
  refine cw_region ?_
  refine ol_val (v := .int .i64 t11.1) (by exact xr_move rfl rfl) rfl rfl rfl ?_
  refine ol_val (v := .bool (decide (t11.1 ≥ 0))) (by exact xr_geq rfl rfl rfl) rfl rfl rfl ?_
  refine ol_val (v := .bool (decide (t11.1 ≥ 0))) (by exact xr_move rfl rfl) rfl rfl rfl ?_
  rcases bt (decide (t11.1 ≥ 0)) with c18 | c18
  ·skip
   refine ol_gval (v := .pointer (some ⟨G_0, 0, none⟩)) (by exact xr_move rfl rfl) rfl rfl rfl rfl rfl c18 ?_
   refine ol_gval (v := .pointer (some ⟨G_0, 0, none⟩)) (by exact xr_nilCheck rfl rfl) rfl rfl rfl rfl rfl c18 ?_
   refine ol_gval (v := .pointer (some ⟨G_0, 0, none⟩)) (by exact xr_fieldAddr (p := 0) (q := 0) rfl fl139_0 rfl) rfl rfl rfl rfl rfl c18 ?_
   refine ol_gval (v := V0_0) (by exact xr_load1 (v := V0_0) rfl ag135 rfl (b_0.seg 0 rfl rfl)) rfl rfl rfl rfl rfl c18 ?_
   refine ol_gval (v := .int .i64 (List.length a0.cells : Int)) (by exact xr_lenR rfl Try.underlying135 rfl O0_0.rd) rfl rfl rfl rfl rfl c18 ?_
   refine ol_gval (v := .bool (decide ((List.length a0.cells : Int) > 0))) (by exact xr_gtr rfl rfl rfl) rfl rfl rfl rfl rfl c18 ?_
   refine ol_val (v := .bool (decide ((List.length a0.cells : Int) > 0))) (by exact xr_pickT rfl rfl c18 rfl) rfl rfl rfl ?_
   refine ol_nil ?_
   refine thn_i ?_
   exact ⟨rfl, rfl, (rfl).trans (congrArg (fun z => (.bool z : Value)) (show (decide ((List.length a0.cells : Int) > 0)) = (if (decide (t11.1 ≥ 0)) = true then (decide ((List.length a0.cells : Int) > 0)) else false) from by rw [ite_t c18])), rfl⟩
  refine ol_gskip rfl rfl rfl rfl rfl c18 ?_
  refine ol_gskip rfl rfl rfl rfl rfl c18 ?_
  refine ol_gskip rfl rfl rfl rfl rfl c18 ?_
  refine ol_gskip rfl rfl rfl rfl rfl c18 ?_
  refine ol_gskip rfl rfl rfl rfl rfl c18 ?_
  refine ol_gskip rfl rfl rfl rfl rfl c18 ?_
  refine ol_val (v := .bool false) (by exact xr_pickF rfl rfl c18 rfl) rfl rfl rfl ?_
  refine ol_nil ?_
  refine thn_i ?_
  exact ⟨rfl, rfl, (rfl).trans (congrArg (fun z => (.bool z : Value)) (show false = (if (decide (t11.1 ≥ 0)) = true then (decide ((List.length a0.cells : Int) > 0)) else false) from by rw [ite_f c18])), rfl⟩
 rintro ρ19 _ ⟨e0, e2, e24, rfl⟩
 obtain ⟨x20, j21, h22⟩ := bs h
 refine cw_mid (fun ρ' w' => ∃ O0_0 : Own k_pmem_cell 142 w' 0 V0_0 x20, ∃ O0_1 : Own (kI .i64) 3 w' 0 V0_1 a0.plan.list, ρ' 0 = .pointer (some ⟨G_0, 0, none⟩) ∧ Blk w' G_0 139 [Seg.cell V0_0 O0_0.one, Seg.cell V0_1 O0_1.one, Seg.cell (.int .i64 t11.2.at_), Seg.cell (.bool a0.off), Seg.cell (.bool a0.armed), Seg.cell (.int .i64 a0.left), Seg.cell (.int .i64 (IntKind.i64.wrap (a0.steps + 1)))] ∧ Fr (fun j => j = G_0 ∨ some j = Value.ownBlock V0_0 ∨ some j = Value.ownBlock V0_1) w w') ?_ ?_
 ·have h := j21
  rcases is h with ⟨c23, h⟩ | ⟨c23, h⟩
  ·refine cw_condT e24 c23 ?_
   refine cw_seq ?_
   obtain ⟨g24, h⟩ := gs h
   refine cw_drawL 11 [fun vz wz => vz = (.pointer (some ⟨G_0, 0, none⟩) : Value), fun vz wz => vz = (.pointer (some ⟨G_0, 0, none⟩) : Value), fun vz wz => vz = (.pointer (some ⟨G_0, 0, none⟩) : Value), fun vz wz => vz = (V0_0 : Value), fun vz wz => vz = (.int .i64 t11.1 : Value), fun vz wz => vz = (.pointer (some ⟨G_0, 0, none⟩) : Value), fun vz wz => vz = (.pointer (some ⟨G_0, 0, none⟩) : Value), fun vz wz => vz = (.pointer (some ⟨G_0, 0, none⟩) : Value), fun vz wz => vz = (V0_0 : Value), fun vz wz => vz = (.int .i64 (List.length a0.cells : Int) : Value), fun vz wz => vz = (.int .i64 (Int.tmod t11.1 (List.length a0.cells : Int)) : Value)] mo rfl ⟨fun _ _ _ h _ => h, fun _ _ _ h _ => h, fun _ _ _ h _ => h, fun _ _ _ h _ => h, fun _ _ _ h _ => h, fun _ _ _ h _ => h, fun _ _ _ h _ => h, fun _ _ _ h _ => h, fun _ _ _ h _ => h, fun _ _ _ h _ => h, fun _ _ _ h _ => h, trivial⟩ ?_ ?_
   ·refine ⟨?_, ?_, ?_, ?_, ?_, ?_, ?_, ?_, ?_, ?_, ?_, trivial⟩
    ·intro ρz wz hz hk hd
     exact sk_val (v := .pointer (some ⟨G_0, 0, none⟩)) (by exact xr_move rfl ((hk 0 rfl).trans e0)) rfl rfl
    ·intro ρz wz hz hk hd
     have d25 := hd 0 rfl 25 rfl
     exact sk_val (v := .pointer (some ⟨G_0, 0, none⟩)) (by exact xr_nilCheck rfl d25) rfl rfl
    ·intro ρz wz hz hk hd
     have d26 := hd 1 rfl 26 rfl
     exact sk_val (v := .pointer (some ⟨G_0, 0, none⟩)) (by exact xr_fieldAddr (p := 0) (q := 0) rfl fl139_0 d26) rfl rfl
    ·intro ρz wz hz hk hd
     have d27 := hd 2 rfl 27 rfl
     exact sk_val (v := V0_0) (by exact xr_load1 (v := V0_0) rfl ag135 d27 ((b_0.gr hz).seg 0 rfl rfl)) rfl rfl
    ·intro ρz wz hz hk hd
     exact sk_val (v := .int .i64 t11.1) (by exact xr_move rfl ((hk 2 rfl).trans e2)) rfl rfl
    ·intro ρz wz hz hk hd
     exact sk_val (v := .pointer (some ⟨G_0, 0, none⟩)) (by exact xr_move rfl ((hk 0 rfl).trans e0)) rfl rfl
    ·intro ρz wz hz hk hd
     have d30 := hd 5 rfl 30 rfl
     exact sk_val (v := .pointer (some ⟨G_0, 0, none⟩)) (by exact xr_nilCheck rfl d30) rfl rfl
    ·intro ρz wz hz hk hd
     have d31 := hd 6 rfl 31 rfl
     exact sk_val (v := .pointer (some ⟨G_0, 0, none⟩)) (by exact xr_fieldAddr (p := 0) (q := 0) rfl fl139_0 d31) rfl rfl
    ·intro ρz wz hz hk hd
     have d32 := hd 7 rfl 32 rfl
     exact sk_val (v := V0_0) (by exact xr_load1 (v := V0_0) rfl ag135 d32 ((b_0.gr hz).seg 0 rfl rfl)) rfl rfl
    ·intro ρz wz hz hk hd
     have d33 := hd 8 rfl 33 rfl
     exact sk_val (v := .int .i64 (List.length a0.cells : Int)) (by exact xr_lenR rfl Try.underlying135 d33 (O0_0.gr hz).rd) rfl rfl
    intro ρz wz hz hk hd
    have d29 := hd 4 rfl 29 rfl
    have d34 := hd 9 rfl 34 rfl
    exact sk_val (v := .int .i64 (Int.tmod t11.1 (List.length a0.cells : Int))) (by exact xr_rem rfl d29 d34 g24) rfl rfl
   intro ρ25 w26 q27 hk hd
   have e0 := (hk 0 rfl).trans e0
   have e28 := hd 3 rfl 28 rfl
   have e35 := hd 10 rfl 35 rfl
   have b_0 := b_0.gr q27
   have O0_0 := O0_0.gr q27
   have O0_1 := O0_1.gr q27
   have fB := fB.gr q27
   obtain ⟨g28, h⟩ := gs h
   refine ol_val (v := .pointer (some ⟨(sb V0_0), so V0_0 + Int.toNat (Int.tmod t11.1 (List.length a0.cells : Int)) * 4, none⟩)) (by exact xr_indexR (K := k_pmem_cell) (v := V0_0) rfl Try.underlying135 sz142 e28 O0_0.rd e35 g28.1 g28.2) rfl rfl rfl ?_
   refine ol_val (v := .pointer (some ⟨(sb V0_0), so V0_0 + Int.toNat (Int.tmod t11.1 (List.length a0.cells : Int)) * 4, none⟩)) (by exact xr_assign rfl rfl) rfl rfl rfl ?_
   refine ol_nil ?_
   refine cw_region ?_
   refine ol_val (v := .pointer (some ⟨(sb V0_0), so V0_0 + Int.toNat (Int.tmod t11.1 (List.length a0.cells : Int)) * 4, none⟩)) (by exact xr_move rfl rfl) rfl rfl rfl ?_
   refine ol_val (v := .pointer (some ⟨(sb V0_0), so V0_0 + Int.toNat (Int.tmod t11.1 (List.length a0.cells : Int)) * 4, none⟩)) (by exact xr_move rfl rfl) rfl rfl rfl ?_
   refine ol_val (v := .pointer (some ⟨(sb V0_0), so V0_0 + Int.toNat (Int.tmod t11.1 (List.length a0.cells : Int)) * 4, none⟩)) (by exact xr_nilCheck rfl rfl) rfl rfl rfl ?_
   refine ol_val (v := .pointer (some ⟨(sb V0_0), so V0_0 + Int.toNat (Int.tmod t11.1 (List.length a0.cells : Int)) * 4 + 1, none⟩)) (by exact xr_fieldAddr (p := so V0_0 + Int.toNat (Int.tmod t11.1 (List.length a0.cells : Int)) * 4) (q := 1) rfl fl142_1 rfl) rfl rfl rfl ?_
   refine ol_val (v := .int .u64 ((ix a0.cells (Int.tmod t11.1 (List.length a0.cells : Int))).stored)) (by exact xr_load1 (v := .int .u64 ((ix a0.cells (Int.tmod t11.1 (List.length a0.cells : Int))).stored)) rfl ag22 rfl (At.segs (ss := segs_pmem_cell (ix a0.cells (Int.tmod t11.1 (List.length a0.cells : Int)))) (O0_0.rd.elem g28.1 g28.2) 1 1 rfl)) rfl rfl rfl ?_
   obtain ⟨t35, k36, h⟩ := bs h
   have f39 := off_ty b_0 O0_0 (by decide)
   have f40 := OffV.ty O0_1 O0_0 (by decide)
   obtain ⟨X29, Y30, h31, h32, b33, k34⟩ := Own.sub (K := k_pmem_cell) (i := (Int.tmod t11.1 (List.length a0.cells : Int))) (ss := [Seg.cell (.int .u64 ((ix a0.cells (Int.tmod t11.1 (List.length a0.cells : Int))).lasts)), Seg.cell (.int .u64 ((ix a0.cells (Int.tmod t11.1 (List.length a0.cells : Int))).stored)), Seg.cell (.int .u64 ((ix a0.cells (Int.tmod t11.1 (List.length a0.cells : Int))).sent)), Seg.cell (.bool ((ix a0.cells (Int.tmod t11.1 (List.length a0.cells : Int))).flushed))]) O0_0 g28.1 g28.2 rfl
   refine ol_op (by exact opv_call rfl cal85 (ac (ptrE (q := List.length X29) rfl h31) (ac rfl an)) (pmem_cell_keep__i0.ok fu _ (ix a0.cells (Int.tmod t11.1 (List.length a0.cells : Int))) (sb V0_0) 142 X29 Y30 b33 ((ix a0.cells (Int.tmod t11.1 (List.length a0.cells : Int))).stored) _ k36)) rfl rfl rfl ?_
   rintro _ w42 ⟨rfl, b38, q37⟩
   have O0_0 := k34 _ t35 [Seg.cell (.int .u64 t35.lasts), Seg.cell (.int .u64 t35.stored), Seg.cell (.int .u64 t35.sent), Seg.cell (.bool t35.flushed)] rfl b38
   have q37 := fr_own q37 h32
   have b_0 := b_0.wrO q37 f39
   have O0_1 := O0_1.wrV q37 f40
   have fB := fB.wrM q37 M0_0
   refine ol_nil ?_
   obtain rfl := Option.some.inj h
   refine thn_i ?_
   exact ⟨O0_0, O0_1, e0, b_0, fB⟩
  refine cw_condF e24 c23 ?_
  refine cw_skip ?_
  obtain rfl := Option.some.inj h
  refine thn_i ?_
  exact ⟨O0_0, O0_1, e0, b_0, fB⟩
 rintro ρ43 w44 ⟨O0_0, O0_1, e0, b_0, fB⟩
 have h := h22
 refine cw_seq ?_
 refine cw_region ?_
 refine ol_val (v := .pointer (some ⟨G_0, 0, none⟩)) (by exact xr_move rfl e0) rfl rfl rfl ?_
 refine ol_val (v := .pointer (some ⟨G_0, 0, none⟩)) (by exact xr_nilCheck rfl rfl) rfl rfl rfl ?_
 refine ol_val (v := .pointer (some ⟨G_0, 4, none⟩)) (by exact xr_fieldAddr (p := 0) (q := 4) rfl fl139_3 rfl) rfl rfl rfl ?_
 refine ol_val (v := .bool a0.armed) (by exact xr_load1 (v := .bool a0.armed) rfl ag4 rfl (b_0.seg 4 rfl rfl)) rfl rfl rfl ?_
 refine ol_nil ?_
 obtain ⟨x45, j46, h47⟩ := bs h
 refine cw_mid (fun ρ' w' => ∃ O0_0 : Own k_pmem_cell 142 w' 0 V0_0 x20, ∃ O0_1 : Own (kI .i64) 3 w' 0 V0_1 a0.plan.list, Blk w' G_0 139 [Seg.cell V0_0 O0_0.one, Seg.cell V0_1 O0_1.one, Seg.cell (.int .i64 t11.2.at_), Seg.cell (.bool x45.1), Seg.cell (.bool a0.armed), Seg.cell (.int .i64 x45.2), Seg.cell (.int .i64 (IntKind.i64.wrap (a0.steps + 1)))] ∧ Fr (fun j => j = G_0 ∨ some j = Value.ownBlock V0_0 ∨ some j = Value.ownBlock V0_1) w w') ?_ ?_
 ·have h := j46
  rcases is h with ⟨c48, h⟩ | ⟨c48, h⟩
  ·refine cw_condT rfl c48 ?_
   refine cw_seq ?_
   refine cw_region ?_
   refine ol_val (v := .pointer (some ⟨G_0, 0, none⟩)) (by exact xr_move rfl e0) rfl rfl rfl ?_
   refine ol_val (v := .pointer (some ⟨G_0, 0, none⟩)) (by exact xr_nilCheck rfl rfl) rfl rfl rfl ?_
   refine ol_val (v := .pointer (some ⟨G_0, 5, none⟩)) (by exact xr_fieldAddr (p := 0) (q := 5) rfl fl139_4 rfl) rfl rfl rfl ?_
   refine ol_val (v := .int .i64 a0.left) (by exact xr_load1 (v := .int .i64 a0.left) rfl ag3 rfl (b_0.seg 5 rfl rfl)) rfl rfl rfl ?_
   refine ol_val (v := .int .i64 (IntKind.i64.wrap (a0.left - 1))) (by exact xr_sub rfl rfl rfl) rfl rfl rfl ?_
   refine ol_val (v := .pointer (some ⟨G_0, 0, none⟩)) (by exact xr_nilCheck rfl rfl) rfl rfl rfl ?_
   refine ol_val (v := .pointer (some ⟨G_0, 5, none⟩)) (by exact xr_fieldAddr (p := 0) (q := 5) rfl fl139_4 rfl) rfl rfl rfl ?_
   have f50 := off_ty b_0 O0_0 (by decide)
   have f51 := off_ty b_0 O0_1 (by decide)
   refine ol_op0 (by exact opv_store (ss' := [Seg.cell V0_0 O0_0.one, Seg.cell V0_1 O0_1.one, Seg.cell (.int .i64 t11.2.at_), Seg.cell (.bool a0.off), Seg.cell (.bool a0.armed), Seg.cell (.int .i64 (IntKind.i64.wrap (a0.left - 1))), Seg.cell (.int .i64 (IntKind.i64.wrap (a0.steps + 1)))]) (xs := cellsOf [Seg.cell (.int .i64 (IntKind.i64.wrap (a0.left - 1)))]) rfl sz3 rfl rfl rfl (len_cellsOf _) (one_cellsOf _) b_0 (Spl.segs _ 5 1 [Seg.cell (.int .i64 (IntKind.i64.wrap (a0.left - 1)))] rfl rfl)) rfl rfl ?_
   rintro _ w52 ⟨b_0, q49⟩
   have O0_0 := O0_0.wr q49 f50
   have O0_1 := O0_1.wr q49 f51
   have fB := fB.wrS q49 (.inl rfl)
   refine ol_nil ?_
   refine cw_region ?_
   refine ol_val (v := .pointer (some ⟨G_0, 0, none⟩)) (by exact xr_move rfl e0) rfl rfl rfl ?_
   refine ol_val (v := .pointer (some ⟨G_0, 0, none⟩)) (by exact xr_move rfl e0) rfl rfl rfl ?_
   refine ol_val (v := .pointer (some ⟨G_0, 0, none⟩)) (by exact xr_nilCheck rfl rfl) rfl rfl rfl ?_
   refine ol_val (v := .pointer (some ⟨G_0, 5, none⟩)) (by exact xr_fieldAddr (p := 0) (q := 5) rfl fl139_4 rfl) rfl rfl rfl ?_
   refine ol_val (v := .int .i64 (IntKind.i64.wrap (a0.left - 1))) (by exact xr_load1 (v := .int .i64 (IntKind.i64.wrap (a0.left - 1))) rfl ag3 rfl (b_0.seg 5 rfl rfl)) rfl rfl rfl ?_
   refine ol_val (v := .bool (decide ((IntKind.i64.wrap (a0.left - 1)) = 0))) (by exact xr_eqI rfl Try.underlying3 rfl rfl rfl) rfl rfl rfl ?_
   refine ol_val (v := .pointer (some ⟨G_0, 0, none⟩)) (by exact xr_nilCheck rfl rfl) rfl rfl rfl ?_
   refine ol_val (v := .pointer (some ⟨G_0, 3, none⟩)) (by exact xr_fieldAddr (p := 0) (q := 3) rfl fl139_2 rfl) rfl rfl rfl ?_
   have f54 := off_ty b_0 O0_0 (by decide)
   have f55 := off_ty b_0 O0_1 (by decide)
   refine ol_op0 (by exact opv_store (ss' := [Seg.cell V0_0 O0_0.one, Seg.cell V0_1 O0_1.one, Seg.cell (.int .i64 t11.2.at_), Seg.cell (.bool (decide ((IntKind.i64.wrap (a0.left - 1)) = 0))), Seg.cell (.bool a0.armed), Seg.cell (.int .i64 (IntKind.i64.wrap (a0.left - 1))), Seg.cell (.int .i64 (IntKind.i64.wrap (a0.steps + 1)))]) (xs := cellsOf [Seg.cell (.bool (decide ((IntKind.i64.wrap (a0.left - 1)) = 0)))]) rfl sz4 rfl rfl rfl (len_cellsOf _) (one_cellsOf _) b_0 (Spl.segs _ 3 1 [Seg.cell (.bool (decide ((IntKind.i64.wrap (a0.left - 1)) = 0)))] rfl rfl)) rfl rfl ?_
   rintro _ w56 ⟨b_0, q53⟩
   have O0_0 := O0_0.wr q53 f54
   have O0_1 := O0_1.wr q53 f55
   have fB := fB.wrS q53 (.inl rfl)
   refine ol_nil ?_
   obtain rfl := Option.some.inj h
   refine thn_i ?_
   exact ⟨O0_0, O0_1, b_0, fB⟩
  refine cw_condF rfl c48 ?_
  refine cw_skip ?_
  obtain rfl := Option.some.inj h
  refine thn_i ?_
  exact ⟨O0_0, O0_1, b_0, fB⟩
 rintro ρ57 w58 ⟨O0_0, O0_1, b_0, fB⟩
 have h := h47
 obtain rfl := Option.some.inj h
 refine fin_end0 Try.results84 ?_
 exact ⟨_, rfl, V0_0, V0_1, O0_0, M0_0, O0_1, M0_1, rfl, b_0, fB⟩
def pmem_Device_Store.f (fu : Nat) (a0 : S_pmem_Device) (a1 : Int) (a2 : Int) : Option (Int × S_pmem_Device) := ((pmem_Device_may.f fu a0 a1 (List.length a0.cells : Int) : Option Int).bind fun t7 => (if (!decide (t7 = 0)) = true then some (t7, a0) else (if 0 ≤ a1 ∧ a1 < (List.length a0.cells : Int) then ((pmem_Device_step.f fu (⟨(List.set a0.cells (Int.toNat a1) (⟨(ix a0.cells a1).lasts, a2, (ix a0.cells a1).sent, (ix a0.cells a1).flushed⟩ : S_pmem_cell)), a0.plan, a0.off, a0.armed, a0.left, a0.steps⟩ : S_pmem_Device) : Option S_pmem_Device).bind fun t18 => some (0, t18)) else none)))
set_option maxRecDepth 100000 in
set_option maxHeartbeats 400000 in
theorem pmem_Device_Store.ok (fu : Nat) (w : World) (a0 : S_pmem_Device) (G_0 : Nat) (V0_0 : Value) (O0_0 : Own k_pmem_cell 142 w 0 V0_0 a0.cells) (V0_1 : Value) (O0_1 : Own (kI .i64) 3 w 0 V0_1 a0.plan.list) (b_0 : Blk w G_0 139 [Seg.cell V0_0 O0_0.one, Seg.cell V0_1 O0_1.one, Seg.cell (.int .i64 a0.plan.at_), Seg.cell (.bool a0.off), Seg.cell (.bool a0.armed), Seg.cell (.int .i64 a0.left), Seg.cell (.int .i64 a0.steps)]) (a1 : Int) (a2 : Int) (r : Int × S_pmem_Device) (h : pmem_Device_Store.f fu a0 a1 a2 = some r) :
  Calls Try.prog 28 (([.pointer (some ⟨G_0, 0, none⟩), .int .i64 a1, .int .u64 a2] : List Value).toArray) w (fun e w' => ∃ v, e = .returned v ∧ ∃ u1 : Value, ∃ u4 : Value, ∃ o2 : Own k_pmem_cell 142 w' 0 u1 r.2.cells, ∃ m3 : ∀ g, Value.ownBlock u1 = some g → w.heap.size ≤ g ∨ (g = G_0 ∨ some g = Value.ownBlock V0_0 ∨ some g = Value.ownBlock V0_1), ∃ o5 : Own (kI .i64) 3 w' 0 u4 r.2.plan.list, ∃ m6 : ∀ g, Value.ownBlock u4 = some g → w.heap.size ≤ g ∨ (g = G_0 ∨ some g = Value.ownBlock V0_0 ∨ some g = Value.ownBlock V0_1), v = .int .i64 r.1 ∧ Blk w' G_0 139 [Seg.cell u1 o2.one, Seg.cell u4 o5.one, Seg.cell (.int .i64 r.2.plan.at_), Seg.cell (.bool r.2.off), Seg.cell (.bool r.2.armed), Seg.cell (.int .i64 r.2.left), Seg.cell (.int .i64 r.2.steps)] ∧ Fr (fun j => j = G_0 ∨ some j = Value.ownBlock V0_0 ∨ some j = Value.ownBlock V0_1) w w') := by
 unfold pmem_Device_Store.f at h
 have fB : Fr (fun j => j = G_0 ∨ some j = Value.ownBlock V0_0 ∨ some j = Value.ownBlock V0_1) w w := Fr.refl _ _
 have M0_0 : ∀ g, Value.ownBlock V0_0 = some g → w.heap.size ≤ g ∨ (g = G_0 ∨ some g = Value.ownBlock V0_0 ∨ some g = Value.ownBlock V0_1) := fun g hg => .inr (.inr (.inl hg.symm))
 have M0_1 : ∀ g, Value.ownBlock V0_1 = some g → w.heap.size ≤ g ∨ (g = G_0 ∨ some g = Value.ownBlock V0_0 ∨ some g = Value.ownBlock V0_1) := fun g hg => .inr (.inr (.inr hg.symm))
 refine calls_cw Try.func28 rfl Try.ntmps28 rfl ?_
 refine cw_seq ?_
 refine cw_region ?_
 refine ol_val (v := .int .i64 0) (by exact xr_assign rfl rfl) rfl rfl rfl ?_
 refine ol_nil ?_
 refine cw_seq ?_
 refine cw_seq ?_
 refine cw_region ?_
 refine ol_val (v := .pointer (some ⟨G_0, 0, none⟩)) (by exact xr_move rfl rfl) rfl rfl rfl ?_
 refine ol_val (v := .int .i64 a1) (by exact xr_move rfl rfl) rfl rfl rfl ?_
 refine ol_val (v := .pointer (some ⟨G_0, 0, none⟩)) (by exact xr_move rfl rfl) rfl rfl rfl ?_
 refine ol_val (v := .pointer (some ⟨G_0, 0, none⟩)) (by exact xr_nilCheck rfl rfl) rfl rfl rfl ?_
 refine ol_val (v := .pointer (some ⟨G_0, 0, none⟩)) (by exact xr_fieldAddr (p := 0) (q := 0) rfl fl139_0 rfl) rfl rfl rfl ?_
 refine ol_val (v := V0_0) (by exact xr_load1 (v := V0_0) rfl ag135 rfl (b_0.seg 0 rfl rfl)) rfl rfl rfl ?_
 refine ol_val (v := .int .i64 (List.length a0.cells : Int)) (by exact xr_lenR rfl Try.underlying135 rfl O0_0.rd) rfl rfl rfl ?_
 obtain ⟨t7, k8, h⟩ := bs h
 refine ol_op (by exact opv_call rfl cal83 (ac rfl (ac rfl (ac rfl an))) (pmem_Device_may.ok fu _ a0 G_0 V0_0 (O0_0.rd) V0_1 (O0_1.rd) b_0 a1 (List.length a0.cells : Int) _ k8)) rfl rfl rfl ?_
 rintro _ w10 ⟨rfl, q9⟩
 have b_0 := b_0.gr q9
 have O0_0 := O0_0.gr q9
 have O0_1 := O0_1.gr q9
 have fB := fB.gr q9
 refine ol_val (v := .int .i64 t7) (by exact xr_assign rfl rfl) rfl rfl rfl ?_
 refine ol_nil ?_
 refine cw_seq ?_
 refine cw_region ?_
 refine ol_val (v := .int .i64 t7) (by exact xr_move rfl rfl) rfl rfl rfl ?_
 refine ol_val (v := .bool (!decide (t7 = 0))) (by exact xr_neI rfl Try.underlying31 rfl rfl rfl) rfl rfl rfl ?_
 refine ol_nil ?_
 rcases is h with ⟨c11, h⟩ | ⟨c11, h⟩
 ·refine cw_condT rfl c11 ?_
  refine cw_seq ?_
  refine cw_region ?_
  refine ol_val (v := .int .i64 t7) (by exact xr_move rfl rfl) rfl rfl rfl ?_
  refine ol_val (v := .int .i64 t7) (by exact xr_assign rfl rfl) rfl rfl rfl ?_
  refine ol_nil ?_
  refine cw_ret ?_
  repeat (first | with_reducible refine thn_r ?_ | with_reducible refine blk_r ?_)
  obtain rfl := Option.some.inj h
  refine fin_ret1 Try.results28 rfl ?_
  exact ⟨_, rfl, V0_0, V0_1, O0_0, M0_0, O0_1, M0_1, rfl, b_0, fB⟩
 refine cw_condF rfl c11 ?_
 refine cw_skip ?_
 refine cw_seq ?_
 refine cw_region ?_
 refine ol_val (v := .pointer (some ⟨G_0, 0, none⟩)) (by exact xr_move rfl rfl) rfl rfl rfl ?_
 refine ol_val (v := .pointer (some ⟨G_0, 0, none⟩)) (by exact xr_nilCheck rfl rfl) rfl rfl rfl ?_
 refine ol_val (v := .pointer (some ⟨G_0, 0, none⟩)) (by exact xr_fieldAddr (p := 0) (q := 0) rfl fl139_0 rfl) rfl rfl rfl ?_
 refine ol_val (v := V0_0) (by exact xr_load1 (v := V0_0) rfl ag135 rfl (b_0.seg 0 rfl rfl)) rfl rfl rfl ?_
 refine ol_val (v := .int .i64 a1) (by exact xr_move rfl rfl) rfl rfl rfl ?_
 refine ol_val (v := .int .u64 a2) (by exact xr_move rfl rfl) rfl rfl rfl ?_
 obtain ⟨g12, h⟩ := gs h
 refine ol_val (v := .pointer (some ⟨(sb V0_0), so V0_0 + Int.toNat a1 * 4, none⟩)) (by exact xr_indexR (K := k_pmem_cell) (v := V0_0) rfl Try.underlying135 sz142 rfl O0_0.rd rfl g12.1 g12.2) rfl rfl rfl ?_
 refine ol_val (v := .pointer (some ⟨(sb V0_0), so V0_0 + Int.toNat a1 * 4 + 1, none⟩)) (by exact xr_fieldAddr (p := so V0_0 + Int.toNat a1 * 4) (q := 1) rfl fl142_1 rfl) rfl rfl rfl ?_
 have f14 := off_ty b_0 O0_0 (by decide)
 have f15 := OffV.ty O0_1 O0_0 (by decide)
 refine ol_op0 (by exact opv_storeRow (z := (⟨(ix a0.cells a1).lasts, a2, (ix a0.cells a1).sent, (ix a0.cells a1).flushed⟩ : S_pmem_cell)) (xs := cellsOf [Seg.cell (.int .u64 a2)]) rfl sz22 rfl rfl rfl (len_cellsOf _) (one_cellsOf _) O0_0 g12.1 g12.2 (Spl.segs (segs_pmem_cell (ix a0.cells a1)) 1 1 [Seg.cell (.int .u64 a2)] rfl rfl) rfl) rfl rfl ?_
 rintro _ w17 ⟨O0_0, q13⟩
 have b_0 := b_0.wrO q13 f14
 have O0_1 := O0_1.wrV q13 f15
 have fB := fB.wrM q13 M0_0
 refine ol_nil ?_
 refine cw_seq ?_
 refine cw_region ?_
 refine ol_val (v := .pointer (some ⟨G_0, 0, none⟩)) (by exact xr_move rfl rfl) rfl rfl rfl ?_
 obtain ⟨t18, k19, h⟩ := bs h
 have c29 : ∀ k, (k = G_0 ∨ some k = Value.ownBlock V0_0 ∨ some k = Value.ownBlock V0_1) → (w.heap.size ≤ k ∨ (k = G_0 ∨ some k = Value.ownBlock V0_0 ∨ some k = Value.ownBlock V0_1)) := (cv_or (cv_eq (.inr (.inl rfl))) (cv_or (cv_own M0_0) (cv_own M0_1)))
 refine ol_op (by exact opv_call rfl cal84 (ac rfl an) (pmem_Device_step.ok fu _ (⟨(List.set a0.cells (Int.toNat a1) (⟨(ix a0.cells a1).lasts, a2, (ix a0.cells a1).sent, (ix a0.cells a1).flushed⟩ : S_pmem_cell)), a0.plan, a0.off, a0.armed, a0.left, a0.steps⟩ : S_pmem_Device) G_0 V0_0 (Own.base O0_0 (Nat.zero_le _)) V0_1 (Own.base O0_1 (Nat.zero_le _)) b_0 _ k19)) rfl rfl rfl ?_
 rintro _ w30 ⟨u21, u25, o22, m23, o26, m27, rfl, b_0, q20⟩
 have m23 : ∀ g, Value.ownBlock u21 = some g → w.heap.size ≤ g ∨ (g = G_0 ∨ some g = Value.ownBlock V0_0 ∨ some g = Value.ownBlock V0_1) := fun g hg => (m23 g hg).elim (fun x => .inl (Nat.le_trans fB.size x)) (c29 g)
 have m27 : ∀ g, Value.ownBlock u25 = some g → w.heap.size ≤ g ∨ (g = G_0 ∨ some g = Value.ownBlock V0_0 ∨ some g = Value.ownBlock V0_1) := fun g hg => (m27 g hg).elim (fun x => .inl (Nat.le_trans fB.size x)) (c29 g)
 have fB := fB.call q20 c29
 refine ol_nil ?_
 refine cw_seq ?_
 refine cw_region ?_
 refine ol_val (v := .int .i64 0) (by exact xr_assign rfl rfl) rfl rfl rfl ?_
 refine ol_nil ?_
 refine cw_ret ?_
 repeat (first | with_reducible refine thn_r ?_ | with_reducible refine blk_r ?_)
 obtain rfl := Option.some.inj h
 refine fin_ret1 Try.results28 rfl ?_
 exact ⟨_, rfl, u21, u25, o22, m23, o26, m27, rfl, b_0, fB⟩
def pmem_Device_Flush.s0 (fu : Nat) (a1 : Int) : (Int × (List S_pmem_cell)) → Option (Sum (List S_pmem_cell) (Int × (List S_pmem_cell))) := fun s16 => (if (decide (s16.1 < 8)) = true then (if 0 ≤ (IntKind.i64.wrap ((IntKind.i64.wrap (a1 * 8)) + s16.1)) ∧ (IntKind.i64.wrap ((IntKind.i64.wrap (a1 * 8)) + s16.1)) < (List.length s16.2 : Int) then some (Sum.inr ((IntKind.i64.wrap (s16.1 + 1)), (List.set (List.set s16.2 (Int.toNat (IntKind.i64.wrap ((IntKind.i64.wrap (a1 * 8)) + s16.1))) (⟨(ix s16.2 (IntKind.i64.wrap ((IntKind.i64.wrap (a1 * 8)) + s16.1))).lasts, (ix s16.2 (IntKind.i64.wrap ((IntKind.i64.wrap (a1 * 8)) + s16.1))).stored, (ix s16.2 (IntKind.i64.wrap ((IntKind.i64.wrap (a1 * 8)) + s16.1))).stored, (ix s16.2 (IntKind.i64.wrap ((IntKind.i64.wrap (a1 * 8)) + s16.1))).flushed⟩ : S_pmem_cell)) (Int.toNat (IntKind.i64.wrap ((IntKind.i64.wrap (a1 * 8)) + s16.1))) (⟨(ix (List.set s16.2 (Int.toNat (IntKind.i64.wrap ((IntKind.i64.wrap (a1 * 8)) + s16.1))) (⟨(ix s16.2 (IntKind.i64.wrap ((IntKind.i64.wrap (a1 * 8)) + s16.1))).lasts, (ix s16.2 (IntKind.i64.wrap ((IntKind.i64.wrap (a1 * 8)) + s16.1))).stored, (ix s16.2 (IntKind.i64.wrap ((IntKind.i64.wrap (a1 * 8)) + s16.1))).stored, (ix s16.2 (IntKind.i64.wrap ((IntKind.i64.wrap (a1 * 8)) + s16.1))).flushed⟩ : S_pmem_cell)) (IntKind.i64.wrap ((IntKind.i64.wrap (a1 * 8)) + s16.1))).lasts, (ix (List.set s16.2 (Int.toNat (IntKind.i64.wrap ((IntKind.i64.wrap (a1 * 8)) + s16.1))) (⟨(ix s16.2 (IntKind.i64.wrap ((IntKind.i64.wrap (a1 * 8)) + s16.1))).lasts, (ix s16.2 (IntKind.i64.wrap ((IntKind.i64.wrap (a1 * 8)) + s16.1))).stored, (ix s16.2 (IntKind.i64.wrap ((IntKind.i64.wrap (a1 * 8)) + s16.1))).stored, (ix s16.2 (IntKind.i64.wrap ((IntKind.i64.wrap (a1 * 8)) + s16.1))).flushed⟩ : S_pmem_cell)) (IntKind.i64.wrap ((IntKind.i64.wrap (a1 * 8)) + s16.1))).stored, (ix (List.set s16.2 (Int.toNat (IntKind.i64.wrap ((IntKind.i64.wrap (a1 * 8)) + s16.1))) (⟨(ix s16.2 (IntKind.i64.wrap ((IntKind.i64.wrap (a1 * 8)) + s16.1))).lasts, (ix s16.2 (IntKind.i64.wrap ((IntKind.i64.wrap (a1 * 8)) + s16.1))).stored, (ix s16.2 (IntKind.i64.wrap ((IntKind.i64.wrap (a1 * 8)) + s16.1))).stored, (ix s16.2 (IntKind.i64.wrap ((IntKind.i64.wrap (a1 * 8)) + s16.1))).flushed⟩ : S_pmem_cell)) (IntKind.i64.wrap ((IntKind.i64.wrap (a1 * 8)) + s16.1))).sent, true⟩ : S_pmem_cell)))) else none) else some (Sum.inl (s16.2)))
def pmem_Device_Flush.f (fu : Nat) (a0 : S_pmem_Device) (a1 : Int) : Option (Int × S_pmem_Device) := ((pmem_Device_Lines.f fu a0 : Option Int).bind fun t7 => ((pmem_Device_may.f fu a0 a1 t7 : Option Int).bind fun t11 => (if (!decide (t11 = 0)) = true then some (t11, a0) else ((loopM (pmem_Device_Flush.s0 fu a1) fu (0, a0.cells)).bind fun e17 => ((pmem_Device_step.f fu (⟨e17, a0.plan, a0.off, a0.armed, a0.left, a0.steps⟩ : S_pmem_Device) : Option S_pmem_Device).bind fun t37 => some (0, t37))))))
set_option maxRecDepth 100000 in
set_option maxHeartbeats 400000 in
theorem pmem_Device_Flush.ok (fu : Nat) (w : World) (a0 : S_pmem_Device) (G_0 : Nat) (V0_0 : Value) (O0_0 : Own k_pmem_cell 142 w 0 V0_0 a0.cells) (V0_1 : Value) (O0_1 : Own (kI .i64) 3 w 0 V0_1 a0.plan.list) (b_0 : Blk w G_0 139 [Seg.cell V0_0 O0_0.one, Seg.cell V0_1 O0_1.one, Seg.cell (.int .i64 a0.plan.at_), Seg.cell (.bool a0.off), Seg.cell (.bool a0.armed), Seg.cell (.int .i64 a0.left), Seg.cell (.int .i64 a0.steps)]) (a1 : Int) (r : Int × S_pmem_Device) (h : pmem_Device_Flush.f fu a0 a1 = some r) :
  Calls Try.prog 29 (([.pointer (some ⟨G_0, 0, none⟩), .int .i64 a1] : List Value).toArray) w (fun e w' => ∃ v, e = .returned v ∧ ∃ u1 : Value, ∃ u4 : Value, ∃ o2 : Own k_pmem_cell 142 w' 0 u1 r.2.cells, ∃ m3 : ∀ g, Value.ownBlock u1 = some g → w.heap.size ≤ g ∨ (g = G_0 ∨ some g = Value.ownBlock V0_0 ∨ some g = Value.ownBlock V0_1), ∃ o5 : Own (kI .i64) 3 w' 0 u4 r.2.plan.list, ∃ m6 : ∀ g, Value.ownBlock u4 = some g → w.heap.size ≤ g ∨ (g = G_0 ∨ some g = Value.ownBlock V0_0 ∨ some g = Value.ownBlock V0_1), v = .int .i64 r.1 ∧ Blk w' G_0 139 [Seg.cell u1 o2.one, Seg.cell u4 o5.one, Seg.cell (.int .i64 r.2.plan.at_), Seg.cell (.bool r.2.off), Seg.cell (.bool r.2.armed), Seg.cell (.int .i64 r.2.left), Seg.cell (.int .i64 r.2.steps)] ∧ Fr (fun j => j = G_0 ∨ some j = Value.ownBlock V0_0 ∨ some j = Value.ownBlock V0_1) w w') := by
 unfold pmem_Device_Flush.f at h
 have fB : Fr (fun j => j = G_0 ∨ some j = Value.ownBlock V0_0 ∨ some j = Value.ownBlock V0_1) w w := Fr.refl _ _
 have M0_0 : ∀ g, Value.ownBlock V0_0 = some g → w.heap.size ≤ g ∨ (g = G_0 ∨ some g = Value.ownBlock V0_0 ∨ some g = Value.ownBlock V0_1) := fun g hg => .inr (.inr (.inl hg.symm))
 have M0_1 : ∀ g, Value.ownBlock V0_1 = some g → w.heap.size ≤ g ∨ (g = G_0 ∨ some g = Value.ownBlock V0_0 ∨ some g = Value.ownBlock V0_1) := fun g hg => .inr (.inr (.inr hg.symm))
 refine calls_cw Try.func29 rfl Try.ntmps29 rfl ?_
 refine cw_seq ?_
 refine cw_region ?_
 refine ol_val (v := .int .i64 0) (by exact xr_assign rfl rfl) rfl rfl rfl ?_
 refine ol_nil ?_
 refine cw_seq ?_
 refine cw_seq ?_
 refine cw_region ?_
 refine ol_val (v := .pointer (some ⟨G_0, 0, none⟩)) (by exact xr_move rfl rfl) rfl rfl rfl ?_
 refine ol_val (v := .int .i64 a1) (by exact xr_move rfl rfl) rfl rfl rfl ?_
 refine ol_val (v := .pointer (some ⟨G_0, 0, none⟩)) (by exact xr_move rfl rfl) rfl rfl rfl ?_
 obtain ⟨t7, k8, h⟩ := bs h
 refine ol_op (by exact opv_call rfl cal43 (ac rfl an) (pmem_Device_Lines.ok fu _ a0 G_0 V0_0 (O0_0.rd) V0_1 (O0_1.rd) b_0 _ k8)) rfl rfl rfl ?_
 rintro _ w10 ⟨rfl, q9⟩
 have b_0 := b_0.gr q9
 have O0_0 := O0_0.gr q9
 have O0_1 := O0_1.gr q9
 have fB := fB.gr q9
 obtain ⟨t11, k12, h⟩ := bs h
 refine ol_op (by exact opv_call rfl cal83 (ac rfl (ac rfl (ac rfl an))) (pmem_Device_may.ok fu _ a0 G_0 V0_0 (O0_0.rd) V0_1 (O0_1.rd) b_0 a1 t7 _ k12)) rfl rfl rfl ?_
 rintro _ w14 ⟨rfl, q13⟩
 have b_0 := b_0.gr q13
 have O0_0 := O0_0.gr q13
 have O0_1 := O0_1.gr q13
 have fB := fB.gr q13
 refine ol_val (v := .int .i64 t11) (by exact xr_assign rfl rfl) rfl rfl rfl ?_
 refine ol_nil ?_
 refine cw_seq ?_
 refine cw_region ?_
 refine ol_val (v := .int .i64 t11) (by exact xr_move rfl rfl) rfl rfl rfl ?_
 refine ol_val (v := .bool (!decide (t11 = 0))) (by exact xr_neI rfl Try.underlying31 rfl rfl rfl) rfl rfl rfl ?_
 refine ol_nil ?_
 rcases is h with ⟨c15, h⟩ | ⟨c15, h⟩
 ·refine cw_condT rfl c15 ?_
  refine cw_seq ?_
  refine cw_region ?_
  refine ol_val (v := .int .i64 t11) (by exact xr_move rfl rfl) rfl rfl rfl ?_
  refine ol_val (v := .int .i64 t11) (by exact xr_assign rfl rfl) rfl rfl rfl ?_
  refine ol_nil ?_
  refine cw_ret ?_
  repeat (first | with_reducible refine thn_r ?_ | with_reducible refine blk_r ?_)
  obtain rfl := Option.some.inj h
  refine fin_ret1 Try.results29 rfl ?_
  exact ⟨_, rfl, V0_0, V0_1, O0_0, M0_0, O0_1, M0_1, rfl, b_0, fB⟩
 refine cw_condF rfl c15 ?_
 refine cw_skip ?_
 refine cw_seq ?_
 refine cw_seq ?_
 refine cw_region ?_
 refine ol_val (v := .int .i64 0) (by exact xr_move rfl rfl) rfl rfl rfl ?_
 refine ol_nil ?_
 obtain ⟨e17, l18, h19⟩ := bs h
 refine cw_mid (fun ρ' w' => ∃ O0_0 : Own k_pmem_cell 142 w' 0 V0_0 e17, ∃ O0_1 : Own (kI .i64) 3 w' 0 V0_1 a0.plan.list, ρ' 0 = .pointer (some ⟨G_0, 0, none⟩) ∧ Blk w' G_0 139 [Seg.cell V0_0 O0_0.one, Seg.cell V0_1 O0_1.one, Seg.cell (.int .i64 a0.plan.at_), Seg.cell (.bool a0.off), Seg.cell (.bool a0.armed), Seg.cell (.int .i64 a0.left), Seg.cell (.int .i64 a0.steps)] ∧ Fr (fun j => j = G_0 ∨ some j = Value.ownBlock V0_0 ∨ some j = Value.ownBlock V0_1) w w') ?_ ?_
 ·refine cw_block ?_
  refine cw_round (fun (s16 : Int × (List S_pmem_cell)) ρ' w' => ∃ O0_0 : Own k_pmem_cell 142 w' 0 V0_0 s16.2, ∃ O0_1 : Own (kI .i64) 3 w' 0 V0_1 a0.plan.list, ρ' 0 = .pointer (some ⟨G_0, 0, none⟩) ∧ ρ' 1 = .int .i64 a1 ∧ ρ' 16 = .int .i64 s16.1 ∧ Blk w' G_0 139 [Seg.cell V0_0 O0_0.one, Seg.cell V0_1 O0_1.one, Seg.cell (.int .i64 a0.plan.at_), Seg.cell (.bool a0.off), Seg.cell (.bool a0.armed), Seg.cell (.int .i64 a0.left), Seg.cell (.int .i64 a0.steps)] ∧ Fr (fun j => j = G_0 ∨ some j = Value.ownBlock V0_0 ∨ some j = Value.ownBlock V0_1) w w') l18 ?_ ?_
  ·skip
   exact ⟨O0_0, O0_1, rfl, rfl, rfl, b_0, fB⟩
  rintro s16 x22 ρ20 w21 ⟨O0_0, O0_1, e0, e1, e16, b_0, fB⟩ h
  unfold pmem_Device_Flush.s0 at h
  refine cw_seq ?_
  refine cw_region ?_
  refine ol_val (v := .bool (decide (s16.1 < 8))) (by exact xr_lss rfl e16 rfl) rfl rfl rfl ?_
  refine ol_nil ?_
  refine cw_seq ?_
  rcases is h with ⟨c23, h⟩ | ⟨c23, h⟩
  ·refine cw_condT rfl c23 ?_
   refine cw_skip ?_
   refine cw_seq ?_
   refine cw_block ?_
   refine cw_seq ?_
   refine cw_region ?_
   refine ol_val (v := .int .i64 s16.1) (by exact xr_move rfl e16) rfl rfl rfl ?_
   refine ol_val (v := .int .i64 s16.1) (by exact xr_assign rfl rfl) rfl rfl rfl ?_
   refine ol_nil ?_
   refine cw_seq ?_
   refine cw_region ?_
   refine ol_val (v := .pointer (some ⟨G_0, 0, none⟩)) (by exact xr_move rfl e0) rfl rfl rfl ?_
   refine ol_val (v := .pointer (some ⟨G_0, 0, none⟩)) (by exact xr_nilCheck rfl rfl) rfl rfl rfl ?_
   refine ol_val (v := .pointer (some ⟨G_0, 0, none⟩)) (by exact xr_fieldAddr (p := 0) (q := 0) rfl fl139_0 rfl) rfl rfl rfl ?_
   refine ol_val (v := V0_0) (by exact xr_load1 (v := V0_0) rfl ag135 rfl (b_0.seg 0 rfl rfl)) rfl rfl rfl ?_
   refine ol_val (v := .int .i64 a1) (by exact xr_move rfl e1) rfl rfl rfl ?_
   refine ol_val (v := .int .i64 (IntKind.i64.wrap (a1 * 8))) (by exact xr_mul rfl rfl rfl) rfl rfl rfl ?_
   refine ol_val (v := .int .i64 s16.1) (by exact xr_move rfl rfl) rfl rfl rfl ?_
   refine ol_val (v := .int .i64 (IntKind.i64.wrap ((IntKind.i64.wrap (a1 * 8)) + s16.1))) (by exact xr_add rfl rfl rfl) rfl rfl rfl ?_
   obtain ⟨g24, h⟩ := gs h
   refine ol_val (v := .pointer (some ⟨(sb V0_0), so V0_0 + Int.toNat (IntKind.i64.wrap ((IntKind.i64.wrap (a1 * 8)) + s16.1)) * 4, none⟩)) (by exact xr_indexR (K := k_pmem_cell) (v := V0_0) rfl Try.underlying135 sz142 rfl O0_0.rd rfl g24.1 g24.2) rfl rfl rfl ?_
   refine ol_val (v := .pointer (some ⟨(sb V0_0), so V0_0 + Int.toNat (IntKind.i64.wrap ((IntKind.i64.wrap (a1 * 8)) + s16.1)) * 4, none⟩)) (by exact xr_assign rfl rfl) rfl rfl rfl ?_
   refine ol_nil ?_
   refine cw_region ?_
   refine ol_val (v := .pointer (some ⟨(sb V0_0), so V0_0 + Int.toNat (IntKind.i64.wrap ((IntKind.i64.wrap (a1 * 8)) + s16.1)) * 4, none⟩)) (by exact xr_move rfl rfl) rfl rfl rfl ?_
   refine ol_val (v := .pointer (some ⟨(sb V0_0), so V0_0 + Int.toNat (IntKind.i64.wrap ((IntKind.i64.wrap (a1 * 8)) + s16.1)) * 4, none⟩)) (by exact xr_move rfl rfl) rfl rfl rfl ?_
   refine ol_val (v := .pointer (some ⟨(sb V0_0), so V0_0 + Int.toNat (IntKind.i64.wrap ((IntKind.i64.wrap (a1 * 8)) + s16.1)) * 4, none⟩)) (by exact xr_move rfl rfl) rfl rfl rfl ?_
   refine ol_val (v := .pointer (some ⟨(sb V0_0), so V0_0 + Int.toNat (IntKind.i64.wrap ((IntKind.i64.wrap (a1 * 8)) + s16.1)) * 4, none⟩)) (by exact xr_nilCheck rfl rfl) rfl rfl rfl ?_
   refine ol_val (v := .pointer (some ⟨(sb V0_0), so V0_0 + Int.toNat (IntKind.i64.wrap ((IntKind.i64.wrap (a1 * 8)) + s16.1)) * 4 + 1, none⟩)) (by exact xr_fieldAddr (p := so V0_0 + Int.toNat (IntKind.i64.wrap ((IntKind.i64.wrap (a1 * 8)) + s16.1)) * 4) (q := 1) rfl fl142_1 rfl) rfl rfl rfl ?_
   refine ol_val (v := .int .u64 ((ix s16.2 (IntKind.i64.wrap ((IntKind.i64.wrap (a1 * 8)) + s16.1))).stored)) (by exact xr_load1 (v := .int .u64 ((ix s16.2 (IntKind.i64.wrap ((IntKind.i64.wrap (a1 * 8)) + s16.1))).stored)) rfl ag22 rfl (At.segs (ss := segs_pmem_cell (ix s16.2 (IntKind.i64.wrap ((IntKind.i64.wrap (a1 * 8)) + s16.1)))) (O0_0.rd.elem g24.1 g24.2) 1 1 rfl)) rfl rfl rfl ?_
   refine ol_val (v := .pointer (some ⟨(sb V0_0), so V0_0 + Int.toNat (IntKind.i64.wrap ((IntKind.i64.wrap (a1 * 8)) + s16.1)) * 4, none⟩)) (by exact xr_nilCheck rfl rfl) rfl rfl rfl ?_
   refine ol_val (v := .pointer (some ⟨(sb V0_0), so V0_0 + Int.toNat (IntKind.i64.wrap ((IntKind.i64.wrap (a1 * 8)) + s16.1)) * 4 + 2, none⟩)) (by exact xr_fieldAddr (p := so V0_0 + Int.toNat (IntKind.i64.wrap ((IntKind.i64.wrap (a1 * 8)) + s16.1)) * 4) (q := 2) rfl fl142_2 rfl) rfl rfl rfl ?_
   have f26 := off_ty b_0 O0_0 (by decide)
   have f27 := OffV.ty O0_1 O0_0 (by decide)
   refine ol_op0 (by exact opv_storeRow (z := (⟨(ix s16.2 (IntKind.i64.wrap ((IntKind.i64.wrap (a1 * 8)) + s16.1))).lasts, (ix s16.2 (IntKind.i64.wrap ((IntKind.i64.wrap (a1 * 8)) + s16.1))).stored, (ix s16.2 (IntKind.i64.wrap ((IntKind.i64.wrap (a1 * 8)) + s16.1))).stored, (ix s16.2 (IntKind.i64.wrap ((IntKind.i64.wrap (a1 * 8)) + s16.1))).flushed⟩ : S_pmem_cell)) (xs := cellsOf [Seg.cell (.int .u64 ((ix s16.2 (IntKind.i64.wrap ((IntKind.i64.wrap (a1 * 8)) + s16.1))).stored))]) rfl sz22 rfl rfl rfl (len_cellsOf _) (one_cellsOf _) O0_0 g24.1 g24.2 (Spl.segs (segs_pmem_cell (ix s16.2 (IntKind.i64.wrap ((IntKind.i64.wrap (a1 * 8)) + s16.1)))) 2 1 [Seg.cell (.int .u64 ((ix s16.2 (IntKind.i64.wrap ((IntKind.i64.wrap (a1 * 8)) + s16.1))).stored))] rfl rfl) rfl) rfl rfl ?_
   rintro _ w29 ⟨O0_0, q25⟩
   have b_0 := b_0.wrO q25 f26
   have O0_1 := O0_1.wrV q25 f27
   have fB := fB.wrM q25 M0_0
   refine ol_val (v := .pointer (some ⟨(sb V0_0), so V0_0 + Int.toNat (IntKind.i64.wrap ((IntKind.i64.wrap (a1 * 8)) + s16.1)) * 4, none⟩)) (by exact xr_nilCheck rfl rfl) rfl rfl rfl ?_
   refine ol_val (v := .pointer (some ⟨(sb V0_0), so V0_0 + Int.toNat (IntKind.i64.wrap ((IntKind.i64.wrap (a1 * 8)) + s16.1)) * 4 + 3, none⟩)) (by exact xr_fieldAddr (p := so V0_0 + Int.toNat (IntKind.i64.wrap ((IntKind.i64.wrap (a1 * 8)) + s16.1)) * 4) (q := 3) rfl fl142_3 rfl) rfl rfl rfl ?_
   have f31 := off_ty b_0 O0_0 (by decide)
   have f32 := OffV.ty O0_1 O0_0 (by decide)
   refine ol_op0 (by exact opv_storeRow (z := (⟨(ix (List.set s16.2 (Int.toNat (IntKind.i64.wrap ((IntKind.i64.wrap (a1 * 8)) + s16.1))) (⟨(ix s16.2 (IntKind.i64.wrap ((IntKind.i64.wrap (a1 * 8)) + s16.1))).lasts, (ix s16.2 (IntKind.i64.wrap ((IntKind.i64.wrap (a1 * 8)) + s16.1))).stored, (ix s16.2 (IntKind.i64.wrap ((IntKind.i64.wrap (a1 * 8)) + s16.1))).stored, (ix s16.2 (IntKind.i64.wrap ((IntKind.i64.wrap (a1 * 8)) + s16.1))).flushed⟩ : S_pmem_cell)) (IntKind.i64.wrap ((IntKind.i64.wrap (a1 * 8)) + s16.1))).lasts, (ix (List.set s16.2 (Int.toNat (IntKind.i64.wrap ((IntKind.i64.wrap (a1 * 8)) + s16.1))) (⟨(ix s16.2 (IntKind.i64.wrap ((IntKind.i64.wrap (a1 * 8)) + s16.1))).lasts, (ix s16.2 (IntKind.i64.wrap ((IntKind.i64.wrap (a1 * 8)) + s16.1))).stored, (ix s16.2 (IntKind.i64.wrap ((IntKind.i64.wrap (a1 * 8)) + s16.1))).stored, (ix s16.2 (IntKind.i64.wrap ((IntKind.i64.wrap (a1 * 8)) + s16.1))).flushed⟩ : S_pmem_cell)) (IntKind.i64.wrap ((IntKind.i64.wrap (a1 * 8)) + s16.1))).stored, (ix (List.set s16.2 (Int.toNat (IntKind.i64.wrap ((IntKind.i64.wrap (a1 * 8)) + s16.1))) (⟨(ix s16.2 (IntKind.i64.wrap ((IntKind.i64.wrap (a1 * 8)) + s16.1))).lasts, (ix s16.2 (IntKind.i64.wrap ((IntKind.i64.wrap (a1 * 8)) + s16.1))).stored, (ix s16.2 (IntKind.i64.wrap ((IntKind.i64.wrap (a1 * 8)) + s16.1))).stored, (ix s16.2 (IntKind.i64.wrap ((IntKind.i64.wrap (a1 * 8)) + s16.1))).flushed⟩ : S_pmem_cell)) (IntKind.i64.wrap ((IntKind.i64.wrap (a1 * 8)) + s16.1))).sent, true⟩ : S_pmem_cell)) (xs := cellsOf [Seg.cell (.bool true)]) rfl sz4 rfl rfl rfl (len_cellsOf _) (one_cellsOf _) O0_0 g24.1 (by simpa only [List.length_set] using g24.2) (Spl.segs (segs_pmem_cell (ix (List.set s16.2 (Int.toNat (IntKind.i64.wrap ((IntKind.i64.wrap (a1 * 8)) + s16.1))) (⟨(ix s16.2 (IntKind.i64.wrap ((IntKind.i64.wrap (a1 * 8)) + s16.1))).lasts, (ix s16.2 (IntKind.i64.wrap ((IntKind.i64.wrap (a1 * 8)) + s16.1))).stored, (ix s16.2 (IntKind.i64.wrap ((IntKind.i64.wrap (a1 * 8)) + s16.1))).stored, (ix s16.2 (IntKind.i64.wrap ((IntKind.i64.wrap (a1 * 8)) + s16.1))).flushed⟩ : S_pmem_cell)) (IntKind.i64.wrap ((IntKind.i64.wrap (a1 * 8)) + s16.1)))) 3 1 [Seg.cell (.bool true)] rfl rfl) rfl) rfl rfl ?_
   rintro _ w34 ⟨O0_0, q30⟩
   have b_0 := b_0.wrO q30 f31
   have O0_1 := O0_1.wrV q30 f32
   have fB := fB.wrM q30 M0_0
   refine ol_nil ?_
   refine blk_i ?_
   refine cw_region ?_
   refine ol_val (v := .int .i64 (IntKind.i64.wrap (s16.1 + 1))) (by exact xr_add rfl e16 rfl) rfl rfl rfl ?_
   refine ol_val (v := .int .i64 (IntKind.i64.wrap (s16.1 + 1))) (by exact xr_move rfl rfl) rfl rfl rfl ?_
   refine ol_nil ?_
   obtain rfl := Option.some.inj h
   refine lp_in ?_
   exact ⟨O0_0, O0_1, e0, e1, rfl, b_0, fB⟩
  refine cw_condF rfl c23 ?_
  refine cw_exit ?_
  repeat (first | with_reducible refine thn_e ?_ | with_reducible refine blk_e rfl ?_)
  obtain rfl := Option.some.inj h
  refine lp_exit ?_
  rintro rfl
  refine thn_x ?_
  exact ⟨O0_0, O0_1, e0, b_0, fB⟩
 rintro ρ35 w36 ⟨O0_0, O0_1, e0, b_0, fB⟩
 have h := h19
 refine cw_seq ?_
 refine cw_region ?_
 refine ol_val (v := .pointer (some ⟨G_0, 0, none⟩)) (by exact xr_move rfl e0) rfl rfl rfl ?_
 obtain ⟨t37, k38, h⟩ := bs h
 have c48 : ∀ k, (k = G_0 ∨ some k = Value.ownBlock V0_0 ∨ some k = Value.ownBlock V0_1) → (w.heap.size ≤ k ∨ (k = G_0 ∨ some k = Value.ownBlock V0_0 ∨ some k = Value.ownBlock V0_1)) := (cv_or (cv_eq (.inr (.inl rfl))) (cv_or (cv_own M0_0) (cv_own M0_1)))
 refine ol_op (by exact opv_call rfl cal84 (ac rfl an) (pmem_Device_step.ok fu _ (⟨e17, a0.plan, a0.off, a0.armed, a0.left, a0.steps⟩ : S_pmem_Device) G_0 V0_0 (Own.base O0_0 (Nat.zero_le _)) V0_1 (Own.base O0_1 (Nat.zero_le _)) b_0 _ k38)) rfl rfl rfl ?_
 rintro _ w49 ⟨u40, u44, o41, m42, o45, m46, rfl, b_0, q39⟩
 have m42 : ∀ g, Value.ownBlock u40 = some g → w.heap.size ≤ g ∨ (g = G_0 ∨ some g = Value.ownBlock V0_0 ∨ some g = Value.ownBlock V0_1) := fun g hg => (m42 g hg).elim (fun x => .inl (Nat.le_trans fB.size x)) (c48 g)
 have m46 : ∀ g, Value.ownBlock u44 = some g → w.heap.size ≤ g ∨ (g = G_0 ∨ some g = Value.ownBlock V0_0 ∨ some g = Value.ownBlock V0_1) := fun g hg => (m46 g hg).elim (fun x => .inl (Nat.le_trans fB.size x)) (c48 g)
 have fB := fB.call q39 c48
 refine ol_nil ?_
 refine cw_seq ?_
 refine cw_region ?_
 refine ol_val (v := .int .i64 0) (by exact xr_assign rfl rfl) rfl rfl rfl ?_
 refine ol_nil ?_
 refine cw_ret ?_
 repeat (first | with_reducible refine thn_r ?_ | with_reducible refine blk_r ?_)
 obtain rfl := Option.some.inj h
 refine fin_ret1 Try.results29 rfl ?_
 exact ⟨_, rfl, u40, u44, o41, m42, o45, m46, rfl, b_0, fB⟩
def press_store.s0 (fu : Nat) (a1 : Int) (a2 : Int) (a3 : List Int) : (Int × (List S_pmem_cell) × (List Int) × Int × Bool × Bool × Int × Int) → Option (Sum (Sum (Int × S_pmem_Device) ((List S_pmem_cell) × (List Int) × Int × Bool × Bool × Int × Int)) (Int × (List S_pmem_cell) × (List Int) × Int × Bool × Bool × Int × Int)) := fun s7 => (if (decide (s7.1 < (List.length a3 : Int))) = true then (if 0 ≤ s7.1 ∧ s7.1 < (List.length a3 : Int) then ((pmem_Device_Store.f fu (⟨s7.2.1, (⟨s7.2.2.1, s7.2.2.2.1⟩ : S_pmem_plan), s7.2.2.2.2.1, s7.2.2.2.2.2.1, s7.2.2.2.2.2.2.1, s7.2.2.2.2.2.2.2⟩ : S_pmem_Device) (IntKind.i64.wrap ((IntKind.i64.wrap ((IntKind.i64.wrap (a1 * 8)) + a2)) + s7.1)) (ix a3 s7.1) : Option (Int × S_pmem_Device)).bind fun t35 => (if (!decide (t35.1 = 0)) = true then some (Sum.inl (Sum.inl (t35.1, t35.2))) else some (Sum.inr ((IntKind.i64.wrap (s7.1 + 1)), t35.2.cells, t35.2.plan.list, t35.2.plan.at_, t35.2.off, t35.2.armed, t35.2.left, t35.2.steps)))) else none) else some (Sum.inl (Sum.inr (s7.2.1, s7.2.2.1, s7.2.2.2.1, s7.2.2.2.2.1, s7.2.2.2.2.2.1, s7.2.2.2.2.2.2.1, s7.2.2.2.2.2.2.2))))
def press_store.f (fu : Nat) (a0 : S_pmem_Device) (a1 : Int) (a2 : Int) (a3 : List Int) : Option (Int × S_pmem_Device) := ((loopM (press_store.s0 fu a1 a2 a3) fu (0, a0.cells, a0.plan.list, a0.plan.at_, a0.off, a0.armed, a0.left, a0.steps)).bind fun e8 => match e8 with | Sum.inl p => some p | Sum.inr x11 => ((pmem_Device_Flush.f fu (⟨x11.1, (⟨x11.2.1, x11.2.2.1⟩ : S_pmem_plan), x11.2.2.2.1, x11.2.2.2.2.1, x11.2.2.2.2.2.1, x11.2.2.2.2.2.2⟩ : S_pmem_Device) a1 : Option (Int × S_pmem_Device)).bind fun t54 => some (t54.1, t54.2)))
set_option maxRecDepth 100000 in
set_option maxHeartbeats 400000 in
theorem press_store.ok (fu : Nat) (w : World) (a0 : S_pmem_Device) (G_0 : Nat) (V0_0 : Value) (O0_0 : Own k_pmem_cell 142 w 0 V0_0 a0.cells) (V0_1 : Value) (O0_1 : Own (kI .i64) 3 w 0 V0_1 a0.plan.list) (b_0 : Blk w G_0 139 [Seg.cell V0_0 O0_0.one, Seg.cell V0_1 O0_1.one, Seg.cell (.int .i64 a0.plan.at_), Seg.cell (.bool a0.off), Seg.cell (.bool a0.armed), Seg.cell (.int .i64 a0.left), Seg.cell (.int .i64 a0.steps)]) (a1 : Int) (a2 : Int) (a3 : List Int) (V3_0 : Value) (R3_0 : Rd (kI .u64) w V3_0 a3) (NR3_0_P0 : OffR V3_0 a3 G_0) (NR3_0_R0_0 : OffRV V3_0 a3 V0_0) (NR3_0_R0_1 : OffRV V3_0 a3 V0_1) (r : Int × S_pmem_Device) (h : press_store.f fu a0 a1 a2 a3 = some r) :
  Calls Try.prog 103 (([.pointer (some ⟨G_0, 0, none⟩), .int .i64 a1, .int .i64 a2, V3_0] : List Value).toArray) w (fun e w' => ∃ v, e = .returned v ∧ ∃ u1 : Value, ∃ u4 : Value, ∃ o2 : Own k_pmem_cell 142 w' 0 u1 r.2.cells, ∃ m3 : ∀ g, Value.ownBlock u1 = some g → w.heap.size ≤ g ∨ (g = G_0 ∨ some g = Value.ownBlock V0_0 ∨ some g = Value.ownBlock V0_1), ∃ o5 : Own (kI .i64) 3 w' 0 u4 r.2.plan.list, ∃ m6 : ∀ g, Value.ownBlock u4 = some g → w.heap.size ≤ g ∨ (g = G_0 ∨ some g = Value.ownBlock V0_0 ∨ some g = Value.ownBlock V0_1), v = .int .i64 r.1 ∧ Blk w' G_0 139 [Seg.cell u1 o2.one, Seg.cell u4 o5.one, Seg.cell (.int .i64 r.2.plan.at_), Seg.cell (.bool r.2.off), Seg.cell (.bool r.2.armed), Seg.cell (.int .i64 r.2.left), Seg.cell (.int .i64 r.2.steps)] ∧ Fr (fun j => j = G_0 ∨ some j = Value.ownBlock V0_0 ∨ some j = Value.ownBlock V0_1) w w') := by
 unfold press_store.f at h
 have fB : Fr (fun j => j = G_0 ∨ some j = Value.ownBlock V0_0 ∨ some j = Value.ownBlock V0_1) w w := Fr.refl _ _
 have M0_0 : ∀ g, Value.ownBlock V0_0 = some g → w.heap.size ≤ g ∨ (g = G_0 ∨ some g = Value.ownBlock V0_0 ∨ some g = Value.ownBlock V0_1) := fun g hg => .inr (.inr (.inl hg.symm))
 have M0_1 : ∀ g, Value.ownBlock V0_1 = some g → w.heap.size ≤ g ∨ (g = G_0 ∨ some g = Value.ownBlock V0_0 ∨ some g = Value.ownBlock V0_1) := fun g hg => .inr (.inr (.inr hg.symm))
 refine calls_cw Try.func103 rfl Try.ntmps103 rfl ?_
 refine cw_seq ?_
 refine cw_region ?_
 refine ol_val (v := .int .i64 0) (by exact xr_assign rfl rfl) rfl rfl rfl ?_
 refine ol_nil ?_
 refine cw_seq ?_
 refine cw_seq ?_
 refine cw_region ?_
 refine ol_val (v := V3_0) (by exact xr_move rfl rfl) rfl rfl rfl ?_
 refine ol_val (v := .int .i64 (List.length a3 : Int)) (by exact xr_lenR rfl Try.underlying46 rfl R3_0) rfl rfl rfl ?_
 refine ol_val (v := .int .i64 0) (by exact xr_move rfl rfl) rfl rfl rfl ?_
 refine ol_nil ?_
 obtain ⟨e8, l9, h10⟩ := bs h
 refine cw_mid (fun ρ' w' => ∃ x11, e8 = Sum.inr x11 ∧ ∃ v12 : Value, ∃ v16 : Value, ∃ o13 : Own k_pmem_cell 142 w' 0 v12 x11.1, ∃ o17 : Own (kI .i64) 3 w' 0 v16 x11.2.1, ∃ m15 : ∀ g, Value.ownBlock v12 = some g → w.heap.size ≤ g ∨ (g = G_0 ∨ some g = Value.ownBlock V0_0 ∨ some g = Value.ownBlock V0_1), ∃ m19 : ∀ g, Value.ownBlock v16 = some g → w.heap.size ≤ g ∨ (g = G_0 ∨ some g = Value.ownBlock V0_0 ∨ some g = Value.ownBlock V0_1), ρ' 0 = .pointer (some ⟨G_0, 0, none⟩) ∧ ρ' 1 = .int .i64 a1 ∧ Blk w' G_0 139 [Seg.cell v12 o13.one, Seg.cell v16 o17.one, Seg.cell (.int .i64 x11.2.2.1), Seg.cell (.bool x11.2.2.2.1), Seg.cell (.bool x11.2.2.2.2.1), Seg.cell (.int .i64 x11.2.2.2.2.2.1), Seg.cell (.int .i64 x11.2.2.2.2.2.2)] ∧ Fr (fun j => j = G_0 ∨ some j = Value.ownBlock V0_0 ∨ some j = Value.ownBlock V0_1) w w') ?_ ?_
 ·refine cw_block ?_
  refine cw_round (fun (s7 : Int × (List S_pmem_cell) × (List Int) × Int × Bool × Bool × Int × Int) ρ' w' => ∃ v20 : Value, ∃ v24 : Value, ∃ o21 : Own k_pmem_cell 142 w' 0 v20 s7.2.1, ∃ o25 : Own (kI .i64) 3 w' 0 v24 s7.2.2.1, ∃ m23 : ∀ g, Value.ownBlock v20 = some g → w.heap.size ≤ g ∨ (g = G_0 ∨ some g = Value.ownBlock V0_0 ∨ some g = Value.ownBlock V0_1), ∃ m27 : ∀ g, Value.ownBlock v24 = some g → w.heap.size ≤ g ∨ (g = G_0 ∨ some g = Value.ownBlock V0_0 ∨ some g = Value.ownBlock V0_1), ∃ R3_0 : Rd (kI .u64) w' V3_0 a3, OffRV V3_0 a3 v20 ∧ OffRV V3_0 a3 v24 ∧ ρ' 0 = .pointer (some ⟨G_0, 0, none⟩) ∧ ρ' 1 = .int .i64 a1 ∧ ρ' 2 = .int .i64 a2 ∧ ρ' 12 = V3_0 ∧ ρ' 13 = .int .i64 (List.length a3 : Int) ∧ ρ' 14 = .int .i64 s7.1 ∧ Blk w' G_0 139 [Seg.cell v20 o21.one, Seg.cell v24 o25.one, Seg.cell (.int .i64 s7.2.2.2.1), Seg.cell (.bool s7.2.2.2.2.1), Seg.cell (.bool s7.2.2.2.2.2.1), Seg.cell (.int .i64 s7.2.2.2.2.2.2.1), Seg.cell (.int .i64 s7.2.2.2.2.2.2.2)] ∧ Fr (fun j => j = G_0 ∨ some j = Value.ownBlock V0_0 ∨ some j = Value.ownBlock V0_1) w w') l9 ?_ ?_
  ·skip
   exact ⟨V0_0, V0_1, O0_0, O0_1, M0_0, M0_1, R3_0, NR3_0_R0_0, NR3_0_R0_1, rfl, rfl, rfl, rfl, rfl, rfl, b_0, fB⟩
  rintro s7 x32 ρ30 w31 ⟨v20, v24, o21, o25, m23, m27, R3_0, a28, a29, e0, e1, e2, e12, e13, e14, b_0, fB⟩ h
  unfold press_store.s0 at h
  refine cw_seq ?_
  refine cw_region ?_
  refine ol_val (v := .bool (decide (s7.1 < (List.length a3 : Int)))) (by exact xr_lss rfl e14 e13) rfl rfl rfl ?_
  refine ol_nil ?_
  refine cw_seq ?_
  rcases is h with ⟨c33, h⟩ | ⟨c33, h⟩
  ·refine cw_condT rfl c33 ?_
   refine cw_skip ?_
   refine cw_seq ?_
   refine cw_block ?_
   refine cw_seq ?_
   refine cw_region ?_
   refine ol_val (v := .int .i64 s7.1) (by exact xr_move rfl e14) rfl rfl rfl ?_
   obtain ⟨g34, h⟩ := gs h
   refine ol_val (v := .pointer (some ⟨(sb V3_0), so V3_0 + Int.toNat s7.1 * 1, none⟩)) (by exact xr_indexR (K := (kI .u64)) (v := V3_0) rfl Try.underlying46 sz22 e12 R3_0 e14 g34.1 g34.2) rfl rfl rfl ?_
   refine ol_val (v := .int .u64 (ix a3 s7.1)) (by exact xr_load1 (v := .int .u64 (ix a3 s7.1)) rfl ag22 rfl (R3_0.elem g34.1 g34.2)) rfl rfl rfl ?_
   refine ol_val (v := .int .i64 s7.1) (by exact xr_assign rfl rfl) rfl rfl rfl ?_
   refine ol_val (v := .int .u64 (ix a3 s7.1)) (by exact xr_assign rfl rfl) rfl rfl rfl ?_
   refine ol_nil ?_
   refine cw_seq ?_
   refine cw_region ?_
   refine ol_val (v := .pointer (some ⟨G_0, 0, none⟩)) (by exact xr_move rfl e0) rfl rfl rfl ?_
   refine ol_val (v := .int .i64 a1) (by exact xr_move rfl e1) rfl rfl rfl ?_
   refine ol_val (v := .int .i64 (IntKind.i64.wrap (a1 * 8))) (by exact xr_mul rfl rfl rfl) rfl rfl rfl ?_
   refine ol_val (v := .int .i64 a2) (by exact xr_move rfl e2) rfl rfl rfl ?_
   refine ol_val (v := .int .i64 (IntKind.i64.wrap ((IntKind.i64.wrap (a1 * 8)) + a2))) (by exact xr_add rfl rfl rfl) rfl rfl rfl ?_
   refine ol_val (v := .int .i64 s7.1) (by exact xr_move rfl rfl) rfl rfl rfl ?_
   refine ol_val (v := .int .i64 (IntKind.i64.wrap ((IntKind.i64.wrap ((IntKind.i64.wrap (a1 * 8)) + a2)) + s7.1))) (by exact xr_add rfl rfl rfl) rfl rfl rfl ?_
   refine ol_val (v := .int .u64 (ix a3 s7.1)) (by exact xr_move rfl rfl) rfl rfl rfl ?_
   obtain ⟨t35, k36, h⟩ := bs h
   have f46 := (ro_or (ro_eq NR3_0_P0) (ro_or (ro_own a28) (ro_own a29)))
   have c47 : ∀ k, (k = G_0 ∨ some k = Value.ownBlock v20 ∨ some k = Value.ownBlock v24) → (w.heap.size ≤ k ∨ (k = G_0 ∨ some k = Value.ownBlock V0_0 ∨ some k = Value.ownBlock V0_1)) := (cv_or (cv_eq (.inr (.inl rfl))) (cv_or (cv_own m23) (cv_own m27)))
   refine ol_op (by exact opv_call rfl cal28 (ac rfl (ac rfl (ac rfl an))) (pmem_Device_Store.ok fu _ (⟨s7.2.1, (⟨s7.2.2.1, s7.2.2.2.1⟩ : S_pmem_plan), s7.2.2.2.2.1, s7.2.2.2.2.2.1, s7.2.2.2.2.2.2.1, s7.2.2.2.2.2.2.2⟩ : S_pmem_Device) G_0 v20 (Own.base o21 (Nat.zero_le _)) v24 (Own.base o25 (Nat.zero_le _)) b_0 (IntKind.i64.wrap ((IntKind.i64.wrap ((IntKind.i64.wrap (a1 * 8)) + a2)) + s7.1)) (ix a3 s7.1) _ k36)) rfl rfl rfl ?_
   rintro _ w48 ⟨u38, u42, o39, m40, o43, m44, rfl, b_0, q37⟩
   have a49 := orv_new R3_0 rfl f46 m40
   have a50 := orv_new R3_0 rfl f46 m44
   have m40 : ∀ g, Value.ownBlock u38 = some g → w.heap.size ≤ g ∨ (g = G_0 ∨ some g = Value.ownBlock V0_0 ∨ some g = Value.ownBlock V0_1) := fun g hg => (m40 g hg).elim (fun x => .inl (Nat.le_trans fB.size x)) (c47 g)
   have m44 : ∀ g, Value.ownBlock u42 = some g → w.heap.size ≤ g ∨ (g = G_0 ∨ some g = Value.ownBlock V0_0 ∨ some g = Value.ownBlock V0_1) := fun g hg => (m44 g hg).elim (fun x => .inl (Nat.le_trans fB.size x)) (c47 g)
   have R3_0 := R3_0.fr q37 f46
   have fB := fB.call q37 c47
   refine ol_val (v := .int .i64 t35.1) (by exact xr_assign rfl rfl) rfl rfl rfl ?_
   refine ol_nil ?_
   refine cw_seq ?_
   refine cw_region ?_
   refine ol_val (v := .int .i64 t35.1) (by exact xr_move rfl rfl) rfl rfl rfl ?_
   refine ol_val (v := .bool (!decide (t35.1 = 0))) (by exact xr_neI rfl Try.underlying31 rfl rfl rfl) rfl rfl rfl ?_
   refine ol_nil ?_
   rcases is h with ⟨c51, h⟩ | ⟨c51, h⟩
   ·refine cw_condT rfl c51 ?_
    refine cw_seq ?_
    refine cw_region ?_
    refine ol_val (v := .int .i64 t35.1) (by exact xr_move rfl rfl) rfl rfl rfl ?_
    refine ol_val (v := .int .i64 t35.1) (by exact xr_assign rfl rfl) rfl rfl rfl ?_
    refine ol_nil ?_
    refine cw_ret ?_
    repeat (first | with_reducible refine thn_r ?_ | with_reducible refine blk_r ?_)
    obtain rfl := Option.some.inj h
    refine lp_ret ?_
    rintro rfl
    repeat (first | with_reducible refine thn_r ?_ | with_reducible refine blk_r ?_)
    have h := h10
    obtain rfl := Option.some.inj h
    refine fin_ret1 Try.results103 rfl ?_
    exact ⟨_, rfl, u38, u42, o39, m40, o43, m44, rfl, b_0, fB⟩
   refine cw_condF rfl c51 ?_
   refine cw_skip ?_
   refine blk_i ?_
   refine cw_region ?_
   refine ol_val (v := .int .i64 (IntKind.i64.wrap (s7.1 + 1))) (by exact xr_add rfl e14 rfl) rfl rfl rfl ?_
   refine ol_val (v := .int .i64 (IntKind.i64.wrap (s7.1 + 1))) (by exact xr_move rfl rfl) rfl rfl rfl ?_
   refine ol_nil ?_
   obtain rfl := Option.some.inj h
   refine lp_in ?_
   exact ⟨u38, u42, o39, o43, m40, m44, R3_0, a49, a50, e0, e1, e2, e12, e13, rfl, b_0, fB⟩
  refine cw_condF rfl c33 ?_
  refine cw_exit ?_
  repeat (first | with_reducible refine thn_e ?_ | with_reducible refine blk_e rfl ?_)
  obtain rfl := Option.some.inj h
  refine lp_exit ?_
  rintro rfl
  refine thn_x ?_
  exact ⟨_, rfl, v20, v24, o21, o25, m23, m27, e0, e1, b_0, fB⟩
 rintro ρ52 w53 ⟨x11, rfl, v12, v16, o13, o17, m15, m19, e0, e1, b_0, fB⟩
 have h := h10
 refine cw_seq ?_
 refine cw_region ?_
 refine ol_val (v := .pointer (some ⟨G_0, 0, none⟩)) (by exact xr_move rfl e0) rfl rfl rfl ?_
 refine ol_val (v := .int .i64 a1) (by exact xr_move rfl e1) rfl rfl rfl ?_
 obtain ⟨t54, k55, h⟩ := bs h
 have c65 : ∀ k, (k = G_0 ∨ some k = Value.ownBlock v12 ∨ some k = Value.ownBlock v16) → (w.heap.size ≤ k ∨ (k = G_0 ∨ some k = Value.ownBlock V0_0 ∨ some k = Value.ownBlock V0_1)) := (cv_or (cv_eq (.inr (.inl rfl))) (cv_or (cv_own m15) (cv_own m19)))
 refine ol_op (by exact opv_call rfl cal29 (ac rfl (ac rfl an)) (pmem_Device_Flush.ok fu _ (⟨x11.1, (⟨x11.2.1, x11.2.2.1⟩ : S_pmem_plan), x11.2.2.2.1, x11.2.2.2.2.1, x11.2.2.2.2.2.1, x11.2.2.2.2.2.2⟩ : S_pmem_Device) G_0 v12 (Own.base o13 (Nat.zero_le _)) v16 (Own.base o17 (Nat.zero_le _)) b_0 a1 _ k55)) rfl rfl rfl ?_
 rintro _ w66 ⟨u57, u61, o58, m59, o62, m63, rfl, b_0, q56⟩
 have m59 : ∀ g, Value.ownBlock u57 = some g → w.heap.size ≤ g ∨ (g = G_0 ∨ some g = Value.ownBlock V0_0 ∨ some g = Value.ownBlock V0_1) := fun g hg => (m59 g hg).elim (fun x => .inl (Nat.le_trans fB.size x)) (c65 g)
 have m63 : ∀ g, Value.ownBlock u61 = some g → w.heap.size ≤ g ∨ (g = G_0 ∨ some g = Value.ownBlock V0_0 ∨ some g = Value.ownBlock V0_1) := fun g hg => (m63 g hg).elim (fun x => .inl (Nat.le_trans fB.size x)) (c65 g)
 have fB := fB.call q56 c65
 refine ol_val (v := .int .i64 t54.1) (by exact xr_assign rfl rfl) rfl rfl rfl ?_
 refine ol_nil ?_
 refine cw_ret ?_
 repeat (first | with_reducible refine thn_r ?_ | with_reducible refine blk_r ?_)
 obtain rfl := Option.some.inj h
 refine fin_ret1 Try.results103 rfl ?_
 exact ⟨_, rfl, u57, u61, o58, m59, o62, m63, rfl, b_0, fB⟩
def press_Write.f (fu : Nat) (a0 : S_pmem_Device) (a1 : Int) (a2 : List Int) : Option (Int × S_pmem_Device) := ((press_may.f fu a0 a1 : Option Int).bind fun t7 => (if (!decide (t7 = 0)) = true then some (t7, a0) else (if (!decide ((List.length a2 : Int) = 64)) = true then some (2, a0) else ((octet_Words.f fu a2 : Option (List Int)).bind fun t13 => ((press_store.f fu a0 a1 0 t13 : Option (Int × S_pmem_Device)).bind fun t20 => some (t20.1, t20.2))))))
set_option maxRecDepth 100000 in
set_option maxHeartbeats 400000 in
theorem press_Write.ok (fu : Nat) (w : World) (a0 : S_pmem_Device) (G_0 : Nat) (V0_0 : Value) (O0_0 : Own k_pmem_cell 142 w 0 V0_0 a0.cells) (V0_1 : Value) (O0_1 : Own (kI .i64) 3 w 0 V0_1 a0.plan.list) (b_0 : Blk w G_0 139 [Seg.cell V0_0 O0_0.one, Seg.cell V0_1 O0_1.one, Seg.cell (.int .i64 a0.plan.at_), Seg.cell (.bool a0.off), Seg.cell (.bool a0.armed), Seg.cell (.int .i64 a0.left), Seg.cell (.int .i64 a0.steps)]) (a1 : Int) (a2 : List Int) (V2_0 : Value) (R2_0 : Rd (kI .u8) w V2_0 a2) (NR2_0_P0 : OffR V2_0 a2 G_0) (NR2_0_R0_0 : OffRV V2_0 a2 V0_0) (NR2_0_R0_1 : OffRV V2_0 a2 V0_1) (r : Int × S_pmem_Device) (h : press_Write.f fu a0 a1 a2 = some r) :
  Calls Try.prog 53 (([.pointer (some ⟨G_0, 0, none⟩), .int .i64 a1, V2_0] : List Value).toArray) w (fun e w' => ∃ v, e = .returned v ∧ ∃ u1 : Value, ∃ u4 : Value, ∃ o2 : Own k_pmem_cell 142 w' 0 u1 r.2.cells, ∃ m3 : ∀ g, Value.ownBlock u1 = some g → w.heap.size ≤ g ∨ (g = G_0 ∨ some g = Value.ownBlock V0_0 ∨ some g = Value.ownBlock V0_1), ∃ o5 : Own (kI .i64) 3 w' 0 u4 r.2.plan.list, ∃ m6 : ∀ g, Value.ownBlock u4 = some g → w.heap.size ≤ g ∨ (g = G_0 ∨ some g = Value.ownBlock V0_0 ∨ some g = Value.ownBlock V0_1), v = .int .i64 r.1 ∧ Blk w' G_0 139 [Seg.cell u1 o2.one, Seg.cell u4 o5.one, Seg.cell (.int .i64 r.2.plan.at_), Seg.cell (.bool r.2.off), Seg.cell (.bool r.2.armed), Seg.cell (.int .i64 r.2.left), Seg.cell (.int .i64 r.2.steps)] ∧ Fr (fun j => j = G_0 ∨ some j = Value.ownBlock V0_0 ∨ some j = Value.ownBlock V0_1) w w') := by
 unfold press_Write.f at h
 have fB : Fr (fun j => j = G_0 ∨ some j = Value.ownBlock V0_0 ∨ some j = Value.ownBlock V0_1) w w := Fr.refl _ _
 have M0_0 : ∀ g, Value.ownBlock V0_0 = some g → w.heap.size ≤ g ∨ (g = G_0 ∨ some g = Value.ownBlock V0_0 ∨ some g = Value.ownBlock V0_1) := fun g hg => .inr (.inr (.inl hg.symm))
 have M0_1 : ∀ g, Value.ownBlock V0_1 = some g → w.heap.size ≤ g ∨ (g = G_0 ∨ some g = Value.ownBlock V0_0 ∨ some g = Value.ownBlock V0_1) := fun g hg => .inr (.inr (.inr hg.symm))
 refine calls_cw Try.func53 rfl Try.ntmps53 rfl ?_
 refine cw_seq ?_
 refine cw_region ?_
 refine ol_val (v := .int .i64 0) (by exact xr_assign rfl rfl) rfl rfl rfl ?_
 refine ol_nil ?_
 refine cw_seq ?_
 refine cw_seq ?_
 refine cw_region ?_
 refine ol_val (v := .pointer (some ⟨G_0, 0, none⟩)) (by exact xr_move rfl rfl) rfl rfl rfl ?_
 refine ol_val (v := .int .i64 a1) (by exact xr_move rfl rfl) rfl rfl rfl ?_
 obtain ⟨t7, k8, h⟩ := bs h
 refine ol_op (by exact opv_call rfl cal102 (ac rfl (ac rfl an)) (press_may.ok fu _ a0 G_0 V0_0 (O0_0.rd) V0_1 (O0_1.rd) b_0 a1 _ k8)) rfl rfl rfl ?_
 rintro _ w10 ⟨rfl, q9⟩
 have b_0 := b_0.gr q9
 have O0_0 := O0_0.gr q9
 have O0_1 := O0_1.gr q9
 have R2_0 := R2_0.gr q9
 have fB := fB.gr q9
 refine ol_val (v := .int .i64 t7) (by exact xr_assign rfl rfl) rfl rfl rfl ?_
 refine ol_nil ?_
 refine cw_seq ?_
 refine cw_region ?_
 refine ol_val (v := .int .i64 t7) (by exact xr_move rfl rfl) rfl rfl rfl ?_
 refine ol_val (v := .bool (!decide (t7 = 0))) (by exact xr_neI rfl Try.underlying31 rfl rfl rfl) rfl rfl rfl ?_
 refine ol_nil ?_
 rcases is h with ⟨c11, h⟩ | ⟨c11, h⟩
 ·refine cw_condT rfl c11 ?_
  refine cw_seq ?_
  refine cw_region ?_
  refine ol_val (v := .int .i64 t7) (by exact xr_move rfl rfl) rfl rfl rfl ?_
  refine ol_val (v := .int .i64 t7) (by exact xr_assign rfl rfl) rfl rfl rfl ?_
  refine ol_nil ?_
  refine cw_ret ?_
  repeat (first | with_reducible refine thn_r ?_ | with_reducible refine blk_r ?_)
  obtain rfl := Option.some.inj h
  refine fin_ret1 Try.results53 rfl ?_
  exact ⟨_, rfl, V0_0, V0_1, O0_0, M0_0, O0_1, M0_1, rfl, b_0, fB⟩
 refine cw_condF rfl c11 ?_
 refine cw_skip ?_
 refine cw_seq ?_
 refine cw_seq ?_
 refine cw_region ?_
 refine ol_val (v := V2_0) (by exact xr_move rfl rfl) rfl rfl rfl ?_
 refine ol_val (v := .int .i64 (List.length a2 : Int)) (by exact xr_lenR rfl Try.underlying43 rfl R2_0) rfl rfl rfl ?_
 refine ol_val (v := .bool (!decide ((List.length a2 : Int) = 64))) (by exact xr_neI rfl Try.underlying3 rfl rfl rfl) rfl rfl rfl ?_
 refine ol_nil ?_
 rcases is h with ⟨c12, h⟩ | ⟨c12, h⟩
 ·refine cw_condT rfl c12 ?_
  refine cw_seq ?_
  refine cw_region ?_
  refine ol_val (v := .int .i64 2) (by exact xr_assign rfl rfl) rfl rfl rfl ?_
  refine ol_nil ?_
  refine cw_ret ?_
  repeat (first | with_reducible refine thn_r ?_ | with_reducible refine blk_r ?_)
  obtain rfl := Option.some.inj h
  refine fin_ret1 Try.results53 rfl ?_
  exact ⟨_, rfl, V0_0, V0_1, O0_0, M0_0, O0_1, M0_1, rfl, b_0, fB⟩
 refine cw_condF rfl c12 ?_
 refine cw_skip ?_
 refine cw_seq ?_
 refine cw_region ?_
 refine ol_val (v := .pointer (some ⟨G_0, 0, none⟩)) (by exact xr_move rfl rfl) rfl rfl rfl ?_
 refine ol_val (v := .int .i64 a1) (by exact xr_move rfl rfl) rfl rfl rfl ?_
 refine ol_val (v := V2_0) (by exact xr_move rfl rfl) rfl rfl rfl ?_
 obtain ⟨t13, k14, h⟩ := bs h
 refine ol_op (by exact opv_call rfl cal99 (ac rfl an) (octet_Words.ok fu _ a2 V2_0 (R2_0) _ k14)) rfl rfl rfl ?_
 rintro u15 w19 ⟨_, o16, rfl, q18⟩
 have o16 := Own.base o16 fB.size
 have b_0 := b_0.gr q18
 have O0_0 := O0_0.gr q18
 have O0_1 := O0_1.gr q18
 have fB := fB.gr q18
 obtain ⟨t20, k21, h⟩ := bs h
 have c31 : ∀ k, (k = G_0 ∨ some k = Value.ownBlock V0_0 ∨ some k = Value.ownBlock V0_1) → (w.heap.size ≤ k ∨ (k = G_0 ∨ some k = Value.ownBlock V0_0 ∨ some k = Value.ownBlock V0_1)) := (cv_or (cv_eq (.inr (.inl rfl))) (cv_or (cv_own M0_0) (cv_own M0_1)))
 refine ol_op (by exact opv_call rfl cal103 (ac rfl (ac rfl (ac rfl (ac rfl an)))) (press_store.ok fu _ a0 G_0 V0_0 (Own.base O0_0 (Nat.zero_le _)) V0_1 (Own.base O0_1 (Nat.zero_le _)) b_0 a1 0 t13 u15 (o16.rd) (OffR.own o16 (off_ty b_0 o16 (by decide))) (OffRV.own o16 (OffV.ty o16 O0_0 (by decide))) (OffRV.own o16 (OffV.ty o16 O0_1 (by decide))) _ k21)) rfl rfl rfl ?_
 rintro _ w32 ⟨u23, u27, o24, m25, o28, m29, rfl, b_0, q22⟩
 have m25 : ∀ g, Value.ownBlock u23 = some g → w.heap.size ≤ g ∨ (g = G_0 ∨ some g = Value.ownBlock V0_0 ∨ some g = Value.ownBlock V0_1) := fun g hg => (m25 g hg).elim (fun x => .inl (Nat.le_trans fB.size x)) (c31 g)
 have m29 : ∀ g, Value.ownBlock u27 = some g → w.heap.size ≤ g ∨ (g = G_0 ∨ some g = Value.ownBlock V0_0 ∨ some g = Value.ownBlock V0_1) := fun g hg => (m29 g hg).elim (fun x => .inl (Nat.le_trans fB.size x)) (c31 g)
 have fB := fB.call q22 c31
 refine ol_val (v := .int .i64 t20.1) (by exact xr_assign rfl rfl) rfl rfl rfl ?_
 refine ol_nil ?_
 refine cw_ret ?_
 repeat (first | with_reducible refine thn_r ?_ | with_reducible refine blk_r ?_)
 obtain rfl := Option.some.inj h
 refine fin_ret1 Try.results53 rfl ?_
 exact ⟨_, rfl, u23, u27, o24, m25, o28, m29, rfl, b_0, fB⟩
def pmem_Device_Fence.s0 (fu : Nat) (a0 : S_pmem_Device) : (Int × (List S_pmem_cell)) → Option (Sum (List S_pmem_cell) (Int × (List S_pmem_cell))) := fun s12 => (if (decide (s12.1 < (List.length a0.cells : Int))) = true then (if 0 ≤ s12.1 ∧ s12.1 < (List.length s12.2 : Int) then (((if (ix s12.2 s12.1).flushed = true then ((pmem_cell_keep__i0.f fu (ix s12.2 s12.1) ((ix s12.2 s12.1).sent) : Option S_pmem_cell).bind fun t31 => some ((List.set s12.2 (Int.toNat s12.1) t31))) else some (s12.2)) : Option (List S_pmem_cell)).bind fun x21 => some (Sum.inr ((IntKind.i64.wrap (s12.1 + 1)), x21))) else none) else some (Sum.inl (s12.2)))
def pmem_Device_Fence.f (fu : Nat) (a0 : S_pmem_Device) : Option (Int × S_pmem_Device) := ((pmem_Device_may.f fu a0 0 1 : Option Int).bind fun t7 => (if (!decide (t7 = 0)) = true then some (t7, a0) else ((loopM (pmem_Device_Fence.s0 fu a0) fu (0, a0.cells)).bind fun e13 => ((pmem_Device_step.f fu (⟨e13, a0.plan, a0.off, a0.armed, a0.left, a0.steps⟩ : S_pmem_Device) : Option S_pmem_Device).bind fun t43 => some (0, t43)))))
set_option maxRecDepth 100000 in
set_option maxHeartbeats 400000 in
theorem pmem_Device_Fence.ok (fu : Nat) (w : World) (a0 : S_pmem_Device) (G_0 : Nat) (V0_0 : Value) (O0_0 : Own k_pmem_cell 142 w 0 V0_0 a0.cells) (V0_1 : Value) (O0_1 : Own (kI .i64) 3 w 0 V0_1 a0.plan.list) (b_0 : Blk w G_0 139 [Seg.cell V0_0 O0_0.one, Seg.cell V0_1 O0_1.one, Seg.cell (.int .i64 a0.plan.at_), Seg.cell (.bool a0.off), Seg.cell (.bool a0.armed), Seg.cell (.int .i64 a0.left), Seg.cell (.int .i64 a0.steps)]) (r : Int × S_pmem_Device) (h : pmem_Device_Fence.f fu a0 = some r) :
  Calls Try.prog 30 (([.pointer (some ⟨G_0, 0, none⟩)] : List Value).toArray) w (fun e w' => ∃ v, e = .returned v ∧ ∃ u1 : Value, ∃ u4 : Value, ∃ o2 : Own k_pmem_cell 142 w' 0 u1 r.2.cells, ∃ m3 : ∀ g, Value.ownBlock u1 = some g → w.heap.size ≤ g ∨ (g = G_0 ∨ some g = Value.ownBlock V0_0 ∨ some g = Value.ownBlock V0_1), ∃ o5 : Own (kI .i64) 3 w' 0 u4 r.2.plan.list, ∃ m6 : ∀ g, Value.ownBlock u4 = some g → w.heap.size ≤ g ∨ (g = G_0 ∨ some g = Value.ownBlock V0_0 ∨ some g = Value.ownBlock V0_1), v = .int .i64 r.1 ∧ Blk w' G_0 139 [Seg.cell u1 o2.one, Seg.cell u4 o5.one, Seg.cell (.int .i64 r.2.plan.at_), Seg.cell (.bool r.2.off), Seg.cell (.bool r.2.armed), Seg.cell (.int .i64 r.2.left), Seg.cell (.int .i64 r.2.steps)] ∧ Fr (fun j => j = G_0 ∨ some j = Value.ownBlock V0_0 ∨ some j = Value.ownBlock V0_1) w w') := by
 unfold pmem_Device_Fence.f at h
 have fB : Fr (fun j => j = G_0 ∨ some j = Value.ownBlock V0_0 ∨ some j = Value.ownBlock V0_1) w w := Fr.refl _ _
 have M0_0 : ∀ g, Value.ownBlock V0_0 = some g → w.heap.size ≤ g ∨ (g = G_0 ∨ some g = Value.ownBlock V0_0 ∨ some g = Value.ownBlock V0_1) := fun g hg => .inr (.inr (.inl hg.symm))
 have M0_1 : ∀ g, Value.ownBlock V0_1 = some g → w.heap.size ≤ g ∨ (g = G_0 ∨ some g = Value.ownBlock V0_0 ∨ some g = Value.ownBlock V0_1) := fun g hg => .inr (.inr (.inr hg.symm))
 refine calls_cw Try.func30 rfl Try.ntmps30 rfl ?_
 refine cw_seq ?_
 refine cw_region ?_
 refine ol_val (v := .int .i64 0) (by exact xr_assign rfl rfl) rfl rfl rfl ?_
 refine ol_nil ?_
 refine cw_seq ?_
 refine cw_seq ?_
 refine cw_region ?_
 refine ol_val (v := .pointer (some ⟨G_0, 0, none⟩)) (by exact xr_move rfl rfl) rfl rfl rfl ?_
 obtain ⟨t7, k8, h⟩ := bs h
 refine ol_op (by exact opv_call rfl cal83 (ac rfl (ac rfl (ac rfl an))) (pmem_Device_may.ok fu _ a0 G_0 V0_0 (O0_0.rd) V0_1 (O0_1.rd) b_0 0 1 _ k8)) rfl rfl rfl ?_
 rintro _ w10 ⟨rfl, q9⟩
 have b_0 := b_0.gr q9
 have O0_0 := O0_0.gr q9
 have O0_1 := O0_1.gr q9
 have fB := fB.gr q9
 refine ol_val (v := .int .i64 t7) (by exact xr_assign rfl rfl) rfl rfl rfl ?_
 refine ol_nil ?_
 refine cw_seq ?_
 refine cw_region ?_
 refine ol_val (v := .int .i64 t7) (by exact xr_move rfl rfl) rfl rfl rfl ?_
 refine ol_val (v := .bool (!decide (t7 = 0))) (by exact xr_neI rfl Try.underlying31 rfl rfl rfl) rfl rfl rfl ?_
 refine ol_nil ?_
 rcases is h with ⟨c11, h⟩ | ⟨c11, h⟩
 ·refine cw_condT rfl c11 ?_
  refine cw_seq ?_
  refine cw_region ?_
  refine ol_val (v := .int .i64 t7) (by exact xr_move rfl rfl) rfl rfl rfl ?_
  refine ol_val (v := .int .i64 t7) (by exact xr_assign rfl rfl) rfl rfl rfl ?_
  refine ol_nil ?_
  refine cw_ret ?_
  repeat (first | with_reducible refine thn_r ?_ | with_reducible refine blk_r ?_)
  obtain rfl := Option.some.inj h
  refine fin_ret1 Try.results30 rfl ?_
  exact ⟨_, rfl, V0_0, V0_1, O0_0, M0_0, O0_1, M0_1, rfl, b_0, fB⟩
 refine cw_condF rfl c11 ?_
 refine cw_skip ?_
 refine cw_seq ?_
 refine cw_seq ?_
 refine cw_region ?_
 refine ol_val (v := .pointer (some ⟨G_0, 0, none⟩)) (by exact xr_move rfl rfl) rfl rfl rfl ?_
 refine ol_val (v := .pointer (some ⟨G_0, 0, none⟩)) (by exact xr_nilCheck rfl rfl) rfl rfl rfl ?_
 refine ol_val (v := .pointer (some ⟨G_0, 0, none⟩)) (by exact xr_fieldAddr (p := 0) (q := 0) rfl fl139_0 rfl) rfl rfl rfl ?_
 refine ol_val (v := V0_0) (by exact xr_load1 (v := V0_0) rfl ag135 rfl (b_0.seg 0 rfl rfl)) rfl rfl rfl ?_
 refine ol_val (v := .int .i64 (List.length a0.cells : Int)) (by exact xr_lenR rfl Try.underlying135 rfl O0_0.rd) rfl rfl rfl ?_
 refine ol_val (v := .int .i64 0) (by exact xr_move rfl rfl) rfl rfl rfl ?_
 refine ol_nil ?_
 obtain ⟨e13, l14, h15⟩ := bs h
 refine cw_mid (fun ρ' w' => ∃ O0_0 : Own k_pmem_cell 142 w' 0 V0_0 e13, ∃ O0_1 : Own (kI .i64) 3 w' 0 V0_1 a0.plan.list, ρ' 0 = .pointer (some ⟨G_0, 0, none⟩) ∧ Blk w' G_0 139 [Seg.cell V0_0 O0_0.one, Seg.cell V0_1 O0_1.one, Seg.cell (.int .i64 a0.plan.at_), Seg.cell (.bool a0.off), Seg.cell (.bool a0.armed), Seg.cell (.int .i64 a0.left), Seg.cell (.int .i64 a0.steps)] ∧ Fr (fun j => j = G_0 ∨ some j = Value.ownBlock V0_0 ∨ some j = Value.ownBlock V0_1) w w') ?_ ?_
 ·refine cw_block ?_
  refine cw_round (fun (s12 : Int × (List S_pmem_cell)) ρ' w' => ∃ O0_0 : Own k_pmem_cell 142 w' 0 V0_0 s12.2, ∃ O0_1 : Own (kI .i64) 3 w' 0 V0_1 a0.plan.list, ρ' 0 = .pointer (some ⟨G_0, 0, none⟩) ∧ ρ' 15 = .int .i64 (List.length a0.cells : Int) ∧ ρ' 16 = .int .i64 s12.1 ∧ Blk w' G_0 139 [Seg.cell V0_0 O0_0.one, Seg.cell V0_1 O0_1.one, Seg.cell (.int .i64 a0.plan.at_), Seg.cell (.bool a0.off), Seg.cell (.bool a0.armed), Seg.cell (.int .i64 a0.left), Seg.cell (.int .i64 a0.steps)] ∧ Fr (fun j => j = G_0 ∨ some j = Value.ownBlock V0_0 ∨ some j = Value.ownBlock V0_1) w w') l14 ?_ ?_
  ·skip
   exact ⟨O0_0, O0_1, rfl, rfl, rfl, b_0, fB⟩
  rintro s12 x18 ρ16 w17 ⟨O0_0, O0_1, e0, e15, e16, b_0, fB⟩ h
  unfold pmem_Device_Fence.s0 at h
  refine cw_seq ?_
  refine cw_region ?_
  refine ol_val (v := .bool (decide (s12.1 < (List.length a0.cells : Int)))) (by exact xr_lss rfl e16 e15) rfl rfl rfl ?_
  refine ol_nil ?_
  refine cw_seq ?_
  rcases is h with ⟨c19, h⟩ | ⟨c19, h⟩
  ·refine cw_condT rfl c19 ?_
   refine cw_skip ?_
   refine cw_seq ?_
   refine cw_block ?_
   refine cw_seq ?_
   refine cw_region ?_
   refine ol_val (v := .int .i64 s12.1) (by exact xr_move rfl e16) rfl rfl rfl ?_
   refine ol_val (v := .int .i64 s12.1) (by exact xr_assign rfl rfl) rfl rfl rfl ?_
   refine ol_nil ?_
   refine cw_seq ?_
   refine cw_region ?_
   refine ol_val (v := .pointer (some ⟨G_0, 0, none⟩)) (by exact xr_move rfl e0) rfl rfl rfl ?_
   refine ol_val (v := .pointer (some ⟨G_0, 0, none⟩)) (by exact xr_nilCheck rfl rfl) rfl rfl rfl ?_
   refine ol_val (v := .pointer (some ⟨G_0, 0, none⟩)) (by exact xr_fieldAddr (p := 0) (q := 0) rfl fl139_0 rfl) rfl rfl rfl ?_
   refine ol_val (v := V0_0) (by exact xr_load1 (v := V0_0) rfl ag135 rfl (b_0.seg 0 rfl rfl)) rfl rfl rfl ?_
   refine ol_val (v := .int .i64 s12.1) (by exact xr_move rfl rfl) rfl rfl rfl ?_
   obtain ⟨g20, h⟩ := gs h
   refine ol_val (v := .pointer (some ⟨(sb V0_0), so V0_0 + Int.toNat s12.1 * 4, none⟩)) (by exact xr_indexR (K := k_pmem_cell) (v := V0_0) rfl Try.underlying135 sz142 rfl O0_0.rd rfl g20.1 g20.2) rfl rfl rfl ?_
   refine ol_val (v := .pointer (some ⟨(sb V0_0), so V0_0 + Int.toNat s12.1 * 4, none⟩)) (by exact xr_assign rfl rfl) rfl rfl rfl ?_
   refine ol_nil ?_
   refine cw_seq ?_
   refine cw_region ?_
   refine ol_val (v := .pointer (some ⟨(sb V0_0), so V0_0 + Int.toNat s12.1 * 4, none⟩)) (by exact xr_move rfl rfl) rfl rfl rfl ?_
   refine ol_val (v := .pointer (some ⟨(sb V0_0), so V0_0 + Int.toNat s12.1 * 4, none⟩)) (by exact xr_nilCheck rfl rfl) rfl rfl rfl ?_
   refine ol_val (v := .pointer (some ⟨(sb V0_0), so V0_0 + Int.toNat s12.1 * 4 + 3, none⟩)) (by exact xr_fieldAddr (p := so V0_0 + Int.toNat s12.1 * 4) (q := 3) rfl fl142_3 rfl) rfl rfl rfl ?_
   refine ol_val (v := .bool ((ix s12.2 s12.1).flushed)) (by exact xr_load1 (v := .bool ((ix s12.2 s12.1).flushed)) rfl ag4 rfl (At.segs (ss := segs_pmem_cell (ix s12.2 s12.1)) (O0_0.rd.elem g20.1 g20.2) 3 1 rfl)) rfl rfl rfl ?_
   refine ol_nil ?_
   obtain ⟨x21, j22, h23⟩ := bs h
   refine cw_mid (fun ρ' w' => ∃ O0_0 : Own k_pmem_cell 142 w' 0 V0_0 x21, ∃ O0_1 : Own (kI .i64) 3 w' 0 V0_1 a0.plan.list, ρ' 0 = .pointer (some ⟨G_0, 0, none⟩) ∧ ρ' 15 = .int .i64 (List.length a0.cells : Int) ∧ ρ' 16 = .int .i64 s12.1 ∧ Blk w' G_0 139 [Seg.cell V0_0 O0_0.one, Seg.cell V0_1 O0_1.one, Seg.cell (.int .i64 a0.plan.at_), Seg.cell (.bool a0.off), Seg.cell (.bool a0.armed), Seg.cell (.int .i64 a0.left), Seg.cell (.int .i64 a0.steps)] ∧ Fr (fun j => j = G_0 ∨ some j = Value.ownBlock V0_0 ∨ some j = Value.ownBlock V0_1) w w') ?_ ?_
   ·have h := j22
    rcases is h with ⟨c24, h⟩ | ⟨c24, h⟩
    ·refine cw_condT rfl c24 ?_
     refine cw_region ?_
     refine ol_val (v := .pointer (some ⟨(sb V0_0), so V0_0 + Int.toNat s12.1 * 4, none⟩)) (by exact xr_move rfl rfl) rfl rfl rfl ?_
     refine ol_val (v := .pointer (some ⟨(sb V0_0), so V0_0 + Int.toNat s12.1 * 4, none⟩)) (by exact xr_move rfl rfl) rfl rfl rfl ?_
     refine ol_val (v := .pointer (some ⟨(sb V0_0), so V0_0 + Int.toNat s12.1 * 4, none⟩)) (by exact xr_nilCheck rfl rfl) rfl rfl rfl ?_
     refine ol_val (v := .pointer (some ⟨(sb V0_0), so V0_0 + Int.toNat s12.1 * 4 + 2, none⟩)) (by exact xr_fieldAddr (p := so V0_0 + Int.toNat s12.1 * 4) (q := 2) rfl fl142_2 rfl) rfl rfl rfl ?_
     refine ol_val (v := .int .u64 ((ix s12.2 s12.1).sent)) (by exact xr_load1 (v := .int .u64 ((ix s12.2 s12.1).sent)) rfl ag22 rfl (At.segs (ss := segs_pmem_cell (ix s12.2 s12.1)) (O0_0.rd.elem g20.1 g20.2) 2 1 rfl)) rfl rfl rfl ?_
     obtain ⟨t31, k32, h⟩ := bs h
     have f35 := off_ty b_0 O0_0 (by decide)
     have f36 := OffV.ty O0_1 O0_0 (by decide)
     obtain ⟨X25, Y26, h27, h28, b29, k30⟩ := Own.sub (K := k_pmem_cell) (i := s12.1) (ss := [Seg.cell (.int .u64 ((ix s12.2 s12.1).lasts)), Seg.cell (.int .u64 ((ix s12.2 s12.1).stored)), Seg.cell (.int .u64 ((ix s12.2 s12.1).sent)), Seg.cell (.bool ((ix s12.2 s12.1).flushed))]) O0_0 g20.1 g20.2 rfl
     refine ol_op (by exact opv_call rfl cal85 (ac (ptrE (q := List.length X25) rfl h27) (ac rfl an)) (pmem_cell_keep__i0.ok fu _ (ix s12.2 s12.1) (sb V0_0) 142 X25 Y26 b29 ((ix s12.2 s12.1).sent) _ k32)) rfl rfl rfl ?_
     rintro _ w38 ⟨rfl, b34, q33⟩
     have O0_0 := k30 _ t31 [Seg.cell (.int .u64 t31.lasts), Seg.cell (.int .u64 t31.stored), Seg.cell (.int .u64 t31.sent), Seg.cell (.bool t31.flushed)] rfl b34
     have q33 := fr_own q33 h28
     have b_0 := b_0.wrO q33 f35
     have O0_1 := O0_1.wrV q33 f36
     have fB := fB.wrM q33 M0_0
     refine ol_nil ?_
     obtain rfl := Option.some.inj h
     refine thn_i ?_
     exact ⟨O0_0, O0_1, e0, e15, e16, b_0, fB⟩
    refine cw_condF rfl c24 ?_
    refine cw_skip ?_
    obtain rfl := Option.some.inj h
    refine thn_i ?_
    exact ⟨O0_0, O0_1, e0, e15, e16, b_0, fB⟩
   rintro ρ39 w40 ⟨O0_0, O0_1, e0, e15, e16, b_0, fB⟩
   have h := h23
   refine blk_i ?_
   refine cw_region ?_
   refine ol_val (v := .int .i64 (IntKind.i64.wrap (s12.1 + 1))) (by exact xr_add rfl e16 rfl) rfl rfl rfl ?_
   refine ol_val (v := .int .i64 (IntKind.i64.wrap (s12.1 + 1))) (by exact xr_move rfl rfl) rfl rfl rfl ?_
   refine ol_nil ?_
   obtain rfl := Option.some.inj h
   refine lp_in ?_
   exact ⟨O0_0, O0_1, e0, e15, rfl, b_0, fB⟩
  refine cw_condF rfl c19 ?_
  refine cw_exit ?_
  repeat (first | with_reducible refine thn_e ?_ | with_reducible refine blk_e rfl ?_)
  obtain rfl := Option.some.inj h
  refine lp_exit ?_
  rintro rfl
  refine thn_x ?_
  exact ⟨O0_0, O0_1, e0, b_0, fB⟩
 rintro ρ41 w42 ⟨O0_0, O0_1, e0, b_0, fB⟩
 have h := h15
 refine cw_seq ?_
 refine cw_region ?_
 refine ol_val (v := .pointer (some ⟨G_0, 0, none⟩)) (by exact xr_move rfl e0) rfl rfl rfl ?_
 obtain ⟨t43, k44, h⟩ := bs h
 have c54 : ∀ k, (k = G_0 ∨ some k = Value.ownBlock V0_0 ∨ some k = Value.ownBlock V0_1) → (w.heap.size ≤ k ∨ (k = G_0 ∨ some k = Value.ownBlock V0_0 ∨ some k = Value.ownBlock V0_1)) := (cv_or (cv_eq (.inr (.inl rfl))) (cv_or (cv_own M0_0) (cv_own M0_1)))
 refine ol_op (by exact opv_call rfl cal84 (ac rfl an) (pmem_Device_step.ok fu _ (⟨e13, a0.plan, a0.off, a0.armed, a0.left, a0.steps⟩ : S_pmem_Device) G_0 V0_0 (Own.base O0_0 (Nat.zero_le _)) V0_1 (Own.base O0_1 (Nat.zero_le _)) b_0 _ k44)) rfl rfl rfl ?_
 rintro _ w55 ⟨u46, u50, o47, m48, o51, m52, rfl, b_0, q45⟩
 have m48 : ∀ g, Value.ownBlock u46 = some g → w.heap.size ≤ g ∨ (g = G_0 ∨ some g = Value.ownBlock V0_0 ∨ some g = Value.ownBlock V0_1) := fun g hg => (m48 g hg).elim (fun x => .inl (Nat.le_trans fB.size x)) (c54 g)
 have m52 : ∀ g, Value.ownBlock u50 = some g → w.heap.size ≤ g ∨ (g = G_0 ∨ some g = Value.ownBlock V0_0 ∨ some g = Value.ownBlock V0_1) := fun g hg => (m52 g hg).elim (fun x => .inl (Nat.le_trans fB.size x)) (c54 g)
 have fB := fB.call q45 c54
 refine ol_nil ?_
 refine cw_seq ?_
 refine cw_region ?_
 refine ol_val (v := .int .i64 0) (by exact xr_assign rfl rfl) rfl rfl rfl ?_
 refine ol_nil ?_
 refine cw_ret ?_
 repeat (first | with_reducible refine thn_r ?_ | with_reducible refine blk_r ?_)
 obtain rfl := Option.some.inj h
 refine fin_ret1 Try.results30 rfl ?_
 exact ⟨_, rfl, u46, u50, o47, m48, o51, m52, rfl, b_0, fB⟩
def press_Sure.f (fu : Nat) (a0 : S_pmem_Device) : Option (Int × S_pmem_Device) := ((pmem_Device_Fence.f fu a0 : Option (Int × S_pmem_Device)).bind fun t7 => some (t7.1, t7.2))
set_option maxRecDepth 100000 in
set_option maxHeartbeats 400000 in
theorem press_Sure.ok (fu : Nat) (w : World) (a0 : S_pmem_Device) (G_0 : Nat) (V0_0 : Value) (O0_0 : Own k_pmem_cell 142 w 0 V0_0 a0.cells) (V0_1 : Value) (O0_1 : Own (kI .i64) 3 w 0 V0_1 a0.plan.list) (b_0 : Blk w G_0 139 [Seg.cell V0_0 O0_0.one, Seg.cell V0_1 O0_1.one, Seg.cell (.int .i64 a0.plan.at_), Seg.cell (.bool a0.off), Seg.cell (.bool a0.armed), Seg.cell (.int .i64 a0.left), Seg.cell (.int .i64 a0.steps)]) (r : Int × S_pmem_Device) (h : press_Sure.f fu a0 = some r) :
  Calls Try.prog 54 (([.pointer (some ⟨G_0, 0, none⟩)] : List Value).toArray) w (fun e w' => ∃ v, e = .returned v ∧ ∃ u1 : Value, ∃ u4 : Value, ∃ o2 : Own k_pmem_cell 142 w' 0 u1 r.2.cells, ∃ m3 : ∀ g, Value.ownBlock u1 = some g → w.heap.size ≤ g ∨ (g = G_0 ∨ some g = Value.ownBlock V0_0 ∨ some g = Value.ownBlock V0_1), ∃ o5 : Own (kI .i64) 3 w' 0 u4 r.2.plan.list, ∃ m6 : ∀ g, Value.ownBlock u4 = some g → w.heap.size ≤ g ∨ (g = G_0 ∨ some g = Value.ownBlock V0_0 ∨ some g = Value.ownBlock V0_1), v = .int .i64 r.1 ∧ Blk w' G_0 139 [Seg.cell u1 o2.one, Seg.cell u4 o5.one, Seg.cell (.int .i64 r.2.plan.at_), Seg.cell (.bool r.2.off), Seg.cell (.bool r.2.armed), Seg.cell (.int .i64 r.2.left), Seg.cell (.int .i64 r.2.steps)] ∧ Fr (fun j => j = G_0 ∨ some j = Value.ownBlock V0_0 ∨ some j = Value.ownBlock V0_1) w w') := by
 unfold press_Sure.f at h
 have fB : Fr (fun j => j = G_0 ∨ some j = Value.ownBlock V0_0 ∨ some j = Value.ownBlock V0_1) w w := Fr.refl _ _
 have M0_0 : ∀ g, Value.ownBlock V0_0 = some g → w.heap.size ≤ g ∨ (g = G_0 ∨ some g = Value.ownBlock V0_0 ∨ some g = Value.ownBlock V0_1) := fun g hg => .inr (.inr (.inl hg.symm))
 have M0_1 : ∀ g, Value.ownBlock V0_1 = some g → w.heap.size ≤ g ∨ (g = G_0 ∨ some g = Value.ownBlock V0_0 ∨ some g = Value.ownBlock V0_1) := fun g hg => .inr (.inr (.inr hg.symm))
 refine calls_cw Try.func54 rfl Try.ntmps54 rfl ?_
 refine cw_seq ?_
 refine cw_region ?_
 refine ol_val (v := .int .i64 0) (by exact xr_assign rfl rfl) rfl rfl rfl ?_
 refine ol_nil ?_
 refine cw_seq ?_
 refine cw_seq ?_
 refine cw_region ?_
 refine ol_val (v := .pointer (some ⟨G_0, 0, none⟩)) (by exact xr_move rfl rfl) rfl rfl rfl ?_
 refine ol_val (v := .bool false) (by exact xr_eqP (b := false) rfl Try.underlying30 rfl rfl (by simp) (by simp)) rfl rfl rfl ?_
 refine ol_nil ?_
 refine cw_condF rfl rfl ?_
 refine cw_skip ?_
 refine cw_seq ?_
 refine cw_region ?_
 refine ol_val (v := .pointer (some ⟨G_0, 0, none⟩)) (by exact xr_move rfl rfl) rfl rfl rfl ?_
 obtain ⟨t7, k8, h⟩ := bs h
 have c18 : ∀ k, (k = G_0 ∨ some k = Value.ownBlock V0_0 ∨ some k = Value.ownBlock V0_1) → (w.heap.size ≤ k ∨ (k = G_0 ∨ some k = Value.ownBlock V0_0 ∨ some k = Value.ownBlock V0_1)) := (cv_or (cv_eq (.inr (.inl rfl))) (cv_or (cv_own M0_0) (cv_own M0_1)))
 refine ol_op (by exact opv_call rfl cal30 (ac rfl an) (pmem_Device_Fence.ok fu _ a0 G_0 V0_0 (Own.base O0_0 (Nat.zero_le _)) V0_1 (Own.base O0_1 (Nat.zero_le _)) b_0 _ k8)) rfl rfl rfl ?_
 rintro _ w19 ⟨u10, u14, o11, m12, o15, m16, rfl, b_0, q9⟩
 have m12 : ∀ g, Value.ownBlock u10 = some g → w.heap.size ≤ g ∨ (g = G_0 ∨ some g = Value.ownBlock V0_0 ∨ some g = Value.ownBlock V0_1) := fun g hg => (m12 g hg).elim (fun x => .inl (Nat.le_trans fB.size x)) (c18 g)
 have m16 : ∀ g, Value.ownBlock u14 = some g → w.heap.size ≤ g ∨ (g = G_0 ∨ some g = Value.ownBlock V0_0 ∨ some g = Value.ownBlock V0_1) := fun g hg => (m16 g hg).elim (fun x => .inl (Nat.le_trans fB.size x)) (c18 g)
 have fB := fB.call q9 c18
 refine ol_val (v := .int .i64 t7.1) (by exact xr_assign rfl rfl) rfl rfl rfl ?_
 refine ol_nil ?_
 refine cw_ret ?_
 repeat (first | with_reducible refine thn_r ?_ | with_reducible refine blk_r ?_)
 obtain rfl := Option.some.inj h
 refine fin_ret1 Try.results54 rfl ?_
 exact ⟨_, rfl, u10, u14, o11, m12, o15, m16, rfl, b_0, fB⟩
def pmem_Device_Load.f (fu : Nat) (a0 : S_pmem_Device) (a1 : Int) : Option (Int × Int) := ((pmem_Device_may.f fu a0 a1 (List.length a0.cells : Int) : Option Int).bind fun t1 => (if (!decide (t1 = 0)) = true then some (0, t1) else (if 0 ≤ a1 ∧ a1 < (List.length a0.cells : Int) then some ((ix a0.cells a1).stored, 0) else none)))
set_option maxRecDepth 100000 in
set_option maxHeartbeats 400000 in
theorem pmem_Device_Load.ok (fu : Nat) (w : World) (a0 : S_pmem_Device) (G_0 : Nat) (V0_0 : Value) (R0_0 : Rd k_pmem_cell w V0_0 a0.cells) (V0_1 : Value) (R0_1 : Rd (kI .i64) w V0_1 a0.plan.list) (b_0 : Blk w G_0 139 [Seg.cell V0_0 R0_0.one, Seg.cell V0_1 R0_1.one, Seg.cell (.int .i64 a0.plan.at_), Seg.cell (.bool a0.off), Seg.cell (.bool a0.armed), Seg.cell (.int .i64 a0.left), Seg.cell (.int .i64 a0.steps)]) (a1 : Int) (r : Int × Int) (h : pmem_Device_Load.f fu a0 a1 = some r) :
  Calls Try.prog 82 (([.pointer (some ⟨G_0, 0, none⟩), .int .i64 a1] : List Value).toArray) w (fun e w' => ∃ v, e = .returned v ∧ v = .tuple #[.int .u64 r.1, .int .i64 r.2] ∧ Gr w w') := by
 unfold pmem_Device_Load.f at h
 have fB : Gr w w := Fr.refl _ _
 refine calls_cw Try.func82 rfl Try.ntmps82 rfl ?_
 refine cw_seq ?_
 refine cw_region ?_
 refine ol_val (v := .int .u64 0) (by exact xr_assign rfl rfl) rfl rfl rfl ?_
 refine ol_val (v := .int .i64 0) (by exact xr_assign rfl rfl) rfl rfl rfl ?_
 refine ol_nil ?_
 refine cw_seq ?_
 refine cw_seq ?_
 refine cw_region ?_
 refine ol_val (v := .pointer (some ⟨G_0, 0, none⟩)) (by exact xr_move rfl rfl) rfl rfl rfl ?_
 refine ol_val (v := .int .i64 a1) (by exact xr_move rfl rfl) rfl rfl rfl ?_
 refine ol_val (v := .pointer (some ⟨G_0, 0, none⟩)) (by exact xr_move rfl rfl) rfl rfl rfl ?_
 refine ol_val (v := .pointer (some ⟨G_0, 0, none⟩)) (by exact xr_nilCheck rfl rfl) rfl rfl rfl ?_
 refine ol_val (v := .pointer (some ⟨G_0, 0, none⟩)) (by exact xr_fieldAddr (p := 0) (q := 0) rfl fl139_0 rfl) rfl rfl rfl ?_
 refine ol_val (v := V0_0) (by exact xr_load1 (v := V0_0) rfl ag135 rfl (b_0.seg 0 rfl rfl)) rfl rfl rfl ?_
 refine ol_val (v := .int .i64 (List.length a0.cells : Int)) (by exact xr_lenR rfl Try.underlying135 rfl (R0_0.gr fB)) rfl rfl rfl ?_
 obtain ⟨t1, k2, h⟩ := bs h
 refine ol_op (by exact opv_call rfl cal83 (ac rfl (ac rfl (ac rfl an))) (pmem_Device_may.ok fu _ a0 G_0 V0_0 (R0_0.gr fB) V0_1 (R0_1.gr fB) b_0 a1 (List.length a0.cells : Int) _ k2)) rfl rfl rfl ?_
 rintro _ w4 ⟨rfl, q3⟩
 have b_0 := b_0.gr q3
 have fB := fB.gr q3
 refine ol_val (v := .int .i64 t1) (by exact xr_assign rfl rfl) rfl rfl rfl ?_
 refine ol_nil ?_
 refine cw_seq ?_
 refine cw_region ?_
 refine ol_val (v := .int .i64 t1) (by exact xr_move rfl rfl) rfl rfl rfl ?_
 refine ol_val (v := .bool (!decide (t1 = 0))) (by exact xr_neI rfl Try.underlying31 rfl rfl rfl) rfl rfl rfl ?_
 refine ol_nil ?_
 rcases is h with ⟨c5, h⟩ | ⟨c5, h⟩
 ·refine cw_condT rfl c5 ?_
  refine cw_seq ?_
  refine cw_region ?_
  refine ol_val (v := .int .i64 t1) (by exact xr_move rfl rfl) rfl rfl rfl ?_
  refine ol_val (v := .int .u64 0) (by exact xr_assign rfl rfl) rfl rfl rfl ?_
  refine ol_val (v := .int .i64 t1) (by exact xr_assign rfl rfl) rfl rfl rfl ?_
  refine ol_nil ?_
  refine cw_ret ?_
  repeat (first | with_reducible refine thn_r ?_ | with_reducible refine blk_r ?_)
  obtain rfl := Option.some.inj h
  refine fin_ret2 Try.results82 rfl rfl ?_
  exact ⟨_, rfl, rfl, fB⟩
 refine cw_condF rfl c5 ?_
 refine cw_skip ?_
 refine cw_seq ?_
 refine cw_region ?_
 refine ol_val (v := .pointer (some ⟨G_0, 0, none⟩)) (by exact xr_move rfl rfl) rfl rfl rfl ?_
 refine ol_val (v := .pointer (some ⟨G_0, 0, none⟩)) (by exact xr_nilCheck rfl rfl) rfl rfl rfl ?_
 refine ol_val (v := .pointer (some ⟨G_0, 0, none⟩)) (by exact xr_fieldAddr (p := 0) (q := 0) rfl fl139_0 rfl) rfl rfl rfl ?_
 refine ol_val (v := V0_0) (by exact xr_load1 (v := V0_0) rfl ag135 rfl (b_0.seg 0 rfl rfl)) rfl rfl rfl ?_
 refine ol_val (v := .int .i64 a1) (by exact xr_move rfl rfl) rfl rfl rfl ?_
 obtain ⟨g6, h⟩ := gs h
 refine ol_val (v := .pointer (some ⟨(sb V0_0), so V0_0 + Int.toNat a1 * 4, none⟩)) (by exact xr_indexR (K := k_pmem_cell) (v := V0_0) rfl Try.underlying135 sz142 rfl (R0_0.gr fB) rfl g6.1 g6.2) rfl rfl rfl ?_
 refine ol_val (v := .pointer (some ⟨(sb V0_0), so V0_0 + Int.toNat a1 * 4 + 1, none⟩)) (by exact xr_fieldAddr (p := so V0_0 + Int.toNat a1 * 4) (q := 1) rfl fl142_1 rfl) rfl rfl rfl ?_
 refine ol_val (v := .int .u64 ((ix a0.cells a1).stored)) (by exact xr_load1 (v := .int .u64 ((ix a0.cells a1).stored)) rfl ag22 rfl (At.segs (ss := segs_pmem_cell (ix a0.cells a1)) ((R0_0.gr fB).elem g6.1 g6.2) 1 1 rfl)) rfl rfl rfl ?_
 refine ol_val (v := .int .u64 ((ix a0.cells a1).stored)) (by exact xr_assign rfl rfl) rfl rfl rfl ?_
 refine ol_val (v := .int .i64 0) (by exact xr_assign rfl rfl) rfl rfl rfl ?_
 refine ol_nil ?_
 refine cw_ret ?_
 repeat (first | with_reducible refine thn_r ?_ | with_reducible refine blk_r ?_)
 obtain rfl := Option.some.inj h
 refine fin_ret2 Try.results82 rfl rfl ?_
 exact ⟨_, rfl, rfl, fB⟩
def press_Read.s0 (fu : Nat) (a0 : S_pmem_Device) (a1 : Int) : (Int × (Arr 8 Int)) → Option (Sum (Sum ((List Int) × Int) (Arr 8 Int)) (Int × (Arr 8 Int))) := fun s16 => (if (decide (s16.1 < 8)) = true then ((pmem_Device_Load.f fu a0 (IntKind.i64.wrap ((IntKind.i64.wrap (a1 * 8)) + s16.1)) : Option (Int × Int)).bind fun t25 => (if (!decide (t25.2 = 0)) = true then some (Sum.inl (Sum.inl ([], t25.2))) else (if 0 ≤ s16.1 ∧ s16.1 < 8 then some (Sum.inr ((IntKind.i64.wrap (s16.1 + 1)), (Arr.set s16.2 s16.1 t25.1))) else none))) else some (Sum.inl (Sum.inr (s16.2))))
def press_Read.f (fu : Nat) (a0 : S_pmem_Device) (a1 : Int) : Option ((List Int) × Int) := ((press_may.f fu a0 a1 : Option Int).bind fun t4 => (if (!decide (t4 = 0)) = true then some ([], t4) else ((loopM (press_Read.s0 fu a0 a1) fu (0, (Arr.rep 8 (0 : Int)))).bind fun e17 => match e17 with | Sum.inl p => some p | Sum.inr x20 => ((octet_Octets.f fu (Arr.l x20) : Option (List Int)).bind fun t35 => some (t35, 0)))))
set_option maxRecDepth 100000 in
set_option maxHeartbeats 400000 in
theorem press_Read.ok (fu : Nat) (w : World) (a0 : S_pmem_Device) (G_0 : Nat) (V0_0 : Value) (R0_0 : Rd k_pmem_cell w V0_0 a0.cells) (V0_1 : Value) (R0_1 : Rd (kI .i64) w V0_1 a0.plan.list) (b_0 : Blk w G_0 139 [Seg.cell V0_0 R0_0.one, Seg.cell V0_1 R0_1.one, Seg.cell (.int .i64 a0.plan.at_), Seg.cell (.bool a0.off), Seg.cell (.bool a0.armed), Seg.cell (.int .i64 a0.left), Seg.cell (.int .i64 a0.steps)]) (a1 : Int) (r : (List Int) × Int) (h : press_Read.f fu a0 a1 = some r) :
  Calls Try.prog 55 (([.pointer (some ⟨G_0, 0, none⟩), .int .i64 a1] : List Value).toArray) w (fun e w' => ∃ v, e = .returned v ∧ ∃ u1 : Value, ∃ o2 : Own (kI .u8) 5 w' w.heap.size u1 r.1, v = .tuple #[u1, .int .i64 r.2] ∧ Gr w w') := by
 unfold press_Read.f at h
 have fB : Gr w w := Fr.refl _ _
 refine calls_cw Try.func55 rfl Try.ntmps55 rfl ?_
 refine cw_seq ?_
 refine cw_region ?_
 refine ol_val (v := .slice none 0 0) (by exact xr_assign rfl rfl) rfl rfl rfl ?_
 refine ol_val (v := .int .i64 0) (by exact xr_assign rfl rfl) rfl rfl rfl ?_
 refine ol_nil ?_
 refine cw_seq ?_
 refine cw_seq ?_
 refine cw_region ?_
 refine ol_val (v := .pointer (some ⟨G_0, 0, none⟩)) (by exact xr_move rfl rfl) rfl rfl rfl ?_
 refine ol_val (v := .int .i64 a1) (by exact xr_move rfl rfl) rfl rfl rfl ?_
 obtain ⟨t4, k5, h⟩ := bs h
 refine ol_op (by exact opv_call rfl cal102 (ac rfl (ac rfl an)) (press_may.ok fu _ a0 G_0 V0_0 (R0_0.gr fB) V0_1 (R0_1.gr fB) b_0 a1 _ k5)) rfl rfl rfl ?_
 rintro _ w7 ⟨rfl, q6⟩
 have b_0 := b_0.gr q6
 have fB := fB.gr q6
 refine ol_val (v := .int .i64 t4) (by exact xr_assign rfl rfl) rfl rfl rfl ?_
 refine ol_nil ?_
 refine cw_seq ?_
 refine cw_region ?_
 refine ol_val (v := .int .i64 t4) (by exact xr_move rfl rfl) rfl rfl rfl ?_
 refine ol_val (v := .bool (!decide (t4 = 0))) (by exact xr_neI rfl Try.underlying31 rfl rfl rfl) rfl rfl rfl ?_
 refine ol_nil ?_
 rcases is h with ⟨c8, h⟩ | ⟨c8, h⟩
 ·refine cw_condT rfl c8 ?_
  refine cw_seq ?_
  refine cw_region ?_
  refine ol_val (v := .int .i64 t4) (by exact xr_move rfl rfl) rfl rfl rfl ?_
  refine ol_val (v := .slice none 0 0) (by exact xr_assign rfl rfl) rfl rfl rfl ?_
  refine ol_val (v := .int .i64 t4) (by exact xr_assign rfl rfl) rfl rfl rfl ?_
  refine ol_nil ?_
  refine cw_ret ?_
  repeat (first | with_reducible refine thn_r ?_ | with_reducible refine blk_r ?_)
  obtain rfl := Option.some.inj h
  refine fin_ret2 Try.results55 rfl rfl ?_
  exact ⟨_, rfl, (.slice none 0 0), Own.nil _ _ _ _, rfl, fB⟩
 refine cw_condF rfl c8 ?_
 refine cw_skip ?_
 refine cw_seq ?_
 refine cw_region ?_
 refine ol_op (by exact opv_alloc (ss := [Kd.seg (kA 8 (kI .u64)) (Arr.rep 8 (0 : Int))]) rfl ze23 rfl) rfl rfl rfl ?_
 rintro _ w14 ⟨G9, rfl, b10, q11, z12⟩
 have n15 := b_0.ne z12
 have z12 := Nat.le_trans fB.size z12
 have b_0 := b_0.gr q11
 have fB := fB.gr q11
 refine ol_nil ?_
 refine cw_seq ?_
 refine cw_seq ?_
 refine cw_region ?_
 refine ol_val (v := .int .i64 0) (by exact xr_move rfl rfl) rfl rfl rfl ?_
 refine ol_nil ?_
 obtain ⟨e17, l18, h19⟩ := bs h
 refine cw_mid (fun ρ' w' => ∃ x20, e17 = Sum.inr x20 ∧ ρ' 7 = .pointer (some ⟨G9, 0, none⟩) ∧ Blk w' G_0 139 [Seg.cell V0_0 R0_0.one, Seg.cell V0_1 R0_1.one, Seg.cell (.int .i64 a0.plan.at_), Seg.cell (.bool a0.off), Seg.cell (.bool a0.armed), Seg.cell (.int .i64 a0.left), Seg.cell (.int .i64 a0.steps)] ∧ Blk w' G9 23 [Kd.seg (kA 8 (kI .u64)) x20] ∧ Gr w w') ?_ ?_
 ·refine cw_block ?_
  refine cw_round (fun (s16 : Int × (Arr 8 Int)) ρ' w' => ρ' 0 = .pointer (some ⟨G_0, 0, none⟩) ∧ ρ' 1 = .int .i64 a1 ∧ ρ' 7 = .pointer (some ⟨G9, 0, none⟩) ∧ ρ' 17 = .int .i64 s16.1 ∧ Blk w' G_0 139 [Seg.cell V0_0 R0_0.one, Seg.cell V0_1 R0_1.one, Seg.cell (.int .i64 a0.plan.at_), Seg.cell (.bool a0.off), Seg.cell (.bool a0.armed), Seg.cell (.int .i64 a0.left), Seg.cell (.int .i64 a0.steps)] ∧ Blk w' G9 23 [Kd.seg (kA 8 (kI .u64)) s16.2] ∧ Gr w w') l18 ?_ ?_
  ·skip
   exact ⟨rfl, rfl, rfl, rfl, b_0, b10, fB⟩
  rintro s16 x23 ρ21 w22 ⟨e0, e1, e7, e17, b_0, b10, fB⟩ h
  unfold press_Read.s0 at h
  refine cw_seq ?_
  refine cw_region ?_
  refine ol_val (v := .bool (decide (s16.1 < 8))) (by exact xr_lss rfl e17 rfl) rfl rfl rfl ?_
  refine ol_nil ?_
  refine cw_seq ?_
  rcases is h with ⟨c24, h⟩ | ⟨c24, h⟩
  ·refine cw_condT rfl c24 ?_
   refine cw_skip ?_
   refine cw_seq ?_
   refine cw_block ?_
   refine cw_seq ?_
   refine cw_region ?_
   refine ol_val (v := .int .i64 s16.1) (by exact xr_move rfl e17) rfl rfl rfl ?_
   refine ol_val (v := .int .i64 s16.1) (by exact xr_assign rfl rfl) rfl rfl rfl ?_
   refine ol_nil ?_
   refine cw_seq ?_
   refine cw_region ?_
   refine ol_val (v := .pointer (some ⟨G_0, 0, none⟩)) (by exact xr_move rfl e0) rfl rfl rfl ?_
   refine ol_val (v := .int .i64 a1) (by exact xr_move rfl e1) rfl rfl rfl ?_
   refine ol_val (v := .int .i64 (IntKind.i64.wrap (a1 * 8))) (by exact xr_mul rfl rfl rfl) rfl rfl rfl ?_
   refine ol_val (v := .int .i64 s16.1) (by exact xr_move rfl rfl) rfl rfl rfl ?_
   refine ol_val (v := .int .i64 (IntKind.i64.wrap ((IntKind.i64.wrap (a1 * 8)) + s16.1))) (by exact xr_add rfl rfl rfl) rfl rfl rfl ?_
   obtain ⟨t25, k26, h⟩ := bs h
   refine ol_op (by exact opv_call rfl cal82 (ac rfl (ac rfl an)) (pmem_Device_Load.ok fu _ a0 G_0 V0_0 (R0_0.gr fB) V0_1 (R0_1.gr fB) b_0 (IntKind.i64.wrap ((IntKind.i64.wrap (a1 * 8)) + s16.1)) _ k26)) rfl rfl rfl ?_
   rintro _ w28 ⟨rfl, q27⟩
   have b_0 := b_0.gr q27
   have b10 := b10.gr q27
   have fB := fB.gr q27
   refine ol_val (v := .tuple #[.int .u64 t25.1, .int .i64 t25.2]) (by exact xr_move rfl rfl) rfl rfl rfl ?_
   refine ol_val (v := .int .u64 t25.1) (by exact xr_extract rfl rfl rfl) rfl rfl rfl ?_
   refine ol_val (v := .int .i64 t25.2) (by exact xr_extract rfl rfl rfl) rfl rfl rfl ?_
   refine ol_val (v := .int .u64 t25.1) (by exact xr_assign rfl rfl) rfl rfl rfl ?_
   refine ol_val (v := .int .i64 t25.2) (by exact xr_assign rfl rfl) rfl rfl rfl ?_
   refine ol_nil ?_
   refine cw_seq ?_
   refine cw_seq ?_
   refine cw_region ?_
   refine ol_val (v := .int .i64 t25.2) (by exact xr_move rfl rfl) rfl rfl rfl ?_
   refine ol_val (v := .bool (!decide (t25.2 = 0))) (by exact xr_neI rfl Try.underlying31 rfl rfl rfl) rfl rfl rfl ?_
   refine ol_nil ?_
   rcases is h with ⟨c29, h⟩ | ⟨c29, h⟩
   ·refine cw_condT rfl c29 ?_
    refine cw_seq ?_
    refine cw_region ?_
    refine ol_val (v := .int .i64 t25.2) (by exact xr_move rfl rfl) rfl rfl rfl ?_
    refine ol_val (v := .slice none 0 0) (by exact xr_assign rfl rfl) rfl rfl rfl ?_
    refine ol_val (v := .int .i64 t25.2) (by exact xr_assign rfl rfl) rfl rfl rfl ?_
    refine ol_nil ?_
    refine cw_ret ?_
    repeat (first | with_reducible refine thn_r ?_ | with_reducible refine blk_r ?_)
    obtain rfl := Option.some.inj h
    refine lp_ret ?_
    rintro rfl
    repeat (first | with_reducible refine thn_r ?_ | with_reducible refine blk_r ?_)
    have h := h19
    obtain rfl := Option.some.inj h
    refine fin_ret2 Try.results55 rfl rfl ?_
    exact ⟨_, rfl, (.slice none 0 0), Own.nil _ _ _ _, rfl, fB⟩
   refine cw_condF rfl c29 ?_
   refine cw_skip ?_
   refine cw_region ?_
   refine ol_val (v := .int .i64 s16.1) (by exact xr_move rfl rfl) rfl rfl rfl ?_
   refine ol_val (v := .int .u64 t25.1) (by exact xr_move rfl rfl) rfl rfl rfl ?_
   obtain ⟨g30, h⟩ := gs h
   refine ol_val (v := .pointer (some ⟨G9, 0 + Int.toNat s16.1 * 1, none⟩)) (by exact xr_indexA (p := 0) (s := 1) rfl Try.underlying23 sz22 e7 rfl g30.1 g30.2) rfl rfl rfl ?_
   refine ol_op0 (by exact opv_store (ss' := [Kd.seg (kA 8 (kI .u64)) (Arr.set s16.2 s16.1 t25.1)]) (xs := cellsOf [Seg.cell (.int .u64 t25.1)]) rfl sz22 rfl rfl rfl (len_cellsOf _) (one_cellsOf _) b10 (Spl.seg_in _ 0 (Kd.seg (kA 8 (kI .u64)) (Arr.set s16.2 s16.1 t25.1)) rfl rfl (Spl.arr s16.2 s16.1 t25.1 g30.1 g30.2 (Spl.whole ((Kd.len _ _).trans (Kd.len _ _).symm))))) rfl rfl ?_
   rintro _ w32 ⟨b10, q31⟩
   have b_0 := b_0.wr q31 n15
   have fB := fB.wr q31 z12
   refine ol_nil ?_
   refine blk_i ?_
   refine cw_region ?_
   refine ol_val (v := .int .i64 (IntKind.i64.wrap (s16.1 + 1))) (by exact xr_add rfl e17 rfl) rfl rfl rfl ?_
   refine ol_val (v := .int .i64 (IntKind.i64.wrap (s16.1 + 1))) (by exact xr_move rfl rfl) rfl rfl rfl ?_
   refine ol_nil ?_
   obtain rfl := Option.some.inj h
   refine lp_in ?_
   exact ⟨e0, e1, e7, rfl, b_0, b10, fB⟩
  refine cw_condF rfl c24 ?_
  refine cw_exit ?_
  repeat (first | with_reducible refine thn_e ?_ | with_reducible refine blk_e rfl ?_)
  obtain rfl := Option.some.inj h
  refine lp_exit ?_
  rintro rfl
  refine thn_x ?_
  exact ⟨_, rfl, e7, b_0, b10, fB⟩
 rintro ρ33 w34 ⟨x20, rfl, e7, b_0, b10, fB⟩
 have h := h19
 refine cw_seq ?_
 refine cw_region ?_
 refine ol_val (v := .slice (some ⟨G9, 0, none⟩) 8 8) (by exact xr_sliceArr rfl Try.underlying23 sz22 e7) rfl rfl rfl ?_
 obtain ⟨t35, k36, h⟩ := bs h
 refine ol_op (by exact opv_call rfl cal104 (ac rfl an) (octet_Octets.ok fu _ (Arr.l x20) (.slice (some ⟨G9, 0, none⟩) 8 8) (Rd.arr (b10.seg 0 rfl rfl)) _ k36)) rfl rfl rfl ?_
 rintro u37 w41 ⟨_, o38, rfl, q40⟩
 have o38 := Own.base o38 fB.size
 have b_0 := b_0.gr q40
 have fB := fB.gr q40
 refine ol_val (v := u37) (by exact xr_assign rfl rfl) rfl rfl rfl ?_
 refine ol_val (v := .int .i64 0) (by exact xr_assign rfl rfl) rfl rfl rfl ?_
 refine ol_nil ?_
 refine cw_ret ?_
 repeat (first | with_reducible refine thn_r ?_ | with_reducible refine blk_r ?_)
 obtain rfl := Option.some.inj h
 refine fin_ret2 Try.results55 rfl rfl ?_
 exact ⟨_, rfl, u37, o38, rfl, fB⟩
def rickyardlaw15_block.s0 (fu : Nat) (a0 : Int) : (Int × (List Int)) → Option (Sum (List Int) (Int × (List Int))) := fun s10 => (if (decide (s10.1 < 64)) = true then (if 0 ≤ s10.1 ∧ s10.1 < (List.length s10.2 : Int) then some (Sum.inr ((IntKind.i64.wrap (s10.1 + 1)), (List.set s10.2 (Int.toNat s10.1) a0))) else none) else some (Sum.inl (s10.2)))
def rickyardlaw15_block.f (fu : Nat) (a0 : Int) : Option (List Int) := ((loopM (rickyardlaw15_block.s0 fu a0) fu (0, (List.replicate (Int.toNat 64) (0 : Int)))).bind fun e11 => some (e11))
set_option maxRecDepth 100000 in
set_option maxHeartbeats 400000 in
theorem rickyardlaw15_block.ok (fu : Nat) (w : World) (a0 : Int) (r : (List Int)) (h : rickyardlaw15_block.f fu a0 = some r) :
  Calls Try.prog 101 (([.int .u8 a0] : List Value).toArray) w (fun e w' => ∃ v, e = .returned v ∧ ∃ u1 : Value, ∃ o2 : Own (kI .u8) 5 w' w.heap.size u1 r, v = u1 ∧ Gr w w') := by
 unfold rickyardlaw15_block.f at h
 have fB : Gr w w := Fr.refl _ _
 refine calls_cw Try.func101 rfl Try.ntmps101 rfl ?_
 refine cw_seq ?_
 refine cw_region ?_
 refine ol_val (v := .slice none 0 0) (by exact xr_assign rfl rfl) rfl rfl rfl ?_
 refine ol_nil ?_
 refine cw_seq ?_
 refine cw_region ?_
 refine ol_op (by exact opv_make (K := (kI .u8)) (z := (0 : Int)) rfl Try.underlying43 el5 rfl rfl rfl (by decide) (by decide) rfl fB.size) rfl rfl rfl ?_
 rintro v4 w9 ⟨o6, q5, z7⟩
 have fB := fB.gr q5
 refine ol_val (v := v4) (by exact xr_assign rfl rfl) rfl rfl rfl ?_
 refine ol_nil ?_
 refine cw_seq ?_
 refine cw_seq ?_
 refine cw_region ?_
 refine ol_val (v := .int .i64 0) (by exact xr_assign rfl rfl) rfl rfl rfl ?_
 refine ol_nil ?_
 obtain ⟨e11, l12, h13⟩ := bs h
 refine cw_mid (fun ρ' w' => ∃ o6 : Own (kI .u8) 5 w' w.heap.size v4 e11, ρ' 3 = v4 ∧ Gr w w') ?_ ?_
 ·refine cw_block ?_
  refine cw_round (fun (s10 : Int × (List Int)) ρ' w' => ∃ o6 : Own (kI .u8) 5 w' w.heap.size v4 s10.2, ρ' 0 = .int .u8 a0 ∧ ρ' 3 = v4 ∧ ρ' 4 = .int .i64 s10.1 ∧ Gr w w') l12 ?_ ?_
  ·skip
   exact ⟨o6, rfl, rfl, rfl, fB⟩
  rintro s10 x16 ρ14 w15 ⟨o6, e0, e3, e4, fB⟩ h
  unfold rickyardlaw15_block.s0 at h
  refine cw_seq ?_
  refine cw_seq ?_
  refine cw_region ?_
  refine ol_val (v := .int .i64 s10.1) (by exact xr_move rfl e4) rfl rfl rfl ?_
  refine ol_val (v := .bool (decide (s10.1 < 64))) (by exact xr_lss rfl rfl rfl) rfl rfl rfl ?_
  refine ol_nil ?_
  rcases is h with ⟨c17, h⟩ | ⟨c17, h⟩
  ·refine cw_condT rfl c17 ?_
   refine cw_skip ?_
   refine cw_seq ?_
   refine cw_block ?_
   refine cw_region ?_
   refine ol_val (v := v4) (by exact xr_move rfl e3) rfl rfl rfl ?_
   refine ol_val (v := .int .i64 s10.1) (by exact xr_move rfl e4) rfl rfl rfl ?_
   refine ol_val (v := .int .u8 a0) (by exact xr_move rfl e0) rfl rfl rfl ?_
   obtain ⟨g18, h⟩ := gs h
   refine ol_val (v := .pointer (some ⟨(sb v4), so v4 + Int.toNat s10.1 * 1, none⟩)) (by exact xr_indexR (K := (kI .u8)) (v := v4) rfl Try.underlying43 sz5 rfl o6.rd rfl g18.1 g18.2) rfl rfl rfl ?_
   have f20 := o6.geO
   refine ol_op0 (by exact opv_storeRow (z := a0) (xs := cellsOf [Seg.cell (.int .u8 a0)]) rfl sz5 rfl rfl rfl (len_cellsOf _) (one_cellsOf _) o6 g18.1 g18.2 (Spl.whole ((Kd.len _ _).trans (Kd.len _ _).symm)) rfl) rfl rfl ?_
   rintro _ w21 ⟨o6, q19⟩
   have fB := fB.wrO q19 f20
   refine ol_nil ?_
   refine blk_i ?_
   refine cw_region ?_
   refine ol_val (v := .int .i64 s10.1) (by exact xr_move rfl e4) rfl rfl rfl ?_
   refine ol_val (v := .int .i64 (IntKind.i64.wrap (s10.1 + 1))) (by exact xr_add rfl rfl rfl) rfl rfl rfl ?_
   refine ol_val (v := .int .i64 (IntKind.i64.wrap (s10.1 + 1))) (by exact xr_assign rfl rfl) rfl rfl rfl ?_
   refine ol_nil ?_
   obtain rfl := Option.some.inj h
   refine lp_in ?_
   exact ⟨o6, e0, e3, rfl, fB⟩
  refine cw_condF rfl c17 ?_
  refine cw_exit ?_
  repeat (first | with_reducible refine thn_e ?_ | with_reducible refine blk_e rfl ?_)
  obtain rfl := Option.some.inj h
  refine lp_exit ?_
  rintro rfl
  refine thn_x ?_
  exact ⟨o6, e3, fB⟩
 rintro ρ22 w23 ⟨o6, e3, fB⟩
 have h := h13
 refine cw_seq ?_
 refine cw_region ?_
 refine ol_val (v := v4) (by exact xr_move rfl e3) rfl rfl rfl ?_
 refine ol_val (v := v4) (by exact xr_assign rfl rfl) rfl rfl rfl ?_
 refine ol_nil ?_
 refine cw_ret ?_
 repeat (first | with_reducible refine thn_r ?_ | with_reducible refine blk_r ?_)
 obtain rfl := Option.some.inj h
 refine fin_ret1 Try.results101 rfl ?_
 exact ⟨_, rfl, v4, o6, rfl, fB⟩
def rickyardlaw15_awake.f (fu : Nat) : Option Bool := ((pmem_New.f fu 2 : Option ((Option S_pmem_Device) × Int)).bind fun t1 => (Option.elim t1.1 (some (false)) (fun m8 => ((rickyardlaw15_block.f fu 7 : Option (List Int)).bind fun t19 => ((press_Write.f fu m8 1 t19 : Option (Int × S_pmem_Device)).bind fun t26 => ((press_Sure.f fu t26.2 : Option (Int × S_pmem_Device)).bind fun t39 => ((rickyardlaw15_block.f fu 8 : Option (List Int)).bind fun t52 => ((press_Write.f fu t39.2 0 t52 : Option (Int × S_pmem_Device)).bind fun t59 => ((pmem_Device_Crash.f fu t59.2 [] : Option S_pmem_Device).bind fun t72 => ((press_Read.f fu t72 0 : Option ((List Int) × Int)).bind fun t85 => ((press_Read.f fu t72 1 : Option ((List Int) × Int)).bind fun t92 => (((if (decide (t85.2 = 0)) = true then (if (decide (t92.2 = 0)) = true then ((rickyardlaw15_block.f fu 0 : Option (List Int)).bind fun t104 => (if (decide ((List.map toB t85.1) = (List.map toB t104))) = true then ((rickyardlaw15_block.f fu 7 : Option (List Int)).bind fun t111 => some ((decide ((List.map toB t92.1) = (List.map toB t111))))) else some (false))) else some (false)) else some (false)) : Option Bool).bind fun x100 => some (x100)))))))))))))
set_option maxRecDepth 100000 in
set_option maxHeartbeats 400000 in
theorem rickyardlaw15_awake.ok (fu : Nat) (w : World)  (r : Bool) (h : rickyardlaw15_awake.f fu = some r) :
  Calls Try.prog 52 (([] : List Value).toArray) w (fun e w' => ∃ v, e = .returned v ∧ v = .bool r ∧ Gr w w') := by
 unfold rickyardlaw15_awake.f at h
 have fB : Gr w w := Fr.refl _ _
 refine calls_cw Try.func52 rfl Try.ntmps52 rfl ?_
 refine cw_seq ?_
 refine cw_region ?_
 refine ol_val (v := .bool false) (by exact xr_assign rfl rfl) rfl rfl rfl ?_
 refine ol_nil ?_
 refine cw_seq ?_
 refine cw_region ?_
 obtain ⟨t1, k2, h⟩ := bs h
 refine ol_op (by exact opv_call rfl cal26 (ac rfl an) (pmem_New.ok fu _ 2 _ k2)) rfl rfl rfl ?_
 rintro _ w6 ⟨u3, p4, rfl, q5⟩
 rcases en h with ⟨e7, h⟩ | ⟨m8, e7, h⟩
 ·obtain rfl := p4.1 e7
  have fB := fB.gr q5
  refine ol_val (v := .tuple #[.pointer none, .int .i64 t1.2]) (by exact xr_move rfl rfl) rfl rfl rfl ?_
  refine ol_val (v := .pointer none) (by exact xr_extract rfl rfl rfl) rfl rfl rfl ?_
  refine ol_val (v := .int .i64 t1.2) (by exact xr_extract rfl rfl rfl) rfl rfl rfl ?_
  refine ol_val (v := .pointer none) (by exact xr_assign rfl rfl) rfl rfl rfl ?_
  refine ol_val (v := .int .i64 t1.2) (by exact xr_assign rfl rfl) rfl rfl rfl ?_
  refine ol_nil ?_
  refine cw_seq ?_
  refine cw_seq ?_
  refine cw_region ?_
  refine ol_val (v := .pointer none) (by exact xr_move rfl rfl) rfl rfl rfl ?_
  refine ol_val (v := .bool true) (by exact xr_eqP (b := true) rfl Try.underlying30 rfl rfl (by simp) (by simp)) rfl rfl rfl ?_
  refine ol_nil ?_
  refine cw_condT rfl rfl ?_
  refine cw_seq ?_
  refine cw_region ?_
  refine ol_val (v := .bool false) (by exact xr_assign rfl rfl) rfl rfl rfl ?_
  refine ol_nil ?_
  refine cw_ret ?_
  repeat (first | with_reducible refine thn_r ?_ | with_reducible refine blk_r ?_)
  obtain rfl := Option.some.inj h
  refine fin_ret1 Try.results52 rfl ?_
  exact ⟨_, rfl, rfl, fB⟩
 obtain ⟨G9, u13, u16, o14, o17, rfl, z10, b11⟩ := p4.2 _ e7
 have o14 := Own.base o14 fB.size
 have o17 := Own.base o17 fB.size
 have z10 := Nat.le_trans fB.size z10
 have fB := fB.gr q5
 refine ol_val (v := .tuple #[.pointer (some ⟨G9, 0, none⟩), .int .i64 t1.2]) (by exact xr_move rfl rfl) rfl rfl rfl ?_
 refine ol_val (v := .pointer (some ⟨G9, 0, none⟩)) (by exact xr_extract rfl rfl rfl) rfl rfl rfl ?_
 refine ol_val (v := .int .i64 t1.2) (by exact xr_extract rfl rfl rfl) rfl rfl rfl ?_
 refine ol_val (v := .pointer (some ⟨G9, 0, none⟩)) (by exact xr_assign rfl rfl) rfl rfl rfl ?_
 refine ol_val (v := .int .i64 t1.2) (by exact xr_assign rfl rfl) rfl rfl rfl ?_
 refine ol_nil ?_
 refine cw_seq ?_
 refine cw_seq ?_
 refine cw_region ?_
 refine ol_val (v := .pointer (some ⟨G9, 0, none⟩)) (by exact xr_move rfl rfl) rfl rfl rfl ?_
 refine ol_val (v := .bool false) (by exact xr_eqP (b := false) rfl Try.underlying30 rfl rfl (by simp) (by simp)) rfl rfl rfl ?_
 refine ol_nil ?_
 refine cw_condF rfl rfl ?_
 refine cw_skip ?_
 refine cw_seq ?_
 refine cw_region ?_
 refine ol_val (v := .pointer (some ⟨G9, 0, none⟩)) (by exact xr_move rfl rfl) rfl rfl rfl ?_
 obtain ⟨t19, k20, h⟩ := bs h
 refine ol_op (by exact opv_call rfl cal101 (ac rfl an) (rickyardlaw15_block.ok fu _ 7 _ k20)) rfl rfl rfl ?_
 rintro u21 w25 ⟨_, o22, rfl, q24⟩
 have o22 := Own.base o22 fB.size
 have b11 := b11.gr q24
 have o14 := o14.gr q24
 have o17 := o17.gr q24
 have fB := fB.gr q24
 obtain ⟨t26, k27, h⟩ := bs h
 have c37 : ∀ k, (k = G9 ∨ some k = Value.ownBlock u13 ∨ some k = Value.ownBlock u16) → w.heap.size ≤ k := (cv_or (cv_eq z10) (cv_or (cv_own o14.geO) (cv_own o17.geO)))
 refine ol_op (by exact opv_call rfl cal53 (ac rfl (ac rfl (ac rfl an))) (press_Write.ok fu _ m8 G9 u13 (Own.base o14 (Nat.zero_le _)) u16 (Own.base o17 (Nat.zero_le _)) b11 1 t19 u21 (o22.rd) (OffR.own o22 (off_ty b11 o22 (by decide))) (OffRV.own o22 (OffV.ty o22 o14 (by decide))) (OffRV.own o22 (OffV.ty o22 o17 (by decide))) _ k27)) rfl rfl rfl ?_
 rintro _ w38 ⟨u29, u33, o30, m31, o34, m35, rfl, b11, q28⟩
 have o30 := Own.rebase o30 (fun g hg => (m31 g hg).elim (fun x => Nat.le_trans fB.size x) (c37 g))
 have o34 := Own.rebase o34 (fun g hg => (m35 g hg).elim (fun x => Nat.le_trans fB.size x) (c37 g))
 have fB := fB.call q28 (fun k h => .inl (c37 k h))
 refine ol_nil ?_
 refine cw_seq ?_
 refine cw_region ?_
 refine ol_val (v := .pointer (some ⟨G9, 0, none⟩)) (by exact xr_move rfl rfl) rfl rfl rfl ?_
 obtain ⟨t39, k40, h⟩ := bs h
 have c50 : ∀ k, (k = G9 ∨ some k = Value.ownBlock u29 ∨ some k = Value.ownBlock u33) → w.heap.size ≤ k := (cv_or (cv_eq z10) (cv_or (cv_own o30.geO) (cv_own o34.geO)))
 refine ol_op (by exact opv_call rfl cal54 (ac rfl an) (press_Sure.ok fu _ t26.2 G9 u29 (Own.base o30 (Nat.zero_le _)) u33 (Own.base o34 (Nat.zero_le _)) b11 _ k40)) rfl rfl rfl ?_
 rintro _ w51 ⟨u42, u46, o43, m44, o47, m48, rfl, b11, q41⟩
 have o43 := Own.rebase o43 (fun g hg => (m44 g hg).elim (fun x => Nat.le_trans fB.size x) (c50 g))
 have o47 := Own.rebase o47 (fun g hg => (m48 g hg).elim (fun x => Nat.le_trans fB.size x) (c50 g))
 have fB := fB.call q41 (fun k h => .inl (c50 k h))
 refine ol_nil ?_
 refine cw_seq ?_
 refine cw_region ?_
 refine ol_val (v := .pointer (some ⟨G9, 0, none⟩)) (by exact xr_move rfl rfl) rfl rfl rfl ?_
 obtain ⟨t52, k53, h⟩ := bs h
 refine ol_op (by exact opv_call rfl cal101 (ac rfl an) (rickyardlaw15_block.ok fu _ 8 _ k53)) rfl rfl rfl ?_
 rintro u54 w58 ⟨_, o55, rfl, q57⟩
 have o55 := Own.base o55 fB.size
 have b11 := b11.gr q57
 have o43 := o43.gr q57
 have o47 := o47.gr q57
 have fB := fB.gr q57
 obtain ⟨t59, k60, h⟩ := bs h
 have c70 : ∀ k, (k = G9 ∨ some k = Value.ownBlock u42 ∨ some k = Value.ownBlock u46) → w.heap.size ≤ k := (cv_or (cv_eq z10) (cv_or (cv_own o43.geO) (cv_own o47.geO)))
 refine ol_op (by exact opv_call rfl cal53 (ac rfl (ac rfl (ac rfl an))) (press_Write.ok fu _ t39.2 G9 u42 (Own.base o43 (Nat.zero_le _)) u46 (Own.base o47 (Nat.zero_le _)) b11 0 t52 u54 (o55.rd) (OffR.own o55 (off_ty b11 o55 (by decide))) (OffRV.own o55 (OffV.ty o55 o43 (by decide))) (OffRV.own o55 (OffV.ty o55 o47 (by decide))) _ k60)) rfl rfl rfl ?_
 rintro _ w71 ⟨u62, u66, o63, m64, o67, m68, rfl, b11, q61⟩
 have o63 := Own.rebase o63 (fun g hg => (m64 g hg).elim (fun x => Nat.le_trans fB.size x) (c70 g))
 have o67 := Own.rebase o67 (fun g hg => (m68 g hg).elim (fun x => Nat.le_trans fB.size x) (c70 g))
 have fB := fB.call q61 (fun k h => .inl (c70 k h))
 refine ol_nil ?_
 refine cw_seq ?_
 refine cw_region ?_
 refine ol_val (v := .pointer (some ⟨G9, 0, none⟩)) (by exact xr_move rfl rfl) rfl rfl rfl ?_
 obtain ⟨t72, k73, h⟩ := bs h
 have c83 : ∀ k, (k = G9 ∨ some k = Value.ownBlock u62 ∨ some k = Value.ownBlock u66) → w.heap.size ≤ k := (cv_or (cv_eq z10) (cv_or (cv_own o63.geO) (cv_own o67.geO)))
 refine ol_op (by exact opv_call rfl cal32 (ac rfl (ac rfl an)) (pmem_Device_Crash.ok fu _ t59.2 G9 u62 (Own.base o63 (Nat.zero_le _)) u66 (Own.base o67 (Nat.zero_le _)) b11 [] (.slice none 0 0) (Rd.nil (kI .i64) _) (OffR.nil _ _) (OffRV.nilL _ _) (OffRV.nilL _ _) _ k73)) rfl rfl rfl ?_
 rintro _ w84 ⟨u75, u79, o76, m77, o80, m81, rfl, b11, q74⟩
 have o76 := Own.rebase o76 (fun g hg => (m77 g hg).elim (fun x => Nat.le_trans fB.size x) (c83 g))
 have o80 := Own.rebase o80 (fun g hg => (m81 g hg).elim (fun x => Nat.le_trans fB.size x) (c83 g))
 have fB := fB.call q74 (fun k h => .inl (c83 k h))
 refine ol_nil ?_
 refine cw_seq ?_
 refine cw_region ?_
 refine ol_val (v := .pointer (some ⟨G9, 0, none⟩)) (by exact xr_move rfl rfl) rfl rfl rfl ?_
 obtain ⟨t85, k86, h⟩ := bs h
 refine ol_op (by exact opv_call rfl cal55 (ac rfl (ac rfl an)) (press_Read.ok fu _ t72 G9 u75 (o76.rd) u79 (o80.rd) b11 0 _ k86)) rfl rfl rfl ?_
 rintro _ w91 ⟨u87, o88, rfl, q90⟩
 have o88 := Own.base o88 fB.size
 have b11 := b11.gr q90
 have o76 := o76.gr q90
 have o80 := o80.gr q90
 have fB := fB.gr q90
 refine ol_val (v := .tuple #[u87, .int .i64 t85.2]) (by exact xr_move rfl rfl) rfl rfl rfl ?_
 refine ol_val (v := u87) (by exact xr_extract rfl rfl rfl) rfl rfl rfl ?_
 refine ol_val (v := .int .i64 t85.2) (by exact xr_extract rfl rfl rfl) rfl rfl rfl ?_
 refine ol_val (v := u87) (by exact xr_assign rfl rfl) rfl rfl rfl ?_
 refine ol_val (v := .int .i64 t85.2) (by exact xr_assign rfl rfl) rfl rfl rfl ?_
 refine ol_nil ?_
 refine cw_seq ?_
 refine cw_region ?_
 refine ol_val (v := .pointer (some ⟨G9, 0, none⟩)) (by exact xr_move rfl rfl) rfl rfl rfl ?_
 obtain ⟨t92, k93, h⟩ := bs h
 refine ol_op (by exact opv_call rfl cal55 (ac rfl (ac rfl an)) (press_Read.ok fu _ t72 G9 u75 (o76.rd) u79 (o80.rd) b11 1 _ k93)) rfl rfl rfl ?_
 rintro _ w98 ⟨u94, o95, rfl, q97⟩
 have a99 := OffV.call o88 o95
 have o95 := Own.base o95 fB.size
 have o88 := o88.gr q97
 have fB := fB.gr q97
 refine ol_val (v := .tuple #[u94, .int .i64 t92.2]) (by exact xr_move rfl rfl) rfl rfl rfl ?_
 refine ol_val (v := u94) (by exact xr_extract rfl rfl rfl) rfl rfl rfl ?_
 refine ol_val (v := .int .i64 t92.2) (by exact xr_extract rfl rfl rfl) rfl rfl rfl ?_
 refine ol_val (v := u94) (by exact xr_assign rfl rfl) rfl rfl rfl ?_
 refine ol_val (v := .int .i64 t92.2) (by exact xr_assign rfl rfl) rfl rfl rfl ?_
 refine ol_nil ?_
 refine cw_seq ?_
 obtain ⟨x100, j101, h⟩ := bs h
 refine cw_mid (fun ρ' w' => ρ' 0 = .bool x100 ∧ Gr w98 w') ?_ ?_
 ·skip
  rcases is j101 with ⟨c102, j101⟩ | ⟨c102, j101⟩
  ·skip
   rcases is j101 with ⟨c103, j101⟩ | ⟨c103, j101⟩
   ·skip
    obtain ⟨t104, k105, j101⟩ := bs j101
    rcases is j101 with ⟨c110, j101⟩ | ⟨c110, j101⟩
    ·skip
     obtain ⟨t111, k112, j101⟩ := bs j101
     refine cw_drawL 19 [fun vz wz => vz = (.int .i64 t85.2 : Value), fun vz wz => vz = (.bool (decide (t85.2 = 0)) : Value), fun vz wz => vz = (.bool (decide (t85.2 = 0)) : Value), fun vz wz => vz = (.int .i64 t92.2 : Value), fun vz wz => vz = (.bool (decide (t92.2 = 0)) : Value), fun vz wz => vz = (.bool (decide (t92.2 = 0)) : Value), fun vz wz => vz = (.bool (decide (t92.2 = 0)) : Value), fun vz wz => vz = (u87 : Value), fun vz wz => vz = (sv (List.map toB t85.1) : Value), fun vz wz => ∃ u106 : Value, ∃ o107 : Own (kI .u8) 5 wz w.heap.size u106 t104, vz = (u106 : Value), fun vz wz => vz = (sv (List.map toB t104) : Value), fun vz wz => vz = (.bool (decide ((List.map toB t85.1) = (List.map toB t104))) : Value), fun vz wz => vz = (.bool (decide ((List.map toB t85.1) = (List.map toB t104))) : Value), fun vz wz => vz = (.bool (decide ((List.map toB t85.1) = (List.map toB t104))) : Value), fun vz wz => vz = (u94 : Value), fun vz wz => vz = (sv (List.map toB t92.1) : Value), fun vz wz => ∃ u113 : Value, ∃ o114 : Own (kI .u8) 5 wz w.heap.size u113 t111, vz = (u113 : Value), fun vz wz => vz = (sv (List.map toB t111) : Value), fun vz wz => vz = (.bool (decide ((List.map toB t92.1) = (List.map toB t111))) : Value)] mo rfl ⟨fun _ _ _ h _ => h, fun _ _ _ h _ => h, fun _ _ _ h _ => h, fun _ _ _ h _ => h, fun _ _ _ h _ => h, fun _ _ _ h _ => h, fun _ _ _ h _ => h, fun _ _ _ h _ => h, fun _ _ _ h _ => h, fun _ _ _ ⟨u106, o107, h⟩ q => ⟨u106, o107.gr q, h⟩, fun _ _ _ h _ => h, fun _ _ _ h _ => h, fun _ _ _ h _ => h, fun _ _ _ h _ => h, fun _ _ _ h _ => h, fun _ _ _ h _ => h, fun _ _ _ ⟨u113, o114, h⟩ q => ⟨u113, o114.gr q, h⟩, fun _ _ _ h _ => h, fun _ _ _ h _ => h, trivial⟩ ?_ ?_
     ·refine ⟨?_, ?_, ?_, ?_, ?_, ?_, ?_, ?_, ?_, ?_, ?_, ?_, ?_, ?_, ?_, ?_, ?_, ?_, ?_, trivial⟩
      ·intro ρz wz hz hk hd
       exact sk_val (v := .int .i64 t85.2) (by exact xr_move rfl ((hk 4 rfl).trans rfl)) rfl rfl
      ·intro ρz wz hz hk hd
       have d33 := hd 0 rfl 33 rfl
       exact sk_val (v := .bool (decide (t85.2 = 0))) (by exact xr_eqI rfl Try.underlying31 rfl d33 rfl) rfl rfl
      ·intro ρz wz hz hk hd
       have d34 := hd 1 rfl 34 rfl
       exact sk_val (v := .bool (decide (t85.2 = 0))) (by exact xr_move rfl d34) rfl rfl
      ·intro ρz wz hz hk hd
       have d35 := hd 2 rfl 35 rfl
       exact sk_gval (v := .int .i64 t92.2) (by exact xr_move rfl ((hk 6 rfl).trans rfl)) rfl rfl d35 c102 rfl
      ·intro ρz wz hz hk hd
       have d36 := hd 3 rfl 36 rfl
       have d35 := hd 2 rfl 35 rfl
       exact sk_gval (v := .bool (decide (t92.2 = 0))) (by exact xr_eqI rfl Try.underlying31 rfl d36 rfl) rfl rfl d35 c102 rfl
      ·intro ρz wz hz hk hd
       have d35 := hd 2 rfl 35 rfl
       have d37 := hd 4 rfl 37 rfl
       exact sk_val (v := .bool (decide (t92.2 = 0))) (by exact xr_pickT rfl d35 c102 d37) rfl rfl
      ·intro ρz wz hz hk hd
       have d38 := hd 5 rfl 38 rfl
       exact sk_val (v := .bool (decide (t92.2 = 0))) (by exact xr_move rfl d38) rfl rfl
      ·intro ρz wz hz hk hd
       have d39 := hd 6 rfl 39 rfl
       exact sk_gval (v := u87) (by exact xr_move rfl ((hk 3 rfl).trans rfl)) rfl rfl d39 c103 rfl
      ·intro ρz wz hz hk hd
       have d40 := hd 7 rfl 40 rfl
       have d39 := hd 6 rfl 39 rfl
       exact sk_gval (v := sv (List.map toB t85.1)) (by exact xr_toStr rfl Try.underlying43 Try.underlying5 Try.underlying9 d40 (o88.gr hz).rd) rfl rfl d39 c103 rfl
      ·intro ρz wz hz hk hd
       have d39 := hd 6 rfl 39 rfl
       refine sk_gop (by exact opv_call rfl cal101 (ac rfl an) (rickyardlaw15_block.ok fu _ 0 _ k105)) rfl rfl d39 c103 ?_
       rintro u106 wy ⟨_, o107, rfl, q109⟩
       exact ⟨⟨u106, Own.base o107 ((Nat.le_trans fB.size hz.size)), rfl⟩, q109⟩
      ·intro ρz wz hz hk hd
       obtain ⟨u106, o107, d42⟩ := hd 9 rfl 42 rfl
       have d39 := hd 6 rfl 39 rfl
       exact sk_gval (v := sv (List.map toB t104)) (by exact xr_toStr rfl Try.underlying43 Try.underlying5 Try.underlying9 d42 o107.rd) rfl rfl d39 c103 rfl
      ·intro ρz wz hz hk hd
       have d41 := hd 8 rfl 41 rfl
       have d43 := hd 10 rfl 43 rfl
       have d39 := hd 6 rfl 39 rfl
       exact sk_gval (v := .bool (decide ((List.map toB t85.1) = (List.map toB t104)))) (by exact xr_eqStr rfl Try.underlying9 d41 d43) rfl rfl d39 c103 rfl
      ·intro ρz wz hz hk hd
       have d39 := hd 6 rfl 39 rfl
       have d44 := hd 11 rfl 44 rfl
       exact sk_val (v := .bool (decide ((List.map toB t85.1) = (List.map toB t104)))) (by exact xr_pickT rfl d39 c103 d44) rfl rfl
      ·intro ρz wz hz hk hd
       have d45 := hd 12 rfl 45 rfl
       exact sk_val (v := .bool (decide ((List.map toB t85.1) = (List.map toB t104)))) (by exact xr_move rfl d45) rfl rfl
      ·intro ρz wz hz hk hd
       have d46 := hd 13 rfl 46 rfl
       exact sk_gval (v := u94) (by exact xr_move rfl ((hk 5 rfl).trans rfl)) rfl rfl d46 c110 rfl
      ·intro ρz wz hz hk hd
       have d47 := hd 14 rfl 47 rfl
       have d46 := hd 13 rfl 46 rfl
       exact sk_gval (v := sv (List.map toB t92.1)) (by exact xr_toStr rfl Try.underlying43 Try.underlying5 Try.underlying9 d47 (o95.gr hz).rd) rfl rfl d46 c110 rfl
      ·intro ρz wz hz hk hd
       have d46 := hd 13 rfl 46 rfl
       refine sk_gop (by exact opv_call rfl cal101 (ac rfl an) (rickyardlaw15_block.ok fu _ 7 _ k112)) rfl rfl d46 c110 ?_
       rintro u113 wy ⟨_, o114, rfl, q116⟩
       exact ⟨⟨u113, Own.base o114 ((Nat.le_trans fB.size hz.size)), rfl⟩, q116⟩
      ·intro ρz wz hz hk hd
       obtain ⟨u113, o114, d49⟩ := hd 16 rfl 49 rfl
       have d46 := hd 13 rfl 46 rfl
       exact sk_gval (v := sv (List.map toB t111)) (by exact xr_toStr rfl Try.underlying43 Try.underlying5 Try.underlying9 d49 o114.rd) rfl rfl d46 c110 rfl
      intro ρz wz hz hk hd
      have d48 := hd 15 rfl 48 rfl
      have d50 := hd 17 rfl 50 rfl
      have d46 := hd 13 rfl 46 rfl
      exact sk_gval (v := .bool (decide ((List.map toB t92.1) = (List.map toB t111)))) (by exact xr_eqStr rfl Try.underlying9 d48 d50) rfl rfl d46 c110 rfl
     intro ρ117 w118 q119 hk hd
     have e46 := hd 13 rfl 46 rfl
     have e51 := hd 18 rfl 51 rfl
     have fB := fB.gr q119
     refine ol_val (v := .bool (decide ((List.map toB t92.1) = (List.map toB t111)))) (by exact xr_pickT rfl e46 c110 e51) rfl rfl rfl ?_
     refine ol_val (v := .bool (decide ((List.map toB t92.1) = (List.map toB t111)))) (by exact xr_assign rfl rfl) rfl rfl rfl ?_
     refine ol_nil ?_
     obtain rfl := Option.some.inj j101
     refine thn_i ?_
     exact ⟨rfl, q119⟩
    refine cw_drawL 19 [fun vz wz => vz = (.int .i64 t85.2 : Value), fun vz wz => vz = (.bool (decide (t85.2 = 0)) : Value), fun vz wz => vz = (.bool (decide (t85.2 = 0)) : Value), fun vz wz => vz = (.int .i64 t92.2 : Value), fun vz wz => vz = (.bool (decide (t92.2 = 0)) : Value), fun vz wz => vz = (.bool (decide (t92.2 = 0)) : Value), fun vz wz => vz = (.bool (decide (t92.2 = 0)) : Value), fun vz wz => vz = (u87 : Value), fun vz wz => vz = (sv (List.map toB t85.1) : Value), fun vz wz => ∃ u106 : Value, ∃ o107 : Own (kI .u8) 5 wz w.heap.size u106 t104, vz = (u106 : Value), fun vz wz => vz = (sv (List.map toB t104) : Value), fun vz wz => vz = (.bool (decide ((List.map toB t85.1) = (List.map toB t104))) : Value), fun vz wz => vz = (.bool (decide ((List.map toB t85.1) = (List.map toB t104))) : Value), fun vz wz => vz = (.bool (decide ((List.map toB t85.1) = (List.map toB t104))) : Value), fun vz _ => vz = undef, fun vz _ => vz = undef, fun vz _ => vz = undef, fun vz _ => vz = undef, fun vz _ => vz = undef] mo rfl ⟨fun _ _ _ h _ => h, fun _ _ _ h _ => h, fun _ _ _ h _ => h, fun _ _ _ h _ => h, fun _ _ _ h _ => h, fun _ _ _ h _ => h, fun _ _ _ h _ => h, fun _ _ _ h _ => h, fun _ _ _ h _ => h, fun _ _ _ ⟨u106, o107, h⟩ q => ⟨u106, o107.gr q, h⟩, fun _ _ _ h _ => h, fun _ _ _ h _ => h, fun _ _ _ h _ => h, fun _ _ _ h _ => h, fun _ _ _ h _ => h, fun _ _ _ h _ => h, fun _ _ _ h _ => h, fun _ _ _ h _ => h, fun _ _ _ h _ => h, trivial⟩ ?_ ?_
    ·refine ⟨?_, ?_, ?_, ?_, ?_, ?_, ?_, ?_, ?_, ?_, ?_, ?_, ?_, ?_, ?_, ?_, ?_, ?_, ?_, trivial⟩
     ·intro ρz wz hz hk hd
      exact sk_val (v := .int .i64 t85.2) (by exact xr_move rfl ((hk 4 rfl).trans rfl)) rfl rfl
     ·intro ρz wz hz hk hd
      have d33 := hd 0 rfl 33 rfl
      exact sk_val (v := .bool (decide (t85.2 = 0))) (by exact xr_eqI rfl Try.underlying31 rfl d33 rfl) rfl rfl
     ·intro ρz wz hz hk hd
      have d34 := hd 1 rfl 34 rfl
      exact sk_val (v := .bool (decide (t85.2 = 0))) (by exact xr_move rfl d34) rfl rfl
     ·intro ρz wz hz hk hd
      have d35 := hd 2 rfl 35 rfl
      exact sk_gval (v := .int .i64 t92.2) (by exact xr_move rfl ((hk 6 rfl).trans rfl)) rfl rfl d35 c102 rfl
     ·intro ρz wz hz hk hd
      have d36 := hd 3 rfl 36 rfl
      have d35 := hd 2 rfl 35 rfl
      exact sk_gval (v := .bool (decide (t92.2 = 0))) (by exact xr_eqI rfl Try.underlying31 rfl d36 rfl) rfl rfl d35 c102 rfl
     ·intro ρz wz hz hk hd
      have d35 := hd 2 rfl 35 rfl
      have d37 := hd 4 rfl 37 rfl
      exact sk_val (v := .bool (decide (t92.2 = 0))) (by exact xr_pickT rfl d35 c102 d37) rfl rfl
     ·intro ρz wz hz hk hd
      have d38 := hd 5 rfl 38 rfl
      exact sk_val (v := .bool (decide (t92.2 = 0))) (by exact xr_move rfl d38) rfl rfl
     ·intro ρz wz hz hk hd
      have d39 := hd 6 rfl 39 rfl
      exact sk_gval (v := u87) (by exact xr_move rfl ((hk 3 rfl).trans rfl)) rfl rfl d39 c103 rfl
     ·intro ρz wz hz hk hd
      have d40 := hd 7 rfl 40 rfl
      have d39 := hd 6 rfl 39 rfl
      exact sk_gval (v := sv (List.map toB t85.1)) (by exact xr_toStr rfl Try.underlying43 Try.underlying5 Try.underlying9 d40 (o88.gr hz).rd) rfl rfl d39 c103 rfl
     ·intro ρz wz hz hk hd
      have d39 := hd 6 rfl 39 rfl
      refine sk_gop (by exact opv_call rfl cal101 (ac rfl an) (rickyardlaw15_block.ok fu _ 0 _ k105)) rfl rfl d39 c103 ?_
      rintro u106 wy ⟨_, o107, rfl, q109⟩
      exact ⟨⟨u106, Own.base o107 ((Nat.le_trans fB.size hz.size)), rfl⟩, q109⟩
     ·intro ρz wz hz hk hd
      obtain ⟨u106, o107, d42⟩ := hd 9 rfl 42 rfl
      have d39 := hd 6 rfl 39 rfl
      exact sk_gval (v := sv (List.map toB t104)) (by exact xr_toStr rfl Try.underlying43 Try.underlying5 Try.underlying9 d42 o107.rd) rfl rfl d39 c103 rfl
     ·intro ρz wz hz hk hd
      have d41 := hd 8 rfl 41 rfl
      have d43 := hd 10 rfl 43 rfl
      have d39 := hd 6 rfl 39 rfl
      exact sk_gval (v := .bool (decide ((List.map toB t85.1) = (List.map toB t104)))) (by exact xr_eqStr rfl Try.underlying9 d41 d43) rfl rfl d39 c103 rfl
     ·intro ρz wz hz hk hd
      have d39 := hd 6 rfl 39 rfl
      have d44 := hd 11 rfl 44 rfl
      exact sk_val (v := .bool (decide ((List.map toB t85.1) = (List.map toB t104)))) (by exact xr_pickT rfl d39 c103 d44) rfl rfl
     ·intro ρz wz hz hk hd
      have d45 := hd 12 rfl 45 rfl
      exact sk_val (v := .bool (decide ((List.map toB t85.1) = (List.map toB t104)))) (by exact xr_move rfl d45) rfl rfl
     ·intro ρz wz hz hk hd
      have d46 := hd 13 rfl 46 rfl
      exact sk_skip rfl rfl d46 c110 rfl
     ·intro ρz wz hz hk hd
      have d46 := hd 13 rfl 46 rfl
      exact sk_skip rfl rfl d46 c110 rfl
     ·intro ρz wz hz hk hd
      have d46 := hd 13 rfl 46 rfl
      exact sk_skip rfl rfl d46 c110 rfl
     ·intro ρz wz hz hk hd
      have d46 := hd 13 rfl 46 rfl
      exact sk_skip rfl rfl d46 c110 rfl
     intro ρz wz hz hk hd
     have d46 := hd 13 rfl 46 rfl
     exact sk_skip rfl rfl d46 c110 rfl
    intro ρ120 w121 q122 hk hd
    have e46 := hd 13 rfl 46 rfl
    have fB := fB.gr q122
    refine ol_val (v := .bool false) (by exact xr_pickF rfl e46 c110 rfl) rfl rfl rfl ?_
    refine ol_val (v := .bool false) (by exact xr_assign rfl rfl) rfl rfl rfl ?_
    refine ol_nil ?_
    obtain rfl := Option.some.inj j101
    refine thn_i ?_
    exact ⟨rfl, q122⟩
   refine cw_drawL 19 [fun vz wz => vz = (.int .i64 t85.2 : Value), fun vz wz => vz = (.bool (decide (t85.2 = 0)) : Value), fun vz wz => vz = (.bool (decide (t85.2 = 0)) : Value), fun vz wz => vz = (.int .i64 t92.2 : Value), fun vz wz => vz = (.bool (decide (t92.2 = 0)) : Value), fun vz wz => vz = (.bool (decide (t92.2 = 0)) : Value), fun vz wz => vz = (.bool (decide (t92.2 = 0)) : Value), fun vz _ => vz = undef, fun vz _ => vz = undef, fun vz _ => vz = undef, fun vz _ => vz = undef, fun vz _ => vz = undef, fun vz wz => vz = (.bool false : Value), fun vz wz => vz = (.bool false : Value), fun vz _ => vz = undef, fun vz _ => vz = undef, fun vz _ => vz = undef, fun vz _ => vz = undef, fun vz _ => vz = undef] mo rfl ⟨fun _ _ _ h _ => h, fun _ _ _ h _ => h, fun _ _ _ h _ => h, fun _ _ _ h _ => h, fun _ _ _ h _ => h, fun _ _ _ h _ => h, fun _ _ _ h _ => h, fun _ _ _ h _ => h, fun _ _ _ h _ => h, fun _ _ _ h _ => h, fun _ _ _ h _ => h, fun _ _ _ h _ => h, fun _ _ _ h _ => h, fun _ _ _ h _ => h, fun _ _ _ h _ => h, fun _ _ _ h _ => h, fun _ _ _ h _ => h, fun _ _ _ h _ => h, fun _ _ _ h _ => h, trivial⟩ ?_ ?_
   ·refine ⟨?_, ?_, ?_, ?_, ?_, ?_, ?_, ?_, ?_, ?_, ?_, ?_, ?_, ?_, ?_, ?_, ?_, ?_, ?_, trivial⟩
    ·intro ρz wz hz hk hd
     exact sk_val (v := .int .i64 t85.2) (by exact xr_move rfl ((hk 4 rfl).trans rfl)) rfl rfl
    ·intro ρz wz hz hk hd
     have d33 := hd 0 rfl 33 rfl
     exact sk_val (v := .bool (decide (t85.2 = 0))) (by exact xr_eqI rfl Try.underlying31 rfl d33 rfl) rfl rfl
    ·intro ρz wz hz hk hd
     have d34 := hd 1 rfl 34 rfl
     exact sk_val (v := .bool (decide (t85.2 = 0))) (by exact xr_move rfl d34) rfl rfl
    ·intro ρz wz hz hk hd
     have d35 := hd 2 rfl 35 rfl
     exact sk_gval (v := .int .i64 t92.2) (by exact xr_move rfl ((hk 6 rfl).trans rfl)) rfl rfl d35 c102 rfl
    ·intro ρz wz hz hk hd
     have d36 := hd 3 rfl 36 rfl
     have d35 := hd 2 rfl 35 rfl
     exact sk_gval (v := .bool (decide (t92.2 = 0))) (by exact xr_eqI rfl Try.underlying31 rfl d36 rfl) rfl rfl d35 c102 rfl
    ·intro ρz wz hz hk hd
     have d35 := hd 2 rfl 35 rfl
     have d37 := hd 4 rfl 37 rfl
     exact sk_val (v := .bool (decide (t92.2 = 0))) (by exact xr_pickT rfl d35 c102 d37) rfl rfl
    ·intro ρz wz hz hk hd
     have d38 := hd 5 rfl 38 rfl
     exact sk_val (v := .bool (decide (t92.2 = 0))) (by exact xr_move rfl d38) rfl rfl
    ·intro ρz wz hz hk hd
     have d39 := hd 6 rfl 39 rfl
     exact sk_skip rfl rfl d39 c103 rfl
    ·intro ρz wz hz hk hd
     have d39 := hd 6 rfl 39 rfl
     exact sk_skip rfl rfl d39 c103 rfl
    ·intro ρz wz hz hk hd
     have d39 := hd 6 rfl 39 rfl
     exact sk_skip rfl rfl d39 c103 rfl
    ·intro ρz wz hz hk hd
     have d39 := hd 6 rfl 39 rfl
     exact sk_skip rfl rfl d39 c103 rfl
    ·intro ρz wz hz hk hd
     have d39 := hd 6 rfl 39 rfl
     exact sk_skip rfl rfl d39 c103 rfl
    ·intro ρz wz hz hk hd
     have d39 := hd 6 rfl 39 rfl
     exact sk_val (v := .bool false) (by exact xr_pickF rfl d39 c103 rfl) rfl rfl
    ·intro ρz wz hz hk hd
     have d45 := hd 12 rfl 45 rfl
     exact sk_val (v := .bool false) (by exact xr_move rfl d45) rfl rfl
    ·intro ρz wz hz hk hd
     have d46 := hd 13 rfl 46 rfl
     exact sk_skip rfl rfl d46 rfl rfl
    ·intro ρz wz hz hk hd
     have d46 := hd 13 rfl 46 rfl
     exact sk_skip rfl rfl d46 rfl rfl
    ·intro ρz wz hz hk hd
     have d46 := hd 13 rfl 46 rfl
     exact sk_skip rfl rfl d46 rfl rfl
    ·intro ρz wz hz hk hd
     have d46 := hd 13 rfl 46 rfl
     exact sk_skip rfl rfl d46 rfl rfl
    intro ρz wz hz hk hd
    have d46 := hd 13 rfl 46 rfl
    exact sk_skip rfl rfl d46 rfl rfl
   intro ρ123 w124 q125 hk hd
   have e46 := hd 13 rfl 46 rfl
   have fB := fB.gr q125
   refine ol_val (v := .bool false) (by exact xr_pickF rfl e46 rfl rfl) rfl rfl rfl ?_
   refine ol_val (v := .bool false) (by exact xr_assign rfl rfl) rfl rfl rfl ?_
   refine ol_nil ?_
   obtain rfl := Option.some.inj j101
   refine thn_i ?_
   exact ⟨rfl, q125⟩
  refine cw_drawL 19 [fun vz wz => vz = (.int .i64 t85.2 : Value), fun vz wz => vz = (.bool (decide (t85.2 = 0)) : Value), fun vz wz => vz = (.bool (decide (t85.2 = 0)) : Value), fun vz _ => vz = undef, fun vz _ => vz = undef, fun vz wz => vz = (.bool false : Value), fun vz wz => vz = (.bool false : Value), fun vz _ => vz = undef, fun vz _ => vz = undef, fun vz _ => vz = undef, fun vz _ => vz = undef, fun vz _ => vz = undef, fun vz wz => vz = (.bool false : Value), fun vz wz => vz = (.bool false : Value), fun vz _ => vz = undef, fun vz _ => vz = undef, fun vz _ => vz = undef, fun vz _ => vz = undef, fun vz _ => vz = undef] mo rfl ⟨fun _ _ _ h _ => h, fun _ _ _ h _ => h, fun _ _ _ h _ => h, fun _ _ _ h _ => h, fun _ _ _ h _ => h, fun _ _ _ h _ => h, fun _ _ _ h _ => h, fun _ _ _ h _ => h, fun _ _ _ h _ => h, fun _ _ _ h _ => h, fun _ _ _ h _ => h, fun _ _ _ h _ => h, fun _ _ _ h _ => h, fun _ _ _ h _ => h, fun _ _ _ h _ => h, fun _ _ _ h _ => h, fun _ _ _ h _ => h, fun _ _ _ h _ => h, fun _ _ _ h _ => h, trivial⟩ ?_ ?_
  ·refine ⟨?_, ?_, ?_, ?_, ?_, ?_, ?_, ?_, ?_, ?_, ?_, ?_, ?_, ?_, ?_, ?_, ?_, ?_, ?_, trivial⟩
   ·intro ρz wz hz hk hd
    exact sk_val (v := .int .i64 t85.2) (by exact xr_move rfl ((hk 4 rfl).trans rfl)) rfl rfl
   ·intro ρz wz hz hk hd
    have d33 := hd 0 rfl 33 rfl
    exact sk_val (v := .bool (decide (t85.2 = 0))) (by exact xr_eqI rfl Try.underlying31 rfl d33 rfl) rfl rfl
   ·intro ρz wz hz hk hd
    have d34 := hd 1 rfl 34 rfl
    exact sk_val (v := .bool (decide (t85.2 = 0))) (by exact xr_move rfl d34) rfl rfl
   ·intro ρz wz hz hk hd
    have d35 := hd 2 rfl 35 rfl
    exact sk_skip rfl rfl d35 c102 rfl
   ·intro ρz wz hz hk hd
    have d35 := hd 2 rfl 35 rfl
    exact sk_skip rfl rfl d35 c102 rfl
   ·intro ρz wz hz hk hd
    have d35 := hd 2 rfl 35 rfl
    exact sk_val (v := .bool false) (by exact xr_pickF rfl d35 c102 rfl) rfl rfl
   ·intro ρz wz hz hk hd
    have d38 := hd 5 rfl 38 rfl
    exact sk_val (v := .bool false) (by exact xr_move rfl d38) rfl rfl
   ·intro ρz wz hz hk hd
    have d39 := hd 6 rfl 39 rfl
    exact sk_skip rfl rfl d39 rfl rfl
   ·intro ρz wz hz hk hd
    have d39 := hd 6 rfl 39 rfl
    exact sk_skip rfl rfl d39 rfl rfl
   ·intro ρz wz hz hk hd
    have d39 := hd 6 rfl 39 rfl
    exact sk_skip rfl rfl d39 rfl rfl
   ·intro ρz wz hz hk hd
    have d39 := hd 6 rfl 39 rfl
    exact sk_skip rfl rfl d39 rfl rfl
   ·intro ρz wz hz hk hd
    have d39 := hd 6 rfl 39 rfl
    exact sk_skip rfl rfl d39 rfl rfl
   ·intro ρz wz hz hk hd
    have d39 := hd 6 rfl 39 rfl
    exact sk_val (v := .bool false) (by exact xr_pickF rfl d39 rfl rfl) rfl rfl
   ·intro ρz wz hz hk hd
    have d45 := hd 12 rfl 45 rfl
    exact sk_val (v := .bool false) (by exact xr_move rfl d45) rfl rfl
   ·intro ρz wz hz hk hd
    have d46 := hd 13 rfl 46 rfl
    exact sk_skip rfl rfl d46 rfl rfl
   ·intro ρz wz hz hk hd
    have d46 := hd 13 rfl 46 rfl
    exact sk_skip rfl rfl d46 rfl rfl
   ·intro ρz wz hz hk hd
    have d46 := hd 13 rfl 46 rfl
    exact sk_skip rfl rfl d46 rfl rfl
   ·intro ρz wz hz hk hd
    have d46 := hd 13 rfl 46 rfl
    exact sk_skip rfl rfl d46 rfl rfl
   intro ρz wz hz hk hd
   have d46 := hd 13 rfl 46 rfl
   exact sk_skip rfl rfl d46 rfl rfl
  intro ρ126 w127 q128 hk hd
  have e46 := hd 13 rfl 46 rfl
  have fB := fB.gr q128
  refine ol_val (v := .bool false) (by exact xr_pickF rfl e46 rfl rfl) rfl rfl rfl ?_
  refine ol_val (v := .bool false) (by exact xr_assign rfl rfl) rfl rfl rfl ?_
  refine ol_nil ?_
  obtain rfl := Option.some.inj j101
  refine thn_i ?_
  exact ⟨rfl, q128⟩
 rintro ρ129 w130 ⟨e0, q131⟩
 have fB := fB.gr q131
 refine cw_ret ?_
 repeat (first | with_reducible refine thn_r ?_ | with_reducible refine blk_r ?_)
 obtain rfl := Option.some.inj h
 refine fin_ret1 Try.results52 e0 ?_
 exact ⟨_, rfl, rfl, fB⟩
def press_Lasts.f (fu : Nat) (a0 : S_pmem_Device) (a1 : Int) : Option ((List Int) × Bool) := ((press_may.f fu a0 a1 : Option Int).bind fun t4 => (if (!decide (t4 = 0)) = true then some ([], false) else ((pmem_Device_Image.f fu a0 : Option (List Int)).bind fun t15 => (if 0 ≤ (IntKind.i64.wrap (a1 * 64)) ∧ (IntKind.i64.wrap (a1 * 64)) ≤ (List.length t15 : Int) then some ((splL (List.replicate (Int.toNat 64) (0 : Int)) 0 (List.take (List.length (List.replicate (Int.toNat 64) (0 : Int))) (cut t15 (IntKind.i64.wrap (a1 * 64)) (List.length t15 : Int)))), true) else none))))
set_option maxRecDepth 100000 in
set_option maxHeartbeats 400000 in
theorem press_Lasts.ok (fu : Nat) (w : World) (a0 : S_pmem_Device) (G_0 : Nat) (V0_0 : Value) (R0_0 : Rd k_pmem_cell w V0_0 a0.cells) (V0_1 : Value) (R0_1 : Rd (kI .i64) w V0_1 a0.plan.list) (b_0 : Blk w G_0 139 [Seg.cell V0_0 R0_0.one, Seg.cell V0_1 R0_1.one, Seg.cell (.int .i64 a0.plan.at_), Seg.cell (.bool a0.off), Seg.cell (.bool a0.armed), Seg.cell (.int .i64 a0.left), Seg.cell (.int .i64 a0.steps)]) (a1 : Int) (r : (List Int) × Bool) (h : press_Lasts.f fu a0 a1 = some r) :
  Calls Try.prog 56 (([.pointer (some ⟨G_0, 0, none⟩), .int .i64 a1] : List Value).toArray) w (fun e w' => ∃ v, e = .returned v ∧ ∃ u1 : Value, ∃ o2 : Own (kI .u8) 5 w' w.heap.size u1 r.1, v = .tuple #[u1, .bool r.2] ∧ Gr w w') := by
 unfold press_Lasts.f at h
 have fB : Gr w w := Fr.refl _ _
 refine calls_cw Try.func56 rfl Try.ntmps56 rfl ?_
 refine cw_seq ?_
 refine cw_region ?_
 refine ol_val (v := .slice none 0 0) (by exact xr_assign rfl rfl) rfl rfl rfl ?_
 refine ol_val (v := .bool false) (by exact xr_assign rfl rfl) rfl rfl rfl ?_
 refine ol_nil ?_
 refine cw_seq ?_
 refine cw_seq ?_
 refine cw_region ?_
 refine ol_val (v := .pointer (some ⟨G_0, 0, none⟩)) (by exact xr_move rfl rfl) rfl rfl rfl ?_
 refine ol_val (v := .int .i64 a1) (by exact xr_move rfl rfl) rfl rfl rfl ?_
 obtain ⟨t4, k5, h⟩ := bs h
 refine ol_op (by exact opv_call rfl cal102 (ac rfl (ac rfl an)) (press_may.ok fu _ a0 G_0 V0_0 (R0_0.gr fB) V0_1 (R0_1.gr fB) b_0 a1 _ k5)) rfl rfl rfl ?_
 rintro _ w7 ⟨rfl, q6⟩
 have b_0 := b_0.gr q6
 have fB := fB.gr q6
 refine ol_val (v := .bool (!decide (t4 = 0))) (by exact xr_neI rfl Try.underlying31 rfl rfl rfl) rfl rfl rfl ?_
 refine ol_nil ?_
 rcases is h with ⟨c8, h⟩ | ⟨c8, h⟩
 ·refine cw_condT rfl c8 ?_
  refine cw_seq ?_
  refine cw_region ?_
  refine ol_val (v := .slice none 0 0) (by exact xr_assign rfl rfl) rfl rfl rfl ?_
  refine ol_val (v := .bool false) (by exact xr_assign rfl rfl) rfl rfl rfl ?_
  refine ol_nil ?_
  refine cw_ret ?_
  repeat (first | with_reducible refine thn_r ?_ | with_reducible refine blk_r ?_)
  obtain rfl := Option.some.inj h
  refine fin_ret2 Try.results56 rfl rfl ?_
  exact ⟨_, rfl, (.slice none 0 0), Own.nil _ _ _ _, rfl, fB⟩
 refine cw_condF rfl c8 ?_
 refine cw_skip ?_
 refine cw_seq ?_
 refine cw_region ?_
 refine ol_op (by exact opv_make (K := (kI .u8)) (z := (0 : Int)) rfl Try.underlying43 el5 rfl rfl rfl (by decide) (by decide) rfl fB.size) rfl rfl rfl ?_
 rintro v9 w14 ⟨o11, q10, z12⟩
 have b_0 := b_0.gr q10
 have fB := fB.gr q10
 refine ol_val (v := v9) (by exact xr_assign rfl rfl) rfl rfl rfl ?_
 refine ol_nil ?_
 refine cw_seq ?_
 refine cw_region ?_
 refine ol_val (v := v9) (by exact xr_move rfl rfl) rfl rfl rfl ?_
 refine ol_val (v := .pointer (some ⟨G_0, 0, none⟩)) (by exact xr_move rfl rfl) rfl rfl rfl ?_
 obtain ⟨t15, k16, h⟩ := bs h
 refine ol_op (by exact opv_call rfl cal33 (ac rfl an) (pmem_Device_Image.ok fu _ a0 G_0 V0_0 (R0_0.gr fB) V0_1 (R0_1.gr fB) b_0 _ k16)) rfl rfl rfl ?_
 rintro u17 w21 ⟨_, o18, rfl, q20⟩
 have a22 := OffV.call o11 o18
 have o18 := Own.base o18 fB.size
 have b_0 := b_0.gr q20
 have o11 := o11.gr q20
 have fB := fB.gr q20
 refine ol_val (v := .int .i64 a1) (by exact xr_move rfl rfl) rfl rfl rfl ?_
 refine ol_val (v := .int .i64 (IntKind.i64.wrap (a1 * 64))) (by exact xr_mul rfl rfl rfl) rfl rfl rfl ?_
 obtain ⟨g24, h⟩ := gs h
 refine ol_val (v := subv 1 u17 (Int.toNat (IntKind.i64.wrap (a1 * 64))) (List.length t15)) (by exact xr_slice_l (K := (kI .u8)) (v := u17) rfl Try.underlying43 sz5 rfl o18.rd rfl g24.1 g24.2) rfl rfl rfl ?_
 have r23 : Rd (kI .u8) w21 (subv 1 u17 (Int.toNat (IntKind.i64.wrap (a1 * 64))) (List.length t15)) (cut t15 (IntKind.i64.wrap (a1 * 64)) (List.length t15 : Int)) := o18.rd.cut (lo := (IntKind.i64.wrap (a1 * 64))) (hi := (List.length t15 : Int)) g24.1 g24.2 (Int.le_refl _)
 have f26 := off_ty b_0 o11 (by decide)
 have f27 := o11.geO
 refine ol_op (by exact opv_copyRow rfl Try.underlying43 sz5 rfl rfl rfl o11 r23) rfl rfl rfl ?_
 rintro _ w28 ⟨rfl, o11, q25⟩
 have b_0 := b_0.wrO q25 f26
 have fB := fB.wrO q25 f27
 refine ol_nil ?_
 refine cw_seq ?_
 refine cw_region ?_
 refine ol_val (v := v9) (by exact xr_move rfl rfl) rfl rfl rfl ?_
 refine ol_val (v := v9) (by exact xr_assign rfl rfl) rfl rfl rfl ?_
 refine ol_val (v := .bool true) (by exact xr_assign rfl rfl) rfl rfl rfl ?_
 refine ol_nil ?_
 refine cw_ret ?_
 repeat (first | with_reducible refine thn_r ?_ | with_reducible refine blk_r ?_)
 obtain rfl := Option.some.inj h
 refine fin_ret2 Try.results56 rfl rfl ?_
 exact ⟨_, rfl, v9, o11, rfl, fB⟩
def rickyardlaw15_small.s0 (fu : Nat) (a0 : List S_rickyardlaw15_Act) : Int → Option (Sum (Sum Bool Unit) Int) := fun s2 => (if (decide (s2 < (List.length a0 : Int))) = true then (((if 0 ≤ s2 ∧ s2 < (List.length a0 : Int) then (if (decide ((List.length ((ix a0 s2).B) : Int) > 200)) = true then some (true) else (if 0 ≤ s2 ∧ s2 < (List.length a0 : Int) then some ((decide ((List.length (((ix a0 s2).A).L) : Int) > 40))) else none)) else none) : Option Bool).bind fun x11 => (if x11 = true then some (Sum.inl (Sum.inl (false))) else some (Sum.inr ((IntKind.i64.wrap (s2 + 1)))))) else some (Sum.inl (Sum.inr ())))
def rickyardlaw15_small.f (fu : Nat) (a0 : List S_rickyardlaw15_Act) (a1 : Int) : Option Bool := (if (decide ((List.length a0 : Int) > a1)) = true then some (false) else ((loopM (rickyardlaw15_small.s0 fu a0) fu (0)).bind fun e3 => match e3 with | Sum.inl p => some p | Sum.inr x6 => some (true)))
set_option maxRecDepth 100000 in
set_option maxHeartbeats 400000 in
theorem rickyardlaw15_small.ok (fu : Nat) (w : World) (a0 : List S_rickyardlaw15_Act) (V0_0 : Value) (R0_0 : RdN 8 D_rickyardlaw15_Act w V0_0 a0) (a1 : Int) (r : Bool) (h : rickyardlaw15_small.f fu a0 a1 = some r) :
  Calls Try.prog 58 (([V0_0, .int .i64 a1] : List Value).toArray) w (fun e w' => ∃ v, e = .returned v ∧ v = .bool r ∧ Gr w w') := by
 unfold rickyardlaw15_small.f at h
 have fB : Gr w w := Fr.refl _ _
 refine calls_cw Try.func58 rfl Try.ntmps58 rfl ?_
 refine cw_seq ?_
 refine cw_region ?_
 refine ol_val (v := .bool false) (by exact xr_assign rfl rfl) rfl rfl rfl ?_
 refine ol_nil ?_
 refine cw_seq ?_
 refine cw_seq ?_
 refine cw_region ?_
 refine ol_val (v := V0_0) (by exact xr_move rfl rfl) rfl rfl rfl ?_
 refine ol_val (v := .int .i64 (List.length a0 : Int)) (by exact xr_lenN rfl Try.underlying82 rfl (RdN.gr R0_0 D_rickyardlaw15_Act.gr fB)) rfl rfl rfl ?_
 refine ol_val (v := .int .i64 a1) (by exact xr_move rfl rfl) rfl rfl rfl ?_
 refine ol_val (v := .bool (decide ((List.length a0 : Int) > a1))) (by exact xr_gtr rfl rfl rfl) rfl rfl rfl ?_
 refine ol_nil ?_
 rcases is h with ⟨c1, h⟩ | ⟨c1, h⟩
 ·refine cw_condT rfl c1 ?_
  refine cw_seq ?_
  refine cw_region ?_
  refine ol_val (v := .bool false) (by exact xr_assign rfl rfl) rfl rfl rfl ?_
  refine ol_nil ?_
  refine cw_ret ?_
  repeat (first | with_reducible refine thn_r ?_ | with_reducible refine blk_r ?_)
  obtain rfl := Option.some.inj h
  refine fin_ret1 Try.results58 rfl ?_
  exact ⟨_, rfl, rfl, fB⟩
 refine cw_condF rfl c1 ?_
 refine cw_skip ?_
 refine cw_seq ?_
 refine cw_seq ?_
 refine cw_region ?_
 refine ol_val (v := .int .i64 0) (by exact xr_assign rfl rfl) rfl rfl rfl ?_
 refine ol_nil ?_
 obtain ⟨e3, l4, h5⟩ := bs h
 refine cw_mid (fun ρ' w' => ∃ x6, e3 = Sum.inr x6 ∧ Gr w w') ?_ ?_
 ·refine cw_block ?_
  refine cw_round (fun (s2 : Int) ρ' w' => ρ' 0 = V0_0 ∧ ρ' 5 = .int .i64 s2 ∧ Gr w w') l4 ?_ ?_
  ·skip
   exact ⟨rfl, rfl, fB⟩
  rintro s2 x9 ρ7 w8 ⟨e0, e5, fB⟩ h
  unfold rickyardlaw15_small.s0 at h
  refine cw_seq ?_
  refine cw_seq ?_
  refine cw_region ?_
  refine ol_val (v := .int .i64 s2) (by exact xr_move rfl e5) rfl rfl rfl ?_
  refine ol_val (v := V0_0) (by exact xr_move rfl e0) rfl rfl rfl ?_
  refine ol_val (v := .int .i64 (List.length a0 : Int)) (by exact xr_lenN rfl Try.underlying82 rfl (RdN.gr R0_0 D_rickyardlaw15_Act.gr fB)) rfl rfl rfl ?_
  refine ol_val (v := .bool (decide (s2 < (List.length a0 : Int)))) (by exact xr_lss rfl rfl rfl) rfl rfl rfl ?_
  refine ol_nil ?_
  rcases is h with ⟨c10, h⟩ | ⟨c10, h⟩
  ·refine cw_condT rfl c10 ?_
   refine cw_skip ?_
   refine cw_seq ?_
   refine cw_block ?_
   refine cw_seq ?_
   obtain ⟨x11, j12, h⟩ := bs h
   refine cw_mid (fun ρ' w' => ρ' 0 = V0_0 ∧ ρ' 5 = .int .i64 s2 ∧ ρ' 32 = .bool x11 ∧ w8 = w') ?_ ?_
   ·skip
    refine cw_region ?_
    refine ol_val (v := V0_0) (by exact xr_move rfl e0) rfl rfl rfl ?_
    refine ol_val (v := .int .i64 s2) (by exact xr_move rfl e5) rfl rfl rfl ?_
    obtain ⟨g13, j12⟩ := gs j12
    refine ol_val (v := .pointer (some ⟨(sb V0_0), so V0_0 + Int.toNat s2 * 8, none⟩)) (by exact xr_indexN (v := V0_0) rfl Try.underlying82 sz85 rfl (RdN.gr R0_0 D_rickyardlaw15_Act.gr fB) rfl g13.1 g13.2) rfl rfl rfl ?_
    refine ol_val (v := .pointer (some ⟨(sb V0_0), so V0_0 + Int.toNat s2 * 8 + 3, none⟩)) (by exact xr_fieldAddr (p := so V0_0 + Int.toNat s2 * 8) (q := 3) rfl fl85_3 rfl) rfl rfl rfl ?_
    refine ol_val (v := cellAt w (sb V0_0) (so V0_0 + Int.toNat s2 * 8 + 3)) (by exact xr_load1 (v := cellAt w (sb V0_0) (so V0_0 + Int.toNat s2 * 8 + 3)) rfl ag43 rfl (At.segs (ss := [Seg.cell (.int .i64 ((ix a0 s2).Kind)), Seg.cell (.int .i64 ((ix a0 s2).At)), Seg.cell (.int .i64 ((ix a0 s2).I)), Seg.cell (cellAt w (sb V0_0) (so V0_0 + Int.toNat s2 * 8 + 3)) (N_rickyardlaw15_Act R0_0 g13.1 g13.2).2.1.one, Seg.cell (.int .i64 (((ix a0 s2).A).Kind)), Seg.cell (.int .i64 (((ix a0 s2).A).At)), Seg.cell (.int .u64 (((ix a0 s2).A).W)), Seg.cell (cellAt w (sb V0_0) (so V0_0 + Int.toNat s2 * 8 + 7)) (N_rickyardlaw15_Act R0_0 g13.1 g13.2).2.2.one]) (At.gr (N_rickyardlaw15_Act R0_0 g13.1 g13.2).1 fB) 3 1 rfl)) rfl rfl rfl ?_
    refine ol_val (v := .int .i64 (List.length ((ix a0 s2).B) : Int)) (by exact xr_lenR rfl Try.underlying43 rfl ((N_rickyardlaw15_Act R0_0 g13.1 g13.2).2.1.gr fB)) rfl rfl rfl ?_
    refine ol_val (v := .bool (decide ((List.length ((ix a0 s2).B) : Int) > 200))) (by exact xr_gtr rfl rfl rfl) rfl rfl rfl ?_
    refine ol_val (v := .bool (decide ((List.length ((ix a0 s2).B) : Int) > 200))) (by exact xr_move rfl rfl) rfl rfl rfl ?_
    rcases is j12 with ⟨c14, j12⟩ | ⟨c14, j12⟩
    ·skip
     refine ol_gskip rfl rfl rfl rfl rfl c14 ?_
     refine ol_gskip rfl rfl rfl rfl rfl c14 ?_
     refine ol_gskip rfl rfl rfl rfl rfl c14 ?_
     refine ol_gskip rfl rfl rfl rfl rfl c14 ?_
     refine ol_gskip rfl rfl rfl rfl rfl c14 ?_
     refine ol_gskip rfl rfl rfl rfl rfl c14 ?_
     refine ol_gskip rfl rfl rfl rfl rfl c14 ?_
     refine ol_gskip rfl rfl rfl rfl rfl c14 ?_
     refine ol_val (v := .bool true) (by exact xr_pickT rfl rfl c14 rfl) rfl rfl rfl ?_
     refine ol_nil ?_
     obtain rfl := Option.some.inj j12
     refine thn_i ?_
     exact ⟨e0, e5, rfl, rfl⟩
    refine ol_gval (v := V0_0) (by exact xr_move rfl e0) rfl rfl rfl rfl rfl c14 ?_
    refine ol_gval (v := .int .i64 s2) (by exact xr_move rfl e5) rfl rfl rfl rfl rfl c14 ?_
    obtain ⟨g15, j12⟩ := gs j12
    refine ol_gval (v := .pointer (some ⟨(sb V0_0), so V0_0 + Int.toNat s2 * 8, none⟩)) (by exact xr_indexN (v := V0_0) rfl Try.underlying82 sz85 rfl (RdN.gr R0_0 D_rickyardlaw15_Act.gr fB) rfl g15.1 g15.2) rfl rfl rfl rfl rfl c14 ?_
    refine ol_gval (v := .pointer (some ⟨(sb V0_0), so V0_0 + Int.toNat s2 * 8 + 4, none⟩)) (by exact xr_fieldAddr (p := so V0_0 + Int.toNat s2 * 8) (q := 4) rfl fl85_4 rfl) rfl rfl rfl rfl rfl c14 ?_
    refine ol_gval (v := .pointer (some ⟨(sb V0_0), so V0_0 + Int.toNat s2 * 8 + 4 + 3, none⟩)) (by exact xr_fieldAddr (p := so V0_0 + Int.toNat s2 * 8 + 4) (q := 3) rfl fl39_3 rfl) rfl rfl rfl rfl rfl c14 ?_
    refine ol_gval (v := cellAt w (sb V0_0) (so V0_0 + Int.toNat s2 * 8 + 7)) (by exact xr_load1 (v := cellAt w (sb V0_0) (so V0_0 + Int.toNat s2 * 8 + 7)) rfl ag25 rfl (At.segs (ss := [Seg.cell (.int .i64 ((ix a0 s2).Kind)), Seg.cell (.int .i64 ((ix a0 s2).At)), Seg.cell (.int .i64 ((ix a0 s2).I)), Seg.cell (cellAt w (sb V0_0) (so V0_0 + Int.toNat s2 * 8 + 3)) (N_rickyardlaw15_Act R0_0 g15.1 g15.2).2.1.one, Seg.cell (.int .i64 (((ix a0 s2).A).Kind)), Seg.cell (.int .i64 (((ix a0 s2).A).At)), Seg.cell (.int .u64 (((ix a0 s2).A).W)), Seg.cell (cellAt w (sb V0_0) (so V0_0 + Int.toNat s2 * 8 + 7)) (N_rickyardlaw15_Act R0_0 g15.1 g15.2).2.2.one]) (At.gr (N_rickyardlaw15_Act R0_0 g15.1 g15.2).1 fB) 7 1 rfl)) rfl rfl rfl rfl rfl c14 ?_
    refine ol_gval (v := .int .i64 (List.length (((ix a0 s2).A).L) : Int)) (by exact xr_lenR rfl Try.underlying25 rfl ((N_rickyardlaw15_Act R0_0 g15.1 g15.2).2.2.gr fB)) rfl rfl rfl rfl rfl c14 ?_
    refine ol_gval (v := .bool (decide ((List.length (((ix a0 s2).A).L) : Int) > 40))) (by exact xr_gtr rfl rfl rfl) rfl rfl rfl rfl rfl c14 ?_
    refine ol_val (v := .bool (decide ((List.length (((ix a0 s2).A).L) : Int) > 40))) (by exact xr_pickF rfl rfl c14 rfl) rfl rfl rfl ?_
    refine ol_nil ?_
    obtain rfl := Option.some.inj j12
    refine thn_i ?_
    exact ⟨e0, e5, rfl, rfl⟩
   rintro ρ16 _ ⟨e0, e5, e32, rfl⟩
   rcases is h with ⟨c17, h⟩ | ⟨c17, h⟩
   ·refine cw_condT e32 c17 ?_
    refine cw_seq ?_
    refine cw_region ?_
    refine ol_val (v := .bool false) (by exact xr_assign rfl rfl) rfl rfl rfl ?_
    refine ol_nil ?_
    refine cw_ret ?_
    repeat (first | with_reducible refine thn_r ?_ | with_reducible refine blk_r ?_)
    obtain rfl := Option.some.inj h
    refine lp_ret ?_
    rintro rfl
    repeat (first | with_reducible refine thn_r ?_ | with_reducible refine blk_r ?_)
    have h := h5
    obtain rfl := Option.some.inj h
    refine fin_ret1 Try.results58 rfl ?_
    exact ⟨_, rfl, rfl, fB⟩
   refine cw_condF e32 c17 ?_
   refine cw_skip ?_
   refine blk_i ?_
   refine cw_region ?_
   refine ol_val (v := .int .i64 s2) (by exact xr_move rfl e5) rfl rfl rfl ?_
   refine ol_val (v := .int .i64 (IntKind.i64.wrap (s2 + 1))) (by exact xr_add rfl rfl rfl) rfl rfl rfl ?_
   refine ol_val (v := .int .i64 (IntKind.i64.wrap (s2 + 1))) (by exact xr_assign rfl rfl) rfl rfl rfl ?_
   refine ol_nil ?_
   obtain rfl := Option.some.inj h
   refine lp_in ?_
   exact ⟨e0, rfl, fB⟩
  refine cw_condF rfl c10 ?_
  refine cw_exit ?_
  repeat (first | with_reducible refine thn_e ?_ | with_reducible refine blk_e rfl ?_)
  obtain rfl := Option.some.inj h
  refine lp_exit ?_
  rintro rfl
  refine thn_x ?_
  exact ⟨_, rfl, fB⟩
 rintro ρ18 w19 ⟨x6, rfl, fB⟩
 have h := h5
 refine cw_seq ?_
 refine cw_region ?_
 refine ol_val (v := .bool true) (by exact xr_assign rfl rfl) rfl rfl rfl ?_
 refine ol_nil ?_
 refine cw_ret ?_
 repeat (first | with_reducible refine thn_r ?_ | with_reducible refine blk_r ?_)
 obtain rfl := Option.some.inj h
 refine fin_ret1 Try.results58 rfl ?_
 exact ⟨_, rfl, rfl, fB⟩
def rickyardref01_Rest.f (fu : Nat) (a0 : Int) (a1 : Int) : Option Int := (if a1 ≠ 0 then (if a1 ≠ 0 then some ((Int.tmod (IntKind.i64.wrap ((Int.tmod a0 a1) + a1)) a1)) else none) else none)
set_option maxRecDepth 100000 in
set_option maxHeartbeats 400000 in
theorem rickyardref01_Rest.ok (fu : Nat) (w : World) (a0 : Int) (a1 : Int) (r : Int) (h : rickyardref01_Rest.f fu a0 a1 = some r) :
  Calls Try.prog 27 (([.int .i64 a0, .int .i64 a1] : List Value).toArray) w (fun e w' => ∃ v, e = .returned v ∧ v = .int .i64 r ∧ Gr w w') := by
 unfold rickyardref01_Rest.f at h
 have fB : Gr w w := Fr.refl _ _
 refine calls_cw Try.func27 rfl Try.ntmps27 rfl ?_
 refine cw_seq ?_
 refine cw_region ?_
 refine ol_val (v := .int .i64 0) (by exact xr_assign rfl rfl) rfl rfl rfl ?_
 refine ol_nil ?_
 refine cw_seq ?_
 refine cw_region ?_
 refine ol_val (v := .int .i64 a0) (by exact xr_move rfl rfl) rfl rfl rfl ?_
 refine ol_val (v := .int .i64 a1) (by exact xr_move rfl rfl) rfl rfl rfl ?_
 obtain ⟨g1, h⟩ := gs h
 refine ol_val (v := .int .i64 (Int.tmod a0 a1)) (by exact xr_rem rfl rfl rfl g1) rfl rfl rfl ?_
 refine ol_val (v := .int .i64 a1) (by exact xr_move rfl rfl) rfl rfl rfl ?_
 refine ol_val (v := .int .i64 (IntKind.i64.wrap ((Int.tmod a0 a1) + a1))) (by exact xr_add rfl rfl rfl) rfl rfl rfl ?_
 refine ol_val (v := .int .i64 a1) (by exact xr_move rfl rfl) rfl rfl rfl ?_
 obtain ⟨g2, h⟩ := gs h
 refine ol_val (v := .int .i64 (Int.tmod (IntKind.i64.wrap ((Int.tmod a0 a1) + a1)) a1)) (by exact xr_rem rfl rfl rfl g2) rfl rfl rfl ?_
 refine ol_val (v := .int .i64 (Int.tmod (IntKind.i64.wrap ((Int.tmod a0 a1) + a1)) a1)) (by exact xr_assign rfl rfl) rfl rfl rfl ?_
 refine ol_nil ?_
 refine cw_ret ?_
 repeat (first | with_reducible refine thn_r ?_ | with_reducible refine blk_r ?_)
 obtain rfl := Option.some.inj h
 refine fin_ret1 Try.results27 rfl ?_
 exact ⟨_, rfl, rfl, fB⟩
def slices_Clone_1.f (fu : Nat) (a0 : List Int) : Option (List Int) := (if List.length a0 ≤ LIM then some a0 else none)
set_option maxRecDepth 100000 in
theorem slices_Clone_1.ok (fu : Nat) (w : World) (a0 : List Int) (V0_0 : Value) (R0_0 : Rd (kI .i64) w V0_0 a0) (r : List Int) (h : slices_Clone_1.f fu a0 = some r) :
  Calls Try.prog 90 (([V0_0] : List Value).toArray) w (fun e w' => ∃ v, e = .returned v ∧ ∃ u1 : Value, ∃ o2 : Own (kI .i64) 3 w' w.heap.size u1 r, v = u1 ∧ Gr w w') := by
 unfold slices_Clone_1.f at h
 obtain ⟨g, h⟩ := gs h
 obtain rfl := Option.some.inj h
 have fB : Gr w w := Fr.refl _ _
 refine calls_cw Try.func90 rfl Try.ntmps90 rfl ?_
 refine cw_seq ?_
 refine cw_region ?_
 refine ol_val (v := .slice none 0 0) (by exact xr_assign rfl rfl) rfl rfl rfl ?_
 refine ol_nil ?_
 refine cw_seq ?_
 refine cw_seq ?_
 refine cw_region ?_
 refine ol_val (v := V0_0) (by exact xr_move rfl rfl) rfl rfl rfl ?_
 refine ol_val (v := .bool (isNilV V0_0)) (by exact xr_eqNil rfl Try.underlying25 rfl rfl R0_0) rfl rfl rfl ?_
 refine ol_nil ?_
 rcases bt (isNilV V0_0) with c | c
 ·refine cw_condT rfl c ?_
  obtain rfl := R0_0.isNil c
  refine cw_seq ?_
  refine cw_region ?_
  refine ol_val (v := .slice none 0 0) (by exact xr_assign rfl rfl) rfl rfl rfl ?_
  refine ol_nil ?_
  refine cw_ret ?_
  repeat (first | with_reducible refine thn_r ?_ | with_reducible refine blk_r ?_)
  refine fin_ret1 Try.results90 rfl ?_
  exact ⟨_, rfl, _, Own.nil _ _ _ _, rfl, fB⟩
 refine cw_condF rfl c ?_
 refine cw_skip ?_
 refine cw_seq ?_
 refine cw_region ?_
 refine ol_op (by exact opv_buildSlice (K := (kI .i64)) (xs := ([] : List Int)) (vals := []) rfl Try.underlying25 el3 rfl rfl trivial rfl rfl rfl fB.size) rfl rfl rfl ?_
 rintro v1 w1 ⟨o1, q1, z1⟩
 refine ol_val (v := V0_0) (by exact xr_move rfl rfl) rfl rfl rfl ?_
 refine ol_op (by exact opv_append (K := (kI .i64)) rfl Try.underlying25 el3 rfl rfl rfl rfl rfl o1 (R0_0.gr q1) (by simpa using g) (fB.gr q1).size) rfl rfl rfl ?_
 rintro v2 w2 ⟨o2, q2, n2⟩
 refine ol_val (v := v2) (by exact xr_assign rfl rfl) rfl rfl rfl ?_
 refine ol_nil ?_
 refine cw_ret ?_
 repeat (first | with_reducible refine thn_r ?_ | with_reducible refine blk_r ?_)
 refine fin_ret1 Try.results90 rfl ?_
 exact ⟨_, rfl, v2, o2, rfl, (fB.gr q1).wrO q2 o1.geO⟩
def pmem_Device_Plan.f (fu : Nat) (a0 : S_pmem_Device) (a1 : List Int) : Option S_pmem_Device := ((slices_Clone_1.f fu a1 : Option (List Int)).bind fun t7 => some ((⟨a0.cells, (⟨t7, (0 : Int)⟩ : S_pmem_plan), a0.off, a0.armed, a0.left, a0.steps⟩ : S_pmem_Device)))
set_option maxRecDepth 100000 in
set_option maxHeartbeats 400000 in
theorem pmem_Device_Plan.ok (fu : Nat) (w : World) (a0 : S_pmem_Device) (G_0 : Nat) (V0_0 : Value) (O0_0 : Own k_pmem_cell 142 w 0 V0_0 a0.cells) (V0_1 : Value) (O0_1 : Own (kI .i64) 3 w 0 V0_1 a0.plan.list) (b_0 : Blk w G_0 139 [Seg.cell V0_0 O0_0.one, Seg.cell V0_1 O0_1.one, Seg.cell (.int .i64 a0.plan.at_), Seg.cell (.bool a0.off), Seg.cell (.bool a0.armed), Seg.cell (.int .i64 a0.left), Seg.cell (.int .i64 a0.steps)]) (a1 : List Int) (V1_0 : Value) (R1_0 : Rd (kI .i64) w V1_0 a1) (NR1_0_P0 : OffR V1_0 a1 G_0) (NR1_0_R0_0 : OffRV V1_0 a1 V0_0) (NR1_0_R0_1 : OffRV V1_0 a1 V0_1) (r : S_pmem_Device) (h : pmem_Device_Plan.f fu a0 a1 = some r) :
  Calls Try.prog 35 (([.pointer (some ⟨G_0, 0, none⟩), V1_0] : List Value).toArray) w (fun e w' => ∃ v, e = .returned v ∧ ∃ u1 : Value, ∃ u4 : Value, ∃ o2 : Own k_pmem_cell 142 w' 0 u1 r.cells, ∃ m3 : ∀ g, Value.ownBlock u1 = some g → w.heap.size ≤ g ∨ (g = G_0 ∨ some g = Value.ownBlock V0_0 ∨ some g = Value.ownBlock V0_1), ∃ o5 : Own (kI .i64) 3 w' 0 u4 r.plan.list, ∃ m6 : ∀ g, Value.ownBlock u4 = some g → w.heap.size ≤ g ∨ (g = G_0 ∨ some g = Value.ownBlock V0_0 ∨ some g = Value.ownBlock V0_1), v = .tuple #[] ∧ Blk w' G_0 139 [Seg.cell u1 o2.one, Seg.cell u4 o5.one, Seg.cell (.int .i64 r.plan.at_), Seg.cell (.bool r.off), Seg.cell (.bool r.armed), Seg.cell (.int .i64 r.left), Seg.cell (.int .i64 r.steps)] ∧ Fr (fun j => j = G_0 ∨ some j = Value.ownBlock V0_0 ∨ some j = Value.ownBlock V0_1) w w') := by
 unfold pmem_Device_Plan.f at h
 have fB : Fr (fun j => j = G_0 ∨ some j = Value.ownBlock V0_0 ∨ some j = Value.ownBlock V0_1) w w := Fr.refl _ _
 have M0_0 : ∀ g, Value.ownBlock V0_0 = some g → w.heap.size ≤ g ∨ (g = G_0 ∨ some g = Value.ownBlock V0_0 ∨ some g = Value.ownBlock V0_1) := fun g hg => .inr (.inr (.inl hg.symm))
 have M0_1 : ∀ g, Value.ownBlock V0_1 = some g → w.heap.size ≤ g ∨ (g = G_0 ∨ some g = Value.ownBlock V0_0 ∨ some g = Value.ownBlock V0_1) := fun g hg => .inr (.inr (.inr hg.symm))
 refine calls_cw Try.func35 rfl Try.ntmps35 rfl ?_
 refine cw_region ?_
 refine ol_val (v := .pointer (some ⟨G_0, 0, none⟩)) (by exact xr_move rfl rfl) rfl rfl rfl ?_
 refine ol_val (v := V1_0) (by exact xr_move rfl rfl) rfl rfl rfl ?_
 obtain ⟨t7, k8, h⟩ := bs h
 refine ol_op (by exact opv_call rfl cal90 (ac rfl an) (slices_Clone_1.ok fu _ a1 V1_0 (R1_0) _ k8)) rfl rfl rfl ?_
 rintro u9 w13 ⟨_, o10, rfl, q12⟩
 have a14 := OffV.call O0_1 o10
 have o10 := Own.base o10 fB.size
 have b_0 := b_0.gr q12
 have O0_0 := O0_0.gr q12
 have O0_1 := O0_1.gr q12
 have fB := fB.gr q12
 refine ol_val (v := aggV [Seg.cell u9 o10.one, Seg.cell (.int .i64 (0 : Int))]) (by exact xr_buildS (vals := [(0, u9)]) (res := [Seg.cell u9 o10.one, Seg.cell (.int .i64 (0 : Int))]) rfl ⟨rfl, rfl, trivial⟩ Try.underlying137 ze137 pl137 (fl_cons (xs := cellsOf [Seg.cell u9 o10.one]) (cs' := cellsOf [Seg.cell u9 o10.one, Seg.cell (.int .i64 (0 : Int))]) rfl (cells_one o10.one) (len_cellsOf _) (Spl.segs [Seg.cell (.slice none 0 0) (by rfl), Seg.cell (.int .i64 (0 : Int))] 0 1 [Seg.cell u9 o10.one] rfl rfl) fl_nil)) rfl rfl rfl ?_
 refine ol_val (v := .pointer (some ⟨G_0, 0, none⟩)) (by exact xr_nilCheck rfl rfl) rfl rfl rfl ?_
 refine ol_val (v := .pointer (some ⟨G_0, 1, none⟩)) (by exact xr_fieldAddr (p := 0) (q := 1) rfl fl139_1 rfl) rfl rfl rfl ?_
 have f16 := off_ty b_0 O0_0 (by decide)
 have f17 := off_ty b_0 o10 (by decide)
 refine ol_op0 (by exact opv_store (ss' := [Seg.cell V0_0 O0_0.one, Seg.cell u9 o10.one, Seg.cell (.int .i64 (0 : Int)), Seg.cell (.bool a0.off), Seg.cell (.bool a0.armed), Seg.cell (.int .i64 a0.left), Seg.cell (.int .i64 a0.steps)]) (xs := cellsOf [Seg.cell u9 o10.one, Seg.cell (.int .i64 (0 : Int))]) rfl sz137 rfl rfl rfl (len_cellsOf _) (one_cellsOf _) b_0 (Spl.segs _ 1 2 [Seg.cell u9 o10.one, Seg.cell (.int .i64 (0 : Int))] rfl rfl)) rfl rfl ?_
 rintro _ w18 ⟨b_0, q15⟩
 have O0_0 := O0_0.wr q15 f16
 have o10 := o10.wr q15 f17
 have fB := fB.wrS q15 (.inl rfl)
 refine ol_nil ?_
 obtain rfl := Option.some.inj h
 refine fin_end0 Try.results35 ?_
 exact ⟨_, rfl, V0_0, u9, O0_0, M0_0, (Own.base o10 (Nat.zero_le _)), (ms_geO o10), rfl, b_0, fB⟩
def pmem_Device_Arm.f (fu : Nat) (a0 : S_pmem_Device) (a1 : Int) : Option S_pmem_Device := (if a0.off = true then some (a0) else some ((⟨a0.cells, a0.plan, (decide (a1 = 0)), (decide (a1 ≥ 0)), a1, a0.steps⟩ : S_pmem_Device)))
set_option maxRecDepth 100000 in
set_option maxHeartbeats 400000 in
theorem pmem_Device_Arm.ok (fu : Nat) (w : World) (a0 : S_pmem_Device) (G_0 : Nat) (V0_0 : Value) (R0_0 : Rd k_pmem_cell w V0_0 a0.cells) (N0_0 : OffR V0_0 a0.cells G_0) (V0_1 : Value) (R0_1 : Rd (kI .i64) w V0_1 a0.plan.list) (N0_1 : OffR V0_1 a0.plan.list G_0) (b_0 : Blk w G_0 139 [Seg.cell V0_0 R0_0.one, Seg.cell V0_1 R0_1.one, Seg.cell (.int .i64 a0.plan.at_), Seg.cell (.bool a0.off), Seg.cell (.bool a0.armed), Seg.cell (.int .i64 a0.left), Seg.cell (.int .i64 a0.steps)]) (a1 : Int) (r : S_pmem_Device) (h : pmem_Device_Arm.f fu a0 a1 = some r) :
  Calls Try.prog 38 (([.pointer (some ⟨G_0, 0, none⟩), .int .i64 a1] : List Value).toArray) w (fun e w' => ∃ v, e = .returned v ∧ v = .tuple #[] ∧ Blk w' G_0 139 [Seg.cell V0_0 R0_0.one, Seg.cell V0_1 R0_1.one, Seg.cell (.int .i64 r.plan.at_), Seg.cell (.bool r.off), Seg.cell (.bool r.armed), Seg.cell (.int .i64 r.left), Seg.cell (.int .i64 r.steps)] ∧ Fr (fun j => j = G_0) w w') := by
 unfold pmem_Device_Arm.f at h
 have fB : Fr (fun j => j = G_0) w w := Fr.refl _ _
 refine calls_cw Try.func38 rfl Try.ntmps38 rfl ?_
 refine cw_seq ?_
 refine cw_seq ?_
 refine cw_region ?_
 refine ol_val (v := .pointer (some ⟨G_0, 0, none⟩)) (by exact xr_move rfl rfl) rfl rfl rfl ?_
 refine ol_val (v := .pointer (some ⟨G_0, 0, none⟩)) (by exact xr_nilCheck rfl rfl) rfl rfl rfl ?_
 refine ol_val (v := .pointer (some ⟨G_0, 3, none⟩)) (by exact xr_fieldAddr (p := 0) (q := 3) rfl fl139_2 rfl) rfl rfl rfl ?_
 refine ol_val (v := .bool a0.off) (by exact xr_load1 (v := .bool a0.off) rfl ag4 rfl (b_0.seg 3 rfl rfl)) rfl rfl rfl ?_
 refine ol_nil ?_
 rcases is h with ⟨c1, h⟩ | ⟨c1, h⟩
 ·refine cw_condT rfl c1 ?_
  refine cw_ret ?_
  repeat (first | with_reducible refine thn_r ?_ | with_reducible refine blk_r ?_)
  obtain rfl := Option.some.inj h
  refine fin_ret0 Try.results38 ?_
  exact ⟨_, rfl, rfl, b_0, fB⟩
 refine cw_condF rfl c1 ?_
 refine cw_skip ?_
 refine cw_seq ?_
 refine cw_region ?_
 refine ol_val (v := .pointer (some ⟨G_0, 0, none⟩)) (by exact xr_move rfl rfl) rfl rfl rfl ?_
 refine ol_val (v := .pointer (some ⟨G_0, 0, none⟩)) (by exact xr_move rfl rfl) rfl rfl rfl ?_
 refine ol_val (v := .int .i64 a1) (by exact xr_move rfl rfl) rfl rfl rfl ?_
 refine ol_val (v := .bool (decide (a1 ≥ 0))) (by exact xr_geq rfl rfl rfl) rfl rfl rfl ?_
 refine ol_val (v := .int .i64 a1) (by exact xr_move rfl rfl) rfl rfl rfl ?_
 refine ol_val (v := .pointer (some ⟨G_0, 0, none⟩)) (by exact xr_nilCheck rfl rfl) rfl rfl rfl ?_
 refine ol_val (v := .pointer (some ⟨G_0, 4, none⟩)) (by exact xr_fieldAddr (p := 0) (q := 4) rfl fl139_3 rfl) rfl rfl rfl ?_
 refine ol_op0 (by exact opv_store (ss' := [Seg.cell V0_0 R0_0.one, Seg.cell V0_1 R0_1.one, Seg.cell (.int .i64 a0.plan.at_), Seg.cell (.bool a0.off), Seg.cell (.bool (decide (a1 ≥ 0))), Seg.cell (.int .i64 a0.left), Seg.cell (.int .i64 a0.steps)]) (xs := cellsOf [Seg.cell (.bool (decide (a1 ≥ 0)))]) rfl sz4 rfl rfl rfl (len_cellsOf _) (one_cellsOf _) b_0 (Spl.segs _ 4 1 [Seg.cell (.bool (decide (a1 ≥ 0)))] rfl rfl)) rfl rfl ?_
 rintro _ w3 ⟨b_0, q2⟩
 have R0_0 := R0_0.wr q2 N0_0
 have R0_1 := R0_1.wr q2 N0_1
 have fB := fB.wrS q2 rfl
 refine ol_val (v := .pointer (some ⟨G_0, 0, none⟩)) (by exact xr_nilCheck rfl rfl) rfl rfl rfl ?_
 refine ol_val (v := .pointer (some ⟨G_0, 5, none⟩)) (by exact xr_fieldAddr (p := 0) (q := 5) rfl fl139_4 rfl) rfl rfl rfl ?_
 refine ol_op0 (by exact opv_store (ss' := [Seg.cell V0_0 R0_0.one, Seg.cell V0_1 R0_1.one, Seg.cell (.int .i64 a0.plan.at_), Seg.cell (.bool a0.off), Seg.cell (.bool (decide (a1 ≥ 0))), Seg.cell (.int .i64 a1), Seg.cell (.int .i64 a0.steps)]) (xs := cellsOf [Seg.cell (.int .i64 a1)]) rfl sz3 rfl rfl rfl (len_cellsOf _) (one_cellsOf _) b_0 (Spl.segs _ 5 1 [Seg.cell (.int .i64 a1)] rfl rfl)) rfl rfl ?_
 rintro _ w5 ⟨b_0, q4⟩
 have R0_0 := R0_0.wr q4 N0_0
 have R0_1 := R0_1.wr q4 N0_1
 have fB := fB.wrS q4 rfl
 refine ol_nil ?_
 refine cw_region ?_
 refine ol_val (v := .pointer (some ⟨G_0, 0, none⟩)) (by exact xr_move rfl rfl) rfl rfl rfl ?_
 refine ol_val (v := .int .i64 a1) (by exact xr_move rfl rfl) rfl rfl rfl ?_
 refine ol_val (v := .bool (decide (a1 = 0))) (by exact xr_eqI rfl Try.underlying3 rfl rfl rfl) rfl rfl rfl ?_
 refine ol_val (v := .pointer (some ⟨G_0, 0, none⟩)) (by exact xr_nilCheck rfl rfl) rfl rfl rfl ?_
 refine ol_val (v := .pointer (some ⟨G_0, 3, none⟩)) (by exact xr_fieldAddr (p := 0) (q := 3) rfl fl139_2 rfl) rfl rfl rfl ?_
 refine ol_op0 (by exact opv_store (ss' := [Seg.cell V0_0 R0_0.one, Seg.cell V0_1 R0_1.one, Seg.cell (.int .i64 a0.plan.at_), Seg.cell (.bool (decide (a1 = 0))), Seg.cell (.bool (decide (a1 ≥ 0))), Seg.cell (.int .i64 a1), Seg.cell (.int .i64 a0.steps)]) (xs := cellsOf [Seg.cell (.bool (decide (a1 = 0)))]) rfl sz4 rfl rfl rfl (len_cellsOf _) (one_cellsOf _) b_0 (Spl.segs _ 3 1 [Seg.cell (.bool (decide (a1 = 0)))] rfl rfl)) rfl rfl ?_
 rintro _ w7 ⟨b_0, q6⟩
 have R0_0 := R0_0.wr q6 N0_0
 have R0_1 := R0_1.wr q6 N0_1
 have fB := fB.wrS q6 rfl
 refine ol_nil ?_
 obtain rfl := Option.some.inj h
 refine fin_end0 Try.results38 ?_
 exact ⟨_, rfl, rfl, b_0, fB⟩
end Go.Proofs.Ytklhbaghbmndeaa
