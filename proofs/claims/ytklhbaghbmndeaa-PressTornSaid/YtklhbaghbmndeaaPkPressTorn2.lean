/- PressTorn: texts merged, part 2 of 5. The last part proves that the law PressTorn holds for every input. -/
import Derived.Test.YtklhbaghbmndeaaPkPressTorn1
/- (*rickyard/pmem.cell).open: its model, and that the Go function computes it: written by gen.py. -/
set_option linter.unusedVariables false
namespace Go.Proofs.Ytklhbaghbmndeaa
open Go Go.Xw
def pmem_cell_open__r0.f (fu : Nat) (a0 : S_pmem_cell) : Option Bool := some ((if a0.flushed = true then true else (!decide (a0.stored = a0.lasts))))
set_option maxRecDepth 100000 in
set_option maxHeartbeats 400000 in
theorem pmem_cell_open__r0.ok (fu : Nat) (w : World) (a0 : S_pmem_cell) (G_0 p_0 : Nat) (A_0 : At w G_0 p_0 (cellsOf [Seg.cell (.int .u64 a0.lasts), Seg.cell (.int .u64 a0.stored), Seg.cell (.int .u64 a0.sent), Seg.cell (.bool a0.flushed)])) (r : Bool) (h : pmem_cell_open__r0.f fu a0 = some r) :
  Calls Try.prog 86 (([.pointer (some ⟨G_0, p_0, none⟩)] : List Value).toArray) w (fun e w' => ∃ v, e = .returned v ∧ v = .bool r ∧ Gr w w') := by
 unfold pmem_cell_open__r0.f at h
 have fB : Gr w w := Fr.refl _ _
 refine calls_cw Try.func86 rfl Try.ntmps86 rfl ?_
 refine cw_seq ?_
 refine cw_region ?_
 refine ol_val (v := .bool false) (by exact xr_assign rfl rfl) rfl rfl rfl ?_
 refine ol_nil ?_
 refine cw_seq ?_
 refine cw_mid (fun ρ' w' => ρ' 2 = .bool (if a0.flushed = true then true else (!decide (a0.stored = a0.lasts))) ∧ Gr w w') ?_ ?_
 ·skip
  rcases bt a0.flushed with c1 | c1
  ·skip
   refine cw_drawL 14 [fun vz wz => vz = (.pointer (some ⟨G_0, p_0, none⟩) : Value), fun vz wz => vz = (.pointer (some ⟨G_0, p_0, none⟩) : Value), fun vz wz => vz = (.pointer (some ⟨G_0, p_0 + 3, none⟩) : Value), fun vz wz => vz = (.bool a0.flushed : Value), fun vz wz => vz = (.bool a0.flushed : Value), fun vz _ => vz = undef, fun vz _ => vz = undef, fun vz _ => vz = undef, fun vz _ => vz = undef, fun vz _ => vz = undef, fun vz _ => vz = undef, fun vz _ => vz = undef, fun vz _ => vz = undef, fun vz _ => vz = undef] mo rfl ⟨fun _ _ _ h _ => h, fun _ _ _ h _ => h, fun _ _ _ h _ => h, fun _ _ _ h _ => h, fun _ _ _ h _ => h, fun _ _ _ h _ => h, fun _ _ _ h _ => h, fun _ _ _ h _ => h, fun _ _ _ h _ => h, fun _ _ _ h _ => h, fun _ _ _ h _ => h, fun _ _ _ h _ => h, fun _ _ _ h _ => h, fun _ _ _ h _ => h, trivial⟩ ?_ ?_
   ·refine ⟨?_, ?_, ?_, ?_, ?_, ?_, ?_, ?_, ?_, ?_, ?_, ?_, ?_, ?_, trivial⟩
    ·intro ρz wz hz hk hd
     exact sk_val (v := .pointer (some ⟨G_0, p_0, none⟩)) (by exact xr_move rfl ((hk 0 rfl).trans rfl)) rfl rfl
    ·intro ρz wz hz hk hd
     have d3 := hd 0 rfl 3 rfl
     exact sk_val (v := .pointer (some ⟨G_0, p_0, none⟩)) (by exact xr_nilCheck rfl d3) rfl rfl
    ·intro ρz wz hz hk hd
     have d4 := hd 1 rfl 4 rfl
     exact sk_val (v := .pointer (some ⟨G_0, p_0 + 3, none⟩)) (by exact xr_fieldAddr (p := p_0) (q := 3) rfl fl142_3 d4) rfl rfl
    ·intro ρz wz hz hk hd
     have d5 := hd 2 rfl 5 rfl
     exact sk_val (v := .bool a0.flushed) (by exact xr_load1 (v := .bool a0.flushed) rfl ag4 d5 (At.segs (ss := [Seg.cell (.int .u64 a0.lasts), Seg.cell (.int .u64 a0.stored), Seg.cell (.int .u64 a0.sent), Seg.cell (.bool a0.flushed)]) (At.gr A_0 (fB.gr hz)) 3 1 rfl)) rfl rfl
    ·intro ρz wz hz hk hd
     have d6 := hd 3 rfl 6 rfl
     exact sk_val (v := .bool a0.flushed) (by exact xr_move rfl d6) rfl rfl
    ·intro ρz wz hz hk hd
     have d7 := hd 4 rfl 7 rfl
     exact sk_skip rfl rfl d7 c1 rfl
    ·intro ρz wz hz hk hd
     have d7 := hd 4 rfl 7 rfl
     exact sk_skip rfl rfl d7 c1 rfl
    ·intro ρz wz hz hk hd
     have d7 := hd 4 rfl 7 rfl
     exact sk_skip rfl rfl d7 c1 rfl
    ·intro ρz wz hz hk hd
     have d7 := hd 4 rfl 7 rfl
     exact sk_skip rfl rfl d7 c1 rfl
    ·intro ρz wz hz hk hd
     have d7 := hd 4 rfl 7 rfl
     exact sk_skip rfl rfl d7 c1 rfl
    ·intro ρz wz hz hk hd
     have d7 := hd 4 rfl 7 rfl
     exact sk_skip rfl rfl d7 c1 rfl
    ·intro ρz wz hz hk hd
     have d7 := hd 4 rfl 7 rfl
     exact sk_skip rfl rfl d7 c1 rfl
    ·intro ρz wz hz hk hd
     have d7 := hd 4 rfl 7 rfl
     exact sk_skip rfl rfl d7 c1 rfl
    intro ρz wz hz hk hd
    have d7 := hd 4 rfl 7 rfl
    exact sk_skip rfl rfl d7 c1 rfl
   intro ρ2 w3 q4 hk hd
   have e7 := hd 4 rfl 7 rfl
   have fB := fB.gr q4
   refine ol_val (v := .bool true) (by exact xr_pickT rfl e7 c1 rfl) rfl rfl rfl ?_
   refine ol_val (v := .bool true) (by exact xr_assign rfl rfl) rfl rfl rfl ?_
   refine ol_nil ?_
   refine thn_i ?_
   exact ⟨(rfl).trans (congrArg (fun z => (.bool z : Value)) (show true = (if a0.flushed = true then true else (!decide (a0.stored = a0.lasts))) from by rw [ite_t c1])), q4⟩
  refine cw_drawL 14 [fun vz wz => vz = (.pointer (some ⟨G_0, p_0, none⟩) : Value), fun vz wz => vz = (.pointer (some ⟨G_0, p_0, none⟩) : Value), fun vz wz => vz = (.pointer (some ⟨G_0, p_0 + 3, none⟩) : Value), fun vz wz => vz = (.bool a0.flushed : Value), fun vz wz => vz = (.bool a0.flushed : Value), fun vz wz => vz = (.pointer (some ⟨G_0, p_0, none⟩) : Value), fun vz wz => vz = (.pointer (some ⟨G_0, p_0, none⟩) : Value), fun vz wz => vz = (.pointer (some ⟨G_0, p_0 + 1, none⟩) : Value), fun vz wz => vz = (.int .u64 a0.stored : Value), fun vz wz => vz = (.pointer (some ⟨G_0, p_0, none⟩) : Value), fun vz wz => vz = (.pointer (some ⟨G_0, p_0, none⟩) : Value), fun vz wz => vz = (.pointer (some ⟨G_0, p_0 + 0, none⟩) : Value), fun vz wz => vz = (.int .u64 a0.lasts : Value), fun vz wz => vz = (.bool (!decide (a0.stored = a0.lasts)) : Value)] mo rfl ⟨fun _ _ _ h _ => h, fun _ _ _ h _ => h, fun _ _ _ h _ => h, fun _ _ _ h _ => h, fun _ _ _ h _ => h, fun _ _ _ h _ => h, fun _ _ _ h _ => h, fun _ _ _ h _ => h, fun _ _ _ h _ => h, fun _ _ _ h _ => h, fun _ _ _ h _ => h, fun _ _ _ h _ => h, fun _ _ _ h _ => h, fun _ _ _ h _ => h, trivial⟩ ?_ ?_
  ·refine ⟨?_, ?_, ?_, ?_, ?_, ?_, ?_, ?_, ?_, ?_, ?_, ?_, ?_, ?_, trivial⟩
   ·intro ρz wz hz hk hd
    exact sk_val (v := .pointer (some ⟨G_0, p_0, none⟩)) (by exact xr_move rfl ((hk 0 rfl).trans rfl)) rfl rfl
   ·intro ρz wz hz hk hd
    have d3 := hd 0 rfl 3 rfl
    exact sk_val (v := .pointer (some ⟨G_0, p_0, none⟩)) (by exact xr_nilCheck rfl d3) rfl rfl
   ·intro ρz wz hz hk hd
    have d4 := hd 1 rfl 4 rfl
    exact sk_val (v := .pointer (some ⟨G_0, p_0 + 3, none⟩)) (by exact xr_fieldAddr (p := p_0) (q := 3) rfl fl142_3 d4) rfl rfl
   ·intro ρz wz hz hk hd
    have d5 := hd 2 rfl 5 rfl
    exact sk_val (v := .bool a0.flushed) (by exact xr_load1 (v := .bool a0.flushed) rfl ag4 d5 (At.segs (ss := [Seg.cell (.int .u64 a0.lasts), Seg.cell (.int .u64 a0.stored), Seg.cell (.int .u64 a0.sent), Seg.cell (.bool a0.flushed)]) (At.gr A_0 (fB.gr hz)) 3 1 rfl)) rfl rfl
   ·intro ρz wz hz hk hd
    have d6 := hd 3 rfl 6 rfl
    exact sk_val (v := .bool a0.flushed) (by exact xr_move rfl d6) rfl rfl
   ·intro ρz wz hz hk hd
    have d7 := hd 4 rfl 7 rfl
    exact sk_gval (v := .pointer (some ⟨G_0, p_0, none⟩)) (by exact xr_move rfl ((hk 0 rfl).trans rfl)) rfl rfl d7 c1 rfl
   ·intro ρz wz hz hk hd
    have d8 := hd 5 rfl 8 rfl
    have d7 := hd 4 rfl 7 rfl
    exact sk_gval (v := .pointer (some ⟨G_0, p_0, none⟩)) (by exact xr_nilCheck rfl d8) rfl rfl d7 c1 rfl
   ·intro ρz wz hz hk hd
    have d9 := hd 6 rfl 9 rfl
    have d7 := hd 4 rfl 7 rfl
    exact sk_gval (v := .pointer (some ⟨G_0, p_0 + 1, none⟩)) (by exact xr_fieldAddr (p := p_0) (q := 1) rfl fl142_1 d9) rfl rfl d7 c1 rfl
   ·intro ρz wz hz hk hd
    have d10 := hd 7 rfl 10 rfl
    have d7 := hd 4 rfl 7 rfl
    exact sk_gval (v := .int .u64 a0.stored) (by exact xr_load1 (v := .int .u64 a0.stored) rfl ag22 d10 (At.segs (ss := [Seg.cell (.int .u64 a0.lasts), Seg.cell (.int .u64 a0.stored), Seg.cell (.int .u64 a0.sent), Seg.cell (.bool a0.flushed)]) (At.gr A_0 (fB.gr hz)) 1 1 rfl)) rfl rfl d7 c1 rfl
   ·intro ρz wz hz hk hd
    have d7 := hd 4 rfl 7 rfl
    exact sk_gval (v := .pointer (some ⟨G_0, p_0, none⟩)) (by exact xr_move rfl ((hk 0 rfl).trans rfl)) rfl rfl d7 c1 rfl
   ·intro ρz wz hz hk hd
    have d12 := hd 9 rfl 12 rfl
    have d7 := hd 4 rfl 7 rfl
    exact sk_gval (v := .pointer (some ⟨G_0, p_0, none⟩)) (by exact xr_nilCheck rfl d12) rfl rfl d7 c1 rfl
   ·intro ρz wz hz hk hd
    have d13 := hd 10 rfl 13 rfl
    have d7 := hd 4 rfl 7 rfl
    exact sk_gval (v := .pointer (some ⟨G_0, p_0 + 0, none⟩)) (by exact xr_fieldAddr (p := p_0) (q := 0) rfl fl142_0 d13) rfl rfl d7 c1 rfl
   ·intro ρz wz hz hk hd
    have d14 := hd 11 rfl 14 rfl
    have d7 := hd 4 rfl 7 rfl
    exact sk_gval (v := .int .u64 a0.lasts) (by exact xr_load1 (v := .int .u64 a0.lasts) rfl ag22 d14 (At.segs (ss := [Seg.cell (.int .u64 a0.lasts), Seg.cell (.int .u64 a0.stored), Seg.cell (.int .u64 a0.sent), Seg.cell (.bool a0.flushed)]) (At.gr A_0 (fB.gr hz)) 0 1 rfl)) rfl rfl d7 c1 rfl
   intro ρz wz hz hk hd
   have d11 := hd 8 rfl 11 rfl
   have d15 := hd 12 rfl 15 rfl
   have d7 := hd 4 rfl 7 rfl
   exact sk_gval (v := .bool (!decide (a0.stored = a0.lasts))) (by exact xr_neI rfl Try.underlying22 rfl d11 d15) rfl rfl d7 c1 rfl
  intro ρ5 w6 q7 hk hd
  have e7 := hd 4 rfl 7 rfl
  have e16 := hd 13 rfl 16 rfl
  have fB := fB.gr q7
  refine ol_val (v := .bool (!decide (a0.stored = a0.lasts))) (by exact xr_pickF rfl e7 c1 e16) rfl rfl rfl ?_
  refine ol_val (v := .bool (!decide (a0.stored = a0.lasts))) (by exact xr_assign rfl rfl) rfl rfl rfl ?_
  refine ol_nil ?_
  refine thn_i ?_
  exact ⟨(rfl).trans (congrArg (fun z => (.bool z : Value)) (show (!decide (a0.stored = a0.lasts)) = (if a0.flushed = true then true else (!decide (a0.stored = a0.lasts))) from by rw [ite_f c1])), q7⟩
 rintro ρ8 w9 ⟨e2, q10⟩
 have fB := fB.gr q10
 refine cw_ret ?_
 repeat (first | with_reducible refine thn_r ?_ | with_reducible refine blk_r ?_)
 obtain rfl := Option.some.inj h
 refine fin_ret1 Try.results86 e2 ?_
 exact ⟨_, rfl, rfl, fB⟩
end Go.Proofs.Ytklhbaghbmndeaa

/- (*rickyard/pmem.cell).fate: its model, and that the Go function computes it: written by gen.py. -/
set_option linter.unusedVariables false
namespace Go.Proofs.Ytklhbaghbmndeaa
open Go Go.Xw
def pmem_cell_fate__r0.f (fu : Nat) (a0 : S_pmem_cell) (a1 : Int) : Option Int := (((if (decide ((Int.tmod a1 3) = 1)) = true then some ((decide ((Int.tmod a1 3) = 1))) else some ((decide ((Int.tmod a1 3) = (-2))))) : Option Bool).bind fun x1 => (((if x1 = true then (if a0.flushed = true then some (Sum.inl (a0.sent)) else some (Sum.inr ())) else (((if (decide ((Int.tmod a1 3) = 2)) = true then some ((decide ((Int.tmod a1 3) = 2))) else some ((decide ((Int.tmod a1 3) = (-1))))) : Option Bool).bind fun x13 => (if x13 = true then some (Sum.inl (a0.stored)) else some (Sum.inr ())))) : Option (Sum Int Unit)).bind fun x7 => match x7 with | Sum.inl p => some p | Sum.inr x10 => some (a0.lasts)))
set_option maxRecDepth 100000 in
set_option maxHeartbeats 400000 in
theorem pmem_cell_fate__r0.ok (fu : Nat) (w : World) (a0 : S_pmem_cell) (G_0 p_0 : Nat) (A_0 : At w G_0 p_0 (cellsOf [Seg.cell (.int .u64 a0.lasts), Seg.cell (.int .u64 a0.stored), Seg.cell (.int .u64 a0.sent), Seg.cell (.bool a0.flushed)])) (a1 : Int) (r : Int) (h : pmem_cell_fate__r0.f fu a0 a1 = some r) :
  Calls Try.prog 87 (([.pointer (some ⟨G_0, p_0, none⟩), .int .i64 a1] : List Value).toArray) w (fun e w' => ∃ v, e = .returned v ∧ v = .int .u64 r ∧ Gr w w') := by
 unfold pmem_cell_fate__r0.f at h
 have fB : Gr w w := Fr.refl _ _
 refine calls_cw Try.func87 rfl Try.ntmps87 rfl ?_
 refine cw_seq ?_
 refine cw_region ?_
 refine ol_val (v := .int .u64 0) (by exact xr_assign rfl rfl) rfl rfl rfl ?_
 refine ol_nil ?_
 refine cw_seq ?_
 refine cw_seq ?_
 refine cw_region ?_
 refine ol_val (v := .int .i64 a1) (by exact xr_move rfl rfl) rfl rfl rfl ?_
 refine ol_val (v := .int .i64 (Int.tmod a1 3)) (by exact xr_rem rfl rfl rfl (by decide)) rfl rfl rfl ?_
 refine ol_nil ?_
 refine cw_block ?_
 refine cw_seq ?_
 refine cw_seq ?_
 refine cw_region ?_
 refine ol_val (v := .bool (decide ((Int.tmod a1 3) = 1))) (by exact xr_eqI rfl Try.underlying3 rfl rfl rfl) rfl rfl rfl ?_
 refine ol_val (v := .bool (decide ((Int.tmod a1 3) = 1))) (by exact xr_assign rfl rfl) rfl rfl rfl ?_
 refine ol_nil ?_
 obtain ⟨x1, j2, h3⟩ := bs h
 refine cw_mid (fun ρ' w' => ρ' 0 = .pointer (some ⟨G_0, p_0, none⟩) ∧ ρ' 6 = .int .i64 (Int.tmod a1 3) ∧ ρ' 7 = .bool x1 ∧ Gr w w') ?_ ?_
 ·have h := j2
  rcases is h with ⟨c4, h⟩ | ⟨c4, h⟩
  ·refine cw_condT rfl c4 ?_
   refine cw_skip ?_
   obtain rfl := Option.some.inj h
   refine thn_i ?_
   exact ⟨rfl, rfl, rfl, fB⟩
  refine cw_condF rfl c4 ?_
  refine cw_region ?_
  refine ol_val (v := .bool (decide ((Int.tmod a1 3) = (-2)))) (by exact xr_eqI rfl Try.underlying3 rfl rfl rfl) rfl rfl rfl ?_
  refine ol_val (v := .bool (decide ((Int.tmod a1 3) = (-2)))) (by exact xr_assign rfl rfl) rfl rfl rfl ?_
  refine ol_nil ?_
  obtain rfl := Option.some.inj h
  refine thn_i ?_
  exact ⟨rfl, rfl, rfl, fB⟩
 rintro ρ5 w6 ⟨e0, e6, e7, fB⟩
 have h := h3
 obtain ⟨x7, j8, h9⟩ := bs h
 refine cw_mid (fun ρ' w' => ∃ x10, x7 = Sum.inr x10 ∧ ρ' 0 = .pointer (some ⟨G_0, p_0, none⟩) ∧ Gr w w') ?_ ?_
 ·have h := j8
  rcases is h with ⟨c11, h⟩ | ⟨c11, h⟩
  ·refine cw_condT e7 c11 ?_
   refine cw_seq ?_
   refine cw_region ?_
   refine ol_val (v := .pointer (some ⟨G_0, p_0, none⟩)) (by exact xr_move rfl e0) rfl rfl rfl ?_
   refine ol_val (v := .pointer (some ⟨G_0, p_0, none⟩)) (by exact xr_nilCheck rfl rfl) rfl rfl rfl ?_
   refine ol_val (v := .pointer (some ⟨G_0, p_0 + 3, none⟩)) (by exact xr_fieldAddr (p := p_0) (q := 3) rfl fl142_3 rfl) rfl rfl rfl ?_
   refine ol_val (v := .bool a0.flushed) (by exact xr_load1 (v := .bool a0.flushed) rfl ag4 rfl (At.segs (ss := [Seg.cell (.int .u64 a0.lasts), Seg.cell (.int .u64 a0.stored), Seg.cell (.int .u64 a0.sent), Seg.cell (.bool a0.flushed)]) (At.gr A_0 fB) 3 1 rfl)) rfl rfl rfl ?_
   refine ol_nil ?_
   rcases is h with ⟨c12, h⟩ | ⟨c12, h⟩
   ·refine cw_condT rfl c12 ?_
    refine cw_seq ?_
    refine cw_region ?_
    refine ol_val (v := .pointer (some ⟨G_0, p_0, none⟩)) (by exact xr_move rfl e0) rfl rfl rfl ?_
    refine ol_val (v := .pointer (some ⟨G_0, p_0, none⟩)) (by exact xr_nilCheck rfl rfl) rfl rfl rfl ?_
    refine ol_val (v := .pointer (some ⟨G_0, p_0 + 2, none⟩)) (by exact xr_fieldAddr (p := p_0) (q := 2) rfl fl142_2 rfl) rfl rfl rfl ?_
    refine ol_val (v := .int .u64 a0.sent) (by exact xr_load1 (v := .int .u64 a0.sent) rfl ag22 rfl (At.segs (ss := [Seg.cell (.int .u64 a0.lasts), Seg.cell (.int .u64 a0.stored), Seg.cell (.int .u64 a0.sent), Seg.cell (.bool a0.flushed)]) (At.gr A_0 fB) 2 1 rfl)) rfl rfl rfl ?_
    refine ol_val (v := .int .u64 a0.sent) (by exact xr_assign rfl rfl) rfl rfl rfl ?_
    refine ol_nil ?_
    refine cw_ret ?_
    repeat (first | with_reducible refine thn_r ?_ | with_reducible refine blk_r ?_)
    obtain rfl := Option.some.inj h
    have h := h9
    obtain rfl := Option.some.inj h
    refine fin_ret1 Try.results87 rfl ?_
    exact ⟨_, rfl, rfl, fB⟩
   refine cw_condF rfl c12 ?_
   refine cw_skip ?_
   obtain rfl := Option.some.inj h
   refine thn_i ?_
   exact ⟨_, rfl, e0, fB⟩
  refine cw_condF e7 c11 ?_
  refine cw_seq ?_
  refine cw_seq ?_
  refine cw_region ?_
  refine ol_val (v := .bool (decide ((Int.tmod a1 3) = 2))) (by exact xr_eqI rfl Try.underlying3 rfl e6 rfl) rfl rfl rfl ?_
  refine ol_val (v := .bool (decide ((Int.tmod a1 3) = 2))) (by exact xr_assign rfl rfl) rfl rfl rfl ?_
  refine ol_nil ?_
  obtain ⟨x13, j14, h15⟩ := bs h
  refine cw_mid (fun ρ' w' => ρ' 0 = .pointer (some ⟨G_0, p_0, none⟩) ∧ ρ' 18 = .bool x13 ∧ Gr w w') ?_ ?_
  ·have h := j14
   rcases is h with ⟨c16, h⟩ | ⟨c16, h⟩
   ·refine cw_condT rfl c16 ?_
    refine cw_skip ?_
    obtain rfl := Option.some.inj h
    refine thn_i ?_
    exact ⟨e0, rfl, fB⟩
   refine cw_condF rfl c16 ?_
   refine cw_region ?_
   refine ol_val (v := .bool (decide ((Int.tmod a1 3) = (-1)))) (by exact xr_eqI rfl Try.underlying3 rfl e6 rfl) rfl rfl rfl ?_
   refine ol_val (v := .bool (decide ((Int.tmod a1 3) = (-1)))) (by exact xr_assign rfl rfl) rfl rfl rfl ?_
   refine ol_nil ?_
   obtain rfl := Option.some.inj h
   refine thn_i ?_
   exact ⟨e0, rfl, fB⟩
  rintro ρ17 w18 ⟨e0, e18, fB⟩
  have h := h15
  rcases is h with ⟨c19, h⟩ | ⟨c19, h⟩
  ·refine cw_condT e18 c19 ?_
   refine cw_seq ?_
   refine cw_region ?_
   refine ol_val (v := .pointer (some ⟨G_0, p_0, none⟩)) (by exact xr_move rfl e0) rfl rfl rfl ?_
   refine ol_val (v := .pointer (some ⟨G_0, p_0, none⟩)) (by exact xr_nilCheck rfl rfl) rfl rfl rfl ?_
   refine ol_val (v := .pointer (some ⟨G_0, p_0 + 1, none⟩)) (by exact xr_fieldAddr (p := p_0) (q := 1) rfl fl142_1 rfl) rfl rfl rfl ?_
   refine ol_val (v := .int .u64 a0.stored) (by exact xr_load1 (v := .int .u64 a0.stored) rfl ag22 rfl (At.segs (ss := [Seg.cell (.int .u64 a0.lasts), Seg.cell (.int .u64 a0.stored), Seg.cell (.int .u64 a0.sent), Seg.cell (.bool a0.flushed)]) (At.gr A_0 fB) 1 1 rfl)) rfl rfl rfl ?_
   refine ol_val (v := .int .u64 a0.stored) (by exact xr_assign rfl rfl) rfl rfl rfl ?_
   refine ol_nil ?_
   refine cw_ret ?_
   repeat (first | with_reducible refine thn_r ?_ | with_reducible refine blk_r ?_)
   obtain rfl := Option.some.inj h
   have h := h9
   obtain rfl := Option.some.inj h
   refine fin_ret1 Try.results87 rfl ?_
   exact ⟨_, rfl, rfl, fB⟩
  refine cw_condF e18 c19 ?_
  refine cw_skip ?_
  obtain rfl := Option.some.inj h
  refine thn_i ?_
  exact ⟨_, rfl, e0, fB⟩
 rintro ρ20 w21 ⟨x10, rfl, e0, fB⟩
 have h := h9
 refine blk_i ?_
 refine cw_seq ?_
 refine cw_region ?_
 refine ol_val (v := .pointer (some ⟨G_0, p_0, none⟩)) (by exact xr_move rfl e0) rfl rfl rfl ?_
 refine ol_val (v := .pointer (some ⟨G_0, p_0, none⟩)) (by exact xr_nilCheck rfl rfl) rfl rfl rfl ?_
 refine ol_val (v := .pointer (some ⟨G_0, p_0 + 0, none⟩)) (by exact xr_fieldAddr (p := p_0) (q := 0) rfl fl142_0 rfl) rfl rfl rfl ?_
 refine ol_val (v := .int .u64 a0.lasts) (by exact xr_load1 (v := .int .u64 a0.lasts) rfl ag22 rfl (At.segs (ss := [Seg.cell (.int .u64 a0.lasts), Seg.cell (.int .u64 a0.stored), Seg.cell (.int .u64 a0.sent), Seg.cell (.bool a0.flushed)]) (At.gr A_0 fB) 0 1 rfl)) rfl rfl rfl ?_
 refine ol_val (v := .int .u64 a0.lasts) (by exact xr_assign rfl rfl) rfl rfl rfl ?_
 refine ol_nil ?_
 refine cw_ret ?_
 repeat (first | with_reducible refine thn_r ?_ | with_reducible refine blk_r ?_)
 obtain rfl := Option.some.inj h
 refine fin_ret1 Try.results87 rfl ?_
 exact ⟨_, rfl, rfl, fB⟩
end Go.Proofs.Ytklhbaghbmndeaa

/- (*rickyard/pmem.Device).Crash: its model, and that the Go function computes it: written by gen.py. -/
set_option linter.unusedVariables false
namespace Go.Proofs.Ytklhbaghbmndeaa
open Go Go.Xw
def pmem_Device_Crash.s0 (fu : Nat) (a0 : S_pmem_Device) : ((List Int) × Int × (List S_pmem_cell)) → Option (Sum (List S_pmem_cell) ((List Int) × Int × (List S_pmem_cell))) := fun s7 => (if (decide (s7.2.1 < (List.length a0.cells : Int))) = true then (if 0 ≤ s7.2.1 ∧ s7.2.1 < (List.length s7.2.2 : Int) then ((pmem_cell_open__r0.f fu (ix s7.2.2 s7.2.1) : Option Bool).bind fun t21 => (((if t21 = true then (((if (decide ((List.length s7.1 : Int) > 0)) = true then (if (0 : Int) < (List.length s7.1 : Int) then (if (1 : Int) ≤ (List.length s7.1 : Int) then some ((cut s7.1 1 (List.length s7.1 : Int)), (ix s7.1 0)) else none) else none) else some (s7.1, 0)) : Option ((List Int) × Int)).bind fun x34 => ((pmem_cell_fate__r0.f fu (ix s7.2.2 s7.2.1) x34.2 : Option Int).bind fun t52 => ((pmem_cell_keep__i0.f fu (ix s7.2.2 s7.2.1) t52 : Option S_pmem_cell).bind fun t62 => some (x34.1, (List.set s7.2.2 (Int.toNat s7.2.1) t62))))) else some (s7.1, s7.2.2)) : Option ((List Int) × (List S_pmem_cell))).bind fun x25 => (if s7.2.1 < (List.length x25.2 : Int) then (if s7.2.1 < (List.length x25.2 : Int) then some (Sum.inr (x25.1, (IntKind.i64.wrap (s7.2.1 + 1)), (List.set x25.2 (Int.toNat s7.2.1) (⟨(ix x25.2 s7.2.1).lasts, (ix x25.2 s7.2.1).lasts, (ix x25.2 s7.2.1).sent, (ix x25.2 s7.2.1).flushed⟩ : S_pmem_cell)))) else none) else none))) else none) else some (Sum.inl (s7.2.2)))
def pmem_Device_Crash.f (fu : Nat) (a0 : S_pmem_Device) (a1 : List Int) : Option S_pmem_Device := ((loopM (pmem_Device_Crash.s0 fu a0) fu (a1, 0, a0.cells)).bind fun e8 => some ((⟨e8, (⟨[], (0 : Int)⟩ : S_pmem_plan), false, false, 0, a0.steps⟩ : S_pmem_Device)))
set_option maxRecDepth 100000 in
set_option maxHeartbeats 400000 in
theorem pmem_Device_Crash.ok (fu : Nat) (w : World) (a0 : S_pmem_Device) (G_0 : Nat) (V0_0 : Value) (O0_0 : Own k_pmem_cell 142 w 0 V0_0 a0.cells) (V0_1 : Value) (O0_1 : Own (kI .i64) 3 w 0 V0_1 a0.plan.list) (b_0 : Blk w G_0 139 [Seg.cell V0_0 O0_0.one, Seg.cell V0_1 O0_1.one, Seg.cell (.int .i64 a0.plan.at_), Seg.cell (.bool a0.off), Seg.cell (.bool a0.armed), Seg.cell (.int .i64 a0.left), Seg.cell (.int .i64 a0.steps)]) (a1 : List Int) (V1_0 : Value) (R1_0 : Rd (kI .i64) w V1_0 a1) (NR1_0_P0 : OffR V1_0 a1 G_0) (NR1_0_R0_0 : OffRV V1_0 a1 V0_0) (NR1_0_R0_1 : OffRV V1_0 a1 V0_1) (r : S_pmem_Device) (h : pmem_Device_Crash.f fu a0 a1 = some r) :
  Calls Try.prog 32 (([.pointer (some ⟨G_0, 0, none⟩), V1_0] : List Value).toArray) w (fun e w' => ∃ v, e = .returned v ∧ ∃ u1 : Value, ∃ u4 : Value, ∃ o2 : Own k_pmem_cell 142 w' 0 u1 r.cells, ∃ m3 : ∀ g, Value.ownBlock u1 = some g → w.heap.size ≤ g ∨ (g = G_0 ∨ some g = Value.ownBlock V0_0 ∨ some g = Value.ownBlock V0_1), ∃ o5 : Own (kI .i64) 3 w' 0 u4 r.plan.list, ∃ m6 : ∀ g, Value.ownBlock u4 = some g → w.heap.size ≤ g ∨ (g = G_0 ∨ some g = Value.ownBlock V0_0 ∨ some g = Value.ownBlock V0_1), v = .tuple #[] ∧ Blk w' G_0 139 [Seg.cell u1 o2.one, Seg.cell u4 o5.one, Seg.cell (.int .i64 r.plan.at_), Seg.cell (.bool r.off), Seg.cell (.bool r.armed), Seg.cell (.int .i64 r.left), Seg.cell (.int .i64 r.steps)] ∧ Fr (fun j => j = G_0 ∨ some j = Value.ownBlock V0_0 ∨ some j = Value.ownBlock V0_1) w w') := by
 unfold pmem_Device_Crash.f at h
 have fB : Fr (fun j => j = G_0 ∨ some j = Value.ownBlock V0_0 ∨ some j = Value.ownBlock V0_1) w w := Fr.refl _ _
 have M0_0 : ∀ g, Value.ownBlock V0_0 = some g → w.heap.size ≤ g ∨ (g = G_0 ∨ some g = Value.ownBlock V0_0 ∨ some g = Value.ownBlock V0_1) := fun g hg => .inr (.inr (.inl hg.symm))
 have M0_1 : ∀ g, Value.ownBlock V0_1 = some g → w.heap.size ≤ g ∨ (g = G_0 ∨ some g = Value.ownBlock V0_0 ∨ some g = Value.ownBlock V0_1) := fun g hg => .inr (.inr (.inr hg.symm))
 refine calls_cw Try.func32 rfl Try.ntmps32 rfl ?_
 refine cw_seq ?_
 refine cw_seq ?_
 refine cw_region ?_
 refine ol_val (v := .pointer (some ⟨G_0, 0, none⟩)) (by exact xr_move rfl rfl) rfl rfl rfl ?_
 refine ol_val (v := .pointer (some ⟨G_0, 0, none⟩)) (by exact xr_nilCheck rfl rfl) rfl rfl rfl ?_
 refine ol_val (v := .pointer (some ⟨G_0, 0, none⟩)) (by exact xr_fieldAddr (p := 0) (q := 0) rfl fl139_0 rfl) rfl rfl rfl ?_
 refine ol_val (v := V0_0) (by exact xr_load1 (v := V0_0) rfl ag135 rfl (b_0.seg 0 rfl rfl)) rfl rfl rfl ?_
 refine ol_val (v := .int .i64 (List.length a0.cells : Int)) (by exact xr_lenR rfl Try.underlying135 rfl O0_0.rd) rfl rfl rfl ?_
 refine ol_val (v := .int .i64 0) (by exact xr_move rfl rfl) rfl rfl rfl ?_
 refine ol_nil ?_
 obtain ⟨e8, l9, h10⟩ := bs h
 refine cw_mid (fun ρ' w' => ∃ O0_0 : Own k_pmem_cell 142 w' 0 V0_0 e8, ∃ O0_1 : Own (kI .i64) 3 w' 0 V0_1 a0.plan.list, ρ' 0 = .pointer (some ⟨G_0, 0, none⟩) ∧ Blk w' G_0 139 [Seg.cell V0_0 O0_0.one, Seg.cell V0_1 O0_1.one, Seg.cell (.int .i64 a0.plan.at_), Seg.cell (.bool a0.off), Seg.cell (.bool a0.armed), Seg.cell (.int .i64 a0.left), Seg.cell (.int .i64 a0.steps)] ∧ Fr (fun j => j = G_0 ∨ some j = Value.ownBlock V0_0 ∨ some j = Value.ownBlock V0_1) w w') ?_ ?_
 ·refine cw_block ?_
  refine cw_round (fun (s7 : (List Int) × Int × (List S_pmem_cell)) ρ' w' => ∃ v11 : Value, ∃ O0_0 : Own k_pmem_cell 142 w' 0 V0_0 s7.2.2, ∃ O0_1 : Own (kI .i64) 3 w' 0 V0_1 a0.plan.list, ∃ r12 : Rd (kI .i64) w' v11 s7.1, OffR v11 s7.1 G_0 ∧ OffRV v11 s7.1 V0_0 ∧ OffRV v11 s7.1 V0_1 ∧ ρ' 0 = .pointer (some ⟨G_0, 0, none⟩) ∧ ρ' 1 = v11 ∧ ρ' 11 = .int .i64 (List.length a0.cells : Int) ∧ ρ' 12 = .int .i64 s7.2.1 ∧ Blk w' G_0 139 [Seg.cell V0_0 O0_0.one, Seg.cell V0_1 O0_1.one, Seg.cell (.int .i64 a0.plan.at_), Seg.cell (.bool a0.off), Seg.cell (.bool a0.armed), Seg.cell (.int .i64 a0.left), Seg.cell (.int .i64 a0.steps)] ∧ Fr (fun j => j = G_0 ∨ some j = Value.ownBlock V0_0 ∨ some j = Value.ownBlock V0_1) w w') l9 ?_ ?_
  ·skip
   exact ⟨V1_0, O0_0, O0_1, R1_0, NR1_0_P0, NR1_0_R0_0, NR1_0_R0_1, rfl, rfl, rfl, rfl, b_0, fB⟩
  rintro s7 x18 ρ16 w17 ⟨v11, O0_0, O0_1, r12, a13, a14, a15, e0, e1, e11, e12, b_0, fB⟩ h
  unfold pmem_Device_Crash.s0 at h
  refine cw_seq ?_
  refine cw_region ?_
  refine ol_val (v := .bool (decide (s7.2.1 < (List.length a0.cells : Int)))) (by exact xr_lss rfl e12 e11) rfl rfl rfl ?_
  refine ol_nil ?_
  refine cw_seq ?_
  rcases is h with ⟨c19, h⟩ | ⟨c19, h⟩
  ·refine cw_condT rfl c19 ?_
   refine cw_skip ?_
   refine cw_seq ?_
   refine cw_block ?_
   refine cw_seq ?_
   refine cw_region ?_
   refine ol_val (v := .int .i64 s7.2.1) (by exact xr_move rfl e12) rfl rfl rfl ?_
   refine ol_val (v := .int .i64 s7.2.1) (by exact xr_assign rfl rfl) rfl rfl rfl ?_
   refine ol_nil ?_
   refine cw_seq ?_
   refine cw_region ?_
   refine ol_val (v := .pointer (some ⟨G_0, 0, none⟩)) (by exact xr_move rfl e0) rfl rfl rfl ?_
   refine ol_val (v := .pointer (some ⟨G_0, 0, none⟩)) (by exact xr_nilCheck rfl rfl) rfl rfl rfl ?_
   refine ol_val (v := .pointer (some ⟨G_0, 0, none⟩)) (by exact xr_fieldAddr (p := 0) (q := 0) rfl fl139_0 rfl) rfl rfl rfl ?_
   refine ol_val (v := V0_0) (by exact xr_load1 (v := V0_0) rfl ag135 rfl (b_0.seg 0 rfl rfl)) rfl rfl rfl ?_
   refine ol_val (v := .int .i64 s7.2.1) (by exact xr_move rfl rfl) rfl rfl rfl ?_
   obtain ⟨g20, h⟩ := gs h
   refine ol_val (v := .pointer (some ⟨(sb V0_0), so V0_0 + Int.toNat s7.2.1 * 4, none⟩)) (by exact xr_indexR (K := k_pmem_cell) (v := V0_0) rfl Try.underlying135 sz142 rfl O0_0.rd rfl g20.1 g20.2) rfl rfl rfl ?_
   refine ol_val (v := .pointer (some ⟨(sb V0_0), so V0_0 + Int.toNat s7.2.1 * 4, none⟩)) (by exact xr_assign rfl rfl) rfl rfl rfl ?_
   refine ol_nil ?_
   refine cw_seq ?_
   refine cw_seq ?_
   refine cw_region ?_
   refine ol_val (v := .pointer (some ⟨(sb V0_0), so V0_0 + Int.toNat s7.2.1 * 4, none⟩)) (by exact xr_move rfl rfl) rfl rfl rfl ?_
   obtain ⟨t21, k22, h⟩ := bs h
   refine ol_op (by exact opv_call rfl cal86 (ac rfl an) (pmem_cell_open__r0.ok fu _ (ix s7.2.2 s7.2.1) (sb V0_0) (so V0_0 + Int.toNat s7.2.1 * 4) (show At _ _ _ (cellsOf [Seg.cell (.int .u64 ((ix s7.2.2 s7.2.1).lasts)), Seg.cell (.int .u64 ((ix s7.2.2 s7.2.1).stored)), Seg.cell (.int .u64 ((ix s7.2.2 s7.2.1).sent)), Seg.cell (.bool ((ix s7.2.2 s7.2.1).flushed))]) from (O0_0.rd.elem g20.1 g20.2)) _ k22)) rfl rfl rfl ?_
   rintro _ w24 ⟨rfl, q23⟩
   have b_0 := b_0.gr q23
   have O0_0 := O0_0.gr q23
   have O0_1 := O0_1.gr q23
   have r12 := r12.gr q23
   have fB := fB.gr q23
   refine ol_nil ?_
   obtain ⟨x25, j26, h27⟩ := bs h
   refine cw_mid (fun ρ' w' => ∃ v28 : Value, ∃ O0_0 : Own k_pmem_cell 142 w' 0 V0_0 x25.2, ∃ O0_1 : Own (kI .i64) 3 w' 0 V0_1 a0.plan.list, ∃ r29 : Rd (kI .i64) w' v28 x25.1, OffR v28 x25.1 G_0 ∧ OffRV v28 x25.1 V0_0 ∧ OffRV v28 x25.1 V0_1 ∧ ρ' 0 = .pointer (some ⟨G_0, 0, none⟩) ∧ ρ' 1 = v28 ∧ ρ' 5 = .pointer (some ⟨(sb V0_0), so V0_0 + Int.toNat s7.2.1 * 4, none⟩) ∧ ρ' 11 = .int .i64 (List.length a0.cells : Int) ∧ ρ' 12 = .int .i64 s7.2.1 ∧ Blk w' G_0 139 [Seg.cell V0_0 O0_0.one, Seg.cell V0_1 O0_1.one, Seg.cell (.int .i64 a0.plan.at_), Seg.cell (.bool a0.off), Seg.cell (.bool a0.armed), Seg.cell (.int .i64 a0.left), Seg.cell (.int .i64 a0.steps)] ∧ Fr (fun j => j = G_0 ∨ some j = Value.ownBlock V0_0 ∨ some j = Value.ownBlock V0_1) w w') ?_ ?_
   ·have h := j26
    rcases is h with ⟨c33, h⟩ | ⟨c33, h⟩
    ·refine cw_condT rfl c33 ?_
     refine cw_seq ?_
     refine cw_region ?_
     refine ol_val (v := .int .i64 0) (by exact xr_assign rfl rfl) rfl rfl rfl ?_
     refine ol_nil ?_
     refine cw_seq ?_
     refine cw_seq ?_
     refine cw_region ?_
     refine ol_val (v := v11) (by exact xr_move rfl e1) rfl rfl rfl ?_
     refine ol_val (v := .int .i64 (List.length s7.1 : Int)) (by exact xr_lenR rfl Try.underlying25 rfl r12) rfl rfl rfl ?_
     refine ol_val (v := .bool (decide ((List.length s7.1 : Int) > 0))) (by exact xr_gtr rfl rfl rfl) rfl rfl rfl ?_
     refine ol_nil ?_
     obtain ⟨x34, j35, h36⟩ := bs h
     refine cw_mid (fun ρ' w' => ∃ v37 : Value, ∃ O0_0 : Own k_pmem_cell 142 w' 0 V0_0 s7.2.2, ∃ O0_1 : Own (kI .i64) 3 w' 0 V0_1 a0.plan.list, ∃ r38 : Rd (kI .i64) w' v37 x34.1, OffR v37 x34.1 G_0 ∧ OffRV v37 x34.1 V0_0 ∧ OffRV v37 x34.1 V0_1 ∧ ρ' 0 = .pointer (some ⟨G_0, 0, none⟩) ∧ ρ' 1 = v37 ∧ ρ' 5 = .pointer (some ⟨(sb V0_0), so V0_0 + Int.toNat s7.2.1 * 4, none⟩) ∧ ρ' 6 = .int .i64 x34.2 ∧ ρ' 11 = .int .i64 (List.length a0.cells : Int) ∧ ρ' 12 = .int .i64 s7.2.1 ∧ Blk w' G_0 139 [Seg.cell V0_0 O0_0.one, Seg.cell V0_1 O0_1.one, Seg.cell (.int .i64 a0.plan.at_), Seg.cell (.bool a0.off), Seg.cell (.bool a0.armed), Seg.cell (.int .i64 a0.left), Seg.cell (.int .i64 a0.steps)] ∧ Fr (fun j => j = G_0 ∨ some j = Value.ownBlock V0_0 ∨ some j = Value.ownBlock V0_1) w w') ?_ ?_
     ·have h := j35
      rcases is h with ⟨c42, h⟩ | ⟨c42, h⟩
      ·refine cw_condT rfl c42 ?_
       obtain ⟨g43, h⟩ := gs h
       obtain ⟨g45, h⟩ := gs h
       refine cw_drawL 6 [fun vz wz => vz = (v11 : Value), fun vz wz => vz = (.pointer (some ⟨(sb v11), so v11 + Int.toNat 0 * 1, none⟩) : Value), fun vz wz => vz = (.int .i64 (ix s7.1 0) : Value), fun vz wz => vz = (v11 : Value), fun vz wz => ∃ r44 : Rd (kI .i64) wz (subv 1 v11 (Int.toNat 1) (List.length s7.1)) (cut s7.1 1 (List.length s7.1 : Int)), vz = (subv 1 v11 (Int.toNat 1) (List.length s7.1) : Value), fun vz wz => vz = (.int .i64 (ix s7.1 0) : Value)] mo rfl ⟨fun _ _ _ h _ => h, fun _ _ _ h _ => h, fun _ _ _ h _ => h, fun _ _ _ h _ => h, fun _ _ _ ⟨r44, h⟩ q => ⟨r44.gr q, h⟩, fun _ _ _ h _ => h, trivial⟩ ?_ ?_
       ·refine ⟨?_, ?_, ?_, ?_, ?_, ?_, trivial⟩
        ·intro ρz wz hz hk hd
         exact sk_val (v := v11) (by exact xr_move rfl ((hk 1 rfl).trans e1)) rfl rfl
        ·intro ρz wz hz hk hd
         have d26 := hd 0 rfl 26 rfl
         exact sk_val (v := .pointer (some ⟨(sb v11), so v11 + Int.toNat 0 * 1, none⟩)) (by exact xr_indexR (K := (kI .i64)) (v := v11) rfl Try.underlying25 sz3 d26 (r12.gr hz) rfl (by decide) g43) rfl rfl
        ·intro ρz wz hz hk hd
         have d27 := hd 1 rfl 27 rfl
         exact sk_val (v := .int .i64 (ix s7.1 0)) (by exact xr_load1 (v := .int .i64 (ix s7.1 0)) rfl ag3 d27 ((r12.gr hz).elem (by decide) g43)) rfl rfl
        ·intro ρz wz hz hk hd
         exact sk_val (v := v11) (by exact xr_move rfl ((hk 1 rfl).trans e1)) rfl rfl
        ·intro ρz wz hz hk hd
         have d29 := hd 3 rfl 29 rfl
         exact sk_val (by exact xr_slice_l (K := (kI .i64)) (v := v11) rfl Try.underlying25 sz3 d29 (r12.gr hz) rfl (by decide) g45) rfl ⟨(r12.gr hz).cut (lo := 1) (hi := (List.length s7.1 : Int)) (by decide) g45 (Int.le_refl _), rfl⟩
        intro ρz wz hz hk hd
        have d28 := hd 2 rfl 28 rfl
        exact sk_val (v := .int .i64 (ix s7.1 0)) (by exact xr_assign rfl d28) rfl rfl
       intro ρ46 w47 q48 hk hd
       have e0 := (hk 0 rfl).trans e0
       have e5 := (hk 5 rfl).trans rfl
       have e6 := hd 5 rfl 6 rfl
       have e11 := (hk 11 rfl).trans e11
       have e12 := (hk 12 rfl).trans e12
       obtain ⟨r49, e30⟩ := hd 4 rfl 30 rfl
       have b_0 := b_0.gr q48
       have O0_0 := O0_0.gr q48
       have O0_1 := O0_1.gr q48
       have fB := fB.gr q48
       refine ol_val (v := subv 1 v11 (Int.toNat 1) (List.length s7.1)) (by exact xr_assign rfl e30) rfl rfl rfl ?_
       refine ol_nil ?_
       obtain rfl := Option.some.inj h
       refine thn_i ?_
       exact ⟨(subv 1 v11 (Int.toNat 1) (List.length s7.1)), O0_0, O0_1, r49, (OffR.cut a13), (OffRV.cut a14), (OffRV.cut a15), e0, rfl, e5, e6, e11, e12, b_0, fB⟩
      refine cw_condF rfl c42 ?_
      refine cw_skip ?_
      obtain rfl := Option.some.inj h
      refine thn_i ?_
      exact ⟨v11, O0_0, O0_1, r12, a13, a14, a15, e0, e1, rfl, rfl, e11, e12, b_0, fB⟩
     rintro ρ50 w51 ⟨v37, O0_0, O0_1, r38, a39, a40, a41, e0, e1, e5, e6, e11, e12, b_0, fB⟩
     have h := h36
     refine cw_region ?_
     refine ol_val (v := .pointer (some ⟨(sb V0_0), so V0_0 + Int.toNat s7.2.1 * 4, none⟩)) (by exact xr_move rfl e5) rfl rfl rfl ?_
     refine ol_val (v := .pointer (some ⟨(sb V0_0), so V0_0 + Int.toNat s7.2.1 * 4, none⟩)) (by exact xr_move rfl e5) rfl rfl rfl ?_
     refine ol_val (v := .int .i64 x34.2) (by exact xr_move rfl e6) rfl rfl rfl ?_
     obtain ⟨t52, k53, h⟩ := bs h
     refine ol_op (by exact opv_call rfl cal87 (ac rfl (ac rfl an)) (pmem_cell_fate__r0.ok fu _ (ix s7.2.2 s7.2.1) (sb V0_0) (so V0_0 + Int.toNat s7.2.1 * 4) (show At _ _ _ (cellsOf [Seg.cell (.int .u64 ((ix s7.2.2 s7.2.1).lasts)), Seg.cell (.int .u64 ((ix s7.2.2 s7.2.1).stored)), Seg.cell (.int .u64 ((ix s7.2.2 s7.2.1).sent)), Seg.cell (.bool ((ix s7.2.2 s7.2.1).flushed))]) from (O0_0.rd.elem g20.1 g20.2)) x34.2 _ k53)) rfl rfl rfl ?_
     rintro _ w55 ⟨rfl, q54⟩
     have b_0 := b_0.gr q54
     have O0_0 := O0_0.gr q54
     have O0_1 := O0_1.gr q54
     have r38 := r38.gr q54
     have fB := fB.gr q54
     obtain ⟨t62, k63, h⟩ := bs h
     have f66 := off_ty b_0 O0_0 (by decide)
     have f67 := OffV.ty O0_1 O0_0 (by decide)
     obtain ⟨X56, Y57, h58, h59, b60, k61⟩ := Own.sub (K := k_pmem_cell) (i := s7.2.1) (ss := [Seg.cell (.int .u64 ((ix s7.2.2 s7.2.1).lasts)), Seg.cell (.int .u64 ((ix s7.2.2 s7.2.1).stored)), Seg.cell (.int .u64 ((ix s7.2.2 s7.2.1).sent)), Seg.cell (.bool ((ix s7.2.2 s7.2.1).flushed))]) O0_0 g20.1 g20.2 rfl
     refine ol_op (by exact opv_call rfl cal85 (ac (ptrE (q := List.length X56) rfl h58) (ac rfl an)) (pmem_cell_keep__i0.ok fu _ (ix s7.2.2 s7.2.1) (sb V0_0) 142 X56 Y57 b60 t52 _ k63)) rfl rfl rfl ?_
     rintro _ w69 ⟨rfl, b65, q64⟩
     have O0_0 := k61 _ t62 [Seg.cell (.int .u64 t62.lasts), Seg.cell (.int .u64 t62.stored), Seg.cell (.int .u64 t62.sent), Seg.cell (.bool t62.flushed)] rfl b65
     have q64 := fr_own q64 h59
     have b_0 := b_0.wrO q64 f66
     have O0_1 := O0_1.wrV q64 f67
     have fB := fB.wrM q64 M0_0
     have r38 := r38.wrV q64 a40
     refine ol_nil ?_
     obtain rfl := Option.some.inj h
     refine thn_i ?_
     exact ⟨v37, O0_0, O0_1, r38, a39, a40, a41, e0, e1, e5, e11, e12, b_0, fB⟩
    refine cw_condF rfl c33 ?_
    refine cw_skip ?_
    obtain rfl := Option.some.inj h
    refine thn_i ?_
    exact ⟨v11, O0_0, O0_1, r12, a13, a14, a15, e0, e1, rfl, e11, e12, b_0, fB⟩
   rintro ρ70 w71 ⟨v28, O0_0, O0_1, r29, a30, a31, a32, e0, e1, e5, e11, e12, b_0, fB⟩
   have h := h27
   refine cw_region ?_
   refine ol_val (v := .pointer (some ⟨(sb V0_0), so V0_0 + Int.toNat s7.2.1 * 4, none⟩)) (by exact xr_move rfl e5) rfl rfl rfl ?_
   refine ol_val (v := .pointer (some ⟨(sb V0_0), so V0_0 + Int.toNat s7.2.1 * 4, none⟩)) (by exact xr_move rfl e5) rfl rfl rfl ?_
   refine ol_val (v := .pointer (some ⟨(sb V0_0), so V0_0 + Int.toNat s7.2.1 * 4, none⟩)) (by exact xr_nilCheck rfl rfl) rfl rfl rfl ?_
   refine ol_val (v := .pointer (some ⟨(sb V0_0), so V0_0 + Int.toNat s7.2.1 * 4 + 0, none⟩)) (by exact xr_fieldAddr (p := so V0_0 + Int.toNat s7.2.1 * 4) (q := 0) rfl fl142_0 rfl) rfl rfl rfl ?_
   obtain ⟨g72, h⟩ := gs h
   refine ol_val (v := .int .u64 ((ix x25.2 s7.2.1).lasts)) (by exact xr_load1 (v := .int .u64 ((ix x25.2 s7.2.1).lasts)) rfl ag22 rfl (At.segs (ss := segs_pmem_cell (ix x25.2 s7.2.1)) (O0_0.rd.elem g20.1 g72) 0 1 rfl)) rfl rfl rfl ?_
   refine ol_val (v := .pointer (some ⟨(sb V0_0), so V0_0 + Int.toNat s7.2.1 * 4, none⟩)) (by exact xr_nilCheck rfl rfl) rfl rfl rfl ?_
   refine ol_val (v := .pointer (some ⟨(sb V0_0), so V0_0 + Int.toNat s7.2.1 * 4 + 1, none⟩)) (by exact xr_fieldAddr (p := so V0_0 + Int.toNat s7.2.1 * 4) (q := 1) rfl fl142_1 rfl) rfl rfl rfl ?_
   obtain ⟨g74, h⟩ := gs h
   have f75 := off_ty b_0 O0_0 (by decide)
   have f76 := OffV.ty O0_1 O0_0 (by decide)
   refine ol_op0 (by exact opv_storeRow (z := (⟨(ix x25.2 s7.2.1).lasts, (ix x25.2 s7.2.1).lasts, (ix x25.2 s7.2.1).sent, (ix x25.2 s7.2.1).flushed⟩ : S_pmem_cell)) (xs := cellsOf [Seg.cell (.int .u64 ((ix x25.2 s7.2.1).lasts))]) rfl sz22 rfl rfl rfl (len_cellsOf _) (one_cellsOf _) O0_0 g20.1 g74 (Spl.segs (segs_pmem_cell (ix x25.2 s7.2.1)) 1 1 [Seg.cell (.int .u64 ((ix x25.2 s7.2.1).lasts))] rfl rfl) rfl) rfl rfl ?_
   rintro _ w78 ⟨O0_0, q73⟩
   have b_0 := b_0.wrO q73 f75
   have O0_1 := O0_1.wrV q73 f76
   have fB := fB.wrM q73 M0_0
   have r29 := r29.wrV q73 a31
   refine ol_nil ?_
   refine blk_i ?_
   refine cw_region ?_
   refine ol_val (v := .int .i64 (IntKind.i64.wrap (s7.2.1 + 1))) (by exact xr_add rfl e12 rfl) rfl rfl rfl ?_
   refine ol_val (v := .int .i64 (IntKind.i64.wrap (s7.2.1 + 1))) (by exact xr_move rfl rfl) rfl rfl rfl ?_
   refine ol_nil ?_
   obtain rfl := Option.some.inj h
   refine lp_in ?_
   exact ⟨v28, O0_0, O0_1, r29, a30, a31, a32, e0, e1, e11, rfl, b_0, fB⟩
  refine cw_condF rfl c19 ?_
  refine cw_exit ?_
  repeat (first | with_reducible refine thn_e ?_ | with_reducible refine blk_e rfl ?_)
  obtain rfl := Option.some.inj h
  refine lp_exit ?_
  rintro rfl
  refine thn_x ?_
  exact ⟨O0_0, O0_1, e0, b_0, fB⟩
 rintro ρ79 w80 ⟨O0_0, O0_1, e0, b_0, fB⟩
 have h := h10
 refine cw_seq ?_
 refine cw_region ?_
 refine ol_val (v := .pointer (some ⟨G_0, 0, none⟩)) (by exact xr_move rfl e0) rfl rfl rfl ?_
 refine ol_val (v := aggV [Seg.cell (.slice none 0 0) (by rfl), Seg.cell (.int .i64 (0 : Int))]) (by exact xr_build (vals := []) rfl trivial (bl137_ _)) rfl rfl rfl ?_
 refine ol_val (v := .pointer (some ⟨G_0, 0, none⟩)) (by exact xr_nilCheck rfl rfl) rfl rfl rfl ?_
 refine ol_val (v := .pointer (some ⟨G_0, 1, none⟩)) (by exact xr_fieldAddr (p := 0) (q := 1) rfl fl139_1 rfl) rfl rfl rfl ?_
 have f82 := off_ty b_0 O0_0 (by decide)
 refine ol_op0 (by exact opv_store (ss' := [Seg.cell V0_0 O0_0.one, Seg.cell (.slice none 0 0) (by rfl), Seg.cell (.int .i64 (0 : Int)), Seg.cell (.bool a0.off), Seg.cell (.bool a0.armed), Seg.cell (.int .i64 a0.left), Seg.cell (.int .i64 a0.steps)]) (xs := cellsOf [Seg.cell (.slice none 0 0) (by rfl), Seg.cell (.int .i64 (0 : Int))]) rfl sz137 rfl rfl rfl (len_cellsOf _) (one_cellsOf _) b_0 (Spl.segs _ 1 2 [Seg.cell (.slice none 0 0) (by rfl), Seg.cell (.int .i64 (0 : Int))] rfl rfl)) rfl rfl ?_
 rintro _ w83 ⟨b_0, q81⟩
 have O0_0 := O0_0.wr q81 f82
 have fB := fB.wrS q81 (.inl rfl)
 refine ol_nil ?_
 refine cw_region ?_
 refine ol_val (v := .pointer (some ⟨G_0, 0, none⟩)) (by exact xr_move rfl e0) rfl rfl rfl ?_
 refine ol_val (v := .pointer (some ⟨G_0, 0, none⟩)) (by exact xr_move rfl e0) rfl rfl rfl ?_
 refine ol_val (v := .pointer (some ⟨G_0, 0, none⟩)) (by exact xr_move rfl e0) rfl rfl rfl ?_
 refine ol_val (v := .pointer (some ⟨G_0, 0, none⟩)) (by exact xr_nilCheck rfl rfl) rfl rfl rfl ?_
 refine ol_val (v := .pointer (some ⟨G_0, 3, none⟩)) (by exact xr_fieldAddr (p := 0) (q := 3) rfl fl139_2 rfl) rfl rfl rfl ?_
 have f85 := off_ty b_0 O0_0 (by decide)
 refine ol_op0 (by exact opv_store (ss' := [Seg.cell V0_0 O0_0.one, Seg.cell (.slice none 0 0) (by rfl), Seg.cell (.int .i64 (0 : Int)), Seg.cell (.bool false), Seg.cell (.bool a0.armed), Seg.cell (.int .i64 a0.left), Seg.cell (.int .i64 a0.steps)]) (xs := cellsOf [Seg.cell (.bool false)]) rfl sz4 rfl rfl rfl (len_cellsOf _) (one_cellsOf _) b_0 (Spl.segs _ 3 1 [Seg.cell (.bool false)] rfl rfl)) rfl rfl ?_
 rintro _ w86 ⟨b_0, q84⟩
 have O0_0 := O0_0.wr q84 f85
 have fB := fB.wrS q84 (.inl rfl)
 refine ol_val (v := .pointer (some ⟨G_0, 0, none⟩)) (by exact xr_nilCheck rfl rfl) rfl rfl rfl ?_
 refine ol_val (v := .pointer (some ⟨G_0, 4, none⟩)) (by exact xr_fieldAddr (p := 0) (q := 4) rfl fl139_3 rfl) rfl rfl rfl ?_
 have f88 := off_ty b_0 O0_0 (by decide)
 refine ol_op0 (by exact opv_store (ss' := [Seg.cell V0_0 O0_0.one, Seg.cell (.slice none 0 0) (by rfl), Seg.cell (.int .i64 (0 : Int)), Seg.cell (.bool false), Seg.cell (.bool false), Seg.cell (.int .i64 a0.left), Seg.cell (.int .i64 a0.steps)]) (xs := cellsOf [Seg.cell (.bool false)]) rfl sz4 rfl rfl rfl (len_cellsOf _) (one_cellsOf _) b_0 (Spl.segs _ 4 1 [Seg.cell (.bool false)] rfl rfl)) rfl rfl ?_
 rintro _ w89 ⟨b_0, q87⟩
 have O0_0 := O0_0.wr q87 f88
 have fB := fB.wrS q87 (.inl rfl)
 refine ol_val (v := .pointer (some ⟨G_0, 0, none⟩)) (by exact xr_nilCheck rfl rfl) rfl rfl rfl ?_
 refine ol_val (v := .pointer (some ⟨G_0, 5, none⟩)) (by exact xr_fieldAddr (p := 0) (q := 5) rfl fl139_4 rfl) rfl rfl rfl ?_
 have f91 := off_ty b_0 O0_0 (by decide)
 refine ol_op0 (by exact opv_store (ss' := [Seg.cell V0_0 O0_0.one, Seg.cell (.slice none 0 0) (by rfl), Seg.cell (.int .i64 (0 : Int)), Seg.cell (.bool false), Seg.cell (.bool false), Seg.cell (.int .i64 0), Seg.cell (.int .i64 a0.steps)]) (xs := cellsOf [Seg.cell (.int .i64 0)]) rfl sz3 rfl rfl rfl (len_cellsOf _) (one_cellsOf _) b_0 (Spl.segs _ 5 1 [Seg.cell (.int .i64 0)] rfl rfl)) rfl rfl ?_
 rintro _ w92 ⟨b_0, q90⟩
 have O0_0 := O0_0.wr q90 f91
 have fB := fB.wrS q90 (.inl rfl)
 refine ol_nil ?_
 obtain rfl := Option.some.inj h
 refine fin_end0 Try.results32 ?_
 exact ⟨_, rfl, V0_0, (.slice none 0 0), O0_0, M0_0, Own.nil _ _ _ _, ms_nil, rfl, b_0, fB⟩
end Go.Proofs.Ytklhbaghbmndeaa

/- (*rickyard/pmem.Device).Arm: its model, and that the Go function computes it: written by gen.py. -/
set_option linter.unusedVariables false
namespace Go.Proofs.Ytklhbaghbmndeaa
open Go Go.Xw
def pmem_Device_Arm.f (fu : Nat) (a0 : S_pmem_Device) (a1 : Int) : Option S_pmem_Device := (if a0.off = true then some (a0) else some ((⟨a0.cells, a0.plan, (decide (a1 = 0)), (decide (a1 ≥ 0)), a1, a0.steps⟩ : S_pmem_Device)))
set_option maxRecDepth 100000 in
set_option maxHeartbeats 400000 in
theorem pmem_Device_Arm.ok (fu : Nat) (w : World) (a0 : S_pmem_Device) (G_0 : Nat) (V0_0 : Value) (R0_0 : Rd k_pmem_cell w V0_0 a0.cells) (N0_0 : OffR V0_0 a0.cells G_0) (V0_1 : Value) (R0_1 : Rd (kI .i64) w V0_1 a0.plan.list) (N0_1 : OffR V0_1 a0.plan.list G_0) (b_0 : Blk w G_0 139 [Seg.cell V0_0 R0_0.one, Seg.cell V0_1 R0_1.one, Seg.cell (.int .i64 a0.plan.at_), Seg.cell (.bool a0.off), Seg.cell (.bool a0.armed), Seg.cell (.int .i64 a0.left), Seg.cell (.int .i64 a0.steps)]) (a1 : Int) (r : S_pmem_Device) (h : pmem_Device_Arm.f fu a0 a1 = some r) :
  Calls Try.prog 38 (([.pointer (some ⟨G_0, 0, none⟩), .int .i64 a1] : List Value).toArray) w (fun e w' => ∃ v, e = .returned v ∧ v = .tuple #[] ∧ Blk w' G_0 139 [Seg.cell V0_0 R0_0.one, Seg.cell V0_1 R0_1.one, Seg.cell (.int .i64 r.plan.at_), Seg.cell (.bool r.off), Seg.cell (.bool r.armed), Seg.cell (.int .i64 r.left), Seg.cell (.int .i64 r.steps)] ∧ Fr (fun j => j = G_0) w w') := by
 unfold pmem_Device_Arm.f at h
 have fB : Fr (fun j => j = G_0) w w := Fr.refl _ _
 refine calls_cw Try.func38 rfl Try.ntmps38 rfl ?_
 refine cw_seq ?_
 refine cw_seq ?_
 refine cw_region ?_
 refine ol_val (v := .pointer (some ⟨G_0, 0, none⟩)) (by exact xr_move rfl rfl) rfl rfl rfl ?_
 refine ol_val (v := .pointer (some ⟨G_0, 0, none⟩)) (by exact xr_nilCheck rfl rfl) rfl rfl rfl ?_
 refine ol_val (v := .pointer (some ⟨G_0, 3, none⟩)) (by exact xr_fieldAddr (p := 0) (q := 3) rfl fl139_2 rfl) rfl rfl rfl ?_
 refine ol_val (v := .bool a0.off) (by exact xr_load1 (v := .bool a0.off) rfl ag4 rfl (b_0.seg 3 rfl rfl)) rfl rfl rfl ?_
 refine ol_nil ?_
 rcases is h with ⟨c1, h⟩ | ⟨c1, h⟩
 ·refine cw_condT rfl c1 ?_
  refine cw_ret ?_
  repeat (first | with_reducible refine thn_r ?_ | with_reducible refine blk_r ?_)
  obtain rfl := Option.some.inj h
  refine fin_ret0 Try.results38 ?_
  exact ⟨_, rfl, rfl, b_0, fB⟩
 refine cw_condF rfl c1 ?_
 refine cw_skip ?_
 refine cw_seq ?_
 refine cw_region ?_
 refine ol_val (v := .pointer (some ⟨G_0, 0, none⟩)) (by exact xr_move rfl rfl) rfl rfl rfl ?_
 refine ol_val (v := .pointer (some ⟨G_0, 0, none⟩)) (by exact xr_move rfl rfl) rfl rfl rfl ?_
 refine ol_val (v := .int .i64 a1) (by exact xr_move rfl rfl) rfl rfl rfl ?_
 refine ol_val (v := .bool (decide (a1 ≥ 0))) (by exact xr_geq rfl rfl rfl) rfl rfl rfl ?_
 refine ol_val (v := .int .i64 a1) (by exact xr_move rfl rfl) rfl rfl rfl ?_
 refine ol_val (v := .pointer (some ⟨G_0, 0, none⟩)) (by exact xr_nilCheck rfl rfl) rfl rfl rfl ?_
 refine ol_val (v := .pointer (some ⟨G_0, 4, none⟩)) (by exact xr_fieldAddr (p := 0) (q := 4) rfl fl139_3 rfl) rfl rfl rfl ?_
 refine ol_op0 (by exact opv_store (ss' := [Seg.cell V0_0 R0_0.one, Seg.cell V0_1 R0_1.one, Seg.cell (.int .i64 a0.plan.at_), Seg.cell (.bool a0.off), Seg.cell (.bool (decide (a1 ≥ 0))), Seg.cell (.int .i64 a0.left), Seg.cell (.int .i64 a0.steps)]) (xs := cellsOf [Seg.cell (.bool (decide (a1 ≥ 0)))]) rfl sz4 rfl rfl rfl (len_cellsOf _) (one_cellsOf _) b_0 (Spl.segs _ 4 1 [Seg.cell (.bool (decide (a1 ≥ 0)))] rfl rfl)) rfl rfl ?_
 rintro _ w3 ⟨b_0, q2⟩
 have R0_0 := R0_0.wr q2 N0_0
 have R0_1 := R0_1.wr q2 N0_1
 have fB := fB.wrS q2 rfl
 refine ol_val (v := .pointer (some ⟨G_0, 0, none⟩)) (by exact xr_nilCheck rfl rfl) rfl rfl rfl ?_
 refine ol_val (v := .pointer (some ⟨G_0, 5, none⟩)) (by exact xr_fieldAddr (p := 0) (q := 5) rfl fl139_4 rfl) rfl rfl rfl ?_
 refine ol_op0 (by exact opv_store (ss' := [Seg.cell V0_0 R0_0.one, Seg.cell V0_1 R0_1.one, Seg.cell (.int .i64 a0.plan.at_), Seg.cell (.bool a0.off), Seg.cell (.bool (decide (a1 ≥ 0))), Seg.cell (.int .i64 a1), Seg.cell (.int .i64 a0.steps)]) (xs := cellsOf [Seg.cell (.int .i64 a1)]) rfl sz3 rfl rfl rfl (len_cellsOf _) (one_cellsOf _) b_0 (Spl.segs _ 5 1 [Seg.cell (.int .i64 a1)] rfl rfl)) rfl rfl ?_
 rintro _ w5 ⟨b_0, q4⟩
 have R0_0 := R0_0.wr q4 N0_0
 have R0_1 := R0_1.wr q4 N0_1
 have fB := fB.wrS q4 rfl
 refine ol_nil ?_
 refine cw_region ?_
 refine ol_val (v := .pointer (some ⟨G_0, 0, none⟩)) (by exact xr_move rfl rfl) rfl rfl rfl ?_
 refine ol_val (v := .int .i64 a1) (by exact xr_move rfl rfl) rfl rfl rfl ?_
 refine ol_val (v := .bool (decide (a1 = 0))) (by exact xr_eqI rfl Try.underlying3 rfl rfl rfl) rfl rfl rfl ?_
 refine ol_val (v := .pointer (some ⟨G_0, 0, none⟩)) (by exact xr_nilCheck rfl rfl) rfl rfl rfl ?_
 refine ol_val (v := .pointer (some ⟨G_0, 3, none⟩)) (by exact xr_fieldAddr (p := 0) (q := 3) rfl fl139_2 rfl) rfl rfl rfl ?_
 refine ol_op0 (by exact opv_store (ss' := [Seg.cell V0_0 R0_0.one, Seg.cell V0_1 R0_1.one, Seg.cell (.int .i64 a0.plan.at_), Seg.cell (.bool (decide (a1 = 0))), Seg.cell (.bool (decide (a1 ≥ 0))), Seg.cell (.int .i64 a1), Seg.cell (.int .i64 a0.steps)]) (xs := cellsOf [Seg.cell (.bool (decide (a1 = 0)))]) rfl sz4 rfl rfl rfl (len_cellsOf _) (one_cellsOf _) b_0 (Spl.segs _ 3 1 [Seg.cell (.bool (decide (a1 = 0)))] rfl rfl)) rfl rfl ?_
 rintro _ w7 ⟨b_0, q6⟩
 have R0_0 := R0_0.wr q6 N0_0
 have R0_1 := R0_1.wr q6 N0_1
 have fB := fB.wrS q6 rfl
 refine ol_nil ?_
 obtain rfl := Option.some.inj h
 refine fin_end0 Try.results38 ?_
 exact ⟨_, rfl, rfl, b_0, fB⟩
end Go.Proofs.Ytklhbaghbmndeaa

/- rickyard/octet.Read: its model, and that the Go function computes it: written by gen.py. -/
set_option linter.unusedVariables false
namespace Go.Proofs.Ytklhbaghbmndeaa
open Go Go.Xw
def octet_Read.s0 (fu : Nat) (a0 : List Int) : (Int × Int) → Option (Sum Int (Int × Int)) := fun s3 => (if (decide (s3.2 < (List.length (cut a0 0 (mnI (List.length a0 : Int) 8)) : Int))) = true then (if 0 ≤ s3.2 ∧ s3.2 < (List.length (cut a0 0 (mnI (List.length a0 : Int) 8)) : Int) then (if 0 ≤ (IntKind.i64.wrap (8 * s3.2)) then some (Sum.inr ((bOr .u64 s3.1 (shL .u64 (IntKind.u64.wrap (ix (cut a0 0 (mnI (List.length a0 : Int) 8)) s3.2)) (IntKind.i64.wrap (8 * s3.2)))), (IntKind.i64.wrap (s3.2 + 1)))) else none) else none) else some (Sum.inl (s3.1)))
def octet_Read.f (fu : Nat) (a0 : List Int) : Option Int := (if 0 ≤ (mnI (List.length a0 : Int) 8) ∧ (mnI (List.length a0 : Int) 8) ≤ (List.length a0 : Int) then ((loopM (octet_Read.s0 fu a0) fu (0, 0)).bind fun e4 => some (e4)) else none)
set_option maxRecDepth 100000 in
set_option maxHeartbeats 400000 in
theorem octet_Read.ok (fu : Nat) (w : World) (a0 : List Int) (V0_0 : Value) (R0_0 : Rd (kI .u8) w V0_0 a0) (r : Int) (h : octet_Read.f fu a0 = some r) :
  Calls Try.prog 109 (([V0_0] : List Value).toArray) w (fun e w' => ∃ v, e = .returned v ∧ v = .int .u64 r ∧ Gr w w') := by
 unfold octet_Read.f at h
 have fB : Gr w w := Fr.refl _ _
 refine calls_cw Try.func109 rfl Try.ntmps109 rfl ?_
 refine cw_seq ?_
 refine cw_region ?_
 refine ol_val (v := .int .u64 0) (by exact xr_assign rfl rfl) rfl rfl rfl ?_
 refine ol_nil ?_
 refine cw_seq ?_
 refine cw_region ?_
 refine ol_val (v := .int .u64 0) (by exact xr_assign rfl rfl) rfl rfl rfl ?_
 refine ol_nil ?_
 refine cw_seq ?_
 refine cw_seq ?_
 refine cw_region ?_
 refine ol_val (v := V0_0) (by exact xr_move rfl rfl) rfl rfl rfl ?_
 refine ol_val (v := V0_0) (by exact xr_move rfl rfl) rfl rfl rfl ?_
 refine ol_val (v := .int .i64 (List.length a0 : Int)) (by exact xr_lenR rfl Try.underlying43 rfl (R0_0.gr fB)) rfl rfl rfl ?_
 refine ol_val (v := .int .i64 (mnI (List.length a0 : Int) 8)) (by exact xr_min2 rfl rfl rfl) rfl rfl rfl ?_
 obtain ⟨g2, h⟩ := gs h
 refine ol_val (v := subv 1 V0_0 0 (Int.toNat (mnI (List.length a0 : Int) 8))) (by exact xr_slice_h (K := (kI .u8)) (v := V0_0) rfl Try.underlying43 sz5 rfl (R0_0.gr fB) rfl g2.1 g2.2) rfl rfl rfl ?_
 have r1 : Rd (kI .u8) w (subv 1 V0_0 0 (Int.toNat (mnI (List.length a0 : Int) 8))) (cut a0 0 (mnI (List.length a0 : Int) 8)) := (R0_0.gr fB).cut (lo := 0) (hi := (mnI (List.length a0 : Int) 8)) (by decide) g2.1 g2.2
 refine ol_val (v := .int .i64 (List.length (cut a0 0 (mnI (List.length a0 : Int) 8)) : Int)) (by exact xr_lenR rfl Try.underlying43 rfl r1) rfl rfl rfl ?_
 refine ol_val (v := .int .i64 0) (by exact xr_move rfl rfl) rfl rfl rfl ?_
 refine ol_nil ?_
 obtain ⟨e4, l5, h6⟩ := bs h
 refine cw_mid (fun ρ' w' => ρ' 3 = .int .u64 e4 ∧ Gr w w') ?_ ?_
 ·refine cw_block ?_
  refine cw_round (fun (s3 : Int × Int) ρ' w' => ∃ r1 : Rd (kI .u8) w' (subv 1 V0_0 0 (Int.toNat (mnI (List.length a0 : Int) 8))) (cut a0 0 (mnI (List.length a0 : Int) 8)), ρ' 3 = .int .u64 s3.1 ∧ ρ' 10 = subv 1 V0_0 0 (Int.toNat (mnI (List.length a0 : Int) 8)) ∧ ρ' 11 = .int .i64 (List.length (cut a0 0 (mnI (List.length a0 : Int) 8)) : Int) ∧ ρ' 12 = .int .i64 s3.2 ∧ Gr w w') l5 ?_ ?_
  ·skip
   exact ⟨r1, rfl, rfl, rfl, rfl, fB⟩
  rintro s3 x9 ρ7 w8 ⟨r1, e3, e10, e11, e12, fB⟩ h
  unfold octet_Read.s0 at h
  refine cw_seq ?_
  refine cw_region ?_
  refine ol_val (v := .bool (decide (s3.2 < (List.length (cut a0 0 (mnI (List.length a0 : Int) 8)) : Int)))) (by exact xr_lss rfl e12 e11) rfl rfl rfl ?_
  refine ol_nil ?_
  refine cw_seq ?_
  rcases is h with ⟨c10, h⟩ | ⟨c10, h⟩
  ·refine cw_condT rfl c10 ?_
   refine cw_skip ?_
   refine cw_seq ?_
   refine cw_block ?_
   refine cw_seq ?_
   refine cw_region ?_
   refine ol_val (v := .int .i64 s3.2) (by exact xr_move rfl e12) rfl rfl rfl ?_
   obtain ⟨g11, h⟩ := gs h
   refine ol_val (v := .pointer (some ⟨(sb (subv 1 V0_0 0 (Int.toNat (mnI (List.length a0 : Int) 8)))), so (subv 1 V0_0 0 (Int.toNat (mnI (List.length a0 : Int) 8))) + Int.toNat s3.2 * 1, none⟩)) (by exact xr_indexR (K := (kI .u8)) (v := subv 1 V0_0 0 (Int.toNat (mnI (List.length a0 : Int) 8))) rfl Try.underlying43 sz5 e10 r1 e12 g11.1 g11.2) rfl rfl rfl ?_
   refine ol_val (v := .int .u8 (ix (cut a0 0 (mnI (List.length a0 : Int) 8)) s3.2)) (by exact xr_load1 (v := .int .u8 (ix (cut a0 0 (mnI (List.length a0 : Int) 8)) s3.2)) rfl ag5 rfl (r1.elem g11.1 g11.2)) rfl rfl rfl ?_
   refine ol_val (v := .int .i64 s3.2) (by exact xr_assign rfl rfl) rfl rfl rfl ?_
   refine ol_val (v := .int .u8 (ix (cut a0 0 (mnI (List.length a0 : Int) 8)) s3.2)) (by exact xr_assign rfl rfl) rfl rfl rfl ?_
   refine ol_nil ?_
   refine cw_region ?_
   refine ol_val (v := .int .u64 s3.1) (by exact xr_move rfl e3) rfl rfl rfl ?_
   refine ol_val (v := .int .u8 (ix (cut a0 0 (mnI (List.length a0 : Int) 8)) s3.2)) (by exact xr_move rfl rfl) rfl rfl rfl ?_
   refine ol_val (v := .int .u64 (IntKind.u64.wrap (ix (cut a0 0 (mnI (List.length a0 : Int) 8)) s3.2))) (by exact xr_conv rfl Try.underlying5 Try.underlying22 rfl) rfl rfl rfl ?_
   refine ol_val (v := .int .i64 s3.2) (by exact xr_move rfl rfl) rfl rfl rfl ?_
   refine ol_val (v := .int .i64 (IntKind.i64.wrap (8 * s3.2))) (by exact xr_mul rfl rfl rfl) rfl rfl rfl ?_
   obtain ⟨g12, h⟩ := gs h
   refine ol_val (v := .int .u64 (shL .u64 (IntKind.u64.wrap (ix (cut a0 0 (mnI (List.length a0 : Int) 8)) s3.2)) (IntKind.i64.wrap (8 * s3.2)))) (by exact xr_shl rfl rfl rfl g12) rfl rfl rfl ?_
   refine ol_val (v := .int .u64 (bOr .u64 s3.1 (shL .u64 (IntKind.u64.wrap (ix (cut a0 0 (mnI (List.length a0 : Int) 8)) s3.2)) (IntKind.i64.wrap (8 * s3.2))))) (by exact xr_or rfl rfl rfl) rfl rfl rfl ?_
   refine ol_val (v := .int .u64 (bOr .u64 s3.1 (shL .u64 (IntKind.u64.wrap (ix (cut a0 0 (mnI (List.length a0 : Int) 8)) s3.2)) (IntKind.i64.wrap (8 * s3.2))))) (by exact xr_assign rfl rfl) rfl rfl rfl ?_
   refine ol_nil ?_
   refine blk_i ?_
   refine cw_region ?_
   refine ol_val (v := .int .i64 (IntKind.i64.wrap (s3.2 + 1))) (by exact xr_add rfl e12 rfl) rfl rfl rfl ?_
   refine ol_val (v := .int .i64 (IntKind.i64.wrap (s3.2 + 1))) (by exact xr_move rfl rfl) rfl rfl rfl ?_
   refine ol_nil ?_
   obtain rfl := Option.some.inj h
   refine lp_in ?_
   exact ⟨r1, rfl, e10, e11, rfl, fB⟩
  refine cw_condF rfl c10 ?_
  refine cw_exit ?_
  repeat (first | with_reducible refine thn_e ?_ | with_reducible refine blk_e rfl ?_)
  obtain rfl := Option.some.inj h
  refine lp_exit ?_
  rintro rfl
  refine thn_x ?_
  exact ⟨e3, fB⟩
 rintro ρ13 w14 ⟨e3, fB⟩
 have h := h6
 refine cw_seq ?_
 refine cw_region ?_
 refine ol_val (v := .int .u64 e4) (by exact xr_move rfl e3) rfl rfl rfl ?_
 refine ol_val (v := .int .u64 e4) (by exact xr_assign rfl rfl) rfl rfl rfl ?_
 refine ol_nil ?_
 refine cw_ret ?_
 repeat (first | with_reducible refine thn_r ?_ | with_reducible refine blk_r ?_)
 obtain rfl := Option.some.inj h
 refine fin_ret1 Try.results109 rfl ?_
 exact ⟨_, rfl, rfl, fB⟩
end Go.Proofs.Ytklhbaghbmndeaa

/- rickyard/octet.Words: its model, and that the Go function computes it: written by gen.py. -/
set_option linter.unusedVariables false
namespace Go.Proofs.Ytklhbaghbmndeaa
open Go Go.Xw
def octet_Words.s0 (fu : Nat) : ((List Int) × (List Int)) → Option (Sum (List Int) ((List Int) × (List Int))) := fun s4 => (if (decide ((List.length s4.1 : Int) ≥ 8)) = true then ((octet_Read.f fu s4.1 : Option Int).bind fun t21 => (if List.length s4.2 + List.length [t21] ≤ LIM then (if (8 : Int) ≤ (List.length s4.1 : Int) then some (Sum.inr ((cut s4.1 8 (List.length s4.1 : Int)), (s4.2 ++ [t21]))) else none) else none)) else some (Sum.inl (s4.2)))
def octet_Words.f (fu : Nat) (a0 : List Int) : Option (List Int) := ((loopM (octet_Words.s0 fu) fu (a0, [])).bind fun e5 => some (e5))
set_option maxRecDepth 100000 in
set_option maxHeartbeats 400000 in
theorem octet_Words.ok (fu : Nat) (w : World) (a0 : List Int) (V0_0 : Value) (R0_0 : Rd (kI .u8) w V0_0 a0) (r : (List Int)) (h : octet_Words.f fu a0 = some r) :
  Calls Try.prog 99 (([V0_0] : List Value).toArray) w (fun e w' => ∃ v, e = .returned v ∧ ∃ u1 : Value, ∃ o2 : Own (kI .u64) 22 w' w.heap.size u1 r, v = u1 ∧ Gr w w') := by
 unfold octet_Words.f at h
 have fB : Gr w w := Fr.refl _ _
 refine calls_cw Try.func99 rfl Try.ntmps99 rfl ?_
 refine cw_seq ?_
 refine cw_region ?_
 refine ol_val (v := .slice none 0 0) (by exact xr_assign rfl rfl) rfl rfl rfl ?_
 refine ol_nil ?_
 refine cw_seq ?_
 refine cw_region ?_
 refine ol_val (v := .slice none 0 0) (by exact xr_assign rfl rfl) rfl rfl rfl ?_
 refine ol_nil ?_
 refine cw_seq ?_
 obtain ⟨e5, l6, h7⟩ := bs h
 refine cw_mid (fun ρ' w' => ∃ v8 : Value, ∃ o9 : Own (kI .u64) 22 w' w.heap.size v8 e5, ρ' 3 = v8 ∧ Gr w w') ?_ ?_
 ·refine cw_block ?_
  refine cw_round (fun (s4 : (List Int) × (List Int)) ρ' w' => ∃ v11 : Value, ∃ v13 : Value, ∃ o14 : Own (kI .u64) 22 w' w.heap.size v13 s4.2, ∃ r12 : Rd (kI .u8) w' v11 s4.1, OffRV v11 s4.1 v13 ∧ ρ' 0 = v11 ∧ ρ' 3 = v13 ∧ Gr w w') l6 ?_ ?_
  ·skip
   exact ⟨V0_0, (.slice none 0 0), Own.nil _ _ _ _, (R0_0.gr fB), (OffRV.nil _ _), rfl, rfl, fB⟩
  rintro s4 x19 ρ17 w18 ⟨v11, v13, o14, r12, a16, e0, e3, fB⟩ h
  unfold octet_Words.s0 at h
  refine cw_seq ?_
  refine cw_seq ?_
  refine cw_region ?_
  refine ol_val (v := v11) (by exact xr_move rfl e0) rfl rfl rfl ?_
  refine ol_val (v := .int .i64 (List.length s4.1 : Int)) (by exact xr_lenR rfl Try.underlying43 rfl r12) rfl rfl rfl ?_
  refine ol_val (v := .bool (decide ((List.length s4.1 : Int) ≥ 8))) (by exact xr_geq rfl rfl rfl) rfl rfl rfl ?_
  refine ol_nil ?_
  rcases is h with ⟨c20, h⟩ | ⟨c20, h⟩
  ·refine cw_condT rfl c20 ?_
   refine cw_skip ?_
   refine cw_block ?_
   refine cw_seq ?_
   refine cw_region ?_
   refine ol_val (v := v13) (by exact xr_move rfl e3) rfl rfl rfl ?_
   refine ol_val (v := v11) (by exact xr_move rfl e0) rfl rfl rfl ?_
   obtain ⟨t21, k22, h⟩ := bs h
   refine ol_op (by exact opv_call rfl cal109 (ac rfl an) (octet_Read.ok fu _ s4.1 v11 (r12) _ k22)) rfl rfl rfl ?_
   rintro _ w24 ⟨rfl, q23⟩
   have o14 := o14.gr q23
   have r12 := r12.gr q23
   have fB := fB.gr q23
   refine ol_op (by exact opv_buildSlice (K := (kI .u64)) (xs := [t21]) (vals := [.int .u64 t21]) rfl Try.underlying46 el22 rfl rfl ⟨rfl, rfl, trivial⟩ rfl rfl rfl fB.size) rfl rfl rfl ?_
   rintro v25 w30 ⟨o27, q26, z28⟩
   have a31 := OffV.new o14 z28
   have a32 := OffRV.new r12 z28 rfl
   have o14 := o14.gr q26
   have r12 := r12.gr q26
   have fB := fB.gr q26
   obtain ⟨g37, h⟩ := gs h
   have f39 := o14.geO
   refine ol_op (by exact opv_append (K := (kI .u64)) rfl Try.underlying46 el22 rfl rfl rfl rfl rfl o14 o27.rd g37 fB.size) rfl rfl rfl ?_
   rintro v33 w40 ⟨o34, q35, n36⟩
   have a41 := OffRV.app r12 a16 n36 rfl
   have fB := fB.wrO q35 f39
   have r12 := r12.wrV q35 a16
   refine ol_val (v := v33) (by exact xr_assign rfl rfl) rfl rfl rfl ?_
   refine ol_nil ?_
   refine cw_region ?_
   refine ol_val (v := v11) (by exact xr_move rfl e0) rfl rfl rfl ?_
   obtain ⟨g43, h⟩ := gs h
   refine ol_val (v := subv 1 v11 (Int.toNat 8) (List.length s4.1)) (by exact xr_slice_l (K := (kI .u8)) (v := v11) rfl Try.underlying43 sz5 rfl r12 rfl (by decide) g43) rfl rfl rfl ?_
   have r42 : Rd (kI .u8) w40 (subv 1 v11 (Int.toNat 8) (List.length s4.1)) (cut s4.1 8 (List.length s4.1 : Int)) := r12.cut (lo := 8) (hi := (List.length s4.1 : Int)) (by decide) g43 (Int.le_refl _)
   refine ol_val (v := subv 1 v11 (Int.toNat 8) (List.length s4.1)) (by exact xr_assign rfl rfl) rfl rfl rfl ?_
   refine ol_nil ?_
   refine blk_i ?_
   obtain rfl := Option.some.inj h
   refine lp_in ?_
   exact ⟨(subv 1 v11 (Int.toNat 8) (List.length s4.1)), v33, o34, r42, (OffRV.cut a41), rfl, rfl, fB⟩
  refine cw_condF rfl c20 ?_
  refine cw_exit ?_
  repeat (first | with_reducible refine thn_e ?_ | with_reducible refine blk_e rfl ?_)
  obtain rfl := Option.some.inj h
  refine lp_exit ?_
  rintro rfl
  refine thn_x ?_
  exact ⟨v13, o14, e3, fB⟩
 rintro ρ44 w45 ⟨v8, o9, e3, fB⟩
 have h := h7
 refine cw_seq ?_
 refine cw_region ?_
 refine ol_val (v := v8) (by exact xr_move rfl e3) rfl rfl rfl ?_
 refine ol_val (v := v8) (by exact xr_assign rfl rfl) rfl rfl rfl ?_
 refine ol_nil ?_
 refine cw_ret ?_
 repeat (first | with_reducible refine thn_r ?_ | with_reducible refine blk_r ?_)
 obtain rfl := Option.some.inj h
 refine fin_ret1 Try.results99 rfl ?_
 exact ⟨_, rfl, v8, o9, rfl, fB⟩
end Go.Proofs.Ytklhbaghbmndeaa

/- (*rickyard/pmem.Device).Lines: its model, and that the Go function computes it: written by gen.py. -/
set_option linter.unusedVariables false
namespace Go.Proofs.Ytklhbaghbmndeaa
open Go Go.Xw
def pmem_Device_Lines.f (fu : Nat) (a0 : S_pmem_Device) : Option Int := some ((IntKind.i64.wrap (Int.tdiv (List.length a0.cells : Int) 8)))
set_option maxRecDepth 100000 in
set_option maxHeartbeats 400000 in
theorem pmem_Device_Lines.ok (fu : Nat) (w : World) (a0 : S_pmem_Device) (G_0 : Nat) (V0_0 : Value) (R0_0 : Rd k_pmem_cell w V0_0 a0.cells) (V0_1 : Value) (R0_1 : Rd (kI .i64) w V0_1 a0.plan.list) (b_0 : Blk w G_0 139 [Seg.cell V0_0 R0_0.one, Seg.cell V0_1 R0_1.one, Seg.cell (.int .i64 a0.plan.at_), Seg.cell (.bool a0.off), Seg.cell (.bool a0.armed), Seg.cell (.int .i64 a0.left), Seg.cell (.int .i64 a0.steps)]) (r : Int) (h : pmem_Device_Lines.f fu a0 = some r) :
  Calls Try.prog 43 (([.pointer (some ⟨G_0, 0, none⟩)] : List Value).toArray) w (fun e w' => ∃ v, e = .returned v ∧ v = .int .i64 r ∧ Gr w w') := by
 unfold pmem_Device_Lines.f at h
 have fB : Gr w w := Fr.refl _ _
 refine calls_cw Try.func43 rfl Try.ntmps43 rfl ?_
 refine cw_seq ?_
 refine cw_region ?_
 refine ol_val (v := .int .i64 0) (by exact xr_assign rfl rfl) rfl rfl rfl ?_
 refine ol_nil ?_
 refine cw_seq ?_
 refine cw_region ?_
 refine ol_val (v := .pointer (some ⟨G_0, 0, none⟩)) (by exact xr_move rfl rfl) rfl rfl rfl ?_
 refine ol_val (v := .pointer (some ⟨G_0, 0, none⟩)) (by exact xr_nilCheck rfl rfl) rfl rfl rfl ?_
 refine ol_val (v := .pointer (some ⟨G_0, 0, none⟩)) (by exact xr_fieldAddr (p := 0) (q := 0) rfl fl139_0 rfl) rfl rfl rfl ?_
 refine ol_val (v := V0_0) (by exact xr_load1 (v := V0_0) rfl ag135 rfl (b_0.seg 0 rfl rfl)) rfl rfl rfl ?_
 refine ol_val (v := .int .i64 (List.length a0.cells : Int)) (by exact xr_lenR rfl Try.underlying135 rfl (R0_0.gr fB)) rfl rfl rfl ?_
 refine ol_val (v := .int .i64 (IntKind.i64.wrap (Int.tdiv (List.length a0.cells : Int) 8))) (by exact xr_quo rfl rfl rfl (by decide)) rfl rfl rfl ?_
 refine ol_val (v := .int .i64 (IntKind.i64.wrap (Int.tdiv (List.length a0.cells : Int) 8))) (by exact xr_assign rfl rfl) rfl rfl rfl ?_
 refine ol_nil ?_
 refine cw_ret ?_
 repeat (first | with_reducible refine thn_r ?_ | with_reducible refine blk_r ?_)
 obtain rfl := Option.some.inj h
 refine fin_ret1 Try.results43 rfl ?_
 exact ⟨_, rfl, rfl, fB⟩
end Go.Proofs.Ytklhbaghbmndeaa

/- rickyard/press.may: its model, and that the Go function computes it: written by gen.py. -/
set_option linter.unusedVariables false
namespace Go.Proofs.Ytklhbaghbmndeaa
open Go Go.Xw
def press_may.f (fu : Nat) (a0 : S_pmem_Device) (a1 : Int) : Option Int := (((if (decide (a1 < 0)) = true then some (true) else ((pmem_Device_Lines.f fu a0 : Option Int).bind fun t4 => some ((decide (a1 ≥ t4))))) : Option Bool).bind fun x1 => (if x1 = true then some (2) else some (0)))
set_option maxRecDepth 100000 in
set_option maxHeartbeats 400000 in
theorem press_may.ok (fu : Nat) (w : World) (a0 : S_pmem_Device) (G_0 : Nat) (V0_0 : Value) (R0_0 : Rd k_pmem_cell w V0_0 a0.cells) (V0_1 : Value) (R0_1 : Rd (kI .i64) w V0_1 a0.plan.list) (b_0 : Blk w G_0 139 [Seg.cell V0_0 R0_0.one, Seg.cell V0_1 R0_1.one, Seg.cell (.int .i64 a0.plan.at_), Seg.cell (.bool a0.off), Seg.cell (.bool a0.armed), Seg.cell (.int .i64 a0.left), Seg.cell (.int .i64 a0.steps)]) (a1 : Int) (r : Int) (h : press_may.f fu a0 a1 = some r) :
  Calls Try.prog 102 (([.pointer (some ⟨G_0, 0, none⟩), .int .i64 a1] : List Value).toArray) w (fun e w' => ∃ v, e = .returned v ∧ v = .int .i64 r ∧ Gr w w') := by
 unfold press_may.f at h
 have fB : Gr w w := Fr.refl _ _
 refine calls_cw Try.func102 rfl Try.ntmps102 rfl ?_
 refine cw_seq ?_
 refine cw_region ?_
 refine ol_val (v := .int .i64 0) (by exact xr_assign rfl rfl) rfl rfl rfl ?_
 refine ol_nil ?_
 refine cw_seq ?_
 refine cw_block ?_
 refine cw_seq ?_
 refine cw_region ?_
 refine ol_val (v := .pointer (some ⟨G_0, 0, none⟩)) (by exact xr_move rfl rfl) rfl rfl rfl ?_
 refine ol_val (v := .bool false) (by exact xr_eqP (b := false) rfl Try.underlying30 rfl rfl (by simp) (by simp)) rfl rfl rfl ?_
 refine ol_val (v := .bool false) (by exact xr_assign rfl rfl) rfl rfl rfl ?_
 refine ol_nil ?_
 refine cw_condF rfl rfl ?_
 refine cw_seq ?_
 obtain ⟨x1, j2, h⟩ := bs h
 refine cw_mid (fun ρ' w' => ρ' 8 = .bool x1 ∧ Gr w w') ?_ ?_
 ·skip
  refine cw_region ?_
  refine ol_val (v := .int .i64 a1) (by exact xr_move rfl rfl) rfl rfl rfl ?_
  refine ol_val (v := .bool (decide (a1 < 0))) (by exact xr_lss rfl rfl rfl) rfl rfl rfl ?_
  refine ol_val (v := .bool (decide (a1 < 0))) (by exact xr_move rfl rfl) rfl rfl rfl ?_
  rcases is j2 with ⟨c3, j2⟩ | ⟨c3, j2⟩
  ·skip
   refine ol_gskip rfl rfl rfl rfl rfl c3 ?_
   refine ol_gskip rfl rfl rfl rfl rfl c3 ?_
   refine ol_gskip rfl rfl rfl rfl rfl c3 ?_
   refine ol_gskip rfl rfl rfl rfl rfl c3 ?_
   refine ol_val (v := .bool true) (by exact xr_pickT rfl rfl c3 rfl) rfl rfl rfl ?_
   refine ol_val (v := .bool true) (by exact xr_assign rfl rfl) rfl rfl rfl ?_
   refine ol_nil ?_
   obtain rfl := Option.some.inj j2
   refine thn_i ?_
   exact ⟨rfl, Fr.refl _ _⟩
  refine ol_gval (v := .int .i64 a1) (by exact xr_move rfl rfl) rfl rfl rfl rfl rfl c3 ?_
  refine ol_gval (v := .pointer (some ⟨G_0, 0, none⟩)) (by exact xr_move rfl rfl) rfl rfl rfl rfl rfl c3 ?_
  obtain ⟨t4, k5, j2⟩ := bs j2
  refine ol_gop (by exact opv_call rfl cal43 (ac rfl an) (pmem_Device_Lines.ok fu _ a0 G_0 V0_0 (R0_0.gr fB) V0_1 (R0_1.gr fB) b_0 _ k5)) rfl rfl rfl rfl rfl c3 ?_
  rintro _ w7 ⟨rfl, q6⟩
  have b_0 := b_0.gr q6
  have fB := fB.gr q6
  refine ol_gval (v := .bool (decide (a1 ≥ t4))) (by exact xr_geq rfl rfl rfl) rfl rfl rfl rfl rfl c3 ?_
  refine ol_val (v := .bool (decide (a1 ≥ t4))) (by exact xr_pickF rfl rfl c3 rfl) rfl rfl rfl ?_
  refine ol_val (v := .bool (decide (a1 ≥ t4))) (by exact xr_assign rfl rfl) rfl rfl rfl ?_
  refine ol_nil ?_
  obtain rfl := Option.some.inj j2
  refine thn_i ?_
  exact ⟨rfl, q6⟩
 rintro ρ8 w9 ⟨e8, q10⟩
 have b_0 := b_0.gr q10
 have fB := fB.gr q10
 rcases is h with ⟨c11, h⟩ | ⟨c11, h⟩
 ·refine cw_condT e8 c11 ?_
  refine cw_seq ?_
  refine cw_region ?_
  refine ol_val (v := .int .i64 2) (by exact xr_assign rfl rfl) rfl rfl rfl ?_
  refine ol_nil ?_
  refine cw_ret ?_
  repeat (first | with_reducible refine thn_r ?_ | with_reducible refine blk_r ?_)
  obtain rfl := Option.some.inj h
  refine fin_ret1 Try.results102 rfl ?_
  exact ⟨_, rfl, rfl, fB⟩
 refine cw_condF e8 c11 ?_
 refine cw_skip ?_
 refine blk_i ?_
 refine cw_seq ?_
 refine cw_region ?_
 refine ol_val (v := .int .i64 0) (by exact xr_assign rfl rfl) rfl rfl rfl ?_
 refine ol_nil ?_
 refine cw_ret ?_
 repeat (first | with_reducible refine thn_r ?_ | with_reducible refine blk_r ?_)
 obtain rfl := Option.some.inj h
 refine fin_ret1 Try.results102 rfl ?_
 exact ⟨_, rfl, rfl, fB⟩
end Go.Proofs.Ytklhbaghbmndeaa

/- (*rickyard/pmem.Device).may: its model, and that the Go function computes it: written by gen.py. -/
set_option linter.unusedVariables false
namespace Go.Proofs.Ytklhbaghbmndeaa
open Go Go.Xw
def pmem_Device_may.f (fu : Nat) (a0 : S_pmem_Device) (a1 : Int) (a2 : Int) : Option Int := (if a0.off = true then some (3) else (if (if (decide (a1 < 0)) = true then true else (decide (a1 ≥ a2))) = true then some (2) else some (0)))
set_option maxRecDepth 100000 in
set_option maxHeartbeats 400000 in
theorem pmem_Device_may.ok (fu : Nat) (w : World) (a0 : S_pmem_Device) (G_0 : Nat) (V0_0 : Value) (R0_0 : Rd k_pmem_cell w V0_0 a0.cells) (V0_1 : Value) (R0_1 : Rd (kI .i64) w V0_1 a0.plan.list) (b_0 : Blk w G_0 139 [Seg.cell V0_0 R0_0.one, Seg.cell V0_1 R0_1.one, Seg.cell (.int .i64 a0.plan.at_), Seg.cell (.bool a0.off), Seg.cell (.bool a0.armed), Seg.cell (.int .i64 a0.left), Seg.cell (.int .i64 a0.steps)]) (a1 : Int) (a2 : Int) (r : Int) (h : pmem_Device_may.f fu a0 a1 a2 = some r) :
  Calls Try.prog 83 (([.pointer (some ⟨G_0, 0, none⟩), .int .i64 a1, .int .i64 a2] : List Value).toArray) w (fun e w' => ∃ v, e = .returned v ∧ v = .int .i64 r ∧ Gr w w') := by
 unfold pmem_Device_may.f at h
 have fB : Gr w w := Fr.refl _ _
 refine calls_cw Try.func83 rfl Try.ntmps83 rfl ?_
 refine cw_seq ?_
 refine cw_region ?_
 refine ol_val (v := .int .i64 0) (by exact xr_assign rfl rfl) rfl rfl rfl ?_
 refine ol_nil ?_
 refine cw_seq ?_
 refine cw_block ?_
 refine cw_seq ?_
 refine cw_region ?_
 refine ol_val (v := .pointer (some ⟨G_0, 0, none⟩)) (by exact xr_move rfl rfl) rfl rfl rfl ?_
 refine ol_val (v := .pointer (some ⟨G_0, 0, none⟩)) (by exact xr_nilCheck rfl rfl) rfl rfl rfl ?_
 refine ol_val (v := .pointer (some ⟨G_0, 3, none⟩)) (by exact xr_fieldAddr (p := 0) (q := 3) rfl fl139_2 rfl) rfl rfl rfl ?_
 refine ol_val (v := .bool a0.off) (by exact xr_load1 (v := .bool a0.off) rfl ag4 rfl (b_0.seg 3 rfl rfl)) rfl rfl rfl ?_
 refine ol_val (v := .bool a0.off) (by exact xr_assign rfl rfl) rfl rfl rfl ?_
 refine ol_nil ?_
 rcases is h with ⟨c1, h⟩ | ⟨c1, h⟩
 ·refine cw_condT rfl c1 ?_
  refine cw_seq ?_
  refine cw_region ?_
  refine ol_val (v := .int .i64 3) (by exact xr_assign rfl rfl) rfl rfl rfl ?_
  refine ol_nil ?_
  refine cw_ret ?_
  repeat (first | with_reducible refine thn_r ?_ | with_reducible refine blk_r ?_)
  obtain rfl := Option.some.inj h
  refine fin_ret1 Try.results83 rfl ?_
  exact ⟨_, rfl, rfl, fB⟩
 refine cw_condF rfl c1 ?_
 refine cw_seq ?_
 refine cw_mid (fun ρ' w' => ρ' 12 = .bool (if (decide (a1 < 0)) = true then true else (decide (a1 ≥ a2))) ∧ w = w') ?_ ?_
 ·skip
  refine cw_region ?_
  refine ol_val (v := .int .i64 a1) (by exact xr_move rfl rfl) rfl rfl rfl ?_
  refine ol_val (v := .bool (decide (a1 < 0))) (by exact xr_lss rfl rfl rfl) rfl rfl rfl ?_
  refine ol_val (v := .bool (decide (a1 < 0))) (by exact xr_move rfl rfl) rfl rfl rfl ?_
  rcases bt (decide (a1 < 0)) with c2 | c2
  ·skip
   refine ol_gskip rfl rfl rfl rfl rfl c2 ?_
   refine ol_gskip rfl rfl rfl rfl rfl c2 ?_
   refine ol_gskip rfl rfl rfl rfl rfl c2 ?_
   refine ol_val (v := .bool true) (by exact xr_pickT rfl rfl c2 rfl) rfl rfl rfl ?_
   refine ol_val (v := .bool true) (by exact xr_assign rfl rfl) rfl rfl rfl ?_
   refine ol_nil ?_
   refine thn_i ?_
   exact ⟨(rfl).trans (congrArg (fun z => (.bool z : Value)) (show true = (if (decide (a1 < 0)) = true then true else (decide (a1 ≥ a2))) from by rw [ite_t c2])), rfl⟩
  refine ol_gval (v := .int .i64 a1) (by exact xr_move rfl rfl) rfl rfl rfl rfl rfl c2 ?_
  refine ol_gval (v := .int .i64 a2) (by exact xr_move rfl rfl) rfl rfl rfl rfl rfl c2 ?_
  refine ol_gval (v := .bool (decide (a1 ≥ a2))) (by exact xr_geq rfl rfl rfl) rfl rfl rfl rfl rfl c2 ?_
  refine ol_val (v := .bool (decide (a1 ≥ a2))) (by exact xr_pickF rfl rfl c2 rfl) rfl rfl rfl ?_
  refine ol_val (v := .bool (decide (a1 ≥ a2))) (by exact xr_assign rfl rfl) rfl rfl rfl ?_
  refine ol_nil ?_
  refine thn_i ?_
  exact ⟨(rfl).trans (congrArg (fun z => (.bool z : Value)) (show (decide (a1 ≥ a2)) = (if (decide (a1 < 0)) = true then true else (decide (a1 ≥ a2))) from by rw [ite_f c2])), rfl⟩
 rintro ρ3 _ ⟨e12, rfl⟩
 rcases is h with ⟨c4, h⟩ | ⟨c4, h⟩
 ·refine cw_condT e12 c4 ?_
  refine cw_seq ?_
  refine cw_region ?_
  refine ol_val (v := .int .i64 2) (by exact xr_assign rfl rfl) rfl rfl rfl ?_
  refine ol_nil ?_
  refine cw_ret ?_
  repeat (first | with_reducible refine thn_r ?_ | with_reducible refine blk_r ?_)
  obtain rfl := Option.some.inj h
  refine fin_ret1 Try.results83 rfl ?_
  exact ⟨_, rfl, rfl, fB⟩
 refine cw_condF e12 c4 ?_
 refine cw_skip ?_
 refine blk_i ?_
 refine cw_seq ?_
 refine cw_region ?_
 refine ol_val (v := .int .i64 0) (by exact xr_assign rfl rfl) rfl rfl rfl ?_
 refine ol_nil ?_
 refine cw_ret ?_
 repeat (first | with_reducible refine thn_r ?_ | with_reducible refine blk_r ?_)
 obtain rfl := Option.some.inj h
 refine fin_ret1 Try.results83 rfl ?_
 exact ⟨_, rfl, rfl, fB⟩
end Go.Proofs.Ytklhbaghbmndeaa

/- (*rickyard/pmem.plan).next: its model, and that the Go function computes it: written by gen.py. -/
set_option linter.unusedVariables false
namespace Go.Proofs.Ytklhbaghbmndeaa
open Go Go.Xw
def pmem_plan_next__i0.f (fu : Nat) (a0 : S_pmem_plan) : Option (Int × S_pmem_plan) := (if (decide ((List.length a0.list : Int) = 0)) = true then some ((-1), a0) else (if 0 ≤ a0.at_ ∧ a0.at_ < (List.length a0.list : Int) then (if (List.length a0.list : Int) ≠ 0 then some ((ix a0.list a0.at_), (⟨a0.list, (Int.tmod (IntKind.i64.wrap (a0.at_ + 1)) (List.length a0.list : Int))⟩ : S_pmem_plan)) else none) else none))
set_option maxRecDepth 100000 in
set_option maxHeartbeats 400000 in
theorem pmem_plan_next__i0.ok (fu : Nat) (w : World) (a0 : S_pmem_plan) (G_0 : Nat) (T_0 : TypeId) (X_0 Y_0 : List Value) (V0_0 : Value) (R0_0 : Rd (kI .i64) w V0_0 a0.list) (N0_0 : OffR V0_0 a0.list G_0) (b_0 : SubB w G_0 T_0 X_0 [Seg.cell V0_0 R0_0.one, Seg.cell (.int .i64 a0.at_)] Y_0) (r : Int × S_pmem_plan) (h : pmem_plan_next__i0.f fu a0 = some r) :
  Calls Try.prog 123 (([.pointer (some ⟨G_0, List.length X_0, none⟩)] : List Value).toArray) w (fun e w' => ∃ v, e = .returned v ∧ v = .int .i64 r.1 ∧ SubB w' G_0 T_0 X_0 [Seg.cell V0_0 R0_0.one, Seg.cell (.int .i64 r.2.at_)] Y_0 ∧ Fr (fun j => j = G_0) w w') := by
 unfold pmem_plan_next__i0.f at h
 have fB : Fr (fun j => j = G_0) w w := Fr.refl _ _
 refine calls_cw Try.func123 rfl Try.ntmps123 rfl ?_
 refine cw_seq ?_
 refine cw_region ?_
 refine ol_val (v := .int .i64 0) (by exact xr_assign rfl rfl) rfl rfl rfl ?_
 refine ol_nil ?_
 refine cw_seq ?_
 refine cw_seq ?_
 refine cw_region ?_
 refine ol_val (v := .pointer (some ⟨G_0, List.length X_0, none⟩)) (by exact xr_move rfl rfl) rfl rfl rfl ?_
 refine ol_val (v := .pointer (some ⟨G_0, List.length X_0, none⟩)) (by exact xr_nilCheck rfl rfl) rfl rfl rfl ?_
 refine ol_val (v := .pointer (some ⟨G_0, List.length X_0 + 0, none⟩)) (by exact xr_fieldAddr (p := List.length X_0) (q := 0) rfl fl137_0 rfl) rfl rfl rfl ?_
 refine ol_val (v := V0_0) (by exact xr_load1 (v := V0_0) rfl ag25 rfl (b_0.seg 0 rfl rfl)) rfl rfl rfl ?_
 refine ol_val (v := .int .i64 (List.length a0.list : Int)) (by exact xr_lenR rfl Try.underlying25 rfl R0_0) rfl rfl rfl ?_
 refine ol_val (v := .bool (decide ((List.length a0.list : Int) = 0))) (by exact xr_eqI rfl Try.underlying3 rfl rfl rfl) rfl rfl rfl ?_
 refine ol_nil ?_
 rcases is h with ⟨c1, h⟩ | ⟨c1, h⟩
 ·refine cw_condT rfl c1 ?_
  refine cw_seq ?_
  refine cw_region ?_
  refine ol_val (v := .int .i64 (-1)) (by exact xr_assign rfl rfl) rfl rfl rfl ?_
  refine ol_nil ?_
  refine cw_ret ?_
  repeat (first | with_reducible refine thn_r ?_ | with_reducible refine blk_r ?_)
  obtain rfl := Option.some.inj h
  refine fin_ret1 Try.results123 rfl ?_
  exact ⟨_, rfl, rfl, b_0, fB⟩
 refine cw_condF rfl c1 ?_
 refine cw_skip ?_
 refine cw_seq ?_
 refine cw_drawL 8 [fun vz wz => vz = (.pointer (some ⟨G_0, List.length X_0, none⟩) : Value), fun vz wz => vz = (.pointer (some ⟨G_0, List.length X_0, none⟩) : Value), fun vz wz => vz = (.pointer (some ⟨G_0, List.length X_0 + 0, none⟩) : Value), fun vz wz => vz = (V0_0 : Value), fun vz wz => vz = (.pointer (some ⟨G_0, List.length X_0, none⟩) : Value), fun vz wz => vz = (.pointer (some ⟨G_0, List.length X_0, none⟩) : Value), fun vz wz => vz = (.pointer (some ⟨G_0, List.length X_0 + 1, none⟩) : Value), fun vz wz => vz = (.int .i64 a0.at_ : Value)] mo rfl ⟨fun _ _ _ h _ => h, fun _ _ _ h _ => h, fun _ _ _ h _ => h, fun _ _ _ h _ => h, fun _ _ _ h _ => h, fun _ _ _ h _ => h, fun _ _ _ h _ => h, fun _ _ _ h _ => h, trivial⟩ ?_ ?_
 ·refine ⟨?_, ?_, ?_, ?_, ?_, ?_, ?_, ?_, trivial⟩
  ·intro ρz wz hz hk hd
   exact sk_val (v := .pointer (some ⟨G_0, List.length X_0, none⟩)) (by exact xr_move rfl ((hk 0 rfl).trans rfl)) rfl rfl
  ·intro ρz wz hz hk hd
   have d10 := hd 0 rfl 10 rfl
   exact sk_val (v := .pointer (some ⟨G_0, List.length X_0, none⟩)) (by exact xr_nilCheck rfl d10) rfl rfl
  ·intro ρz wz hz hk hd
   have d11 := hd 1 rfl 11 rfl
   exact sk_val (v := .pointer (some ⟨G_0, List.length X_0 + 0, none⟩)) (by exact xr_fieldAddr (p := List.length X_0) (q := 0) rfl fl137_0 d11) rfl rfl
  ·intro ρz wz hz hk hd
   have d12 := hd 2 rfl 12 rfl
   exact sk_val (v := V0_0) (by exact xr_load1 (v := V0_0) rfl ag25 d12 ((b_0.gr hz).seg 0 rfl rfl)) rfl rfl
  ·intro ρz wz hz hk hd
   exact sk_val (v := .pointer (some ⟨G_0, List.length X_0, none⟩)) (by exact xr_move rfl ((hk 0 rfl).trans rfl)) rfl rfl
  ·intro ρz wz hz hk hd
   have d14 := hd 4 rfl 14 rfl
   exact sk_val (v := .pointer (some ⟨G_0, List.length X_0, none⟩)) (by exact xr_nilCheck rfl d14) rfl rfl
  ·intro ρz wz hz hk hd
   have d15 := hd 5 rfl 15 rfl
   exact sk_val (v := .pointer (some ⟨G_0, List.length X_0 + 1, none⟩)) (by exact xr_fieldAddr (p := List.length X_0) (q := 1) rfl fl137_1 d15) rfl rfl
  intro ρz wz hz hk hd
  have d16 := hd 6 rfl 16 rfl
  exact sk_val (v := .int .i64 a0.at_) (by exact xr_load1 (v := .int .i64 a0.at_) rfl ag3 d16 ((b_0.gr hz).seg 1 rfl rfl)) rfl rfl
 intro ρ2 w3 q4 hk hd
 have e0 := (hk 0 rfl).trans rfl
 have e13 := hd 3 rfl 13 rfl
 have e17 := hd 7 rfl 17 rfl
 have b_0 := b_0.gr q4
 have R0_0 := R0_0.gr q4
 have fB := fB.gr q4
 obtain ⟨g5, h⟩ := gs h
 refine ol_val (v := .pointer (some ⟨(sb V0_0), so V0_0 + Int.toNat a0.at_ * 1, none⟩)) (by exact xr_indexR (K := (kI .i64)) (v := V0_0) rfl Try.underlying25 sz3 e13 R0_0 e17 g5.1 g5.2) rfl rfl rfl ?_
 refine ol_val (v := .int .i64 (ix a0.list a0.at_)) (by exact xr_load1 (v := .int .i64 (ix a0.list a0.at_)) rfl ag3 rfl (R0_0.elem g5.1 g5.2)) rfl rfl rfl ?_
 refine ol_val (v := .int .i64 (ix a0.list a0.at_)) (by exact xr_assign rfl rfl) rfl rfl rfl ?_
 refine ol_nil ?_
 refine cw_seq ?_
 obtain ⟨g6, h⟩ := gs h
 refine cw_drawL 12 [fun vz wz => vz = (.pointer (some ⟨G_0, List.length X_0, none⟩) : Value), fun vz wz => vz = (.pointer (some ⟨G_0, List.length X_0, none⟩) : Value), fun vz wz => vz = (.pointer (some ⟨G_0, List.length X_0, none⟩) : Value), fun vz wz => vz = (.pointer (some ⟨G_0, List.length X_0 + 1, none⟩) : Value), fun vz wz => vz = (.int .i64 a0.at_ : Value), fun vz wz => vz = (.int .i64 (IntKind.i64.wrap (a0.at_ + 1)) : Value), fun vz wz => vz = (.pointer (some ⟨G_0, List.length X_0, none⟩) : Value), fun vz wz => vz = (.pointer (some ⟨G_0, List.length X_0, none⟩) : Value), fun vz wz => vz = (.pointer (some ⟨G_0, List.length X_0 + 0, none⟩) : Value), fun vz wz => vz = (V0_0 : Value), fun vz wz => vz = (.int .i64 (List.length a0.list : Int) : Value), fun vz wz => vz = (.int .i64 (Int.tmod (IntKind.i64.wrap (a0.at_ + 1)) (List.length a0.list : Int)) : Value)] mo rfl ⟨fun _ _ _ h _ => h, fun _ _ _ h _ => h, fun _ _ _ h _ => h, fun _ _ _ h _ => h, fun _ _ _ h _ => h, fun _ _ _ h _ => h, fun _ _ _ h _ => h, fun _ _ _ h _ => h, fun _ _ _ h _ => h, fun _ _ _ h _ => h, fun _ _ _ h _ => h, fun _ _ _ h _ => h, trivial⟩ ?_ ?_
 ·refine ⟨?_, ?_, ?_, ?_, ?_, ?_, ?_, ?_, ?_, ?_, ?_, ?_, trivial⟩
  ·intro ρz wz hz hk hd
   exact sk_val (v := .pointer (some ⟨G_0, List.length X_0, none⟩)) (by exact xr_move rfl ((hk 0 rfl).trans e0)) rfl rfl
  ·intro ρz wz hz hk hd
   exact sk_val (v := .pointer (some ⟨G_0, List.length X_0, none⟩)) (by exact xr_move rfl ((hk 0 rfl).trans e0)) rfl rfl
  ·intro ρz wz hz hk hd
   have d21 := hd 1 rfl 21 rfl
   exact sk_val (v := .pointer (some ⟨G_0, List.length X_0, none⟩)) (by exact xr_nilCheck rfl d21) rfl rfl
  ·intro ρz wz hz hk hd
   have d22 := hd 2 rfl 22 rfl
   exact sk_val (v := .pointer (some ⟨G_0, List.length X_0 + 1, none⟩)) (by exact xr_fieldAddr (p := List.length X_0) (q := 1) rfl fl137_1 d22) rfl rfl
  ·intro ρz wz hz hk hd
   have d23 := hd 3 rfl 23 rfl
   exact sk_val (v := .int .i64 a0.at_) (by exact xr_load1 (v := .int .i64 a0.at_) rfl ag3 d23 ((b_0.gr hz).seg 1 rfl rfl)) rfl rfl
  ·intro ρz wz hz hk hd
   have d24 := hd 4 rfl 24 rfl
   exact sk_val (v := .int .i64 (IntKind.i64.wrap (a0.at_ + 1))) (by exact xr_add rfl d24 rfl) rfl rfl
  ·intro ρz wz hz hk hd
   exact sk_val (v := .pointer (some ⟨G_0, List.length X_0, none⟩)) (by exact xr_move rfl ((hk 0 rfl).trans e0)) rfl rfl
  ·intro ρz wz hz hk hd
   have d26 := hd 6 rfl 26 rfl
   exact sk_val (v := .pointer (some ⟨G_0, List.length X_0, none⟩)) (by exact xr_nilCheck rfl d26) rfl rfl
  ·intro ρz wz hz hk hd
   have d27 := hd 7 rfl 27 rfl
   exact sk_val (v := .pointer (some ⟨G_0, List.length X_0 + 0, none⟩)) (by exact xr_fieldAddr (p := List.length X_0) (q := 0) rfl fl137_0 d27) rfl rfl
  ·intro ρz wz hz hk hd
   have d28 := hd 8 rfl 28 rfl
   exact sk_val (v := V0_0) (by exact xr_load1 (v := V0_0) rfl ag25 d28 ((b_0.gr hz).seg 0 rfl rfl)) rfl rfl
  ·intro ρz wz hz hk hd
   have d29 := hd 9 rfl 29 rfl
   exact sk_val (v := .int .i64 (List.length a0.list : Int)) (by exact xr_lenR rfl Try.underlying25 d29 (R0_0.gr hz)) rfl rfl
  intro ρz wz hz hk hd
  have d25 := hd 5 rfl 25 rfl
  have d30 := hd 10 rfl 30 rfl
  exact sk_val (by exact xr_rem rfl d25 d30 g6) rfl rfl
 intro ρ7 w8 q9 hk hd
 have e3 := (hk 3 rfl).trans rfl
 have e20 := hd 0 rfl 20 rfl
 have e31 := hd 11 rfl 31 rfl
 have b_0 := b_0.gr q9
 have R0_0 := R0_0.gr q9
 have fB := fB.gr q9
 refine ol_val (v := .pointer (some ⟨G_0, List.length X_0, none⟩)) (by exact xr_nilCheck rfl e20) rfl rfl rfl ?_
 refine ol_val (v := .pointer (some ⟨G_0, List.length X_0 + 1, none⟩)) (by exact xr_fieldAddr (p := List.length X_0) (q := 1) rfl fl137_1 rfl) rfl rfl rfl ?_
 refine ol_op0 (by exact opv_storeSub (ss' := [Seg.cell V0_0 R0_0.one, Seg.cell (.int .i64 (Int.tmod (IntKind.i64.wrap (a0.at_ + 1)) (List.length a0.list : Int)))]) (xs := cellsOf [Seg.cell (.int .i64 (Int.tmod (IntKind.i64.wrap (a0.at_ + 1)) (List.length a0.list : Int)))]) rfl sz3 rfl e31 rfl (len_cellsOf _) (one_cellsOf _) b_0 (Spl.segs _ 1 1 [Seg.cell (.int .i64 (Int.tmod (IntKind.i64.wrap (a0.at_ + 1)) (List.length a0.list : Int)))] rfl rfl)) rfl rfl ?_
 rintro _ w11 ⟨b_0, q10⟩
 have R0_0 := R0_0.wr q10 N0_0
 have fB := fB.wrS q10 rfl
 refine ol_nil ?_
 refine cw_seq ?_
 refine cw_region ?_
 refine ol_val (v := .int .i64 (ix a0.list a0.at_)) (by exact xr_move rfl e3) rfl rfl rfl ?_
 refine ol_val (v := .int .i64 (ix a0.list a0.at_)) (by exact xr_assign rfl rfl) rfl rfl rfl ?_
 refine ol_nil ?_
 refine cw_ret ?_
 repeat (first | with_reducible refine thn_r ?_ | with_reducible refine blk_r ?_)
 obtain rfl := Option.some.inj h
 refine fin_ret1 Try.results123 rfl ?_
 exact ⟨_, rfl, rfl, b_0, fB⟩
end Go.Proofs.Ytklhbaghbmndeaa

/- (*rickyard/pmem.Device).step: its model, and that the Go function computes it: written by gen.py. -/
set_option linter.unusedVariables false
namespace Go.Proofs.Ytklhbaghbmndeaa
open Go Go.Xw
def pmem_Device_step.f (fu : Nat) (a0 : S_pmem_Device) : Option S_pmem_Device := ((pmem_plan_next__i0.f fu a0.plan : Option (Int × S_pmem_plan)).bind fun t11 => (((if (if (decide (t11.1 ≥ 0)) = true then (decide ((List.length a0.cells : Int) > 0)) else false) = true then (if (List.length a0.cells : Int) ≠ 0 then (if 0 ≤ (Int.tmod t11.1 (List.length a0.cells : Int)) ∧ (Int.tmod t11.1 (List.length a0.cells : Int)) < (List.length a0.cells : Int) then ((pmem_cell_keep__i0.f fu (ix a0.cells (Int.tmod t11.1 (List.length a0.cells : Int))) ((ix a0.cells (Int.tmod t11.1 (List.length a0.cells : Int))).stored) : Option S_pmem_cell).bind fun t35 => some ((List.set a0.cells (Int.toNat (Int.tmod t11.1 (List.length a0.cells : Int))) t35))) else none) else none) else some (a0.cells)) : Option (List S_pmem_cell)).bind fun x20 => (((if a0.armed = true then some ((decide ((IntKind.i64.wrap (a0.left - 1)) = 0)), (IntKind.i64.wrap (a0.left - 1))) else some (a0.off, a0.left)) : Option (Bool × Int)).bind fun x45 => some ((⟨x20, (⟨a0.plan.list, t11.2.at_⟩ : S_pmem_plan), x45.1, a0.armed, x45.2, (IntKind.i64.wrap (a0.steps + 1))⟩ : S_pmem_Device)))))
set_option maxRecDepth 100000 in
set_option maxHeartbeats 400000 in
theorem pmem_Device_step.ok (fu : Nat) (w : World) (a0 : S_pmem_Device) (G_0 : Nat) (V0_0 : Value) (O0_0 : Own k_pmem_cell 142 w 0 V0_0 a0.cells) (V0_1 : Value) (O0_1 : Own (kI .i64) 3 w 0 V0_1 a0.plan.list) (b_0 : Blk w G_0 139 [Seg.cell V0_0 O0_0.one, Seg.cell V0_1 O0_1.one, Seg.cell (.int .i64 a0.plan.at_), Seg.cell (.bool a0.off), Seg.cell (.bool a0.armed), Seg.cell (.int .i64 a0.left), Seg.cell (.int .i64 a0.steps)]) (r : S_pmem_Device) (h : pmem_Device_step.f fu a0 = some r) :
  Calls Try.prog 84 (([.pointer (some ⟨G_0, 0, none⟩)] : List Value).toArray) w (fun e w' => ∃ v, e = .returned v ∧ ∃ u1 : Value, ∃ u4 : Value, ∃ o2 : Own k_pmem_cell 142 w' 0 u1 r.cells, ∃ m3 : ∀ g, Value.ownBlock u1 = some g → w.heap.size ≤ g ∨ (g = G_0 ∨ some g = Value.ownBlock V0_0 ∨ some g = Value.ownBlock V0_1), ∃ o5 : Own (kI .i64) 3 w' 0 u4 r.plan.list, ∃ m6 : ∀ g, Value.ownBlock u4 = some g → w.heap.size ≤ g ∨ (g = G_0 ∨ some g = Value.ownBlock V0_0 ∨ some g = Value.ownBlock V0_1), v = .tuple #[] ∧ Blk w' G_0 139 [Seg.cell u1 o2.one, Seg.cell u4 o5.one, Seg.cell (.int .i64 r.plan.at_), Seg.cell (.bool r.off), Seg.cell (.bool r.armed), Seg.cell (.int .i64 r.left), Seg.cell (.int .i64 r.steps)] ∧ Fr (fun j => j = G_0 ∨ some j = Value.ownBlock V0_0 ∨ some j = Value.ownBlock V0_1) w w') := by
 unfold pmem_Device_step.f at h
 have fB : Fr (fun j => j = G_0 ∨ some j = Value.ownBlock V0_0 ∨ some j = Value.ownBlock V0_1) w w := Fr.refl _ _
 have M0_0 : ∀ g, Value.ownBlock V0_0 = some g → w.heap.size ≤ g ∨ (g = G_0 ∨ some g = Value.ownBlock V0_0 ∨ some g = Value.ownBlock V0_1) := fun g hg => .inr (.inr (.inl hg.symm))
 have M0_1 : ∀ g, Value.ownBlock V0_1 = some g → w.heap.size ≤ g ∨ (g = G_0 ∨ some g = Value.ownBlock V0_0 ∨ some g = Value.ownBlock V0_1) := fun g hg => .inr (.inr (.inr hg.symm))
 refine calls_cw Try.func84 rfl Try.ntmps84 rfl ?_
 refine cw_seq ?_
 refine cw_region ?_
 refine ol_val (v := .pointer (some ⟨G_0, 0, none⟩)) (by exact xr_move rfl rfl) rfl rfl rfl ?_
 refine ol_val (v := .pointer (some ⟨G_0, 0, none⟩)) (by exact xr_nilCheck rfl rfl) rfl rfl rfl ?_
 refine ol_val (v := .pointer (some ⟨G_0, 6, none⟩)) (by exact xr_fieldAddr (p := 0) (q := 6) rfl fl139_5 rfl) rfl rfl rfl ?_
 refine ol_val (v := .int .i64 a0.steps) (by exact xr_load1 (v := .int .i64 a0.steps) rfl ag3 rfl (b_0.seg 6 rfl rfl)) rfl rfl rfl ?_
 refine ol_val (v := .int .i64 (IntKind.i64.wrap (a0.steps + 1))) (by exact xr_add rfl rfl rfl) rfl rfl rfl ?_
 refine ol_val (v := .pointer (some ⟨G_0, 0, none⟩)) (by exact xr_nilCheck rfl rfl) rfl rfl rfl ?_
 refine ol_val (v := .pointer (some ⟨G_0, 6, none⟩)) (by exact xr_fieldAddr (p := 0) (q := 6) rfl fl139_5 rfl) rfl rfl rfl ?_
 have f8 := off_ty b_0 O0_0 (by decide)
 have f9 := off_ty b_0 O0_1 (by decide)
 refine ol_op0 (by exact opv_store (ss' := [Seg.cell V0_0 O0_0.one, Seg.cell V0_1 O0_1.one, Seg.cell (.int .i64 a0.plan.at_), Seg.cell (.bool a0.off), Seg.cell (.bool a0.armed), Seg.cell (.int .i64 a0.left), Seg.cell (.int .i64 (IntKind.i64.wrap (a0.steps + 1)))]) (xs := cellsOf [Seg.cell (.int .i64 (IntKind.i64.wrap (a0.steps + 1)))]) rfl sz3 rfl rfl rfl (len_cellsOf _) (one_cellsOf _) b_0 (Spl.segs _ 6 1 [Seg.cell (.int .i64 (IntKind.i64.wrap (a0.steps + 1)))] rfl rfl)) rfl rfl ?_
 rintro _ w10 ⟨b_0, q7⟩
 have O0_0 := O0_0.wr q7 f8
 have O0_1 := O0_1.wr q7 f9
 have fB := fB.wrS q7 (.inl rfl)
 refine ol_nil ?_
 refine cw_seq ?_
 refine cw_seq ?_
 refine cw_region ?_
 refine ol_val (v := .pointer (some ⟨G_0, 0, none⟩)) (by exact xr_move rfl rfl) rfl rfl rfl ?_
 refine ol_val (v := .pointer (some ⟨G_0, 0, none⟩)) (by exact xr_nilCheck rfl rfl) rfl rfl rfl ?_
 refine ol_val (v := .pointer (some ⟨G_0, 1, none⟩)) (by exact xr_fieldAddr (p := 0) (q := 1) rfl fl139_1 rfl) rfl rfl rfl ?_
 obtain ⟨t11, k12, h⟩ := bs h
 have f15 := off_ty b_0 O0_0 (by decide)
 have f16 := off_ty b_0 O0_1 (by decide)
 refine ol_op (by exact opv_call rfl cal123 (ac (ptrE (q := List.length (cellsOf [Seg.cell V0_0 O0_0.one])) rfl (len_cellsOf _)) an) (pmem_plan_next__i0.ok fu _ a0.plan G_0 139 (cellsOf [Seg.cell V0_0 O0_0.one]) _ V0_1 O0_1.rd (OffR.own O0_1 (off_ty b_0 O0_1 (by decide))) (b_0.sub 1 2) _ k12)) rfl rfl rfl ?_
 rintro _ w17 ⟨rfl, b14, q13⟩
 have b_0 : Blk w17 G_0 139 [Seg.cell V0_0 O0_0.one, Seg.cell V0_1 O0_1.one, Seg.cell (.int .i64 t11.2.at_), Seg.cell (.bool a0.off), Seg.cell (.bool a0.armed), Seg.cell (.int .i64 a0.left), Seg.cell (.int .i64 (IntKind.i64.wrap (a0.steps + 1)))] := Blk.unsub (pre := [Seg.cell V0_0 O0_0.one]) (mid := [Seg.cell V0_1 O0_1.one, Seg.cell (.int .i64 t11.2.at_)]) (post := [Seg.cell (.bool a0.off), Seg.cell (.bool a0.armed), Seg.cell (.int .i64 a0.left), Seg.cell (.int .i64 (IntKind.i64.wrap (a0.steps + 1)))]) b14
 have O0_0 := O0_0.wr q13 f15
 have O0_1 := O0_1.wr q13 f16
 have fB := fB.wrS q13 (.inl rfl)
 refine ol_val (v := .int .i64 t11.1) (by exact xr_assign rfl rfl) rfl rfl rfl ?_
 refine ol_nil ?_
 refine cw_seq ?_
 refine cw_mid (fun ρ' w' => ρ' 0 = .pointer (some ⟨G_0, 0, none⟩) ∧ ρ' 2 = .int .i64 t11.1 ∧ ρ' 24 = .bool (if (decide (t11.1 ≥ 0)) = true then (decide ((List.length a0.cells : Int) > 0)) else false) ∧ w17 = w') ?_ ?_
 ·skip
  refine cw_region ?_
  refine ol_val (v := .int .i64 t11.1) (by exact xr_move rfl rfl) rfl rfl rfl ?_
  refine ol_val (v := .bool (decide (t11.1 ≥ 0))) (by exact xr_geq rfl rfl rfl) rfl rfl rfl ?_
  refine ol_val (v := .bool (decide (t11.1 ≥ 0))) (by exact xr_move rfl rfl) rfl rfl rfl ?_
  rcases bt (decide (t11.1 ≥ 0)) with c18 | c18
  ·skip
   refine ol_gval (v := .pointer (some ⟨G_0, 0, none⟩)) (by exact xr_move rfl rfl) rfl rfl rfl rfl rfl c18 ?_
   refine ol_gval (v := .pointer (some ⟨G_0, 0, none⟩)) (by exact xr_nilCheck rfl rfl) rfl rfl rfl rfl rfl c18 ?_
   refine ol_gval (v := .pointer (some ⟨G_0, 0, none⟩)) (by exact xr_fieldAddr (p := 0) (q := 0) rfl fl139_0 rfl) rfl rfl rfl rfl rfl c18 ?_
   refine ol_gval (v := V0_0) (by exact xr_load1 (v := V0_0) rfl ag135 rfl (b_0.seg 0 rfl rfl)) rfl rfl rfl rfl rfl c18 ?_
   refine ol_gval (v := .int .i64 (List.length a0.cells : Int)) (by exact xr_lenR rfl Try.underlying135 rfl O0_0.rd) rfl rfl rfl rfl rfl c18 ?_
   refine ol_gval (v := .bool (decide ((List.length a0.cells : Int) > 0))) (by exact xr_gtr rfl rfl rfl) rfl rfl rfl rfl rfl c18 ?_
   refine ol_val (v := .bool (decide ((List.length a0.cells : Int) > 0))) (by exact xr_pickT rfl rfl c18 rfl) rfl rfl rfl ?_
   refine ol_nil ?_
   refine thn_i ?_
   exact ⟨rfl, rfl, (rfl).trans (congrArg (fun z => (.bool z : Value)) (show (decide ((List.length a0.cells : Int) > 0)) = (if (decide (t11.1 ≥ 0)) = true then (decide ((List.length a0.cells : Int) > 0)) else false) from by rw [ite_t c18])), rfl⟩
  refine ol_gskip rfl rfl rfl rfl rfl c18 ?_
  refine ol_gskip rfl rfl rfl rfl rfl c18 ?_
  refine ol_gskip rfl rfl rfl rfl rfl c18 ?_
  refine ol_gskip rfl rfl rfl rfl rfl c18 ?_
  refine ol_gskip rfl rfl rfl rfl rfl c18 ?_
  refine ol_gskip rfl rfl rfl rfl rfl c18 ?_
  refine ol_val (v := .bool false) (by exact xr_pickF rfl rfl c18 rfl) rfl rfl rfl ?_
  refine ol_nil ?_
  refine thn_i ?_
  exact ⟨rfl, rfl, (rfl).trans (congrArg (fun z => (.bool z : Value)) (show false = (if (decide (t11.1 ≥ 0)) = true then (decide ((List.length a0.cells : Int) > 0)) else false) from by rw [ite_f c18])), rfl⟩
 rintro ρ19 _ ⟨e0, e2, e24, rfl⟩
 obtain ⟨x20, j21, h22⟩ := bs h
 refine cw_mid (fun ρ' w' => ∃ O0_0 : Own k_pmem_cell 142 w' 0 V0_0 x20, ∃ O0_1 : Own (kI .i64) 3 w' 0 V0_1 a0.plan.list, ρ' 0 = .pointer (some ⟨G_0, 0, none⟩) ∧ Blk w' G_0 139 [Seg.cell V0_0 O0_0.one, Seg.cell V0_1 O0_1.one, Seg.cell (.int .i64 t11.2.at_), Seg.cell (.bool a0.off), Seg.cell (.bool a0.armed), Seg.cell (.int .i64 a0.left), Seg.cell (.int .i64 (IntKind.i64.wrap (a0.steps + 1)))] ∧ Fr (fun j => j = G_0 ∨ some j = Value.ownBlock V0_0 ∨ some j = Value.ownBlock V0_1) w w') ?_ ?_
 ·have h := j21
  rcases is h with ⟨c23, h⟩ | ⟨c23, h⟩
  ·refine cw_condT e24 c23 ?_
   refine cw_seq ?_
   obtain ⟨g24, h⟩ := gs h
   refine cw_drawL 11 [fun vz wz => vz = (.pointer (some ⟨G_0, 0, none⟩) : Value), fun vz wz => vz = (.pointer (some ⟨G_0, 0, none⟩) : Value), fun vz wz => vz = (.pointer (some ⟨G_0, 0, none⟩) : Value), fun vz wz => vz = (V0_0 : Value), fun vz wz => vz = (.int .i64 t11.1 : Value), fun vz wz => vz = (.pointer (some ⟨G_0, 0, none⟩) : Value), fun vz wz => vz = (.pointer (some ⟨G_0, 0, none⟩) : Value), fun vz wz => vz = (.pointer (some ⟨G_0, 0, none⟩) : Value), fun vz wz => vz = (V0_0 : Value), fun vz wz => vz = (.int .i64 (List.length a0.cells : Int) : Value), fun vz wz => vz = (.int .i64 (Int.tmod t11.1 (List.length a0.cells : Int)) : Value)] mo rfl ⟨fun _ _ _ h _ => h, fun _ _ _ h _ => h, fun _ _ _ h _ => h, fun _ _ _ h _ => h, fun _ _ _ h _ => h, fun _ _ _ h _ => h, fun _ _ _ h _ => h, fun _ _ _ h _ => h, fun _ _ _ h _ => h, fun _ _ _ h _ => h, fun _ _ _ h _ => h, trivial⟩ ?_ ?_
   ·refine ⟨?_, ?_, ?_, ?_, ?_, ?_, ?_, ?_, ?_, ?_, ?_, trivial⟩
    ·intro ρz wz hz hk hd
     exact sk_val (v := .pointer (some ⟨G_0, 0, none⟩)) (by exact xr_move rfl ((hk 0 rfl).trans e0)) rfl rfl
    ·intro ρz wz hz hk hd
     have d25 := hd 0 rfl 25 rfl
     exact sk_val (v := .pointer (some ⟨G_0, 0, none⟩)) (by exact xr_nilCheck rfl d25) rfl rfl
    ·intro ρz wz hz hk hd
     have d26 := hd 1 rfl 26 rfl
     exact sk_val (v := .pointer (some ⟨G_0, 0, none⟩)) (by exact xr_fieldAddr (p := 0) (q := 0) rfl fl139_0 d26) rfl rfl
    ·intro ρz wz hz hk hd
     have d27 := hd 2 rfl 27 rfl
     exact sk_val (v := V0_0) (by exact xr_load1 (v := V0_0) rfl ag135 d27 ((b_0.gr hz).seg 0 rfl rfl)) rfl rfl
    ·intro ρz wz hz hk hd
     exact sk_val (v := .int .i64 t11.1) (by exact xr_move rfl ((hk 2 rfl).trans e2)) rfl rfl
    ·intro ρz wz hz hk hd
     exact sk_val (v := .pointer (some ⟨G_0, 0, none⟩)) (by exact xr_move rfl ((hk 0 rfl).trans e0)) rfl rfl
    ·intro ρz wz hz hk hd
     have d30 := hd 5 rfl 30 rfl
     exact sk_val (v := .pointer (some ⟨G_0, 0, none⟩)) (by exact xr_nilCheck rfl d30) rfl rfl
    ·intro ρz wz hz hk hd
     have d31 := hd 6 rfl 31 rfl
     exact sk_val (v := .pointer (some ⟨G_0, 0, none⟩)) (by exact xr_fieldAddr (p := 0) (q := 0) rfl fl139_0 d31) rfl rfl
    ·intro ρz wz hz hk hd
     have d32 := hd 7 rfl 32 rfl
     exact sk_val (v := V0_0) (by exact xr_load1 (v := V0_0) rfl ag135 d32 ((b_0.gr hz).seg 0 rfl rfl)) rfl rfl
    ·intro ρz wz hz hk hd
     have d33 := hd 8 rfl 33 rfl
     exact sk_val (v := .int .i64 (List.length a0.cells : Int)) (by exact xr_lenR rfl Try.underlying135 d33 (O0_0.gr hz).rd) rfl rfl
    intro ρz wz hz hk hd
    have d29 := hd 4 rfl 29 rfl
    have d34 := hd 9 rfl 34 rfl
    exact sk_val (v := .int .i64 (Int.tmod t11.1 (List.length a0.cells : Int))) (by exact xr_rem rfl d29 d34 g24) rfl rfl
   intro ρ25 w26 q27 hk hd
   have e0 := (hk 0 rfl).trans e0
   have e28 := hd 3 rfl 28 rfl
   have e35 := hd 10 rfl 35 rfl
   have b_0 := b_0.gr q27
   have O0_0 := O0_0.gr q27
   have O0_1 := O0_1.gr q27
   have fB := fB.gr q27
   obtain ⟨g28, h⟩ := gs h
   refine ol_val (v := .pointer (some ⟨(sb V0_0), so V0_0 + Int.toNat (Int.tmod t11.1 (List.length a0.cells : Int)) * 4, none⟩)) (by exact xr_indexR (K := k_pmem_cell) (v := V0_0) rfl Try.underlying135 sz142 e28 O0_0.rd e35 g28.1 g28.2) rfl rfl rfl ?_
   refine ol_val (v := .pointer (some ⟨(sb V0_0), so V0_0 + Int.toNat (Int.tmod t11.1 (List.length a0.cells : Int)) * 4, none⟩)) (by exact xr_assign rfl rfl) rfl rfl rfl ?_
   refine ol_nil ?_
   refine cw_region ?_
   refine ol_val (v := .pointer (some ⟨(sb V0_0), so V0_0 + Int.toNat (Int.tmod t11.1 (List.length a0.cells : Int)) * 4, none⟩)) (by exact xr_move rfl rfl) rfl rfl rfl ?_
   refine ol_val (v := .pointer (some ⟨(sb V0_0), so V0_0 + Int.toNat (Int.tmod t11.1 (List.length a0.cells : Int)) * 4, none⟩)) (by exact xr_move rfl rfl) rfl rfl rfl ?_
   refine ol_val (v := .pointer (some ⟨(sb V0_0), so V0_0 + Int.toNat (Int.tmod t11.1 (List.length a0.cells : Int)) * 4, none⟩)) (by exact xr_nilCheck rfl rfl) rfl rfl rfl ?_
   refine ol_val (v := .pointer (some ⟨(sb V0_0), so V0_0 + Int.toNat (Int.tmod t11.1 (List.length a0.cells : Int)) * 4 + 1, none⟩)) (by exact xr_fieldAddr (p := so V0_0 + Int.toNat (Int.tmod t11.1 (List.length a0.cells : Int)) * 4) (q := 1) rfl fl142_1 rfl) rfl rfl rfl ?_
   refine ol_val (v := .int .u64 ((ix a0.cells (Int.tmod t11.1 (List.length a0.cells : Int))).stored)) (by exact xr_load1 (v := .int .u64 ((ix a0.cells (Int.tmod t11.1 (List.length a0.cells : Int))).stored)) rfl ag22 rfl (At.segs (ss := segs_pmem_cell (ix a0.cells (Int.tmod t11.1 (List.length a0.cells : Int)))) (O0_0.rd.elem g28.1 g28.2) 1 1 rfl)) rfl rfl rfl ?_
   obtain ⟨t35, k36, h⟩ := bs h
   have f39 := off_ty b_0 O0_0 (by decide)
   have f40 := OffV.ty O0_1 O0_0 (by decide)
   obtain ⟨X29, Y30, h31, h32, b33, k34⟩ := Own.sub (K := k_pmem_cell) (i := (Int.tmod t11.1 (List.length a0.cells : Int))) (ss := [Seg.cell (.int .u64 ((ix a0.cells (Int.tmod t11.1 (List.length a0.cells : Int))).lasts)), Seg.cell (.int .u64 ((ix a0.cells (Int.tmod t11.1 (List.length a0.cells : Int))).stored)), Seg.cell (.int .u64 ((ix a0.cells (Int.tmod t11.1 (List.length a0.cells : Int))).sent)), Seg.cell (.bool ((ix a0.cells (Int.tmod t11.1 (List.length a0.cells : Int))).flushed))]) O0_0 g28.1 g28.2 rfl
   refine ol_op (by exact opv_call rfl cal85 (ac (ptrE (q := List.length X29) rfl h31) (ac rfl an)) (pmem_cell_keep__i0.ok fu _ (ix a0.cells (Int.tmod t11.1 (List.length a0.cells : Int))) (sb V0_0) 142 X29 Y30 b33 ((ix a0.cells (Int.tmod t11.1 (List.length a0.cells : Int))).stored) _ k36)) rfl rfl rfl ?_
   rintro _ w42 ⟨rfl, b38, q37⟩
   have O0_0 := k34 _ t35 [Seg.cell (.int .u64 t35.lasts), Seg.cell (.int .u64 t35.stored), Seg.cell (.int .u64 t35.sent), Seg.cell (.bool t35.flushed)] rfl b38
   have q37 := fr_own q37 h32
   have b_0 := b_0.wrO q37 f39
   have O0_1 := O0_1.wrV q37 f40
   have fB := fB.wrM q37 M0_0
   refine ol_nil ?_
   obtain rfl := Option.some.inj h
   refine thn_i ?_
   exact ⟨O0_0, O0_1, e0, b_0, fB⟩
  refine cw_condF e24 c23 ?_
  refine cw_skip ?_
  obtain rfl := Option.some.inj h
  refine thn_i ?_
  exact ⟨O0_0, O0_1, e0, b_0, fB⟩
 rintro ρ43 w44 ⟨O0_0, O0_1, e0, b_0, fB⟩
 have h := h22
 refine cw_seq ?_
 refine cw_region ?_
 refine ol_val (v := .pointer (some ⟨G_0, 0, none⟩)) (by exact xr_move rfl e0) rfl rfl rfl ?_
 refine ol_val (v := .pointer (some ⟨G_0, 0, none⟩)) (by exact xr_nilCheck rfl rfl) rfl rfl rfl ?_
 refine ol_val (v := .pointer (some ⟨G_0, 4, none⟩)) (by exact xr_fieldAddr (p := 0) (q := 4) rfl fl139_3 rfl) rfl rfl rfl ?_
 refine ol_val (v := .bool a0.armed) (by exact xr_load1 (v := .bool a0.armed) rfl ag4 rfl (b_0.seg 4 rfl rfl)) rfl rfl rfl ?_
 refine ol_nil ?_
 obtain ⟨x45, j46, h47⟩ := bs h
 refine cw_mid (fun ρ' w' => ∃ O0_0 : Own k_pmem_cell 142 w' 0 V0_0 x20, ∃ O0_1 : Own (kI .i64) 3 w' 0 V0_1 a0.plan.list, Blk w' G_0 139 [Seg.cell V0_0 O0_0.one, Seg.cell V0_1 O0_1.one, Seg.cell (.int .i64 t11.2.at_), Seg.cell (.bool x45.1), Seg.cell (.bool a0.armed), Seg.cell (.int .i64 x45.2), Seg.cell (.int .i64 (IntKind.i64.wrap (a0.steps + 1)))] ∧ Fr (fun j => j = G_0 ∨ some j = Value.ownBlock V0_0 ∨ some j = Value.ownBlock V0_1) w w') ?_ ?_
 ·have h := j46
  rcases is h with ⟨c48, h⟩ | ⟨c48, h⟩
  ·refine cw_condT rfl c48 ?_
   refine cw_seq ?_
   refine cw_region ?_
   refine ol_val (v := .pointer (some ⟨G_0, 0, none⟩)) (by exact xr_move rfl e0) rfl rfl rfl ?_
   refine ol_val (v := .pointer (some ⟨G_0, 0, none⟩)) (by exact xr_nilCheck rfl rfl) rfl rfl rfl ?_
   refine ol_val (v := .pointer (some ⟨G_0, 5, none⟩)) (by exact xr_fieldAddr (p := 0) (q := 5) rfl fl139_4 rfl) rfl rfl rfl ?_
   refine ol_val (v := .int .i64 a0.left) (by exact xr_load1 (v := .int .i64 a0.left) rfl ag3 rfl (b_0.seg 5 rfl rfl)) rfl rfl rfl ?_
   refine ol_val (v := .int .i64 (IntKind.i64.wrap (a0.left - 1))) (by exact xr_sub rfl rfl rfl) rfl rfl rfl ?_
   refine ol_val (v := .pointer (some ⟨G_0, 0, none⟩)) (by exact xr_nilCheck rfl rfl) rfl rfl rfl ?_
   refine ol_val (v := .pointer (some ⟨G_0, 5, none⟩)) (by exact xr_fieldAddr (p := 0) (q := 5) rfl fl139_4 rfl) rfl rfl rfl ?_
   have f50 := off_ty b_0 O0_0 (by decide)
   have f51 := off_ty b_0 O0_1 (by decide)
   refine ol_op0 (by exact opv_store (ss' := [Seg.cell V0_0 O0_0.one, Seg.cell V0_1 O0_1.one, Seg.cell (.int .i64 t11.2.at_), Seg.cell (.bool a0.off), Seg.cell (.bool a0.armed), Seg.cell (.int .i64 (IntKind.i64.wrap (a0.left - 1))), Seg.cell (.int .i64 (IntKind.i64.wrap (a0.steps + 1)))]) (xs := cellsOf [Seg.cell (.int .i64 (IntKind.i64.wrap (a0.left - 1)))]) rfl sz3 rfl rfl rfl (len_cellsOf _) (one_cellsOf _) b_0 (Spl.segs _ 5 1 [Seg.cell (.int .i64 (IntKind.i64.wrap (a0.left - 1)))] rfl rfl)) rfl rfl ?_
   rintro _ w52 ⟨b_0, q49⟩
   have O0_0 := O0_0.wr q49 f50
   have O0_1 := O0_1.wr q49 f51
   have fB := fB.wrS q49 (.inl rfl)
   refine ol_nil ?_
   refine cw_region ?_
   refine ol_val (v := .pointer (some ⟨G_0, 0, none⟩)) (by exact xr_move rfl e0) rfl rfl rfl ?_
   refine ol_val (v := .pointer (some ⟨G_0, 0, none⟩)) (by exact xr_move rfl e0) rfl rfl rfl ?_
   refine ol_val (v := .pointer (some ⟨G_0, 0, none⟩)) (by exact xr_nilCheck rfl rfl) rfl rfl rfl ?_
   refine ol_val (v := .pointer (some ⟨G_0, 5, none⟩)) (by exact xr_fieldAddr (p := 0) (q := 5) rfl fl139_4 rfl) rfl rfl rfl ?_
   refine ol_val (v := .int .i64 (IntKind.i64.wrap (a0.left - 1))) (by exact xr_load1 (v := .int .i64 (IntKind.i64.wrap (a0.left - 1))) rfl ag3 rfl (b_0.seg 5 rfl rfl)) rfl rfl rfl ?_
   refine ol_val (v := .bool (decide ((IntKind.i64.wrap (a0.left - 1)) = 0))) (by exact xr_eqI rfl Try.underlying3 rfl rfl rfl) rfl rfl rfl ?_
   refine ol_val (v := .pointer (some ⟨G_0, 0, none⟩)) (by exact xr_nilCheck rfl rfl) rfl rfl rfl ?_
   refine ol_val (v := .pointer (some ⟨G_0, 3, none⟩)) (by exact xr_fieldAddr (p := 0) (q := 3) rfl fl139_2 rfl) rfl rfl rfl ?_
   have f54 := off_ty b_0 O0_0 (by decide)
   have f55 := off_ty b_0 O0_1 (by decide)
   refine ol_op0 (by exact opv_store (ss' := [Seg.cell V0_0 O0_0.one, Seg.cell V0_1 O0_1.one, Seg.cell (.int .i64 t11.2.at_), Seg.cell (.bool (decide ((IntKind.i64.wrap (a0.left - 1)) = 0))), Seg.cell (.bool a0.armed), Seg.cell (.int .i64 (IntKind.i64.wrap (a0.left - 1))), Seg.cell (.int .i64 (IntKind.i64.wrap (a0.steps + 1)))]) (xs := cellsOf [Seg.cell (.bool (decide ((IntKind.i64.wrap (a0.left - 1)) = 0)))]) rfl sz4 rfl rfl rfl (len_cellsOf _) (one_cellsOf _) b_0 (Spl.segs _ 3 1 [Seg.cell (.bool (decide ((IntKind.i64.wrap (a0.left - 1)) = 0)))] rfl rfl)) rfl rfl ?_
   rintro _ w56 ⟨b_0, q53⟩
   have O0_0 := O0_0.wr q53 f54
   have O0_1 := O0_1.wr q53 f55
   have fB := fB.wrS q53 (.inl rfl)
   refine ol_nil ?_
   obtain rfl := Option.some.inj h
   refine thn_i ?_
   exact ⟨O0_0, O0_1, b_0, fB⟩
  refine cw_condF rfl c48 ?_
  refine cw_skip ?_
  obtain rfl := Option.some.inj h
  refine thn_i ?_
  exact ⟨O0_0, O0_1, b_0, fB⟩
 rintro ρ57 w58 ⟨O0_0, O0_1, b_0, fB⟩
 have h := h47
 obtain rfl := Option.some.inj h
 refine fin_end0 Try.results84 ?_
 exact ⟨_, rfl, V0_0, V0_1, O0_0, M0_0, O0_1, M0_1, rfl, b_0, fB⟩
end Go.Proofs.Ytklhbaghbmndeaa

/- (*rickyard/pmem.Device).Store: its model, and that the Go function computes it: written by gen.py. -/
set_option linter.unusedVariables false
namespace Go.Proofs.Ytklhbaghbmndeaa
open Go Go.Xw
def pmem_Device_Store.f (fu : Nat) (a0 : S_pmem_Device) (a1 : Int) (a2 : Int) : Option (Int × S_pmem_Device) := ((pmem_Device_may.f fu a0 a1 (List.length a0.cells : Int) : Option Int).bind fun t7 => (if (!decide (t7 = 0)) = true then some (t7, a0) else (if 0 ≤ a1 ∧ a1 < (List.length a0.cells : Int) then ((pmem_Device_step.f fu (⟨(List.set a0.cells (Int.toNat a1) (⟨(ix a0.cells a1).lasts, a2, (ix a0.cells a1).sent, (ix a0.cells a1).flushed⟩ : S_pmem_cell)), a0.plan, a0.off, a0.armed, a0.left, a0.steps⟩ : S_pmem_Device) : Option S_pmem_Device).bind fun t18 => some (0, t18)) else none)))
set_option maxRecDepth 100000 in
set_option maxHeartbeats 400000 in
theorem pmem_Device_Store.ok (fu : Nat) (w : World) (a0 : S_pmem_Device) (G_0 : Nat) (V0_0 : Value) (O0_0 : Own k_pmem_cell 142 w 0 V0_0 a0.cells) (V0_1 : Value) (O0_1 : Own (kI .i64) 3 w 0 V0_1 a0.plan.list) (b_0 : Blk w G_0 139 [Seg.cell V0_0 O0_0.one, Seg.cell V0_1 O0_1.one, Seg.cell (.int .i64 a0.plan.at_), Seg.cell (.bool a0.off), Seg.cell (.bool a0.armed), Seg.cell (.int .i64 a0.left), Seg.cell (.int .i64 a0.steps)]) (a1 : Int) (a2 : Int) (r : Int × S_pmem_Device) (h : pmem_Device_Store.f fu a0 a1 a2 = some r) :
  Calls Try.prog 28 (([.pointer (some ⟨G_0, 0, none⟩), .int .i64 a1, .int .u64 a2] : List Value).toArray) w (fun e w' => ∃ v, e = .returned v ∧ ∃ u1 : Value, ∃ u4 : Value, ∃ o2 : Own k_pmem_cell 142 w' 0 u1 r.2.cells, ∃ m3 : ∀ g, Value.ownBlock u1 = some g → w.heap.size ≤ g ∨ (g = G_0 ∨ some g = Value.ownBlock V0_0 ∨ some g = Value.ownBlock V0_1), ∃ o5 : Own (kI .i64) 3 w' 0 u4 r.2.plan.list, ∃ m6 : ∀ g, Value.ownBlock u4 = some g → w.heap.size ≤ g ∨ (g = G_0 ∨ some g = Value.ownBlock V0_0 ∨ some g = Value.ownBlock V0_1), v = .int .i64 r.1 ∧ Blk w' G_0 139 [Seg.cell u1 o2.one, Seg.cell u4 o5.one, Seg.cell (.int .i64 r.2.plan.at_), Seg.cell (.bool r.2.off), Seg.cell (.bool r.2.armed), Seg.cell (.int .i64 r.2.left), Seg.cell (.int .i64 r.2.steps)] ∧ Fr (fun j => j = G_0 ∨ some j = Value.ownBlock V0_0 ∨ some j = Value.ownBlock V0_1) w w') := by
 unfold pmem_Device_Store.f at h
 have fB : Fr (fun j => j = G_0 ∨ some j = Value.ownBlock V0_0 ∨ some j = Value.ownBlock V0_1) w w := Fr.refl _ _
 have M0_0 : ∀ g, Value.ownBlock V0_0 = some g → w.heap.size ≤ g ∨ (g = G_0 ∨ some g = Value.ownBlock V0_0 ∨ some g = Value.ownBlock V0_1) := fun g hg => .inr (.inr (.inl hg.symm))
 have M0_1 : ∀ g, Value.ownBlock V0_1 = some g → w.heap.size ≤ g ∨ (g = G_0 ∨ some g = Value.ownBlock V0_0 ∨ some g = Value.ownBlock V0_1) := fun g hg => .inr (.inr (.inr hg.symm))
 refine calls_cw Try.func28 rfl Try.ntmps28 rfl ?_
 refine cw_seq ?_
 refine cw_region ?_
 refine ol_val (v := .int .i64 0) (by exact xr_assign rfl rfl) rfl rfl rfl ?_
 refine ol_nil ?_
 refine cw_seq ?_
 refine cw_seq ?_
 refine cw_region ?_
 refine ol_val (v := .pointer (some ⟨G_0, 0, none⟩)) (by exact xr_move rfl rfl) rfl rfl rfl ?_
 refine ol_val (v := .int .i64 a1) (by exact xr_move rfl rfl) rfl rfl rfl ?_
 refine ol_val (v := .pointer (some ⟨G_0, 0, none⟩)) (by exact xr_move rfl rfl) rfl rfl rfl ?_
 refine ol_val (v := .pointer (some ⟨G_0, 0, none⟩)) (by exact xr_nilCheck rfl rfl) rfl rfl rfl ?_
 refine ol_val (v := .pointer (some ⟨G_0, 0, none⟩)) (by exact xr_fieldAddr (p := 0) (q := 0) rfl fl139_0 rfl) rfl rfl rfl ?_
 refine ol_val (v := V0_0) (by exact xr_load1 (v := V0_0) rfl ag135 rfl (b_0.seg 0 rfl rfl)) rfl rfl rfl ?_
 refine ol_val (v := .int .i64 (List.length a0.cells : Int)) (by exact xr_lenR rfl Try.underlying135 rfl O0_0.rd) rfl rfl rfl ?_
 obtain ⟨t7, k8, h⟩ := bs h
 refine ol_op (by exact opv_call rfl cal83 (ac rfl (ac rfl (ac rfl an))) (pmem_Device_may.ok fu _ a0 G_0 V0_0 (O0_0.rd) V0_1 (O0_1.rd) b_0 a1 (List.length a0.cells : Int) _ k8)) rfl rfl rfl ?_
 rintro _ w10 ⟨rfl, q9⟩
 have b_0 := b_0.gr q9
 have O0_0 := O0_0.gr q9
 have O0_1 := O0_1.gr q9
 have fB := fB.gr q9
 refine ol_val (v := .int .i64 t7) (by exact xr_assign rfl rfl) rfl rfl rfl ?_
 refine ol_nil ?_
 refine cw_seq ?_
 refine cw_region ?_
 refine ol_val (v := .int .i64 t7) (by exact xr_move rfl rfl) rfl rfl rfl ?_
 refine ol_val (v := .bool (!decide (t7 = 0))) (by exact xr_neI rfl Try.underlying31 rfl rfl rfl) rfl rfl rfl ?_
 refine ol_nil ?_
 rcases is h with ⟨c11, h⟩ | ⟨c11, h⟩
 ·refine cw_condT rfl c11 ?_
  refine cw_seq ?_
  refine cw_region ?_
  refine ol_val (v := .int .i64 t7) (by exact xr_move rfl rfl) rfl rfl rfl ?_
  refine ol_val (v := .int .i64 t7) (by exact xr_assign rfl rfl) rfl rfl rfl ?_
  refine ol_nil ?_
  refine cw_ret ?_
  repeat (first | with_reducible refine thn_r ?_ | with_reducible refine blk_r ?_)
  obtain rfl := Option.some.inj h
  refine fin_ret1 Try.results28 rfl ?_
  exact ⟨_, rfl, V0_0, V0_1, O0_0, M0_0, O0_1, M0_1, rfl, b_0, fB⟩
 refine cw_condF rfl c11 ?_
 refine cw_skip ?_
 refine cw_seq ?_
 refine cw_region ?_
 refine ol_val (v := .pointer (some ⟨G_0, 0, none⟩)) (by exact xr_move rfl rfl) rfl rfl rfl ?_
 refine ol_val (v := .pointer (some ⟨G_0, 0, none⟩)) (by exact xr_nilCheck rfl rfl) rfl rfl rfl ?_
 refine ol_val (v := .pointer (some ⟨G_0, 0, none⟩)) (by exact xr_fieldAddr (p := 0) (q := 0) rfl fl139_0 rfl) rfl rfl rfl ?_
 refine ol_val (v := V0_0) (by exact xr_load1 (v := V0_0) rfl ag135 rfl (b_0.seg 0 rfl rfl)) rfl rfl rfl ?_
 refine ol_val (v := .int .i64 a1) (by exact xr_move rfl rfl) rfl rfl rfl ?_
 refine ol_val (v := .int .u64 a2) (by exact xr_move rfl rfl) rfl rfl rfl ?_
 obtain ⟨g12, h⟩ := gs h
 refine ol_val (v := .pointer (some ⟨(sb V0_0), so V0_0 + Int.toNat a1 * 4, none⟩)) (by exact xr_indexR (K := k_pmem_cell) (v := V0_0) rfl Try.underlying135 sz142 rfl O0_0.rd rfl g12.1 g12.2) rfl rfl rfl ?_
 refine ol_val (v := .pointer (some ⟨(sb V0_0), so V0_0 + Int.toNat a1 * 4 + 1, none⟩)) (by exact xr_fieldAddr (p := so V0_0 + Int.toNat a1 * 4) (q := 1) rfl fl142_1 rfl) rfl rfl rfl ?_
 have f14 := off_ty b_0 O0_0 (by decide)
 have f15 := OffV.ty O0_1 O0_0 (by decide)
 refine ol_op0 (by exact opv_storeRow (z := (⟨(ix a0.cells a1).lasts, a2, (ix a0.cells a1).sent, (ix a0.cells a1).flushed⟩ : S_pmem_cell)) (xs := cellsOf [Seg.cell (.int .u64 a2)]) rfl sz22 rfl rfl rfl (len_cellsOf _) (one_cellsOf _) O0_0 g12.1 g12.2 (Spl.segs (segs_pmem_cell (ix a0.cells a1)) 1 1 [Seg.cell (.int .u64 a2)] rfl rfl) rfl) rfl rfl ?_
 rintro _ w17 ⟨O0_0, q13⟩
 have b_0 := b_0.wrO q13 f14
 have O0_1 := O0_1.wrV q13 f15
 have fB := fB.wrM q13 M0_0
 refine ol_nil ?_
 refine cw_seq ?_
 refine cw_region ?_
 refine ol_val (v := .pointer (some ⟨G_0, 0, none⟩)) (by exact xr_move rfl rfl) rfl rfl rfl ?_
 obtain ⟨t18, k19, h⟩ := bs h
 have c29 : ∀ k, (k = G_0 ∨ some k = Value.ownBlock V0_0 ∨ some k = Value.ownBlock V0_1) → (w.heap.size ≤ k ∨ (k = G_0 ∨ some k = Value.ownBlock V0_0 ∨ some k = Value.ownBlock V0_1)) := (cv_or (cv_eq (.inr (.inl rfl))) (cv_or (cv_own M0_0) (cv_own M0_1)))
 refine ol_op (by exact opv_call rfl cal84 (ac rfl an) (pmem_Device_step.ok fu _ (⟨(List.set a0.cells (Int.toNat a1) (⟨(ix a0.cells a1).lasts, a2, (ix a0.cells a1).sent, (ix a0.cells a1).flushed⟩ : S_pmem_cell)), a0.plan, a0.off, a0.armed, a0.left, a0.steps⟩ : S_pmem_Device) G_0 V0_0 (Own.base O0_0 (Nat.zero_le _)) V0_1 (Own.base O0_1 (Nat.zero_le _)) b_0 _ k19)) rfl rfl rfl ?_
 rintro _ w30 ⟨u21, u25, o22, m23, o26, m27, rfl, b_0, q20⟩
 have m23 : ∀ g, Value.ownBlock u21 = some g → w.heap.size ≤ g ∨ (g = G_0 ∨ some g = Value.ownBlock V0_0 ∨ some g = Value.ownBlock V0_1) := fun g hg => (m23 g hg).elim (fun x => .inl (Nat.le_trans fB.size x)) (c29 g)
 have m27 : ∀ g, Value.ownBlock u25 = some g → w.heap.size ≤ g ∨ (g = G_0 ∨ some g = Value.ownBlock V0_0 ∨ some g = Value.ownBlock V0_1) := fun g hg => (m27 g hg).elim (fun x => .inl (Nat.le_trans fB.size x)) (c29 g)
 have fB := fB.call q20 c29
 refine ol_nil ?_
 refine cw_seq ?_
 refine cw_region ?_
 refine ol_val (v := .int .i64 0) (by exact xr_assign rfl rfl) rfl rfl rfl ?_
 refine ol_nil ?_
 refine cw_ret ?_
 repeat (first | with_reducible refine thn_r ?_ | with_reducible refine blk_r ?_)
 obtain rfl := Option.some.inj h
 refine fin_ret1 Try.results28 rfl ?_
 exact ⟨_, rfl, u21, u25, o22, m23, o26, m27, rfl, b_0, fB⟩
end Go.Proofs.Ytklhbaghbmndeaa

/- (*rickyard/pmem.Device).Flush: its model, and that the Go function computes it: written by gen.py. -/
set_option linter.unusedVariables false
namespace Go.Proofs.Ytklhbaghbmndeaa
open Go Go.Xw
def pmem_Device_Flush.s0 (fu : Nat) (a1 : Int) : (Int × (List S_pmem_cell)) → Option (Sum (List S_pmem_cell) (Int × (List S_pmem_cell))) := fun s16 => (if (decide (s16.1 < 8)) = true then (if 0 ≤ (IntKind.i64.wrap ((IntKind.i64.wrap (a1 * 8)) + s16.1)) ∧ (IntKind.i64.wrap ((IntKind.i64.wrap (a1 * 8)) + s16.1)) < (List.length s16.2 : Int) then some (Sum.inr ((IntKind.i64.wrap (s16.1 + 1)), (List.set (List.set s16.2 (Int.toNat (IntKind.i64.wrap ((IntKind.i64.wrap (a1 * 8)) + s16.1))) (⟨(ix s16.2 (IntKind.i64.wrap ((IntKind.i64.wrap (a1 * 8)) + s16.1))).lasts, (ix s16.2 (IntKind.i64.wrap ((IntKind.i64.wrap (a1 * 8)) + s16.1))).stored, (ix s16.2 (IntKind.i64.wrap ((IntKind.i64.wrap (a1 * 8)) + s16.1))).stored, (ix s16.2 (IntKind.i64.wrap ((IntKind.i64.wrap (a1 * 8)) + s16.1))).flushed⟩ : S_pmem_cell)) (Int.toNat (IntKind.i64.wrap ((IntKind.i64.wrap (a1 * 8)) + s16.1))) (⟨(ix (List.set s16.2 (Int.toNat (IntKind.i64.wrap ((IntKind.i64.wrap (a1 * 8)) + s16.1))) (⟨(ix s16.2 (IntKind.i64.wrap ((IntKind.i64.wrap (a1 * 8)) + s16.1))).lasts, (ix s16.2 (IntKind.i64.wrap ((IntKind.i64.wrap (a1 * 8)) + s16.1))).stored, (ix s16.2 (IntKind.i64.wrap ((IntKind.i64.wrap (a1 * 8)) + s16.1))).stored, (ix s16.2 (IntKind.i64.wrap ((IntKind.i64.wrap (a1 * 8)) + s16.1))).flushed⟩ : S_pmem_cell)) (IntKind.i64.wrap ((IntKind.i64.wrap (a1 * 8)) + s16.1))).lasts, (ix (List.set s16.2 (Int.toNat (IntKind.i64.wrap ((IntKind.i64.wrap (a1 * 8)) + s16.1))) (⟨(ix s16.2 (IntKind.i64.wrap ((IntKind.i64.wrap (a1 * 8)) + s16.1))).lasts, (ix s16.2 (IntKind.i64.wrap ((IntKind.i64.wrap (a1 * 8)) + s16.1))).stored, (ix s16.2 (IntKind.i64.wrap ((IntKind.i64.wrap (a1 * 8)) + s16.1))).stored, (ix s16.2 (IntKind.i64.wrap ((IntKind.i64.wrap (a1 * 8)) + s16.1))).flushed⟩ : S_pmem_cell)) (IntKind.i64.wrap ((IntKind.i64.wrap (a1 * 8)) + s16.1))).stored, (ix (List.set s16.2 (Int.toNat (IntKind.i64.wrap ((IntKind.i64.wrap (a1 * 8)) + s16.1))) (⟨(ix s16.2 (IntKind.i64.wrap ((IntKind.i64.wrap (a1 * 8)) + s16.1))).lasts, (ix s16.2 (IntKind.i64.wrap ((IntKind.i64.wrap (a1 * 8)) + s16.1))).stored, (ix s16.2 (IntKind.i64.wrap ((IntKind.i64.wrap (a1 * 8)) + s16.1))).stored, (ix s16.2 (IntKind.i64.wrap ((IntKind.i64.wrap (a1 * 8)) + s16.1))).flushed⟩ : S_pmem_cell)) (IntKind.i64.wrap ((IntKind.i64.wrap (a1 * 8)) + s16.1))).sent, true⟩ : S_pmem_cell)))) else none) else some (Sum.inl (s16.2)))
def pmem_Device_Flush.f (fu : Nat) (a0 : S_pmem_Device) (a1 : Int) : Option (Int × S_pmem_Device) := ((pmem_Device_Lines.f fu a0 : Option Int).bind fun t7 => ((pmem_Device_may.f fu a0 a1 t7 : Option Int).bind fun t11 => (if (!decide (t11 = 0)) = true then some (t11, a0) else ((loopM (pmem_Device_Flush.s0 fu a1) fu (0, a0.cells)).bind fun e17 => ((pmem_Device_step.f fu (⟨e17, a0.plan, a0.off, a0.armed, a0.left, a0.steps⟩ : S_pmem_Device) : Option S_pmem_Device).bind fun t37 => some (0, t37))))))
set_option maxRecDepth 100000 in
set_option maxHeartbeats 400000 in
theorem pmem_Device_Flush.ok (fu : Nat) (w : World) (a0 : S_pmem_Device) (G_0 : Nat) (V0_0 : Value) (O0_0 : Own k_pmem_cell 142 w 0 V0_0 a0.cells) (V0_1 : Value) (O0_1 : Own (kI .i64) 3 w 0 V0_1 a0.plan.list) (b_0 : Blk w G_0 139 [Seg.cell V0_0 O0_0.one, Seg.cell V0_1 O0_1.one, Seg.cell (.int .i64 a0.plan.at_), Seg.cell (.bool a0.off), Seg.cell (.bool a0.armed), Seg.cell (.int .i64 a0.left), Seg.cell (.int .i64 a0.steps)]) (a1 : Int) (r : Int × S_pmem_Device) (h : pmem_Device_Flush.f fu a0 a1 = some r) :
  Calls Try.prog 29 (([.pointer (some ⟨G_0, 0, none⟩), .int .i64 a1] : List Value).toArray) w (fun e w' => ∃ v, e = .returned v ∧ ∃ u1 : Value, ∃ u4 : Value, ∃ o2 : Own k_pmem_cell 142 w' 0 u1 r.2.cells, ∃ m3 : ∀ g, Value.ownBlock u1 = some g → w.heap.size ≤ g ∨ (g = G_0 ∨ some g = Value.ownBlock V0_0 ∨ some g = Value.ownBlock V0_1), ∃ o5 : Own (kI .i64) 3 w' 0 u4 r.2.plan.list, ∃ m6 : ∀ g, Value.ownBlock u4 = some g → w.heap.size ≤ g ∨ (g = G_0 ∨ some g = Value.ownBlock V0_0 ∨ some g = Value.ownBlock V0_1), v = .int .i64 r.1 ∧ Blk w' G_0 139 [Seg.cell u1 o2.one, Seg.cell u4 o5.one, Seg.cell (.int .i64 r.2.plan.at_), Seg.cell (.bool r.2.off), Seg.cell (.bool r.2.armed), Seg.cell (.int .i64 r.2.left), Seg.cell (.int .i64 r.2.steps)] ∧ Fr (fun j => j = G_0 ∨ some j = Value.ownBlock V0_0 ∨ some j = Value.ownBlock V0_1) w w') := by
 unfold pmem_Device_Flush.f at h
 have fB : Fr (fun j => j = G_0 ∨ some j = Value.ownBlock V0_0 ∨ some j = Value.ownBlock V0_1) w w := Fr.refl _ _
 have M0_0 : ∀ g, Value.ownBlock V0_0 = some g → w.heap.size ≤ g ∨ (g = G_0 ∨ some g = Value.ownBlock V0_0 ∨ some g = Value.ownBlock V0_1) := fun g hg => .inr (.inr (.inl hg.symm))
 have M0_1 : ∀ g, Value.ownBlock V0_1 = some g → w.heap.size ≤ g ∨ (g = G_0 ∨ some g = Value.ownBlock V0_0 ∨ some g = Value.ownBlock V0_1) := fun g hg => .inr (.inr (.inr hg.symm))
 refine calls_cw Try.func29 rfl Try.ntmps29 rfl ?_
 refine cw_seq ?_
 refine cw_region ?_
 refine ol_val (v := .int .i64 0) (by exact xr_assign rfl rfl) rfl rfl rfl ?_
 refine ol_nil ?_
 refine cw_seq ?_
 refine cw_seq ?_
 refine cw_region ?_
 refine ol_val (v := .pointer (some ⟨G_0, 0, none⟩)) (by exact xr_move rfl rfl) rfl rfl rfl ?_
 refine ol_val (v := .int .i64 a1) (by exact xr_move rfl rfl) rfl rfl rfl ?_
 refine ol_val (v := .pointer (some ⟨G_0, 0, none⟩)) (by exact xr_move rfl rfl) rfl rfl rfl ?_
 obtain ⟨t7, k8, h⟩ := bs h
 refine ol_op (by exact opv_call rfl cal43 (ac rfl an) (pmem_Device_Lines.ok fu _ a0 G_0 V0_0 (O0_0.rd) V0_1 (O0_1.rd) b_0 _ k8)) rfl rfl rfl ?_
 rintro _ w10 ⟨rfl, q9⟩
 have b_0 := b_0.gr q9
 have O0_0 := O0_0.gr q9
 have O0_1 := O0_1.gr q9
 have fB := fB.gr q9
 obtain ⟨t11, k12, h⟩ := bs h
 refine ol_op (by exact opv_call rfl cal83 (ac rfl (ac rfl (ac rfl an))) (pmem_Device_may.ok fu _ a0 G_0 V0_0 (O0_0.rd) V0_1 (O0_1.rd) b_0 a1 t7 _ k12)) rfl rfl rfl ?_
 rintro _ w14 ⟨rfl, q13⟩
 have b_0 := b_0.gr q13
 have O0_0 := O0_0.gr q13
 have O0_1 := O0_1.gr q13
 have fB := fB.gr q13
 refine ol_val (v := .int .i64 t11) (by exact xr_assign rfl rfl) rfl rfl rfl ?_
 refine ol_nil ?_
 refine cw_seq ?_
 refine cw_region ?_
 refine ol_val (v := .int .i64 t11) (by exact xr_move rfl rfl) rfl rfl rfl ?_
 refine ol_val (v := .bool (!decide (t11 = 0))) (by exact xr_neI rfl Try.underlying31 rfl rfl rfl) rfl rfl rfl ?_
 refine ol_nil ?_
 rcases is h with ⟨c15, h⟩ | ⟨c15, h⟩
 ·refine cw_condT rfl c15 ?_
  refine cw_seq ?_
  refine cw_region ?_
  refine ol_val (v := .int .i64 t11) (by exact xr_move rfl rfl) rfl rfl rfl ?_
  refine ol_val (v := .int .i64 t11) (by exact xr_assign rfl rfl) rfl rfl rfl ?_
  refine ol_nil ?_
  refine cw_ret ?_
  repeat (first | with_reducible refine thn_r ?_ | with_reducible refine blk_r ?_)
  obtain rfl := Option.some.inj h
  refine fin_ret1 Try.results29 rfl ?_
  exact ⟨_, rfl, V0_0, V0_1, O0_0, M0_0, O0_1, M0_1, rfl, b_0, fB⟩
 refine cw_condF rfl c15 ?_
 refine cw_skip ?_
 refine cw_seq ?_
 refine cw_seq ?_
 refine cw_region ?_
 refine ol_val (v := .int .i64 0) (by exact xr_move rfl rfl) rfl rfl rfl ?_
 refine ol_nil ?_
 obtain ⟨e17, l18, h19⟩ := bs h
 refine cw_mid (fun ρ' w' => ∃ O0_0 : Own k_pmem_cell 142 w' 0 V0_0 e17, ∃ O0_1 : Own (kI .i64) 3 w' 0 V0_1 a0.plan.list, ρ' 0 = .pointer (some ⟨G_0, 0, none⟩) ∧ Blk w' G_0 139 [Seg.cell V0_0 O0_0.one, Seg.cell V0_1 O0_1.one, Seg.cell (.int .i64 a0.plan.at_), Seg.cell (.bool a0.off), Seg.cell (.bool a0.armed), Seg.cell (.int .i64 a0.left), Seg.cell (.int .i64 a0.steps)] ∧ Fr (fun j => j = G_0 ∨ some j = Value.ownBlock V0_0 ∨ some j = Value.ownBlock V0_1) w w') ?_ ?_
 ·refine cw_block ?_
  refine cw_round (fun (s16 : Int × (List S_pmem_cell)) ρ' w' => ∃ O0_0 : Own k_pmem_cell 142 w' 0 V0_0 s16.2, ∃ O0_1 : Own (kI .i64) 3 w' 0 V0_1 a0.plan.list, ρ' 0 = .pointer (some ⟨G_0, 0, none⟩) ∧ ρ' 1 = .int .i64 a1 ∧ ρ' 16 = .int .i64 s16.1 ∧ Blk w' G_0 139 [Seg.cell V0_0 O0_0.one, Seg.cell V0_1 O0_1.one, Seg.cell (.int .i64 a0.plan.at_), Seg.cell (.bool a0.off), Seg.cell (.bool a0.armed), Seg.cell (.int .i64 a0.left), Seg.cell (.int .i64 a0.steps)] ∧ Fr (fun j => j = G_0 ∨ some j = Value.ownBlock V0_0 ∨ some j = Value.ownBlock V0_1) w w') l18 ?_ ?_
  ·skip
   exact ⟨O0_0, O0_1, rfl, rfl, rfl, b_0, fB⟩
  rintro s16 x22 ρ20 w21 ⟨O0_0, O0_1, e0, e1, e16, b_0, fB⟩ h
  unfold pmem_Device_Flush.s0 at h
  refine cw_seq ?_
  refine cw_region ?_
  refine ol_val (v := .bool (decide (s16.1 < 8))) (by exact xr_lss rfl e16 rfl) rfl rfl rfl ?_
  refine ol_nil ?_
  refine cw_seq ?_
  rcases is h with ⟨c23, h⟩ | ⟨c23, h⟩
  ·refine cw_condT rfl c23 ?_
   refine cw_skip ?_
   refine cw_seq ?_
   refine cw_block ?_
   refine cw_seq ?_
   refine cw_region ?_
   refine ol_val (v := .int .i64 s16.1) (by exact xr_move rfl e16) rfl rfl rfl ?_
   refine ol_val (v := .int .i64 s16.1) (by exact xr_assign rfl rfl) rfl rfl rfl ?_
   refine ol_nil ?_
   refine cw_seq ?_
   refine cw_region ?_
   refine ol_val (v := .pointer (some ⟨G_0, 0, none⟩)) (by exact xr_move rfl e0) rfl rfl rfl ?_
   refine ol_val (v := .pointer (some ⟨G_0, 0, none⟩)) (by exact xr_nilCheck rfl rfl) rfl rfl rfl ?_
   refine ol_val (v := .pointer (some ⟨G_0, 0, none⟩)) (by exact xr_fieldAddr (p := 0) (q := 0) rfl fl139_0 rfl) rfl rfl rfl ?_
   refine ol_val (v := V0_0) (by exact xr_load1 (v := V0_0) rfl ag135 rfl (b_0.seg 0 rfl rfl)) rfl rfl rfl ?_
   refine ol_val (v := .int .i64 a1) (by exact xr_move rfl e1) rfl rfl rfl ?_
   refine ol_val (v := .int .i64 (IntKind.i64.wrap (a1 * 8))) (by exact xr_mul rfl rfl rfl) rfl rfl rfl ?_
   refine ol_val (v := .int .i64 s16.1) (by exact xr_move rfl rfl) rfl rfl rfl ?_
   refine ol_val (v := .int .i64 (IntKind.i64.wrap ((IntKind.i64.wrap (a1 * 8)) + s16.1))) (by exact xr_add rfl rfl rfl) rfl rfl rfl ?_
   obtain ⟨g24, h⟩ := gs h
   refine ol_val (v := .pointer (some ⟨(sb V0_0), so V0_0 + Int.toNat (IntKind.i64.wrap ((IntKind.i64.wrap (a1 * 8)) + s16.1)) * 4, none⟩)) (by exact xr_indexR (K := k_pmem_cell) (v := V0_0) rfl Try.underlying135 sz142 rfl O0_0.rd rfl g24.1 g24.2) rfl rfl rfl ?_
   refine ol_val (v := .pointer (some ⟨(sb V0_0), so V0_0 + Int.toNat (IntKind.i64.wrap ((IntKind.i64.wrap (a1 * 8)) + s16.1)) * 4, none⟩)) (by exact xr_assign rfl rfl) rfl rfl rfl ?_
   refine ol_nil ?_
   refine cw_region ?_
   refine ol_val (v := .pointer (some ⟨(sb V0_0), so V0_0 + Int.toNat (IntKind.i64.wrap ((IntKind.i64.wrap (a1 * 8)) + s16.1)) * 4, none⟩)) (by exact xr_move rfl rfl) rfl rfl rfl ?_
   refine ol_val (v := .pointer (some ⟨(sb V0_0), so V0_0 + Int.toNat (IntKind.i64.wrap ((IntKind.i64.wrap (a1 * 8)) + s16.1)) * 4, none⟩)) (by exact xr_move rfl rfl) rfl rfl rfl ?_
   refine ol_val (v := .pointer (some ⟨(sb V0_0), so V0_0 + Int.toNat (IntKind.i64.wrap ((IntKind.i64.wrap (a1 * 8)) + s16.1)) * 4, none⟩)) (by exact xr_move rfl rfl) rfl rfl rfl ?_
   refine ol_val (v := .pointer (some ⟨(sb V0_0), so V0_0 + Int.toNat (IntKind.i64.wrap ((IntKind.i64.wrap (a1 * 8)) + s16.1)) * 4, none⟩)) (by exact xr_nilCheck rfl rfl) rfl rfl rfl ?_
   refine ol_val (v := .pointer (some ⟨(sb V0_0), so V0_0 + Int.toNat (IntKind.i64.wrap ((IntKind.i64.wrap (a1 * 8)) + s16.1)) * 4 + 1, none⟩)) (by exact xr_fieldAddr (p := so V0_0 + Int.toNat (IntKind.i64.wrap ((IntKind.i64.wrap (a1 * 8)) + s16.1)) * 4) (q := 1) rfl fl142_1 rfl) rfl rfl rfl ?_
   refine ol_val (v := .int .u64 ((ix s16.2 (IntKind.i64.wrap ((IntKind.i64.wrap (a1 * 8)) + s16.1))).stored)) (by exact xr_load1 (v := .int .u64 ((ix s16.2 (IntKind.i64.wrap ((IntKind.i64.wrap (a1 * 8)) + s16.1))).stored)) rfl ag22 rfl (At.segs (ss := segs_pmem_cell (ix s16.2 (IntKind.i64.wrap ((IntKind.i64.wrap (a1 * 8)) + s16.1)))) (O0_0.rd.elem g24.1 g24.2) 1 1 rfl)) rfl rfl rfl ?_
   refine ol_val (v := .pointer (some ⟨(sb V0_0), so V0_0 + Int.toNat (IntKind.i64.wrap ((IntKind.i64.wrap (a1 * 8)) + s16.1)) * 4, none⟩)) (by exact xr_nilCheck rfl rfl) rfl rfl rfl ?_
   refine ol_val (v := .pointer (some ⟨(sb V0_0), so V0_0 + Int.toNat (IntKind.i64.wrap ((IntKind.i64.wrap (a1 * 8)) + s16.1)) * 4 + 2, none⟩)) (by exact xr_fieldAddr (p := so V0_0 + Int.toNat (IntKind.i64.wrap ((IntKind.i64.wrap (a1 * 8)) + s16.1)) * 4) (q := 2) rfl fl142_2 rfl) rfl rfl rfl ?_
   have f26 := off_ty b_0 O0_0 (by decide)
   have f27 := OffV.ty O0_1 O0_0 (by decide)
   refine ol_op0 (by exact opv_storeRow (z := (⟨(ix s16.2 (IntKind.i64.wrap ((IntKind.i64.wrap (a1 * 8)) + s16.1))).lasts, (ix s16.2 (IntKind.i64.wrap ((IntKind.i64.wrap (a1 * 8)) + s16.1))).stored, (ix s16.2 (IntKind.i64.wrap ((IntKind.i64.wrap (a1 * 8)) + s16.1))).stored, (ix s16.2 (IntKind.i64.wrap ((IntKind.i64.wrap (a1 * 8)) + s16.1))).flushed⟩ : S_pmem_cell)) (xs := cellsOf [Seg.cell (.int .u64 ((ix s16.2 (IntKind.i64.wrap ((IntKind.i64.wrap (a1 * 8)) + s16.1))).stored))]) rfl sz22 rfl rfl rfl (len_cellsOf _) (one_cellsOf _) O0_0 g24.1 g24.2 (Spl.segs (segs_pmem_cell (ix s16.2 (IntKind.i64.wrap ((IntKind.i64.wrap (a1 * 8)) + s16.1)))) 2 1 [Seg.cell (.int .u64 ((ix s16.2 (IntKind.i64.wrap ((IntKind.i64.wrap (a1 * 8)) + s16.1))).stored))] rfl rfl) rfl) rfl rfl ?_
   rintro _ w29 ⟨O0_0, q25⟩
   have b_0 := b_0.wrO q25 f26
   have O0_1 := O0_1.wrV q25 f27
   have fB := fB.wrM q25 M0_0
   refine ol_val (v := .pointer (some ⟨(sb V0_0), so V0_0 + Int.toNat (IntKind.i64.wrap ((IntKind.i64.wrap (a1 * 8)) + s16.1)) * 4, none⟩)) (by exact xr_nilCheck rfl rfl) rfl rfl rfl ?_
   refine ol_val (v := .pointer (some ⟨(sb V0_0), so V0_0 + Int.toNat (IntKind.i64.wrap ((IntKind.i64.wrap (a1 * 8)) + s16.1)) * 4 + 3, none⟩)) (by exact xr_fieldAddr (p := so V0_0 + Int.toNat (IntKind.i64.wrap ((IntKind.i64.wrap (a1 * 8)) + s16.1)) * 4) (q := 3) rfl fl142_3 rfl) rfl rfl rfl ?_
   have f31 := off_ty b_0 O0_0 (by decide)
   have f32 := OffV.ty O0_1 O0_0 (by decide)
   refine ol_op0 (by exact opv_storeRow (z := (⟨(ix (List.set s16.2 (Int.toNat (IntKind.i64.wrap ((IntKind.i64.wrap (a1 * 8)) + s16.1))) (⟨(ix s16.2 (IntKind.i64.wrap ((IntKind.i64.wrap (a1 * 8)) + s16.1))).lasts, (ix s16.2 (IntKind.i64.wrap ((IntKind.i64.wrap (a1 * 8)) + s16.1))).stored, (ix s16.2 (IntKind.i64.wrap ((IntKind.i64.wrap (a1 * 8)) + s16.1))).stored, (ix s16.2 (IntKind.i64.wrap ((IntKind.i64.wrap (a1 * 8)) + s16.1))).flushed⟩ : S_pmem_cell)) (IntKind.i64.wrap ((IntKind.i64.wrap (a1 * 8)) + s16.1))).lasts, (ix (List.set s16.2 (Int.toNat (IntKind.i64.wrap ((IntKind.i64.wrap (a1 * 8)) + s16.1))) (⟨(ix s16.2 (IntKind.i64.wrap ((IntKind.i64.wrap (a1 * 8)) + s16.1))).lasts, (ix s16.2 (IntKind.i64.wrap ((IntKind.i64.wrap (a1 * 8)) + s16.1))).stored, (ix s16.2 (IntKind.i64.wrap ((IntKind.i64.wrap (a1 * 8)) + s16.1))).stored, (ix s16.2 (IntKind.i64.wrap ((IntKind.i64.wrap (a1 * 8)) + s16.1))).flushed⟩ : S_pmem_cell)) (IntKind.i64.wrap ((IntKind.i64.wrap (a1 * 8)) + s16.1))).stored, (ix (List.set s16.2 (Int.toNat (IntKind.i64.wrap ((IntKind.i64.wrap (a1 * 8)) + s16.1))) (⟨(ix s16.2 (IntKind.i64.wrap ((IntKind.i64.wrap (a1 * 8)) + s16.1))).lasts, (ix s16.2 (IntKind.i64.wrap ((IntKind.i64.wrap (a1 * 8)) + s16.1))).stored, (ix s16.2 (IntKind.i64.wrap ((IntKind.i64.wrap (a1 * 8)) + s16.1))).stored, (ix s16.2 (IntKind.i64.wrap ((IntKind.i64.wrap (a1 * 8)) + s16.1))).flushed⟩ : S_pmem_cell)) (IntKind.i64.wrap ((IntKind.i64.wrap (a1 * 8)) + s16.1))).sent, true⟩ : S_pmem_cell)) (xs := cellsOf [Seg.cell (.bool true)]) rfl sz4 rfl rfl rfl (len_cellsOf _) (one_cellsOf _) O0_0 g24.1 (by simpa only [List.length_set] using g24.2) (Spl.segs (segs_pmem_cell (ix (List.set s16.2 (Int.toNat (IntKind.i64.wrap ((IntKind.i64.wrap (a1 * 8)) + s16.1))) (⟨(ix s16.2 (IntKind.i64.wrap ((IntKind.i64.wrap (a1 * 8)) + s16.1))).lasts, (ix s16.2 (IntKind.i64.wrap ((IntKind.i64.wrap (a1 * 8)) + s16.1))).stored, (ix s16.2 (IntKind.i64.wrap ((IntKind.i64.wrap (a1 * 8)) + s16.1))).stored, (ix s16.2 (IntKind.i64.wrap ((IntKind.i64.wrap (a1 * 8)) + s16.1))).flushed⟩ : S_pmem_cell)) (IntKind.i64.wrap ((IntKind.i64.wrap (a1 * 8)) + s16.1)))) 3 1 [Seg.cell (.bool true)] rfl rfl) rfl) rfl rfl ?_
   rintro _ w34 ⟨O0_0, q30⟩
   have b_0 := b_0.wrO q30 f31
   have O0_1 := O0_1.wrV q30 f32
   have fB := fB.wrM q30 M0_0
   refine ol_nil ?_
   refine blk_i ?_
   refine cw_region ?_
   refine ol_val (v := .int .i64 (IntKind.i64.wrap (s16.1 + 1))) (by exact xr_add rfl e16 rfl) rfl rfl rfl ?_
   refine ol_val (v := .int .i64 (IntKind.i64.wrap (s16.1 + 1))) (by exact xr_move rfl rfl) rfl rfl rfl ?_
   refine ol_nil ?_
   obtain rfl := Option.some.inj h
   refine lp_in ?_
   exact ⟨O0_0, O0_1, e0, e1, rfl, b_0, fB⟩
  refine cw_condF rfl c23 ?_
  refine cw_exit ?_
  repeat (first | with_reducible refine thn_e ?_ | with_reducible refine blk_e rfl ?_)
  obtain rfl := Option.some.inj h
  refine lp_exit ?_
  rintro rfl
  refine thn_x ?_
  exact ⟨O0_0, O0_1, e0, b_0, fB⟩
 rintro ρ35 w36 ⟨O0_0, O0_1, e0, b_0, fB⟩
 have h := h19
 refine cw_seq ?_
 refine cw_region ?_
 refine ol_val (v := .pointer (some ⟨G_0, 0, none⟩)) (by exact xr_move rfl e0) rfl rfl rfl ?_
 obtain ⟨t37, k38, h⟩ := bs h
 have c48 : ∀ k, (k = G_0 ∨ some k = Value.ownBlock V0_0 ∨ some k = Value.ownBlock V0_1) → (w.heap.size ≤ k ∨ (k = G_0 ∨ some k = Value.ownBlock V0_0 ∨ some k = Value.ownBlock V0_1)) := (cv_or (cv_eq (.inr (.inl rfl))) (cv_or (cv_own M0_0) (cv_own M0_1)))
 refine ol_op (by exact opv_call rfl cal84 (ac rfl an) (pmem_Device_step.ok fu _ (⟨e17, a0.plan, a0.off, a0.armed, a0.left, a0.steps⟩ : S_pmem_Device) G_0 V0_0 (Own.base O0_0 (Nat.zero_le _)) V0_1 (Own.base O0_1 (Nat.zero_le _)) b_0 _ k38)) rfl rfl rfl ?_
 rintro _ w49 ⟨u40, u44, o41, m42, o45, m46, rfl, b_0, q39⟩
 have m42 : ∀ g, Value.ownBlock u40 = some g → w.heap.size ≤ g ∨ (g = G_0 ∨ some g = Value.ownBlock V0_0 ∨ some g = Value.ownBlock V0_1) := fun g hg => (m42 g hg).elim (fun x => .inl (Nat.le_trans fB.size x)) (c48 g)
 have m46 : ∀ g, Value.ownBlock u44 = some g → w.heap.size ≤ g ∨ (g = G_0 ∨ some g = Value.ownBlock V0_0 ∨ some g = Value.ownBlock V0_1) := fun g hg => (m46 g hg).elim (fun x => .inl (Nat.le_trans fB.size x)) (c48 g)
 have fB := fB.call q39 c48
 refine ol_nil ?_
 refine cw_seq ?_
 refine cw_region ?_
 refine ol_val (v := .int .i64 0) (by exact xr_assign rfl rfl) rfl rfl rfl ?_
 refine ol_nil ?_
 refine cw_ret ?_
 repeat (first | with_reducible refine thn_r ?_ | with_reducible refine blk_r ?_)
 obtain rfl := Option.some.inj h
 refine fin_ret1 Try.results29 rfl ?_
 exact ⟨_, rfl, u40, u44, o41, m42, o45, m46, rfl, b_0, fB⟩
end Go.Proofs.Ytklhbaghbmndeaa

/- rickyard/press.store: its model, and that the Go function computes it: written by gen.py. -/
set_option linter.unusedVariables false
namespace Go.Proofs.Ytklhbaghbmndeaa
open Go Go.Xw
def press_store.s0 (fu : Nat) (a1 : Int) (a2 : Int) (a3 : List Int) : (Int × (List S_pmem_cell) × (List Int) × Int × Bool × Bool × Int × Int) → Option (Sum (Sum (Int × S_pmem_Device) ((List S_pmem_cell) × (List Int) × Int × Bool × Bool × Int × Int)) (Int × (List S_pmem_cell) × (List Int) × Int × Bool × Bool × Int × Int)) := fun s7 => (if (decide (s7.1 < (List.length a3 : Int))) = true then (if 0 ≤ s7.1 ∧ s7.1 < (List.length a3 : Int) then ((pmem_Device_Store.f fu (⟨s7.2.1, (⟨s7.2.2.1, s7.2.2.2.1⟩ : S_pmem_plan), s7.2.2.2.2.1, s7.2.2.2.2.2.1, s7.2.2.2.2.2.2.1, s7.2.2.2.2.2.2.2⟩ : S_pmem_Device) (IntKind.i64.wrap ((IntKind.i64.wrap ((IntKind.i64.wrap (a1 * 8)) + a2)) + s7.1)) (ix a3 s7.1) : Option (Int × S_pmem_Device)).bind fun t35 => (if (!decide (t35.1 = 0)) = true then some (Sum.inl (Sum.inl (t35.1, t35.2))) else some (Sum.inr ((IntKind.i64.wrap (s7.1 + 1)), t35.2.cells, t35.2.plan.list, t35.2.plan.at_, t35.2.off, t35.2.armed, t35.2.left, t35.2.steps)))) else none) else some (Sum.inl (Sum.inr (s7.2.1, s7.2.2.1, s7.2.2.2.1, s7.2.2.2.2.1, s7.2.2.2.2.2.1, s7.2.2.2.2.2.2.1, s7.2.2.2.2.2.2.2))))
def press_store.f (fu : Nat) (a0 : S_pmem_Device) (a1 : Int) (a2 : Int) (a3 : List Int) : Option (Int × S_pmem_Device) := ((loopM (press_store.s0 fu a1 a2 a3) fu (0, a0.cells, a0.plan.list, a0.plan.at_, a0.off, a0.armed, a0.left, a0.steps)).bind fun e8 => match e8 with | Sum.inl p => some p | Sum.inr x11 => ((pmem_Device_Flush.f fu (⟨x11.1, (⟨x11.2.1, x11.2.2.1⟩ : S_pmem_plan), x11.2.2.2.1, x11.2.2.2.2.1, x11.2.2.2.2.2.1, x11.2.2.2.2.2.2⟩ : S_pmem_Device) a1 : Option (Int × S_pmem_Device)).bind fun t54 => some (t54.1, t54.2)))
set_option maxRecDepth 100000 in
set_option maxHeartbeats 400000 in
theorem press_store.ok (fu : Nat) (w : World) (a0 : S_pmem_Device) (G_0 : Nat) (V0_0 : Value) (O0_0 : Own k_pmem_cell 142 w 0 V0_0 a0.cells) (V0_1 : Value) (O0_1 : Own (kI .i64) 3 w 0 V0_1 a0.plan.list) (b_0 : Blk w G_0 139 [Seg.cell V0_0 O0_0.one, Seg.cell V0_1 O0_1.one, Seg.cell (.int .i64 a0.plan.at_), Seg.cell (.bool a0.off), Seg.cell (.bool a0.armed), Seg.cell (.int .i64 a0.left), Seg.cell (.int .i64 a0.steps)]) (a1 : Int) (a2 : Int) (a3 : List Int) (V3_0 : Value) (R3_0 : Rd (kI .u64) w V3_0 a3) (NR3_0_P0 : OffR V3_0 a3 G_0) (NR3_0_R0_0 : OffRV V3_0 a3 V0_0) (NR3_0_R0_1 : OffRV V3_0 a3 V0_1) (r : Int × S_pmem_Device) (h : press_store.f fu a0 a1 a2 a3 = some r) :
  Calls Try.prog 103 (([.pointer (some ⟨G_0, 0, none⟩), .int .i64 a1, .int .i64 a2, V3_0] : List Value).toArray) w (fun e w' => ∃ v, e = .returned v ∧ ∃ u1 : Value, ∃ u4 : Value, ∃ o2 : Own k_pmem_cell 142 w' 0 u1 r.2.cells, ∃ m3 : ∀ g, Value.ownBlock u1 = some g → w.heap.size ≤ g ∨ (g = G_0 ∨ some g = Value.ownBlock V0_0 ∨ some g = Value.ownBlock V0_1), ∃ o5 : Own (kI .i64) 3 w' 0 u4 r.2.plan.list, ∃ m6 : ∀ g, Value.ownBlock u4 = some g → w.heap.size ≤ g ∨ (g = G_0 ∨ some g = Value.ownBlock V0_0 ∨ some g = Value.ownBlock V0_1), v = .int .i64 r.1 ∧ Blk w' G_0 139 [Seg.cell u1 o2.one, Seg.cell u4 o5.one, Seg.cell (.int .i64 r.2.plan.at_), Seg.cell (.bool r.2.off), Seg.cell (.bool r.2.armed), Seg.cell (.int .i64 r.2.left), Seg.cell (.int .i64 r.2.steps)] ∧ Fr (fun j => j = G_0 ∨ some j = Value.ownBlock V0_0 ∨ some j = Value.ownBlock V0_1) w w') := by
 unfold press_store.f at h
 have fB : Fr (fun j => j = G_0 ∨ some j = Value.ownBlock V0_0 ∨ some j = Value.ownBlock V0_1) w w := Fr.refl _ _
 have M0_0 : ∀ g, Value.ownBlock V0_0 = some g → w.heap.size ≤ g ∨ (g = G_0 ∨ some g = Value.ownBlock V0_0 ∨ some g = Value.ownBlock V0_1) := fun g hg => .inr (.inr (.inl hg.symm))
 have M0_1 : ∀ g, Value.ownBlock V0_1 = some g → w.heap.size ≤ g ∨ (g = G_0 ∨ some g = Value.ownBlock V0_0 ∨ some g = Value.ownBlock V0_1) := fun g hg => .inr (.inr (.inr hg.symm))
 refine calls_cw Try.func103 rfl Try.ntmps103 rfl ?_
 refine cw_seq ?_
 refine cw_region ?_
 refine ol_val (v := .int .i64 0) (by exact xr_assign rfl rfl) rfl rfl rfl ?_
 refine ol_nil ?_
 refine cw_seq ?_
 refine cw_seq ?_
 refine cw_region ?_
 refine ol_val (v := V3_0) (by exact xr_move rfl rfl) rfl rfl rfl ?_
 refine ol_val (v := .int .i64 (List.length a3 : Int)) (by exact xr_lenR rfl Try.underlying46 rfl R3_0) rfl rfl rfl ?_
 refine ol_val (v := .int .i64 0) (by exact xr_move rfl rfl) rfl rfl rfl ?_
 refine ol_nil ?_
 obtain ⟨e8, l9, h10⟩ := bs h
 refine cw_mid (fun ρ' w' => ∃ x11, e8 = Sum.inr x11 ∧ ∃ v12 : Value, ∃ v16 : Value, ∃ o13 : Own k_pmem_cell 142 w' 0 v12 x11.1, ∃ o17 : Own (kI .i64) 3 w' 0 v16 x11.2.1, ∃ m15 : ∀ g, Value.ownBlock v12 = some g → w.heap.size ≤ g ∨ (g = G_0 ∨ some g = Value.ownBlock V0_0 ∨ some g = Value.ownBlock V0_1), ∃ m19 : ∀ g, Value.ownBlock v16 = some g → w.heap.size ≤ g ∨ (g = G_0 ∨ some g = Value.ownBlock V0_0 ∨ some g = Value.ownBlock V0_1), ρ' 0 = .pointer (some ⟨G_0, 0, none⟩) ∧ ρ' 1 = .int .i64 a1 ∧ Blk w' G_0 139 [Seg.cell v12 o13.one, Seg.cell v16 o17.one, Seg.cell (.int .i64 x11.2.2.1), Seg.cell (.bool x11.2.2.2.1), Seg.cell (.bool x11.2.2.2.2.1), Seg.cell (.int .i64 x11.2.2.2.2.2.1), Seg.cell (.int .i64 x11.2.2.2.2.2.2)] ∧ Fr (fun j => j = G_0 ∨ some j = Value.ownBlock V0_0 ∨ some j = Value.ownBlock V0_1) w w') ?_ ?_
 ·refine cw_block ?_
  refine cw_round (fun (s7 : Int × (List S_pmem_cell) × (List Int) × Int × Bool × Bool × Int × Int) ρ' w' => ∃ v20 : Value, ∃ v24 : Value, ∃ o21 : Own k_pmem_cell 142 w' 0 v20 s7.2.1, ∃ o25 : Own (kI .i64) 3 w' 0 v24 s7.2.2.1, ∃ m23 : ∀ g, Value.ownBlock v20 = some g → w.heap.size ≤ g ∨ (g = G_0 ∨ some g = Value.ownBlock V0_0 ∨ some g = Value.ownBlock V0_1), ∃ m27 : ∀ g, Value.ownBlock v24 = some g → w.heap.size ≤ g ∨ (g = G_0 ∨ some g = Value.ownBlock V0_0 ∨ some g = Value.ownBlock V0_1), ∃ R3_0 : Rd (kI .u64) w' V3_0 a3, OffRV V3_0 a3 v20 ∧ OffRV V3_0 a3 v24 ∧ ρ' 0 = .pointer (some ⟨G_0, 0, none⟩) ∧ ρ' 1 = .int .i64 a1 ∧ ρ' 2 = .int .i64 a2 ∧ ρ' 12 = V3_0 ∧ ρ' 13 = .int .i64 (List.length a3 : Int) ∧ ρ' 14 = .int .i64 s7.1 ∧ Blk w' G_0 139 [Seg.cell v20 o21.one, Seg.cell v24 o25.one, Seg.cell (.int .i64 s7.2.2.2.1), Seg.cell (.bool s7.2.2.2.2.1), Seg.cell (.bool s7.2.2.2.2.2.1), Seg.cell (.int .i64 s7.2.2.2.2.2.2.1), Seg.cell (.int .i64 s7.2.2.2.2.2.2.2)] ∧ Fr (fun j => j = G_0 ∨ some j = Value.ownBlock V0_0 ∨ some j = Value.ownBlock V0_1) w w') l9 ?_ ?_
  ·skip
   exact ⟨V0_0, V0_1, O0_0, O0_1, M0_0, M0_1, R3_0, NR3_0_R0_0, NR3_0_R0_1, rfl, rfl, rfl, rfl, rfl, rfl, b_0, fB⟩
  rintro s7 x32 ρ30 w31 ⟨v20, v24, o21, o25, m23, m27, R3_0, a28, a29, e0, e1, e2, e12, e13, e14, b_0, fB⟩ h
  unfold press_store.s0 at h
  refine cw_seq ?_
  refine cw_region ?_
  refine ol_val (v := .bool (decide (s7.1 < (List.length a3 : Int)))) (by exact xr_lss rfl e14 e13) rfl rfl rfl ?_
  refine ol_nil ?_
  refine cw_seq ?_
  rcases is h with ⟨c33, h⟩ | ⟨c33, h⟩
  ·refine cw_condT rfl c33 ?_
   refine cw_skip ?_
   refine cw_seq ?_
   refine cw_block ?_
   refine cw_seq ?_
   refine cw_region ?_
   refine ol_val (v := .int .i64 s7.1) (by exact xr_move rfl e14) rfl rfl rfl ?_
   obtain ⟨g34, h⟩ := gs h
   refine ol_val (v := .pointer (some ⟨(sb V3_0), so V3_0 + Int.toNat s7.1 * 1, none⟩)) (by exact xr_indexR (K := (kI .u64)) (v := V3_0) rfl Try.underlying46 sz22 e12 R3_0 e14 g34.1 g34.2) rfl rfl rfl ?_
   refine ol_val (v := .int .u64 (ix a3 s7.1)) (by exact xr_load1 (v := .int .u64 (ix a3 s7.1)) rfl ag22 rfl (R3_0.elem g34.1 g34.2)) rfl rfl rfl ?_
   refine ol_val (v := .int .i64 s7.1) (by exact xr_assign rfl rfl) rfl rfl rfl ?_
   refine ol_val (v := .int .u64 (ix a3 s7.1)) (by exact xr_assign rfl rfl) rfl rfl rfl ?_
   refine ol_nil ?_
   refine cw_seq ?_
   refine cw_region ?_
   refine ol_val (v := .pointer (some ⟨G_0, 0, none⟩)) (by exact xr_move rfl e0) rfl rfl rfl ?_
   refine ol_val (v := .int .i64 a1) (by exact xr_move rfl e1) rfl rfl rfl ?_
   refine ol_val (v := .int .i64 (IntKind.i64.wrap (a1 * 8))) (by exact xr_mul rfl rfl rfl) rfl rfl rfl ?_
   refine ol_val (v := .int .i64 a2) (by exact xr_move rfl e2) rfl rfl rfl ?_
   refine ol_val (v := .int .i64 (IntKind.i64.wrap ((IntKind.i64.wrap (a1 * 8)) + a2))) (by exact xr_add rfl rfl rfl) rfl rfl rfl ?_
   refine ol_val (v := .int .i64 s7.1) (by exact xr_move rfl rfl) rfl rfl rfl ?_
   refine ol_val (v := .int .i64 (IntKind.i64.wrap ((IntKind.i64.wrap ((IntKind.i64.wrap (a1 * 8)) + a2)) + s7.1))) (by exact xr_add rfl rfl rfl) rfl rfl rfl ?_
   refine ol_val (v := .int .u64 (ix a3 s7.1)) (by exact xr_move rfl rfl) rfl rfl rfl ?_
   obtain ⟨t35, k36, h⟩ := bs h
   have f46 := (ro_or (ro_eq NR3_0_P0) (ro_or (ro_own a28) (ro_own a29)))
   have c47 : ∀ k, (k = G_0 ∨ some k = Value.ownBlock v20 ∨ some k = Value.ownBlock v24) → (w.heap.size ≤ k ∨ (k = G_0 ∨ some k = Value.ownBlock V0_0 ∨ some k = Value.ownBlock V0_1)) := (cv_or (cv_eq (.inr (.inl rfl))) (cv_or (cv_own m23) (cv_own m27)))
   refine ol_op (by exact opv_call rfl cal28 (ac rfl (ac rfl (ac rfl an))) (pmem_Device_Store.ok fu _ (⟨s7.2.1, (⟨s7.2.2.1, s7.2.2.2.1⟩ : S_pmem_plan), s7.2.2.2.2.1, s7.2.2.2.2.2.1, s7.2.2.2.2.2.2.1, s7.2.2.2.2.2.2.2⟩ : S_pmem_Device) G_0 v20 (Own.base o21 (Nat.zero_le _)) v24 (Own.base o25 (Nat.zero_le _)) b_0 (IntKind.i64.wrap ((IntKind.i64.wrap ((IntKind.i64.wrap (a1 * 8)) + a2)) + s7.1)) (ix a3 s7.1) _ k36)) rfl rfl rfl ?_
   rintro _ w48 ⟨u38, u42, o39, m40, o43, m44, rfl, b_0, q37⟩
   have a49 := orv_new R3_0 rfl f46 m40
   have a50 := orv_new R3_0 rfl f46 m44
   have m40 : ∀ g, Value.ownBlock u38 = some g → w.heap.size ≤ g ∨ (g = G_0 ∨ some g = Value.ownBlock V0_0 ∨ some g = Value.ownBlock V0_1) := fun g hg => (m40 g hg).elim (fun x => .inl (Nat.le_trans fB.size x)) (c47 g)
   have m44 : ∀ g, Value.ownBlock u42 = some g → w.heap.size ≤ g ∨ (g = G_0 ∨ some g = Value.ownBlock V0_0 ∨ some g = Value.ownBlock V0_1) := fun g hg => (m44 g hg).elim (fun x => .inl (Nat.le_trans fB.size x)) (c47 g)
   have R3_0 := R3_0.fr q37 f46
   have fB := fB.call q37 c47
   refine ol_val (v := .int .i64 t35.1) (by exact xr_assign rfl rfl) rfl rfl rfl ?_
   refine ol_nil ?_
   refine cw_seq ?_
   refine cw_region ?_
   refine ol_val (v := .int .i64 t35.1) (by exact xr_move rfl rfl) rfl rfl rfl ?_
   refine ol_val (v := .bool (!decide (t35.1 = 0))) (by exact xr_neI rfl Try.underlying31 rfl rfl rfl) rfl rfl rfl ?_
   refine ol_nil ?_
   rcases is h with ⟨c51, h⟩ | ⟨c51, h⟩
   ·refine cw_condT rfl c51 ?_
    refine cw_seq ?_
    refine cw_region ?_
    refine ol_val (v := .int .i64 t35.1) (by exact xr_move rfl rfl) rfl rfl rfl ?_
    refine ol_val (v := .int .i64 t35.1) (by exact xr_assign rfl rfl) rfl rfl rfl ?_
    refine ol_nil ?_
    refine cw_ret ?_
    repeat (first | with_reducible refine thn_r ?_ | with_reducible refine blk_r ?_)
    obtain rfl := Option.some.inj h
    refine lp_ret ?_
    rintro rfl
    repeat (first | with_reducible refine thn_r ?_ | with_reducible refine blk_r ?_)
    have h := h10
    obtain rfl := Option.some.inj h
    refine fin_ret1 Try.results103 rfl ?_
    exact ⟨_, rfl, u38, u42, o39, m40, o43, m44, rfl, b_0, fB⟩
   refine cw_condF rfl c51 ?_
   refine cw_skip ?_
   refine blk_i ?_
   refine cw_region ?_
   refine ol_val (v := .int .i64 (IntKind.i64.wrap (s7.1 + 1))) (by exact xr_add rfl e14 rfl) rfl rfl rfl ?_
   refine ol_val (v := .int .i64 (IntKind.i64.wrap (s7.1 + 1))) (by exact xr_move rfl rfl) rfl rfl rfl ?_
   refine ol_nil ?_
   obtain rfl := Option.some.inj h
   refine lp_in ?_
   exact ⟨u38, u42, o39, o43, m40, m44, R3_0, a49, a50, e0, e1, e2, e12, e13, rfl, b_0, fB⟩
  refine cw_condF rfl c33 ?_
  refine cw_exit ?_
  repeat (first | with_reducible refine thn_e ?_ | with_reducible refine blk_e rfl ?_)
  obtain rfl := Option.some.inj h
  refine lp_exit ?_
  rintro rfl
  refine thn_x ?_
  exact ⟨_, rfl, v20, v24, o21, o25, m23, m27, e0, e1, b_0, fB⟩
 rintro ρ52 w53 ⟨x11, rfl, v12, v16, o13, o17, m15, m19, e0, e1, b_0, fB⟩
 have h := h10
 refine cw_seq ?_
 refine cw_region ?_
 refine ol_val (v := .pointer (some ⟨G_0, 0, none⟩)) (by exact xr_move rfl e0) rfl rfl rfl ?_
 refine ol_val (v := .int .i64 a1) (by exact xr_move rfl e1) rfl rfl rfl ?_
 obtain ⟨t54, k55, h⟩ := bs h
 have c65 : ∀ k, (k = G_0 ∨ some k = Value.ownBlock v12 ∨ some k = Value.ownBlock v16) → (w.heap.size ≤ k ∨ (k = G_0 ∨ some k = Value.ownBlock V0_0 ∨ some k = Value.ownBlock V0_1)) := (cv_or (cv_eq (.inr (.inl rfl))) (cv_or (cv_own m15) (cv_own m19)))
 refine ol_op (by exact opv_call rfl cal29 (ac rfl (ac rfl an)) (pmem_Device_Flush.ok fu _ (⟨x11.1, (⟨x11.2.1, x11.2.2.1⟩ : S_pmem_plan), x11.2.2.2.1, x11.2.2.2.2.1, x11.2.2.2.2.2.1, x11.2.2.2.2.2.2⟩ : S_pmem_Device) G_0 v12 (Own.base o13 (Nat.zero_le _)) v16 (Own.base o17 (Nat.zero_le _)) b_0 a1 _ k55)) rfl rfl rfl ?_
 rintro _ w66 ⟨u57, u61, o58, m59, o62, m63, rfl, b_0, q56⟩
 have m59 : ∀ g, Value.ownBlock u57 = some g → w.heap.size ≤ g ∨ (g = G_0 ∨ some g = Value.ownBlock V0_0 ∨ some g = Value.ownBlock V0_1) := fun g hg => (m59 g hg).elim (fun x => .inl (Nat.le_trans fB.size x)) (c65 g)
 have m63 : ∀ g, Value.ownBlock u61 = some g → w.heap.size ≤ g ∨ (g = G_0 ∨ some g = Value.ownBlock V0_0 ∨ some g = Value.ownBlock V0_1) := fun g hg => (m63 g hg).elim (fun x => .inl (Nat.le_trans fB.size x)) (c65 g)
 have fB := fB.call q56 c65
 refine ol_val (v := .int .i64 t54.1) (by exact xr_assign rfl rfl) rfl rfl rfl ?_
 refine ol_nil ?_
 refine cw_ret ?_
 repeat (first | with_reducible refine thn_r ?_ | with_reducible refine blk_r ?_)
 obtain rfl := Option.some.inj h
 refine fin_ret1 Try.results103 rfl ?_
 exact ⟨_, rfl, u57, u61, o58, m59, o62, m63, rfl, b_0, fB⟩
end Go.Proofs.Ytklhbaghbmndeaa

/- rickyard/press.Write: its model, and that the Go function computes it: written by gen.py. -/
set_option linter.unusedVariables false
namespace Go.Proofs.Ytklhbaghbmndeaa
open Go Go.Xw
def press_Write.f (fu : Nat) (a0 : S_pmem_Device) (a1 : Int) (a2 : List Int) : Option (Int × S_pmem_Device) := ((press_may.f fu a0 a1 : Option Int).bind fun t7 => (if (!decide (t7 = 0)) = true then some (t7, a0) else (if (!decide ((List.length a2 : Int) = 64)) = true then some (2, a0) else ((octet_Words.f fu a2 : Option (List Int)).bind fun t13 => ((press_store.f fu a0 a1 0 t13 : Option (Int × S_pmem_Device)).bind fun t20 => some (t20.1, t20.2))))))
set_option maxRecDepth 100000 in
set_option maxHeartbeats 400000 in
theorem press_Write.ok (fu : Nat) (w : World) (a0 : S_pmem_Device) (G_0 : Nat) (V0_0 : Value) (O0_0 : Own k_pmem_cell 142 w 0 V0_0 a0.cells) (V0_1 : Value) (O0_1 : Own (kI .i64) 3 w 0 V0_1 a0.plan.list) (b_0 : Blk w G_0 139 [Seg.cell V0_0 O0_0.one, Seg.cell V0_1 O0_1.one, Seg.cell (.int .i64 a0.plan.at_), Seg.cell (.bool a0.off), Seg.cell (.bool a0.armed), Seg.cell (.int .i64 a0.left), Seg.cell (.int .i64 a0.steps)]) (a1 : Int) (a2 : List Int) (V2_0 : Value) (R2_0 : Rd (kI .u8) w V2_0 a2) (NR2_0_P0 : OffR V2_0 a2 G_0) (NR2_0_R0_0 : OffRV V2_0 a2 V0_0) (NR2_0_R0_1 : OffRV V2_0 a2 V0_1) (r : Int × S_pmem_Device) (h : press_Write.f fu a0 a1 a2 = some r) :
  Calls Try.prog 53 (([.pointer (some ⟨G_0, 0, none⟩), .int .i64 a1, V2_0] : List Value).toArray) w (fun e w' => ∃ v, e = .returned v ∧ ∃ u1 : Value, ∃ u4 : Value, ∃ o2 : Own k_pmem_cell 142 w' 0 u1 r.2.cells, ∃ m3 : ∀ g, Value.ownBlock u1 = some g → w.heap.size ≤ g ∨ (g = G_0 ∨ some g = Value.ownBlock V0_0 ∨ some g = Value.ownBlock V0_1), ∃ o5 : Own (kI .i64) 3 w' 0 u4 r.2.plan.list, ∃ m6 : ∀ g, Value.ownBlock u4 = some g → w.heap.size ≤ g ∨ (g = G_0 ∨ some g = Value.ownBlock V0_0 ∨ some g = Value.ownBlock V0_1), v = .int .i64 r.1 ∧ Blk w' G_0 139 [Seg.cell u1 o2.one, Seg.cell u4 o5.one, Seg.cell (.int .i64 r.2.plan.at_), Seg.cell (.bool r.2.off), Seg.cell (.bool r.2.armed), Seg.cell (.int .i64 r.2.left), Seg.cell (.int .i64 r.2.steps)] ∧ Fr (fun j => j = G_0 ∨ some j = Value.ownBlock V0_0 ∨ some j = Value.ownBlock V0_1) w w') := by
 unfold press_Write.f at h
 have fB : Fr (fun j => j = G_0 ∨ some j = Value.ownBlock V0_0 ∨ some j = Value.ownBlock V0_1) w w := Fr.refl _ _
 have M0_0 : ∀ g, Value.ownBlock V0_0 = some g → w.heap.size ≤ g ∨ (g = G_0 ∨ some g = Value.ownBlock V0_0 ∨ some g = Value.ownBlock V0_1) := fun g hg => .inr (.inr (.inl hg.symm))
 have M0_1 : ∀ g, Value.ownBlock V0_1 = some g → w.heap.size ≤ g ∨ (g = G_0 ∨ some g = Value.ownBlock V0_0 ∨ some g = Value.ownBlock V0_1) := fun g hg => .inr (.inr (.inr hg.symm))
 refine calls_cw Try.func53 rfl Try.ntmps53 rfl ?_
 refine cw_seq ?_
 refine cw_region ?_
 refine ol_val (v := .int .i64 0) (by exact xr_assign rfl rfl) rfl rfl rfl ?_
 refine ol_nil ?_
 refine cw_seq ?_
 refine cw_seq ?_
 refine cw_region ?_
 refine ol_val (v := .pointer (some ⟨G_0, 0, none⟩)) (by exact xr_move rfl rfl) rfl rfl rfl ?_
 refine ol_val (v := .int .i64 a1) (by exact xr_move rfl rfl) rfl rfl rfl ?_
 obtain ⟨t7, k8, h⟩ := bs h
 refine ol_op (by exact opv_call rfl cal102 (ac rfl (ac rfl an)) (press_may.ok fu _ a0 G_0 V0_0 (O0_0.rd) V0_1 (O0_1.rd) b_0 a1 _ k8)) rfl rfl rfl ?_
 rintro _ w10 ⟨rfl, q9⟩
 have b_0 := b_0.gr q9
 have O0_0 := O0_0.gr q9
 have O0_1 := O0_1.gr q9
 have R2_0 := R2_0.gr q9
 have fB := fB.gr q9
 refine ol_val (v := .int .i64 t7) (by exact xr_assign rfl rfl) rfl rfl rfl ?_
 refine ol_nil ?_
 refine cw_seq ?_
 refine cw_region ?_
 refine ol_val (v := .int .i64 t7) (by exact xr_move rfl rfl) rfl rfl rfl ?_
 refine ol_val (v := .bool (!decide (t7 = 0))) (by exact xr_neI rfl Try.underlying31 rfl rfl rfl) rfl rfl rfl ?_
 refine ol_nil ?_
 rcases is h with ⟨c11, h⟩ | ⟨c11, h⟩
 ·refine cw_condT rfl c11 ?_
  refine cw_seq ?_
  refine cw_region ?_
  refine ol_val (v := .int .i64 t7) (by exact xr_move rfl rfl) rfl rfl rfl ?_
  refine ol_val (v := .int .i64 t7) (by exact xr_assign rfl rfl) rfl rfl rfl ?_
  refine ol_nil ?_
  refine cw_ret ?_
  repeat (first | with_reducible refine thn_r ?_ | with_reducible refine blk_r ?_)
  obtain rfl := Option.some.inj h
  refine fin_ret1 Try.results53 rfl ?_
  exact ⟨_, rfl, V0_0, V0_1, O0_0, M0_0, O0_1, M0_1, rfl, b_0, fB⟩
 refine cw_condF rfl c11 ?_
 refine cw_skip ?_
 refine cw_seq ?_
 refine cw_seq ?_
 refine cw_region ?_
 refine ol_val (v := V2_0) (by exact xr_move rfl rfl) rfl rfl rfl ?_
 refine ol_val (v := .int .i64 (List.length a2 : Int)) (by exact xr_lenR rfl Try.underlying43 rfl R2_0) rfl rfl rfl ?_
 refine ol_val (v := .bool (!decide ((List.length a2 : Int) = 64))) (by exact xr_neI rfl Try.underlying3 rfl rfl rfl) rfl rfl rfl ?_
 refine ol_nil ?_
 rcases is h with ⟨c12, h⟩ | ⟨c12, h⟩
 ·refine cw_condT rfl c12 ?_
  refine cw_seq ?_
  refine cw_region ?_
  refine ol_val (v := .int .i64 2) (by exact xr_assign rfl rfl) rfl rfl rfl ?_
  refine ol_nil ?_
  refine cw_ret ?_
  repeat (first | with_reducible refine thn_r ?_ | with_reducible refine blk_r ?_)
  obtain rfl := Option.some.inj h
  refine fin_ret1 Try.results53 rfl ?_
  exact ⟨_, rfl, V0_0, V0_1, O0_0, M0_0, O0_1, M0_1, rfl, b_0, fB⟩
 refine cw_condF rfl c12 ?_
 refine cw_skip ?_
 refine cw_seq ?_
 refine cw_region ?_
 refine ol_val (v := .pointer (some ⟨G_0, 0, none⟩)) (by exact xr_move rfl rfl) rfl rfl rfl ?_
 refine ol_val (v := .int .i64 a1) (by exact xr_move rfl rfl) rfl rfl rfl ?_
 refine ol_val (v := V2_0) (by exact xr_move rfl rfl) rfl rfl rfl ?_
 obtain ⟨t13, k14, h⟩ := bs h
 refine ol_op (by exact opv_call rfl cal99 (ac rfl an) (octet_Words.ok fu _ a2 V2_0 (R2_0) _ k14)) rfl rfl rfl ?_
 rintro u15 w19 ⟨_, o16, rfl, q18⟩
 have o16 := Own.base o16 fB.size
 have b_0 := b_0.gr q18
 have O0_0 := O0_0.gr q18
 have O0_1 := O0_1.gr q18
 have fB := fB.gr q18
 obtain ⟨t20, k21, h⟩ := bs h
 have c31 : ∀ k, (k = G_0 ∨ some k = Value.ownBlock V0_0 ∨ some k = Value.ownBlock V0_1) → (w.heap.size ≤ k ∨ (k = G_0 ∨ some k = Value.ownBlock V0_0 ∨ some k = Value.ownBlock V0_1)) := (cv_or (cv_eq (.inr (.inl rfl))) (cv_or (cv_own M0_0) (cv_own M0_1)))
 refine ol_op (by exact opv_call rfl cal103 (ac rfl (ac rfl (ac rfl (ac rfl an)))) (press_store.ok fu _ a0 G_0 V0_0 (Own.base O0_0 (Nat.zero_le _)) V0_1 (Own.base O0_1 (Nat.zero_le _)) b_0 a1 0 t13 u15 (o16.rd) (OffR.own o16 (off_ty b_0 o16 (by decide))) (OffRV.own o16 (OffV.ty o16 O0_0 (by decide))) (OffRV.own o16 (OffV.ty o16 O0_1 (by decide))) _ k21)) rfl rfl rfl ?_
 rintro _ w32 ⟨u23, u27, o24, m25, o28, m29, rfl, b_0, q22⟩
 have m25 : ∀ g, Value.ownBlock u23 = some g → w.heap.size ≤ g ∨ (g = G_0 ∨ some g = Value.ownBlock V0_0 ∨ some g = Value.ownBlock V0_1) := fun g hg => (m25 g hg).elim (fun x => .inl (Nat.le_trans fB.size x)) (c31 g)
 have m29 : ∀ g, Value.ownBlock u27 = some g → w.heap.size ≤ g ∨ (g = G_0 ∨ some g = Value.ownBlock V0_0 ∨ some g = Value.ownBlock V0_1) := fun g hg => (m29 g hg).elim (fun x => .inl (Nat.le_trans fB.size x)) (c31 g)
 have fB := fB.call q22 c31
 refine ol_val (v := .int .i64 t20.1) (by exact xr_assign rfl rfl) rfl rfl rfl ?_
 refine ol_nil ?_
 refine cw_ret ?_
 repeat (first | with_reducible refine thn_r ?_ | with_reducible refine blk_r ?_)
 obtain rfl := Option.some.inj h
 refine fin_ret1 Try.results53 rfl ?_
 exact ⟨_, rfl, u23, u27, o24, m25, o28, m29, rfl, b_0, fB⟩
end Go.Proofs.Ytklhbaghbmndeaa

/- (*rickyard/pmem.Device).Fence: its model, and that the Go function computes it: written by gen.py. -/
set_option linter.unusedVariables false
namespace Go.Proofs.Ytklhbaghbmndeaa
open Go Go.Xw
def pmem_Device_Fence.s0 (fu : Nat) (a0 : S_pmem_Device) : (Int × (List S_pmem_cell)) → Option (Sum (List S_pmem_cell) (Int × (List S_pmem_cell))) := fun s12 => (if (decide (s12.1 < (List.length a0.cells : Int))) = true then (if 0 ≤ s12.1 ∧ s12.1 < (List.length s12.2 : Int) then (((if (ix s12.2 s12.1).flushed = true then ((pmem_cell_keep__i0.f fu (ix s12.2 s12.1) ((ix s12.2 s12.1).sent) : Option S_pmem_cell).bind fun t31 => some ((List.set s12.2 (Int.toNat s12.1) t31))) else some (s12.2)) : Option (List S_pmem_cell)).bind fun x21 => some (Sum.inr ((IntKind.i64.wrap (s12.1 + 1)), x21))) else none) else some (Sum.inl (s12.2)))
def pmem_Device_Fence.f (fu : Nat) (a0 : S_pmem_Device) : Option (Int × S_pmem_Device) := ((pmem_Device_may.f fu a0 0 1 : Option Int).bind fun t7 => (if (!decide (t7 = 0)) = true then some (t7, a0) else ((loopM (pmem_Device_Fence.s0 fu a0) fu (0, a0.cells)).bind fun e13 => ((pmem_Device_step.f fu (⟨e13, a0.plan, a0.off, a0.armed, a0.left, a0.steps⟩ : S_pmem_Device) : Option S_pmem_Device).bind fun t43 => some (0, t43)))))
set_option maxRecDepth 100000 in
set_option maxHeartbeats 400000 in
theorem pmem_Device_Fence.ok (fu : Nat) (w : World) (a0 : S_pmem_Device) (G_0 : Nat) (V0_0 : Value) (O0_0 : Own k_pmem_cell 142 w 0 V0_0 a0.cells) (V0_1 : Value) (O0_1 : Own (kI .i64) 3 w 0 V0_1 a0.plan.list) (b_0 : Blk w G_0 139 [Seg.cell V0_0 O0_0.one, Seg.cell V0_1 O0_1.one, Seg.cell (.int .i64 a0.plan.at_), Seg.cell (.bool a0.off), Seg.cell (.bool a0.armed), Seg.cell (.int .i64 a0.left), Seg.cell (.int .i64 a0.steps)]) (r : Int × S_pmem_Device) (h : pmem_Device_Fence.f fu a0 = some r) :
  Calls Try.prog 30 (([.pointer (some ⟨G_0, 0, none⟩)] : List Value).toArray) w (fun e w' => ∃ v, e = .returned v ∧ ∃ u1 : Value, ∃ u4 : Value, ∃ o2 : Own k_pmem_cell 142 w' 0 u1 r.2.cells, ∃ m3 : ∀ g, Value.ownBlock u1 = some g → w.heap.size ≤ g ∨ (g = G_0 ∨ some g = Value.ownBlock V0_0 ∨ some g = Value.ownBlock V0_1), ∃ o5 : Own (kI .i64) 3 w' 0 u4 r.2.plan.list, ∃ m6 : ∀ g, Value.ownBlock u4 = some g → w.heap.size ≤ g ∨ (g = G_0 ∨ some g = Value.ownBlock V0_0 ∨ some g = Value.ownBlock V0_1), v = .int .i64 r.1 ∧ Blk w' G_0 139 [Seg.cell u1 o2.one, Seg.cell u4 o5.one, Seg.cell (.int .i64 r.2.plan.at_), Seg.cell (.bool r.2.off), Seg.cell (.bool r.2.armed), Seg.cell (.int .i64 r.2.left), Seg.cell (.int .i64 r.2.steps)] ∧ Fr (fun j => j = G_0 ∨ some j = Value.ownBlock V0_0 ∨ some j = Value.ownBlock V0_1) w w') := by
 unfold pmem_Device_Fence.f at h
 have fB : Fr (fun j => j = G_0 ∨ some j = Value.ownBlock V0_0 ∨ some j = Value.ownBlock V0_1) w w := Fr.refl _ _
 have M0_0 : ∀ g, Value.ownBlock V0_0 = some g → w.heap.size ≤ g ∨ (g = G_0 ∨ some g = Value.ownBlock V0_0 ∨ some g = Value.ownBlock V0_1) := fun g hg => .inr (.inr (.inl hg.symm))
 have M0_1 : ∀ g, Value.ownBlock V0_1 = some g → w.heap.size ≤ g ∨ (g = G_0 ∨ some g = Value.ownBlock V0_0 ∨ some g = Value.ownBlock V0_1) := fun g hg => .inr (.inr (.inr hg.symm))
 refine calls_cw Try.func30 rfl Try.ntmps30 rfl ?_
 refine cw_seq ?_
 refine cw_region ?_
 refine ol_val (v := .int .i64 0) (by exact xr_assign rfl rfl) rfl rfl rfl ?_
 refine ol_nil ?_
 refine cw_seq ?_
 refine cw_seq ?_
 refine cw_region ?_
 refine ol_val (v := .pointer (some ⟨G_0, 0, none⟩)) (by exact xr_move rfl rfl) rfl rfl rfl ?_
 obtain ⟨t7, k8, h⟩ := bs h
 refine ol_op (by exact opv_call rfl cal83 (ac rfl (ac rfl (ac rfl an))) (pmem_Device_may.ok fu _ a0 G_0 V0_0 (O0_0.rd) V0_1 (O0_1.rd) b_0 0 1 _ k8)) rfl rfl rfl ?_
 rintro _ w10 ⟨rfl, q9⟩
 have b_0 := b_0.gr q9
 have O0_0 := O0_0.gr q9
 have O0_1 := O0_1.gr q9
 have fB := fB.gr q9
 refine ol_val (v := .int .i64 t7) (by exact xr_assign rfl rfl) rfl rfl rfl ?_
 refine ol_nil ?_
 refine cw_seq ?_
 refine cw_region ?_
 refine ol_val (v := .int .i64 t7) (by exact xr_move rfl rfl) rfl rfl rfl ?_
 refine ol_val (v := .bool (!decide (t7 = 0))) (by exact xr_neI rfl Try.underlying31 rfl rfl rfl) rfl rfl rfl ?_
 refine ol_nil ?_
 rcases is h with ⟨c11, h⟩ | ⟨c11, h⟩
 ·refine cw_condT rfl c11 ?_
  refine cw_seq ?_
  refine cw_region ?_
  refine ol_val (v := .int .i64 t7) (by exact xr_move rfl rfl) rfl rfl rfl ?_
  refine ol_val (v := .int .i64 t7) (by exact xr_assign rfl rfl) rfl rfl rfl ?_
  refine ol_nil ?_
  refine cw_ret ?_
  repeat (first | with_reducible refine thn_r ?_ | with_reducible refine blk_r ?_)
  obtain rfl := Option.some.inj h
  refine fin_ret1 Try.results30 rfl ?_
  exact ⟨_, rfl, V0_0, V0_1, O0_0, M0_0, O0_1, M0_1, rfl, b_0, fB⟩
 refine cw_condF rfl c11 ?_
 refine cw_skip ?_
 refine cw_seq ?_
 refine cw_seq ?_
 refine cw_region ?_
 refine ol_val (v := .pointer (some ⟨G_0, 0, none⟩)) (by exact xr_move rfl rfl) rfl rfl rfl ?_
 refine ol_val (v := .pointer (some ⟨G_0, 0, none⟩)) (by exact xr_nilCheck rfl rfl) rfl rfl rfl ?_
 refine ol_val (v := .pointer (some ⟨G_0, 0, none⟩)) (by exact xr_fieldAddr (p := 0) (q := 0) rfl fl139_0 rfl) rfl rfl rfl ?_
 refine ol_val (v := V0_0) (by exact xr_load1 (v := V0_0) rfl ag135 rfl (b_0.seg 0 rfl rfl)) rfl rfl rfl ?_
 refine ol_val (v := .int .i64 (List.length a0.cells : Int)) (by exact xr_lenR rfl Try.underlying135 rfl O0_0.rd) rfl rfl rfl ?_
 refine ol_val (v := .int .i64 0) (by exact xr_move rfl rfl) rfl rfl rfl ?_
 refine ol_nil ?_
 obtain ⟨e13, l14, h15⟩ := bs h
 refine cw_mid (fun ρ' w' => ∃ O0_0 : Own k_pmem_cell 142 w' 0 V0_0 e13, ∃ O0_1 : Own (kI .i64) 3 w' 0 V0_1 a0.plan.list, ρ' 0 = .pointer (some ⟨G_0, 0, none⟩) ∧ Blk w' G_0 139 [Seg.cell V0_0 O0_0.one, Seg.cell V0_1 O0_1.one, Seg.cell (.int .i64 a0.plan.at_), Seg.cell (.bool a0.off), Seg.cell (.bool a0.armed), Seg.cell (.int .i64 a0.left), Seg.cell (.int .i64 a0.steps)] ∧ Fr (fun j => j = G_0 ∨ some j = Value.ownBlock V0_0 ∨ some j = Value.ownBlock V0_1) w w') ?_ ?_
 ·refine cw_block ?_
  refine cw_round (fun (s12 : Int × (List S_pmem_cell)) ρ' w' => ∃ O0_0 : Own k_pmem_cell 142 w' 0 V0_0 s12.2, ∃ O0_1 : Own (kI .i64) 3 w' 0 V0_1 a0.plan.list, ρ' 0 = .pointer (some ⟨G_0, 0, none⟩) ∧ ρ' 15 = .int .i64 (List.length a0.cells : Int) ∧ ρ' 16 = .int .i64 s12.1 ∧ Blk w' G_0 139 [Seg.cell V0_0 O0_0.one, Seg.cell V0_1 O0_1.one, Seg.cell (.int .i64 a0.plan.at_), Seg.cell (.bool a0.off), Seg.cell (.bool a0.armed), Seg.cell (.int .i64 a0.left), Seg.cell (.int .i64 a0.steps)] ∧ Fr (fun j => j = G_0 ∨ some j = Value.ownBlock V0_0 ∨ some j = Value.ownBlock V0_1) w w') l14 ?_ ?_
  ·skip
   exact ⟨O0_0, O0_1, rfl, rfl, rfl, b_0, fB⟩
  rintro s12 x18 ρ16 w17 ⟨O0_0, O0_1, e0, e15, e16, b_0, fB⟩ h
  unfold pmem_Device_Fence.s0 at h
  refine cw_seq ?_
  refine cw_region ?_
  refine ol_val (v := .bool (decide (s12.1 < (List.length a0.cells : Int)))) (by exact xr_lss rfl e16 e15) rfl rfl rfl ?_
  refine ol_nil ?_
  refine cw_seq ?_
  rcases is h with ⟨c19, h⟩ | ⟨c19, h⟩
  ·refine cw_condT rfl c19 ?_
   refine cw_skip ?_
   refine cw_seq ?_
   refine cw_block ?_
   refine cw_seq ?_
   refine cw_region ?_
   refine ol_val (v := .int .i64 s12.1) (by exact xr_move rfl e16) rfl rfl rfl ?_
   refine ol_val (v := .int .i64 s12.1) (by exact xr_assign rfl rfl) rfl rfl rfl ?_
   refine ol_nil ?_
   refine cw_seq ?_
   refine cw_region ?_
   refine ol_val (v := .pointer (some ⟨G_0, 0, none⟩)) (by exact xr_move rfl e0) rfl rfl rfl ?_
   refine ol_val (v := .pointer (some ⟨G_0, 0, none⟩)) (by exact xr_nilCheck rfl rfl) rfl rfl rfl ?_
   refine ol_val (v := .pointer (some ⟨G_0, 0, none⟩)) (by exact xr_fieldAddr (p := 0) (q := 0) rfl fl139_0 rfl) rfl rfl rfl ?_
   refine ol_val (v := V0_0) (by exact xr_load1 (v := V0_0) rfl ag135 rfl (b_0.seg 0 rfl rfl)) rfl rfl rfl ?_
   refine ol_val (v := .int .i64 s12.1) (by exact xr_move rfl rfl) rfl rfl rfl ?_
   obtain ⟨g20, h⟩ := gs h
   refine ol_val (v := .pointer (some ⟨(sb V0_0), so V0_0 + Int.toNat s12.1 * 4, none⟩)) (by exact xr_indexR (K := k_pmem_cell) (v := V0_0) rfl Try.underlying135 sz142 rfl O0_0.rd rfl g20.1 g20.2) rfl rfl rfl ?_
   refine ol_val (v := .pointer (some ⟨(sb V0_0), so V0_0 + Int.toNat s12.1 * 4, none⟩)) (by exact xr_assign rfl rfl) rfl rfl rfl ?_
   refine ol_nil ?_
   refine cw_seq ?_
   refine cw_region ?_
   refine ol_val (v := .pointer (some ⟨(sb V0_0), so V0_0 + Int.toNat s12.1 * 4, none⟩)) (by exact xr_move rfl rfl) rfl rfl rfl ?_
   refine ol_val (v := .pointer (some ⟨(sb V0_0), so V0_0 + Int.toNat s12.1 * 4, none⟩)) (by exact xr_nilCheck rfl rfl) rfl rfl rfl ?_
   refine ol_val (v := .pointer (some ⟨(sb V0_0), so V0_0 + Int.toNat s12.1 * 4 + 3, none⟩)) (by exact xr_fieldAddr (p := so V0_0 + Int.toNat s12.1 * 4) (q := 3) rfl fl142_3 rfl) rfl rfl rfl ?_
   refine ol_val (v := .bool ((ix s12.2 s12.1).flushed)) (by exact xr_load1 (v := .bool ((ix s12.2 s12.1).flushed)) rfl ag4 rfl (At.segs (ss := segs_pmem_cell (ix s12.2 s12.1)) (O0_0.rd.elem g20.1 g20.2) 3 1 rfl)) rfl rfl rfl ?_
   refine ol_nil ?_
   obtain ⟨x21, j22, h23⟩ := bs h
   refine cw_mid (fun ρ' w' => ∃ O0_0 : Own k_pmem_cell 142 w' 0 V0_0 x21, ∃ O0_1 : Own (kI .i64) 3 w' 0 V0_1 a0.plan.list, ρ' 0 = .pointer (some ⟨G_0, 0, none⟩) ∧ ρ' 15 = .int .i64 (List.length a0.cells : Int) ∧ ρ' 16 = .int .i64 s12.1 ∧ Blk w' G_0 139 [Seg.cell V0_0 O0_0.one, Seg.cell V0_1 O0_1.one, Seg.cell (.int .i64 a0.plan.at_), Seg.cell (.bool a0.off), Seg.cell (.bool a0.armed), Seg.cell (.int .i64 a0.left), Seg.cell (.int .i64 a0.steps)] ∧ Fr (fun j => j = G_0 ∨ some j = Value.ownBlock V0_0 ∨ some j = Value.ownBlock V0_1) w w') ?_ ?_
   ·have h := j22
    rcases is h with ⟨c24, h⟩ | ⟨c24, h⟩
    ·refine cw_condT rfl c24 ?_
     refine cw_region ?_
     refine ol_val (v := .pointer (some ⟨(sb V0_0), so V0_0 + Int.toNat s12.1 * 4, none⟩)) (by exact xr_move rfl rfl) rfl rfl rfl ?_
     refine ol_val (v := .pointer (some ⟨(sb V0_0), so V0_0 + Int.toNat s12.1 * 4, none⟩)) (by exact xr_move rfl rfl) rfl rfl rfl ?_
     refine ol_val (v := .pointer (some ⟨(sb V0_0), so V0_0 + Int.toNat s12.1 * 4, none⟩)) (by exact xr_nilCheck rfl rfl) rfl rfl rfl ?_
     refine ol_val (v := .pointer (some ⟨(sb V0_0), so V0_0 + Int.toNat s12.1 * 4 + 2, none⟩)) (by exact xr_fieldAddr (p := so V0_0 + Int.toNat s12.1 * 4) (q := 2) rfl fl142_2 rfl) rfl rfl rfl ?_
     refine ol_val (v := .int .u64 ((ix s12.2 s12.1).sent)) (by exact xr_load1 (v := .int .u64 ((ix s12.2 s12.1).sent)) rfl ag22 rfl (At.segs (ss := segs_pmem_cell (ix s12.2 s12.1)) (O0_0.rd.elem g20.1 g20.2) 2 1 rfl)) rfl rfl rfl ?_
     obtain ⟨t31, k32, h⟩ := bs h
     have f35 := off_ty b_0 O0_0 (by decide)
     have f36 := OffV.ty O0_1 O0_0 (by decide)
     obtain ⟨X25, Y26, h27, h28, b29, k30⟩ := Own.sub (K := k_pmem_cell) (i := s12.1) (ss := [Seg.cell (.int .u64 ((ix s12.2 s12.1).lasts)), Seg.cell (.int .u64 ((ix s12.2 s12.1).stored)), Seg.cell (.int .u64 ((ix s12.2 s12.1).sent)), Seg.cell (.bool ((ix s12.2 s12.1).flushed))]) O0_0 g20.1 g20.2 rfl
     refine ol_op (by exact opv_call rfl cal85 (ac (ptrE (q := List.length X25) rfl h27) (ac rfl an)) (pmem_cell_keep__i0.ok fu _ (ix s12.2 s12.1) (sb V0_0) 142 X25 Y26 b29 ((ix s12.2 s12.1).sent) _ k32)) rfl rfl rfl ?_
     rintro _ w38 ⟨rfl, b34, q33⟩
     have O0_0 := k30 _ t31 [Seg.cell (.int .u64 t31.lasts), Seg.cell (.int .u64 t31.stored), Seg.cell (.int .u64 t31.sent), Seg.cell (.bool t31.flushed)] rfl b34
     have q33 := fr_own q33 h28
     have b_0 := b_0.wrO q33 f35
     have O0_1 := O0_1.wrV q33 f36
     have fB := fB.wrM q33 M0_0
     refine ol_nil ?_
     obtain rfl := Option.some.inj h
     refine thn_i ?_
     exact ⟨O0_0, O0_1, e0, e15, e16, b_0, fB⟩
    refine cw_condF rfl c24 ?_
    refine cw_skip ?_
    obtain rfl := Option.some.inj h
    refine thn_i ?_
    exact ⟨O0_0, O0_1, e0, e15, e16, b_0, fB⟩
   rintro ρ39 w40 ⟨O0_0, O0_1, e0, e15, e16, b_0, fB⟩
   have h := h23
   refine blk_i ?_
   refine cw_region ?_
   refine ol_val (v := .int .i64 (IntKind.i64.wrap (s12.1 + 1))) (by exact xr_add rfl e16 rfl) rfl rfl rfl ?_
   refine ol_val (v := .int .i64 (IntKind.i64.wrap (s12.1 + 1))) (by exact xr_move rfl rfl) rfl rfl rfl ?_
   refine ol_nil ?_
   obtain rfl := Option.some.inj h
   refine lp_in ?_
   exact ⟨O0_0, O0_1, e0, e15, rfl, b_0, fB⟩
  refine cw_condF rfl c19 ?_
  refine cw_exit ?_
  repeat (first | with_reducible refine thn_e ?_ | with_reducible refine blk_e rfl ?_)
  obtain rfl := Option.some.inj h
  refine lp_exit ?_
  rintro rfl
  refine thn_x ?_
  exact ⟨O0_0, O0_1, e0, b_0, fB⟩
 rintro ρ41 w42 ⟨O0_0, O0_1, e0, b_0, fB⟩
 have h := h15
 refine cw_seq ?_
 refine cw_region ?_
 refine ol_val (v := .pointer (some ⟨G_0, 0, none⟩)) (by exact xr_move rfl e0) rfl rfl rfl ?_
 obtain ⟨t43, k44, h⟩ := bs h
 have c54 : ∀ k, (k = G_0 ∨ some k = Value.ownBlock V0_0 ∨ some k = Value.ownBlock V0_1) → (w.heap.size ≤ k ∨ (k = G_0 ∨ some k = Value.ownBlock V0_0 ∨ some k = Value.ownBlock V0_1)) := (cv_or (cv_eq (.inr (.inl rfl))) (cv_or (cv_own M0_0) (cv_own M0_1)))
 refine ol_op (by exact opv_call rfl cal84 (ac rfl an) (pmem_Device_step.ok fu _ (⟨e13, a0.plan, a0.off, a0.armed, a0.left, a0.steps⟩ : S_pmem_Device) G_0 V0_0 (Own.base O0_0 (Nat.zero_le _)) V0_1 (Own.base O0_1 (Nat.zero_le _)) b_0 _ k44)) rfl rfl rfl ?_
 rintro _ w55 ⟨u46, u50, o47, m48, o51, m52, rfl, b_0, q45⟩
 have m48 : ∀ g, Value.ownBlock u46 = some g → w.heap.size ≤ g ∨ (g = G_0 ∨ some g = Value.ownBlock V0_0 ∨ some g = Value.ownBlock V0_1) := fun g hg => (m48 g hg).elim (fun x => .inl (Nat.le_trans fB.size x)) (c54 g)
 have m52 : ∀ g, Value.ownBlock u50 = some g → w.heap.size ≤ g ∨ (g = G_0 ∨ some g = Value.ownBlock V0_0 ∨ some g = Value.ownBlock V0_1) := fun g hg => (m52 g hg).elim (fun x => .inl (Nat.le_trans fB.size x)) (c54 g)
 have fB := fB.call q45 c54
 refine ol_nil ?_
 refine cw_seq ?_
 refine cw_region ?_
 refine ol_val (v := .int .i64 0) (by exact xr_assign rfl rfl) rfl rfl rfl ?_
 refine ol_nil ?_
 refine cw_ret ?_
 repeat (first | with_reducible refine thn_r ?_ | with_reducible refine blk_r ?_)
 obtain rfl := Option.some.inj h
 refine fin_ret1 Try.results30 rfl ?_
 exact ⟨_, rfl, u46, u50, o47, m48, o51, m52, rfl, b_0, fB⟩
end Go.Proofs.Ytklhbaghbmndeaa

/- rickyard/press.Sure: its model, and that the Go function computes it: written by gen.py. -/
set_option linter.unusedVariables false
namespace Go.Proofs.Ytklhbaghbmndeaa
open Go Go.Xw
def press_Sure.f (fu : Nat) (a0 : S_pmem_Device) : Option (Int × S_pmem_Device) := ((pmem_Device_Fence.f fu a0 : Option (Int × S_pmem_Device)).bind fun t7 => some (t7.1, t7.2))
set_option maxRecDepth 100000 in
set_option maxHeartbeats 400000 in
theorem press_Sure.ok (fu : Nat) (w : World) (a0 : S_pmem_Device) (G_0 : Nat) (V0_0 : Value) (O0_0 : Own k_pmem_cell 142 w 0 V0_0 a0.cells) (V0_1 : Value) (O0_1 : Own (kI .i64) 3 w 0 V0_1 a0.plan.list) (b_0 : Blk w G_0 139 [Seg.cell V0_0 O0_0.one, Seg.cell V0_1 O0_1.one, Seg.cell (.int .i64 a0.plan.at_), Seg.cell (.bool a0.off), Seg.cell (.bool a0.armed), Seg.cell (.int .i64 a0.left), Seg.cell (.int .i64 a0.steps)]) (r : Int × S_pmem_Device) (h : press_Sure.f fu a0 = some r) :
  Calls Try.prog 54 (([.pointer (some ⟨G_0, 0, none⟩)] : List Value).toArray) w (fun e w' => ∃ v, e = .returned v ∧ ∃ u1 : Value, ∃ u4 : Value, ∃ o2 : Own k_pmem_cell 142 w' 0 u1 r.2.cells, ∃ m3 : ∀ g, Value.ownBlock u1 = some g → w.heap.size ≤ g ∨ (g = G_0 ∨ some g = Value.ownBlock V0_0 ∨ some g = Value.ownBlock V0_1), ∃ o5 : Own (kI .i64) 3 w' 0 u4 r.2.plan.list, ∃ m6 : ∀ g, Value.ownBlock u4 = some g → w.heap.size ≤ g ∨ (g = G_0 ∨ some g = Value.ownBlock V0_0 ∨ some g = Value.ownBlock V0_1), v = .int .i64 r.1 ∧ Blk w' G_0 139 [Seg.cell u1 o2.one, Seg.cell u4 o5.one, Seg.cell (.int .i64 r.2.plan.at_), Seg.cell (.bool r.2.off), Seg.cell (.bool r.2.armed), Seg.cell (.int .i64 r.2.left), Seg.cell (.int .i64 r.2.steps)] ∧ Fr (fun j => j = G_0 ∨ some j = Value.ownBlock V0_0 ∨ some j = Value.ownBlock V0_1) w w') := by
 unfold press_Sure.f at h
 have fB : Fr (fun j => j = G_0 ∨ some j = Value.ownBlock V0_0 ∨ some j = Value.ownBlock V0_1) w w := Fr.refl _ _
 have M0_0 : ∀ g, Value.ownBlock V0_0 = some g → w.heap.size ≤ g ∨ (g = G_0 ∨ some g = Value.ownBlock V0_0 ∨ some g = Value.ownBlock V0_1) := fun g hg => .inr (.inr (.inl hg.symm))
 have M0_1 : ∀ g, Value.ownBlock V0_1 = some g → w.heap.size ≤ g ∨ (g = G_0 ∨ some g = Value.ownBlock V0_0 ∨ some g = Value.ownBlock V0_1) := fun g hg => .inr (.inr (.inr hg.symm))
 refine calls_cw Try.func54 rfl Try.ntmps54 rfl ?_
 refine cw_seq ?_
 refine cw_region ?_
 refine ol_val (v := .int .i64 0) (by exact xr_assign rfl rfl) rfl rfl rfl ?_
 refine ol_nil ?_
 refine cw_seq ?_
 refine cw_seq ?_
 refine cw_region ?_
 refine ol_val (v := .pointer (some ⟨G_0, 0, none⟩)) (by exact xr_move rfl rfl) rfl rfl rfl ?_
 refine ol_val (v := .bool false) (by exact xr_eqP (b := false) rfl Try.underlying30 rfl rfl (by simp) (by simp)) rfl rfl rfl ?_
 refine ol_nil ?_
 refine cw_condF rfl rfl ?_
 refine cw_skip ?_
 refine cw_seq ?_
 refine cw_region ?_
 refine ol_val (v := .pointer (some ⟨G_0, 0, none⟩)) (by exact xr_move rfl rfl) rfl rfl rfl ?_
 obtain ⟨t7, k8, h⟩ := bs h
 have c18 : ∀ k, (k = G_0 ∨ some k = Value.ownBlock V0_0 ∨ some k = Value.ownBlock V0_1) → (w.heap.size ≤ k ∨ (k = G_0 ∨ some k = Value.ownBlock V0_0 ∨ some k = Value.ownBlock V0_1)) := (cv_or (cv_eq (.inr (.inl rfl))) (cv_or (cv_own M0_0) (cv_own M0_1)))
 refine ol_op (by exact opv_call rfl cal30 (ac rfl an) (pmem_Device_Fence.ok fu _ a0 G_0 V0_0 (Own.base O0_0 (Nat.zero_le _)) V0_1 (Own.base O0_1 (Nat.zero_le _)) b_0 _ k8)) rfl rfl rfl ?_
 rintro _ w19 ⟨u10, u14, o11, m12, o15, m16, rfl, b_0, q9⟩
 have m12 : ∀ g, Value.ownBlock u10 = some g → w.heap.size ≤ g ∨ (g = G_0 ∨ some g = Value.ownBlock V0_0 ∨ some g = Value.ownBlock V0_1) := fun g hg => (m12 g hg).elim (fun x => .inl (Nat.le_trans fB.size x)) (c18 g)
 have m16 : ∀ g, Value.ownBlock u14 = some g → w.heap.size ≤ g ∨ (g = G_0 ∨ some g = Value.ownBlock V0_0 ∨ some g = Value.ownBlock V0_1) := fun g hg => (m16 g hg).elim (fun x => .inl (Nat.le_trans fB.size x)) (c18 g)
 have fB := fB.call q9 c18
 refine ol_val (v := .int .i64 t7.1) (by exact xr_assign rfl rfl) rfl rfl rfl ?_
 refine ol_nil ?_
 refine cw_ret ?_
 repeat (first | with_reducible refine thn_r ?_ | with_reducible refine blk_r ?_)
 obtain rfl := Option.some.inj h
 refine fin_ret1 Try.results54 rfl ?_
 exact ⟨_, rfl, u10, u14, o11, m12, o15, m16, rfl, b_0, fB⟩
end Go.Proofs.Ytklhbaghbmndeaa

/- (*rickyard/pmem.Device).Load: its model, and that the Go function computes it: written by gen.py. -/
set_option linter.unusedVariables false
namespace Go.Proofs.Ytklhbaghbmndeaa
open Go Go.Xw
def pmem_Device_Load.f (fu : Nat) (a0 : S_pmem_Device) (a1 : Int) : Option (Int × Int) := ((pmem_Device_may.f fu a0 a1 (List.length a0.cells : Int) : Option Int).bind fun t1 => (if (!decide (t1 = 0)) = true then some (0, t1) else (if 0 ≤ a1 ∧ a1 < (List.length a0.cells : Int) then some ((ix a0.cells a1).stored, 0) else none)))
set_option maxRecDepth 100000 in
set_option maxHeartbeats 400000 in
theorem pmem_Device_Load.ok (fu : Nat) (w : World) (a0 : S_pmem_Device) (G_0 : Nat) (V0_0 : Value) (R0_0 : Rd k_pmem_cell w V0_0 a0.cells) (V0_1 : Value) (R0_1 : Rd (kI .i64) w V0_1 a0.plan.list) (b_0 : Blk w G_0 139 [Seg.cell V0_0 R0_0.one, Seg.cell V0_1 R0_1.one, Seg.cell (.int .i64 a0.plan.at_), Seg.cell (.bool a0.off), Seg.cell (.bool a0.armed), Seg.cell (.int .i64 a0.left), Seg.cell (.int .i64 a0.steps)]) (a1 : Int) (r : Int × Int) (h : pmem_Device_Load.f fu a0 a1 = some r) :
  Calls Try.prog 82 (([.pointer (some ⟨G_0, 0, none⟩), .int .i64 a1] : List Value).toArray) w (fun e w' => ∃ v, e = .returned v ∧ v = .tuple #[.int .u64 r.1, .int .i64 r.2] ∧ Gr w w') := by
 unfold pmem_Device_Load.f at h
 have fB : Gr w w := Fr.refl _ _
 refine calls_cw Try.func82 rfl Try.ntmps82 rfl ?_
 refine cw_seq ?_
 refine cw_region ?_
 refine ol_val (v := .int .u64 0) (by exact xr_assign rfl rfl) rfl rfl rfl ?_
 refine ol_val (v := .int .i64 0) (by exact xr_assign rfl rfl) rfl rfl rfl ?_
 refine ol_nil ?_
 refine cw_seq ?_
 refine cw_seq ?_
 refine cw_region ?_
 refine ol_val (v := .pointer (some ⟨G_0, 0, none⟩)) (by exact xr_move rfl rfl) rfl rfl rfl ?_
 refine ol_val (v := .int .i64 a1) (by exact xr_move rfl rfl) rfl rfl rfl ?_
 refine ol_val (v := .pointer (some ⟨G_0, 0, none⟩)) (by exact xr_move rfl rfl) rfl rfl rfl ?_
 refine ol_val (v := .pointer (some ⟨G_0, 0, none⟩)) (by exact xr_nilCheck rfl rfl) rfl rfl rfl ?_
 refine ol_val (v := .pointer (some ⟨G_0, 0, none⟩)) (by exact xr_fieldAddr (p := 0) (q := 0) rfl fl139_0 rfl) rfl rfl rfl ?_
 refine ol_val (v := V0_0) (by exact xr_load1 (v := V0_0) rfl ag135 rfl (b_0.seg 0 rfl rfl)) rfl rfl rfl ?_
 refine ol_val (v := .int .i64 (List.length a0.cells : Int)) (by exact xr_lenR rfl Try.underlying135 rfl (R0_0.gr fB)) rfl rfl rfl ?_
 obtain ⟨t1, k2, h⟩ := bs h
 refine ol_op (by exact opv_call rfl cal83 (ac rfl (ac rfl (ac rfl an))) (pmem_Device_may.ok fu _ a0 G_0 V0_0 (R0_0.gr fB) V0_1 (R0_1.gr fB) b_0 a1 (List.length a0.cells : Int) _ k2)) rfl rfl rfl ?_
 rintro _ w4 ⟨rfl, q3⟩
 have b_0 := b_0.gr q3
 have fB := fB.gr q3
 refine ol_val (v := .int .i64 t1) (by exact xr_assign rfl rfl) rfl rfl rfl ?_
 refine ol_nil ?_
 refine cw_seq ?_
 refine cw_region ?_
 refine ol_val (v := .int .i64 t1) (by exact xr_move rfl rfl) rfl rfl rfl ?_
 refine ol_val (v := .bool (!decide (t1 = 0))) (by exact xr_neI rfl Try.underlying31 rfl rfl rfl) rfl rfl rfl ?_
 refine ol_nil ?_
 rcases is h with ⟨c5, h⟩ | ⟨c5, h⟩
 ·refine cw_condT rfl c5 ?_
  refine cw_seq ?_
  refine cw_region ?_
  refine ol_val (v := .int .i64 t1) (by exact xr_move rfl rfl) rfl rfl rfl ?_
  refine ol_val (v := .int .u64 0) (by exact xr_assign rfl rfl) rfl rfl rfl ?_
  refine ol_val (v := .int .i64 t1) (by exact xr_assign rfl rfl) rfl rfl rfl ?_
  refine ol_nil ?_
  refine cw_ret ?_
  repeat (first | with_reducible refine thn_r ?_ | with_reducible refine blk_r ?_)
  obtain rfl := Option.some.inj h
  refine fin_ret2 Try.results82 rfl rfl ?_
  exact ⟨_, rfl, rfl, fB⟩
 refine cw_condF rfl c5 ?_
 refine cw_skip ?_
 refine cw_seq ?_
 refine cw_region ?_
 refine ol_val (v := .pointer (some ⟨G_0, 0, none⟩)) (by exact xr_move rfl rfl) rfl rfl rfl ?_
 refine ol_val (v := .pointer (some ⟨G_0, 0, none⟩)) (by exact xr_nilCheck rfl rfl) rfl rfl rfl ?_
 refine ol_val (v := .pointer (some ⟨G_0, 0, none⟩)) (by exact xr_fieldAddr (p := 0) (q := 0) rfl fl139_0 rfl) rfl rfl rfl ?_
 refine ol_val (v := V0_0) (by exact xr_load1 (v := V0_0) rfl ag135 rfl (b_0.seg 0 rfl rfl)) rfl rfl rfl ?_
 refine ol_val (v := .int .i64 a1) (by exact xr_move rfl rfl) rfl rfl rfl ?_
 obtain ⟨g6, h⟩ := gs h
 refine ol_val (v := .pointer (some ⟨(sb V0_0), so V0_0 + Int.toNat a1 * 4, none⟩)) (by exact xr_indexR (K := k_pmem_cell) (v := V0_0) rfl Try.underlying135 sz142 rfl (R0_0.gr fB) rfl g6.1 g6.2) rfl rfl rfl ?_
 refine ol_val (v := .pointer (some ⟨(sb V0_0), so V0_0 + Int.toNat a1 * 4 + 1, none⟩)) (by exact xr_fieldAddr (p := so V0_0 + Int.toNat a1 * 4) (q := 1) rfl fl142_1 rfl) rfl rfl rfl ?_
 refine ol_val (v := .int .u64 ((ix a0.cells a1).stored)) (by exact xr_load1 (v := .int .u64 ((ix a0.cells a1).stored)) rfl ag22 rfl (At.segs (ss := segs_pmem_cell (ix a0.cells a1)) ((R0_0.gr fB).elem g6.1 g6.2) 1 1 rfl)) rfl rfl rfl ?_
 refine ol_val (v := .int .u64 ((ix a0.cells a1).stored)) (by exact xr_assign rfl rfl) rfl rfl rfl ?_
 refine ol_val (v := .int .i64 0) (by exact xr_assign rfl rfl) rfl rfl rfl ?_
 refine ol_nil ?_
 refine cw_ret ?_
 repeat (first | with_reducible refine thn_r ?_ | with_reducible refine blk_r ?_)
 obtain rfl := Option.some.inj h
 refine fin_ret2 Try.results82 rfl rfl ?_
 exact ⟨_, rfl, rfl, fB⟩
end Go.Proofs.Ytklhbaghbmndeaa

/- rickyard/octet.Lay: its model, and that the Go function computes it: written by gen.py. -/
set_option linter.unusedVariables false
namespace Go.Proofs.Ytklhbaghbmndeaa
open Go Go.Xw
def octet_Lay.s0 (fu : Nat) (a1 : Int) : (Int × Int × (List Int)) → Option (Sum (List Int) (Int × Int × (List Int))) := fun s14 => (if (decide (s14.2.1 < (List.length (List.replicate (Int.toNat a1) (0 : Int)) : Int))) = true then (if 0 ≤ s14.2.1 ∧ s14.2.1 < (List.length s14.2.2 : Int) then some (Sum.inr ((shR .u64 s14.1 8), (IntKind.i64.wrap (s14.2.1 + 1)), (List.set s14.2.2 (Int.toNat s14.2.1) (IntKind.u8.wrap s14.1)))) else none) else some (Sum.inl (s14.2.2)))
def octet_Lay.f (fu : Nat) (a0 : Int) (a1 : Int) : Option (List Int) := (if (if (decide (a1 < 0)) = true then true else (decide (a1 > 8))) = true then some ([]) else (if 0 ≤ a1 ∧ Int.toNat a1 ≤ LIM then ((loopM (octet_Lay.s0 fu a1) fu (a0, 0, (List.replicate (Int.toNat a1) (0 : Int)))).bind fun e15 => some (e15)) else none))
set_option maxRecDepth 100000 in
set_option maxHeartbeats 400000 in
theorem octet_Lay.ok (fu : Nat) (w : World) (a0 : Int) (a1 : Int) (r : (List Int)) (h : octet_Lay.f fu a0 a1 = some r) :
  Calls Try.prog 128 (([.int .u64 a0, .int .i64 a1] : List Value).toArray) w (fun e w' => ∃ v, e = .returned v ∧ ∃ u1 : Value, ∃ o2 : Own (kI .u8) 5 w' w.heap.size u1 r, v = u1 ∧ Gr w w') := by
 unfold octet_Lay.f at h
 have fB : Gr w w := Fr.refl _ _
 refine calls_cw Try.func128 rfl Try.ntmps128 rfl ?_
 refine cw_seq ?_
 refine cw_region ?_
 refine ol_val (v := .slice none 0 0) (by exact xr_assign rfl rfl) rfl rfl rfl ?_
 refine ol_nil ?_
 refine cw_seq ?_
 refine cw_seq ?_
 refine cw_mid (fun ρ' w' => ρ' 0 = .int .u64 a0 ∧ ρ' 1 = .int .i64 a1 ∧ ρ' 12 = .bool (if (decide (a1 < 0)) = true then true else (decide (a1 > 8))) ∧ w = w') ?_ ?_
 ·skip
  refine cw_region ?_
  refine ol_val (v := .int .i64 a1) (by exact xr_move rfl rfl) rfl rfl rfl ?_
  refine ol_val (v := .bool (decide (a1 < 0))) (by exact xr_lss rfl rfl rfl) rfl rfl rfl ?_
  refine ol_val (v := .bool (decide (a1 < 0))) (by exact xr_move rfl rfl) rfl rfl rfl ?_
  rcases bt (decide (a1 < 0)) with c4 | c4
  ·skip
   refine ol_gskip rfl rfl rfl rfl rfl c4 ?_
   refine ol_gskip rfl rfl rfl rfl rfl c4 ?_
   refine ol_val (v := .bool true) (by exact xr_pickT rfl rfl c4 rfl) rfl rfl rfl ?_
   refine ol_nil ?_
   refine thn_i ?_
   exact ⟨rfl, rfl, (rfl).trans (congrArg (fun z => (.bool z : Value)) (show true = (if (decide (a1 < 0)) = true then true else (decide (a1 > 8))) from by rw [ite_t c4])), rfl⟩
  refine ol_gval (v := .int .i64 a1) (by exact xr_move rfl rfl) rfl rfl rfl rfl rfl c4 ?_
  refine ol_gval (v := .bool (decide (a1 > 8))) (by exact xr_gtr rfl rfl rfl) rfl rfl rfl rfl rfl c4 ?_
  refine ol_val (v := .bool (decide (a1 > 8))) (by exact xr_pickF rfl rfl c4 rfl) rfl rfl rfl ?_
  refine ol_nil ?_
  refine thn_i ?_
  exact ⟨rfl, rfl, (rfl).trans (congrArg (fun z => (.bool z : Value)) (show (decide (a1 > 8)) = (if (decide (a1 < 0)) = true then true else (decide (a1 > 8))) from by rw [ite_f c4])), rfl⟩
 rintro ρ5 _ ⟨e0, e1, e12, rfl⟩
 rcases is h with ⟨c6, h⟩ | ⟨c6, h⟩
 ·refine cw_condT e12 c6 ?_
  refine cw_seq ?_
  refine cw_region ?_
  refine ol_val (v := .slice none 0 0) (by exact xr_assign rfl rfl) rfl rfl rfl ?_
  refine ol_nil ?_
  refine cw_ret ?_
  repeat (first | with_reducible refine thn_r ?_ | with_reducible refine blk_r ?_)
  obtain rfl := Option.some.inj h
  refine fin_ret1 Try.results128 rfl ?_
  exact ⟨_, rfl, (.slice none 0 0), Own.nil _ _ _ _, rfl, fB⟩
 refine cw_condF e12 c6 ?_
 refine cw_skip ?_
 refine cw_seq ?_
 refine cw_region ?_
 refine ol_val (v := .int .i64 a1) (by exact xr_move rfl e1) rfl rfl rfl ?_
 obtain ⟨g7, h⟩ := gs h
 refine ol_op (by exact opv_make (K := (kI .u8)) (z := (0 : Int)) rfl Try.underlying43 el5 rfl rfl rfl g7.1 g7.2 rfl fB.size) rfl rfl rfl ?_
 rintro v8 w13 ⟨o10, q9, z11⟩
 have fB := fB.gr q9
 refine ol_val (v := v8) (by exact xr_assign rfl rfl) rfl rfl rfl ?_
 refine ol_nil ?_
 refine cw_seq ?_
 refine cw_seq ?_
 refine cw_region ?_
 refine ol_val (v := v8) (by exact xr_move rfl rfl) rfl rfl rfl ?_
 refine ol_val (v := .int .i64 (List.length (List.replicate (Int.toNat a1) (0 : Int)) : Int)) (by exact xr_lenR rfl Try.underlying43 rfl o10.rd) rfl rfl rfl ?_
 refine ol_val (v := .int .i64 0) (by exact xr_move rfl rfl) rfl rfl rfl ?_
 refine ol_nil ?_
 obtain ⟨e15, l16, h17⟩ := bs h
 refine cw_mid (fun ρ' w' => ∃ o10 : Own (kI .u8) 5 w' w.heap.size v8 e15, ρ' 5 = v8 ∧ Gr w w') ?_ ?_
 ·refine cw_block ?_
  refine cw_round (fun (s14 : Int × Int × (List Int)) ρ' w' => ∃ o10 : Own (kI .u8) 5 w' w.heap.size v8 s14.2.2, ρ' 0 = .int .u64 s14.1 ∧ ρ' 5 = v8 ∧ ρ' 16 = .int .i64 (List.length (List.replicate (Int.toNat a1) (0 : Int)) : Int) ∧ ρ' 17 = .int .i64 s14.2.1 ∧ Gr w w') l16 ?_ ?_
  ·skip
   exact ⟨o10, e0, rfl, rfl, rfl, fB⟩
  rintro s14 x20 ρ18 w19 ⟨o10, e0, e5, e16, e17, fB⟩ h
  unfold octet_Lay.s0 at h
  refine cw_seq ?_
  refine cw_region ?_
  refine ol_val (v := .bool (decide (s14.2.1 < (List.length (List.replicate (Int.toNat a1) (0 : Int)) : Int)))) (by exact xr_lss rfl e17 e16) rfl rfl rfl ?_
  refine ol_nil ?_
  refine cw_seq ?_
  rcases is h with ⟨c21, h⟩ | ⟨c21, h⟩
  ·refine cw_condT rfl c21 ?_
   refine cw_skip ?_
   refine cw_seq ?_
   refine cw_block ?_
   refine cw_seq ?_
   refine cw_region ?_
   refine ol_val (v := .int .i64 s14.2.1) (by exact xr_move rfl e17) rfl rfl rfl ?_
   refine ol_val (v := .int .i64 s14.2.1) (by exact xr_assign rfl rfl) rfl rfl rfl ?_
   refine ol_nil ?_
   refine cw_seq ?_
   refine cw_region ?_
   refine ol_val (v := v8) (by exact xr_move rfl e5) rfl rfl rfl ?_
   refine ol_val (v := .int .i64 s14.2.1) (by exact xr_move rfl rfl) rfl rfl rfl ?_
   refine ol_val (v := .int .u64 s14.1) (by exact xr_move rfl e0) rfl rfl rfl ?_
   refine ol_val (v := .int .u8 (IntKind.u8.wrap s14.1)) (by exact xr_conv rfl Try.underlying22 Try.underlying5 rfl) rfl rfl rfl ?_
   obtain ⟨g22, h⟩ := gs h
   refine ol_val (v := .pointer (some ⟨(sb v8), so v8 + Int.toNat s14.2.1 * 1, none⟩)) (by exact xr_indexR (K := (kI .u8)) (v := v8) rfl Try.underlying43 sz5 rfl o10.rd rfl g22.1 g22.2) rfl rfl rfl ?_
   have f24 := o10.geO
   refine ol_op0 (by exact opv_storeRow (z := (IntKind.u8.wrap s14.1)) (xs := cellsOf [Seg.cell (.int .u8 (IntKind.u8.wrap s14.1))]) rfl sz5 rfl rfl rfl (len_cellsOf _) (one_cellsOf _) o10 g22.1 g22.2 (Spl.whole ((Kd.len _ _).trans (Kd.len _ _).symm)) rfl) rfl rfl ?_
   rintro _ w25 ⟨o10, q23⟩
   have fB := fB.wrO q23 f24
   refine ol_nil ?_
   refine cw_region ?_
   refine ol_val (v := .int .u64 s14.1) (by exact xr_move rfl e0) rfl rfl rfl ?_
   refine ol_val (v := .int .u64 (shR .u64 s14.1 8)) (by exact xr_shr rfl rfl rfl (by decide)) rfl rfl rfl ?_
   refine ol_val (v := .int .u64 (shR .u64 s14.1 8)) (by exact xr_assign rfl rfl) rfl rfl rfl ?_
   refine ol_nil ?_
   refine blk_i ?_
   refine cw_region ?_
   refine ol_val (v := .int .i64 (IntKind.i64.wrap (s14.2.1 + 1))) (by exact xr_add rfl e17 rfl) rfl rfl rfl ?_
   refine ol_val (v := .int .i64 (IntKind.i64.wrap (s14.2.1 + 1))) (by exact xr_move rfl rfl) rfl rfl rfl ?_
   refine ol_nil ?_
   obtain rfl := Option.some.inj h
   refine lp_in ?_
   exact ⟨o10, rfl, e5, e16, rfl, fB⟩
  refine cw_condF rfl c21 ?_
  refine cw_exit ?_
  repeat (first | with_reducible refine thn_e ?_ | with_reducible refine blk_e rfl ?_)
  obtain rfl := Option.some.inj h
  refine lp_exit ?_
  rintro rfl
  refine thn_x ?_
  exact ⟨o10, e5, fB⟩
 rintro ρ26 w27 ⟨o10, e5, fB⟩
 have h := h17
 refine cw_seq ?_
 refine cw_region ?_
 refine ol_val (v := v8) (by exact xr_move rfl e5) rfl rfl rfl ?_
 refine ol_val (v := v8) (by exact xr_assign rfl rfl) rfl rfl rfl ?_
 refine ol_nil ?_
 refine cw_ret ?_
 repeat (first | with_reducible refine thn_r ?_ | with_reducible refine blk_r ?_)
 obtain rfl := Option.some.inj h
 refine fin_ret1 Try.results128 rfl ?_
 exact ⟨_, rfl, v8, o10, rfl, fB⟩
end Go.Proofs.Ytklhbaghbmndeaa

/- rickyard/octet.Octets: its model, and that the Go function computes it: written by gen.py. -/
set_option linter.unusedVariables false
namespace Go.Proofs.Ytklhbaghbmndeaa
open Go Go.Xw
def octet_Octets.s0 (fu : Nat) (a0 : List Int) : ((List Int) × Int) → Option (Sum (List Int) ((List Int) × Int)) := fun s4 => (if (decide (s4.2 < (List.length a0 : Int))) = true then (if 0 ≤ s4.2 ∧ s4.2 < (List.length a0 : Int) then ((octet_Lay.f fu (ix a0 s4.2) 8 : Option (List Int)).bind fun t19 => (if List.length s4.1 + List.length t19 ≤ LIM then some (Sum.inr ((s4.1 ++ t19), (IntKind.i64.wrap (s4.2 + 1)))) else none)) else none) else some (Sum.inl (s4.1)))
def octet_Octets.f (fu : Nat) (a0 : List Int) : Option (List Int) := ((loopM (octet_Octets.s0 fu a0) fu ([], 0)).bind fun e5 => some (e5))
set_option maxRecDepth 100000 in
set_option maxHeartbeats 400000 in
theorem octet_Octets.ok (fu : Nat) (w : World) (a0 : List Int) (V0_0 : Value) (R0_0 : Rd (kI .u64) w V0_0 a0) (r : (List Int)) (h : octet_Octets.f fu a0 = some r) :
  Calls Try.prog 104 (([V0_0] : List Value).toArray) w (fun e w' => ∃ v, e = .returned v ∧ ∃ u1 : Value, ∃ o2 : Own (kI .u8) 5 w' w.heap.size u1 r, v = u1 ∧ Gr w w') := by
 unfold octet_Octets.f at h
 have fB : Gr w w := Fr.refl _ _
 refine calls_cw Try.func104 rfl Try.ntmps104 rfl ?_
 refine cw_seq ?_
 refine cw_region ?_
 refine ol_val (v := .slice none 0 0) (by exact xr_assign rfl rfl) rfl rfl rfl ?_
 refine ol_nil ?_
 refine cw_seq ?_
 refine cw_region ?_
 refine ol_val (v := .slice none 0 0) (by exact xr_assign rfl rfl) rfl rfl rfl ?_
 refine ol_nil ?_
 refine cw_seq ?_
 refine cw_seq ?_
 refine cw_region ?_
 refine ol_val (v := V0_0) (by exact xr_move rfl rfl) rfl rfl rfl ?_
 refine ol_val (v := .int .i64 (List.length a0 : Int)) (by exact xr_lenR rfl Try.underlying46 rfl (R0_0.gr fB)) rfl rfl rfl ?_
 refine ol_val (v := .int .i64 0) (by exact xr_move rfl rfl) rfl rfl rfl ?_
 refine ol_nil ?_
 obtain ⟨e5, l6, h7⟩ := bs h
 refine cw_mid (fun ρ' w' => ∃ v8 : Value, ∃ o9 : Own (kI .u8) 5 w' w.heap.size v8 e5, ρ' 3 = v8 ∧ Gr w w') ?_ ?_
 ·refine cw_block ?_
  refine cw_round (fun (s4 : (List Int) × Int) ρ' w' => ∃ v11 : Value, ∃ o12 : Own (kI .u8) 5 w' w.heap.size v11 s4.1, ρ' 3 = v11 ∧ ρ' 6 = V0_0 ∧ ρ' 7 = .int .i64 (List.length a0 : Int) ∧ ρ' 8 = .int .i64 s4.2 ∧ Gr w w') l6 ?_ ?_
  ·skip
   exact ⟨(.slice none 0 0), Own.nil _ _ _ _, rfl, rfl, rfl, rfl, fB⟩
  rintro s4 x16 ρ14 w15 ⟨v11, o12, e3, e6, e7, e8, fB⟩ h
  unfold octet_Octets.s0 at h
  refine cw_seq ?_
  refine cw_region ?_
  refine ol_val (v := .bool (decide (s4.2 < (List.length a0 : Int)))) (by exact xr_lss rfl e8 e7) rfl rfl rfl ?_
  refine ol_nil ?_
  refine cw_seq ?_
  rcases is h with ⟨c17, h⟩ | ⟨c17, h⟩
  ·refine cw_condT rfl c17 ?_
   refine cw_skip ?_
   refine cw_seq ?_
   refine cw_block ?_
   refine cw_seq ?_
   refine cw_region ?_
   obtain ⟨g18, h⟩ := gs h
   refine ol_val (v := .pointer (some ⟨(sb V0_0), so V0_0 + Int.toNat s4.2 * 1, none⟩)) (by exact xr_indexR (K := (kI .u64)) (v := V0_0) rfl Try.underlying46 sz22 e6 (R0_0.gr fB) e8 g18.1 g18.2) rfl rfl rfl ?_
   refine ol_val (v := .int .u64 (ix a0 s4.2)) (by exact xr_load1 (v := .int .u64 (ix a0 s4.2)) rfl ag22 rfl ((R0_0.gr fB).elem g18.1 g18.2)) rfl rfl rfl ?_
   refine ol_val (v := .int .u64 (ix a0 s4.2)) (by exact xr_assign rfl rfl) rfl rfl rfl ?_
   refine ol_nil ?_
   refine cw_region ?_
   refine ol_val (v := v11) (by exact xr_move rfl e3) rfl rfl rfl ?_
   refine ol_val (v := .int .u64 (ix a0 s4.2)) (by exact xr_move rfl rfl) rfl rfl rfl ?_
   obtain ⟨t19, k20, h⟩ := bs h
   refine ol_op (by exact opv_call rfl cal128 (ac rfl (ac rfl an)) (octet_Lay.ok fu _ (ix a0 s4.2) 8 _ k20)) rfl rfl rfl ?_
   rintro u21 w25 ⟨_, o22, rfl, q24⟩
   have a26 := OffV.call o12 o22
   have o22 := Own.base o22 fB.size
   have o12 := o12.gr q24
   have fB := fB.gr q24
   obtain ⟨g31, h⟩ := gs h
   have f33 := o12.geO
   refine ol_op (by exact opv_append (K := (kI .u8)) rfl Try.underlying43 el5 rfl rfl rfl rfl rfl o12 o22.rd g31 fB.size) rfl rfl rfl ?_
   rintro v27 w34 ⟨o28, q29, n30⟩
   have fB := fB.wrO q29 f33
   refine ol_val (v := v27) (by exact xr_assign rfl rfl) rfl rfl rfl ?_
   refine ol_nil ?_
   refine blk_i ?_
   refine cw_region ?_
   refine ol_val (v := .int .i64 (IntKind.i64.wrap (s4.2 + 1))) (by exact xr_add rfl e8 rfl) rfl rfl rfl ?_
   refine ol_val (v := .int .i64 (IntKind.i64.wrap (s4.2 + 1))) (by exact xr_move rfl rfl) rfl rfl rfl ?_
   refine ol_nil ?_
   obtain rfl := Option.some.inj h
   refine lp_in ?_
   exact ⟨v27, o28, rfl, e6, e7, rfl, fB⟩
  refine cw_condF rfl c17 ?_
  refine cw_exit ?_
  repeat (first | with_reducible refine thn_e ?_ | with_reducible refine blk_e rfl ?_)
  obtain rfl := Option.some.inj h
  refine lp_exit ?_
  rintro rfl
  refine thn_x ?_
  exact ⟨v11, o12, e3, fB⟩
 rintro ρ35 w36 ⟨v8, o9, e3, fB⟩
 have h := h7
 refine cw_seq ?_
 refine cw_region ?_
 refine ol_val (v := v8) (by exact xr_move rfl e3) rfl rfl rfl ?_
 refine ol_val (v := v8) (by exact xr_assign rfl rfl) rfl rfl rfl ?_
 refine ol_nil ?_
 refine cw_ret ?_
 repeat (first | with_reducible refine thn_r ?_ | with_reducible refine blk_r ?_)
 obtain rfl := Option.some.inj h
 refine fin_ret1 Try.results104 rfl ?_
 exact ⟨_, rfl, v8, o9, rfl, fB⟩
end Go.Proofs.Ytklhbaghbmndeaa
