/- PmemActs: texts merged, part 3 of 8. The last part proves that the law PmemActs holds for every input. -/
import Derived.Test.YtklhbaghbmndeaaPkPmemActs2
/- (*rickyard/pmem.cell).open: its model, and that the Go function computes it: written by gen.py. -/
set_option linter.unusedVariables false
namespace Go.Proofs.Ytklhbaghbmndeaa
open Go Go.Xw
def pmem_cell_open__r0.f (fu : Nat) (a0 : S_pmem_cell) : Option Bool := some ((if a0.flushed = true then true else (!decide (a0.stored = a0.lasts))))
set_option maxRecDepth 100000 in
set_option maxHeartbeats 400000 in
theorem pmem_cell_open__r0.ok (fu : Nat) (w : World) (a0 : S_pmem_cell) (G_0 p_0 : Nat) (A_0 : At w G_0 p_0 (cellsOf [Seg.cell (.int .u64 a0.lasts), Seg.cell (.int .u64 a0.stored), Seg.cell (.int .u64 a0.sent), Seg.cell (.bool a0.flushed)])) (r : Bool) (h : pmem_cell_open__r0.f fu a0 = some r) :
    Calls Try.prog 86 (([.pointer (some ⟨G_0, p_0, none⟩)] : List Value).toArray) w (fun e w' => ∃ v, e = .returned v ∧ v = .bool r ∧ Gr w w') := by
  unfold pmem_cell_open__r0.f at h
  have fB : Gr w w := Fr.refl _ _
  refine calls_cw Try.func86 rfl Try.ntmps86 rfl ?_
  refine cw_seq ?_
  refine cw_region ?_
  refine ol_val (v := .bool false) (by exact xr_assign rfl rfl) rfl rfl rfl ?_
  refine ol_nil ?_
  refine cw_seq ?_
  refine cw_mid (fun ρ' w' => ρ' 2 = .bool (if a0.flushed = true then true else (!decide (a0.stored = a0.lasts))) ∧ Gr w w') ?_ ?_
  · skip
    rcases bt a0.flushed with c1 | c1
    · skip
      refine cw_drawL 14 [fun vz wz => vz = (.pointer (some ⟨G_0, p_0, none⟩) : Value), fun vz wz => vz = (.pointer (some ⟨G_0, p_0, none⟩) : Value), fun vz wz => vz = (.pointer (some ⟨G_0, p_0 + 3, none⟩) : Value), fun vz wz => vz = (.bool a0.flushed : Value), fun vz wz => vz = (.bool a0.flushed : Value), fun vz _ => vz = undef, fun vz _ => vz = undef, fun vz _ => vz = undef, fun vz _ => vz = undef, fun vz _ => vz = undef, fun vz _ => vz = undef, fun vz _ => vz = undef, fun vz _ => vz = undef, fun vz _ => vz = undef] mo rfl ⟨fun _ _ _ h _ => h, fun _ _ _ h _ => h, fun _ _ _ h _ => h, fun _ _ _ h _ => h, fun _ _ _ h _ => h, fun _ _ _ h _ => h, fun _ _ _ h _ => h, fun _ _ _ h _ => h, fun _ _ _ h _ => h, fun _ _ _ h _ => h, fun _ _ _ h _ => h, fun _ _ _ h _ => h, fun _ _ _ h _ => h, fun _ _ _ h _ => h, trivial⟩ ?_ ?_
      · refine ⟨?_, ?_, ?_, ?_, ?_, ?_, ?_, ?_, ?_, ?_, ?_, ?_, ?_, ?_, trivial⟩
        · intro ρz wz hz hk hd
          exact sk_val (v := .pointer (some ⟨G_0, p_0, none⟩)) (by exact xr_move rfl ((hk 0 rfl).trans rfl)) rfl rfl
        · intro ρz wz hz hk hd
          have d3 := hd 0 rfl 3 rfl
          exact sk_val (v := .pointer (some ⟨G_0, p_0, none⟩)) (by exact xr_nilCheck rfl d3) rfl rfl
        · intro ρz wz hz hk hd
          have d4 := hd 1 rfl 4 rfl
          exact sk_val (v := .pointer (some ⟨G_0, p_0 + 3, none⟩)) (by exact xr_fieldAddr (p := p_0) (q := 3) rfl fl142_3 d4) rfl rfl
        · intro ρz wz hz hk hd
          have d5 := hd 2 rfl 5 rfl
          exact sk_val (v := .bool a0.flushed) (by exact xr_load1 (v := .bool a0.flushed) rfl ag4 d5 (At.segs (ss := [Seg.cell (.int .u64 a0.lasts), Seg.cell (.int .u64 a0.stored), Seg.cell (.int .u64 a0.sent), Seg.cell (.bool a0.flushed)]) (At.gr A_0 (fB.gr hz)) 3 1 rfl)) rfl rfl
        · intro ρz wz hz hk hd
          have d6 := hd 3 rfl 6 rfl
          exact sk_val (v := .bool a0.flushed) (by exact xr_move rfl d6) rfl rfl
        · intro ρz wz hz hk hd
          have d7 := hd 4 rfl 7 rfl
          exact sk_skip rfl rfl d7 c1 rfl
        · intro ρz wz hz hk hd
          have d7 := hd 4 rfl 7 rfl
          exact sk_skip rfl rfl d7 c1 rfl
        · intro ρz wz hz hk hd
          have d7 := hd 4 rfl 7 rfl
          exact sk_skip rfl rfl d7 c1 rfl
        · intro ρz wz hz hk hd
          have d7 := hd 4 rfl 7 rfl
          exact sk_skip rfl rfl d7 c1 rfl
        · intro ρz wz hz hk hd
          have d7 := hd 4 rfl 7 rfl
          exact sk_skip rfl rfl d7 c1 rfl
        · intro ρz wz hz hk hd
          have d7 := hd 4 rfl 7 rfl
          exact sk_skip rfl rfl d7 c1 rfl
        · intro ρz wz hz hk hd
          have d7 := hd 4 rfl 7 rfl
          exact sk_skip rfl rfl d7 c1 rfl
        · intro ρz wz hz hk hd
          have d7 := hd 4 rfl 7 rfl
          exact sk_skip rfl rfl d7 c1 rfl
        · intro ρz wz hz hk hd
          have d7 := hd 4 rfl 7 rfl
          exact sk_skip rfl rfl d7 c1 rfl
      · intro ρ2 w3 q4 hk hd
        have e7 := hd 4 rfl 7 rfl
        have fB := fB.gr q4
        refine ol_val (v := .bool true) (by exact xr_pickT rfl e7 c1 rfl) rfl rfl rfl ?_
        refine ol_val (v := .bool true) (by exact xr_assign rfl rfl) rfl rfl rfl ?_
        refine ol_nil ?_
        refine thn_i ?_
        exact ⟨(rfl).trans (congrArg (fun z => (.bool z : Value)) (show true = (if a0.flushed = true then true else (!decide (a0.stored = a0.lasts))) from by rw [ite_t c1])), q4⟩
    · skip
      refine cw_drawL 14 [fun vz wz => vz = (.pointer (some ⟨G_0, p_0, none⟩) : Value), fun vz wz => vz = (.pointer (some ⟨G_0, p_0, none⟩) : Value), fun vz wz => vz = (.pointer (some ⟨G_0, p_0 + 3, none⟩) : Value), fun vz wz => vz = (.bool a0.flushed : Value), fun vz wz => vz = (.bool a0.flushed : Value), fun vz wz => vz = (.pointer (some ⟨G_0, p_0, none⟩) : Value), fun vz wz => vz = (.pointer (some ⟨G_0, p_0, none⟩) : Value), fun vz wz => vz = (.pointer (some ⟨G_0, p_0 + 1, none⟩) : Value), fun vz wz => vz = (.int .u64 a0.stored : Value), fun vz wz => vz = (.pointer (some ⟨G_0, p_0, none⟩) : Value), fun vz wz => vz = (.pointer (some ⟨G_0, p_0, none⟩) : Value), fun vz wz => vz = (.pointer (some ⟨G_0, p_0 + 0, none⟩) : Value), fun vz wz => vz = (.int .u64 a0.lasts : Value), fun vz wz => vz = (.bool (!decide (a0.stored = a0.lasts)) : Value)] mo rfl ⟨fun _ _ _ h _ => h, fun _ _ _ h _ => h, fun _ _ _ h _ => h, fun _ _ _ h _ => h, fun _ _ _ h _ => h, fun _ _ _ h _ => h, fun _ _ _ h _ => h, fun _ _ _ h _ => h, fun _ _ _ h _ => h, fun _ _ _ h _ => h, fun _ _ _ h _ => h, fun _ _ _ h _ => h, fun _ _ _ h _ => h, fun _ _ _ h _ => h, trivial⟩ ?_ ?_
      · refine ⟨?_, ?_, ?_, ?_, ?_, ?_, ?_, ?_, ?_, ?_, ?_, ?_, ?_, ?_, trivial⟩
        · intro ρz wz hz hk hd
          exact sk_val (v := .pointer (some ⟨G_0, p_0, none⟩)) (by exact xr_move rfl ((hk 0 rfl).trans rfl)) rfl rfl
        · intro ρz wz hz hk hd
          have d3 := hd 0 rfl 3 rfl
          exact sk_val (v := .pointer (some ⟨G_0, p_0, none⟩)) (by exact xr_nilCheck rfl d3) rfl rfl
        · intro ρz wz hz hk hd
          have d4 := hd 1 rfl 4 rfl
          exact sk_val (v := .pointer (some ⟨G_0, p_0 + 3, none⟩)) (by exact xr_fieldAddr (p := p_0) (q := 3) rfl fl142_3 d4) rfl rfl
        · intro ρz wz hz hk hd
          have d5 := hd 2 rfl 5 rfl
          exact sk_val (v := .bool a0.flushed) (by exact xr_load1 (v := .bool a0.flushed) rfl ag4 d5 (At.segs (ss := [Seg.cell (.int .u64 a0.lasts), Seg.cell (.int .u64 a0.stored), Seg.cell (.int .u64 a0.sent), Seg.cell (.bool a0.flushed)]) (At.gr A_0 (fB.gr hz)) 3 1 rfl)) rfl rfl
        · intro ρz wz hz hk hd
          have d6 := hd 3 rfl 6 rfl
          exact sk_val (v := .bool a0.flushed) (by exact xr_move rfl d6) rfl rfl
        · intro ρz wz hz hk hd
          have d7 := hd 4 rfl 7 rfl
          exact sk_gval (v := .pointer (some ⟨G_0, p_0, none⟩)) (by exact xr_move rfl ((hk 0 rfl).trans rfl)) rfl rfl d7 c1 rfl
        · intro ρz wz hz hk hd
          have d8 := hd 5 rfl 8 rfl
          have d7 := hd 4 rfl 7 rfl
          exact sk_gval (v := .pointer (some ⟨G_0, p_0, none⟩)) (by exact xr_nilCheck rfl d8) rfl rfl d7 c1 rfl
        · intro ρz wz hz hk hd
          have d9 := hd 6 rfl 9 rfl
          have d7 := hd 4 rfl 7 rfl
          exact sk_gval (v := .pointer (some ⟨G_0, p_0 + 1, none⟩)) (by exact xr_fieldAddr (p := p_0) (q := 1) rfl fl142_1 d9) rfl rfl d7 c1 rfl
        · intro ρz wz hz hk hd
          have d10 := hd 7 rfl 10 rfl
          have d7 := hd 4 rfl 7 rfl
          exact sk_gval (v := .int .u64 a0.stored) (by exact xr_load1 (v := .int .u64 a0.stored) rfl ag22 d10 (At.segs (ss := [Seg.cell (.int .u64 a0.lasts), Seg.cell (.int .u64 a0.stored), Seg.cell (.int .u64 a0.sent), Seg.cell (.bool a0.flushed)]) (At.gr A_0 (fB.gr hz)) 1 1 rfl)) rfl rfl d7 c1 rfl
        · intro ρz wz hz hk hd
          have d7 := hd 4 rfl 7 rfl
          exact sk_gval (v := .pointer (some ⟨G_0, p_0, none⟩)) (by exact xr_move rfl ((hk 0 rfl).trans rfl)) rfl rfl d7 c1 rfl
        · intro ρz wz hz hk hd
          have d12 := hd 9 rfl 12 rfl
          have d7 := hd 4 rfl 7 rfl
          exact sk_gval (v := .pointer (some ⟨G_0, p_0, none⟩)) (by exact xr_nilCheck rfl d12) rfl rfl d7 c1 rfl
        · intro ρz wz hz hk hd
          have d13 := hd 10 rfl 13 rfl
          have d7 := hd 4 rfl 7 rfl
          exact sk_gval (v := .pointer (some ⟨G_0, p_0 + 0, none⟩)) (by exact xr_fieldAddr (p := p_0) (q := 0) rfl fl142_0 d13) rfl rfl d7 c1 rfl
        · intro ρz wz hz hk hd
          have d14 := hd 11 rfl 14 rfl
          have d7 := hd 4 rfl 7 rfl
          exact sk_gval (v := .int .u64 a0.lasts) (by exact xr_load1 (v := .int .u64 a0.lasts) rfl ag22 d14 (At.segs (ss := [Seg.cell (.int .u64 a0.lasts), Seg.cell (.int .u64 a0.stored), Seg.cell (.int .u64 a0.sent), Seg.cell (.bool a0.flushed)]) (At.gr A_0 (fB.gr hz)) 0 1 rfl)) rfl rfl d7 c1 rfl
        · intro ρz wz hz hk hd
          have d11 := hd 8 rfl 11 rfl
          have d15 := hd 12 rfl 15 rfl
          have d7 := hd 4 rfl 7 rfl
          exact sk_gval (v := .bool (!decide (a0.stored = a0.lasts))) (by exact xr_neI rfl Try.underlying22 rfl d11 d15) rfl rfl d7 c1 rfl
      · intro ρ5 w6 q7 hk hd
        have e7 := hd 4 rfl 7 rfl
        have e16 := hd 13 rfl 16 rfl
        have fB := fB.gr q7
        refine ol_val (v := .bool (!decide (a0.stored = a0.lasts))) (by exact xr_pickF rfl e7 c1 e16) rfl rfl rfl ?_
        refine ol_val (v := .bool (!decide (a0.stored = a0.lasts))) (by exact xr_assign rfl rfl) rfl rfl rfl ?_
        refine ol_nil ?_
        refine thn_i ?_
        exact ⟨(rfl).trans (congrArg (fun z => (.bool z : Value)) (show (!decide (a0.stored = a0.lasts)) = (if a0.flushed = true then true else (!decide (a0.stored = a0.lasts))) from by rw [ite_f c1])), q7⟩
  · skip
    rintro ρ8 w9 ⟨e2, q10⟩
    have fB := fB.gr q10
    refine cw_ret ?_
    repeat (first | with_reducible refine thn_r ?_ | with_reducible refine blk_r ?_)
    obtain rfl := Option.some.inj h
    refine fin_ret1 Try.results86 e2 ?_
    exact ⟨_, rfl, rfl, fB⟩
end Go.Proofs.Ytklhbaghbmndeaa

/- (*rickyard/pmem.cell).fate: its model, and that the Go function computes it: written by gen.py. -/
set_option linter.unusedVariables false
namespace Go.Proofs.Ytklhbaghbmndeaa
open Go Go.Xw
def pmem_cell_fate__r0.f (fu : Nat) (a0 : S_pmem_cell) (a1 : Int) : Option Int := (((if (decide ((Int.tmod a1 3) = 1)) = true then some ((decide ((Int.tmod a1 3) = 1))) else some ((decide ((Int.tmod a1 3) = (-2))))) : Option Bool).bind fun x1 => (((if x1 = true then (if a0.flushed = true then some (Sum.inl (a0.sent)) else some (Sum.inr ())) else (((if (decide ((Int.tmod a1 3) = 2)) = true then some ((decide ((Int.tmod a1 3) = 2))) else some ((decide ((Int.tmod a1 3) = (-1))))) : Option Bool).bind fun x13 => (if x13 = true then some (Sum.inl (a0.stored)) else some (Sum.inr ())))) : Option (Sum Int Unit)).bind fun x7 => match x7 with | Sum.inl p => some p | Sum.inr x10 => some (a0.lasts)))
set_option maxRecDepth 100000 in
set_option maxHeartbeats 400000 in
theorem pmem_cell_fate__r0.ok (fu : Nat) (w : World) (a0 : S_pmem_cell) (G_0 p_0 : Nat) (A_0 : At w G_0 p_0 (cellsOf [Seg.cell (.int .u64 a0.lasts), Seg.cell (.int .u64 a0.stored), Seg.cell (.int .u64 a0.sent), Seg.cell (.bool a0.flushed)])) (a1 : Int) (r : Int) (h : pmem_cell_fate__r0.f fu a0 a1 = some r) :
    Calls Try.prog 87 (([.pointer (some ⟨G_0, p_0, none⟩), .int .i64 a1] : List Value).toArray) w (fun e w' => ∃ v, e = .returned v ∧ v = .int .u64 r ∧ Gr w w') := by
  unfold pmem_cell_fate__r0.f at h
  have fB : Gr w w := Fr.refl _ _
  refine calls_cw Try.func87 rfl Try.ntmps87 rfl ?_
  refine cw_seq ?_
  refine cw_region ?_
  refine ol_val (v := .int .u64 0) (by exact xr_assign rfl rfl) rfl rfl rfl ?_
  refine ol_nil ?_
  refine cw_seq ?_
  refine cw_seq ?_
  refine cw_region ?_
  refine ol_val (v := .int .i64 a1) (by exact xr_move rfl rfl) rfl rfl rfl ?_
  refine ol_val (v := .int .i64 (Int.tmod a1 3)) (by exact xr_rem rfl rfl rfl (by decide)) rfl rfl rfl ?_
  refine ol_nil ?_
  refine cw_block ?_
  refine cw_seq ?_
  refine cw_seq ?_
  refine cw_region ?_
  refine ol_val (v := .bool (decide ((Int.tmod a1 3) = 1))) (by exact xr_eqI rfl Try.underlying3 rfl rfl rfl) rfl rfl rfl ?_
  refine ol_val (v := .bool (decide ((Int.tmod a1 3) = 1))) (by exact xr_assign rfl rfl) rfl rfl rfl ?_
  refine ol_nil ?_
  obtain ⟨x1, j2, h3⟩ := bs h
  refine cw_mid (fun ρ' w' => ρ' 0 = .pointer (some ⟨G_0, p_0, none⟩) ∧ ρ' 6 = .int .i64 (Int.tmod a1 3) ∧ ρ' 7 = .bool x1 ∧ Gr w w') ?_ ?_
  · have h := j2
    rcases is h with ⟨c4, h⟩ | ⟨c4, h⟩
    · refine cw_condT rfl c4 ?_
      refine cw_skip ?_
      obtain rfl := Option.some.inj h
      refine thn_i ?_
      exact ⟨rfl, rfl, rfl, fB⟩
    · refine cw_condF rfl c4 ?_
      refine cw_region ?_
      refine ol_val (v := .bool (decide ((Int.tmod a1 3) = (-2)))) (by exact xr_eqI rfl Try.underlying3 rfl rfl rfl) rfl rfl rfl ?_
      refine ol_val (v := .bool (decide ((Int.tmod a1 3) = (-2)))) (by exact xr_assign rfl rfl) rfl rfl rfl ?_
      refine ol_nil ?_
      obtain rfl := Option.some.inj h
      refine thn_i ?_
      exact ⟨rfl, rfl, rfl, fB⟩
  · rintro ρ5 w6 ⟨e0, e6, e7, fB⟩
    have h := h3
    obtain ⟨x7, j8, h9⟩ := bs h
    refine cw_mid (fun ρ' w' => ∃ x10, x7 = Sum.inr x10 ∧ ρ' 0 = .pointer (some ⟨G_0, p_0, none⟩) ∧ Gr w w') ?_ ?_
    · have h := j8
      rcases is h with ⟨c11, h⟩ | ⟨c11, h⟩
      · refine cw_condT e7 c11 ?_
        refine cw_seq ?_
        refine cw_region ?_
        refine ol_val (v := .pointer (some ⟨G_0, p_0, none⟩)) (by exact xr_move rfl e0) rfl rfl rfl ?_
        refine ol_val (v := .pointer (some ⟨G_0, p_0, none⟩)) (by exact xr_nilCheck rfl rfl) rfl rfl rfl ?_
        refine ol_val (v := .pointer (some ⟨G_0, p_0 + 3, none⟩)) (by exact xr_fieldAddr (p := p_0) (q := 3) rfl fl142_3 rfl) rfl rfl rfl ?_
        refine ol_val (v := .bool a0.flushed) (by exact xr_load1 (v := .bool a0.flushed) rfl ag4 rfl (At.segs (ss := [Seg.cell (.int .u64 a0.lasts), Seg.cell (.int .u64 a0.stored), Seg.cell (.int .u64 a0.sent), Seg.cell (.bool a0.flushed)]) (At.gr A_0 fB) 3 1 rfl)) rfl rfl rfl ?_
        refine ol_nil ?_
        rcases is h with ⟨c12, h⟩ | ⟨c12, h⟩
        · refine cw_condT rfl c12 ?_
          refine cw_seq ?_
          refine cw_region ?_
          refine ol_val (v := .pointer (some ⟨G_0, p_0, none⟩)) (by exact xr_move rfl e0) rfl rfl rfl ?_
          refine ol_val (v := .pointer (some ⟨G_0, p_0, none⟩)) (by exact xr_nilCheck rfl rfl) rfl rfl rfl ?_
          refine ol_val (v := .pointer (some ⟨G_0, p_0 + 2, none⟩)) (by exact xr_fieldAddr (p := p_0) (q := 2) rfl fl142_2 rfl) rfl rfl rfl ?_
          refine ol_val (v := .int .u64 a0.sent) (by exact xr_load1 (v := .int .u64 a0.sent) rfl ag22 rfl (At.segs (ss := [Seg.cell (.int .u64 a0.lasts), Seg.cell (.int .u64 a0.stored), Seg.cell (.int .u64 a0.sent), Seg.cell (.bool a0.flushed)]) (At.gr A_0 fB) 2 1 rfl)) rfl rfl rfl ?_
          refine ol_val (v := .int .u64 a0.sent) (by exact xr_assign rfl rfl) rfl rfl rfl ?_
          refine ol_nil ?_
          refine cw_ret ?_
          repeat (first | with_reducible refine thn_r ?_ | with_reducible refine blk_r ?_)
          obtain rfl := Option.some.inj h
          have h := h9
          obtain rfl := Option.some.inj h
          refine fin_ret1 Try.results87 rfl ?_
          exact ⟨_, rfl, rfl, fB⟩
        · refine cw_condF rfl c12 ?_
          refine cw_skip ?_
          obtain rfl := Option.some.inj h
          refine thn_i ?_
          exact ⟨_, rfl, e0, fB⟩
      · refine cw_condF e7 c11 ?_
        refine cw_seq ?_
        refine cw_seq ?_
        refine cw_region ?_
        refine ol_val (v := .bool (decide ((Int.tmod a1 3) = 2))) (by exact xr_eqI rfl Try.underlying3 rfl e6 rfl) rfl rfl rfl ?_
        refine ol_val (v := .bool (decide ((Int.tmod a1 3) = 2))) (by exact xr_assign rfl rfl) rfl rfl rfl ?_
        refine ol_nil ?_
        obtain ⟨x13, j14, h15⟩ := bs h
        refine cw_mid (fun ρ' w' => ρ' 0 = .pointer (some ⟨G_0, p_0, none⟩) ∧ ρ' 18 = .bool x13 ∧ Gr w w') ?_ ?_
        · have h := j14
          rcases is h with ⟨c16, h⟩ | ⟨c16, h⟩
          · refine cw_condT rfl c16 ?_
            refine cw_skip ?_
            obtain rfl := Option.some.inj h
            refine thn_i ?_
            exact ⟨e0, rfl, fB⟩
          · refine cw_condF rfl c16 ?_
            refine cw_region ?_
            refine ol_val (v := .bool (decide ((Int.tmod a1 3) = (-1)))) (by exact xr_eqI rfl Try.underlying3 rfl e6 rfl) rfl rfl rfl ?_
            refine ol_val (v := .bool (decide ((Int.tmod a1 3) = (-1)))) (by exact xr_assign rfl rfl) rfl rfl rfl ?_
            refine ol_nil ?_
            obtain rfl := Option.some.inj h
            refine thn_i ?_
            exact ⟨e0, rfl, fB⟩
        · rintro ρ17 w18 ⟨e0, e18, fB⟩
          have h := h15
          rcases is h with ⟨c19, h⟩ | ⟨c19, h⟩
          · refine cw_condT e18 c19 ?_
            refine cw_seq ?_
            refine cw_region ?_
            refine ol_val (v := .pointer (some ⟨G_0, p_0, none⟩)) (by exact xr_move rfl e0) rfl rfl rfl ?_
            refine ol_val (v := .pointer (some ⟨G_0, p_0, none⟩)) (by exact xr_nilCheck rfl rfl) rfl rfl rfl ?_
            refine ol_val (v := .pointer (some ⟨G_0, p_0 + 1, none⟩)) (by exact xr_fieldAddr (p := p_0) (q := 1) rfl fl142_1 rfl) rfl rfl rfl ?_
            refine ol_val (v := .int .u64 a0.stored) (by exact xr_load1 (v := .int .u64 a0.stored) rfl ag22 rfl (At.segs (ss := [Seg.cell (.int .u64 a0.lasts), Seg.cell (.int .u64 a0.stored), Seg.cell (.int .u64 a0.sent), Seg.cell (.bool a0.flushed)]) (At.gr A_0 fB) 1 1 rfl)) rfl rfl rfl ?_
            refine ol_val (v := .int .u64 a0.stored) (by exact xr_assign rfl rfl) rfl rfl rfl ?_
            refine ol_nil ?_
            refine cw_ret ?_
            repeat (first | with_reducible refine thn_r ?_ | with_reducible refine blk_r ?_)
            obtain rfl := Option.some.inj h
            have h := h9
            obtain rfl := Option.some.inj h
            refine fin_ret1 Try.results87 rfl ?_
            exact ⟨_, rfl, rfl, fB⟩
          · refine cw_condF e18 c19 ?_
            refine cw_skip ?_
            obtain rfl := Option.some.inj h
            refine thn_i ?_
            exact ⟨_, rfl, e0, fB⟩
    · rintro ρ20 w21 ⟨x10, rfl, e0, fB⟩
      have h := h9
      refine blk_i ?_
      refine cw_seq ?_
      refine cw_region ?_
      refine ol_val (v := .pointer (some ⟨G_0, p_0, none⟩)) (by exact xr_move rfl e0) rfl rfl rfl ?_
      refine ol_val (v := .pointer (some ⟨G_0, p_0, none⟩)) (by exact xr_nilCheck rfl rfl) rfl rfl rfl ?_
      refine ol_val (v := .pointer (some ⟨G_0, p_0 + 0, none⟩)) (by exact xr_fieldAddr (p := p_0) (q := 0) rfl fl142_0 rfl) rfl rfl rfl ?_
      refine ol_val (v := .int .u64 a0.lasts) (by exact xr_load1 (v := .int .u64 a0.lasts) rfl ag22 rfl (At.segs (ss := [Seg.cell (.int .u64 a0.lasts), Seg.cell (.int .u64 a0.stored), Seg.cell (.int .u64 a0.sent), Seg.cell (.bool a0.flushed)]) (At.gr A_0 fB) 0 1 rfl)) rfl rfl rfl ?_
      refine ol_val (v := .int .u64 a0.lasts) (by exact xr_assign rfl rfl) rfl rfl rfl ?_
      refine ol_nil ?_
      refine cw_ret ?_
      repeat (first | with_reducible refine thn_r ?_ | with_reducible refine blk_r ?_)
      obtain rfl := Option.some.inj h
      refine fin_ret1 Try.results87 rfl ?_
      exact ⟨_, rfl, rfl, fB⟩
end Go.Proofs.Ytklhbaghbmndeaa

/- (*rickyard/pmem.Device).Crash: its model, and that the Go function computes it: written by gen.py. -/
set_option linter.unusedVariables false
namespace Go.Proofs.Ytklhbaghbmndeaa
open Go Go.Xw
def pmem_Device_Crash.s0 (fu : Nat) (a0 : S_pmem_Device) : ((List Int) × Int × (List S_pmem_cell)) → Option (Sum (List S_pmem_cell) ((List Int) × Int × (List S_pmem_cell))) := fun s7 => (if (decide (s7.2.1 < (List.length a0.cells : Int))) = true then (if 0 ≤ s7.2.1 ∧ s7.2.1 < (List.length s7.2.2 : Int) then ((pmem_cell_open__r0.f fu (ix s7.2.2 s7.2.1) : Option Bool).bind fun t21 => (((if t21 = true then (((if (decide ((List.length s7.1 : Int) > 0)) = true then (if (0 : Int) < (List.length s7.1 : Int) then (if (1 : Int) ≤ (List.length s7.1 : Int) then some ((cut s7.1 1 (List.length s7.1 : Int)), (ix s7.1 0)) else none) else none) else some (s7.1, 0)) : Option ((List Int) × Int)).bind fun x34 => ((pmem_cell_fate__r0.f fu (ix s7.2.2 s7.2.1) x34.2 : Option Int).bind fun t52 => ((pmem_cell_keep__i0.f fu (ix s7.2.2 s7.2.1) t52 : Option S_pmem_cell).bind fun t62 => some (x34.1, (List.set s7.2.2 (Int.toNat s7.2.1) t62))))) else some (s7.1, s7.2.2)) : Option ((List Int) × (List S_pmem_cell))).bind fun x25 => (if s7.2.1 < (List.length x25.2 : Int) then (if s7.2.1 < (List.length x25.2 : Int) then some (Sum.inr (x25.1, (IntKind.i64.wrap (s7.2.1 + 1)), (List.set x25.2 (Int.toNat s7.2.1) (⟨(ix x25.2 s7.2.1).lasts, (ix x25.2 s7.2.1).lasts, (ix x25.2 s7.2.1).sent, (ix x25.2 s7.2.1).flushed⟩ : S_pmem_cell)))) else none) else none))) else none) else some (Sum.inl (s7.2.2)))
def pmem_Device_Crash.f (fu : Nat) (a0 : S_pmem_Device) (a1 : List Int) : Option S_pmem_Device := ((loopM (pmem_Device_Crash.s0 fu a0) fu (a1, 0, a0.cells)).bind fun e8 => some ((⟨e8, (⟨[], (0 : Int)⟩ : S_pmem_plan), false, false, 0, a0.steps⟩ : S_pmem_Device)))
set_option maxRecDepth 100000 in
set_option maxHeartbeats 400000 in
theorem pmem_Device_Crash.ok (fu : Nat) (w : World) (a0 : S_pmem_Device) (G_0 : Nat) (V0_0 : Value) (O0_0 : Own k_pmem_cell 142 w 0 V0_0 a0.cells) (V0_1 : Value) (O0_1 : Own (kI .i64) 3 w 0 V0_1 a0.plan.list) (b_0 : Blk w G_0 139 [Seg.cell V0_0 O0_0.one, Seg.cell V0_1 O0_1.one, Seg.cell (.int .i64 a0.plan.at_), Seg.cell (.bool a0.off), Seg.cell (.bool a0.armed), Seg.cell (.int .i64 a0.left), Seg.cell (.int .i64 a0.steps)]) (a1 : List Int) (V1_0 : Value) (R1_0 : Rd (kI .i64) w V1_0 a1) (NR1_0_P0 : OffR V1_0 a1 G_0) (NR1_0_R0_0 : OffRV V1_0 a1 V0_0) (NR1_0_R0_1 : OffRV V1_0 a1 V0_1) (r : S_pmem_Device) (h : pmem_Device_Crash.f fu a0 a1 = some r) :
    Calls Try.prog 32 (([.pointer (some ⟨G_0, 0, none⟩), V1_0] : List Value).toArray) w (fun e w' => ∃ v, e = .returned v ∧ ∃ u1 : Value, ∃ u4 : Value, ∃ o2 : Own k_pmem_cell 142 w' 0 u1 r.cells, ∃ m3 : ∀ g, Value.ownBlock u1 = some g → w.heap.size ≤ g ∨ (g = G_0 ∨ some g = Value.ownBlock V0_0 ∨ some g = Value.ownBlock V0_1), ∃ o5 : Own (kI .i64) 3 w' 0 u4 r.plan.list, ∃ m6 : ∀ g, Value.ownBlock u4 = some g → w.heap.size ≤ g ∨ (g = G_0 ∨ some g = Value.ownBlock V0_0 ∨ some g = Value.ownBlock V0_1), v = .tuple #[] ∧ Blk w' G_0 139 [Seg.cell u1 o2.one, Seg.cell u4 o5.one, Seg.cell (.int .i64 r.plan.at_), Seg.cell (.bool r.off), Seg.cell (.bool r.armed), Seg.cell (.int .i64 r.left), Seg.cell (.int .i64 r.steps)] ∧ Fr (fun j => j = G_0 ∨ some j = Value.ownBlock V0_0 ∨ some j = Value.ownBlock V0_1) w w') := by
  unfold pmem_Device_Crash.f at h
  have fB : Fr (fun j => j = G_0 ∨ some j = Value.ownBlock V0_0 ∨ some j = Value.ownBlock V0_1) w w := Fr.refl _ _
  have M0_0 : ∀ g, Value.ownBlock V0_0 = some g → w.heap.size ≤ g ∨ (g = G_0 ∨ some g = Value.ownBlock V0_0 ∨ some g = Value.ownBlock V0_1) := fun g hg => .inr (.inr (.inl hg.symm))
  have M0_1 : ∀ g, Value.ownBlock V0_1 = some g → w.heap.size ≤ g ∨ (g = G_0 ∨ some g = Value.ownBlock V0_0 ∨ some g = Value.ownBlock V0_1) := fun g hg => .inr (.inr (.inr hg.symm))
  refine calls_cw Try.func32 rfl Try.ntmps32 rfl ?_
  refine cw_seq ?_
  refine cw_seq ?_
  refine cw_region ?_
  refine ol_val (v := .pointer (some ⟨G_0, 0, none⟩)) (by exact xr_move rfl rfl) rfl rfl rfl ?_
  refine ol_val (v := .pointer (some ⟨G_0, 0, none⟩)) (by exact xr_nilCheck rfl rfl) rfl rfl rfl ?_
  refine ol_val (v := .pointer (some ⟨G_0, 0, none⟩)) (by exact xr_fieldAddr (p := 0) (q := 0) rfl fl139_0 rfl) rfl rfl rfl ?_
  refine ol_val (v := V0_0) (by exact xr_load1 (v := V0_0) rfl ag135 rfl (b_0.seg 0 rfl rfl)) rfl rfl rfl ?_
  refine ol_val (v := .int .i64 (List.length a0.cells : Int)) (by exact xr_lenR rfl Try.underlying135 rfl O0_0.rd) rfl rfl rfl ?_
  refine ol_val (v := .int .i64 0) (by exact xr_move rfl rfl) rfl rfl rfl ?_
  refine ol_nil ?_
  obtain ⟨e8, l9, h10⟩ := bs h
  refine cw_mid (fun ρ' w' => ∃ O0_0 : Own k_pmem_cell 142 w' 0 V0_0 e8, ∃ O0_1 : Own (kI .i64) 3 w' 0 V0_1 a0.plan.list, ρ' 0 = .pointer (some ⟨G_0, 0, none⟩) ∧ Blk w' G_0 139 [Seg.cell V0_0 O0_0.one, Seg.cell V0_1 O0_1.one, Seg.cell (.int .i64 a0.plan.at_), Seg.cell (.bool a0.off), Seg.cell (.bool a0.armed), Seg.cell (.int .i64 a0.left), Seg.cell (.int .i64 a0.steps)] ∧ Fr (fun j => j = G_0 ∨ some j = Value.ownBlock V0_0 ∨ some j = Value.ownBlock V0_1) w w') ?_ ?_
  · refine cw_block ?_
    refine cw_round (fun (s7 : (List Int) × Int × (List S_pmem_cell)) ρ' w' => ∃ v11 : Value, ∃ O0_0 : Own k_pmem_cell 142 w' 0 V0_0 s7.2.2, ∃ O0_1 : Own (kI .i64) 3 w' 0 V0_1 a0.plan.list, ∃ r12 : Rd (kI .i64) w' v11 s7.1, OffR v11 s7.1 G_0 ∧ OffRV v11 s7.1 V0_0 ∧ OffRV v11 s7.1 V0_1 ∧ ρ' 0 = .pointer (some ⟨G_0, 0, none⟩) ∧ ρ' 1 = v11 ∧ ρ' 11 = .int .i64 (List.length a0.cells : Int) ∧ ρ' 12 = .int .i64 s7.2.1 ∧ Blk w' G_0 139 [Seg.cell V0_0 O0_0.one, Seg.cell V0_1 O0_1.one, Seg.cell (.int .i64 a0.plan.at_), Seg.cell (.bool a0.off), Seg.cell (.bool a0.armed), Seg.cell (.int .i64 a0.left), Seg.cell (.int .i64 a0.steps)] ∧ Fr (fun j => j = G_0 ∨ some j = Value.ownBlock V0_0 ∨ some j = Value.ownBlock V0_1) w w') l9 ?_ ?_
    · skip
      exact ⟨V1_0, O0_0, O0_1, R1_0, NR1_0_P0, NR1_0_R0_0, NR1_0_R0_1, rfl, rfl, rfl, rfl, b_0, fB⟩
    · rintro s7 x18 ρ16 w17 ⟨v11, O0_0, O0_1, r12, a13, a14, a15, e0, e1, e11, e12, b_0, fB⟩ h
      unfold pmem_Device_Crash.s0 at h
      refine cw_seq ?_
      refine cw_region ?_
      refine ol_val (v := .bool (decide (s7.2.1 < (List.length a0.cells : Int)))) (by exact xr_lss rfl e12 e11) rfl rfl rfl ?_
      refine ol_nil ?_
      refine cw_seq ?_
      rcases is h with ⟨c19, h⟩ | ⟨c19, h⟩
      · refine cw_condT rfl c19 ?_
        refine cw_skip ?_
        refine cw_seq ?_
        refine cw_block ?_
        refine cw_seq ?_
        refine cw_region ?_
        refine ol_val (v := .int .i64 s7.2.1) (by exact xr_move rfl e12) rfl rfl rfl ?_
        refine ol_val (v := .int .i64 s7.2.1) (by exact xr_assign rfl rfl) rfl rfl rfl ?_
        refine ol_nil ?_
        refine cw_seq ?_
        refine cw_region ?_
        refine ol_val (v := .pointer (some ⟨G_0, 0, none⟩)) (by exact xr_move rfl e0) rfl rfl rfl ?_
        refine ol_val (v := .pointer (some ⟨G_0, 0, none⟩)) (by exact xr_nilCheck rfl rfl) rfl rfl rfl ?_
        refine ol_val (v := .pointer (some ⟨G_0, 0, none⟩)) (by exact xr_fieldAddr (p := 0) (q := 0) rfl fl139_0 rfl) rfl rfl rfl ?_
        refine ol_val (v := V0_0) (by exact xr_load1 (v := V0_0) rfl ag135 rfl (b_0.seg 0 rfl rfl)) rfl rfl rfl ?_
        refine ol_val (v := .int .i64 s7.2.1) (by exact xr_move rfl rfl) rfl rfl rfl ?_
        obtain ⟨g20, h⟩ := gs h
        refine ol_val (v := .pointer (some ⟨(sb V0_0), so V0_0 + Int.toNat s7.2.1 * 4, none⟩)) (by exact xr_indexR (K := k_pmem_cell) (v := V0_0) rfl Try.underlying135 sz142 rfl O0_0.rd rfl g20.1 g20.2) rfl rfl rfl ?_
        refine ol_val (v := .pointer (some ⟨(sb V0_0), so V0_0 + Int.toNat s7.2.1 * 4, none⟩)) (by exact xr_assign rfl rfl) rfl rfl rfl ?_
        refine ol_nil ?_
        refine cw_seq ?_
        refine cw_seq ?_
        refine cw_region ?_
        refine ol_val (v := .pointer (some ⟨(sb V0_0), so V0_0 + Int.toNat s7.2.1 * 4, none⟩)) (by exact xr_move rfl rfl) rfl rfl rfl ?_
        obtain ⟨t21, k22, h⟩ := bs h
        refine ol_op (by exact opv_call rfl cal86 (ac rfl an) (pmem_cell_open__r0.ok fu _ (ix s7.2.2 s7.2.1) (sb V0_0) (so V0_0 + Int.toNat s7.2.1 * 4) (show At _ _ _ (cellsOf [Seg.cell (.int .u64 ((ix s7.2.2 s7.2.1).lasts)), Seg.cell (.int .u64 ((ix s7.2.2 s7.2.1).stored)), Seg.cell (.int .u64 ((ix s7.2.2 s7.2.1).sent)), Seg.cell (.bool ((ix s7.2.2 s7.2.1).flushed))]) from (O0_0.rd.elem g20.1 g20.2)) _ k22)) rfl rfl rfl ?_
        rintro _ w24 ⟨rfl, q23⟩
        have b_0 := b_0.gr q23
        have O0_0 := O0_0.gr q23
        have O0_1 := O0_1.gr q23
        have r12 := r12.gr q23
        have fB := fB.gr q23
        refine ol_nil ?_
        obtain ⟨x25, j26, h27⟩ := bs h
        refine cw_mid (fun ρ' w' => ∃ v28 : Value, ∃ O0_0 : Own k_pmem_cell 142 w' 0 V0_0 x25.2, ∃ O0_1 : Own (kI .i64) 3 w' 0 V0_1 a0.plan.list, ∃ r29 : Rd (kI .i64) w' v28 x25.1, OffR v28 x25.1 G_0 ∧ OffRV v28 x25.1 V0_0 ∧ OffRV v28 x25.1 V0_1 ∧ ρ' 0 = .pointer (some ⟨G_0, 0, none⟩) ∧ ρ' 1 = v28 ∧ ρ' 5 = .pointer (some ⟨(sb V0_0), so V0_0 + Int.toNat s7.2.1 * 4, none⟩) ∧ ρ' 11 = .int .i64 (List.length a0.cells : Int) ∧ ρ' 12 = .int .i64 s7.2.1 ∧ Blk w' G_0 139 [Seg.cell V0_0 O0_0.one, Seg.cell V0_1 O0_1.one, Seg.cell (.int .i64 a0.plan.at_), Seg.cell (.bool a0.off), Seg.cell (.bool a0.armed), Seg.cell (.int .i64 a0.left), Seg.cell (.int .i64 a0.steps)] ∧ Fr (fun j => j = G_0 ∨ some j = Value.ownBlock V0_0 ∨ some j = Value.ownBlock V0_1) w w') ?_ ?_
        · have h := j26
          rcases is h with ⟨c33, h⟩ | ⟨c33, h⟩
          · refine cw_condT rfl c33 ?_
            refine cw_seq ?_
            refine cw_region ?_
            refine ol_val (v := .int .i64 0) (by exact xr_assign rfl rfl) rfl rfl rfl ?_
            refine ol_nil ?_
            refine cw_seq ?_
            refine cw_seq ?_
            refine cw_region ?_
            refine ol_val (v := v11) (by exact xr_move rfl e1) rfl rfl rfl ?_
            refine ol_val (v := .int .i64 (List.length s7.1 : Int)) (by exact xr_lenR rfl Try.underlying25 rfl r12) rfl rfl rfl ?_
            refine ol_val (v := .bool (decide ((List.length s7.1 : Int) > 0))) (by exact xr_gtr rfl rfl rfl) rfl rfl rfl ?_
            refine ol_nil ?_
            obtain ⟨x34, j35, h36⟩ := bs h
            refine cw_mid (fun ρ' w' => ∃ v37 : Value, ∃ O0_0 : Own k_pmem_cell 142 w' 0 V0_0 s7.2.2, ∃ O0_1 : Own (kI .i64) 3 w' 0 V0_1 a0.plan.list, ∃ r38 : Rd (kI .i64) w' v37 x34.1, OffR v37 x34.1 G_0 ∧ OffRV v37 x34.1 V0_0 ∧ OffRV v37 x34.1 V0_1 ∧ ρ' 0 = .pointer (some ⟨G_0, 0, none⟩) ∧ ρ' 1 = v37 ∧ ρ' 5 = .pointer (some ⟨(sb V0_0), so V0_0 + Int.toNat s7.2.1 * 4, none⟩) ∧ ρ' 6 = .int .i64 x34.2 ∧ ρ' 11 = .int .i64 (List.length a0.cells : Int) ∧ ρ' 12 = .int .i64 s7.2.1 ∧ Blk w' G_0 139 [Seg.cell V0_0 O0_0.one, Seg.cell V0_1 O0_1.one, Seg.cell (.int .i64 a0.plan.at_), Seg.cell (.bool a0.off), Seg.cell (.bool a0.armed), Seg.cell (.int .i64 a0.left), Seg.cell (.int .i64 a0.steps)] ∧ Fr (fun j => j = G_0 ∨ some j = Value.ownBlock V0_0 ∨ some j = Value.ownBlock V0_1) w w') ?_ ?_
            · have h := j35
              rcases is h with ⟨c42, h⟩ | ⟨c42, h⟩
              · refine cw_condT rfl c42 ?_
                obtain ⟨g43, h⟩ := gs h
                obtain ⟨g45, h⟩ := gs h
                refine cw_drawL 6 [fun vz wz => vz = (v11 : Value), fun vz wz => vz = (.pointer (some ⟨(sb v11), so v11 + Int.toNat 0 * 1, none⟩) : Value), fun vz wz => vz = (.int .i64 (ix s7.1 0) : Value), fun vz wz => vz = (v11 : Value), fun vz wz => ∃ r44 : Rd (kI .i64) wz (subv 1 v11 (Int.toNat 1) (List.length s7.1)) (cut s7.1 1 (List.length s7.1 : Int)), vz = (subv 1 v11 (Int.toNat 1) (List.length s7.1) : Value), fun vz wz => vz = (.int .i64 (ix s7.1 0) : Value)] mo rfl ⟨fun _ _ _ h _ => h, fun _ _ _ h _ => h, fun _ _ _ h _ => h, fun _ _ _ h _ => h, fun _ _ _ ⟨r44, h⟩ q => ⟨r44.gr q, h⟩, fun _ _ _ h _ => h, trivial⟩ ?_ ?_
                · refine ⟨?_, ?_, ?_, ?_, ?_, ?_, trivial⟩
                  · intro ρz wz hz hk hd
                    exact sk_val (v := v11) (by exact xr_move rfl ((hk 1 rfl).trans e1)) rfl rfl
                  · intro ρz wz hz hk hd
                    have d26 := hd 0 rfl 26 rfl
                    exact sk_val (v := .pointer (some ⟨(sb v11), so v11 + Int.toNat 0 * 1, none⟩)) (by exact xr_indexR (K := (kI .i64)) (v := v11) rfl Try.underlying25 sz3 d26 (r12.gr hz) rfl (by decide) g43) rfl rfl
                  · intro ρz wz hz hk hd
                    have d27 := hd 1 rfl 27 rfl
                    exact sk_val (v := .int .i64 (ix s7.1 0)) (by exact xr_load1 (v := .int .i64 (ix s7.1 0)) rfl ag3 d27 ((r12.gr hz).elem (by decide) g43)) rfl rfl
                  · intro ρz wz hz hk hd
                    exact sk_val (v := v11) (by exact xr_move rfl ((hk 1 rfl).trans e1)) rfl rfl
                  · intro ρz wz hz hk hd
                    have d29 := hd 3 rfl 29 rfl
                    exact sk_val (by exact xr_slice_l (K := (kI .i64)) (v := v11) rfl Try.underlying25 sz3 d29 (r12.gr hz) rfl (by decide) g45) rfl ⟨(r12.gr hz).cut (lo := 1) (hi := (List.length s7.1 : Int)) (by decide) g45 (Int.le_refl _), rfl⟩
                  · intro ρz wz hz hk hd
                    have d28 := hd 2 rfl 28 rfl
                    exact sk_val (v := .int .i64 (ix s7.1 0)) (by exact xr_assign rfl d28) rfl rfl
                · intro ρ46 w47 q48 hk hd
                  have e0 := (hk 0 rfl).trans e0
                  have e5 := (hk 5 rfl).trans rfl
                  have e6 := hd 5 rfl 6 rfl
                  have e11 := (hk 11 rfl).trans e11
                  have e12 := (hk 12 rfl).trans e12
                  obtain ⟨r49, e30⟩ := hd 4 rfl 30 rfl
                  have b_0 := b_0.gr q48
                  have O0_0 := O0_0.gr q48
                  have O0_1 := O0_1.gr q48
                  have fB := fB.gr q48
                  refine ol_val (v := subv 1 v11 (Int.toNat 1) (List.length s7.1)) (by exact xr_assign rfl e30) rfl rfl rfl ?_
                  refine ol_nil ?_
                  obtain rfl := Option.some.inj h
                  refine thn_i ?_
                  exact ⟨(subv 1 v11 (Int.toNat 1) (List.length s7.1)), O0_0, O0_1, r49, (OffR.cut a13), (OffRV.cut a14), (OffRV.cut a15), e0, rfl, e5, e6, e11, e12, b_0, fB⟩
              · refine cw_condF rfl c42 ?_
                refine cw_skip ?_
                obtain rfl := Option.some.inj h
                refine thn_i ?_
                exact ⟨v11, O0_0, O0_1, r12, a13, a14, a15, e0, e1, rfl, rfl, e11, e12, b_0, fB⟩
            · rintro ρ50 w51 ⟨v37, O0_0, O0_1, r38, a39, a40, a41, e0, e1, e5, e6, e11, e12, b_0, fB⟩
              have h := h36
              refine cw_region ?_
              refine ol_val (v := .pointer (some ⟨(sb V0_0), so V0_0 + Int.toNat s7.2.1 * 4, none⟩)) (by exact xr_move rfl e5) rfl rfl rfl ?_
              refine ol_val (v := .pointer (some ⟨(sb V0_0), so V0_0 + Int.toNat s7.2.1 * 4, none⟩)) (by exact xr_move rfl e5) rfl rfl rfl ?_
              refine ol_val (v := .int .i64 x34.2) (by exact xr_move rfl e6) rfl rfl rfl ?_
              obtain ⟨t52, k53, h⟩ := bs h
              refine ol_op (by exact opv_call rfl cal87 (ac rfl (ac rfl an)) (pmem_cell_fate__r0.ok fu _ (ix s7.2.2 s7.2.1) (sb V0_0) (so V0_0 + Int.toNat s7.2.1 * 4) (show At _ _ _ (cellsOf [Seg.cell (.int .u64 ((ix s7.2.2 s7.2.1).lasts)), Seg.cell (.int .u64 ((ix s7.2.2 s7.2.1).stored)), Seg.cell (.int .u64 ((ix s7.2.2 s7.2.1).sent)), Seg.cell (.bool ((ix s7.2.2 s7.2.1).flushed))]) from (O0_0.rd.elem g20.1 g20.2)) x34.2 _ k53)) rfl rfl rfl ?_
              rintro _ w55 ⟨rfl, q54⟩
              have b_0 := b_0.gr q54
              have O0_0 := O0_0.gr q54
              have O0_1 := O0_1.gr q54
              have r38 := r38.gr q54
              have fB := fB.gr q54
              obtain ⟨t62, k63, h⟩ := bs h
              have f66 := off_ty b_0 O0_0 (by decide)
              have f67 := OffV.ty O0_1 O0_0 (by decide)
              obtain ⟨X56, Y57, h58, h59, b60, k61⟩ := Own.sub (K := k_pmem_cell) (i := s7.2.1) (ss := [Seg.cell (.int .u64 ((ix s7.2.2 s7.2.1).lasts)), Seg.cell (.int .u64 ((ix s7.2.2 s7.2.1).stored)), Seg.cell (.int .u64 ((ix s7.2.2 s7.2.1).sent)), Seg.cell (.bool ((ix s7.2.2 s7.2.1).flushed))]) O0_0 g20.1 g20.2 rfl
              refine ol_op (by exact opv_call rfl cal85 (ac (ptrE (q := List.length X56) rfl h58) (ac rfl an)) (pmem_cell_keep__i0.ok fu _ (ix s7.2.2 s7.2.1) (sb V0_0) 142 X56 Y57 b60 t52 _ k63)) rfl rfl rfl ?_
              rintro _ w69 ⟨rfl, b65, q64⟩
              have O0_0 := k61 _ t62 [Seg.cell (.int .u64 t62.lasts), Seg.cell (.int .u64 t62.stored), Seg.cell (.int .u64 t62.sent), Seg.cell (.bool t62.flushed)] rfl b65
              have q64 := fr_own q64 h59
              have b_0 := b_0.wrO q64 f66
              have O0_1 := O0_1.wrV q64 f67
              have fB := fB.wrM q64 M0_0
              have r38 := r38.wrV q64 a40
              refine ol_nil ?_
              obtain rfl := Option.some.inj h
              refine thn_i ?_
              exact ⟨v37, O0_0, O0_1, r38, a39, a40, a41, e0, e1, e5, e11, e12, b_0, fB⟩
          · refine cw_condF rfl c33 ?_
            refine cw_skip ?_
            obtain rfl := Option.some.inj h
            refine thn_i ?_
            exact ⟨v11, O0_0, O0_1, r12, a13, a14, a15, e0, e1, rfl, e11, e12, b_0, fB⟩
        · rintro ρ70 w71 ⟨v28, O0_0, O0_1, r29, a30, a31, a32, e0, e1, e5, e11, e12, b_0, fB⟩
          have h := h27
          refine cw_region ?_
          refine ol_val (v := .pointer (some ⟨(sb V0_0), so V0_0 + Int.toNat s7.2.1 * 4, none⟩)) (by exact xr_move rfl e5) rfl rfl rfl ?_
          refine ol_val (v := .pointer (some ⟨(sb V0_0), so V0_0 + Int.toNat s7.2.1 * 4, none⟩)) (by exact xr_move rfl e5) rfl rfl rfl ?_
          refine ol_val (v := .pointer (some ⟨(sb V0_0), so V0_0 + Int.toNat s7.2.1 * 4, none⟩)) (by exact xr_nilCheck rfl rfl) rfl rfl rfl ?_
          refine ol_val (v := .pointer (some ⟨(sb V0_0), so V0_0 + Int.toNat s7.2.1 * 4 + 0, none⟩)) (by exact xr_fieldAddr (p := so V0_0 + Int.toNat s7.2.1 * 4) (q := 0) rfl fl142_0 rfl) rfl rfl rfl ?_
          obtain ⟨g72, h⟩ := gs h
          refine ol_val (v := .int .u64 ((ix x25.2 s7.2.1).lasts)) (by exact xr_load1 (v := .int .u64 ((ix x25.2 s7.2.1).lasts)) rfl ag22 rfl (At.segs (ss := segs_pmem_cell (ix x25.2 s7.2.1)) (O0_0.rd.elem g20.1 g72) 0 1 rfl)) rfl rfl rfl ?_
          refine ol_val (v := .pointer (some ⟨(sb V0_0), so V0_0 + Int.toNat s7.2.1 * 4, none⟩)) (by exact xr_nilCheck rfl rfl) rfl rfl rfl ?_
          refine ol_val (v := .pointer (some ⟨(sb V0_0), so V0_0 + Int.toNat s7.2.1 * 4 + 1, none⟩)) (by exact xr_fieldAddr (p := so V0_0 + Int.toNat s7.2.1 * 4) (q := 1) rfl fl142_1 rfl) rfl rfl rfl ?_
          obtain ⟨g74, h⟩ := gs h
          have f75 := off_ty b_0 O0_0 (by decide)
          have f76 := OffV.ty O0_1 O0_0 (by decide)
          refine ol_op0 (by exact opv_storeRow (z := (⟨(ix x25.2 s7.2.1).lasts, (ix x25.2 s7.2.1).lasts, (ix x25.2 s7.2.1).sent, (ix x25.2 s7.2.1).flushed⟩ : S_pmem_cell)) (xs := cellsOf [Seg.cell (.int .u64 ((ix x25.2 s7.2.1).lasts))]) rfl sz22 rfl rfl rfl (len_cellsOf _) (one_cellsOf _) O0_0 g20.1 g74 (Spl.segs (segs_pmem_cell (ix x25.2 s7.2.1)) 1 1 [Seg.cell (.int .u64 ((ix x25.2 s7.2.1).lasts))] rfl rfl) rfl) rfl rfl ?_
          rintro _ w78 ⟨O0_0, q73⟩
          have b_0 := b_0.wrO q73 f75
          have O0_1 := O0_1.wrV q73 f76
          have fB := fB.wrM q73 M0_0
          have r29 := r29.wrV q73 a31
          refine ol_nil ?_
          refine blk_i ?_
          refine cw_region ?_
          refine ol_val (v := .int .i64 (IntKind.i64.wrap (s7.2.1 + 1))) (by exact xr_add rfl e12 rfl) rfl rfl rfl ?_
          refine ol_val (v := .int .i64 (IntKind.i64.wrap (s7.2.1 + 1))) (by exact xr_move rfl rfl) rfl rfl rfl ?_
          refine ol_nil ?_
          obtain rfl := Option.some.inj h
          refine lp_in ?_
          exact ⟨v28, O0_0, O0_1, r29, a30, a31, a32, e0, e1, e11, rfl, b_0, fB⟩
      · refine cw_condF rfl c19 ?_
        refine cw_exit ?_
        repeat (first | with_reducible refine thn_e ?_ | with_reducible refine blk_e rfl ?_)
        obtain rfl := Option.some.inj h
        refine lp_exit ?_
        rintro rfl
        refine thn_x ?_
        exact ⟨O0_0, O0_1, e0, b_0, fB⟩
  · rintro ρ79 w80 ⟨O0_0, O0_1, e0, b_0, fB⟩
    have h := h10
    refine cw_seq ?_
    refine cw_region ?_
    refine ol_val (v := .pointer (some ⟨G_0, 0, none⟩)) (by exact xr_move rfl e0) rfl rfl rfl ?_
    refine ol_val (v := aggV [Seg.cell (.slice none 0 0) (by rfl), Seg.cell (.int .i64 (0 : Int))]) (by exact xr_build (vals := []) rfl trivial (bl137_ _)) rfl rfl rfl ?_
    refine ol_val (v := .pointer (some ⟨G_0, 0, none⟩)) (by exact xr_nilCheck rfl rfl) rfl rfl rfl ?_
    refine ol_val (v := .pointer (some ⟨G_0, 1, none⟩)) (by exact xr_fieldAddr (p := 0) (q := 1) rfl fl139_1 rfl) rfl rfl rfl ?_
    have f82 := off_ty b_0 O0_0 (by decide)
    refine ol_op0 (by exact opv_store (ss' := [Seg.cell V0_0 O0_0.one, Seg.cell (.slice none 0 0) (by rfl), Seg.cell (.int .i64 (0 : Int)), Seg.cell (.bool a0.off), Seg.cell (.bool a0.armed), Seg.cell (.int .i64 a0.left), Seg.cell (.int .i64 a0.steps)]) (xs := cellsOf [Seg.cell (.slice none 0 0) (by rfl), Seg.cell (.int .i64 (0 : Int))]) rfl sz137 rfl rfl rfl (len_cellsOf _) (one_cellsOf _) b_0 (Spl.segs _ 1 2 [Seg.cell (.slice none 0 0) (by rfl), Seg.cell (.int .i64 (0 : Int))] rfl rfl)) rfl rfl ?_
    rintro _ w83 ⟨b_0, q81⟩
    have O0_0 := O0_0.wr q81 f82
    have fB := fB.wrS q81 (.inl rfl)
    refine ol_nil ?_
    refine cw_region ?_
    refine ol_val (v := .pointer (some ⟨G_0, 0, none⟩)) (by exact xr_move rfl e0) rfl rfl rfl ?_
    refine ol_val (v := .pointer (some ⟨G_0, 0, none⟩)) (by exact xr_move rfl e0) rfl rfl rfl ?_
    refine ol_val (v := .pointer (some ⟨G_0, 0, none⟩)) (by exact xr_move rfl e0) rfl rfl rfl ?_
    refine ol_val (v := .pointer (some ⟨G_0, 0, none⟩)) (by exact xr_nilCheck rfl rfl) rfl rfl rfl ?_
    refine ol_val (v := .pointer (some ⟨G_0, 3, none⟩)) (by exact xr_fieldAddr (p := 0) (q := 3) rfl fl139_2 rfl) rfl rfl rfl ?_
    have f85 := off_ty b_0 O0_0 (by decide)
    refine ol_op0 (by exact opv_store (ss' := [Seg.cell V0_0 O0_0.one, Seg.cell (.slice none 0 0) (by rfl), Seg.cell (.int .i64 (0 : Int)), Seg.cell (.bool false), Seg.cell (.bool a0.armed), Seg.cell (.int .i64 a0.left), Seg.cell (.int .i64 a0.steps)]) (xs := cellsOf [Seg.cell (.bool false)]) rfl sz4 rfl rfl rfl (len_cellsOf _) (one_cellsOf _) b_0 (Spl.segs _ 3 1 [Seg.cell (.bool false)] rfl rfl)) rfl rfl ?_
    rintro _ w86 ⟨b_0, q84⟩
    have O0_0 := O0_0.wr q84 f85
    have fB := fB.wrS q84 (.inl rfl)
    refine ol_val (v := .pointer (some ⟨G_0, 0, none⟩)) (by exact xr_nilCheck rfl rfl) rfl rfl rfl ?_
    refine ol_val (v := .pointer (some ⟨G_0, 4, none⟩)) (by exact xr_fieldAddr (p := 0) (q := 4) rfl fl139_3 rfl) rfl rfl rfl ?_
    have f88 := off_ty b_0 O0_0 (by decide)
    refine ol_op0 (by exact opv_store (ss' := [Seg.cell V0_0 O0_0.one, Seg.cell (.slice none 0 0) (by rfl), Seg.cell (.int .i64 (0 : Int)), Seg.cell (.bool false), Seg.cell (.bool false), Seg.cell (.int .i64 a0.left), Seg.cell (.int .i64 a0.steps)]) (xs := cellsOf [Seg.cell (.bool false)]) rfl sz4 rfl rfl rfl (len_cellsOf _) (one_cellsOf _) b_0 (Spl.segs _ 4 1 [Seg.cell (.bool false)] rfl rfl)) rfl rfl ?_
    rintro _ w89 ⟨b_0, q87⟩
    have O0_0 := O0_0.wr q87 f88
    have fB := fB.wrS q87 (.inl rfl)
    refine ol_val (v := .pointer (some ⟨G_0, 0, none⟩)) (by exact xr_nilCheck rfl rfl) rfl rfl rfl ?_
    refine ol_val (v := .pointer (some ⟨G_0, 5, none⟩)) (by exact xr_fieldAddr (p := 0) (q := 5) rfl fl139_4 rfl) rfl rfl rfl ?_
    have f91 := off_ty b_0 O0_0 (by decide)
    refine ol_op0 (by exact opv_store (ss' := [Seg.cell V0_0 O0_0.one, Seg.cell (.slice none 0 0) (by rfl), Seg.cell (.int .i64 (0 : Int)), Seg.cell (.bool false), Seg.cell (.bool false), Seg.cell (.int .i64 0), Seg.cell (.int .i64 a0.steps)]) (xs := cellsOf [Seg.cell (.int .i64 0)]) rfl sz3 rfl rfl rfl (len_cellsOf _) (one_cellsOf _) b_0 (Spl.segs _ 5 1 [Seg.cell (.int .i64 0)] rfl rfl)) rfl rfl ?_
    rintro _ w92 ⟨b_0, q90⟩
    have O0_0 := O0_0.wr q90 f91
    have fB := fB.wrS q90 (.inl rfl)
    refine ol_nil ?_
    obtain rfl := Option.some.inj h
    refine fin_end0 Try.results32 ?_
    exact ⟨_, rfl, V0_0, (.slice none 0 0), O0_0, M0_0, Own.nil _ _ _ _, ms_nil, rfl, b_0, fB⟩
end Go.Proofs.Ytklhbaghbmndeaa

/- (*rickyard/pmem.Device).Load: its model, and that the Go function computes it: written by gen.py. -/
set_option linter.unusedVariables false
namespace Go.Proofs.Ytklhbaghbmndeaa
open Go Go.Xw
def pmem_Device_Load.f (fu : Nat) (a0 : S_pmem_Device) (a1 : Int) : Option (Int × Int) := ((pmem_Device_may.f fu a0 a1 (List.length a0.cells : Int) : Option Int).bind fun t1 => (if (!decide (t1 = 0)) = true then some (0, t1) else (if 0 ≤ a1 ∧ a1 < (List.length a0.cells : Int) then some ((ix a0.cells a1).stored, 0) else none)))
set_option maxRecDepth 100000 in
set_option maxHeartbeats 400000 in
theorem pmem_Device_Load.ok (fu : Nat) (w : World) (a0 : S_pmem_Device) (G_0 : Nat) (V0_0 : Value) (R0_0 : Rd k_pmem_cell w V0_0 a0.cells) (V0_1 : Value) (R0_1 : Rd (kI .i64) w V0_1 a0.plan.list) (b_0 : Blk w G_0 139 [Seg.cell V0_0 R0_0.one, Seg.cell V0_1 R0_1.one, Seg.cell (.int .i64 a0.plan.at_), Seg.cell (.bool a0.off), Seg.cell (.bool a0.armed), Seg.cell (.int .i64 a0.left), Seg.cell (.int .i64 a0.steps)]) (a1 : Int) (r : Int × Int) (h : pmem_Device_Load.f fu a0 a1 = some r) :
    Calls Try.prog 82 (([.pointer (some ⟨G_0, 0, none⟩), .int .i64 a1] : List Value).toArray) w (fun e w' => ∃ v, e = .returned v ∧ v = .tuple #[.int .u64 r.1, .int .i64 r.2] ∧ Gr w w') := by
  unfold pmem_Device_Load.f at h
  have fB : Gr w w := Fr.refl _ _
  refine calls_cw Try.func82 rfl Try.ntmps82 rfl ?_
  refine cw_seq ?_
  refine cw_region ?_
  refine ol_val (v := .int .u64 0) (by exact xr_assign rfl rfl) rfl rfl rfl ?_
  refine ol_val (v := .int .i64 0) (by exact xr_assign rfl rfl) rfl rfl rfl ?_
  refine ol_nil ?_
  refine cw_seq ?_
  refine cw_seq ?_
  refine cw_region ?_
  refine ol_val (v := .pointer (some ⟨G_0, 0, none⟩)) (by exact xr_move rfl rfl) rfl rfl rfl ?_
  refine ol_val (v := .int .i64 a1) (by exact xr_move rfl rfl) rfl rfl rfl ?_
  refine ol_val (v := .pointer (some ⟨G_0, 0, none⟩)) (by exact xr_move rfl rfl) rfl rfl rfl ?_
  refine ol_val (v := .pointer (some ⟨G_0, 0, none⟩)) (by exact xr_nilCheck rfl rfl) rfl rfl rfl ?_
  refine ol_val (v := .pointer (some ⟨G_0, 0, none⟩)) (by exact xr_fieldAddr (p := 0) (q := 0) rfl fl139_0 rfl) rfl rfl rfl ?_
  refine ol_val (v := V0_0) (by exact xr_load1 (v := V0_0) rfl ag135 rfl (b_0.seg 0 rfl rfl)) rfl rfl rfl ?_
  refine ol_val (v := .int .i64 (List.length a0.cells : Int)) (by exact xr_lenR rfl Try.underlying135 rfl (R0_0.gr fB)) rfl rfl rfl ?_
  obtain ⟨t1, k2, h⟩ := bs h
  refine ol_op (by exact opv_call rfl cal83 (ac rfl (ac rfl (ac rfl an))) (pmem_Device_may.ok fu _ a0 G_0 V0_0 (R0_0.gr fB) V0_1 (R0_1.gr fB) b_0 a1 (List.length a0.cells : Int) _ k2)) rfl rfl rfl ?_
  rintro _ w4 ⟨rfl, q3⟩
  have b_0 := b_0.gr q3
  have fB := fB.gr q3
  refine ol_val (v := .int .i64 t1) (by exact xr_assign rfl rfl) rfl rfl rfl ?_
  refine ol_nil ?_
  refine cw_seq ?_
  refine cw_region ?_
  refine ol_val (v := .int .i64 t1) (by exact xr_move rfl rfl) rfl rfl rfl ?_
  refine ol_val (v := .bool (!decide (t1 = 0))) (by exact xr_neI rfl Try.underlying31 rfl rfl rfl) rfl rfl rfl ?_
  refine ol_nil ?_
  rcases is h with ⟨c5, h⟩ | ⟨c5, h⟩
  · refine cw_condT rfl c5 ?_
    refine cw_seq ?_
    refine cw_region ?_
    refine ol_val (v := .int .i64 t1) (by exact xr_move rfl rfl) rfl rfl rfl ?_
    refine ol_val (v := .int .u64 0) (by exact xr_assign rfl rfl) rfl rfl rfl ?_
    refine ol_val (v := .int .i64 t1) (by exact xr_assign rfl rfl) rfl rfl rfl ?_
    refine ol_nil ?_
    refine cw_ret ?_
    repeat (first | with_reducible refine thn_r ?_ | with_reducible refine blk_r ?_)
    obtain rfl := Option.some.inj h
    refine fin_ret2 Try.results82 rfl rfl ?_
    exact ⟨_, rfl, rfl, fB⟩
  · refine cw_condF rfl c5 ?_
    refine cw_skip ?_
    refine cw_seq ?_
    refine cw_region ?_
    refine ol_val (v := .pointer (some ⟨G_0, 0, none⟩)) (by exact xr_move rfl rfl) rfl rfl rfl ?_
    refine ol_val (v := .pointer (some ⟨G_0, 0, none⟩)) (by exact xr_nilCheck rfl rfl) rfl rfl rfl ?_
    refine ol_val (v := .pointer (some ⟨G_0, 0, none⟩)) (by exact xr_fieldAddr (p := 0) (q := 0) rfl fl139_0 rfl) rfl rfl rfl ?_
    refine ol_val (v := V0_0) (by exact xr_load1 (v := V0_0) rfl ag135 rfl (b_0.seg 0 rfl rfl)) rfl rfl rfl ?_
    refine ol_val (v := .int .i64 a1) (by exact xr_move rfl rfl) rfl rfl rfl ?_
    obtain ⟨g6, h⟩ := gs h
    refine ol_val (v := .pointer (some ⟨(sb V0_0), so V0_0 + Int.toNat a1 * 4, none⟩)) (by exact xr_indexR (K := k_pmem_cell) (v := V0_0) rfl Try.underlying135 sz142 rfl (R0_0.gr fB) rfl g6.1 g6.2) rfl rfl rfl ?_
    refine ol_val (v := .pointer (some ⟨(sb V0_0), so V0_0 + Int.toNat a1 * 4 + 1, none⟩)) (by exact xr_fieldAddr (p := so V0_0 + Int.toNat a1 * 4) (q := 1) rfl fl142_1 rfl) rfl rfl rfl ?_
    refine ol_val (v := .int .u64 ((ix a0.cells a1).stored)) (by exact xr_load1 (v := .int .u64 ((ix a0.cells a1).stored)) rfl ag22 rfl (At.segs (ss := segs_pmem_cell (ix a0.cells a1)) ((R0_0.gr fB).elem g6.1 g6.2) 1 1 rfl)) rfl rfl rfl ?_
    refine ol_val (v := .int .u64 ((ix a0.cells a1).stored)) (by exact xr_assign rfl rfl) rfl rfl rfl ?_
    refine ol_val (v := .int .i64 0) (by exact xr_assign rfl rfl) rfl rfl rfl ?_
    refine ol_nil ?_
    refine cw_ret ?_
    repeat (first | with_reducible refine thn_r ?_ | with_reducible refine blk_r ?_)
    obtain rfl := Option.some.inj h
    refine fin_ret2 Try.results82 rfl rfl ?_
    exact ⟨_, rfl, rfl, fB⟩
end Go.Proofs.Ytklhbaghbmndeaa

/- rickyard/rickyardlaw05.awake: its model, and that the Go function computes it: written by gen.py. -/
set_option linter.unusedVariables false
namespace Go.Proofs.Ytklhbaghbmndeaa
open Go Go.Xw
def rickyardlaw05_awake.f (fu : Nat) : Option Bool := ((pmem_New.f fu 1 : Option ((Option S_pmem_Device) × Int)).bind fun t1 => (Option.elim t1.1 (some (false)) (fun m8 => (if (!decide (t1.2 = 0)) = true then some (false) else ((pmem_Device_Store.f fu m8 0 5 : Option (Int × S_pmem_Device)).bind fun t22 => ((pmem_Device_Flush.f fu t22.2 0 : Option (Int × S_pmem_Device)).bind fun t35 => ((pmem_Device_Store.f fu t35.2 0 6 : Option (Int × S_pmem_Device)).bind fun t48 => ((pmem_Device_Fence.f fu t48.2 : Option (Int × S_pmem_Device)).bind fun t61 => ((pmem_Device_Crash.f fu t61.2 [] : Option S_pmem_Device).bind fun t74 => ((pmem_Device_Load.f fu t74 0 : Option (Int × Int)).bind fun t87 => some ((if (decide (t87.2 = 0)) = true then (decide (t87.1 = 5)) else false))))))))))))
set_option maxRecDepth 100000 in
set_option maxHeartbeats 400000 in
theorem rickyardlaw05_awake.ok (fu : Nat) (w : World)  (r : Bool) (h : rickyardlaw05_awake.f fu = some r) :
    Calls Try.prog 24 (([] : List Value).toArray) w (fun e w' => ∃ v, e = .returned v ∧ v = .bool r ∧ Gr w w') := by
  unfold rickyardlaw05_awake.f at h
  have fB : Gr w w := Fr.refl _ _
  refine calls_cw Try.func24 rfl Try.ntmps24 rfl ?_
  refine cw_seq ?_
  refine cw_region ?_
  refine ol_val (v := .bool false) (by exact xr_assign rfl rfl) rfl rfl rfl ?_
  refine ol_nil ?_
  refine cw_seq ?_
  refine cw_region ?_
  obtain ⟨t1, k2, h⟩ := bs h
  refine ol_op (by exact opv_call rfl cal26 (ac rfl an) (pmem_New.ok fu _ 1 _ k2)) rfl rfl rfl ?_
  rintro _ w6 ⟨u3, p4, rfl, q5⟩
  rcases en h with ⟨e7, h⟩ | ⟨m8, e7, h⟩
  · obtain rfl := p4.1 e7
    have fB := fB.gr q5
    refine ol_val (v := .tuple #[.pointer none, .int .i64 t1.2]) (by exact xr_move rfl rfl) rfl rfl rfl ?_
    refine ol_val (v := .pointer none) (by exact xr_extract rfl rfl rfl) rfl rfl rfl ?_
    refine ol_val (v := .int .i64 t1.2) (by exact xr_extract rfl rfl rfl) rfl rfl rfl ?_
    refine ol_val (v := .pointer none) (by exact xr_assign rfl rfl) rfl rfl rfl ?_
    refine ol_val (v := .int .i64 t1.2) (by exact xr_assign rfl rfl) rfl rfl rfl ?_
    refine ol_nil ?_
    refine cw_seq ?_
    refine cw_seq ?_
    refine cw_mid (fun ρ' w' => ρ' 1 = .pointer none ∧ ρ' 14 = .bool true ∧ w6 = w') ?_ ?_
    · skip
      refine cw_region ?_
      refine ol_val (v := .pointer none) (by exact xr_move rfl rfl) rfl rfl rfl ?_
      refine ol_val (v := .bool true) (by exact xr_eqP (b := true) rfl Try.underlying30 rfl rfl (by simp) (by simp)) rfl rfl rfl ?_
      refine ol_val (v := .bool true) (by exact xr_move rfl rfl) rfl rfl rfl ?_
      refine ol_gskip rfl rfl rfl rfl rfl rfl ?_
      refine ol_gskip rfl rfl rfl rfl rfl rfl ?_
      refine ol_val (v := .bool true) (by exact xr_pickT rfl rfl rfl rfl) rfl rfl rfl ?_
      refine ol_nil ?_
      refine thn_i ?_
      exact ⟨rfl, rfl, rfl⟩
    · skip
      rintro ρ9 _ ⟨e1, e14, rfl⟩
      refine cw_condT e14 rfl ?_
      refine cw_seq ?_
      refine cw_region ?_
      refine ol_val (v := .bool false) (by exact xr_assign rfl rfl) rfl rfl rfl ?_
      refine ol_nil ?_
      refine cw_ret ?_
      repeat (first | with_reducible refine thn_r ?_ | with_reducible refine blk_r ?_)
      obtain rfl := Option.some.inj h
      refine fin_ret1 Try.results24 rfl ?_
      exact ⟨_, rfl, rfl, fB⟩
  · skip
    obtain ⟨G10, u14, u17, o15, o18, rfl, z11, b12⟩ := p4.2 _ e7
    have o15 := Own.base o15 fB.size
    have o18 := Own.base o18 fB.size
    have z11 := Nat.le_trans fB.size z11
    have fB := fB.gr q5
    refine ol_val (v := .tuple #[.pointer (some ⟨G10, 0, none⟩), .int .i64 t1.2]) (by exact xr_move rfl rfl) rfl rfl rfl ?_
    refine ol_val (v := .pointer (some ⟨G10, 0, none⟩)) (by exact xr_extract rfl rfl rfl) rfl rfl rfl ?_
    refine ol_val (v := .int .i64 t1.2) (by exact xr_extract rfl rfl rfl) rfl rfl rfl ?_
    refine ol_val (v := .pointer (some ⟨G10, 0, none⟩)) (by exact xr_assign rfl rfl) rfl rfl rfl ?_
    refine ol_val (v := .int .i64 t1.2) (by exact xr_assign rfl rfl) rfl rfl rfl ?_
    refine ol_nil ?_
    refine cw_seq ?_
    refine cw_seq ?_
    refine cw_mid (fun ρ' w' => ρ' 1 = .pointer (some ⟨G10, 0, none⟩) ∧ ρ' 14 = .bool (!decide (t1.2 = 0)) ∧ w6 = w') ?_ ?_
    · skip
      refine cw_region ?_
      refine ol_val (v := .pointer (some ⟨G10, 0, none⟩)) (by exact xr_move rfl rfl) rfl rfl rfl ?_
      refine ol_val (v := .bool false) (by exact xr_eqP (b := false) rfl Try.underlying30 rfl rfl (by simp) (by simp)) rfl rfl rfl ?_
      refine ol_val (v := .bool false) (by exact xr_move rfl rfl) rfl rfl rfl ?_
      refine ol_gval (v := .int .i64 t1.2) (by exact xr_move rfl rfl) rfl rfl rfl rfl rfl rfl ?_
      refine ol_gval (v := .bool (!decide (t1.2 = 0))) (by exact xr_neI rfl Try.underlying31 rfl rfl rfl) rfl rfl rfl rfl rfl rfl ?_
      refine ol_val (v := .bool (!decide (t1.2 = 0))) (by exact xr_pickF rfl rfl rfl rfl) rfl rfl rfl ?_
      refine ol_nil ?_
      refine thn_i ?_
      exact ⟨rfl, rfl, rfl⟩
    · skip
      rintro ρ20 _ ⟨e1, e14, rfl⟩
      rcases is h with ⟨c21, h⟩ | ⟨c21, h⟩
      · refine cw_condT e14 c21 ?_
        refine cw_seq ?_
        refine cw_region ?_
        refine ol_val (v := .bool false) (by exact xr_assign rfl rfl) rfl rfl rfl ?_
        refine ol_nil ?_
        refine cw_ret ?_
        repeat (first | with_reducible refine thn_r ?_ | with_reducible refine blk_r ?_)
        obtain rfl := Option.some.inj h
        refine fin_ret1 Try.results24 rfl ?_
        exact ⟨_, rfl, rfl, fB⟩
      · refine cw_condF e14 c21 ?_
        refine cw_skip ?_
        refine cw_seq ?_
        refine cw_region ?_
        refine ol_val (v := .pointer (some ⟨G10, 0, none⟩)) (by exact xr_move rfl e1) rfl rfl rfl ?_
        obtain ⟨t22, k23, h⟩ := bs h
        have c33 : ∀ k, (k = G10 ∨ some k = Value.ownBlock u14 ∨ some k = Value.ownBlock u17) → w.heap.size ≤ k := (cv_or (cv_eq z11) (cv_or (cv_own o15.geO) (cv_own o18.geO)))
        refine ol_op (by exact opv_call rfl cal28 (ac rfl (ac rfl (ac rfl an))) (pmem_Device_Store.ok fu _ m8 G10 u14 (Own.base o15 (Nat.zero_le _)) u17 (Own.base o18 (Nat.zero_le _)) b12 0 5 _ k23)) rfl rfl rfl ?_
        rintro _ w34 ⟨u25, u29, o26, m27, o30, m31, rfl, b12, q24⟩
        have o26 := Own.rebase o26 (fun g hg => (m27 g hg).elim (fun x => Nat.le_trans fB.size x) (c33 g))
        have o30 := Own.rebase o30 (fun g hg => (m31 g hg).elim (fun x => Nat.le_trans fB.size x) (c33 g))
        have fB := fB.call q24 (fun k h => .inl (c33 k h))
        refine ol_nil ?_
        refine cw_seq ?_
        refine cw_region ?_
        refine ol_val (v := .pointer (some ⟨G10, 0, none⟩)) (by exact xr_move rfl e1) rfl rfl rfl ?_
        obtain ⟨t35, k36, h⟩ := bs h
        have c46 : ∀ k, (k = G10 ∨ some k = Value.ownBlock u25 ∨ some k = Value.ownBlock u29) → w.heap.size ≤ k := (cv_or (cv_eq z11) (cv_or (cv_own o26.geO) (cv_own o30.geO)))
        refine ol_op (by exact opv_call rfl cal29 (ac rfl (ac rfl an)) (pmem_Device_Flush.ok fu _ t22.2 G10 u25 (Own.base o26 (Nat.zero_le _)) u29 (Own.base o30 (Nat.zero_le _)) b12 0 _ k36)) rfl rfl rfl ?_
        rintro _ w47 ⟨u38, u42, o39, m40, o43, m44, rfl, b12, q37⟩
        have o39 := Own.rebase o39 (fun g hg => (m40 g hg).elim (fun x => Nat.le_trans fB.size x) (c46 g))
        have o43 := Own.rebase o43 (fun g hg => (m44 g hg).elim (fun x => Nat.le_trans fB.size x) (c46 g))
        have fB := fB.call q37 (fun k h => .inl (c46 k h))
        refine ol_nil ?_
        refine cw_seq ?_
        refine cw_region ?_
        refine ol_val (v := .pointer (some ⟨G10, 0, none⟩)) (by exact xr_move rfl e1) rfl rfl rfl ?_
        obtain ⟨t48, k49, h⟩ := bs h
        have c59 : ∀ k, (k = G10 ∨ some k = Value.ownBlock u38 ∨ some k = Value.ownBlock u42) → w.heap.size ≤ k := (cv_or (cv_eq z11) (cv_or (cv_own o39.geO) (cv_own o43.geO)))
        refine ol_op (by exact opv_call rfl cal28 (ac rfl (ac rfl (ac rfl an))) (pmem_Device_Store.ok fu _ t35.2 G10 u38 (Own.base o39 (Nat.zero_le _)) u42 (Own.base o43 (Nat.zero_le _)) b12 0 6 _ k49)) rfl rfl rfl ?_
        rintro _ w60 ⟨u51, u55, o52, m53, o56, m57, rfl, b12, q50⟩
        have o52 := Own.rebase o52 (fun g hg => (m53 g hg).elim (fun x => Nat.le_trans fB.size x) (c59 g))
        have o56 := Own.rebase o56 (fun g hg => (m57 g hg).elim (fun x => Nat.le_trans fB.size x) (c59 g))
        have fB := fB.call q50 (fun k h => .inl (c59 k h))
        refine ol_nil ?_
        refine cw_seq ?_
        refine cw_region ?_
        refine ol_val (v := .pointer (some ⟨G10, 0, none⟩)) (by exact xr_move rfl e1) rfl rfl rfl ?_
        obtain ⟨t61, k62, h⟩ := bs h
        have c72 : ∀ k, (k = G10 ∨ some k = Value.ownBlock u51 ∨ some k = Value.ownBlock u55) → w.heap.size ≤ k := (cv_or (cv_eq z11) (cv_or (cv_own o52.geO) (cv_own o56.geO)))
        refine ol_op (by exact opv_call rfl cal30 (ac rfl an) (pmem_Device_Fence.ok fu _ t48.2 G10 u51 (Own.base o52 (Nat.zero_le _)) u55 (Own.base o56 (Nat.zero_le _)) b12 _ k62)) rfl rfl rfl ?_
        rintro _ w73 ⟨u64, u68, o65, m66, o69, m70, rfl, b12, q63⟩
        have o65 := Own.rebase o65 (fun g hg => (m66 g hg).elim (fun x => Nat.le_trans fB.size x) (c72 g))
        have o69 := Own.rebase o69 (fun g hg => (m70 g hg).elim (fun x => Nat.le_trans fB.size x) (c72 g))
        have fB := fB.call q63 (fun k h => .inl (c72 k h))
        refine ol_nil ?_
        refine cw_seq ?_
        refine cw_region ?_
        refine ol_val (v := .pointer (some ⟨G10, 0, none⟩)) (by exact xr_move rfl e1) rfl rfl rfl ?_
        obtain ⟨t74, k75, h⟩ := bs h
        have c85 : ∀ k, (k = G10 ∨ some k = Value.ownBlock u64 ∨ some k = Value.ownBlock u68) → w.heap.size ≤ k := (cv_or (cv_eq z11) (cv_or (cv_own o65.geO) (cv_own o69.geO)))
        refine ol_op (by exact opv_call rfl cal32 (ac rfl (ac rfl an)) (pmem_Device_Crash.ok fu _ t61.2 G10 u64 (Own.base o65 (Nat.zero_le _)) u68 (Own.base o69 (Nat.zero_le _)) b12 [] (.slice none 0 0) (Rd.nil (kI .i64) _) (OffR.nil _ _) (OffRV.nilL _ _) (OffRV.nilL _ _) _ k75)) rfl rfl rfl ?_
        rintro _ w86 ⟨u77, u81, o78, m79, o82, m83, rfl, b12, q76⟩
        have o78 := Own.rebase o78 (fun g hg => (m79 g hg).elim (fun x => Nat.le_trans fB.size x) (c85 g))
        have o82 := Own.rebase o82 (fun g hg => (m83 g hg).elim (fun x => Nat.le_trans fB.size x) (c85 g))
        have fB := fB.call q76 (fun k h => .inl (c85 k h))
        refine ol_nil ?_
        refine cw_seq ?_
        refine cw_region ?_
        refine ol_val (v := .pointer (some ⟨G10, 0, none⟩)) (by exact xr_move rfl e1) rfl rfl rfl ?_
        obtain ⟨t87, k88, h⟩ := bs h
        refine ol_op (by exact opv_call rfl cal82 (ac rfl (ac rfl an)) (pmem_Device_Load.ok fu _ t74 G10 u77 (o78.rd) u81 (o82.rd) b12 0 _ k88)) rfl rfl rfl ?_
        rintro _ w90 ⟨rfl, q89⟩
        have fB := fB.gr q89
        refine ol_val (v := .tuple #[.int .u64 t87.1, .int .i64 t87.2]) (by exact xr_move rfl rfl) rfl rfl rfl ?_
        refine ol_val (v := .int .u64 t87.1) (by exact xr_extract rfl rfl rfl) rfl rfl rfl ?_
        refine ol_val (v := .int .i64 t87.2) (by exact xr_extract rfl rfl rfl) rfl rfl rfl ?_
        refine ol_val (v := .int .u64 t87.1) (by exact xr_assign rfl rfl) rfl rfl rfl ?_
        refine ol_val (v := .int .i64 t87.2) (by exact xr_assign rfl rfl) rfl rfl rfl ?_
        refine ol_nil ?_
        refine cw_seq ?_
        refine cw_mid (fun ρ' w' => ρ' 0 = .bool (if (decide (t87.2 = 0)) = true then (decide (t87.1 = 5)) else false) ∧ w90 = w') ?_ ?_
        · skip
          refine cw_region ?_
          refine ol_val (v := .int .i64 t87.2) (by exact xr_move rfl rfl) rfl rfl rfl ?_
          refine ol_val (v := .bool (decide (t87.2 = 0))) (by exact xr_eqI rfl Try.underlying31 rfl rfl rfl) rfl rfl rfl ?_
          refine ol_val (v := .bool (decide (t87.2 = 0))) (by exact xr_move rfl rfl) rfl rfl rfl ?_
          rcases bt (decide (t87.2 = 0)) with c91 | c91
          · skip
            refine ol_gval (v := .int .u64 t87.1) (by exact xr_move rfl rfl) rfl rfl rfl rfl rfl c91 ?_
            refine ol_gval (v := .bool (decide (t87.1 = 5))) (by exact xr_eqI rfl Try.underlying22 rfl rfl rfl) rfl rfl rfl rfl rfl c91 ?_
            refine ol_val (v := .bool (decide (t87.1 = 5))) (by exact xr_pickT rfl rfl c91 rfl) rfl rfl rfl ?_
            refine ol_val (v := .bool (decide (t87.1 = 5))) (by exact xr_assign rfl rfl) rfl rfl rfl ?_
            refine ol_nil ?_
            refine thn_i ?_
            exact ⟨(rfl).trans (congrArg (fun z => (.bool z : Value)) (show (decide (t87.1 = 5)) = (if (decide (t87.2 = 0)) = true then (decide (t87.1 = 5)) else false) from by rw [ite_t c91])), rfl⟩
          · skip
            refine ol_gskip rfl rfl rfl rfl rfl c91 ?_
            refine ol_gskip rfl rfl rfl rfl rfl c91 ?_
            refine ol_val (v := .bool false) (by exact xr_pickF rfl rfl c91 rfl) rfl rfl rfl ?_
            refine ol_val (v := .bool false) (by exact xr_assign rfl rfl) rfl rfl rfl ?_
            refine ol_nil ?_
            refine thn_i ?_
            exact ⟨(rfl).trans (congrArg (fun z => (.bool z : Value)) (show false = (if (decide (t87.2 = 0)) = true then (decide (t87.1 = 5)) else false) from by rw [ite_f c91])), rfl⟩
        · skip
          rintro ρ92 _ ⟨e0, rfl⟩
          refine cw_ret ?_
          repeat (first | with_reducible refine thn_r ?_ | with_reducible refine blk_r ?_)
          obtain rfl := Option.some.inj h
          refine fin_ret1 Try.results24 e0 ?_
          exact ⟨_, rfl, rfl, fB⟩
end Go.Proofs.Ytklhbaghbmndeaa

/- rickyard/rickyardlaw05.Small: its model, and that the Go function computes it: written by gen.py. -/
set_option linter.unusedVariables false
namespace Go.Proofs.Ytklhbaghbmndeaa
open Go Go.Xw
def rickyardlaw05_Small.s0 (fu : Nat) (a0 : List S_rickyardlaw05_Act) : Int → Option (Sum (Sum Bool Unit) Int) := fun s2 => (if (decide (s2 < (List.length a0 : Int))) = true then (if 0 ≤ s2 ∧ s2 < (List.length a0 : Int) then (if (decide ((List.length ((ix a0 s2).L) : Int) > 40)) = true then some (Sum.inl (Sum.inl (false))) else some (Sum.inr ((IntKind.i64.wrap (s2 + 1))))) else none) else some (Sum.inl (Sum.inr ())))
def rickyardlaw05_Small.f (fu : Nat) (a0 : List S_rickyardlaw05_Act) (a1 : Int) : Option Bool := (if (decide ((List.length a0 : Int) > a1)) = true then some (false) else ((loopM (rickyardlaw05_Small.s0 fu a0) fu (0)).bind fun e3 => match e3 with | Sum.inl p => some p | Sum.inr x6 => some (true)))
set_option maxRecDepth 100000 in
set_option maxHeartbeats 400000 in
theorem rickyardlaw05_Small.ok (fu : Nat) (w : World) (a0 : List S_rickyardlaw05_Act) (V0_0 : Value) (R0_0 : RdN 4 D_rickyardlaw05_Act w V0_0 a0) (a1 : Int) (r : Bool) (h : rickyardlaw05_Small.f fu a0 a1 = some r) :
    Calls Try.prog 25 (([V0_0, .int .i64 a1] : List Value).toArray) w (fun e w' => ∃ v, e = .returned v ∧ v = .bool r ∧ Gr w w') := by
  unfold rickyardlaw05_Small.f at h
  have fB : Gr w w := Fr.refl _ _
  refine calls_cw Try.func25 rfl Try.ntmps25 rfl ?_
  refine cw_seq ?_
  refine cw_region ?_
  refine ol_val (v := .bool false) (by exact xr_assign rfl rfl) rfl rfl rfl ?_
  refine ol_nil ?_
  refine cw_seq ?_
  refine cw_seq ?_
  refine cw_region ?_
  refine ol_val (v := V0_0) (by exact xr_move rfl rfl) rfl rfl rfl ?_
  refine ol_val (v := .int .i64 (List.length a0 : Int)) (by exact xr_lenN rfl Try.underlying24 rfl (RdN.gr R0_0 D_rickyardlaw05_Act.gr fB)) rfl rfl rfl ?_
  refine ol_val (v := .int .i64 a1) (by exact xr_move rfl rfl) rfl rfl rfl ?_
  refine ol_val (v := .bool (decide ((List.length a0 : Int) > a1))) (by exact xr_gtr rfl rfl rfl) rfl rfl rfl ?_
  refine ol_nil ?_
  rcases is h with ⟨c1, h⟩ | ⟨c1, h⟩
  · refine cw_condT rfl c1 ?_
    refine cw_seq ?_
    refine cw_region ?_
    refine ol_val (v := .bool false) (by exact xr_assign rfl rfl) rfl rfl rfl ?_
    refine ol_nil ?_
    refine cw_ret ?_
    repeat (first | with_reducible refine thn_r ?_ | with_reducible refine blk_r ?_)
    obtain rfl := Option.some.inj h
    refine fin_ret1 Try.results25 rfl ?_
    exact ⟨_, rfl, rfl, fB⟩
  · refine cw_condF rfl c1 ?_
    refine cw_skip ?_
    refine cw_seq ?_
    refine cw_seq ?_
    refine cw_region ?_
    refine ol_val (v := .int .i64 0) (by exact xr_assign rfl rfl) rfl rfl rfl ?_
    refine ol_nil ?_
    obtain ⟨e3, l4, h5⟩ := bs h
    refine cw_mid (fun ρ' w' => ∃ x6, e3 = Sum.inr x6 ∧ Gr w w') ?_ ?_
    · refine cw_block ?_
      refine cw_round (fun (s2 : Int) ρ' w' => ρ' 0 = V0_0 ∧ ρ' 5 = .int .i64 s2 ∧ Gr w w') l4 ?_ ?_
      · skip
        exact ⟨rfl, rfl, fB⟩
      · rintro s2 x9 ρ7 w8 ⟨e0, e5, fB⟩ h
        unfold rickyardlaw05_Small.s0 at h
        refine cw_seq ?_
        refine cw_seq ?_
        refine cw_region ?_
        refine ol_val (v := .int .i64 s2) (by exact xr_move rfl e5) rfl rfl rfl ?_
        refine ol_val (v := V0_0) (by exact xr_move rfl e0) rfl rfl rfl ?_
        refine ol_val (v := .int .i64 (List.length a0 : Int)) (by exact xr_lenN rfl Try.underlying24 rfl (RdN.gr R0_0 D_rickyardlaw05_Act.gr fB)) rfl rfl rfl ?_
        refine ol_val (v := .bool (decide (s2 < (List.length a0 : Int)))) (by exact xr_lss rfl rfl rfl) rfl rfl rfl ?_
        refine ol_nil ?_
        rcases is h with ⟨c10, h⟩ | ⟨c10, h⟩
        · refine cw_condT rfl c10 ?_
          refine cw_skip ?_
          refine cw_seq ?_
          refine cw_block ?_
          refine cw_seq ?_
          refine cw_region ?_
          refine ol_val (v := V0_0) (by exact xr_move rfl e0) rfl rfl rfl ?_
          refine ol_val (v := .int .i64 s2) (by exact xr_move rfl e5) rfl rfl rfl ?_
          obtain ⟨g11, h⟩ := gs h
          refine ol_val (v := .pointer (some ⟨(sb V0_0), so V0_0 + Int.toNat s2 * 4, none⟩)) (by exact xr_indexN (v := V0_0) rfl Try.underlying24 sz39 rfl (RdN.gr R0_0 D_rickyardlaw05_Act.gr fB) rfl g11.1 g11.2) rfl rfl rfl ?_
          refine ol_val (v := .pointer (some ⟨(sb V0_0), so V0_0 + Int.toNat s2 * 4 + 3, none⟩)) (by exact xr_fieldAddr (p := so V0_0 + Int.toNat s2 * 4) (q := 3) rfl fl39_3 rfl) rfl rfl rfl ?_
          refine ol_val (v := cellAt w (sb V0_0) (so V0_0 + Int.toNat s2 * 4 + 3)) (by exact xr_load1 (v := cellAt w (sb V0_0) (so V0_0 + Int.toNat s2 * 4 + 3)) rfl ag25 rfl (At.segs (ss := [Seg.cell (.int .i64 ((ix a0 s2).Kind)), Seg.cell (.int .i64 ((ix a0 s2).At)), Seg.cell (.int .u64 ((ix a0 s2).W)), Seg.cell (cellAt w (sb V0_0) (so V0_0 + Int.toNat s2 * 4 + 3)) (N_rickyardlaw05_Act R0_0 g11.1 g11.2).2.one]) (At.gr (N_rickyardlaw05_Act R0_0 g11.1 g11.2).1 fB) 3 1 rfl)) rfl rfl rfl ?_
          refine ol_val (v := .int .i64 (List.length ((ix a0 s2).L) : Int)) (by exact xr_lenR rfl Try.underlying25 rfl ((N_rickyardlaw05_Act R0_0 g11.1 g11.2).2.gr fB)) rfl rfl rfl ?_
          refine ol_val (v := .bool (decide ((List.length ((ix a0 s2).L) : Int) > 40))) (by exact xr_gtr rfl rfl rfl) rfl rfl rfl ?_
          refine ol_nil ?_
          rcases is h with ⟨c12, h⟩ | ⟨c12, h⟩
          · refine cw_condT rfl c12 ?_
            refine cw_seq ?_
            refine cw_region ?_
            refine ol_val (v := .bool false) (by exact xr_assign rfl rfl) rfl rfl rfl ?_
            refine ol_nil ?_
            refine cw_ret ?_
            repeat (first | with_reducible refine thn_r ?_ | with_reducible refine blk_r ?_)
            obtain rfl := Option.some.inj h
            refine lp_ret ?_
            rintro rfl
            repeat (first | with_reducible refine thn_r ?_ | with_reducible refine blk_r ?_)
            have h := h5
            obtain rfl := Option.some.inj h
            refine fin_ret1 Try.results25 rfl ?_
            exact ⟨_, rfl, rfl, fB⟩
          · refine cw_condF rfl c12 ?_
            refine cw_skip ?_
            refine blk_i ?_
            refine cw_region ?_
            refine ol_val (v := .int .i64 s2) (by exact xr_move rfl e5) rfl rfl rfl ?_
            refine ol_val (v := .int .i64 (IntKind.i64.wrap (s2 + 1))) (by exact xr_add rfl rfl rfl) rfl rfl rfl ?_
            refine ol_val (v := .int .i64 (IntKind.i64.wrap (s2 + 1))) (by exact xr_assign rfl rfl) rfl rfl rfl ?_
            refine ol_nil ?_
            obtain rfl := Option.some.inj h
            refine lp_in ?_
            exact ⟨e0, rfl, fB⟩
        · refine cw_condF rfl c10 ?_
          refine cw_exit ?_
          repeat (first | with_reducible refine thn_e ?_ | with_reducible refine blk_e rfl ?_)
          obtain rfl := Option.some.inj h
          refine lp_exit ?_
          rintro rfl
          refine thn_x ?_
          exact ⟨_, rfl, fB⟩
    · rintro ρ13 w14 ⟨x6, rfl, fB⟩
      have h := h5
      refine cw_seq ?_
      refine cw_region ?_
      refine ol_val (v := .bool true) (by exact xr_assign rfl rfl) rfl rfl rfl ?_
      refine ol_nil ?_
      refine cw_ret ?_
      repeat (first | with_reducible refine thn_r ?_ | with_reducible refine blk_r ?_)
      obtain rfl := Option.some.inj h
      refine fin_ret1 Try.results25 rfl ?_
      exact ⟨_, rfl, rfl, fB⟩
end Go.Proofs.Ytklhbaghbmndeaa

/- rickyard/rickyardref01.Rest: its model, and that the Go function computes it: written by gen.py. -/
set_option linter.unusedVariables false
namespace Go.Proofs.Ytklhbaghbmndeaa
open Go Go.Xw
def rickyardref01_Rest.f (fu : Nat) (a0 : Int) (a1 : Int) : Option Int := (if a1 ≠ 0 then (if a1 ≠ 0 then some ((Int.tmod (IntKind.i64.wrap ((Int.tmod a0 a1) + a1)) a1)) else none) else none)
set_option maxRecDepth 100000 in
set_option maxHeartbeats 400000 in
theorem rickyardref01_Rest.ok (fu : Nat) (w : World) (a0 : Int) (a1 : Int) (r : Int) (h : rickyardref01_Rest.f fu a0 a1 = some r) :
    Calls Try.prog 27 (([.int .i64 a0, .int .i64 a1] : List Value).toArray) w (fun e w' => ∃ v, e = .returned v ∧ v = .int .i64 r ∧ Gr w w') := by
  unfold rickyardref01_Rest.f at h
  have fB : Gr w w := Fr.refl _ _
  refine calls_cw Try.func27 rfl Try.ntmps27 rfl ?_
  refine cw_seq ?_
  refine cw_region ?_
  refine ol_val (v := .int .i64 0) (by exact xr_assign rfl rfl) rfl rfl rfl ?_
  refine ol_nil ?_
  refine cw_seq ?_
  refine cw_region ?_
  refine ol_val (v := .int .i64 a0) (by exact xr_move rfl rfl) rfl rfl rfl ?_
  refine ol_val (v := .int .i64 a1) (by exact xr_move rfl rfl) rfl rfl rfl ?_
  obtain ⟨g1, h⟩ := gs h
  refine ol_val (v := .int .i64 (Int.tmod a0 a1)) (by exact xr_rem rfl rfl rfl g1) rfl rfl rfl ?_
  refine ol_val (v := .int .i64 a1) (by exact xr_move rfl rfl) rfl rfl rfl ?_
  refine ol_val (v := .int .i64 (IntKind.i64.wrap ((Int.tmod a0 a1) + a1))) (by exact xr_add rfl rfl rfl) rfl rfl rfl ?_
  refine ol_val (v := .int .i64 a1) (by exact xr_move rfl rfl) rfl rfl rfl ?_
  obtain ⟨g2, h⟩ := gs h
  refine ol_val (v := .int .i64 (Int.tmod (IntKind.i64.wrap ((Int.tmod a0 a1) + a1)) a1)) (by exact xr_rem rfl rfl rfl g2) rfl rfl rfl ?_
  refine ol_val (v := .int .i64 (Int.tmod (IntKind.i64.wrap ((Int.tmod a0 a1) + a1)) a1)) (by exact xr_assign rfl rfl) rfl rfl rfl ?_
  refine ol_nil ?_
  refine cw_ret ?_
  repeat (first | with_reducible refine thn_r ?_ | with_reducible refine blk_r ?_)
  obtain rfl := Option.some.inj h
  refine fin_ret1 Try.results27 rfl ?_
  exact ⟨_, rfl, rfl, fB⟩
end Go.Proofs.Ytklhbaghbmndeaa

/- slices.Clone[[]int,int]: its model, and that the Go function computes it: written by gen.py. -/
set_option linter.unusedVariables false
namespace Go.Proofs.Ytklhbaghbmndeaa
open Go Go.Xw
def slices_Clone_1.f (fu : Nat) (a0 : List Int) : Option (List Int) := (if List.length a0 ≤ LIM then some a0 else none)
set_option maxRecDepth 100000 in
theorem slices_Clone_1.ok (fu : Nat) (w : World) (a0 : List Int) (V0_0 : Value) (R0_0 : Rd (kI .i64) w V0_0 a0) (r : List Int) (h : slices_Clone_1.f fu a0 = some r) :
    Calls Try.prog 90 (([V0_0] : List Value).toArray) w (fun e w' => ∃ v, e = .returned v ∧ ∃ u1 : Value, ∃ o2 : Own (kI .i64) 3 w' w.heap.size u1 r, v = u1 ∧ Gr w w') := by
  unfold slices_Clone_1.f at h
  obtain ⟨g, h⟩ := gs h
  obtain rfl := Option.some.inj h
  have fB : Gr w w := Fr.refl _ _
  refine calls_cw Try.func90 rfl Try.ntmps90 rfl ?_
  refine cw_seq ?_
  refine cw_region ?_
  refine ol_val (v := .slice none 0 0) (by exact xr_assign rfl rfl) rfl rfl rfl ?_
  refine ol_nil ?_
  refine cw_seq ?_
  refine cw_seq ?_
  refine cw_region ?_
  refine ol_val (v := V0_0) (by exact xr_move rfl rfl) rfl rfl rfl ?_
  refine ol_val (v := .bool (isNilV V0_0)) (by exact xr_eqNil rfl Try.underlying25 rfl rfl R0_0) rfl rfl rfl ?_
  refine ol_nil ?_
  rcases bt (isNilV V0_0) with c | c
  · refine cw_condT rfl c ?_
    obtain rfl := R0_0.isNil c
    refine cw_seq ?_
    refine cw_region ?_
    refine ol_val (v := .slice none 0 0) (by exact xr_assign rfl rfl) rfl rfl rfl ?_
    refine ol_nil ?_
    refine cw_ret ?_
    repeat (first | with_reducible refine thn_r ?_ | with_reducible refine blk_r ?_)
    refine fin_ret1 Try.results90 rfl ?_
    exact ⟨_, rfl, _, Own.nil _ _ _ _, rfl, fB⟩
  · refine cw_condF rfl c ?_
    refine cw_skip ?_
    refine cw_seq ?_
    refine cw_region ?_
    refine ol_op (by exact opv_buildSlice (K := (kI .i64)) (xs := ([] : List Int)) (vals := []) rfl Try.underlying25 el3 rfl rfl trivial rfl rfl rfl fB.size) rfl rfl rfl ?_
    rintro v1 w1 ⟨o1, q1, z1⟩
    refine ol_val (v := V0_0) (by exact xr_move rfl rfl) rfl rfl rfl ?_
    refine ol_op (by exact opv_append (K := (kI .i64)) rfl Try.underlying25 el3 rfl rfl rfl rfl rfl o1 (R0_0.gr q1) (by simpa using g) (fB.gr q1).size) rfl rfl rfl ?_
    rintro v2 w2 ⟨o2, q2, n2⟩
    refine ol_val (v := v2) (by exact xr_assign rfl rfl) rfl rfl rfl ?_
    refine ol_nil ?_
    refine cw_ret ?_
    repeat (first | with_reducible refine thn_r ?_ | with_reducible refine blk_r ?_)
    refine fin_ret1 Try.results90 rfl ?_
    exact ⟨_, rfl, v2, o2, rfl, (fB.gr q1).wrO q2 o1.geO⟩
end Go.Proofs.Ytklhbaghbmndeaa

/- (*rickyard/pmem.Device).Plan: its model, and that the Go function computes it: written by gen.py. -/
set_option linter.unusedVariables false
namespace Go.Proofs.Ytklhbaghbmndeaa
open Go Go.Xw
def pmem_Device_Plan.f (fu : Nat) (a0 : S_pmem_Device) (a1 : List Int) : Option S_pmem_Device := ((slices_Clone_1.f fu a1 : Option (List Int)).bind fun t7 => some ((⟨a0.cells, (⟨t7, (0 : Int)⟩ : S_pmem_plan), a0.off, a0.armed, a0.left, a0.steps⟩ : S_pmem_Device)))
set_option maxRecDepth 100000 in
set_option maxHeartbeats 400000 in
theorem pmem_Device_Plan.ok (fu : Nat) (w : World) (a0 : S_pmem_Device) (G_0 : Nat) (V0_0 : Value) (O0_0 : Own k_pmem_cell 142 w 0 V0_0 a0.cells) (V0_1 : Value) (O0_1 : Own (kI .i64) 3 w 0 V0_1 a0.plan.list) (b_0 : Blk w G_0 139 [Seg.cell V0_0 O0_0.one, Seg.cell V0_1 O0_1.one, Seg.cell (.int .i64 a0.plan.at_), Seg.cell (.bool a0.off), Seg.cell (.bool a0.armed), Seg.cell (.int .i64 a0.left), Seg.cell (.int .i64 a0.steps)]) (a1 : List Int) (V1_0 : Value) (R1_0 : Rd (kI .i64) w V1_0 a1) (NR1_0_P0 : OffR V1_0 a1 G_0) (NR1_0_R0_0 : OffRV V1_0 a1 V0_0) (NR1_0_R0_1 : OffRV V1_0 a1 V0_1) (r : S_pmem_Device) (h : pmem_Device_Plan.f fu a0 a1 = some r) :
    Calls Try.prog 35 (([.pointer (some ⟨G_0, 0, none⟩), V1_0] : List Value).toArray) w (fun e w' => ∃ v, e = .returned v ∧ ∃ u1 : Value, ∃ u4 : Value, ∃ o2 : Own k_pmem_cell 142 w' 0 u1 r.cells, ∃ m3 : ∀ g, Value.ownBlock u1 = some g → w.heap.size ≤ g ∨ (g = G_0 ∨ some g = Value.ownBlock V0_0 ∨ some g = Value.ownBlock V0_1), ∃ o5 : Own (kI .i64) 3 w' 0 u4 r.plan.list, ∃ m6 : ∀ g, Value.ownBlock u4 = some g → w.heap.size ≤ g ∨ (g = G_0 ∨ some g = Value.ownBlock V0_0 ∨ some g = Value.ownBlock V0_1), v = .tuple #[] ∧ Blk w' G_0 139 [Seg.cell u1 o2.one, Seg.cell u4 o5.one, Seg.cell (.int .i64 r.plan.at_), Seg.cell (.bool r.off), Seg.cell (.bool r.armed), Seg.cell (.int .i64 r.left), Seg.cell (.int .i64 r.steps)] ∧ Fr (fun j => j = G_0 ∨ some j = Value.ownBlock V0_0 ∨ some j = Value.ownBlock V0_1) w w') := by
  unfold pmem_Device_Plan.f at h
  have fB : Fr (fun j => j = G_0 ∨ some j = Value.ownBlock V0_0 ∨ some j = Value.ownBlock V0_1) w w := Fr.refl _ _
  have M0_0 : ∀ g, Value.ownBlock V0_0 = some g → w.heap.size ≤ g ∨ (g = G_0 ∨ some g = Value.ownBlock V0_0 ∨ some g = Value.ownBlock V0_1) := fun g hg => .inr (.inr (.inl hg.symm))
  have M0_1 : ∀ g, Value.ownBlock V0_1 = some g → w.heap.size ≤ g ∨ (g = G_0 ∨ some g = Value.ownBlock V0_0 ∨ some g = Value.ownBlock V0_1) := fun g hg => .inr (.inr (.inr hg.symm))
  refine calls_cw Try.func35 rfl Try.ntmps35 rfl ?_
  refine cw_region ?_
  refine ol_val (v := .pointer (some ⟨G_0, 0, none⟩)) (by exact xr_move rfl rfl) rfl rfl rfl ?_
  refine ol_val (v := V1_0) (by exact xr_move rfl rfl) rfl rfl rfl ?_
  obtain ⟨t7, k8, h⟩ := bs h
  refine ol_op (by exact opv_call rfl cal90 (ac rfl an) (slices_Clone_1.ok fu _ a1 V1_0 (R1_0) _ k8)) rfl rfl rfl ?_
  rintro u9 w13 ⟨_, o10, rfl, q12⟩
  have a14 := OffV.call O0_1 o10
  have o10 := Own.base o10 fB.size
  have b_0 := b_0.gr q12
  have O0_0 := O0_0.gr q12
  have O0_1 := O0_1.gr q12
  have fB := fB.gr q12
  refine ol_val (v := aggV [Seg.cell u9 o10.one, Seg.cell (.int .i64 (0 : Int))]) (by exact xr_buildS (vals := [(0, u9)]) (res := [Seg.cell u9 o10.one, Seg.cell (.int .i64 (0 : Int))]) rfl ⟨rfl, rfl, trivial⟩ Try.underlying137 ze137 pl137 (fl_cons (xs := cellsOf [Seg.cell u9 o10.one]) (cs' := cellsOf [Seg.cell u9 o10.one, Seg.cell (.int .i64 (0 : Int))]) rfl (cells_one o10.one) (len_cellsOf _) (Spl.segs [Seg.cell (.slice none 0 0) (by rfl), Seg.cell (.int .i64 (0 : Int))] 0 1 [Seg.cell u9 o10.one] rfl rfl) fl_nil)) rfl rfl rfl ?_
  refine ol_val (v := .pointer (some ⟨G_0, 0, none⟩)) (by exact xr_nilCheck rfl rfl) rfl rfl rfl ?_
  refine ol_val (v := .pointer (some ⟨G_0, 1, none⟩)) (by exact xr_fieldAddr (p := 0) (q := 1) rfl fl139_1 rfl) rfl rfl rfl ?_
  have f16 := off_ty b_0 O0_0 (by decide)
  have f17 := off_ty b_0 o10 (by decide)
  refine ol_op0 (by exact opv_store (ss' := [Seg.cell V0_0 O0_0.one, Seg.cell u9 o10.one, Seg.cell (.int .i64 (0 : Int)), Seg.cell (.bool a0.off), Seg.cell (.bool a0.armed), Seg.cell (.int .i64 a0.left), Seg.cell (.int .i64 a0.steps)]) (xs := cellsOf [Seg.cell u9 o10.one, Seg.cell (.int .i64 (0 : Int))]) rfl sz137 rfl rfl rfl (len_cellsOf _) (one_cellsOf _) b_0 (Spl.segs _ 1 2 [Seg.cell u9 o10.one, Seg.cell (.int .i64 (0 : Int))] rfl rfl)) rfl rfl ?_
  rintro _ w18 ⟨b_0, q15⟩
  have O0_0 := O0_0.wr q15 f16
  have o10 := o10.wr q15 f17
  have fB := fB.wrS q15 (.inl rfl)
  refine ol_nil ?_
  obtain rfl := Option.some.inj h
  refine fin_end0 Try.results35 ?_
  exact ⟨_, rfl, V0_0, u9, O0_0, M0_0, (Own.base o10 (Nat.zero_le _)), (ms_geO o10), rfl, b_0, fB⟩
end Go.Proofs.Ytklhbaghbmndeaa

/- (*rickyard/pmem.Device).Arm: its model, and that the Go function computes it: written by gen.py. -/
set_option linter.unusedVariables false
namespace Go.Proofs.Ytklhbaghbmndeaa
open Go Go.Xw
def pmem_Device_Arm.f (fu : Nat) (a0 : S_pmem_Device) (a1 : Int) : Option S_pmem_Device := (if a0.off = true then some (a0) else some ((⟨a0.cells, a0.plan, (decide (a1 = 0)), (decide (a1 ≥ 0)), a1, a0.steps⟩ : S_pmem_Device)))
set_option maxRecDepth 100000 in
set_option maxHeartbeats 400000 in
theorem pmem_Device_Arm.ok (fu : Nat) (w : World) (a0 : S_pmem_Device) (G_0 : Nat) (V0_0 : Value) (R0_0 : Rd k_pmem_cell w V0_0 a0.cells) (N0_0 : OffR V0_0 a0.cells G_0) (V0_1 : Value) (R0_1 : Rd (kI .i64) w V0_1 a0.plan.list) (N0_1 : OffR V0_1 a0.plan.list G_0) (b_0 : Blk w G_0 139 [Seg.cell V0_0 R0_0.one, Seg.cell V0_1 R0_1.one, Seg.cell (.int .i64 a0.plan.at_), Seg.cell (.bool a0.off), Seg.cell (.bool a0.armed), Seg.cell (.int .i64 a0.left), Seg.cell (.int .i64 a0.steps)]) (a1 : Int) (r : S_pmem_Device) (h : pmem_Device_Arm.f fu a0 a1 = some r) :
    Calls Try.prog 38 (([.pointer (some ⟨G_0, 0, none⟩), .int .i64 a1] : List Value).toArray) w (fun e w' => ∃ v, e = .returned v ∧ v = .tuple #[] ∧ Blk w' G_0 139 [Seg.cell V0_0 R0_0.one, Seg.cell V0_1 R0_1.one, Seg.cell (.int .i64 r.plan.at_), Seg.cell (.bool r.off), Seg.cell (.bool r.armed), Seg.cell (.int .i64 r.left), Seg.cell (.int .i64 r.steps)] ∧ Fr (fun j => j = G_0) w w') := by
  unfold pmem_Device_Arm.f at h
  have fB : Fr (fun j => j = G_0) w w := Fr.refl _ _
  refine calls_cw Try.func38 rfl Try.ntmps38 rfl ?_
  refine cw_seq ?_
  refine cw_seq ?_
  refine cw_region ?_
  refine ol_val (v := .pointer (some ⟨G_0, 0, none⟩)) (by exact xr_move rfl rfl) rfl rfl rfl ?_
  refine ol_val (v := .pointer (some ⟨G_0, 0, none⟩)) (by exact xr_nilCheck rfl rfl) rfl rfl rfl ?_
  refine ol_val (v := .pointer (some ⟨G_0, 3, none⟩)) (by exact xr_fieldAddr (p := 0) (q := 3) rfl fl139_2 rfl) rfl rfl rfl ?_
  refine ol_val (v := .bool a0.off) (by exact xr_load1 (v := .bool a0.off) rfl ag4 rfl (b_0.seg 3 rfl rfl)) rfl rfl rfl ?_
  refine ol_nil ?_
  rcases is h with ⟨c1, h⟩ | ⟨c1, h⟩
  · refine cw_condT rfl c1 ?_
    refine cw_ret ?_
    repeat (first | with_reducible refine thn_r ?_ | with_reducible refine blk_r ?_)
    obtain rfl := Option.some.inj h
    refine fin_ret0 Try.results38 ?_
    exact ⟨_, rfl, rfl, b_0, fB⟩
  · refine cw_condF rfl c1 ?_
    refine cw_skip ?_
    refine cw_seq ?_
    refine cw_region ?_
    refine ol_val (v := .pointer (some ⟨G_0, 0, none⟩)) (by exact xr_move rfl rfl) rfl rfl rfl ?_
    refine ol_val (v := .pointer (some ⟨G_0, 0, none⟩)) (by exact xr_move rfl rfl) rfl rfl rfl ?_
    refine ol_val (v := .int .i64 a1) (by exact xr_move rfl rfl) rfl rfl rfl ?_
    refine ol_val (v := .bool (decide (a1 ≥ 0))) (by exact xr_geq rfl rfl rfl) rfl rfl rfl ?_
    refine ol_val (v := .int .i64 a1) (by exact xr_move rfl rfl) rfl rfl rfl ?_
    refine ol_val (v := .pointer (some ⟨G_0, 0, none⟩)) (by exact xr_nilCheck rfl rfl) rfl rfl rfl ?_
    refine ol_val (v := .pointer (some ⟨G_0, 4, none⟩)) (by exact xr_fieldAddr (p := 0) (q := 4) rfl fl139_3 rfl) rfl rfl rfl ?_
    refine ol_op0 (by exact opv_store (ss' := [Seg.cell V0_0 R0_0.one, Seg.cell V0_1 R0_1.one, Seg.cell (.int .i64 a0.plan.at_), Seg.cell (.bool a0.off), Seg.cell (.bool (decide (a1 ≥ 0))), Seg.cell (.int .i64 a0.left), Seg.cell (.int .i64 a0.steps)]) (xs := cellsOf [Seg.cell (.bool (decide (a1 ≥ 0)))]) rfl sz4 rfl rfl rfl (len_cellsOf _) (one_cellsOf _) b_0 (Spl.segs _ 4 1 [Seg.cell (.bool (decide (a1 ≥ 0)))] rfl rfl)) rfl rfl ?_
    rintro _ w3 ⟨b_0, q2⟩
    have R0_0 := R0_0.wr q2 N0_0
    have R0_1 := R0_1.wr q2 N0_1
    have fB := fB.wrS q2 rfl
    refine ol_val (v := .pointer (some ⟨G_0, 0, none⟩)) (by exact xr_nilCheck rfl rfl) rfl rfl rfl ?_
    refine ol_val (v := .pointer (some ⟨G_0, 5, none⟩)) (by exact xr_fieldAddr (p := 0) (q := 5) rfl fl139_4 rfl) rfl rfl rfl ?_
    refine ol_op0 (by exact opv_store (ss' := [Seg.cell V0_0 R0_0.one, Seg.cell V0_1 R0_1.one, Seg.cell (.int .i64 a0.plan.at_), Seg.cell (.bool a0.off), Seg.cell (.bool (decide (a1 ≥ 0))), Seg.cell (.int .i64 a1), Seg.cell (.int .i64 a0.steps)]) (xs := cellsOf [Seg.cell (.int .i64 a1)]) rfl sz3 rfl rfl rfl (len_cellsOf _) (one_cellsOf _) b_0 (Spl.segs _ 5 1 [Seg.cell (.int .i64 a1)] rfl rfl)) rfl rfl ?_
    rintro _ w5 ⟨b_0, q4⟩
    have R0_0 := R0_0.wr q4 N0_0
    have R0_1 := R0_1.wr q4 N0_1
    have fB := fB.wrS q4 rfl
    refine ol_nil ?_
    refine cw_region ?_
    refine ol_val (v := .pointer (some ⟨G_0, 0, none⟩)) (by exact xr_move rfl rfl) rfl rfl rfl ?_
    refine ol_val (v := .int .i64 a1) (by exact xr_move rfl rfl) rfl rfl rfl ?_
    refine ol_val (v := .bool (decide (a1 = 0))) (by exact xr_eqI rfl Try.underlying3 rfl rfl rfl) rfl rfl rfl ?_
    refine ol_val (v := .pointer (some ⟨G_0, 0, none⟩)) (by exact xr_nilCheck rfl rfl) rfl rfl rfl ?_
    refine ol_val (v := .pointer (some ⟨G_0, 3, none⟩)) (by exact xr_fieldAddr (p := 0) (q := 3) rfl fl139_2 rfl) rfl rfl rfl ?_
    refine ol_op0 (by exact opv_store (ss' := [Seg.cell V0_0 R0_0.one, Seg.cell V0_1 R0_1.one, Seg.cell (.int .i64 a0.plan.at_), Seg.cell (.bool (decide (a1 = 0))), Seg.cell (.bool (decide (a1 ≥ 0))), Seg.cell (.int .i64 a1), Seg.cell (.int .i64 a0.steps)]) (xs := cellsOf [Seg.cell (.bool (decide (a1 = 0)))]) rfl sz4 rfl rfl rfl (len_cellsOf _) (one_cellsOf _) b_0 (Spl.segs _ 3 1 [Seg.cell (.bool (decide (a1 = 0)))] rfl rfl)) rfl rfl ?_
    rintro _ w7 ⟨b_0, q6⟩
    have R0_0 := R0_0.wr q6 N0_0
    have R0_1 := R0_1.wr q6 N0_1
    have fB := fB.wrS q6 rfl
    refine ol_nil ?_
    obtain rfl := Option.some.inj h
    refine fin_end0 Try.results38 ?_
    exact ⟨_, rfl, rfl, b_0, fB⟩
end Go.Proofs.Ytklhbaghbmndeaa

/- rickyard/rickyardlaw05.Do: its model, and that the Go function computes it: written by gen.py. -/
set_option linter.unusedVariables false
namespace Go.Proofs.Ytklhbaghbmndeaa
open Go Go.Xw
def rickyardlaw05_Do.f (fu : Nat) (a0 : S_pmem_Device) (a1 : S_rickyardlaw05_Act) : Option (Int × Int × S_pmem_Device) := ((rickyardref01_Rest.f fu a1.Kind 7 : Option Int).bind fun t15 => (if (decide (t15 = 0)) = true then ((pmem_Device_Store.f fu a0 a1.At a1.W : Option (Int × S_pmem_Device)).bind fun t20 => some (0, t20.1, t20.2)) else (if (decide (t15 = 1)) = true then ((pmem_Device_Load.f fu a0 a1.At : Option (Int × Int)).bind fun t34 => some (t34.1, t34.2, a0)) else (if (decide (t15 = 2)) = true then ((pmem_Device_Flush.f fu a0 a1.At : Option (Int × S_pmem_Device)).bind fun t39 => some (0, t39.1, t39.2)) else (if (decide (t15 = 3)) = true then ((pmem_Device_Fence.f fu a0 : Option (Int × S_pmem_Device)).bind fun t53 => some (0, t53.1, t53.2)) else (((if (decide (t15 = 4)) = true then ((pmem_Device_Arm.f fu a0 a1.At : Option S_pmem_Device).bind fun t78 => some (a0.cells, a0.plan.list, t78.plan.at_, t78.off, t78.armed, t78.left, t78.steps)) else (((if (decide (t15 = 5)) = true then ((pmem_Device_Plan.f fu a0 a1.L : Option S_pmem_Device).bind fun t96 => some (t96.cells, t96.plan.list, t96.plan.at_, t96.off, t96.armed, t96.left, t96.steps)) else (((if (decide (t15 = 6)) = true then ((pmem_Device_Crash.f fu a0 a1.L : Option S_pmem_Device).bind fun t122 => some (t122.cells, t122.plan.list, t122.plan.at_, t122.off, t122.armed, t122.left, t122.steps)) else some (a0.cells, a0.plan.list, a0.plan.at_, a0.off, a0.armed, a0.left, a0.steps)) : Option ((List S_pmem_cell) × (List Int) × Int × Bool × Bool × Int × Int)).bind fun x110 => some (x110.1, x110.2.1, x110.2.2.1, x110.2.2.2.1, x110.2.2.2.2.1, x110.2.2.2.2.2.1, x110.2.2.2.2.2.2))) : Option ((List S_pmem_cell) × (List Int) × Int × Bool × Bool × Int × Int)).bind fun x84 => some (x84.1, x84.2.1, x84.2.2.1, x84.2.2.2.1, x84.2.2.2.2.1, x84.2.2.2.2.2.1, x84.2.2.2.2.2.2))) : Option ((List S_pmem_cell) × (List Int) × Int × Bool × Bool × Int × Int)).bind fun x66 => some (0, 0, (⟨x66.1, (⟨x66.2.1, x66.2.2.1⟩ : S_pmem_plan), x66.2.2.2.1, x66.2.2.2.2.1, x66.2.2.2.2.2.1, x66.2.2.2.2.2.2⟩ : S_pmem_Device))))))))
set_option maxRecDepth 100000 in
set_option maxHeartbeats 400000 in
theorem rickyardlaw05_Do.ok (fu : Nat) (w : World) (a0 : S_pmem_Device) (G_0 : Nat) (V0_0 : Value) (O0_0 : Own k_pmem_cell 142 w 0 V0_0 a0.cells) (V0_1 : Value) (O0_1 : Own (kI .i64) 3 w 0 V0_1 a0.plan.list) (b_0 : Blk w G_0 139 [Seg.cell V0_0 O0_0.one, Seg.cell V0_1 O0_1.one, Seg.cell (.int .i64 a0.plan.at_), Seg.cell (.bool a0.off), Seg.cell (.bool a0.armed), Seg.cell (.int .i64 a0.left), Seg.cell (.int .i64 a0.steps)]) (a1 : S_rickyardlaw05_Act) (V1_0 : Value) (R1_0 : Rd (kI .i64) w V1_0 a1.L) (NR1_0_P0 : OffR V1_0 a1.L G_0) (NR1_0_R0_0 : OffRV V1_0 a1.L V0_0) (NR1_0_R0_1 : OffRV V1_0 a1.L V0_1) (r : Int × Int × S_pmem_Device) (h : rickyardlaw05_Do.f fu a0 a1 = some r) :
    Calls Try.prog 31 (([.pointer (some ⟨G_0, 0, none⟩), aggV [Seg.cell (.int .i64 a1.Kind), Seg.cell (.int .i64 a1.At), Seg.cell (.int .u64 a1.W), Seg.cell V1_0 R1_0.one]] : List Value).toArray) w (fun e w' => ∃ v, e = .returned v ∧ ∃ u1 : Value, ∃ u4 : Value, ∃ o2 : Own k_pmem_cell 142 w' 0 u1 r.2.2.cells, ∃ m3 : ∀ g, Value.ownBlock u1 = some g → w.heap.size ≤ g ∨ (g = G_0 ∨ some g = Value.ownBlock V0_0 ∨ some g = Value.ownBlock V0_1), ∃ o5 : Own (kI .i64) 3 w' 0 u4 r.2.2.plan.list, ∃ m6 : ∀ g, Value.ownBlock u4 = some g → w.heap.size ≤ g ∨ (g = G_0 ∨ some g = Value.ownBlock V0_0 ∨ some g = Value.ownBlock V0_1), v = .tuple #[.int .u64 r.1, .int .i64 r.2.1] ∧ Blk w' G_0 139 [Seg.cell u1 o2.one, Seg.cell u4 o5.one, Seg.cell (.int .i64 r.2.2.plan.at_), Seg.cell (.bool r.2.2.off), Seg.cell (.bool r.2.2.armed), Seg.cell (.int .i64 r.2.2.left), Seg.cell (.int .i64 r.2.2.steps)] ∧ Fr (fun j => j = G_0 ∨ some j = Value.ownBlock V0_0 ∨ some j = Value.ownBlock V0_1) w w') := by
  unfold rickyardlaw05_Do.f at h
  have fB : Fr (fun j => j = G_0 ∨ some j = Value.ownBlock V0_0 ∨ some j = Value.ownBlock V0_1) w w := Fr.refl _ _
  have M0_0 : ∀ g, Value.ownBlock V0_0 = some g → w.heap.size ≤ g ∨ (g = G_0 ∨ some g = Value.ownBlock V0_0 ∨ some g = Value.ownBlock V0_1) := fun g hg => .inr (.inr (.inl hg.symm))
  have M0_1 : ∀ g, Value.ownBlock V0_1 = some g → w.heap.size ≤ g ∨ (g = G_0 ∨ some g = Value.ownBlock V0_0 ∨ some g = Value.ownBlock V0_1) := fun g hg => .inr (.inr (.inr hg.symm))
  refine calls_cw Try.func31 rfl Try.ntmps31 rfl ?_
  refine cw_seq ?_
  refine cw_region ?_
  refine ol_op (by exact opv_box (ss := [Seg.cell (.int .i64 a1.Kind), Seg.cell (.int .i64 a1.At), Seg.cell (.int .u64 a1.W), Seg.cell V1_0 R1_0.one]) rfl rfl rfl) rfl rfl rfl ?_
  rintro _ w12 ⟨G7, rfl, b8, q9, z10⟩
  have n13 := b_0.ne z10
  have a14 := OffR.new R1_0 z10 rfl
  have z10 := Nat.le_trans fB.size z10
  have b_0 := b_0.gr q9
  have O0_0 := O0_0.gr q9
  have O0_1 := O0_1.gr q9
  have R1_0 := R1_0.gr q9
  have fB := fB.gr q9
  refine ol_val (v := .int .u64 0) (by exact xr_assign rfl rfl) rfl rfl rfl ?_
  refine ol_val (v := .int .i64 0) (by exact xr_assign rfl rfl) rfl rfl rfl ?_
  refine ol_nil ?_
  refine cw_seq ?_
  refine cw_seq ?_
  refine cw_region ?_
  refine ol_val (v := .pointer (some ⟨G7, 0, none⟩)) (by exact xr_fieldAddr (p := 0) (q := 0) rfl fl39_0 rfl) rfl rfl rfl ?_
  refine ol_val (v := .int .i64 a1.Kind) (by exact xr_load1 (v := .int .i64 a1.Kind) rfl ag3 rfl (b8.seg 0 rfl rfl)) rfl rfl rfl ?_
  obtain ⟨t15, k16, h⟩ := bs h
  refine ol_op (by exact opv_call rfl cal27 (ac rfl (ac rfl an)) (rickyardref01_Rest.ok fu _ a1.Kind 7 _ k16)) rfl rfl rfl ?_
  rintro _ w18 ⟨rfl, q17⟩
  have b_0 := b_0.gr q17
  have b8 := b8.gr q17
  have O0_0 := O0_0.gr q17
  have O0_1 := O0_1.gr q17
  have R1_0 := R1_0.gr q17
  have fB := fB.gr q17
  refine ol_nil ?_
  refine cw_block ?_
  refine cw_seq ?_
  refine cw_region ?_
  refine ol_val (v := .bool (decide (t15 = 0))) (by exact xr_eqI rfl Try.underlying3 rfl rfl rfl) rfl rfl rfl ?_
  refine ol_val (v := .bool (decide (t15 = 0))) (by exact xr_assign rfl rfl) rfl rfl rfl ?_
  refine ol_nil ?_
  rcases is h with ⟨c19, h⟩ | ⟨c19, h⟩
  · refine cw_condT rfl c19 ?_
    refine cw_seq ?_
    refine cw_region ?_
    refine ol_val (v := .pointer (some ⟨G_0, 0, none⟩)) (by exact xr_move rfl rfl) rfl rfl rfl ?_
    refine ol_val (v := .pointer (some ⟨G7, 1, none⟩)) (by exact xr_fieldAddr (p := 0) (q := 1) rfl fl39_1 rfl) rfl rfl rfl ?_
    refine ol_val (v := .int .i64 a1.At) (by exact xr_load1 (v := .int .i64 a1.At) rfl ag3 rfl (b8.seg 1 rfl rfl)) rfl rfl rfl ?_
    refine ol_val (v := .pointer (some ⟨G7, 2, none⟩)) (by exact xr_fieldAddr (p := 0) (q := 2) rfl fl39_2 rfl) rfl rfl rfl ?_
    refine ol_val (v := .int .u64 a1.W) (by exact xr_load1 (v := .int .u64 a1.W) rfl ag22 rfl (b8.seg 2 rfl rfl)) rfl rfl rfl ?_
    obtain ⟨t20, k21, h⟩ := bs h
    have c31 : ∀ k, (k = G_0 ∨ some k = Value.ownBlock V0_0 ∨ some k = Value.ownBlock V0_1) → (w.heap.size ≤ k ∨ (k = G_0 ∨ some k = Value.ownBlock V0_0 ∨ some k = Value.ownBlock V0_1)) := (cv_or (cv_eq (.inr (.inl rfl))) (cv_or (cv_own M0_0) (cv_own M0_1)))
    refine ol_op (by exact opv_call rfl cal28 (ac rfl (ac rfl (ac rfl an))) (pmem_Device_Store.ok fu _ a0 G_0 V0_0 (Own.base O0_0 (Nat.zero_le _)) V0_1 (Own.base O0_1 (Nat.zero_le _)) b_0 a1.At a1.W _ k21)) rfl rfl rfl ?_
    rintro _ w32 ⟨u23, u27, o24, m25, o28, m29, rfl, b_0, q22⟩
    have m25 : ∀ g, Value.ownBlock u23 = some g → w.heap.size ≤ g ∨ (g = G_0 ∨ some g = Value.ownBlock V0_0 ∨ some g = Value.ownBlock V0_1) := fun g hg => (m25 g hg).elim (fun x => .inl (Nat.le_trans fB.size x)) (c31 g)
    have m29 : ∀ g, Value.ownBlock u27 = some g → w.heap.size ≤ g ∨ (g = G_0 ∨ some g = Value.ownBlock V0_0 ∨ some g = Value.ownBlock V0_1) := fun g hg => (m29 g hg).elim (fun x => .inl (Nat.le_trans fB.size x)) (c31 g)
    have fB := fB.call q22 c31
    refine ol_val (v := .int .u64 0) (by exact xr_assign rfl rfl) rfl rfl rfl ?_
    refine ol_val (v := .int .i64 t20.1) (by exact xr_assign rfl rfl) rfl rfl rfl ?_
    refine ol_nil ?_
    refine cw_ret ?_
    repeat (first | with_reducible refine thn_r ?_ | with_reducible refine blk_r ?_)
    obtain rfl := Option.some.inj h
    refine fin_ret2 Try.results31 rfl rfl ?_
    exact ⟨_, rfl, u23, u27, o24, m25, o28, m29, rfl, b_0, fB⟩
  · refine cw_condF rfl c19 ?_
    refine cw_seq ?_
    refine cw_region ?_
    refine ol_val (v := .bool (decide (t15 = 1))) (by exact xr_eqI rfl Try.underlying3 rfl rfl rfl) rfl rfl rfl ?_
    refine ol_val (v := .bool (decide (t15 = 1))) (by exact xr_assign rfl rfl) rfl rfl rfl ?_
    refine ol_nil ?_
    rcases is h with ⟨c33, h⟩ | ⟨c33, h⟩
    · refine cw_condT rfl c33 ?_
      refine cw_seq ?_
      refine cw_region ?_
      refine ol_val (v := .pointer (some ⟨G_0, 0, none⟩)) (by exact xr_move rfl rfl) rfl rfl rfl ?_
      refine ol_val (v := .pointer (some ⟨G7, 1, none⟩)) (by exact xr_fieldAddr (p := 0) (q := 1) rfl fl39_1 rfl) rfl rfl rfl ?_
      refine ol_val (v := .int .i64 a1.At) (by exact xr_load1 (v := .int .i64 a1.At) rfl ag3 rfl (b8.seg 1 rfl rfl)) rfl rfl rfl ?_
      obtain ⟨t34, k35, h⟩ := bs h
      refine ol_op (by exact opv_call rfl cal82 (ac rfl (ac rfl an)) (pmem_Device_Load.ok fu _ a0 G_0 V0_0 (O0_0.rd) V0_1 (O0_1.rd) b_0 a1.At _ k35)) rfl rfl rfl ?_
      rintro _ w37 ⟨rfl, q36⟩
      have b_0 := b_0.gr q36
      have O0_0 := O0_0.gr q36
      have O0_1 := O0_1.gr q36
      have fB := fB.gr q36
      refine ol_val (v := .int .u64 t34.1) (by exact xr_extract rfl rfl rfl) rfl rfl rfl ?_
      refine ol_val (v := .int .i64 t34.2) (by exact xr_extract rfl rfl rfl) rfl rfl rfl ?_
      refine ol_val (v := .int .u64 t34.1) (by exact xr_assign rfl rfl) rfl rfl rfl ?_
      refine ol_val (v := .int .i64 t34.2) (by exact xr_assign rfl rfl) rfl rfl rfl ?_
      refine ol_nil ?_
      refine cw_ret ?_
      repeat (first | with_reducible refine thn_r ?_ | with_reducible refine blk_r ?_)
      obtain rfl := Option.some.inj h
      refine fin_ret2 Try.results31 rfl rfl ?_
      exact ⟨_, rfl, V0_0, V0_1, O0_0, M0_0, O0_1, M0_1, rfl, b_0, fB⟩
    · refine cw_condF rfl c33 ?_
      refine cw_seq ?_
      refine cw_region ?_
      refine ol_val (v := .bool (decide (t15 = 2))) (by exact xr_eqI rfl Try.underlying3 rfl rfl rfl) rfl rfl rfl ?_
      refine ol_val (v := .bool (decide (t15 = 2))) (by exact xr_assign rfl rfl) rfl rfl rfl ?_
      refine ol_nil ?_
      rcases is h with ⟨c38, h⟩ | ⟨c38, h⟩
      · refine cw_condT rfl c38 ?_
        refine cw_seq ?_
        refine cw_region ?_
        refine ol_val (v := .pointer (some ⟨G_0, 0, none⟩)) (by exact xr_move rfl rfl) rfl rfl rfl ?_
        refine ol_val (v := .pointer (some ⟨G7, 1, none⟩)) (by exact xr_fieldAddr (p := 0) (q := 1) rfl fl39_1 rfl) rfl rfl rfl ?_
        refine ol_val (v := .int .i64 a1.At) (by exact xr_load1 (v := .int .i64 a1.At) rfl ag3 rfl (b8.seg 1 rfl rfl)) rfl rfl rfl ?_
        obtain ⟨t39, k40, h⟩ := bs h
        have c50 : ∀ k, (k = G_0 ∨ some k = Value.ownBlock V0_0 ∨ some k = Value.ownBlock V0_1) → (w.heap.size ≤ k ∨ (k = G_0 ∨ some k = Value.ownBlock V0_0 ∨ some k = Value.ownBlock V0_1)) := (cv_or (cv_eq (.inr (.inl rfl))) (cv_or (cv_own M0_0) (cv_own M0_1)))
        refine ol_op (by exact opv_call rfl cal29 (ac rfl (ac rfl an)) (pmem_Device_Flush.ok fu _ a0 G_0 V0_0 (Own.base O0_0 (Nat.zero_le _)) V0_1 (Own.base O0_1 (Nat.zero_le _)) b_0 a1.At _ k40)) rfl rfl rfl ?_
        rintro _ w51 ⟨u42, u46, o43, m44, o47, m48, rfl, b_0, q41⟩
        have m44 : ∀ g, Value.ownBlock u42 = some g → w.heap.size ≤ g ∨ (g = G_0 ∨ some g = Value.ownBlock V0_0 ∨ some g = Value.ownBlock V0_1) := fun g hg => (m44 g hg).elim (fun x => .inl (Nat.le_trans fB.size x)) (c50 g)
        have m48 : ∀ g, Value.ownBlock u46 = some g → w.heap.size ≤ g ∨ (g = G_0 ∨ some g = Value.ownBlock V0_0 ∨ some g = Value.ownBlock V0_1) := fun g hg => (m48 g hg).elim (fun x => .inl (Nat.le_trans fB.size x)) (c50 g)
        have fB := fB.call q41 c50
        refine ol_val (v := .int .u64 0) (by exact xr_assign rfl rfl) rfl rfl rfl ?_
        refine ol_val (v := .int .i64 t39.1) (by exact xr_assign rfl rfl) rfl rfl rfl ?_
        refine ol_nil ?_
        refine cw_ret ?_
        repeat (first | with_reducible refine thn_r ?_ | with_reducible refine blk_r ?_)
        obtain rfl := Option.some.inj h
        refine fin_ret2 Try.results31 rfl rfl ?_
        exact ⟨_, rfl, u42, u46, o43, m44, o47, m48, rfl, b_0, fB⟩
      · refine cw_condF rfl c38 ?_
        refine cw_seq ?_
        refine cw_region ?_
        refine ol_val (v := .bool (decide (t15 = 3))) (by exact xr_eqI rfl Try.underlying3 rfl rfl rfl) rfl rfl rfl ?_
        refine ol_val (v := .bool (decide (t15 = 3))) (by exact xr_assign rfl rfl) rfl rfl rfl ?_
        refine ol_nil ?_
        rcases is h with ⟨c52, h⟩ | ⟨c52, h⟩
        · refine cw_condT rfl c52 ?_
          refine cw_seq ?_
          refine cw_region ?_
          refine ol_val (v := .pointer (some ⟨G_0, 0, none⟩)) (by exact xr_move rfl rfl) rfl rfl rfl ?_
          obtain ⟨t53, k54, h⟩ := bs h
          have c64 : ∀ k, (k = G_0 ∨ some k = Value.ownBlock V0_0 ∨ some k = Value.ownBlock V0_1) → (w.heap.size ≤ k ∨ (k = G_0 ∨ some k = Value.ownBlock V0_0 ∨ some k = Value.ownBlock V0_1)) := (cv_or (cv_eq (.inr (.inl rfl))) (cv_or (cv_own M0_0) (cv_own M0_1)))
          refine ol_op (by exact opv_call rfl cal30 (ac rfl an) (pmem_Device_Fence.ok fu _ a0 G_0 V0_0 (Own.base O0_0 (Nat.zero_le _)) V0_1 (Own.base O0_1 (Nat.zero_le _)) b_0 _ k54)) rfl rfl rfl ?_
          rintro _ w65 ⟨u56, u60, o57, m58, o61, m62, rfl, b_0, q55⟩
          have m58 : ∀ g, Value.ownBlock u56 = some g → w.heap.size ≤ g ∨ (g = G_0 ∨ some g = Value.ownBlock V0_0 ∨ some g = Value.ownBlock V0_1) := fun g hg => (m58 g hg).elim (fun x => .inl (Nat.le_trans fB.size x)) (c64 g)
          have m62 : ∀ g, Value.ownBlock u60 = some g → w.heap.size ≤ g ∨ (g = G_0 ∨ some g = Value.ownBlock V0_0 ∨ some g = Value.ownBlock V0_1) := fun g hg => (m62 g hg).elim (fun x => .inl (Nat.le_trans fB.size x)) (c64 g)
          have fB := fB.call q55 c64
          refine ol_val (v := .int .u64 0) (by exact xr_assign rfl rfl) rfl rfl rfl ?_
          refine ol_val (v := .int .i64 t53.1) (by exact xr_assign rfl rfl) rfl rfl rfl ?_
          refine ol_nil ?_
          refine cw_ret ?_
          repeat (first | with_reducible refine thn_r ?_ | with_reducible refine blk_r ?_)
          obtain rfl := Option.some.inj h
          refine fin_ret2 Try.results31 rfl rfl ?_
          exact ⟨_, rfl, u56, u60, o57, m58, o61, m62, rfl, b_0, fB⟩
        · refine cw_condF rfl c52 ?_
          refine cw_seq ?_
          refine cw_region ?_
          refine ol_val (v := .bool (decide (t15 = 4))) (by exact xr_eqI rfl Try.underlying3 rfl rfl rfl) rfl rfl rfl ?_
          refine ol_val (v := .bool (decide (t15 = 4))) (by exact xr_assign rfl rfl) rfl rfl rfl ?_
          refine ol_nil ?_
          obtain ⟨x66, j67, h68⟩ := bs h
          refine cw_mid (fun ρ' w' => ∃ v69 : Value, ∃ v73 : Value, ∃ o70 : Own k_pmem_cell 142 w' 0 v69 x66.1, ∃ o74 : Own (kI .i64) 3 w' 0 v73 x66.2.1, ∃ m72 : ∀ g, Value.ownBlock v69 = some g → w.heap.size ≤ g ∨ (g = G_0 ∨ some g = Value.ownBlock V0_0 ∨ some g = Value.ownBlock V0_1), ∃ m76 : ∀ g, Value.ownBlock v73 = some g → w.heap.size ≤ g ∨ (g = G_0 ∨ some g = Value.ownBlock V0_0 ∨ some g = Value.ownBlock V0_1), Blk w' G_0 139 [Seg.cell v69 o70.one, Seg.cell v73 o74.one, Seg.cell (.int .i64 x66.2.2.1), Seg.cell (.bool x66.2.2.2.1), Seg.cell (.bool x66.2.2.2.2.1), Seg.cell (.int .i64 x66.2.2.2.2.2.1), Seg.cell (.int .i64 x66.2.2.2.2.2.2)] ∧ Fr (fun j => j = G_0 ∨ some j = Value.ownBlock V0_0 ∨ some j = Value.ownBlock V0_1) w w') ?_ ?_
          · have h := j67
            rcases is h with ⟨c77, h⟩ | ⟨c77, h⟩
            · refine cw_condT rfl c77 ?_
              refine cw_region ?_
              refine ol_val (v := .pointer (some ⟨G_0, 0, none⟩)) (by exact xr_move rfl rfl) rfl rfl rfl ?_
              refine ol_val (v := .pointer (some ⟨G7, 1, none⟩)) (by exact xr_fieldAddr (p := 0) (q := 1) rfl fl39_1 rfl) rfl rfl rfl ?_
              refine ol_val (v := .int .i64 a1.At) (by exact xr_load1 (v := .int .i64 a1.At) rfl ag3 rfl (b8.seg 1 rfl rfl)) rfl rfl rfl ?_
              obtain ⟨t78, k79, h⟩ := bs h
              have f81 := off_ty b_0 O0_0 (by decide)
              have f82 := off_ty b_0 O0_1 (by decide)
              refine ol_op (by exact opv_call rfl cal38 (ac rfl (ac rfl an)) (pmem_Device_Arm.ok fu _ a0 G_0 V0_0 O0_0.rd (OffR.own O0_0 (off_ty b_0 O0_0 (by decide))) V0_1 O0_1.rd (OffR.own O0_1 (off_ty b_0 O0_1 (by decide))) b_0 a1.At _ k79)) rfl rfl rfl ?_
              rintro _ w83 ⟨rfl, b_0, q80⟩
              have O0_0 := O0_0.wr q80 f81
              have O0_1 := O0_1.wr q80 f82
              have fB := fB.wrS q80 (.inl rfl)
              refine ol_nil ?_
              obtain rfl := Option.some.inj h
              refine thn_i ?_
              exact ⟨V0_0, V0_1, O0_0, O0_1, M0_0, M0_1, b_0, fB⟩
            · refine cw_condF rfl c77 ?_
              refine cw_seq ?_
              refine cw_region ?_
              refine ol_val (v := .bool (decide (t15 = 5))) (by exact xr_eqI rfl Try.underlying3 rfl rfl rfl) rfl rfl rfl ?_
              refine ol_val (v := .bool (decide (t15 = 5))) (by exact xr_assign rfl rfl) rfl rfl rfl ?_
              refine ol_nil ?_
              obtain ⟨x84, j85, h86⟩ := bs h
              refine cw_mid (fun ρ' w' => ∃ v87 : Value, ∃ v91 : Value, ∃ o88 : Own k_pmem_cell 142 w' 0 v87 x84.1, ∃ o92 : Own (kI .i64) 3 w' 0 v91 x84.2.1, ∃ m90 : ∀ g, Value.ownBlock v87 = some g → w.heap.size ≤ g ∨ (g = G_0 ∨ some g = Value.ownBlock V0_0 ∨ some g = Value.ownBlock V0_1), ∃ m94 : ∀ g, Value.ownBlock v91 = some g → w.heap.size ≤ g ∨ (g = G_0 ∨ some g = Value.ownBlock V0_0 ∨ some g = Value.ownBlock V0_1), Blk w' G_0 139 [Seg.cell v87 o88.one, Seg.cell v91 o92.one, Seg.cell (.int .i64 x84.2.2.1), Seg.cell (.bool x84.2.2.2.1), Seg.cell (.bool x84.2.2.2.2.1), Seg.cell (.int .i64 x84.2.2.2.2.2.1), Seg.cell (.int .i64 x84.2.2.2.2.2.2)] ∧ Fr (fun j => j = G_0 ∨ some j = Value.ownBlock V0_0 ∨ some j = Value.ownBlock V0_1) w w') ?_ ?_
              · have h := j85
                rcases is h with ⟨c95, h⟩ | ⟨c95, h⟩
                · refine cw_condT rfl c95 ?_
                  refine cw_region ?_
                  refine ol_val (v := .pointer (some ⟨G_0, 0, none⟩)) (by exact xr_move rfl rfl) rfl rfl rfl ?_
                  refine ol_val (v := .pointer (some ⟨G7, 3, none⟩)) (by exact xr_fieldAddr (p := 0) (q := 3) rfl fl39_3 rfl) rfl rfl rfl ?_
                  refine ol_val (v := V1_0) (by exact xr_load1 (v := V1_0) rfl ag25 rfl (b8.seg 3 rfl rfl)) rfl rfl rfl ?_
                  obtain ⟨t96, k97, h⟩ := bs h
                  have f107 := (ro_or (ro_eq NR1_0_P0) (ro_or (ro_own NR1_0_R0_0) (ro_own NR1_0_R0_1)))
                  have c108 : ∀ k, (k = G_0 ∨ some k = Value.ownBlock V0_0 ∨ some k = Value.ownBlock V0_1) → (w.heap.size ≤ k ∨ (k = G_0 ∨ some k = Value.ownBlock V0_0 ∨ some k = Value.ownBlock V0_1)) := (cv_or (cv_eq (.inr (.inl rfl))) (cv_or (cv_own M0_0) (cv_own M0_1)))
                  refine ol_op (by exact opv_call rfl cal35 (ac rfl (ac rfl an)) (pmem_Device_Plan.ok fu _ a0 G_0 V0_0 (Own.base O0_0 (Nat.zero_le _)) V0_1 (Own.base O0_1 (Nat.zero_le _)) b_0 a1.L V1_0 (R1_0) NR1_0_P0 NR1_0_R0_0 NR1_0_R0_1 _ k97)) rfl rfl rfl ?_
                  rintro _ w109 ⟨u99, u103, o100, m101, o104, m105, rfl, b_0, q98⟩
                  have m101 : ∀ g, Value.ownBlock u99 = some g → w.heap.size ≤ g ∨ (g = G_0 ∨ some g = Value.ownBlock V0_0 ∨ some g = Value.ownBlock V0_1) := fun g hg => (m101 g hg).elim (fun x => .inl (Nat.le_trans fB.size x)) (c108 g)
                  have m105 : ∀ g, Value.ownBlock u103 = some g → w.heap.size ≤ g ∨ (g = G_0 ∨ some g = Value.ownBlock V0_0 ∨ some g = Value.ownBlock V0_1) := fun g hg => (m105 g hg).elim (fun x => .inl (Nat.le_trans fB.size x)) (c108 g)
                  have fB := fB.call q98 c108
                  refine ol_nil ?_
                  obtain rfl := Option.some.inj h
                  refine thn_i ?_
                  exact ⟨u99, u103, o100, o104, m101, m105, b_0, fB⟩
                · refine cw_condF rfl c95 ?_
                  refine cw_seq ?_
                  refine cw_region ?_
                  refine ol_val (v := .bool (decide (t15 = 6))) (by exact xr_eqI rfl Try.underlying3 rfl rfl rfl) rfl rfl rfl ?_
                  refine ol_val (v := .bool (decide (t15 = 6))) (by exact xr_assign rfl rfl) rfl rfl rfl ?_
                  refine ol_nil ?_
                  obtain ⟨x110, j111, h112⟩ := bs h
                  refine cw_mid (fun ρ' w' => ∃ v113 : Value, ∃ v117 : Value, ∃ o114 : Own k_pmem_cell 142 w' 0 v113 x110.1, ∃ o118 : Own (kI .i64) 3 w' 0 v117 x110.2.1, ∃ m116 : ∀ g, Value.ownBlock v113 = some g → w.heap.size ≤ g ∨ (g = G_0 ∨ some g = Value.ownBlock V0_0 ∨ some g = Value.ownBlock V0_1), ∃ m120 : ∀ g, Value.ownBlock v117 = some g → w.heap.size ≤ g ∨ (g = G_0 ∨ some g = Value.ownBlock V0_0 ∨ some g = Value.ownBlock V0_1), Blk w' G_0 139 [Seg.cell v113 o114.one, Seg.cell v117 o118.one, Seg.cell (.int .i64 x110.2.2.1), Seg.cell (.bool x110.2.2.2.1), Seg.cell (.bool x110.2.2.2.2.1), Seg.cell (.int .i64 x110.2.2.2.2.2.1), Seg.cell (.int .i64 x110.2.2.2.2.2.2)] ∧ Fr (fun j => j = G_0 ∨ some j = Value.ownBlock V0_0 ∨ some j = Value.ownBlock V0_1) w w') ?_ ?_
                  · have h := j111
                    rcases is h with ⟨c121, h⟩ | ⟨c121, h⟩
                    · refine cw_condT rfl c121 ?_
                      refine cw_region ?_
                      refine ol_val (v := .pointer (some ⟨G_0, 0, none⟩)) (by exact xr_move rfl rfl) rfl rfl rfl ?_
                      refine ol_val (v := .pointer (some ⟨G7, 3, none⟩)) (by exact xr_fieldAddr (p := 0) (q := 3) rfl fl39_3 rfl) rfl rfl rfl ?_
                      refine ol_val (v := V1_0) (by exact xr_load1 (v := V1_0) rfl ag25 rfl (b8.seg 3 rfl rfl)) rfl rfl rfl ?_
                      obtain ⟨t122, k123, h⟩ := bs h
                      have f133 := (ro_or (ro_eq NR1_0_P0) (ro_or (ro_own NR1_0_R0_0) (ro_own NR1_0_R0_1)))
                      have c134 : ∀ k, (k = G_0 ∨ some k = Value.ownBlock V0_0 ∨ some k = Value.ownBlock V0_1) → (w.heap.size ≤ k ∨ (k = G_0 ∨ some k = Value.ownBlock V0_0 ∨ some k = Value.ownBlock V0_1)) := (cv_or (cv_eq (.inr (.inl rfl))) (cv_or (cv_own M0_0) (cv_own M0_1)))
                      refine ol_op (by exact opv_call rfl cal32 (ac rfl (ac rfl an)) (pmem_Device_Crash.ok fu _ a0 G_0 V0_0 (Own.base O0_0 (Nat.zero_le _)) V0_1 (Own.base O0_1 (Nat.zero_le _)) b_0 a1.L V1_0 (R1_0) NR1_0_P0 NR1_0_R0_0 NR1_0_R0_1 _ k123)) rfl rfl rfl ?_
                      rintro _ w135 ⟨u125, u129, o126, m127, o130, m131, rfl, b_0, q124⟩
                      have m127 : ∀ g, Value.ownBlock u125 = some g → w.heap.size ≤ g ∨ (g = G_0 ∨ some g = Value.ownBlock V0_0 ∨ some g = Value.ownBlock V0_1) := fun g hg => (m127 g hg).elim (fun x => .inl (Nat.le_trans fB.size x)) (c134 g)
                      have m131 : ∀ g, Value.ownBlock u129 = some g → w.heap.size ≤ g ∨ (g = G_0 ∨ some g = Value.ownBlock V0_0 ∨ some g = Value.ownBlock V0_1) := fun g hg => (m131 g hg).elim (fun x => .inl (Nat.le_trans fB.size x)) (c134 g)
                      have fB := fB.call q124 c134
                      refine ol_nil ?_
                      obtain rfl := Option.some.inj h
                      refine thn_i ?_
                      exact ⟨u125, u129, o126, o130, m127, m131, b_0, fB⟩
                    · refine cw_condF rfl c121 ?_
                      refine cw_skip ?_
                      obtain rfl := Option.some.inj h
                      refine thn_i ?_
                      exact ⟨V0_0, V0_1, O0_0, O0_1, M0_0, M0_1, b_0, fB⟩
                  · rintro ρ136 w137 ⟨v113, v117, o114, o118, m116, m120, b_0, fB⟩
                    have h := h112
                    obtain rfl := Option.some.inj h
                    refine thn_i ?_
                    exact ⟨v113, v117, o114, o118, m116, m120, b_0, fB⟩
              · rintro ρ138 w139 ⟨v87, v91, o88, o92, m90, m94, b_0, fB⟩
                have h := h86
                obtain rfl := Option.some.inj h
                refine thn_i ?_
                exact ⟨v87, v91, o88, o92, m90, m94, b_0, fB⟩
          · rintro ρ140 w141 ⟨v69, v73, o70, o74, m72, m76, b_0, fB⟩
            have h := h68
            refine blk_i ?_
            refine cw_seq ?_
            refine cw_region ?_
            refine ol_val (v := .int .u64 0) (by exact xr_assign rfl rfl) rfl rfl rfl ?_
            refine ol_val (v := .int .i64 0) (by exact xr_assign rfl rfl) rfl rfl rfl ?_
            refine ol_nil ?_
            refine cw_ret ?_
            repeat (first | with_reducible refine thn_r ?_ | with_reducible refine blk_r ?_)
            obtain rfl := Option.some.inj h
            refine fin_ret2 Try.results31 rfl rfl ?_
            exact ⟨_, rfl, v69, v73, o70, m72, o74, m76, rfl, b_0, fB⟩
end Go.Proofs.Ytklhbaghbmndeaa

/- (*rickyard/pmem.Device).Image$1: its model, and that the Go function computes it: written by gen.py. -/
set_option linter.unusedVariables false
namespace Go.Proofs.Ytklhbaghbmndeaa
open Go Go.Xw
def pmem_Device_Image_1__r0.f (fu : Nat) (a0 : S_pmem_cell) : Option Int := some (a0.lasts)
set_option maxRecDepth 100000 in
set_option maxHeartbeats 400000 in
theorem pmem_Device_Image_1__r0.ok (fu : Nat) (w : World) (a0 : S_pmem_cell) (G_0 p_0 : Nat) (A_0 : At w G_0 p_0 (cellsOf [Seg.cell (.int .u64 a0.lasts), Seg.cell (.int .u64 a0.stored), Seg.cell (.int .u64 a0.sent), Seg.cell (.bool a0.flushed)])) (r : Int) (h : pmem_Device_Image_1__r0.f fu a0 = some r) :
    Calls Try.prog 89 (([.pointer (some ⟨G_0, p_0, none⟩)] : List Value).toArray) w (fun e w' => ∃ v, e = .returned v ∧ v = .int .u64 r ∧ Gr w w') := by
  unfold pmem_Device_Image_1__r0.f at h
  have fB : Gr w w := Fr.refl _ _
  refine calls_cw Try.func89 rfl Try.ntmps89 rfl ?_
  refine cw_seq ?_
  refine cw_region ?_
  refine ol_val (v := .int .u64 0) (by exact xr_assign rfl rfl) rfl rfl rfl ?_
  refine ol_nil ?_
  refine cw_seq ?_
  refine cw_region ?_
  refine ol_val (v := .pointer (some ⟨G_0, p_0, none⟩)) (by exact xr_move rfl rfl) rfl rfl rfl ?_
  refine ol_val (v := .pointer (some ⟨G_0, p_0, none⟩)) (by exact xr_nilCheck rfl rfl) rfl rfl rfl ?_
  refine ol_val (v := .pointer (some ⟨G_0, p_0 + 0, none⟩)) (by exact xr_fieldAddr (p := p_0) (q := 0) rfl fl142_0 rfl) rfl rfl rfl ?_
  refine ol_val (v := .int .u64 a0.lasts) (by exact xr_load1 (v := .int .u64 a0.lasts) rfl ag22 rfl (At.segs (ss := [Seg.cell (.int .u64 a0.lasts), Seg.cell (.int .u64 a0.stored), Seg.cell (.int .u64 a0.sent), Seg.cell (.bool a0.flushed)]) (At.gr A_0 fB) 0 1 rfl)) rfl rfl rfl ?_
  refine ol_val (v := .int .u64 a0.lasts) (by exact xr_assign rfl rfl) rfl rfl rfl ?_
  refine ol_nil ?_
  refine cw_ret ?_
  repeat (first | with_reducible refine thn_r ?_ | with_reducible refine blk_r ?_)
  obtain rfl := Option.some.inj h
  refine fin_ret1 Try.results89 rfl ?_
  exact ⟨_, rfl, rfl, fB⟩
end Go.Proofs.Ytklhbaghbmndeaa

/- rickyard/octet.Lay: its model, and that the Go function computes it: written by gen.py. -/
set_option linter.unusedVariables false
namespace Go.Proofs.Ytklhbaghbmndeaa
open Go Go.Xw
def octet_Lay.s0 (fu : Nat) (a1 : Int) : (Int × Int × (List Int)) → Option (Sum (List Int) (Int × Int × (List Int))) := fun s14 => (if (decide (s14.2.1 < (List.length (List.replicate (Int.toNat a1) (0 : Int)) : Int))) = true then (if 0 ≤ s14.2.1 ∧ s14.2.1 < (List.length s14.2.2 : Int) then some (Sum.inr ((shR .u64 s14.1 8), (IntKind.i64.wrap (s14.2.1 + 1)), (List.set s14.2.2 (Int.toNat s14.2.1) (IntKind.u8.wrap s14.1)))) else none) else some (Sum.inl (s14.2.2)))
def octet_Lay.f (fu : Nat) (a0 : Int) (a1 : Int) : Option (List Int) := (if (if (decide (a1 < 0)) = true then true else (decide (a1 > 8))) = true then some ([]) else (if 0 ≤ a1 ∧ Int.toNat a1 ≤ LIM then ((loopM (octet_Lay.s0 fu a1) fu (a0, 0, (List.replicate (Int.toNat a1) (0 : Int)))).bind fun e15 => some (e15)) else none))
set_option maxRecDepth 100000 in
set_option maxHeartbeats 400000 in
theorem octet_Lay.ok (fu : Nat) (w : World) (a0 : Int) (a1 : Int) (r : (List Int)) (h : octet_Lay.f fu a0 a1 = some r) :
    Calls Try.prog 128 (([.int .u64 a0, .int .i64 a1] : List Value).toArray) w (fun e w' => ∃ v, e = .returned v ∧ ∃ u1 : Value, ∃ o2 : Own (kI .u8) 5 w' w.heap.size u1 r, v = u1 ∧ Gr w w') := by
  unfold octet_Lay.f at h
  have fB : Gr w w := Fr.refl _ _
  refine calls_cw Try.func128 rfl Try.ntmps128 rfl ?_
  refine cw_seq ?_
  refine cw_region ?_
  refine ol_val (v := .slice none 0 0) (by exact xr_assign rfl rfl) rfl rfl rfl ?_
  refine ol_nil ?_
  refine cw_seq ?_
  refine cw_seq ?_
  refine cw_mid (fun ρ' w' => ρ' 0 = .int .u64 a0 ∧ ρ' 1 = .int .i64 a1 ∧ ρ' 12 = .bool (if (decide (a1 < 0)) = true then true else (decide (a1 > 8))) ∧ w = w') ?_ ?_
  · skip
    refine cw_region ?_
    refine ol_val (v := .int .i64 a1) (by exact xr_move rfl rfl) rfl rfl rfl ?_
    refine ol_val (v := .bool (decide (a1 < 0))) (by exact xr_lss rfl rfl rfl) rfl rfl rfl ?_
    refine ol_val (v := .bool (decide (a1 < 0))) (by exact xr_move rfl rfl) rfl rfl rfl ?_
    rcases bt (decide (a1 < 0)) with c4 | c4
    · skip
      refine ol_gskip rfl rfl rfl rfl rfl c4 ?_
      refine ol_gskip rfl rfl rfl rfl rfl c4 ?_
      refine ol_val (v := .bool true) (by exact xr_pickT rfl rfl c4 rfl) rfl rfl rfl ?_
      refine ol_nil ?_
      refine thn_i ?_
      exact ⟨rfl, rfl, (rfl).trans (congrArg (fun z => (.bool z : Value)) (show true = (if (decide (a1 < 0)) = true then true else (decide (a1 > 8))) from by rw [ite_t c4])), rfl⟩
    · skip
      refine ol_gval (v := .int .i64 a1) (by exact xr_move rfl rfl) rfl rfl rfl rfl rfl c4 ?_
      refine ol_gval (v := .bool (decide (a1 > 8))) (by exact xr_gtr rfl rfl rfl) rfl rfl rfl rfl rfl c4 ?_
      refine ol_val (v := .bool (decide (a1 > 8))) (by exact xr_pickF rfl rfl c4 rfl) rfl rfl rfl ?_
      refine ol_nil ?_
      refine thn_i ?_
      exact ⟨rfl, rfl, (rfl).trans (congrArg (fun z => (.bool z : Value)) (show (decide (a1 > 8)) = (if (decide (a1 < 0)) = true then true else (decide (a1 > 8))) from by rw [ite_f c4])), rfl⟩
  · skip
    rintro ρ5 _ ⟨e0, e1, e12, rfl⟩
    rcases is h with ⟨c6, h⟩ | ⟨c6, h⟩
    · refine cw_condT e12 c6 ?_
      refine cw_seq ?_
      refine cw_region ?_
      refine ol_val (v := .slice none 0 0) (by exact xr_assign rfl rfl) rfl rfl rfl ?_
      refine ol_nil ?_
      refine cw_ret ?_
      repeat (first | with_reducible refine thn_r ?_ | with_reducible refine blk_r ?_)
      obtain rfl := Option.some.inj h
      refine fin_ret1 Try.results128 rfl ?_
      exact ⟨_, rfl, (.slice none 0 0), Own.nil _ _ _ _, rfl, fB⟩
    · refine cw_condF e12 c6 ?_
      refine cw_skip ?_
      refine cw_seq ?_
      refine cw_region ?_
      refine ol_val (v := .int .i64 a1) (by exact xr_move rfl e1) rfl rfl rfl ?_
      obtain ⟨g7, h⟩ := gs h
      refine ol_op (by exact opv_make (K := (kI .u8)) (z := (0 : Int)) rfl Try.underlying43 el5 rfl rfl rfl g7.1 g7.2 rfl fB.size) rfl rfl rfl ?_
      rintro v8 w13 ⟨o10, q9, z11⟩
      have fB := fB.gr q9
      refine ol_val (v := v8) (by exact xr_assign rfl rfl) rfl rfl rfl ?_
      refine ol_nil ?_
      refine cw_seq ?_
      refine cw_seq ?_
      refine cw_region ?_
      refine ol_val (v := v8) (by exact xr_move rfl rfl) rfl rfl rfl ?_
      refine ol_val (v := .int .i64 (List.length (List.replicate (Int.toNat a1) (0 : Int)) : Int)) (by exact xr_lenR rfl Try.underlying43 rfl o10.rd) rfl rfl rfl ?_
      refine ol_val (v := .int .i64 0) (by exact xr_move rfl rfl) rfl rfl rfl ?_
      refine ol_nil ?_
      obtain ⟨e15, l16, h17⟩ := bs h
      refine cw_mid (fun ρ' w' => ∃ o10 : Own (kI .u8) 5 w' w.heap.size v8 e15, ρ' 5 = v8 ∧ Gr w w') ?_ ?_
      · refine cw_block ?_
        refine cw_round (fun (s14 : Int × Int × (List Int)) ρ' w' => ∃ o10 : Own (kI .u8) 5 w' w.heap.size v8 s14.2.2, ρ' 0 = .int .u64 s14.1 ∧ ρ' 5 = v8 ∧ ρ' 16 = .int .i64 (List.length (List.replicate (Int.toNat a1) (0 : Int)) : Int) ∧ ρ' 17 = .int .i64 s14.2.1 ∧ Gr w w') l16 ?_ ?_
        · skip
          exact ⟨o10, e0, rfl, rfl, rfl, fB⟩
        · rintro s14 x20 ρ18 w19 ⟨o10, e0, e5, e16, e17, fB⟩ h
          unfold octet_Lay.s0 at h
          refine cw_seq ?_
          refine cw_region ?_
          refine ol_val (v := .bool (decide (s14.2.1 < (List.length (List.replicate (Int.toNat a1) (0 : Int)) : Int)))) (by exact xr_lss rfl e17 e16) rfl rfl rfl ?_
          refine ol_nil ?_
          refine cw_seq ?_
          rcases is h with ⟨c21, h⟩ | ⟨c21, h⟩
          · refine cw_condT rfl c21 ?_
            refine cw_skip ?_
            refine cw_seq ?_
            refine cw_block ?_
            refine cw_seq ?_
            refine cw_region ?_
            refine ol_val (v := .int .i64 s14.2.1) (by exact xr_move rfl e17) rfl rfl rfl ?_
            refine ol_val (v := .int .i64 s14.2.1) (by exact xr_assign rfl rfl) rfl rfl rfl ?_
            refine ol_nil ?_
            refine cw_seq ?_
            refine cw_region ?_
            refine ol_val (v := v8) (by exact xr_move rfl e5) rfl rfl rfl ?_
            refine ol_val (v := .int .i64 s14.2.1) (by exact xr_move rfl rfl) rfl rfl rfl ?_
            refine ol_val (v := .int .u64 s14.1) (by exact xr_move rfl e0) rfl rfl rfl ?_
            refine ol_val (v := .int .u8 (IntKind.u8.wrap s14.1)) (by exact xr_conv rfl Try.underlying22 Try.underlying5 rfl) rfl rfl rfl ?_
            obtain ⟨g22, h⟩ := gs h
            refine ol_val (v := .pointer (some ⟨(sb v8), so v8 + Int.toNat s14.2.1 * 1, none⟩)) (by exact xr_indexR (K := (kI .u8)) (v := v8) rfl Try.underlying43 sz5 rfl o10.rd rfl g22.1 g22.2) rfl rfl rfl ?_
            have f24 := o10.geO
            refine ol_op0 (by exact opv_storeRow (z := (IntKind.u8.wrap s14.1)) (xs := cellsOf [Seg.cell (.int .u8 (IntKind.u8.wrap s14.1))]) rfl sz5 rfl rfl rfl (len_cellsOf _) (one_cellsOf _) o10 g22.1 g22.2 (Spl.whole ((Kd.len _ _).trans (Kd.len _ _).symm)) rfl) rfl rfl ?_
            rintro _ w25 ⟨o10, q23⟩
            have fB := fB.wrO q23 f24
            refine ol_nil ?_
            refine cw_region ?_
            refine ol_val (v := .int .u64 s14.1) (by exact xr_move rfl e0) rfl rfl rfl ?_
            refine ol_val (v := .int .u64 (shR .u64 s14.1 8)) (by exact xr_shr rfl rfl rfl (by decide)) rfl rfl rfl ?_
            refine ol_val (v := .int .u64 (shR .u64 s14.1 8)) (by exact xr_assign rfl rfl) rfl rfl rfl ?_
            refine ol_nil ?_
            refine blk_i ?_
            refine cw_region ?_
            refine ol_val (v := .int .i64 (IntKind.i64.wrap (s14.2.1 + 1))) (by exact xr_add rfl e17 rfl) rfl rfl rfl ?_
            refine ol_val (v := .int .i64 (IntKind.i64.wrap (s14.2.1 + 1))) (by exact xr_move rfl rfl) rfl rfl rfl ?_
            refine ol_nil ?_
            obtain rfl := Option.some.inj h
            refine lp_in ?_
            exact ⟨o10, rfl, e5, e16, rfl, fB⟩
          · refine cw_condF rfl c21 ?_
            refine cw_exit ?_
            repeat (first | with_reducible refine thn_e ?_ | with_reducible refine blk_e rfl ?_)
            obtain rfl := Option.some.inj h
            refine lp_exit ?_
            rintro rfl
            refine thn_x ?_
            exact ⟨o10, e5, fB⟩
      · rintro ρ26 w27 ⟨o10, e5, fB⟩
        have h := h17
        refine cw_seq ?_
        refine cw_region ?_
        refine ol_val (v := v8) (by exact xr_move rfl e5) rfl rfl rfl ?_
        refine ol_val (v := v8) (by exact xr_assign rfl rfl) rfl rfl rfl ?_
        refine ol_nil ?_
        refine cw_ret ?_
        repeat (first | with_reducible refine thn_r ?_ | with_reducible refine blk_r ?_)
        obtain rfl := Option.some.inj h
        refine fin_ret1 Try.results128 rfl ?_
        exact ⟨_, rfl, v8, o10, rfl, fB⟩
end Go.Proofs.Ytklhbaghbmndeaa

/- rickyard/octet.Octets: its model, and that the Go function computes it: written by gen.py. -/
set_option linter.unusedVariables false
namespace Go.Proofs.Ytklhbaghbmndeaa
open Go Go.Xw
def octet_Octets.s0 (fu : Nat) (a0 : List Int) : ((List Int) × Int) → Option (Sum (List Int) ((List Int) × Int)) := fun s4 => (if (decide (s4.2 < (List.length a0 : Int))) = true then (if 0 ≤ s4.2 ∧ s4.2 < (List.length a0 : Int) then ((octet_Lay.f fu (ix a0 s4.2) 8 : Option (List Int)).bind fun t19 => (if List.length s4.1 + List.length t19 ≤ LIM then some (Sum.inr ((s4.1 ++ t19), (IntKind.i64.wrap (s4.2 + 1)))) else none)) else none) else some (Sum.inl (s4.1)))
def octet_Octets.f (fu : Nat) (a0 : List Int) : Option (List Int) := ((loopM (octet_Octets.s0 fu a0) fu ([], 0)).bind fun e5 => some (e5))
set_option maxRecDepth 100000 in
set_option maxHeartbeats 400000 in
theorem octet_Octets.ok (fu : Nat) (w : World) (a0 : List Int) (V0_0 : Value) (R0_0 : Rd (kI .u64) w V0_0 a0) (r : (List Int)) (h : octet_Octets.f fu a0 = some r) :
    Calls Try.prog 104 (([V0_0] : List Value).toArray) w (fun e w' => ∃ v, e = .returned v ∧ ∃ u1 : Value, ∃ o2 : Own (kI .u8) 5 w' w.heap.size u1 r, v = u1 ∧ Gr w w') := by
  unfold octet_Octets.f at h
  have fB : Gr w w := Fr.refl _ _
  refine calls_cw Try.func104 rfl Try.ntmps104 rfl ?_
  refine cw_seq ?_
  refine cw_region ?_
  refine ol_val (v := .slice none 0 0) (by exact xr_assign rfl rfl) rfl rfl rfl ?_
  refine ol_nil ?_
  refine cw_seq ?_
  refine cw_region ?_
  refine ol_val (v := .slice none 0 0) (by exact xr_assign rfl rfl) rfl rfl rfl ?_
  refine ol_nil ?_
  refine cw_seq ?_
  refine cw_seq ?_
  refine cw_region ?_
  refine ol_val (v := V0_0) (by exact xr_move rfl rfl) rfl rfl rfl ?_
  refine ol_val (v := .int .i64 (List.length a0 : Int)) (by exact xr_lenR rfl Try.underlying46 rfl (R0_0.gr fB)) rfl rfl rfl ?_
  refine ol_val (v := .int .i64 0) (by exact xr_move rfl rfl) rfl rfl rfl ?_
  refine ol_nil ?_
  obtain ⟨e5, l6, h7⟩ := bs h
  refine cw_mid (fun ρ' w' => ∃ v8 : Value, ∃ o9 : Own (kI .u8) 5 w' w.heap.size v8 e5, ρ' 3 = v8 ∧ Gr w w') ?_ ?_
  · refine cw_block ?_
    refine cw_round (fun (s4 : (List Int) × Int) ρ' w' => ∃ v11 : Value, ∃ o12 : Own (kI .u8) 5 w' w.heap.size v11 s4.1, ρ' 3 = v11 ∧ ρ' 6 = V0_0 ∧ ρ' 7 = .int .i64 (List.length a0 : Int) ∧ ρ' 8 = .int .i64 s4.2 ∧ Gr w w') l6 ?_ ?_
    · skip
      exact ⟨(.slice none 0 0), Own.nil _ _ _ _, rfl, rfl, rfl, rfl, fB⟩
    · rintro s4 x16 ρ14 w15 ⟨v11, o12, e3, e6, e7, e8, fB⟩ h
      unfold octet_Octets.s0 at h
      refine cw_seq ?_
      refine cw_region ?_
      refine ol_val (v := .bool (decide (s4.2 < (List.length a0 : Int)))) (by exact xr_lss rfl e8 e7) rfl rfl rfl ?_
      refine ol_nil ?_
      refine cw_seq ?_
      rcases is h with ⟨c17, h⟩ | ⟨c17, h⟩
      · refine cw_condT rfl c17 ?_
        refine cw_skip ?_
        refine cw_seq ?_
        refine cw_block ?_
        refine cw_seq ?_
        refine cw_region ?_
        obtain ⟨g18, h⟩ := gs h
        refine ol_val (v := .pointer (some ⟨(sb V0_0), so V0_0 + Int.toNat s4.2 * 1, none⟩)) (by exact xr_indexR (K := (kI .u64)) (v := V0_0) rfl Try.underlying46 sz22 e6 (R0_0.gr fB) e8 g18.1 g18.2) rfl rfl rfl ?_
        refine ol_val (v := .int .u64 (ix a0 s4.2)) (by exact xr_load1 (v := .int .u64 (ix a0 s4.2)) rfl ag22 rfl ((R0_0.gr fB).elem g18.1 g18.2)) rfl rfl rfl ?_
        refine ol_val (v := .int .u64 (ix a0 s4.2)) (by exact xr_assign rfl rfl) rfl rfl rfl ?_
        refine ol_nil ?_
        refine cw_region ?_
        refine ol_val (v := v11) (by exact xr_move rfl e3) rfl rfl rfl ?_
        refine ol_val (v := .int .u64 (ix a0 s4.2)) (by exact xr_move rfl rfl) rfl rfl rfl ?_
        obtain ⟨t19, k20, h⟩ := bs h
        refine ol_op (by exact opv_call rfl cal128 (ac rfl (ac rfl an)) (octet_Lay.ok fu _ (ix a0 s4.2) 8 _ k20)) rfl rfl rfl ?_
        rintro u21 w25 ⟨_, o22, rfl, q24⟩
        have a26 := OffV.call o12 o22
        have o22 := Own.base o22 fB.size
        have o12 := o12.gr q24
        have fB := fB.gr q24
        obtain ⟨g31, h⟩ := gs h
        have f33 := o12.geO
        refine ol_op (by exact opv_append (K := (kI .u8)) rfl Try.underlying43 el5 rfl rfl rfl rfl rfl o12 o22.rd g31 fB.size) rfl rfl rfl ?_
        rintro v27 w34 ⟨o28, q29, n30⟩
        have fB := fB.wrO q29 f33
        refine ol_val (v := v27) (by exact xr_assign rfl rfl) rfl rfl rfl ?_
        refine ol_nil ?_
        refine blk_i ?_
        refine cw_region ?_
        refine ol_val (v := .int .i64 (IntKind.i64.wrap (s4.2 + 1))) (by exact xr_add rfl e8 rfl) rfl rfl rfl ?_
        refine ol_val (v := .int .i64 (IntKind.i64.wrap (s4.2 + 1))) (by exact xr_move rfl rfl) rfl rfl rfl ?_
        refine ol_nil ?_
        obtain rfl := Option.some.inj h
        refine lp_in ?_
        exact ⟨v27, o28, rfl, e6, e7, rfl, fB⟩
      · refine cw_condF rfl c17 ?_
        refine cw_exit ?_
        repeat (first | with_reducible refine thn_e ?_ | with_reducible refine blk_e rfl ?_)
        obtain rfl := Option.some.inj h
        refine lp_exit ?_
        rintro rfl
        refine thn_x ?_
        exact ⟨v11, o12, e3, fB⟩
  · rintro ρ35 w36 ⟨v8, o9, e3, fB⟩
    have h := h7
    refine cw_seq ?_
    refine cw_region ?_
    refine ol_val (v := v8) (by exact xr_move rfl e3) rfl rfl rfl ?_
    refine ol_val (v := v8) (by exact xr_assign rfl rfl) rfl rfl rfl ?_
    refine ol_nil ?_
    refine cw_ret ?_
    repeat (first | with_reducible refine thn_r ?_ | with_reducible refine blk_r ?_)
    obtain rfl := Option.some.inj h
    refine fin_ret1 Try.results104 rfl ?_
    exact ⟨_, rfl, v8, o9, rfl, fB⟩
end Go.Proofs.Ytklhbaghbmndeaa

/- (*rickyard/pmem.Device).octets: its model, and that the Go function computes it: written by gen.py. -/
set_option linter.unusedVariables false
namespace Go.Proofs.Ytklhbaghbmndeaa
open Go Go.Xw
def pmem_Device_octets__pmem_Device_Image_1.s0 (fu : Nat) (a0 : S_pmem_Device) : (Int × (List Int)) → Option (Sum (List Int) (Int × (List Int))) := fun s11 => (if (decide (s11.1 < (List.length a0.cells : Int))) = true then (if 0 ≤ s11.1 ∧ s11.1 < (List.length a0.cells : Int) then ((pmem_Device_Image_1__r0.f fu (ix a0.cells s11.1) : Option Int).bind fun t20 => (if 0 ≤ s11.1 ∧ s11.1 < (List.length s11.2 : Int) then some (Sum.inr ((IntKind.i64.wrap (s11.1 + 1)), (List.set s11.2 (Int.toNat s11.1) t20))) else none)) else none) else some (Sum.inl (s11.2)))
def pmem_Device_octets__pmem_Device_Image_1.f (fu : Nat) (a0 : S_pmem_Device) : Option (List Int) := (if 0 ≤ (List.length a0.cells : Int) ∧ Int.toNat (List.length a0.cells : Int) ≤ LIM then ((loopM (pmem_Device_octets__pmem_Device_Image_1.s0 fu a0) fu (0, (List.replicate (Int.toNat (List.length a0.cells : Int)) (0 : Int)))).bind fun e12 => ((octet_Octets.f fu e12 : Option (List Int)).bind fun t31 => some (t31))) else none)
set_option maxRecDepth 100000 in
set_option maxHeartbeats 400000 in
theorem pmem_Device_octets__pmem_Device_Image_1.ok (fu : Nat) (w : World) (a0 : S_pmem_Device) (G_0 : Nat) (V0_0 : Value) (R0_0 : Rd k_pmem_cell w V0_0 a0.cells) (V0_1 : Value) (R0_1 : Rd (kI .i64) w V0_1 a0.plan.list) (b_0 : Blk w G_0 139 [Seg.cell V0_0 R0_0.one, Seg.cell V0_1 R0_1.one, Seg.cell (.int .i64 a0.plan.at_), Seg.cell (.bool a0.off), Seg.cell (.bool a0.armed), Seg.cell (.int .i64 a0.left), Seg.cell (.int .i64 a0.steps)]) (r : (List Int)) (h : pmem_Device_octets__pmem_Device_Image_1.f fu a0 = some r) :
    Calls Try.prog 88 (([.pointer (some ⟨G_0, 0, none⟩), Value.func (.func 89) #[] #[]] : List Value).toArray) w (fun e w' => ∃ v, e = .returned v ∧ ∃ u1 : Value, ∃ o2 : Own (kI .u8) 5 w' w.heap.size u1 r, v = u1 ∧ Gr w w') := by
  unfold pmem_Device_octets__pmem_Device_Image_1.f at h
  have fB : Gr w w := Fr.refl _ _
  refine calls_cw Try.func88 rfl Try.ntmps88 rfl ?_
  refine cw_seq ?_
  refine cw_region ?_
  refine ol_val (v := .slice none 0 0) (by exact xr_assign rfl rfl) rfl rfl rfl ?_
  refine ol_nil ?_
  refine cw_seq ?_
  refine cw_region ?_
  refine ol_val (v := .pointer (some ⟨G_0, 0, none⟩)) (by exact xr_move rfl rfl) rfl rfl rfl ?_
  refine ol_val (v := .pointer (some ⟨G_0, 0, none⟩)) (by exact xr_nilCheck rfl rfl) rfl rfl rfl ?_
  refine ol_val (v := .pointer (some ⟨G_0, 0, none⟩)) (by exact xr_fieldAddr (p := 0) (q := 0) rfl fl139_0 rfl) rfl rfl rfl ?_
  refine ol_val (v := V0_0) (by exact xr_load1 (v := V0_0) rfl ag135 rfl (b_0.seg 0 rfl rfl)) rfl rfl rfl ?_
  refine ol_val (v := .int .i64 (List.length a0.cells : Int)) (by exact xr_lenR rfl Try.underlying135 rfl (R0_0.gr fB)) rfl rfl rfl ?_
  obtain ⟨g4, h⟩ := gs h
  refine ol_op (by exact opv_make (K := (kI .u64)) (z := (0 : Int)) rfl Try.underlying46 el22 rfl rfl rfl g4.1 g4.2 rfl fB.size) rfl rfl rfl ?_
  rintro v5 w10 ⟨o7, q6, z8⟩
  have b_0 := b_0.gr q6
  have fB := fB.gr q6
  refine ol_val (v := v5) (by exact xr_assign rfl rfl) rfl rfl rfl ?_
  refine ol_nil ?_
  refine cw_seq ?_
  refine cw_seq ?_
  refine cw_region ?_
  refine ol_val (v := .pointer (some ⟨G_0, 0, none⟩)) (by exact xr_move rfl rfl) rfl rfl rfl ?_
  refine ol_val (v := .pointer (some ⟨G_0, 0, none⟩)) (by exact xr_nilCheck rfl rfl) rfl rfl rfl ?_
  refine ol_val (v := .pointer (some ⟨G_0, 0, none⟩)) (by exact xr_fieldAddr (p := 0) (q := 0) rfl fl139_0 rfl) rfl rfl rfl ?_
  refine ol_val (v := V0_0) (by exact xr_load1 (v := V0_0) rfl ag135 rfl (b_0.seg 0 rfl rfl)) rfl rfl rfl ?_
  refine ol_val (v := .int .i64 (List.length a0.cells : Int)) (by exact xr_lenR rfl Try.underlying135 rfl (R0_0.gr fB)) rfl rfl rfl ?_
  refine ol_val (v := .int .i64 0) (by exact xr_move rfl rfl) rfl rfl rfl ?_
  refine ol_nil ?_
  obtain ⟨e12, l13, h14⟩ := bs h
  refine cw_mid (fun ρ' w' => ∃ o7 : Own (kI .u64) 22 w' w.heap.size v5 e12, ρ' 5 = v5 ∧ Blk w' G_0 139 [Seg.cell V0_0 R0_0.one, Seg.cell V0_1 R0_1.one, Seg.cell (.int .i64 a0.plan.at_), Seg.cell (.bool a0.off), Seg.cell (.bool a0.armed), Seg.cell (.int .i64 a0.left), Seg.cell (.int .i64 a0.steps)] ∧ Gr w w') ?_ ?_
  · refine cw_block ?_
    refine cw_round (fun (s11 : Int × (List Int)) ρ' w' => ∃ o7 : Own (kI .u64) 22 w' w.heap.size v5 s11.2, ρ' 0 = .pointer (some ⟨G_0, 0, none⟩) ∧ ρ' 1 = Value.func (.func 89) #[] #[] ∧ ρ' 5 = v5 ∧ ρ' 17 = .int .i64 (List.length a0.cells : Int) ∧ ρ' 18 = .int .i64 s11.1 ∧ Blk w' G_0 139 [Seg.cell V0_0 R0_0.one, Seg.cell V0_1 R0_1.one, Seg.cell (.int .i64 a0.plan.at_), Seg.cell (.bool a0.off), Seg.cell (.bool a0.armed), Seg.cell (.int .i64 a0.left), Seg.cell (.int .i64 a0.steps)] ∧ Gr w w') l13 ?_ ?_
    · skip
      exact ⟨o7, rfl, rfl, rfl, rfl, rfl, b_0, fB⟩
    · rintro s11 x17 ρ15 w16 ⟨o7, e0, e1, e5, e17, e18, b_0, fB⟩ h
      unfold pmem_Device_octets__pmem_Device_Image_1.s0 at h
      refine cw_seq ?_
      refine cw_region ?_
      refine ol_val (v := .bool (decide (s11.1 < (List.length a0.cells : Int)))) (by exact xr_lss rfl e18 e17) rfl rfl rfl ?_
      refine ol_nil ?_
      refine cw_seq ?_
      rcases is h with ⟨c18, h⟩ | ⟨c18, h⟩
      · refine cw_condT rfl c18 ?_
        refine cw_skip ?_
        refine cw_seq ?_
        refine cw_block ?_
        refine cw_seq ?_
        refine cw_region ?_
        refine ol_val (v := .int .i64 s11.1) (by exact xr_move rfl e18) rfl rfl rfl ?_
        refine ol_val (v := .int .i64 s11.1) (by exact xr_assign rfl rfl) rfl rfl rfl ?_
        refine ol_nil ?_
        refine cw_region ?_
        refine ol_val (v := v5) (by exact xr_move rfl e5) rfl rfl rfl ?_
        refine ol_val (v := .int .i64 s11.1) (by exact xr_move rfl rfl) rfl rfl rfl ?_
        refine ol_val (v := Value.func (.func 89) #[] #[]) (by exact xr_move rfl e1) rfl rfl rfl ?_
        refine ol_val (v := .pointer (some ⟨G_0, 0, none⟩)) (by exact xr_move rfl e0) rfl rfl rfl ?_
        refine ol_val (v := .pointer (some ⟨G_0, 0, none⟩)) (by exact xr_nilCheck rfl rfl) rfl rfl rfl ?_
        refine ol_val (v := .pointer (some ⟨G_0, 0, none⟩)) (by exact xr_fieldAddr (p := 0) (q := 0) rfl fl139_0 rfl) rfl rfl rfl ?_
        refine ol_val (v := V0_0) (by exact xr_load1 (v := V0_0) rfl ag135 rfl (b_0.seg 0 rfl rfl)) rfl rfl rfl ?_
        refine ol_val (v := .int .i64 s11.1) (by exact xr_move rfl rfl) rfl rfl rfl ?_
        obtain ⟨g19, h⟩ := gs h
        refine ol_val (v := .pointer (some ⟨(sb V0_0), so V0_0 + Int.toNat s11.1 * 4, none⟩)) (by exact xr_indexR (K := k_pmem_cell) (v := V0_0) rfl Try.underlying135 sz142 rfl (R0_0.gr fB) rfl g19.1 g19.2) rfl rfl rfl ?_
        obtain ⟨t20, k21, h⟩ := bs h
        refine ol_op (by exact opv_callV (C := []) rfl rfl cal89 (ac rfl an) (pmem_Device_Image_1__r0.ok fu _ (ix a0.cells s11.1) (sb V0_0) (so V0_0 + Int.toNat s11.1 * 4) (show At _ _ _ (cellsOf [Seg.cell (.int .u64 ((ix a0.cells s11.1).lasts)), Seg.cell (.int .u64 ((ix a0.cells s11.1).stored)), Seg.cell (.int .u64 ((ix a0.cells s11.1).sent)), Seg.cell (.bool ((ix a0.cells s11.1).flushed))]) from ((R0_0.gr fB).elem g19.1 g19.2)) _ k21)) rfl rfl rfl ?_
        rintro _ w23 ⟨rfl, q22⟩
        have b_0 := b_0.gr q22
        have o7 := o7.gr q22
        have fB := fB.gr q22
        obtain ⟨g24, h⟩ := gs h
        refine ol_val (v := .pointer (some ⟨(sb v5), so v5 + Int.toNat s11.1 * 1, none⟩)) (by exact xr_indexR (K := (kI .u64)) (v := v5) rfl Try.underlying46 sz22 rfl o7.rd rfl g24.1 g24.2) rfl rfl rfl ?_
        have f26 := off_ty b_0 o7 (by decide)
        have f27 := o7.geO
        refine ol_op0 (by exact opv_storeRow (z := t20) (xs := cellsOf [Seg.cell (.int .u64 t20)]) rfl sz22 rfl rfl rfl (len_cellsOf _) (one_cellsOf _) o7 g24.1 g24.2 (Spl.whole ((Kd.len _ _).trans (Kd.len _ _).symm)) rfl) rfl rfl ?_
        rintro _ w28 ⟨o7, q25⟩
        have b_0 := b_0.wrO q25 f26
        have fB := fB.wrO q25 f27
        refine ol_nil ?_
        refine blk_i ?_
        refine cw_region ?_
        refine ol_val (v := .int .i64 (IntKind.i64.wrap (s11.1 + 1))) (by exact xr_add rfl e18 rfl) rfl rfl rfl ?_
        refine ol_val (v := .int .i64 (IntKind.i64.wrap (s11.1 + 1))) (by exact xr_move rfl rfl) rfl rfl rfl ?_
        refine ol_nil ?_
        obtain rfl := Option.some.inj h
        refine lp_in ?_
        exact ⟨o7, e0, e1, e5, e17, rfl, b_0, fB⟩
      · refine cw_condF rfl c18 ?_
        refine cw_exit ?_
        repeat (first | with_reducible refine thn_e ?_ | with_reducible refine blk_e rfl ?_)
        obtain rfl := Option.some.inj h
        refine lp_exit ?_
        rintro rfl
        refine thn_x ?_
        exact ⟨o7, e5, b_0, fB⟩
  · rintro ρ29 w30 ⟨o7, e5, b_0, fB⟩
    have h := h14
    refine cw_seq ?_
    refine cw_region ?_
    refine ol_val (v := v5) (by exact xr_move rfl e5) rfl rfl rfl ?_
    obtain ⟨t31, k32, h⟩ := bs h
    refine ol_op (by exact opv_call rfl cal104 (ac rfl an) (octet_Octets.ok fu _ e12 v5 (o7.rd) _ k32)) rfl rfl rfl ?_
    rintro u33 w37 ⟨_, o34, rfl, q36⟩
    have o34 := Own.base o34 fB.size
    have b_0 := b_0.gr q36
    have fB := fB.gr q36
    refine ol_val (v := u33) (by exact xr_assign rfl rfl) rfl rfl rfl ?_
    refine ol_nil ?_
    refine cw_ret ?_
    repeat (first | with_reducible refine thn_r ?_ | with_reducible refine blk_r ?_)
    obtain rfl := Option.some.inj h
    refine fin_ret1 Try.results88 rfl ?_
    exact ⟨_, rfl, u33, o34, rfl, fB⟩
end Go.Proofs.Ytklhbaghbmndeaa

/- (*rickyard/pmem.Device).Image: its model, and that the Go function computes it: written by gen.py. -/
set_option linter.unusedVariables false
namespace Go.Proofs.Ytklhbaghbmndeaa
open Go Go.Xw
def pmem_Device_Image.f (fu : Nat) (a0 : S_pmem_Device) : Option (List Int) := ((pmem_Device_octets__pmem_Device_Image_1.f fu a0 : Option (List Int)).bind fun t4 => some (t4))
set_option maxRecDepth 100000 in
set_option maxHeartbeats 400000 in
theorem pmem_Device_Image.ok (fu : Nat) (w : World) (a0 : S_pmem_Device) (G_0 : Nat) (V0_0 : Value) (R0_0 : Rd k_pmem_cell w V0_0 a0.cells) (V0_1 : Value) (R0_1 : Rd (kI .i64) w V0_1 a0.plan.list) (b_0 : Blk w G_0 139 [Seg.cell V0_0 R0_0.one, Seg.cell V0_1 R0_1.one, Seg.cell (.int .i64 a0.plan.at_), Seg.cell (.bool a0.off), Seg.cell (.bool a0.armed), Seg.cell (.int .i64 a0.left), Seg.cell (.int .i64 a0.steps)]) (r : (List Int)) (h : pmem_Device_Image.f fu a0 = some r) :
    Calls Try.prog 33 (([.pointer (some ⟨G_0, 0, none⟩)] : List Value).toArray) w (fun e w' => ∃ v, e = .returned v ∧ ∃ u1 : Value, ∃ o2 : Own (kI .u8) 5 w' w.heap.size u1 r, v = u1 ∧ Gr w w') := by
  unfold pmem_Device_Image.f at h
  have fB : Gr w w := Fr.refl _ _
  refine calls_cw Try.func33 rfl Try.ntmps33 rfl ?_
  refine cw_seq ?_
  refine cw_region ?_
  refine ol_val (v := .slice none 0 0) (by exact xr_assign rfl rfl) rfl rfl rfl ?_
  refine ol_nil ?_
  refine cw_seq ?_
  refine cw_region ?_
  refine ol_val (v := .pointer (some ⟨G_0, 0, none⟩)) (by exact xr_move rfl rfl) rfl rfl rfl ?_
  obtain ⟨t4, k5, h⟩ := bs h
  refine ol_op (by exact opv_call rfl cal88 (ac rfl (ac rfl an)) (pmem_Device_octets__pmem_Device_Image_1.ok fu _ a0 G_0 V0_0 (R0_0.gr fB) V0_1 (R0_1.gr fB) b_0 _ k5)) rfl rfl rfl ?_
  rintro u6 w10 ⟨_, o7, rfl, q9⟩
  have o7 := Own.base o7 fB.size
  have b_0 := b_0.gr q9
  have fB := fB.gr q9
  refine ol_val (v := u6) (by exact xr_assign rfl rfl) rfl rfl rfl ?_
  refine ol_nil ?_
  refine cw_ret ?_
  repeat (first | with_reducible refine thn_r ?_ | with_reducible refine blk_r ?_)
  obtain rfl := Option.some.inj h
  refine fin_ret1 Try.results33 rfl ?_
  exact ⟨_, rfl, u6, o7, rfl, fB⟩
end Go.Proofs.Ytklhbaghbmndeaa

/- rickyard/rickyardref05.Text: its model, and that the Go function computes it: written by gen.py. -/
set_option linter.unusedVariables false
namespace Go.Proofs.Ytklhbaghbmndeaa
open Go Go.Xw
def rickyardref05_Text.s2 (fu : Nat) (a0 : List Int) (s1 : (List Int) × Int) : ((List Int) × Int) → Option (Sum (List Int) ((List Int) × Int)) := fun s15 => (if (decide (s15.2 < 8)) = true then (if 0 ≤ s1.2 ∧ s1.2 < (List.length a0 : Int) then (if 0 ≤ (IntKind.i64.wrap (8 * s15.2)) then (if List.length s15.1 + List.length [(IntKind.u8.wrap (shR .u64 (ix a0 s1.2) (IntKind.i64.wrap (8 * s15.2))))] ≤ LIM then some (Sum.inr ((s15.1 ++ [(IntKind.u8.wrap (shR .u64 (ix a0 s1.2) (IntKind.i64.wrap (8 * s15.2))))]), (IntKind.i64.wrap (s15.2 + 1)))) else none) else none) else none) else some (Sum.inl (s15.1)))
def rickyardref05_Text.s1 (fu : Nat) (a0 : List Int) : ((List Int) × Int) → Option (Sum (List Int) ((List Int) × Int)) := fun s1 => (if (decide (s1.2 < (List.length a0 : Int))) = true then ((loopM (rickyardref05_Text.s2 fu a0 s1) fu (s1.1, 0)).bind fun e16 => some (Sum.inr (e16, (IntKind.i64.wrap (s1.2 + 1))))) else some (Sum.inl (s1.1)))
def rickyardref05_Text.f (fu : Nat) (a0 : List Int) : Option (List UInt8) := ((loopM (rickyardref05_Text.s1 fu a0) fu ([], 0)).bind fun e2 => some ((List.map toB e2)))
set_option maxRecDepth 100000 in
set_option maxHeartbeats 400000 in
theorem rickyardref05_Text.ok (fu : Nat) (w : World) (a0 : List Int) (V0_0 : Value) (R0_0 : Rd (kI .u64) w V0_0 a0) (r : (List UInt8)) (h : rickyardref05_Text.f fu a0 = some r) :
    Calls Try.prog 34 (([V0_0] : List Value).toArray) w (fun e w' => ∃ v, e = .returned v ∧ v = sv r ∧ Gr w w') := by
  unfold rickyardref05_Text.f at h
  have fB : Gr w w := Fr.refl _ _
  refine calls_cw Try.func34 rfl Try.ntmps34 rfl ?_
  refine cw_seq ?_
  refine cw_region ?_
  refine ol_val (v := sv []) (by exact xr_assign rfl rfl) rfl rfl rfl ?_
  refine ol_nil ?_
  refine cw_seq ?_
  refine cw_region ?_
  refine ol_val (v := .slice none 0 0) (by exact xr_assign rfl rfl) rfl rfl rfl ?_
  refine ol_nil ?_
  refine cw_seq ?_
  refine cw_seq ?_
  refine cw_region ?_
  refine ol_val (v := .int .i64 0) (by exact xr_assign rfl rfl) rfl rfl rfl ?_
  refine ol_nil ?_
  obtain ⟨e2, l3, h4⟩ := bs h
  refine cw_mid (fun ρ' w' => ∃ v5 : Value, ∃ o6 : Own (kI .u8) 5 w' w.heap.size v5 e2, ρ' 3 = v5 ∧ Gr w w') ?_ ?_
  · refine cw_block ?_
    refine cw_round (fun (s1 : (List Int) × Int) ρ' w' => ∃ v8 : Value, ∃ o9 : Own (kI .u8) 5 w' w.heap.size v8 s1.1, ρ' 0 = V0_0 ∧ ρ' 3 = v8 ∧ ρ' 4 = .int .i64 s1.2 ∧ Gr w w') l3 ?_ ?_
    · skip
      exact ⟨(.slice none 0 0), Own.nil _ _ _ _, rfl, rfl, rfl, fB⟩
    · rintro s1 x13 ρ11 w12 ⟨v8, o9, e0, e3, e4, fB⟩ h
      unfold rickyardref05_Text.s1 at h
      refine cw_seq ?_
      refine cw_seq ?_
      refine cw_region ?_
      refine ol_val (v := .int .i64 s1.2) (by exact xr_move rfl e4) rfl rfl rfl ?_
      refine ol_val (v := V0_0) (by exact xr_move rfl e0) rfl rfl rfl ?_
      refine ol_val (v := .int .i64 (List.length a0 : Int)) (by exact xr_lenR rfl Try.underlying46 rfl (R0_0.gr fB)) rfl rfl rfl ?_
      refine ol_val (v := .bool (decide (s1.2 < (List.length a0 : Int)))) (by exact xr_lss rfl rfl rfl) rfl rfl rfl ?_
      refine ol_nil ?_
      rcases is h with ⟨c14, h⟩ | ⟨c14, h⟩
      · refine cw_condT rfl c14 ?_
        refine cw_skip ?_
        refine cw_seq ?_
        refine cw_block ?_
        refine cw_seq ?_
        refine cw_region ?_
        refine ol_val (v := .int .i64 0) (by exact xr_assign rfl rfl) rfl rfl rfl ?_
        refine ol_nil ?_
        obtain ⟨e16, l17, h18⟩ := bs h
        refine cw_mid (fun ρ' w' => ∃ v19 : Value, ∃ o20 : Own (kI .u8) 5 w' w.heap.size v19 e16, ρ' 0 = V0_0 ∧ ρ' 3 = v19 ∧ ρ' 4 = .int .i64 s1.2 ∧ Gr w w') ?_ ?_
        · refine cw_block ?_
          refine cw_round (fun (s15 : (List Int) × Int) ρ' w' => ∃ v22 : Value, ∃ o23 : Own (kI .u8) 5 w' w.heap.size v22 s15.1, ρ' 0 = V0_0 ∧ ρ' 3 = v22 ∧ ρ' 4 = .int .i64 s1.2 ∧ ρ' 5 = .int .i64 s15.2 ∧ Gr w w') l17 ?_ ?_
          · skip
            exact ⟨v8, o9, e0, e3, e4, rfl, fB⟩
          · rintro s15 x27 ρ25 w26 ⟨v22, o23, e0, e3, e4, e5, fB⟩ h
            unfold rickyardref05_Text.s2 at h
            refine cw_seq ?_
            refine cw_seq ?_
            refine cw_region ?_
            refine ol_val (v := .int .i64 s15.2) (by exact xr_move rfl e5) rfl rfl rfl ?_
            refine ol_val (v := .bool (decide (s15.2 < 8))) (by exact xr_lss rfl rfl rfl) rfl rfl rfl ?_
            refine ol_nil ?_
            rcases is h with ⟨c28, h⟩ | ⟨c28, h⟩
            · refine cw_condT rfl c28 ?_
              refine cw_skip ?_
              refine cw_seq ?_
              refine cw_block ?_
              refine cw_region ?_
              refine ol_val (v := v22) (by exact xr_move rfl e3) rfl rfl rfl ?_
              refine ol_val (v := V0_0) (by exact xr_move rfl e0) rfl rfl rfl ?_
              refine ol_val (v := .int .i64 s1.2) (by exact xr_move rfl e4) rfl rfl rfl ?_
              obtain ⟨g29, h⟩ := gs h
              refine ol_val (v := .pointer (some ⟨(sb V0_0), so V0_0 + Int.toNat s1.2 * 1, none⟩)) (by exact xr_indexR (K := (kI .u64)) (v := V0_0) rfl Try.underlying46 sz22 rfl (R0_0.gr fB) rfl g29.1 g29.2) rfl rfl rfl ?_
              refine ol_val (v := .int .u64 (ix a0 s1.2)) (by exact xr_load1 (v := .int .u64 (ix a0 s1.2)) rfl ag22 rfl ((R0_0.gr fB).elem g29.1 g29.2)) rfl rfl rfl ?_
              refine ol_val (v := .int .i64 s15.2) (by exact xr_move rfl e5) rfl rfl rfl ?_
              refine ol_val (v := .int .i64 (IntKind.i64.wrap (8 * s15.2))) (by exact xr_mul rfl rfl rfl) rfl rfl rfl ?_
              obtain ⟨g30, h⟩ := gs h
              refine ol_val (v := .int .u64 (shR .u64 (ix a0 s1.2) (IntKind.i64.wrap (8 * s15.2)))) (by exact xr_shr rfl rfl rfl g30) rfl rfl rfl ?_
              refine ol_val (v := .int .u8 (IntKind.u8.wrap (shR .u64 (ix a0 s1.2) (IntKind.i64.wrap (8 * s15.2))))) (by exact xr_conv rfl Try.underlying22 Try.underlying5 rfl) rfl rfl rfl ?_
              refine ol_op (by exact opv_buildSlice (K := (kI .u8)) (xs := [(IntKind.u8.wrap (shR .u64 (ix a0 s1.2) (IntKind.i64.wrap (8 * s15.2))))]) (vals := [.int .u8 (IntKind.u8.wrap (shR .u64 (ix a0 s1.2) (IntKind.i64.wrap (8 * s15.2))))]) rfl Try.underlying43 el5 rfl rfl ⟨rfl, rfl, trivial⟩ rfl rfl rfl fB.size) rfl rfl rfl ?_
              rintro v31 w36 ⟨o33, q32, z34⟩
              have a37 := OffV.new o23 z34
              have o23 := o23.gr q32
              have fB := fB.gr q32
              obtain ⟨g42, h⟩ := gs h
              have f44 := o23.geO
              refine ol_op (by exact opv_append (K := (kI .u8)) rfl Try.underlying43 el5 rfl rfl rfl rfl rfl o23 o33.rd g42 fB.size) rfl rfl rfl ?_
              rintro v38 w45 ⟨o39, q40, n41⟩
              have fB := fB.wrO q40 f44
              refine ol_val (v := v38) (by exact xr_assign rfl rfl) rfl rfl rfl ?_
              refine ol_nil ?_
              refine blk_i ?_
              refine cw_region ?_
              refine ol_val (v := .int .i64 s15.2) (by exact xr_move rfl e5) rfl rfl rfl ?_
              refine ol_val (v := .int .i64 (IntKind.i64.wrap (s15.2 + 1))) (by exact xr_add rfl rfl rfl) rfl rfl rfl ?_
              refine ol_val (v := .int .i64 (IntKind.i64.wrap (s15.2 + 1))) (by exact xr_assign rfl rfl) rfl rfl rfl ?_
              refine ol_nil ?_
              obtain rfl := Option.some.inj h
              refine lp_in ?_
              exact ⟨v38, o39, e0, rfl, e4, rfl, fB⟩
            · refine cw_condF rfl c28 ?_
              refine cw_exit ?_
              repeat (first | with_reducible refine thn_e ?_ | with_reducible refine blk_e rfl ?_)
              obtain rfl := Option.some.inj h
              refine lp_exit ?_
              rintro rfl
              refine thn_x ?_
              exact ⟨v22, o23, e0, e3, e4, fB⟩
        · rintro ρ46 w47 ⟨v19, o20, e0, e3, e4, fB⟩
          have h := h18
          refine blk_i ?_
          refine cw_region ?_
          refine ol_val (v := .int .i64 s1.2) (by exact xr_move rfl e4) rfl rfl rfl ?_
          refine ol_val (v := .int .i64 (IntKind.i64.wrap (s1.2 + 1))) (by exact xr_add rfl rfl rfl) rfl rfl rfl ?_
          refine ol_val (v := .int .i64 (IntKind.i64.wrap (s1.2 + 1))) (by exact xr_assign rfl rfl) rfl rfl rfl ?_
          refine ol_nil ?_
          obtain rfl := Option.some.inj h
          refine lp_in ?_
          exact ⟨v19, o20, e0, e3, rfl, fB⟩
      · refine cw_condF rfl c14 ?_
        refine cw_exit ?_
        repeat (first | with_reducible refine thn_e ?_ | with_reducible refine blk_e rfl ?_)
        obtain rfl := Option.some.inj h
        refine lp_exit ?_
        rintro rfl
        refine thn_x ?_
        exact ⟨v8, o9, e3, fB⟩
  · rintro ρ48 w49 ⟨v5, o6, e3, fB⟩
    have h := h4
    refine cw_seq ?_
    refine cw_region ?_
    refine ol_val (v := v5) (by exact xr_move rfl e3) rfl rfl rfl ?_
    refine ol_val (v := sv (List.map toB e2)) (by exact xr_toStr rfl Try.underlying43 Try.underlying5 Try.underlying9 rfl o6.rd) rfl rfl rfl ?_
    refine ol_val (v := sv (List.map toB e2)) (by exact xr_assign rfl rfl) rfl rfl rfl ?_
    refine ol_nil ?_
    refine cw_ret ?_
    repeat (first | with_reducible refine thn_r ?_ | with_reducible refine blk_r ?_)
    obtain rfl := Option.some.inj h
    refine fin_ret1 Try.results34 rfl ?_
    exact ⟨_, rfl, rfl, fB⟩
end Go.Proofs.Ytklhbaghbmndeaa

/- (*rickyard/pmem.Device).View$1: its model, and that the Go function computes it: written by gen.py. -/
set_option linter.unusedVariables false
namespace Go.Proofs.Ytklhbaghbmndeaa
open Go Go.Xw
def pmem_Device_View_1__r0.f (fu : Nat) (a0 : S_pmem_cell) : Option Int := some (a0.stored)
set_option maxRecDepth 100000 in
set_option maxHeartbeats 400000 in
theorem pmem_Device_View_1__r0.ok (fu : Nat) (w : World) (a0 : S_pmem_cell) (G_0 p_0 : Nat) (A_0 : At w G_0 p_0 (cellsOf [Seg.cell (.int .u64 a0.lasts), Seg.cell (.int .u64 a0.stored), Seg.cell (.int .u64 a0.sent), Seg.cell (.bool a0.flushed)])) (r : Int) (h : pmem_Device_View_1__r0.f fu a0 = some r) :
    Calls Try.prog 91 (([.pointer (some ⟨G_0, p_0, none⟩)] : List Value).toArray) w (fun e w' => ∃ v, e = .returned v ∧ v = .int .u64 r ∧ Gr w w') := by
  unfold pmem_Device_View_1__r0.f at h
  have fB : Gr w w := Fr.refl _ _
  refine calls_cw Try.func91 rfl Try.ntmps91 rfl ?_
  refine cw_seq ?_
  refine cw_region ?_
  refine ol_val (v := .int .u64 0) (by exact xr_assign rfl rfl) rfl rfl rfl ?_
  refine ol_nil ?_
  refine cw_seq ?_
  refine cw_region ?_
  refine ol_val (v := .pointer (some ⟨G_0, p_0, none⟩)) (by exact xr_move rfl rfl) rfl rfl rfl ?_
  refine ol_val (v := .pointer (some ⟨G_0, p_0, none⟩)) (by exact xr_nilCheck rfl rfl) rfl rfl rfl ?_
  refine ol_val (v := .pointer (some ⟨G_0, p_0 + 1, none⟩)) (by exact xr_fieldAddr (p := p_0) (q := 1) rfl fl142_1 rfl) rfl rfl rfl ?_
  refine ol_val (v := .int .u64 a0.stored) (by exact xr_load1 (v := .int .u64 a0.stored) rfl ag22 rfl (At.segs (ss := [Seg.cell (.int .u64 a0.lasts), Seg.cell (.int .u64 a0.stored), Seg.cell (.int .u64 a0.sent), Seg.cell (.bool a0.flushed)]) (At.gr A_0 fB) 1 1 rfl)) rfl rfl rfl ?_
  refine ol_val (v := .int .u64 a0.stored) (by exact xr_assign rfl rfl) rfl rfl rfl ?_
  refine ol_nil ?_
  refine cw_ret ?_
  repeat (first | with_reducible refine thn_r ?_ | with_reducible refine blk_r ?_)
  obtain rfl := Option.some.inj h
  refine fin_ret1 Try.results91 rfl ?_
  exact ⟨_, rfl, rfl, fB⟩
end Go.Proofs.Ytklhbaghbmndeaa

/- (*rickyard/pmem.Device).octets: its model, and that the Go function computes it: written by gen.py. -/
set_option linter.unusedVariables false
namespace Go.Proofs.Ytklhbaghbmndeaa
open Go Go.Xw
def pmem_Device_octets__pmem_Device_View_1.s0 (fu : Nat) (a0 : S_pmem_Device) : (Int × (List Int)) → Option (Sum (List Int) (Int × (List Int))) := fun s11 => (if (decide (s11.1 < (List.length a0.cells : Int))) = true then (if 0 ≤ s11.1 ∧ s11.1 < (List.length a0.cells : Int) then ((pmem_Device_View_1__r0.f fu (ix a0.cells s11.1) : Option Int).bind fun t20 => (if 0 ≤ s11.1 ∧ s11.1 < (List.length s11.2 : Int) then some (Sum.inr ((IntKind.i64.wrap (s11.1 + 1)), (List.set s11.2 (Int.toNat s11.1) t20))) else none)) else none) else some (Sum.inl (s11.2)))
def pmem_Device_octets__pmem_Device_View_1.f (fu : Nat) (a0 : S_pmem_Device) : Option (List Int) := (if 0 ≤ (List.length a0.cells : Int) ∧ Int.toNat (List.length a0.cells : Int) ≤ LIM then ((loopM (pmem_Device_octets__pmem_Device_View_1.s0 fu a0) fu (0, (List.replicate (Int.toNat (List.length a0.cells : Int)) (0 : Int)))).bind fun e12 => ((octet_Octets.f fu e12 : Option (List Int)).bind fun t31 => some (t31))) else none)
set_option maxRecDepth 100000 in
set_option maxHeartbeats 400000 in
theorem pmem_Device_octets__pmem_Device_View_1.ok (fu : Nat) (w : World) (a0 : S_pmem_Device) (G_0 : Nat) (V0_0 : Value) (R0_0 : Rd k_pmem_cell w V0_0 a0.cells) (V0_1 : Value) (R0_1 : Rd (kI .i64) w V0_1 a0.plan.list) (b_0 : Blk w G_0 139 [Seg.cell V0_0 R0_0.one, Seg.cell V0_1 R0_1.one, Seg.cell (.int .i64 a0.plan.at_), Seg.cell (.bool a0.off), Seg.cell (.bool a0.armed), Seg.cell (.int .i64 a0.left), Seg.cell (.int .i64 a0.steps)]) (r : (List Int)) (h : pmem_Device_octets__pmem_Device_View_1.f fu a0 = some r) :
    Calls Try.prog 88 (([.pointer (some ⟨G_0, 0, none⟩), Value.func (.func 91) #[] #[]] : List Value).toArray) w (fun e w' => ∃ v, e = .returned v ∧ ∃ u1 : Value, ∃ o2 : Own (kI .u8) 5 w' w.heap.size u1 r, v = u1 ∧ Gr w w') := by
  unfold pmem_Device_octets__pmem_Device_View_1.f at h
  have fB : Gr w w := Fr.refl _ _
  refine calls_cw Try.func88 rfl Try.ntmps88 rfl ?_
  refine cw_seq ?_
  refine cw_region ?_
  refine ol_val (v := .slice none 0 0) (by exact xr_assign rfl rfl) rfl rfl rfl ?_
  refine ol_nil ?_
  refine cw_seq ?_
  refine cw_region ?_
  refine ol_val (v := .pointer (some ⟨G_0, 0, none⟩)) (by exact xr_move rfl rfl) rfl rfl rfl ?_
  refine ol_val (v := .pointer (some ⟨G_0, 0, none⟩)) (by exact xr_nilCheck rfl rfl) rfl rfl rfl ?_
  refine ol_val (v := .pointer (some ⟨G_0, 0, none⟩)) (by exact xr_fieldAddr (p := 0) (q := 0) rfl fl139_0 rfl) rfl rfl rfl ?_
  refine ol_val (v := V0_0) (by exact xr_load1 (v := V0_0) rfl ag135 rfl (b_0.seg 0 rfl rfl)) rfl rfl rfl ?_
  refine ol_val (v := .int .i64 (List.length a0.cells : Int)) (by exact xr_lenR rfl Try.underlying135 rfl (R0_0.gr fB)) rfl rfl rfl ?_
  obtain ⟨g4, h⟩ := gs h
  refine ol_op (by exact opv_make (K := (kI .u64)) (z := (0 : Int)) rfl Try.underlying46 el22 rfl rfl rfl g4.1 g4.2 rfl fB.size) rfl rfl rfl ?_
  rintro v5 w10 ⟨o7, q6, z8⟩
  have b_0 := b_0.gr q6
  have fB := fB.gr q6
  refine ol_val (v := v5) (by exact xr_assign rfl rfl) rfl rfl rfl ?_
  refine ol_nil ?_
  refine cw_seq ?_
  refine cw_seq ?_
  refine cw_region ?_
  refine ol_val (v := .pointer (some ⟨G_0, 0, none⟩)) (by exact xr_move rfl rfl) rfl rfl rfl ?_
  refine ol_val (v := .pointer (some ⟨G_0, 0, none⟩)) (by exact xr_nilCheck rfl rfl) rfl rfl rfl ?_
  refine ol_val (v := .pointer (some ⟨G_0, 0, none⟩)) (by exact xr_fieldAddr (p := 0) (q := 0) rfl fl139_0 rfl) rfl rfl rfl ?_
  refine ol_val (v := V0_0) (by exact xr_load1 (v := V0_0) rfl ag135 rfl (b_0.seg 0 rfl rfl)) rfl rfl rfl ?_
  refine ol_val (v := .int .i64 (List.length a0.cells : Int)) (by exact xr_lenR rfl Try.underlying135 rfl (R0_0.gr fB)) rfl rfl rfl ?_
  refine ol_val (v := .int .i64 0) (by exact xr_move rfl rfl) rfl rfl rfl ?_
  refine ol_nil ?_
  obtain ⟨e12, l13, h14⟩ := bs h
  refine cw_mid (fun ρ' w' => ∃ o7 : Own (kI .u64) 22 w' w.heap.size v5 e12, ρ' 5 = v5 ∧ Blk w' G_0 139 [Seg.cell V0_0 R0_0.one, Seg.cell V0_1 R0_1.one, Seg.cell (.int .i64 a0.plan.at_), Seg.cell (.bool a0.off), Seg.cell (.bool a0.armed), Seg.cell (.int .i64 a0.left), Seg.cell (.int .i64 a0.steps)] ∧ Gr w w') ?_ ?_
  · refine cw_block ?_
    refine cw_round (fun (s11 : Int × (List Int)) ρ' w' => ∃ o7 : Own (kI .u64) 22 w' w.heap.size v5 s11.2, ρ' 0 = .pointer (some ⟨G_0, 0, none⟩) ∧ ρ' 1 = Value.func (.func 91) #[] #[] ∧ ρ' 5 = v5 ∧ ρ' 17 = .int .i64 (List.length a0.cells : Int) ∧ ρ' 18 = .int .i64 s11.1 ∧ Blk w' G_0 139 [Seg.cell V0_0 R0_0.one, Seg.cell V0_1 R0_1.one, Seg.cell (.int .i64 a0.plan.at_), Seg.cell (.bool a0.off), Seg.cell (.bool a0.armed), Seg.cell (.int .i64 a0.left), Seg.cell (.int .i64 a0.steps)] ∧ Gr w w') l13 ?_ ?_
    · skip
      exact ⟨o7, rfl, rfl, rfl, rfl, rfl, b_0, fB⟩
    · rintro s11 x17 ρ15 w16 ⟨o7, e0, e1, e5, e17, e18, b_0, fB⟩ h
      unfold pmem_Device_octets__pmem_Device_View_1.s0 at h
      refine cw_seq ?_
      refine cw_region ?_
      refine ol_val (v := .bool (decide (s11.1 < (List.length a0.cells : Int)))) (by exact xr_lss rfl e18 e17) rfl rfl rfl ?_
      refine ol_nil ?_
      refine cw_seq ?_
      rcases is h with ⟨c18, h⟩ | ⟨c18, h⟩
      · refine cw_condT rfl c18 ?_
        refine cw_skip ?_
        refine cw_seq ?_
        refine cw_block ?_
        refine cw_seq ?_
        refine cw_region ?_
        refine ol_val (v := .int .i64 s11.1) (by exact xr_move rfl e18) rfl rfl rfl ?_
        refine ol_val (v := .int .i64 s11.1) (by exact xr_assign rfl rfl) rfl rfl rfl ?_
        refine ol_nil ?_
        refine cw_region ?_
        refine ol_val (v := v5) (by exact xr_move rfl e5) rfl rfl rfl ?_
        refine ol_val (v := .int .i64 s11.1) (by exact xr_move rfl rfl) rfl rfl rfl ?_
        refine ol_val (v := Value.func (.func 91) #[] #[]) (by exact xr_move rfl e1) rfl rfl rfl ?_
        refine ol_val (v := .pointer (some ⟨G_0, 0, none⟩)) (by exact xr_move rfl e0) rfl rfl rfl ?_
        refine ol_val (v := .pointer (some ⟨G_0, 0, none⟩)) (by exact xr_nilCheck rfl rfl) rfl rfl rfl ?_
        refine ol_val (v := .pointer (some ⟨G_0, 0, none⟩)) (by exact xr_fieldAddr (p := 0) (q := 0) rfl fl139_0 rfl) rfl rfl rfl ?_
        refine ol_val (v := V0_0) (by exact xr_load1 (v := V0_0) rfl ag135 rfl (b_0.seg 0 rfl rfl)) rfl rfl rfl ?_
        refine ol_val (v := .int .i64 s11.1) (by exact xr_move rfl rfl) rfl rfl rfl ?_
        obtain ⟨g19, h⟩ := gs h
        refine ol_val (v := .pointer (some ⟨(sb V0_0), so V0_0 + Int.toNat s11.1 * 4, none⟩)) (by exact xr_indexR (K := k_pmem_cell) (v := V0_0) rfl Try.underlying135 sz142 rfl (R0_0.gr fB) rfl g19.1 g19.2) rfl rfl rfl ?_
        obtain ⟨t20, k21, h⟩ := bs h
        refine ol_op (by exact opv_callV (C := []) rfl rfl cal91 (ac rfl an) (pmem_Device_View_1__r0.ok fu _ (ix a0.cells s11.1) (sb V0_0) (so V0_0 + Int.toNat s11.1 * 4) (show At _ _ _ (cellsOf [Seg.cell (.int .u64 ((ix a0.cells s11.1).lasts)), Seg.cell (.int .u64 ((ix a0.cells s11.1).stored)), Seg.cell (.int .u64 ((ix a0.cells s11.1).sent)), Seg.cell (.bool ((ix a0.cells s11.1).flushed))]) from ((R0_0.gr fB).elem g19.1 g19.2)) _ k21)) rfl rfl rfl ?_
        rintro _ w23 ⟨rfl, q22⟩
        have b_0 := b_0.gr q22
        have o7 := o7.gr q22
        have fB := fB.gr q22
        obtain ⟨g24, h⟩ := gs h
        refine ol_val (v := .pointer (some ⟨(sb v5), so v5 + Int.toNat s11.1 * 1, none⟩)) (by exact xr_indexR (K := (kI .u64)) (v := v5) rfl Try.underlying46 sz22 rfl o7.rd rfl g24.1 g24.2) rfl rfl rfl ?_
        have f26 := off_ty b_0 o7 (by decide)
        have f27 := o7.geO
        refine ol_op0 (by exact opv_storeRow (z := t20) (xs := cellsOf [Seg.cell (.int .u64 t20)]) rfl sz22 rfl rfl rfl (len_cellsOf _) (one_cellsOf _) o7 g24.1 g24.2 (Spl.whole ((Kd.len _ _).trans (Kd.len _ _).symm)) rfl) rfl rfl ?_
        rintro _ w28 ⟨o7, q25⟩
        have b_0 := b_0.wrO q25 f26
        have fB := fB.wrO q25 f27
        refine ol_nil ?_
        refine blk_i ?_
        refine cw_region ?_
        refine ol_val (v := .int .i64 (IntKind.i64.wrap (s11.1 + 1))) (by exact xr_add rfl e18 rfl) rfl rfl rfl ?_
        refine ol_val (v := .int .i64 (IntKind.i64.wrap (s11.1 + 1))) (by exact xr_move rfl rfl) rfl rfl rfl ?_
        refine ol_nil ?_
        obtain rfl := Option.some.inj h
        refine lp_in ?_
        exact ⟨o7, e0, e1, e5, e17, rfl, b_0, fB⟩
      · refine cw_condF rfl c18 ?_
        refine cw_exit ?_
        repeat (first | with_reducible refine thn_e ?_ | with_reducible refine blk_e rfl ?_)
        obtain rfl := Option.some.inj h
        refine lp_exit ?_
        rintro rfl
        refine thn_x ?_
        exact ⟨o7, e5, b_0, fB⟩
  · rintro ρ29 w30 ⟨o7, e5, b_0, fB⟩
    have h := h14
    refine cw_seq ?_
    refine cw_region ?_
    refine ol_val (v := v5) (by exact xr_move rfl e5) rfl rfl rfl ?_
    obtain ⟨t31, k32, h⟩ := bs h
    refine ol_op (by exact opv_call rfl cal104 (ac rfl an) (octet_Octets.ok fu _ e12 v5 (o7.rd) _ k32)) rfl rfl rfl ?_
    rintro u33 w37 ⟨_, o34, rfl, q36⟩
    have o34 := Own.base o34 fB.size
    have b_0 := b_0.gr q36
    have fB := fB.gr q36
    refine ol_val (v := u33) (by exact xr_assign rfl rfl) rfl rfl rfl ?_
    refine ol_nil ?_
    refine cw_ret ?_
    repeat (first | with_reducible refine thn_r ?_ | with_reducible refine blk_r ?_)
    obtain rfl := Option.some.inj h
    refine fin_ret1 Try.results88 rfl ?_
    exact ⟨_, rfl, u33, o34, rfl, fB⟩
end Go.Proofs.Ytklhbaghbmndeaa

/- (*rickyard/pmem.Device).View: its model, and that the Go function computes it: written by gen.py. -/
set_option linter.unusedVariables false
namespace Go.Proofs.Ytklhbaghbmndeaa
open Go Go.Xw
def pmem_Device_View.f (fu : Nat) (a0 : S_pmem_Device) : Option (List Int) := ((pmem_Device_octets__pmem_Device_View_1.f fu a0 : Option (List Int)).bind fun t4 => some (t4))
set_option maxRecDepth 100000 in
set_option maxHeartbeats 400000 in
theorem pmem_Device_View.ok (fu : Nat) (w : World) (a0 : S_pmem_Device) (G_0 : Nat) (V0_0 : Value) (R0_0 : Rd k_pmem_cell w V0_0 a0.cells) (V0_1 : Value) (R0_1 : Rd (kI .i64) w V0_1 a0.plan.list) (b_0 : Blk w G_0 139 [Seg.cell V0_0 R0_0.one, Seg.cell V0_1 R0_1.one, Seg.cell (.int .i64 a0.plan.at_), Seg.cell (.bool a0.off), Seg.cell (.bool a0.armed), Seg.cell (.int .i64 a0.left), Seg.cell (.int .i64 a0.steps)]) (r : (List Int)) (h : pmem_Device_View.f fu a0 = some r) :
    Calls Try.prog 36 (([.pointer (some ⟨G_0, 0, none⟩)] : List Value).toArray) w (fun e w' => ∃ v, e = .returned v ∧ ∃ u1 : Value, ∃ o2 : Own (kI .u8) 5 w' w.heap.size u1 r, v = u1 ∧ Gr w w') := by
  unfold pmem_Device_View.f at h
  have fB : Gr w w := Fr.refl _ _
  refine calls_cw Try.func36 rfl Try.ntmps36 rfl ?_
  refine cw_seq ?_
  refine cw_region ?_
  refine ol_val (v := .slice none 0 0) (by exact xr_assign rfl rfl) rfl rfl rfl ?_
  refine ol_nil ?_
  refine cw_seq ?_
  refine cw_region ?_
  refine ol_val (v := .pointer (some ⟨G_0, 0, none⟩)) (by exact xr_move rfl rfl) rfl rfl rfl ?_
  obtain ⟨t4, k5, h⟩ := bs h
  refine ol_op (by exact opv_call rfl cal88 (ac rfl (ac rfl an)) (pmem_Device_octets__pmem_Device_View_1.ok fu _ a0 G_0 V0_0 (R0_0.gr fB) V0_1 (R0_1.gr fB) b_0 _ k5)) rfl rfl rfl ?_
  rintro u6 w10 ⟨_, o7, rfl, q9⟩
  have o7 := Own.base o7 fB.size
  have b_0 := b_0.gr q9
  have fB := fB.gr q9
  refine ol_val (v := u6) (by exact xr_assign rfl rfl) rfl rfl rfl ?_
  refine ol_nil ?_
  refine cw_ret ?_
  repeat (first | with_reducible refine thn_r ?_ | with_reducible refine blk_r ?_)
  obtain rfl := Option.some.inj h
  refine fin_ret1 Try.results36 rfl ?_
  exact ⟨_, rfl, u6, o7, rfl, fB⟩
end Go.Proofs.Ytklhbaghbmndeaa

/- (*rickyard/pmem.Device).Steps: its model, and that the Go function computes it: written by gen.py. -/
set_option linter.unusedVariables false
namespace Go.Proofs.Ytklhbaghbmndeaa
open Go Go.Xw
def pmem_Device_Steps.f (fu : Nat) (a0 : S_pmem_Device) : Option Int := some (a0.steps)
set_option maxRecDepth 100000 in
set_option maxHeartbeats 400000 in
theorem pmem_Device_Steps.ok (fu : Nat) (w : World) (a0 : S_pmem_Device) (G_0 : Nat) (V0_0 : Value) (R0_0 : Rd k_pmem_cell w V0_0 a0.cells) (V0_1 : Value) (R0_1 : Rd (kI .i64) w V0_1 a0.plan.list) (b_0 : Blk w G_0 139 [Seg.cell V0_0 R0_0.one, Seg.cell V0_1 R0_1.one, Seg.cell (.int .i64 a0.plan.at_), Seg.cell (.bool a0.off), Seg.cell (.bool a0.armed), Seg.cell (.int .i64 a0.left), Seg.cell (.int .i64 a0.steps)]) (r : Int) (h : pmem_Device_Steps.f fu a0 = some r) :
    Calls Try.prog 37 (([.pointer (some ⟨G_0, 0, none⟩)] : List Value).toArray) w (fun e w' => ∃ v, e = .returned v ∧ v = .int .i64 r ∧ Gr w w') := by
  unfold pmem_Device_Steps.f at h
  have fB : Gr w w := Fr.refl _ _
  refine calls_cw Try.func37 rfl Try.ntmps37 rfl ?_
  refine cw_seq ?_
  refine cw_region ?_
  refine ol_val (v := .int .i64 0) (by exact xr_assign rfl rfl) rfl rfl rfl ?_
  refine ol_nil ?_
  refine cw_seq ?_
  refine cw_region ?_
  refine ol_val (v := .pointer (some ⟨G_0, 0, none⟩)) (by exact xr_move rfl rfl) rfl rfl rfl ?_
  refine ol_val (v := .pointer (some ⟨G_0, 0, none⟩)) (by exact xr_nilCheck rfl rfl) rfl rfl rfl ?_
  refine ol_val (v := .pointer (some ⟨G_0, 6, none⟩)) (by exact xr_fieldAddr (p := 0) (q := 6) rfl fl139_5 rfl) rfl rfl rfl ?_
  refine ol_val (v := .int .i64 a0.steps) (by exact xr_load1 (v := .int .i64 a0.steps) rfl ag3 rfl (b_0.seg 6 rfl rfl)) rfl rfl rfl ?_
  refine ol_val (v := .int .i64 a0.steps) (by exact xr_assign rfl rfl) rfl rfl rfl ?_
  refine ol_nil ?_
  refine cw_ret ?_
  repeat (first | with_reducible refine thn_r ?_ | with_reducible refine blk_r ?_)
  obtain rfl := Option.some.inj h
  refine fin_ret1 Try.results37 rfl ?_
  exact ⟨_, rfl, rfl, fB⟩
end Go.Proofs.Ytklhbaghbmndeaa

/- (*rickyard/pmem.Device).Up: its model, and that the Go function computes it: written by gen.py. -/
set_option linter.unusedVariables false
namespace Go.Proofs.Ytklhbaghbmndeaa
open Go Go.Xw
def pmem_Device_Up.f (fu : Nat) (a0 : S_pmem_Device) : Option Bool := some ((!a0.off))
set_option maxRecDepth 100000 in
set_option maxHeartbeats 400000 in
theorem pmem_Device_Up.ok (fu : Nat) (w : World) (a0 : S_pmem_Device) (G_0 : Nat) (V0_0 : Value) (R0_0 : Rd k_pmem_cell w V0_0 a0.cells) (V0_1 : Value) (R0_1 : Rd (kI .i64) w V0_1 a0.plan.list) (b_0 : Blk w G_0 139 [Seg.cell V0_0 R0_0.one, Seg.cell V0_1 R0_1.one, Seg.cell (.int .i64 a0.plan.at_), Seg.cell (.bool a0.off), Seg.cell (.bool a0.armed), Seg.cell (.int .i64 a0.left), Seg.cell (.int .i64 a0.steps)]) (r : Bool) (h : pmem_Device_Up.f fu a0 = some r) :
    Calls Try.prog 39 (([.pointer (some ⟨G_0, 0, none⟩)] : List Value).toArray) w (fun e w' => ∃ v, e = .returned v ∧ v = .bool r ∧ Gr w w') := by
  unfold pmem_Device_Up.f at h
  have fB : Gr w w := Fr.refl _ _
  refine calls_cw Try.func39 rfl Try.ntmps39 rfl ?_
  refine cw_seq ?_
  refine cw_region ?_
  refine ol_val (v := .bool false) (by exact xr_assign rfl rfl) rfl rfl rfl ?_
  refine ol_nil ?_
  refine cw_seq ?_
  refine cw_region ?_
  refine ol_val (v := .pointer (some ⟨G_0, 0, none⟩)) (by exact xr_move rfl rfl) rfl rfl rfl ?_
  refine ol_val (v := .pointer (some ⟨G_0, 0, none⟩)) (by exact xr_nilCheck rfl rfl) rfl rfl rfl ?_
  refine ol_val (v := .pointer (some ⟨G_0, 3, none⟩)) (by exact xr_fieldAddr (p := 0) (q := 3) rfl fl139_2 rfl) rfl rfl rfl ?_
  refine ol_val (v := .bool a0.off) (by exact xr_load1 (v := .bool a0.off) rfl ag4 rfl (b_0.seg 3 rfl rfl)) rfl rfl rfl ?_
  refine ol_val (v := .bool (!a0.off)) (by exact xr_not rfl rfl) rfl rfl rfl ?_
  refine ol_val (v := .bool (!a0.off)) (by exact xr_assign rfl rfl) rfl rfl rfl ?_
  refine ol_nil ?_
  refine cw_ret ?_
  repeat (first | with_reducible refine thn_r ?_ | with_reducible refine blk_r ?_)
  obtain rfl := Option.some.inj h
  refine fin_ret1 Try.results39 rfl ?_
  exact ⟨_, rfl, rfl, fB⟩
end Go.Proofs.Ytklhbaghbmndeaa

/- (*rickyard/pmem.Device).Fates: its model, and that the Go function computes it: written by gen.py. -/
set_option linter.unusedVariables false
namespace Go.Proofs.Ytklhbaghbmndeaa
open Go Go.Xw
def pmem_Device_Fates.s0 (fu : Nat) (a0 : S_pmem_Device) : ((List S_api_Fate) × Int) → Option (Sum (List S_api_Fate) ((List S_api_Fate) × Int)) := fun s4 => (if (decide (s4.2 < (List.length a0.cells : Int))) = true then (if 0 ≤ s4.2 ∧ s4.2 < (List.length a0.cells : Int) then ((pmem_cell_open__r0.f fu (ix a0.cells s4.2) : Option Bool).bind fun t19 => (((if t19 = true then (if List.length s4.1 + List.length [(⟨s4.2, (ix a0.cells s4.2).lasts, (ix a0.cells s4.2).flushed, (ix a0.cells s4.2).sent, (ix a0.cells s4.2).stored⟩ : S_api_Fate)] ≤ LIM then some ((s4.1 ++ [(⟨s4.2, (ix a0.cells s4.2).lasts, (ix a0.cells s4.2).flushed, (ix a0.cells s4.2).sent, (ix a0.cells s4.2).stored⟩ : S_api_Fate)])) else none) else some (s4.1)) : Option (List S_api_Fate)).bind fun x23 => some (Sum.inr (x23, (IntKind.i64.wrap (s4.2 + 1)))))) else none) else some (Sum.inl (s4.1)))
def pmem_Device_Fates.f (fu : Nat) (a0 : S_pmem_Device) : Option (List S_api_Fate) := ((loopM (pmem_Device_Fates.s0 fu a0) fu ([], 0)).bind fun e5 => some (e5))
set_option maxRecDepth 100000 in
set_option maxHeartbeats 400000 in
theorem pmem_Device_Fates.ok (fu : Nat) (w : World) (a0 : S_pmem_Device) (G_0 : Nat) (V0_0 : Value) (R0_0 : Rd k_pmem_cell w V0_0 a0.cells) (V0_1 : Value) (R0_1 : Rd (kI .i64) w V0_1 a0.plan.list) (b_0 : Blk w G_0 139 [Seg.cell V0_0 R0_0.one, Seg.cell V0_1 R0_1.one, Seg.cell (.int .i64 a0.plan.at_), Seg.cell (.bool a0.off), Seg.cell (.bool a0.armed), Seg.cell (.int .i64 a0.left), Seg.cell (.int .i64 a0.steps)]) (r : (List S_api_Fate)) (h : pmem_Device_Fates.f fu a0 = some r) :
    Calls Try.prog 40 (([.pointer (some ⟨G_0, 0, none⟩)] : List Value).toArray) w (fun e w' => ∃ v, e = .returned v ∧ ∃ u1 : Value, ∃ o2 : Own k_api_Fate 55 w' w.heap.size u1 r, v = u1 ∧ Gr w w') := by
  unfold pmem_Device_Fates.f at h
  have fB : Gr w w := Fr.refl _ _
  refine calls_cw Try.func40 rfl Try.ntmps40 rfl ?_
  refine cw_seq ?_
  refine cw_region ?_
  refine ol_val (v := .slice none 0 0) (by exact xr_assign rfl rfl) rfl rfl rfl ?_
  refine ol_nil ?_
  refine cw_seq ?_
  refine cw_region ?_
  refine ol_val (v := .slice none 0 0) (by exact xr_assign rfl rfl) rfl rfl rfl ?_
  refine ol_nil ?_
  refine cw_seq ?_
  refine cw_seq ?_
  refine cw_region ?_
  refine ol_val (v := .pointer (some ⟨G_0, 0, none⟩)) (by exact xr_move rfl rfl) rfl rfl rfl ?_
  refine ol_val (v := .pointer (some ⟨G_0, 0, none⟩)) (by exact xr_nilCheck rfl rfl) rfl rfl rfl ?_
  refine ol_val (v := .pointer (some ⟨G_0, 0, none⟩)) (by exact xr_fieldAddr (p := 0) (q := 0) rfl fl139_0 rfl) rfl rfl rfl ?_
  refine ol_val (v := V0_0) (by exact xr_load1 (v := V0_0) rfl ag135 rfl (b_0.seg 0 rfl rfl)) rfl rfl rfl ?_
  refine ol_val (v := .int .i64 (List.length a0.cells : Int)) (by exact xr_lenR rfl Try.underlying135 rfl (R0_0.gr fB)) rfl rfl rfl ?_
  refine ol_val (v := .int .i64 0) (by exact xr_move rfl rfl) rfl rfl rfl ?_
  refine ol_nil ?_
  obtain ⟨e5, l6, h7⟩ := bs h
  refine cw_mid (fun ρ' w' => ∃ v8 : Value, ∃ o9 : Own k_api_Fate 55 w' w.heap.size v8 e5, ρ' 3 = v8 ∧ Blk w' G_0 139 [Seg.cell V0_0 R0_0.one, Seg.cell V0_1 R0_1.one, Seg.cell (.int .i64 a0.plan.at_), Seg.cell (.bool a0.off), Seg.cell (.bool a0.armed), Seg.cell (.int .i64 a0.left), Seg.cell (.int .i64 a0.steps)] ∧ Gr w w') ?_ ?_
  · refine cw_block ?_
    refine cw_round (fun (s4 : (List S_api_Fate) × Int) ρ' w' => ∃ v11 : Value, ∃ o12 : Own k_api_Fate 55 w' w.heap.size v11 s4.1, ρ' 0 = .pointer (some ⟨G_0, 0, none⟩) ∧ ρ' 3 = v11 ∧ ρ' 10 = .int .i64 (List.length a0.cells : Int) ∧ ρ' 11 = .int .i64 s4.2 ∧ Blk w' G_0 139 [Seg.cell V0_0 R0_0.one, Seg.cell V0_1 R0_1.one, Seg.cell (.int .i64 a0.plan.at_), Seg.cell (.bool a0.off), Seg.cell (.bool a0.armed), Seg.cell (.int .i64 a0.left), Seg.cell (.int .i64 a0.steps)] ∧ Gr w w') l6 ?_ ?_
    · skip
      exact ⟨(.slice none 0 0), Own.nil _ _ _ _, rfl, rfl, rfl, rfl, b_0, fB⟩
    · rintro s4 x16 ρ14 w15 ⟨v11, o12, e0, e3, e10, e11, b_0, fB⟩ h
      unfold pmem_Device_Fates.s0 at h
      refine cw_seq ?_
      refine cw_region ?_
      refine ol_val (v := .bool (decide (s4.2 < (List.length a0.cells : Int)))) (by exact xr_lss rfl e11 e10) rfl rfl rfl ?_
      refine ol_nil ?_
      refine cw_seq ?_
      rcases is h with ⟨c17, h⟩ | ⟨c17, h⟩
      · refine cw_condT rfl c17 ?_
        refine cw_skip ?_
        refine cw_seq ?_
        refine cw_block ?_
        refine cw_seq ?_
        refine cw_region ?_
        refine ol_val (v := .int .i64 s4.2) (by exact xr_move rfl e11) rfl rfl rfl ?_
        refine ol_val (v := .int .i64 s4.2) (by exact xr_assign rfl rfl) rfl rfl rfl ?_
        refine ol_nil ?_
        refine cw_seq ?_
        refine cw_region ?_
        refine ol_val (v := .pointer (some ⟨G_0, 0, none⟩)) (by exact xr_move rfl e0) rfl rfl rfl ?_
        refine ol_val (v := .pointer (some ⟨G_0, 0, none⟩)) (by exact xr_nilCheck rfl rfl) rfl rfl rfl ?_
        refine ol_val (v := .pointer (some ⟨G_0, 0, none⟩)) (by exact xr_fieldAddr (p := 0) (q := 0) rfl fl139_0 rfl) rfl rfl rfl ?_
        refine ol_val (v := V0_0) (by exact xr_load1 (v := V0_0) rfl ag135 rfl (b_0.seg 0 rfl rfl)) rfl rfl rfl ?_
        refine ol_val (v := .int .i64 s4.2) (by exact xr_move rfl rfl) rfl rfl rfl ?_
        obtain ⟨g18, h⟩ := gs h
        refine ol_val (v := .pointer (some ⟨(sb V0_0), so V0_0 + Int.toNat s4.2 * 4, none⟩)) (by exact xr_indexR (K := k_pmem_cell) (v := V0_0) rfl Try.underlying135 sz142 rfl (R0_0.gr fB) rfl g18.1 g18.2) rfl rfl rfl ?_
        refine ol_val (v := .pointer (some ⟨(sb V0_0), so V0_0 + Int.toNat s4.2 * 4, none⟩)) (by exact xr_assign rfl rfl) rfl rfl rfl ?_
        refine ol_nil ?_
        refine cw_seq ?_
        refine cw_region ?_
        refine ol_val (v := .pointer (some ⟨(sb V0_0), so V0_0 + Int.toNat s4.2 * 4, none⟩)) (by exact xr_move rfl rfl) rfl rfl rfl ?_
        obtain ⟨t19, k20, h⟩ := bs h
        refine ol_op (by exact opv_call rfl cal86 (ac rfl an) (pmem_cell_open__r0.ok fu _ (ix a0.cells s4.2) (sb V0_0) (so V0_0 + Int.toNat s4.2 * 4) (show At _ _ _ (cellsOf [Seg.cell (.int .u64 ((ix a0.cells s4.2).lasts)), Seg.cell (.int .u64 ((ix a0.cells s4.2).stored)), Seg.cell (.int .u64 ((ix a0.cells s4.2).sent)), Seg.cell (.bool ((ix a0.cells s4.2).flushed))]) from ((R0_0.gr fB).elem g18.1 g18.2)) _ k20)) rfl rfl rfl ?_
        rintro _ w22 ⟨rfl, q21⟩
        have b_0 := b_0.gr q21
        have o12 := o12.gr q21
        have fB := fB.gr q21
        refine ol_nil ?_
        obtain ⟨x23, j24, h25⟩ := bs h
        refine cw_mid (fun ρ' w' => ∃ v26 : Value, ∃ o27 : Own k_api_Fate 55 w' w.heap.size v26 x23, ρ' 0 = .pointer (some ⟨G_0, 0, none⟩) ∧ ρ' 3 = v26 ∧ ρ' 10 = .int .i64 (List.length a0.cells : Int) ∧ ρ' 11 = .int .i64 s4.2 ∧ Blk w' G_0 139 [Seg.cell V0_0 R0_0.one, Seg.cell V0_1 R0_1.one, Seg.cell (.int .i64 a0.plan.at_), Seg.cell (.bool a0.off), Seg.cell (.bool a0.armed), Seg.cell (.int .i64 a0.left), Seg.cell (.int .i64 a0.steps)] ∧ Gr w w') ?_ ?_
        · have h := j24
          rcases is h with ⟨c29, h⟩ | ⟨c29, h⟩
          · refine cw_condT rfl c29 ?_
            refine cw_drawL 20 [fun vz wz => vz = (v11 : Value), fun vz wz => vz = (.int .i64 s4.2 : Value), fun vz wz => vz = (.pointer (some ⟨(sb V0_0), so V0_0 + Int.toNat s4.2 * 4, none⟩) : Value), fun vz wz => vz = (.pointer (some ⟨(sb V0_0), so V0_0 + Int.toNat s4.2 * 4, none⟩) : Value), fun vz wz => vz = (.pointer (some ⟨(sb V0_0), so V0_0 + Int.toNat s4.2 * 4 + 0, none⟩) : Value), fun vz wz => vz = (.int .u64 ((ix a0.cells s4.2).lasts) : Value), fun vz wz => vz = (.pointer (some ⟨(sb V0_0), so V0_0 + Int.toNat s4.2 * 4, none⟩) : Value), fun vz wz => vz = (.pointer (some ⟨(sb V0_0), so V0_0 + Int.toNat s4.2 * 4, none⟩) : Value), fun vz wz => vz = (.pointer (some ⟨(sb V0_0), so V0_0 + Int.toNat s4.2 * 4 + 3, none⟩) : Value), fun vz wz => vz = (.bool ((ix a0.cells s4.2).flushed) : Value), fun vz wz => vz = (.pointer (some ⟨(sb V0_0), so V0_0 + Int.toNat s4.2 * 4, none⟩) : Value), fun vz wz => vz = (.pointer (some ⟨(sb V0_0), so V0_0 + Int.toNat s4.2 * 4, none⟩) : Value), fun vz wz => vz = (.pointer (some ⟨(sb V0_0), so V0_0 + Int.toNat s4.2 * 4 + 2, none⟩) : Value), fun vz wz => vz = (.int .u64 ((ix a0.cells s4.2).sent) : Value), fun vz wz => vz = (.pointer (some ⟨(sb V0_0), so V0_0 + Int.toNat s4.2 * 4, none⟩) : Value), fun vz wz => vz = (.pointer (some ⟨(sb V0_0), so V0_0 + Int.toNat s4.2 * 4, none⟩) : Value), fun vz wz => vz = (.pointer (some ⟨(sb V0_0), so V0_0 + Int.toNat s4.2 * 4 + 1, none⟩) : Value), fun vz wz => vz = (.int .u64 ((ix a0.cells s4.2).stored) : Value), fun vz wz => vz = (aggV [Seg.cell (.int .i64 s4.2), Seg.cell (.int .u64 ((ix a0.cells s4.2).lasts)), Seg.cell (.bool ((ix a0.cells s4.2).flushed)), Seg.cell (.int .u64 ((ix a0.cells s4.2).sent)), Seg.cell (.int .u64 ((ix a0.cells s4.2).stored))] : Value), fun vz wz => ∃ v30 : Value, ∃ o32 : Own k_api_Fate 55 wz w.heap.size v30 [(⟨s4.2, (ix a0.cells s4.2).lasts, (ix a0.cells s4.2).flushed, (ix a0.cells s4.2).sent, (ix a0.cells s4.2).stored⟩ : S_api_Fate)], vz = (v30 : Value)] mo rfl ⟨fun _ _ _ h _ => h, fun _ _ _ h _ => h, fun _ _ _ h _ => h, fun _ _ _ h _ => h, fun _ _ _ h _ => h, fun _ _ _ h _ => h, fun _ _ _ h _ => h, fun _ _ _ h _ => h, fun _ _ _ h _ => h, fun _ _ _ h _ => h, fun _ _ _ h _ => h, fun _ _ _ h _ => h, fun _ _ _ h _ => h, fun _ _ _ h _ => h, fun _ _ _ h _ => h, fun _ _ _ h _ => h, fun _ _ _ h _ => h, fun _ _ _ h _ => h, fun _ _ _ h _ => h, fun _ _ _ ⟨v30, o32, h⟩ q => ⟨v30, o32.gr q, h⟩, trivial⟩ ?_ ?_
            · refine ⟨?_, ?_, ?_, ?_, ?_, ?_, ?_, ?_, ?_, ?_, ?_, ?_, ?_, ?_, ?_, ?_, ?_, ?_, ?_, ?_, trivial⟩
              · intro ρz wz hz hk hd
                exact sk_val (v := v11) (by exact xr_move rfl ((hk 3 rfl).trans e3)) rfl rfl
              · intro ρz wz hz hk hd
                exact sk_val (v := .int .i64 s4.2) (by exact xr_move rfl ((hk 4 rfl).trans rfl)) rfl rfl
              · intro ρz wz hz hk hd
                exact sk_val (by exact xr_move rfl ((hk 5 rfl).trans rfl)) rfl rfl
              · intro ρz wz hz hk hd
                have d24 := hd 2 rfl 24 rfl
                exact sk_val (by exact xr_nilCheck rfl d24) rfl rfl
              · intro ρz wz hz hk hd
                have d25 := hd 3 rfl 25 rfl
                exact sk_val (by exact xr_fieldAddr (p := so V0_0 + Int.toNat s4.2 * 4) (q := 0) rfl fl142_0 d25) rfl rfl
              · intro ρz wz hz hk hd
                have d26 := hd 4 rfl 26 rfl
                exact sk_val (v := .int .u64 ((ix a0.cells s4.2).lasts)) (by exact xr_load1 (v := .int .u64 ((ix a0.cells s4.2).lasts)) rfl ag22 d26 (At.segs (ss := segs_pmem_cell (ix a0.cells s4.2)) ((R0_0.gr (fB.gr hz)).elem g18.1 g18.2) 0 1 rfl)) rfl rfl
              · intro ρz wz hz hk hd
                exact sk_val (by exact xr_move rfl ((hk 5 rfl).trans rfl)) rfl rfl
              · intro ρz wz hz hk hd
                have d28 := hd 6 rfl 28 rfl
                exact sk_val (by exact xr_nilCheck rfl d28) rfl rfl
              · intro ρz wz hz hk hd
                have d29 := hd 7 rfl 29 rfl
                exact sk_val (by exact xr_fieldAddr (p := so V0_0 + Int.toNat s4.2 * 4) (q := 3) rfl fl142_3 d29) rfl rfl
              · intro ρz wz hz hk hd
                have d30 := hd 8 rfl 30 rfl
                exact sk_val (v := .bool ((ix a0.cells s4.2).flushed)) (by exact xr_load1 (v := .bool ((ix a0.cells s4.2).flushed)) rfl ag4 d30 (At.segs (ss := segs_pmem_cell (ix a0.cells s4.2)) ((R0_0.gr (fB.gr hz)).elem g18.1 g18.2) 3 1 rfl)) rfl rfl
              · intro ρz wz hz hk hd
                exact sk_val (by exact xr_move rfl ((hk 5 rfl).trans rfl)) rfl rfl
              · intro ρz wz hz hk hd
                have d32 := hd 10 rfl 32 rfl
                exact sk_val (by exact xr_nilCheck rfl d32) rfl rfl
              · intro ρz wz hz hk hd
                have d33 := hd 11 rfl 33 rfl
                exact sk_val (by exact xr_fieldAddr (p := so V0_0 + Int.toNat s4.2 * 4) (q := 2) rfl fl142_2 d33) rfl rfl
              · intro ρz wz hz hk hd
                have d34 := hd 12 rfl 34 rfl
                exact sk_val (v := .int .u64 ((ix a0.cells s4.2).sent)) (by exact xr_load1 (v := .int .u64 ((ix a0.cells s4.2).sent)) rfl ag22 d34 (At.segs (ss := segs_pmem_cell (ix a0.cells s4.2)) ((R0_0.gr (fB.gr hz)).elem g18.1 g18.2) 2 1 rfl)) rfl rfl
              · intro ρz wz hz hk hd
                exact sk_val (by exact xr_move rfl ((hk 5 rfl).trans rfl)) rfl rfl
              · intro ρz wz hz hk hd
                have d36 := hd 14 rfl 36 rfl
                exact sk_val (by exact xr_nilCheck rfl d36) rfl rfl
              · intro ρz wz hz hk hd
                have d37 := hd 15 rfl 37 rfl
                exact sk_val (by exact xr_fieldAddr (p := so V0_0 + Int.toNat s4.2 * 4) (q := 1) rfl fl142_1 d37) rfl rfl
              · intro ρz wz hz hk hd
                have d38 := hd 16 rfl 38 rfl
                exact sk_val (v := .int .u64 ((ix a0.cells s4.2).stored)) (by exact xr_load1 (v := .int .u64 ((ix a0.cells s4.2).stored)) rfl ag22 d38 (At.segs (ss := segs_pmem_cell (ix a0.cells s4.2)) ((R0_0.gr (fB.gr hz)).elem g18.1 g18.2) 1 1 rfl)) rfl rfl
              · intro ρz wz hz hk hd
                have d23 := hd 1 rfl 23 rfl
                have d27 := hd 5 rfl 27 rfl
                have d31 := hd 9 rfl 31 rfl
                have d35 := hd 13 rfl 35 rfl
                have d39 := hd 17 rfl 39 rfl
                exact sk_val (by exact xr_build (vals := [(0, .int .i64 s4.2), (1, .int .u64 ((ix a0.cells s4.2).lasts)), (2, .bool ((ix a0.cells s4.2).flushed)), (3, .int .u64 ((ix a0.cells s4.2).sent)), (4, .int .u64 ((ix a0.cells s4.2).stored))]) rfl ⟨rfl, d23, ⟨rfl, d27, ⟨rfl, d31, ⟨rfl, d35, ⟨rfl, d39, trivial⟩⟩⟩⟩⟩ (bl55_0_1_2_3_4 s4.2 ((ix a0.cells s4.2).lasts) ((ix a0.cells s4.2).flushed) ((ix a0.cells s4.2).sent) ((ix a0.cells s4.2).stored) _)) rfl rfl
              · intro ρz wz hz hk hd
                have d40 := hd 18 rfl 40 rfl
                refine sk_op (by exact opv_buildRec (K := k_api_Fate) (z := (⟨s4.2, (ix a0.cells s4.2).lasts, (ix a0.cells s4.2).flushed, (ix a0.cells s4.2).sent, (ix a0.cells s4.2).stored⟩ : S_api_Fate)) rfl Try.underlying52 el55 rfl rfl d40 rfl (Nat.le_trans fB.size hz.size)) rfl ?_
                rintro v30 wy ⟨o32, q31, z33⟩
                exact ⟨⟨v30, o32, rfl⟩, q31⟩
            · intro ρ35 w36 q37 hk hd
              have e0 := (hk 0 rfl).trans e0
              have e10 := (hk 10 rfl).trans e10
              have e11 := (hk 11 rfl).trans e11
              have e22 := hd 0 rfl 22 rfl
              obtain ⟨v38, o39, e41⟩ := hd 19 rfl 41 rfl
              have b_0 := b_0.gr q37
              have o12 := o12.gr q37
              have fB := fB.gr q37
              obtain ⟨g45, h⟩ := gs h
              have f47 := off_ty b_0 o12 (by decide)
              have f48 := o12.geO
              refine ol_op (by exact opv_append (K := k_api_Fate) rfl Try.underlying52 el55 rfl rfl rfl e22 e41 o12 o39.rd g45 fB.size) rfl rfl rfl ?_
              rintro v41 w49 ⟨o42, q43, n44⟩
              have b_0 := b_0.wrO q43 f47
              have fB := fB.wrO q43 f48
              refine ol_val (v := v41) (by exact xr_assign rfl rfl) rfl rfl rfl ?_
              refine ol_nil ?_
              obtain rfl := Option.some.inj h
              refine thn_i ?_
              exact ⟨v41, o42, e0, rfl, e10, e11, b_0, fB⟩
          · refine cw_condF rfl c29 ?_
            refine cw_skip ?_
            obtain rfl := Option.some.inj h
            refine thn_i ?_
            exact ⟨v11, o12, e0, e3, e10, e11, b_0, fB⟩
        · rintro ρ50 w51 ⟨v26, o27, e0, e3, e10, e11, b_0, fB⟩
          have h := h25
          refine blk_i ?_
          refine cw_region ?_
          refine ol_val (v := .int .i64 (IntKind.i64.wrap (s4.2 + 1))) (by exact xr_add rfl e11 rfl) rfl rfl rfl ?_
          refine ol_val (v := .int .i64 (IntKind.i64.wrap (s4.2 + 1))) (by exact xr_move rfl rfl) rfl rfl rfl ?_
          refine ol_nil ?_
          obtain rfl := Option.some.inj h
          refine lp_in ?_
          exact ⟨v26, o27, e0, e3, e10, rfl, b_0, fB⟩
      · refine cw_condF rfl c17 ?_
        refine cw_exit ?_
        repeat (first | with_reducible refine thn_e ?_ | with_reducible refine blk_e rfl ?_)
        obtain rfl := Option.some.inj h
        refine lp_exit ?_
        rintro rfl
        refine thn_x ?_
        exact ⟨v11, o12, e3, b_0, fB⟩
  · rintro ρ52 w53 ⟨v8, o9, e3, b_0, fB⟩
    have h := h7
    refine cw_seq ?_
    refine cw_region ?_
    refine ol_val (v := v8) (by exact xr_move rfl e3) rfl rfl rfl ?_
    refine ol_val (v := v8) (by exact xr_assign rfl rfl) rfl rfl rfl ?_
    refine ol_nil ?_
    refine cw_ret ?_
    repeat (first | with_reducible refine thn_r ?_ | with_reducible refine blk_r ?_)
    obtain rfl := Option.some.inj h
    refine fin_ret1 Try.results40 rfl ?_
    exact ⟨_, rfl, v8, o9, rfl, fB⟩
end Go.Proofs.Ytklhbaghbmndeaa
