/- PmemFrom: texts merged, part 3 of 5. The last part proves that the law PmemFrom holds for every input. -/
import Derived.Test.YtklhbaghbmndeaaPkPmemFrom2
/- (*rickyard/pmem.cell).open: its model, and that the Go function computes it: written by gen.py. -/
set_option linter.unusedVariables false
namespace Go.Proofs.Ytklhbaghbmndeaa
open Go Go.Xw
def pmem_cell_open__r0.f (fu : Nat) (a0 : S_pmem_cell) : Option Bool := some ((if a0.flushed = true then true else (!decide (a0.stored = a0.lasts))))
set_option maxRecDepth 100000 in
set_option maxHeartbeats 400000 in
theorem pmem_cell_open__r0.ok (fu : Nat) (w : World) (a0 : S_pmem_cell) (G_0 p_0 : Nat) (A_0 : At w G_0 p_0 (cellsOf [Seg.cell (.int .u64 a0.lasts), Seg.cell (.int .u64 a0.stored), Seg.cell (.int .u64 a0.sent), Seg.cell (.bool a0.flushed)])) (r : Bool) (h : pmem_cell_open__r0.f fu a0 = some r) :
    Calls Try.prog 86 (([.pointer (some ⟨G_0, p_0, none⟩)] : List Value).toArray) w (fun e w' => ∃ v, e = .returned v ∧ v = .bool r ∧ Gr w w') := by
  unfold pmem_cell_open__r0.f at h
  have fB : Gr w w := Fr.refl _ _
  refine calls_cw Try.func86 rfl Try.ntmps86 rfl ?_
  refine cw_seq ?_
  refine cw_region ?_
  refine ol_val (v := .bool false) (by exact xr_assign rfl rfl) rfl rfl rfl ?_
  refine ol_nil ?_
  refine cw_seq ?_
  refine cw_mid (fun ρ' w' => ρ' 2 = .bool (if a0.flushed = true then true else (!decide (a0.stored = a0.lasts))) ∧ Gr w w') ?_ ?_
  · skip
    rcases bt a0.flushed with c1 | c1
    · skip
      refine cw_drawL 14 [fun vz wz => vz = (.pointer (some ⟨G_0, p_0, none⟩) : Value), fun vz wz => vz = (.pointer (some ⟨G_0, p_0, none⟩) : Value), fun vz wz => vz = (.pointer (some ⟨G_0, p_0 + 3, none⟩) : Value), fun vz wz => vz = (.bool a0.flushed : Value), fun vz wz => vz = (.bool a0.flushed : Value), fun vz _ => vz = undef, fun vz _ => vz = undef, fun vz _ => vz = undef, fun vz _ => vz = undef, fun vz _ => vz = undef, fun vz _ => vz = undef, fun vz _ => vz = undef, fun vz _ => vz = undef, fun vz _ => vz = undef] mo rfl ⟨fun _ _ _ h _ => h, fun _ _ _ h _ => h, fun _ _ _ h _ => h, fun _ _ _ h _ => h, fun _ _ _ h _ => h, fun _ _ _ h _ => h, fun _ _ _ h _ => h, fun _ _ _ h _ => h, fun _ _ _ h _ => h, fun _ _ _ h _ => h, fun _ _ _ h _ => h, fun _ _ _ h _ => h, fun _ _ _ h _ => h, fun _ _ _ h _ => h, trivial⟩ ?_ ?_
      · refine ⟨?_, ?_, ?_, ?_, ?_, ?_, ?_, ?_, ?_, ?_, ?_, ?_, ?_, ?_, trivial⟩
        · intro ρz wz hz hk hd
          exact sk_val (v := .pointer (some ⟨G_0, p_0, none⟩)) (by exact xr_move rfl ((hk 0 rfl).trans rfl)) rfl rfl
        · intro ρz wz hz hk hd
          have d3 := hd 0 rfl 3 rfl
          exact sk_val (v := .pointer (some ⟨G_0, p_0, none⟩)) (by exact xr_nilCheck rfl d3) rfl rfl
        · intro ρz wz hz hk hd
          have d4 := hd 1 rfl 4 rfl
          exact sk_val (v := .pointer (some ⟨G_0, p_0 + 3, none⟩)) (by exact xr_fieldAddr (p := p_0) (q := 3) rfl fl142_3 d4) rfl rfl
        · intro ρz wz hz hk hd
          have d5 := hd 2 rfl 5 rfl
          exact sk_val (v := .bool a0.flushed) (by exact xr_load1 (v := .bool a0.flushed) rfl ag4 d5 (At.segs (ss := [Seg.cell (.int .u64 a0.lasts), Seg.cell (.int .u64 a0.stored), Seg.cell (.int .u64 a0.sent), Seg.cell (.bool a0.flushed)]) (At.gr A_0 (fB.gr hz)) 3 1 rfl)) rfl rfl
        · intro ρz wz hz hk hd
          have d6 := hd 3 rfl 6 rfl
          exact sk_val (v := .bool a0.flushed) (by exact xr_move rfl d6) rfl rfl
        · intro ρz wz hz hk hd
          have d7 := hd 4 rfl 7 rfl
          exact sk_skip rfl rfl d7 c1 rfl
        · intro ρz wz hz hk hd
          have d7 := hd 4 rfl 7 rfl
          exact sk_skip rfl rfl d7 c1 rfl
        · intro ρz wz hz hk hd
          have d7 := hd 4 rfl 7 rfl
          exact sk_skip rfl rfl d7 c1 rfl
        · intro ρz wz hz hk hd
          have d7 := hd 4 rfl 7 rfl
          exact sk_skip rfl rfl d7 c1 rfl
        · intro ρz wz hz hk hd
          have d7 := hd 4 rfl 7 rfl
          exact sk_skip rfl rfl d7 c1 rfl
        · intro ρz wz hz hk hd
          have d7 := hd 4 rfl 7 rfl
          exact sk_skip rfl rfl d7 c1 rfl
        · intro ρz wz hz hk hd
          have d7 := hd 4 rfl 7 rfl
          exact sk_skip rfl rfl d7 c1 rfl
        · intro ρz wz hz hk hd
          have d7 := hd 4 rfl 7 rfl
          exact sk_skip rfl rfl d7 c1 rfl
        · intro ρz wz hz hk hd
          have d7 := hd 4 rfl 7 rfl
          exact sk_skip rfl rfl d7 c1 rfl
      · intro ρ2 w3 q4 hk hd
        have e7 := hd 4 rfl 7 rfl
        have fB := fB.gr q4
        refine ol_val (v := .bool true) (by exact xr_pickT rfl e7 c1 rfl) rfl rfl rfl ?_
        refine ol_val (v := .bool true) (by exact xr_assign rfl rfl) rfl rfl rfl ?_
        refine ol_nil ?_
        refine thn_i ?_
        exact ⟨(rfl).trans (congrArg (fun z => (.bool z : Value)) (show true = (if a0.flushed = true then true else (!decide (a0.stored = a0.lasts))) from by rw [ite_t c1])), q4⟩
    · skip
      refine cw_drawL 14 [fun vz wz => vz = (.pointer (some ⟨G_0, p_0, none⟩) : Value), fun vz wz => vz = (.pointer (some ⟨G_0, p_0, none⟩) : Value), fun vz wz => vz = (.pointer (some ⟨G_0, p_0 + 3, none⟩) : Value), fun vz wz => vz = (.bool a0.flushed : Value), fun vz wz => vz = (.bool a0.flushed : Value), fun vz wz => vz = (.pointer (some ⟨G_0, p_0, none⟩) : Value), fun vz wz => vz = (.pointer (some ⟨G_0, p_0, none⟩) : Value), fun vz wz => vz = (.pointer (some ⟨G_0, p_0 + 1, none⟩) : Value), fun vz wz => vz = (.int .u64 a0.stored : Value), fun vz wz => vz = (.pointer (some ⟨G_0, p_0, none⟩) : Value), fun vz wz => vz = (.pointer (some ⟨G_0, p_0, none⟩) : Value), fun vz wz => vz = (.pointer (some ⟨G_0, p_0 + 0, none⟩) : Value), fun vz wz => vz = (.int .u64 a0.lasts : Value), fun vz wz => vz = (.bool (!decide (a0.stored = a0.lasts)) : Value)] mo rfl ⟨fun _ _ _ h _ => h, fun _ _ _ h _ => h, fun _ _ _ h _ => h, fun _ _ _ h _ => h, fun _ _ _ h _ => h, fun _ _ _ h _ => h, fun _ _ _ h _ => h, fun _ _ _ h _ => h, fun _ _ _ h _ => h, fun _ _ _ h _ => h, fun _ _ _ h _ => h, fun _ _ _ h _ => h, fun _ _ _ h _ => h, fun _ _ _ h _ => h, trivial⟩ ?_ ?_
      · refine ⟨?_, ?_, ?_, ?_, ?_, ?_, ?_, ?_, ?_, ?_, ?_, ?_, ?_, ?_, trivial⟩
        · intro ρz wz hz hk hd
          exact sk_val (v := .pointer (some ⟨G_0, p_0, none⟩)) (by exact xr_move rfl ((hk 0 rfl).trans rfl)) rfl rfl
        · intro ρz wz hz hk hd
          have d3 := hd 0 rfl 3 rfl
          exact sk_val (v := .pointer (some ⟨G_0, p_0, none⟩)) (by exact xr_nilCheck rfl d3) rfl rfl
        · intro ρz wz hz hk hd
          have d4 := hd 1 rfl 4 rfl
          exact sk_val (v := .pointer (some ⟨G_0, p_0 + 3, none⟩)) (by exact xr_fieldAddr (p := p_0) (q := 3) rfl fl142_3 d4) rfl rfl
        · intro ρz wz hz hk hd
          have d5 := hd 2 rfl 5 rfl
          exact sk_val (v := .bool a0.flushed) (by exact xr_load1 (v := .bool a0.flushed) rfl ag4 d5 (At.segs (ss := [Seg.cell (.int .u64 a0.lasts), Seg.cell (.int .u64 a0.stored), Seg.cell (.int .u64 a0.sent), Seg.cell (.bool a0.flushed)]) (At.gr A_0 (fB.gr hz)) 3 1 rfl)) rfl rfl
        · intro ρz wz hz hk hd
          have d6 := hd 3 rfl 6 rfl
          exact sk_val (v := .bool a0.flushed) (by exact xr_move rfl d6) rfl rfl
        · intro ρz wz hz hk hd
          have d7 := hd 4 rfl 7 rfl
          exact sk_gval (v := .pointer (some ⟨G_0, p_0, none⟩)) (by exact xr_move rfl ((hk 0 rfl).trans rfl)) rfl rfl d7 c1 rfl
        · intro ρz wz hz hk hd
          have d8 := hd 5 rfl 8 rfl
          have d7 := hd 4 rfl 7 rfl
          exact sk_gval (v := .pointer (some ⟨G_0, p_0, none⟩)) (by exact xr_nilCheck rfl d8) rfl rfl d7 c1 rfl
        · intro ρz wz hz hk hd
          have d9 := hd 6 rfl 9 rfl
          have d7 := hd 4 rfl 7 rfl
          exact sk_gval (v := .pointer (some ⟨G_0, p_0 + 1, none⟩)) (by exact xr_fieldAddr (p := p_0) (q := 1) rfl fl142_1 d9) rfl rfl d7 c1 rfl
        · intro ρz wz hz hk hd
          have d10 := hd 7 rfl 10 rfl
          have d7 := hd 4 rfl 7 rfl
          exact sk_gval (v := .int .u64 a0.stored) (by exact xr_load1 (v := .int .u64 a0.stored) rfl ag22 d10 (At.segs (ss := [Seg.cell (.int .u64 a0.lasts), Seg.cell (.int .u64 a0.stored), Seg.cell (.int .u64 a0.sent), Seg.cell (.bool a0.flushed)]) (At.gr A_0 (fB.gr hz)) 1 1 rfl)) rfl rfl d7 c1 rfl
        · intro ρz wz hz hk hd
          have d7 := hd 4 rfl 7 rfl
          exact sk_gval (v := .pointer (some ⟨G_0, p_0, none⟩)) (by exact xr_move rfl ((hk 0 rfl).trans rfl)) rfl rfl d7 c1 rfl
        · intro ρz wz hz hk hd
          have d12 := hd 9 rfl 12 rfl
          have d7 := hd 4 rfl 7 rfl
          exact sk_gval (v := .pointer (some ⟨G_0, p_0, none⟩)) (by exact xr_nilCheck rfl d12) rfl rfl d7 c1 rfl
        · intro ρz wz hz hk hd
          have d13 := hd 10 rfl 13 rfl
          have d7 := hd 4 rfl 7 rfl
          exact sk_gval (v := .pointer (some ⟨G_0, p_0 + 0, none⟩)) (by exact xr_fieldAddr (p := p_0) (q := 0) rfl fl142_0 d13) rfl rfl d7 c1 rfl
        · intro ρz wz hz hk hd
          have d14 := hd 11 rfl 14 rfl
          have d7 := hd 4 rfl 7 rfl
          exact sk_gval (v := .int .u64 a0.lasts) (by exact xr_load1 (v := .int .u64 a0.lasts) rfl ag22 d14 (At.segs (ss := [Seg.cell (.int .u64 a0.lasts), Seg.cell (.int .u64 a0.stored), Seg.cell (.int .u64 a0.sent), Seg.cell (.bool a0.flushed)]) (At.gr A_0 (fB.gr hz)) 0 1 rfl)) rfl rfl d7 c1 rfl
        · intro ρz wz hz hk hd
          have d11 := hd 8 rfl 11 rfl
          have d15 := hd 12 rfl 15 rfl
          have d7 := hd 4 rfl 7 rfl
          exact sk_gval (v := .bool (!decide (a0.stored = a0.lasts))) (by exact xr_neI rfl Try.underlying22 rfl d11 d15) rfl rfl d7 c1 rfl
      · intro ρ5 w6 q7 hk hd
        have e7 := hd 4 rfl 7 rfl
        have e16 := hd 13 rfl 16 rfl
        have fB := fB.gr q7
        refine ol_val (v := .bool (!decide (a0.stored = a0.lasts))) (by exact xr_pickF rfl e7 c1 e16) rfl rfl rfl ?_
        refine ol_val (v := .bool (!decide (a0.stored = a0.lasts))) (by exact xr_assign rfl rfl) rfl rfl rfl ?_
        refine ol_nil ?_
        refine thn_i ?_
        exact ⟨(rfl).trans (congrArg (fun z => (.bool z : Value)) (show (!decide (a0.stored = a0.lasts)) = (if a0.flushed = true then true else (!decide (a0.stored = a0.lasts))) from by rw [ite_f c1])), q7⟩
  · skip
    rintro ρ8 w9 ⟨e2, q10⟩
    have fB := fB.gr q10
    refine cw_ret ?_
    repeat (first | with_reducible refine thn_r ?_ | with_reducible refine blk_r ?_)
    obtain rfl := Option.some.inj h
    refine fin_ret1 Try.results86 e2 ?_
    exact ⟨_, rfl, rfl, fB⟩
end Go.Proofs.Ytklhbaghbmndeaa

/- (*rickyard/pmem.cell).fate: its model, and that the Go function computes it: written by gen.py. -/
set_option linter.unusedVariables false
namespace Go.Proofs.Ytklhbaghbmndeaa
open Go Go.Xw
def pmem_cell_fate__r0.f (fu : Nat) (a0 : S_pmem_cell) (a1 : Int) : Option Int := (((if (decide ((Int.tmod a1 3) = 1)) = true then some ((decide ((Int.tmod a1 3) = 1))) else some ((decide ((Int.tmod a1 3) = (-2))))) : Option Bool).bind fun x1 => (((if x1 = true then (if a0.flushed = true then some (Sum.inl (a0.sent)) else some (Sum.inr ())) else (((if (decide ((Int.tmod a1 3) = 2)) = true then some ((decide ((Int.tmod a1 3) = 2))) else some ((decide ((Int.tmod a1 3) = (-1))))) : Option Bool).bind fun x13 => (if x13 = true then some (Sum.inl (a0.stored)) else some (Sum.inr ())))) : Option (Sum Int Unit)).bind fun x7 => match x7 with | Sum.inl p => some p | Sum.inr x10 => some (a0.lasts)))
set_option maxRecDepth 100000 in
set_option maxHeartbeats 400000 in
theorem pmem_cell_fate__r0.ok (fu : Nat) (w : World) (a0 : S_pmem_cell) (G_0 p_0 : Nat) (A_0 : At w G_0 p_0 (cellsOf [Seg.cell (.int .u64 a0.lasts), Seg.cell (.int .u64 a0.stored), Seg.cell (.int .u64 a0.sent), Seg.cell (.bool a0.flushed)])) (a1 : Int) (r : Int) (h : pmem_cell_fate__r0.f fu a0 a1 = some r) :
    Calls Try.prog 87 (([.pointer (some ⟨G_0, p_0, none⟩), .int .i64 a1] : List Value).toArray) w (fun e w' => ∃ v, e = .returned v ∧ v = .int .u64 r ∧ Gr w w') := by
  unfold pmem_cell_fate__r0.f at h
  have fB : Gr w w := Fr.refl _ _
  refine calls_cw Try.func87 rfl Try.ntmps87 rfl ?_
  refine cw_seq ?_
  refine cw_region ?_
  refine ol_val (v := .int .u64 0) (by exact xr_assign rfl rfl) rfl rfl rfl ?_
  refine ol_nil ?_
  refine cw_seq ?_
  refine cw_seq ?_
  refine cw_region ?_
  refine ol_val (v := .int .i64 a1) (by exact xr_move rfl rfl) rfl rfl rfl ?_
  refine ol_val (v := .int .i64 (Int.tmod a1 3)) (by exact xr_rem rfl rfl rfl (by decide)) rfl rfl rfl ?_
  refine ol_nil ?_
  refine cw_block ?_
  refine cw_seq ?_
  refine cw_seq ?_
  refine cw_region ?_
  refine ol_val (v := .bool (decide ((Int.tmod a1 3) = 1))) (by exact xr_eqI rfl Try.underlying3 rfl rfl rfl) rfl rfl rfl ?_
  refine ol_val (v := .bool (decide ((Int.tmod a1 3) = 1))) (by exact xr_assign rfl rfl) rfl rfl rfl ?_
  refine ol_nil ?_
  obtain ⟨x1, j2, h3⟩ := bs h
  refine cw_mid (fun ρ' w' => ρ' 0 = .pointer (some ⟨G_0, p_0, none⟩) ∧ ρ' 6 = .int .i64 (Int.tmod a1 3) ∧ ρ' 7 = .bool x1 ∧ Gr w w') ?_ ?_
  · have h := j2
    rcases is h with ⟨c4, h⟩ | ⟨c4, h⟩
    · refine cw_condT rfl c4 ?_
      refine cw_skip ?_
      obtain rfl := Option.some.inj h
      refine thn_i ?_
      exact ⟨rfl, rfl, rfl, fB⟩
    · refine cw_condF rfl c4 ?_
      refine cw_region ?_
      refine ol_val (v := .bool (decide ((Int.tmod a1 3) = (-2)))) (by exact xr_eqI rfl Try.underlying3 rfl rfl rfl) rfl rfl rfl ?_
      refine ol_val (v := .bool (decide ((Int.tmod a1 3) = (-2)))) (by exact xr_assign rfl rfl) rfl rfl rfl ?_
      refine ol_nil ?_
      obtain rfl := Option.some.inj h
      refine thn_i ?_
      exact ⟨rfl, rfl, rfl, fB⟩
  · rintro ρ5 w6 ⟨e0, e6, e7, fB⟩
    have h := h3
    obtain ⟨x7, j8, h9⟩ := bs h
    refine cw_mid (fun ρ' w' => ∃ x10, x7 = Sum.inr x10 ∧ ρ' 0 = .pointer (some ⟨G_0, p_0, none⟩) ∧ Gr w w') ?_ ?_
    · have h := j8
      rcases is h with ⟨c11, h⟩ | ⟨c11, h⟩
      · refine cw_condT e7 c11 ?_
        refine cw_seq ?_
        refine cw_region ?_
        refine ol_val (v := .pointer (some ⟨G_0, p_0, none⟩)) (by exact xr_move rfl e0) rfl rfl rfl ?_
        refine ol_val (v := .pointer (some ⟨G_0, p_0, none⟩)) (by exact xr_nilCheck rfl rfl) rfl rfl rfl ?_
        refine ol_val (v := .pointer (some ⟨G_0, p_0 + 3, none⟩)) (by exact xr_fieldAddr (p := p_0) (q := 3) rfl fl142_3 rfl) rfl rfl rfl ?_
        refine ol_val (v := .bool a0.flushed) (by exact xr_load1 (v := .bool a0.flushed) rfl ag4 rfl (At.segs (ss := [Seg.cell (.int .u64 a0.lasts), Seg.cell (.int .u64 a0.stored), Seg.cell (.int .u64 a0.sent), Seg.cell (.bool a0.flushed)]) (At.gr A_0 fB) 3 1 rfl)) rfl rfl rfl ?_
        refine ol_nil ?_
        rcases is h with ⟨c12, h⟩ | ⟨c12, h⟩
        · refine cw_condT rfl c12 ?_
          refine cw_seq ?_
          refine cw_region ?_
          refine ol_val (v := .pointer (some ⟨G_0, p_0, none⟩)) (by exact xr_move rfl e0) rfl rfl rfl ?_
          refine ol_val (v := .pointer (some ⟨G_0, p_0, none⟩)) (by exact xr_nilCheck rfl rfl) rfl rfl rfl ?_
          refine ol_val (v := .pointer (some ⟨G_0, p_0 + 2, none⟩)) (by exact xr_fieldAddr (p := p_0) (q := 2) rfl fl142_2 rfl) rfl rfl rfl ?_
          refine ol_val (v := .int .u64 a0.sent) (by exact xr_load1 (v := .int .u64 a0.sent) rfl ag22 rfl (At.segs (ss := [Seg.cell (.int .u64 a0.lasts), Seg.cell (.int .u64 a0.stored), Seg.cell (.int .u64 a0.sent), Seg.cell (.bool a0.flushed)]) (At.gr A_0 fB) 2 1 rfl)) rfl rfl rfl ?_
          refine ol_val (v := .int .u64 a0.sent) (by exact xr_assign rfl rfl) rfl rfl rfl ?_
          refine ol_nil ?_
          refine cw_ret ?_
          repeat (first | with_reducible refine thn_r ?_ | with_reducible refine blk_r ?_)
          obtain rfl := Option.some.inj h
          have h := h9
          obtain rfl := Option.some.inj h
          refine fin_ret1 Try.results87 rfl ?_
          exact ⟨_, rfl, rfl, fB⟩
        · refine cw_condF rfl c12 ?_
          refine cw_skip ?_
          obtain rfl := Option.some.inj h
          refine thn_i ?_
          exact ⟨_, rfl, e0, fB⟩
      · refine cw_condF e7 c11 ?_
        refine cw_seq ?_
        refine cw_seq ?_
        refine cw_region ?_
        refine ol_val (v := .bool (decide ((Int.tmod a1 3) = 2))) (by exact xr_eqI rfl Try.underlying3 rfl e6 rfl) rfl rfl rfl ?_
        refine ol_val (v := .bool (decide ((Int.tmod a1 3) = 2))) (by exact xr_assign rfl rfl) rfl rfl rfl ?_
        refine ol_nil ?_
        obtain ⟨x13, j14, h15⟩ := bs h
        refine cw_mid (fun ρ' w' => ρ' 0 = .pointer (some ⟨G_0, p_0, none⟩) ∧ ρ' 18 = .bool x13 ∧ Gr w w') ?_ ?_
        · have h := j14
          rcases is h with ⟨c16, h⟩ | ⟨c16, h⟩
          · refine cw_condT rfl c16 ?_
            refine cw_skip ?_
            obtain rfl := Option.some.inj h
            refine thn_i ?_
            exact ⟨e0, rfl, fB⟩
          · refine cw_condF rfl c16 ?_
            refine cw_region ?_
            refine ol_val (v := .bool (decide ((Int.tmod a1 3) = (-1)))) (by exact xr_eqI rfl Try.underlying3 rfl e6 rfl) rfl rfl rfl ?_
            refine ol_val (v := .bool (decide ((Int.tmod a1 3) = (-1)))) (by exact xr_assign rfl rfl) rfl rfl rfl ?_
            refine ol_nil ?_
            obtain rfl := Option.some.inj h
            refine thn_i ?_
            exact ⟨e0, rfl, fB⟩
        · rintro ρ17 w18 ⟨e0, e18, fB⟩
          have h := h15
          rcases is h with ⟨c19, h⟩ | ⟨c19, h⟩
          · refine cw_condT e18 c19 ?_
            refine cw_seq ?_
            refine cw_region ?_
            refine ol_val (v := .pointer (some ⟨G_0, p_0, none⟩)) (by exact xr_move rfl e0) rfl rfl rfl ?_
            refine ol_val (v := .pointer (some ⟨G_0, p_0, none⟩)) (by exact xr_nilCheck rfl rfl) rfl rfl rfl ?_
            refine ol_val (v := .pointer (some ⟨G_0, p_0 + 1, none⟩)) (by exact xr_fieldAddr (p := p_0) (q := 1) rfl fl142_1 rfl) rfl rfl rfl ?_
            refine ol_val (v := .int .u64 a0.stored) (by exact xr_load1 (v := .int .u64 a0.stored) rfl ag22 rfl (At.segs (ss := [Seg.cell (.int .u64 a0.lasts), Seg.cell (.int .u64 a0.stored), Seg.cell (.int .u64 a0.sent), Seg.cell (.bool a0.flushed)]) (At.gr A_0 fB) 1 1 rfl)) rfl rfl rfl ?_
            refine ol_val (v := .int .u64 a0.stored) (by exact xr_assign rfl rfl) rfl rfl rfl ?_
            refine ol_nil ?_
            refine cw_ret ?_
            repeat (first | with_reducible refine thn_r ?_ | with_reducible refine blk_r ?_)
            obtain rfl := Option.some.inj h
            have h := h9
            obtain rfl := Option.some.inj h
            refine fin_ret1 Try.results87 rfl ?_
            exact ⟨_, rfl, rfl, fB⟩
          · refine cw_condF e18 c19 ?_
            refine cw_skip ?_
            obtain rfl := Option.some.inj h
            refine thn_i ?_
            exact ⟨_, rfl, e0, fB⟩
    · rintro ρ20 w21 ⟨x10, rfl, e0, fB⟩
      have h := h9
      refine blk_i ?_
      refine cw_seq ?_
      refine cw_region ?_
      refine ol_val (v := .pointer (some ⟨G_0, p_0, none⟩)) (by exact xr_move rfl e0) rfl rfl rfl ?_
      refine ol_val (v := .pointer (some ⟨G_0, p_0, none⟩)) (by exact xr_nilCheck rfl rfl) rfl rfl rfl ?_
      refine ol_val (v := .pointer (some ⟨G_0, p_0 + 0, none⟩)) (by exact xr_fieldAddr (p := p_0) (q := 0) rfl fl142_0 rfl) rfl rfl rfl ?_
      refine ol_val (v := .int .u64 a0.lasts) (by exact xr_load1 (v := .int .u64 a0.lasts) rfl ag22 rfl (At.segs (ss := [Seg.cell (.int .u64 a0.lasts), Seg.cell (.int .u64 a0.stored), Seg.cell (.int .u64 a0.sent), Seg.cell (.bool a0.flushed)]) (At.gr A_0 fB) 0 1 rfl)) rfl rfl rfl ?_
      refine ol_val (v := .int .u64 a0.lasts) (by exact xr_assign rfl rfl) rfl rfl rfl ?_
      refine ol_nil ?_
      refine cw_ret ?_
      repeat (first | with_reducible refine thn_r ?_ | with_reducible refine blk_r ?_)
      obtain rfl := Option.some.inj h
      refine fin_ret1 Try.results87 rfl ?_
      exact ⟨_, rfl, rfl, fB⟩
end Go.Proofs.Ytklhbaghbmndeaa

/- (*rickyard/pmem.Device).Crash: its model, and that the Go function computes it: written by gen.py. -/
set_option linter.unusedVariables false
namespace Go.Proofs.Ytklhbaghbmndeaa
open Go Go.Xw
def pmem_Device_Crash.s0 (fu : Nat) (a0 : S_pmem_Device) : ((List Int) × Int × (List S_pmem_cell)) → Option (Sum (List S_pmem_cell) ((List Int) × Int × (List S_pmem_cell))) := fun s7 => (if (decide (s7.2.1 < (List.length a0.cells : Int))) = true then (if 0 ≤ s7.2.1 ∧ s7.2.1 < (List.length s7.2.2 : Int) then ((pmem_cell_open__r0.f fu (ix s7.2.2 s7.2.1) : Option Bool).bind fun t21 => (((if t21 = true then (((if (decide ((List.length s7.1 : Int) > 0)) = true then (if (0 : Int) < (List.length s7.1 : Int) then (if (1 : Int) ≤ (List.length s7.1 : Int) then some ((cut s7.1 1 (List.length s7.1 : Int)), (ix s7.1 0)) else none) else none) else some (s7.1, 0)) : Option ((List Int) × Int)).bind fun x34 => ((pmem_cell_fate__r0.f fu (ix s7.2.2 s7.2.1) x34.2 : Option Int).bind fun t52 => ((pmem_cell_keep__i0.f fu (ix s7.2.2 s7.2.1) t52 : Option S_pmem_cell).bind fun t62 => some (x34.1, (List.set s7.2.2 (Int.toNat s7.2.1) t62))))) else some (s7.1, s7.2.2)) : Option ((List Int) × (List S_pmem_cell))).bind fun x25 => (if s7.2.1 < (List.length x25.2 : Int) then (if s7.2.1 < (List.length x25.2 : Int) then some (Sum.inr (x25.1, (IntKind.i64.wrap (s7.2.1 + 1)), (List.set x25.2 (Int.toNat s7.2.1) (⟨(ix x25.2 s7.2.1).lasts, (ix x25.2 s7.2.1).lasts, (ix x25.2 s7.2.1).sent, (ix x25.2 s7.2.1).flushed⟩ : S_pmem_cell)))) else none) else none))) else none) else some (Sum.inl (s7.2.2)))
def pmem_Device_Crash.f (fu : Nat) (a0 : S_pmem_Device) (a1 : List Int) : Option S_pmem_Device := ((loopM (pmem_Device_Crash.s0 fu a0) fu (a1, 0, a0.cells)).bind fun e8 => some ((⟨e8, (⟨[], (0 : Int)⟩ : S_pmem_plan), false, false, 0, a0.steps⟩ : S_pmem_Device)))
set_option maxRecDepth 100000 in
set_option maxHeartbeats 400000 in
theorem pmem_Device_Crash.ok (fu : Nat) (w : World) (a0 : S_pmem_Device) (G_0 : Nat) (V0_0 : Value) (O0_0 : Own k_pmem_cell 142 w 0 V0_0 a0.cells) (V0_1 : Value) (O0_1 : Own (kI .i64) 3 w 0 V0_1 a0.plan.list) (b_0 : Blk w G_0 139 [Seg.cell V0_0 O0_0.one, Seg.cell V0_1 O0_1.one, Seg.cell (.int .i64 a0.plan.at_), Seg.cell (.bool a0.off), Seg.cell (.bool a0.armed), Seg.cell (.int .i64 a0.left), Seg.cell (.int .i64 a0.steps)]) (a1 : List Int) (V1_0 : Value) (R1_0 : Rd (kI .i64) w V1_0 a1) (NR1_0_P0 : OffR V1_0 a1 G_0) (NR1_0_R0_0 : OffRV V1_0 a1 V0_0) (NR1_0_R0_1 : OffRV V1_0 a1 V0_1) (r : S_pmem_Device) (h : pmem_Device_Crash.f fu a0 a1 = some r) :
    Calls Try.prog 32 (([.pointer (some ⟨G_0, 0, none⟩), V1_0] : List Value).toArray) w (fun e w' => ∃ v, e = .returned v ∧ ∃ u1 : Value, ∃ u4 : Value, ∃ o2 : Own k_pmem_cell 142 w' 0 u1 r.cells, ∃ m3 : ∀ g, Value.ownBlock u1 = some g → w.heap.size ≤ g ∨ (g = G_0 ∨ some g = Value.ownBlock V0_0 ∨ some g = Value.ownBlock V0_1), ∃ o5 : Own (kI .i64) 3 w' 0 u4 r.plan.list, ∃ m6 : ∀ g, Value.ownBlock u4 = some g → w.heap.size ≤ g ∨ (g = G_0 ∨ some g = Value.ownBlock V0_0 ∨ some g = Value.ownBlock V0_1), v = .tuple #[] ∧ Blk w' G_0 139 [Seg.cell u1 o2.one, Seg.cell u4 o5.one, Seg.cell (.int .i64 r.plan.at_), Seg.cell (.bool r.off), Seg.cell (.bool r.armed), Seg.cell (.int .i64 r.left), Seg.cell (.int .i64 r.steps)] ∧ Fr (fun j => j = G_0 ∨ some j = Value.ownBlock V0_0 ∨ some j = Value.ownBlock V0_1) w w') := by
  unfold pmem_Device_Crash.f at h
  have fB : Fr (fun j => j = G_0 ∨ some j = Value.ownBlock V0_0 ∨ some j = Value.ownBlock V0_1) w w := Fr.refl _ _
  have M0_0 : ∀ g, Value.ownBlock V0_0 = some g → w.heap.size ≤ g ∨ (g = G_0 ∨ some g = Value.ownBlock V0_0 ∨ some g = Value.ownBlock V0_1) := fun g hg => .inr (.inr (.inl hg.symm))
  have M0_1 : ∀ g, Value.ownBlock V0_1 = some g → w.heap.size ≤ g ∨ (g = G_0 ∨ some g = Value.ownBlock V0_0 ∨ some g = Value.ownBlock V0_1) := fun g hg => .inr (.inr (.inr hg.symm))
  refine calls_cw Try.func32 rfl Try.ntmps32 rfl ?_
  refine cw_seq ?_
  refine cw_seq ?_
  refine cw_region ?_
  refine ol_val (v := .pointer (some ⟨G_0, 0, none⟩)) (by exact xr_move rfl rfl) rfl rfl rfl ?_
  refine ol_val (v := .pointer (some ⟨G_0, 0, none⟩)) (by exact xr_nilCheck rfl rfl) rfl rfl rfl ?_
  refine ol_val (v := .pointer (some ⟨G_0, 0, none⟩)) (by exact xr_fieldAddr (p := 0) (q := 0) rfl fl139_0 rfl) rfl rfl rfl ?_
  refine ol_val (v := V0_0) (by exact xr_load1 (v := V0_0) rfl ag135 rfl (b_0.seg 0 rfl rfl)) rfl rfl rfl ?_
  refine ol_val (v := .int .i64 (List.length a0.cells : Int)) (by exact xr_lenR rfl Try.underlying135 rfl O0_0.rd) rfl rfl rfl ?_
  refine ol_val (v := .int .i64 0) (by exact xr_move rfl rfl) rfl rfl rfl ?_
  refine ol_nil ?_
  obtain ⟨e8, l9, h10⟩ := bs h
  refine cw_mid (fun ρ' w' => ∃ O0_0 : Own k_pmem_cell 142 w' 0 V0_0 e8, ∃ O0_1 : Own (kI .i64) 3 w' 0 V0_1 a0.plan.list, ρ' 0 = .pointer (some ⟨G_0, 0, none⟩) ∧ Blk w' G_0 139 [Seg.cell V0_0 O0_0.one, Seg.cell V0_1 O0_1.one, Seg.cell (.int .i64 a0.plan.at_), Seg.cell (.bool a0.off), Seg.cell (.bool a0.armed), Seg.cell (.int .i64 a0.left), Seg.cell (.int .i64 a0.steps)] ∧ Fr (fun j => j = G_0 ∨ some j = Value.ownBlock V0_0 ∨ some j = Value.ownBlock V0_1) w w') ?_ ?_
  · refine cw_block ?_
    refine cw_round (fun (s7 : (List Int) × Int × (List S_pmem_cell)) ρ' w' => ∃ v11 : Value, ∃ O0_0 : Own k_pmem_cell 142 w' 0 V0_0 s7.2.2, ∃ O0_1 : Own (kI .i64) 3 w' 0 V0_1 a0.plan.list, ∃ r12 : Rd (kI .i64) w' v11 s7.1, OffR v11 s7.1 G_0 ∧ OffRV v11 s7.1 V0_0 ∧ OffRV v11 s7.1 V0_1 ∧ ρ' 0 = .pointer (some ⟨G_0, 0, none⟩) ∧ ρ' 1 = v11 ∧ ρ' 11 = .int .i64 (List.length a0.cells : Int) ∧ ρ' 12 = .int .i64 s7.2.1 ∧ Blk w' G_0 139 [Seg.cell V0_0 O0_0.one, Seg.cell V0_1 O0_1.one, Seg.cell (.int .i64 a0.plan.at_), Seg.cell (.bool a0.off), Seg.cell (.bool a0.armed), Seg.cell (.int .i64 a0.left), Seg.cell (.int .i64 a0.steps)] ∧ Fr (fun j => j = G_0 ∨ some j = Value.ownBlock V0_0 ∨ some j = Value.ownBlock V0_1) w w') l9 ?_ ?_
    · skip
      exact ⟨V1_0, O0_0, O0_1, R1_0, NR1_0_P0, NR1_0_R0_0, NR1_0_R0_1, rfl, rfl, rfl, rfl, b_0, fB⟩
    · rintro s7 x18 ρ16 w17 ⟨v11, O0_0, O0_1, r12, a13, a14, a15, e0, e1, e11, e12, b_0, fB⟩ h
      unfold pmem_Device_Crash.s0 at h
      refine cw_seq ?_
      refine cw_region ?_
      refine ol_val (v := .bool (decide (s7.2.1 < (List.length a0.cells : Int)))) (by exact xr_lss rfl e12 e11) rfl rfl rfl ?_
      refine ol_nil ?_
      refine cw_seq ?_
      rcases is h with ⟨c19, h⟩ | ⟨c19, h⟩
      · refine cw_condT rfl c19 ?_
        refine cw_skip ?_
        refine cw_seq ?_
        refine cw_block ?_
        refine cw_seq ?_
        refine cw_region ?_
        refine ol_val (v := .int .i64 s7.2.1) (by exact xr_move rfl e12) rfl rfl rfl ?_
        refine ol_val (v := .int .i64 s7.2.1) (by exact xr_assign rfl rfl) rfl rfl rfl ?_
        refine ol_nil ?_
        refine cw_seq ?_
        refine cw_region ?_
        refine ol_val (v := .pointer (some ⟨G_0, 0, none⟩)) (by exact xr_move rfl e0) rfl rfl rfl ?_
        refine ol_val (v := .pointer (some ⟨G_0, 0, none⟩)) (by exact xr_nilCheck rfl rfl) rfl rfl rfl ?_
        refine ol_val (v := .pointer (some ⟨G_0, 0, none⟩)) (by exact xr_fieldAddr (p := 0) (q := 0) rfl fl139_0 rfl) rfl rfl rfl ?_
        refine ol_val (v := V0_0) (by exact xr_load1 (v := V0_0) rfl ag135 rfl (b_0.seg 0 rfl rfl)) rfl rfl rfl ?_
        refine ol_val (v := .int .i64 s7.2.1) (by exact xr_move rfl rfl) rfl rfl rfl ?_
        obtain ⟨g20, h⟩ := gs h
        refine ol_val (v := .pointer (some ⟨(sb V0_0), so V0_0 + Int.toNat s7.2.1 * 4, none⟩)) (by exact xr_indexR (K := k_pmem_cell) (v := V0_0) rfl Try.underlying135 sz142 rfl O0_0.rd rfl g20.1 g20.2) rfl rfl rfl ?_
        refine ol_val (v := .pointer (some ⟨(sb V0_0), so V0_0 + Int.toNat s7.2.1 * 4, none⟩)) (by exact xr_assign rfl rfl) rfl rfl rfl ?_
        refine ol_nil ?_
        refine cw_seq ?_
        refine cw_seq ?_
        refine cw_region ?_
        refine ol_val (v := .pointer (some ⟨(sb V0_0), so V0_0 + Int.toNat s7.2.1 * 4, none⟩)) (by exact xr_move rfl rfl) rfl rfl rfl ?_
        obtain ⟨t21, k22, h⟩ := bs h
        refine ol_op (by exact opv_call rfl cal86 (ac rfl an) (pmem_cell_open__r0.ok fu _ (ix s7.2.2 s7.2.1) (sb V0_0) (so V0_0 + Int.toNat s7.2.1 * 4) (show At _ _ _ (cellsOf [Seg.cell (.int .u64 ((ix s7.2.2 s7.2.1).lasts)), Seg.cell (.int .u64 ((ix s7.2.2 s7.2.1).stored)), Seg.cell (.int .u64 ((ix s7.2.2 s7.2.1).sent)), Seg.cell (.bool ((ix s7.2.2 s7.2.1).flushed))]) from (O0_0.rd.elem g20.1 g20.2)) _ k22)) rfl rfl rfl ?_
        rintro _ w24 ⟨rfl, q23⟩
        have b_0 := b_0.gr q23
        have O0_0 := O0_0.gr q23
        have O0_1 := O0_1.gr q23
        have r12 := r12.gr q23
        have fB := fB.gr q23
        refine ol_nil ?_
        obtain ⟨x25, j26, h27⟩ := bs h
        refine cw_mid (fun ρ' w' => ∃ v28 : Value, ∃ O0_0 : Own k_pmem_cell 142 w' 0 V0_0 x25.2, ∃ O0_1 : Own (kI .i64) 3 w' 0 V0_1 a0.plan.list, ∃ r29 : Rd (kI .i64) w' v28 x25.1, OffR v28 x25.1 G_0 ∧ OffRV v28 x25.1 V0_0 ∧ OffRV v28 x25.1 V0_1 ∧ ρ' 0 = .pointer (some ⟨G_0, 0, none⟩) ∧ ρ' 1 = v28 ∧ ρ' 5 = .pointer (some ⟨(sb V0_0), so V0_0 + Int.toNat s7.2.1 * 4, none⟩) ∧ ρ' 11 = .int .i64 (List.length a0.cells : Int) ∧ ρ' 12 = .int .i64 s7.2.1 ∧ Blk w' G_0 139 [Seg.cell V0_0 O0_0.one, Seg.cell V0_1 O0_1.one, Seg.cell (.int .i64 a0.plan.at_), Seg.cell (.bool a0.off), Seg.cell (.bool a0.armed), Seg.cell (.int .i64 a0.left), Seg.cell (.int .i64 a0.steps)] ∧ Fr (fun j => j = G_0 ∨ some j = Value.ownBlock V0_0 ∨ some j = Value.ownBlock V0_1) w w') ?_ ?_
        · have h := j26
          rcases is h with ⟨c33, h⟩ | ⟨c33, h⟩
          · refine cw_condT rfl c33 ?_
            refine cw_seq ?_
            refine cw_region ?_
            refine ol_val (v := .int .i64 0) (by exact xr_assign rfl rfl) rfl rfl rfl ?_
            refine ol_nil ?_
            refine cw_seq ?_
            refine cw_seq ?_
            refine cw_region ?_
            refine ol_val (v := v11) (by exact xr_move rfl e1) rfl rfl rfl ?_
            refine ol_val (v := .int .i64 (List.length s7.1 : Int)) (by exact xr_lenR rfl Try.underlying25 rfl r12) rfl rfl rfl ?_
            refine ol_val (v := .bool (decide ((List.length s7.1 : Int) > 0))) (by exact xr_gtr rfl rfl rfl) rfl rfl rfl ?_
            refine ol_nil ?_
            obtain ⟨x34, j35, h36⟩ := bs h
            refine cw_mid (fun ρ' w' => ∃ v37 : Value, ∃ O0_0 : Own k_pmem_cell 142 w' 0 V0_0 s7.2.2, ∃ O0_1 : Own (kI .i64) 3 w' 0 V0_1 a0.plan.list, ∃ r38 : Rd (kI .i64) w' v37 x34.1, OffR v37 x34.1 G_0 ∧ OffRV v37 x34.1 V0_0 ∧ OffRV v37 x34.1 V0_1 ∧ ρ' 0 = .pointer (some ⟨G_0, 0, none⟩) ∧ ρ' 1 = v37 ∧ ρ' 5 = .pointer (some ⟨(sb V0_0), so V0_0 + Int.toNat s7.2.1 * 4, none⟩) ∧ ρ' 6 = .int .i64 x34.2 ∧ ρ' 11 = .int .i64 (List.length a0.cells : Int) ∧ ρ' 12 = .int .i64 s7.2.1 ∧ Blk w' G_0 139 [Seg.cell V0_0 O0_0.one, Seg.cell V0_1 O0_1.one, Seg.cell (.int .i64 a0.plan.at_), Seg.cell (.bool a0.off), Seg.cell (.bool a0.armed), Seg.cell (.int .i64 a0.left), Seg.cell (.int .i64 a0.steps)] ∧ Fr (fun j => j = G_0 ∨ some j = Value.ownBlock V0_0 ∨ some j = Value.ownBlock V0_1) w w') ?_ ?_
            · have h := j35
              rcases is h with ⟨c42, h⟩ | ⟨c42, h⟩
              · refine cw_condT rfl c42 ?_
                obtain ⟨g43, h⟩ := gs h
                obtain ⟨g45, h⟩ := gs h
                refine cw_drawL 6 [fun vz wz => vz = (v11 : Value), fun vz wz => vz = (.pointer (some ⟨(sb v11), so v11 + Int.toNat 0 * 1, none⟩) : Value), fun vz wz => vz = (.int .i64 (ix s7.1 0) : Value), fun vz wz => vz = (v11 : Value), fun vz wz => ∃ r44 : Rd (kI .i64) wz (subv 1 v11 (Int.toNat 1) (List.length s7.1)) (cut s7.1 1 (List.length s7.1 : Int)), vz = (subv 1 v11 (Int.toNat 1) (List.length s7.1) : Value), fun vz wz => vz = (.int .i64 (ix s7.1 0) : Value)] mo rfl ⟨fun _ _ _ h _ => h, fun _ _ _ h _ => h, fun _ _ _ h _ => h, fun _ _ _ h _ => h, fun _ _ _ ⟨r44, h⟩ q => ⟨r44.gr q, h⟩, fun _ _ _ h _ => h, trivial⟩ ?_ ?_
                · refine ⟨?_, ?_, ?_, ?_, ?_, ?_, trivial⟩
                  · intro ρz wz hz hk hd
                    exact sk_val (v := v11) (by exact xr_move rfl ((hk 1 rfl).trans e1)) rfl rfl
                  · intro ρz wz hz hk hd
                    have d26 := hd 0 rfl 26 rfl
                    exact sk_val (v := .pointer (some ⟨(sb v11), so v11 + Int.toNat 0 * 1, none⟩)) (by exact xr_indexR (K := (kI .i64)) (v := v11) rfl Try.underlying25 sz3 d26 (r12.gr hz) rfl (by decide) g43) rfl rfl
                  · intro ρz wz hz hk hd
                    have d27 := hd 1 rfl 27 rfl
                    exact sk_val (v := .int .i64 (ix s7.1 0)) (by exact xr_load1 (v := .int .i64 (ix s7.1 0)) rfl ag3 d27 ((r12.gr hz).elem (by decide) g43)) rfl rfl
                  · intro ρz wz hz hk hd
                    exact sk_val (v := v11) (by exact xr_move rfl ((hk 1 rfl).trans e1)) rfl rfl
                  · intro ρz wz hz hk hd
                    have d29 := hd 3 rfl 29 rfl
                    exact sk_val (by exact xr_slice_l (K := (kI .i64)) (v := v11) rfl Try.underlying25 sz3 d29 (r12.gr hz) rfl (by decide) g45) rfl ⟨(r12.gr hz).cut (lo := 1) (hi := (List.length s7.1 : Int)) (by decide) g45 (Int.le_refl _), rfl⟩
                  · intro ρz wz hz hk hd
                    have d28 := hd 2 rfl 28 rfl
                    exact sk_val (v := .int .i64 (ix s7.1 0)) (by exact xr_assign rfl d28) rfl rfl
                · intro ρ46 w47 q48 hk hd
                  have e0 := (hk 0 rfl).trans e0
                  have e5 := (hk 5 rfl).trans rfl
                  have e6 := hd 5 rfl 6 rfl
                  have e11 := (hk 11 rfl).trans e11
                  have e12 := (hk 12 rfl).trans e12
                  obtain ⟨r49, e30⟩ := hd 4 rfl 30 rfl
                  have b_0 := b_0.gr q48
                  have O0_0 := O0_0.gr q48
                  have O0_1 := O0_1.gr q48
                  have fB := fB.gr q48
                  refine ol_val (v := subv 1 v11 (Int.toNat 1) (List.length s7.1)) (by exact xr_assign rfl e30) rfl rfl rfl ?_
                  refine ol_nil ?_
                  obtain rfl := Option.some.inj h
                  refine thn_i ?_
                  exact ⟨(subv 1 v11 (Int.toNat 1) (List.length s7.1)), O0_0, O0_1, r49, (OffR.cut a13), (OffRV.cut a14), (OffRV.cut a15), e0, rfl, e5, e6, e11, e12, b_0, fB⟩
              · refine cw_condF rfl c42 ?_
                refine cw_skip ?_
                obtain rfl := Option.some.inj h
                refine thn_i ?_
                exact ⟨v11, O0_0, O0_1, r12, a13, a14, a15, e0, e1, rfl, rfl, e11, e12, b_0, fB⟩
            · rintro ρ50 w51 ⟨v37, O0_0, O0_1, r38, a39, a40, a41, e0, e1, e5, e6, e11, e12, b_0, fB⟩
              have h := h36
              refine cw_region ?_
              refine ol_val (v := .pointer (some ⟨(sb V0_0), so V0_0 + Int.toNat s7.2.1 * 4, none⟩)) (by exact xr_move rfl e5) rfl rfl rfl ?_
              refine ol_val (v := .pointer (some ⟨(sb V0_0), so V0_0 + Int.toNat s7.2.1 * 4, none⟩)) (by exact xr_move rfl e5) rfl rfl rfl ?_
              refine ol_val (v := .int .i64 x34.2) (by exact xr_move rfl e6) rfl rfl rfl ?_
              obtain ⟨t52, k53, h⟩ := bs h
              refine ol_op (by exact opv_call rfl cal87 (ac rfl (ac rfl an)) (pmem_cell_fate__r0.ok fu _ (ix s7.2.2 s7.2.1) (sb V0_0) (so V0_0 + Int.toNat s7.2.1 * 4) (show At _ _ _ (cellsOf [Seg.cell (.int .u64 ((ix s7.2.2 s7.2.1).lasts)), Seg.cell (.int .u64 ((ix s7.2.2 s7.2.1).stored)), Seg.cell (.int .u64 ((ix s7.2.2 s7.2.1).sent)), Seg.cell (.bool ((ix s7.2.2 s7.2.1).flushed))]) from (O0_0.rd.elem g20.1 g20.2)) x34.2 _ k53)) rfl rfl rfl ?_
              rintro _ w55 ⟨rfl, q54⟩
              have b_0 := b_0.gr q54
              have O0_0 := O0_0.gr q54
              have O0_1 := O0_1.gr q54
              have r38 := r38.gr q54
              have fB := fB.gr q54
              obtain ⟨t62, k63, h⟩ := bs h
              have f66 := off_ty b_0 O0_0 (by decide)
              have f67 := OffV.ty O0_1 O0_0 (by decide)
              obtain ⟨X56, Y57, h58, h59, b60, k61⟩ := Own.sub (K := k_pmem_cell) (i := s7.2.1) (ss := [Seg.cell (.int .u64 ((ix s7.2.2 s7.2.1).lasts)), Seg.cell (.int .u64 ((ix s7.2.2 s7.2.1).stored)), Seg.cell (.int .u64 ((ix s7.2.2 s7.2.1).sent)), Seg.cell (.bool ((ix s7.2.2 s7.2.1).flushed))]) O0_0 g20.1 g20.2 rfl
              refine ol_op (by exact opv_call rfl cal85 (ac (ptrE (q := List.length X56) rfl h58) (ac rfl an)) (pmem_cell_keep__i0.ok fu _ (ix s7.2.2 s7.2.1) (sb V0_0) 142 X56 Y57 b60 t52 _ k63)) rfl rfl rfl ?_
              rintro _ w69 ⟨rfl, b65, q64⟩
              have O0_0 := k61 _ t62 [Seg.cell (.int .u64 t62.lasts), Seg.cell (.int .u64 t62.stored), Seg.cell (.int .u64 t62.sent), Seg.cell (.bool t62.flushed)] rfl b65
              have q64 := fr_own q64 h59
              have b_0 := b_0.wrO q64 f66
              have O0_1 := O0_1.wrV q64 f67
              have fB := fB.wrM q64 M0_0
              have r38 := r38.wrV q64 a40
              refine ol_nil ?_
              obtain rfl := Option.some.inj h
              refine thn_i ?_
              exact ⟨v37, O0_0, O0_1, r38, a39, a40, a41, e0, e1, e5, e11, e12, b_0, fB⟩
          · refine cw_condF rfl c33 ?_
            refine cw_skip ?_
            obtain rfl := Option.some.inj h
            refine thn_i ?_
            exact ⟨v11, O0_0, O0_1, r12, a13, a14, a15, e0, e1, rfl, e11, e12, b_0, fB⟩
        · rintro ρ70 w71 ⟨v28, O0_0, O0_1, r29, a30, a31, a32, e0, e1, e5, e11, e12, b_0, fB⟩
          have h := h27
          refine cw_region ?_
          refine ol_val (v := .pointer (some ⟨(sb V0_0), so V0_0 + Int.toNat s7.2.1 * 4, none⟩)) (by exact xr_move rfl e5) rfl rfl rfl ?_
          refine ol_val (v := .pointer (some ⟨(sb V0_0), so V0_0 + Int.toNat s7.2.1 * 4, none⟩)) (by exact xr_move rfl e5) rfl rfl rfl ?_
          refine ol_val (v := .pointer (some ⟨(sb V0_0), so V0_0 + Int.toNat s7.2.1 * 4, none⟩)) (by exact xr_nilCheck rfl rfl) rfl rfl rfl ?_
          refine ol_val (v := .pointer (some ⟨(sb V0_0), so V0_0 + Int.toNat s7.2.1 * 4 + 0, none⟩)) (by exact xr_fieldAddr (p := so V0_0 + Int.toNat s7.2.1 * 4) (q := 0) rfl fl142_0 rfl) rfl rfl rfl ?_
          obtain ⟨g72, h⟩ := gs h
          refine ol_val (v := .int .u64 ((ix x25.2 s7.2.1).lasts)) (by exact xr_load1 (v := .int .u64 ((ix x25.2 s7.2.1).lasts)) rfl ag22 rfl (At.segs (ss := segs_pmem_cell (ix x25.2 s7.2.1)) (O0_0.rd.elem g20.1 g72) 0 1 rfl)) rfl rfl rfl ?_
          refine ol_val (v := .pointer (some ⟨(sb V0_0), so V0_0 + Int.toNat s7.2.1 * 4, none⟩)) (by exact xr_nilCheck rfl rfl) rfl rfl rfl ?_
          refine ol_val (v := .pointer (some ⟨(sb V0_0), so V0_0 + Int.toNat s7.2.1 * 4 + 1, none⟩)) (by exact xr_fieldAddr (p := so V0_0 + Int.toNat s7.2.1 * 4) (q := 1) rfl fl142_1 rfl) rfl rfl rfl ?_
          obtain ⟨g74, h⟩ := gs h
          have f75 := off_ty b_0 O0_0 (by decide)
          have f76 := OffV.ty O0_1 O0_0 (by decide)
          refine ol_op0 (by exact opv_storeRow (z := (⟨(ix x25.2 s7.2.1).lasts, (ix x25.2 s7.2.1).lasts, (ix x25.2 s7.2.1).sent, (ix x25.2 s7.2.1).flushed⟩ : S_pmem_cell)) (xs := cellsOf [Seg.cell (.int .u64 ((ix x25.2 s7.2.1).lasts))]) rfl sz22 rfl rfl rfl (len_cellsOf _) (one_cellsOf _) O0_0 g20.1 g74 (Spl.segs (segs_pmem_cell (ix x25.2 s7.2.1)) 1 1 [Seg.cell (.int .u64 ((ix x25.2 s7.2.1).lasts))] rfl rfl) rfl) rfl rfl ?_
          rintro _ w78 ⟨O0_0, q73⟩
          have b_0 := b_0.wrO q73 f75
          have O0_1 := O0_1.wrV q73 f76
          have fB := fB.wrM q73 M0_0
          have r29 := r29.wrV q73 a31
          refine ol_nil ?_
          refine blk_i ?_
          refine cw_region ?_
          refine ol_val (v := .int .i64 (IntKind.i64.wrap (s7.2.1 + 1))) (by exact xr_add rfl e12 rfl) rfl rfl rfl ?_
          refine ol_val (v := .int .i64 (IntKind.i64.wrap (s7.2.1 + 1))) (by exact xr_move rfl rfl) rfl rfl rfl ?_
          refine ol_nil ?_
          obtain rfl := Option.some.inj h
          refine lp_in ?_
          exact ⟨v28, O0_0, O0_1, r29, a30, a31, a32, e0, e1, e11, rfl, b_0, fB⟩
      · refine cw_condF rfl c19 ?_
        refine cw_exit ?_
        repeat (first | with_reducible refine thn_e ?_ | with_reducible refine blk_e rfl ?_)
        obtain rfl := Option.some.inj h
        refine lp_exit ?_
        rintro rfl
        refine thn_x ?_
        exact ⟨O0_0, O0_1, e0, b_0, fB⟩
  · rintro ρ79 w80 ⟨O0_0, O0_1, e0, b_0, fB⟩
    have h := h10
    refine cw_seq ?_
    refine cw_region ?_
    refine ol_val (v := .pointer (some ⟨G_0, 0, none⟩)) (by exact xr_move rfl e0) rfl rfl rfl ?_
    refine ol_val (v := aggV [Seg.cell (.slice none 0 0) (by rfl), Seg.cell (.int .i64 (0 : Int))]) (by exact xr_build (vals := []) rfl trivial (bl137_ _)) rfl rfl rfl ?_
    refine ol_val (v := .pointer (some ⟨G_0, 0, none⟩)) (by exact xr_nilCheck rfl rfl) rfl rfl rfl ?_
    refine ol_val (v := .pointer (some ⟨G_0, 1, none⟩)) (by exact xr_fieldAddr (p := 0) (q := 1) rfl fl139_1 rfl) rfl rfl rfl ?_
    have f82 := off_ty b_0 O0_0 (by decide)
    refine ol_op0 (by exact opv_store (ss' := [Seg.cell V0_0 O0_0.one, Seg.cell (.slice none 0 0) (by rfl), Seg.cell (.int .i64 (0 : Int)), Seg.cell (.bool a0.off), Seg.cell (.bool a0.armed), Seg.cell (.int .i64 a0.left), Seg.cell (.int .i64 a0.steps)]) (xs := cellsOf [Seg.cell (.slice none 0 0) (by rfl), Seg.cell (.int .i64 (0 : Int))]) rfl sz137 rfl rfl rfl (len_cellsOf _) (one_cellsOf _) b_0 (Spl.segs _ 1 2 [Seg.cell (.slice none 0 0) (by rfl), Seg.cell (.int .i64 (0 : Int))] rfl rfl)) rfl rfl ?_
    rintro _ w83 ⟨b_0, q81⟩
    have O0_0 := O0_0.wr q81 f82
    have fB := fB.wrS q81 (.inl rfl)
    refine ol_nil ?_
    refine cw_region ?_
    refine ol_val (v := .pointer (some ⟨G_0, 0, none⟩)) (by exact xr_move rfl e0) rfl rfl rfl ?_
    refine ol_val (v := .pointer (some ⟨G_0, 0, none⟩)) (by exact xr_move rfl e0) rfl rfl rfl ?_
    refine ol_val (v := .pointer (some ⟨G_0, 0, none⟩)) (by exact xr_move rfl e0) rfl rfl rfl ?_
    refine ol_val (v := .pointer (some ⟨G_0, 0, none⟩)) (by exact xr_nilCheck rfl rfl) rfl rfl rfl ?_
    refine ol_val (v := .pointer (some ⟨G_0, 3, none⟩)) (by exact xr_fieldAddr (p := 0) (q := 3) rfl fl139_2 rfl) rfl rfl rfl ?_
    have f85 := off_ty b_0 O0_0 (by decide)
    refine ol_op0 (by exact opv_store (ss' := [Seg.cell V0_0 O0_0.one, Seg.cell (.slice none 0 0) (by rfl), Seg.cell (.int .i64 (0 : Int)), Seg.cell (.bool false), Seg.cell (.bool a0.armed), Seg.cell (.int .i64 a0.left), Seg.cell (.int .i64 a0.steps)]) (xs := cellsOf [Seg.cell (.bool false)]) rfl sz4 rfl rfl rfl (len_cellsOf _) (one_cellsOf _) b_0 (Spl.segs _ 3 1 [Seg.cell (.bool false)] rfl rfl)) rfl rfl ?_
    rintro _ w86 ⟨b_0, q84⟩
    have O0_0 := O0_0.wr q84 f85
    have fB := fB.wrS q84 (.inl rfl)
    refine ol_val (v := .pointer (some ⟨G_0, 0, none⟩)) (by exact xr_nilCheck rfl rfl) rfl rfl rfl ?_
    refine ol_val (v := .pointer (some ⟨G_0, 4, none⟩)) (by exact xr_fieldAddr (p := 0) (q := 4) rfl fl139_3 rfl) rfl rfl rfl ?_
    have f88 := off_ty b_0 O0_0 (by decide)
    refine ol_op0 (by exact opv_store (ss' := [Seg.cell V0_0 O0_0.one, Seg.cell (.slice none 0 0) (by rfl), Seg.cell (.int .i64 (0 : Int)), Seg.cell (.bool false), Seg.cell (.bool false), Seg.cell (.int .i64 a0.left), Seg.cell (.int .i64 a0.steps)]) (xs := cellsOf [Seg.cell (.bool false)]) rfl sz4 rfl rfl rfl (len_cellsOf _) (one_cellsOf _) b_0 (Spl.segs _ 4 1 [Seg.cell (.bool false)] rfl rfl)) rfl rfl ?_
    rintro _ w89 ⟨b_0, q87⟩
    have O0_0 := O0_0.wr q87 f88
    have fB := fB.wrS q87 (.inl rfl)
    refine ol_val (v := .pointer (some ⟨G_0, 0, none⟩)) (by exact xr_nilCheck rfl rfl) rfl rfl rfl ?_
    refine ol_val (v := .pointer (some ⟨G_0, 5, none⟩)) (by exact xr_fieldAddr (p := 0) (q := 5) rfl fl139_4 rfl) rfl rfl rfl ?_
    have f91 := off_ty b_0 O0_0 (by decide)
    refine ol_op0 (by exact opv_store (ss' := [Seg.cell V0_0 O0_0.one, Seg.cell (.slice none 0 0) (by rfl), Seg.cell (.int .i64 (0 : Int)), Seg.cell (.bool false), Seg.cell (.bool false), Seg.cell (.int .i64 0), Seg.cell (.int .i64 a0.steps)]) (xs := cellsOf [Seg.cell (.int .i64 0)]) rfl sz3 rfl rfl rfl (len_cellsOf _) (one_cellsOf _) b_0 (Spl.segs _ 5 1 [Seg.cell (.int .i64 0)] rfl rfl)) rfl rfl ?_
    rintro _ w92 ⟨b_0, q90⟩
    have O0_0 := O0_0.wr q90 f91
    have fB := fB.wrS q90 (.inl rfl)
    refine ol_nil ?_
    obtain rfl := Option.some.inj h
    refine fin_end0 Try.results32 ?_
    exact ⟨_, rfl, V0_0, (.slice none 0 0), O0_0, M0_0, Own.nil _ _ _ _, ms_nil, rfl, b_0, fB⟩
end Go.Proofs.Ytklhbaghbmndeaa

/- (*rickyard/pmem.Device).Load: its model, and that the Go function computes it: written by gen.py. -/
set_option linter.unusedVariables false
namespace Go.Proofs.Ytklhbaghbmndeaa
open Go Go.Xw
def pmem_Device_Load.f (fu : Nat) (a0 : S_pmem_Device) (a1 : Int) : Option (Int × Int) := ((pmem_Device_may.f fu a0 a1 (List.length a0.cells : Int) : Option Int).bind fun t1 => (if (!decide (t1 = 0)) = true then some (0, t1) else (if 0 ≤ a1 ∧ a1 < (List.length a0.cells : Int) then some ((ix a0.cells a1).stored, 0) else none)))
set_option maxRecDepth 100000 in
set_option maxHeartbeats 400000 in
theorem pmem_Device_Load.ok (fu : Nat) (w : World) (a0 : S_pmem_Device) (G_0 : Nat) (V0_0 : Value) (R0_0 : Rd k_pmem_cell w V0_0 a0.cells) (V0_1 : Value) (R0_1 : Rd (kI .i64) w V0_1 a0.plan.list) (b_0 : Blk w G_0 139 [Seg.cell V0_0 R0_0.one, Seg.cell V0_1 R0_1.one, Seg.cell (.int .i64 a0.plan.at_), Seg.cell (.bool a0.off), Seg.cell (.bool a0.armed), Seg.cell (.int .i64 a0.left), Seg.cell (.int .i64 a0.steps)]) (a1 : Int) (r : Int × Int) (h : pmem_Device_Load.f fu a0 a1 = some r) :
    Calls Try.prog 82 (([.pointer (some ⟨G_0, 0, none⟩), .int .i64 a1] : List Value).toArray) w (fun e w' => ∃ v, e = .returned v ∧ v = .tuple #[.int .u64 r.1, .int .i64 r.2] ∧ Gr w w') := by
  unfold pmem_Device_Load.f at h
  have fB : Gr w w := Fr.refl _ _
  refine calls_cw Try.func82 rfl Try.ntmps82 rfl ?_
  refine cw_seq ?_
  refine cw_region ?_
  refine ol_val (v := .int .u64 0) (by exact xr_assign rfl rfl) rfl rfl rfl ?_
  refine ol_val (v := .int .i64 0) (by exact xr_assign rfl rfl) rfl rfl rfl ?_
  refine ol_nil ?_
  refine cw_seq ?_
  refine cw_seq ?_
  refine cw_region ?_
  refine ol_val (v := .pointer (some ⟨G_0, 0, none⟩)) (by exact xr_move rfl rfl) rfl rfl rfl ?_
  refine ol_val (v := .int .i64 a1) (by exact xr_move rfl rfl) rfl rfl rfl ?_
  refine ol_val (v := .pointer (some ⟨G_0, 0, none⟩)) (by exact xr_move rfl rfl) rfl rfl rfl ?_
  refine ol_val (v := .pointer (some ⟨G_0, 0, none⟩)) (by exact xr_nilCheck rfl rfl) rfl rfl rfl ?_
  refine ol_val (v := .pointer (some ⟨G_0, 0, none⟩)) (by exact xr_fieldAddr (p := 0) (q := 0) rfl fl139_0 rfl) rfl rfl rfl ?_
  refine ol_val (v := V0_0) (by exact xr_load1 (v := V0_0) rfl ag135 rfl (b_0.seg 0 rfl rfl)) rfl rfl rfl ?_
  refine ol_val (v := .int .i64 (List.length a0.cells : Int)) (by exact xr_lenR rfl Try.underlying135 rfl (R0_0.gr fB)) rfl rfl rfl ?_
  obtain ⟨t1, k2, h⟩ := bs h
  refine ol_op (by exact opv_call rfl cal83 (ac rfl (ac rfl (ac rfl an))) (pmem_Device_may.ok fu _ a0 G_0 V0_0 (R0_0.gr fB) V0_1 (R0_1.gr fB) b_0 a1 (List.length a0.cells : Int) _ k2)) rfl rfl rfl ?_
  rintro _ w4 ⟨rfl, q3⟩
  have b_0 := b_0.gr q3
  have fB := fB.gr q3
  refine ol_val (v := .int .i64 t1) (by exact xr_assign rfl rfl) rfl rfl rfl ?_
  refine ol_nil ?_
  refine cw_seq ?_
  refine cw_region ?_
  refine ol_val (v := .int .i64 t1) (by exact xr_move rfl rfl) rfl rfl rfl ?_
  refine ol_val (v := .bool (!decide (t1 = 0))) (by exact xr_neI rfl Try.underlying31 rfl rfl rfl) rfl rfl rfl ?_
  refine ol_nil ?_
  rcases is h with ⟨c5, h⟩ | ⟨c5, h⟩
  · refine cw_condT rfl c5 ?_
    refine cw_seq ?_
    refine cw_region ?_
    refine ol_val (v := .int .i64 t1) (by exact xr_move rfl rfl) rfl rfl rfl ?_
    refine ol_val (v := .int .u64 0) (by exact xr_assign rfl rfl) rfl rfl rfl ?_
    refine ol_val (v := .int .i64 t1) (by exact xr_assign rfl rfl) rfl rfl rfl ?_
    refine ol_nil ?_
    refine cw_ret ?_
    repeat (first | with_reducible refine thn_r ?_ | with_reducible refine blk_r ?_)
    obtain rfl := Option.some.inj h
    refine fin_ret2 Try.results82 rfl rfl ?_
    exact ⟨_, rfl, rfl, fB⟩
  · refine cw_condF rfl c5 ?_
    refine cw_skip ?_
    refine cw_seq ?_
    refine cw_region ?_
    refine ol_val (v := .pointer (some ⟨G_0, 0, none⟩)) (by exact xr_move rfl rfl) rfl rfl rfl ?_
    refine ol_val (v := .pointer (some ⟨G_0, 0, none⟩)) (by exact xr_nilCheck rfl rfl) rfl rfl rfl ?_
    refine ol_val (v := .pointer (some ⟨G_0, 0, none⟩)) (by exact xr_fieldAddr (p := 0) (q := 0) rfl fl139_0 rfl) rfl rfl rfl ?_
    refine ol_val (v := V0_0) (by exact xr_load1 (v := V0_0) rfl ag135 rfl (b_0.seg 0 rfl rfl)) rfl rfl rfl ?_
    refine ol_val (v := .int .i64 a1) (by exact xr_move rfl rfl) rfl rfl rfl ?_
    obtain ⟨g6, h⟩ := gs h
    refine ol_val (v := .pointer (some ⟨(sb V0_0), so V0_0 + Int.toNat a1 * 4, none⟩)) (by exact xr_indexR (K := k_pmem_cell) (v := V0_0) rfl Try.underlying135 sz142 rfl (R0_0.gr fB) rfl g6.1 g6.2) rfl rfl rfl ?_
    refine ol_val (v := .pointer (some ⟨(sb V0_0), so V0_0 + Int.toNat a1 * 4 + 1, none⟩)) (by exact xr_fieldAddr (p := so V0_0 + Int.toNat a1 * 4) (q := 1) rfl fl142_1 rfl) rfl rfl rfl ?_
    refine ol_val (v := .int .u64 ((ix a0.cells a1).stored)) (by exact xr_load1 (v := .int .u64 ((ix a0.cells a1).stored)) rfl ag22 rfl (At.segs (ss := segs_pmem_cell (ix a0.cells a1)) ((R0_0.gr fB).elem g6.1 g6.2) 1 1 rfl)) rfl rfl rfl ?_
    refine ol_val (v := .int .u64 ((ix a0.cells a1).stored)) (by exact xr_assign rfl rfl) rfl rfl rfl ?_
    refine ol_val (v := .int .i64 0) (by exact xr_assign rfl rfl) rfl rfl rfl ?_
    refine ol_nil ?_
    refine cw_ret ?_
    repeat (first | with_reducible refine thn_r ?_ | with_reducible refine blk_r ?_)
    obtain rfl := Option.some.inj h
    refine fin_ret2 Try.results82 rfl rfl ?_
    exact ⟨_, rfl, rfl, fB⟩
end Go.Proofs.Ytklhbaghbmndeaa

/- rickyard/rickyardlaw05.awake: its model, and that the Go function computes it: written by gen.py. -/
set_option linter.unusedVariables false
namespace Go.Proofs.Ytklhbaghbmndeaa
open Go Go.Xw
def rickyardlaw05_awake.f (fu : Nat) : Option Bool := ((pmem_New.f fu 1 : Option ((Option S_pmem_Device) × Int)).bind fun t1 => (Option.elim t1.1 (some (false)) (fun m8 => (if (!decide (t1.2 = 0)) = true then some (false) else ((pmem_Device_Store.f fu m8 0 5 : Option (Int × S_pmem_Device)).bind fun t22 => ((pmem_Device_Flush.f fu t22.2 0 : Option (Int × S_pmem_Device)).bind fun t35 => ((pmem_Device_Store.f fu t35.2 0 6 : Option (Int × S_pmem_Device)).bind fun t48 => ((pmem_Device_Fence.f fu t48.2 : Option (Int × S_pmem_Device)).bind fun t61 => ((pmem_Device_Crash.f fu t61.2 [] : Option S_pmem_Device).bind fun t74 => ((pmem_Device_Load.f fu t74 0 : Option (Int × Int)).bind fun t87 => some ((if (decide (t87.2 = 0)) = true then (decide (t87.1 = 5)) else false))))))))))))
set_option maxRecDepth 100000 in
set_option maxHeartbeats 400000 in
theorem rickyardlaw05_awake.ok (fu : Nat) (w : World)  (r : Bool) (h : rickyardlaw05_awake.f fu = some r) :
    Calls Try.prog 24 (([] : List Value).toArray) w (fun e w' => ∃ v, e = .returned v ∧ v = .bool r ∧ Gr w w') := by
  unfold rickyardlaw05_awake.f at h
  have fB : Gr w w := Fr.refl _ _
  refine calls_cw Try.func24 rfl Try.ntmps24 rfl ?_
  refine cw_seq ?_
  refine cw_region ?_
  refine ol_val (v := .bool false) (by exact xr_assign rfl rfl) rfl rfl rfl ?_
  refine ol_nil ?_
  refine cw_seq ?_
  refine cw_region ?_
  obtain ⟨t1, k2, h⟩ := bs h
  refine ol_op (by exact opv_call rfl cal26 (ac rfl an) (pmem_New.ok fu _ 1 _ k2)) rfl rfl rfl ?_
  rintro _ w6 ⟨u3, p4, rfl, q5⟩
  rcases en h with ⟨e7, h⟩ | ⟨m8, e7, h⟩
  · obtain rfl := p4.1 e7
    have fB := fB.gr q5
    refine ol_val (v := .tuple #[.pointer none, .int .i64 t1.2]) (by exact xr_move rfl rfl) rfl rfl rfl ?_
    refine ol_val (v := .pointer none) (by exact xr_extract rfl rfl rfl) rfl rfl rfl ?_
    refine ol_val (v := .int .i64 t1.2) (by exact xr_extract rfl rfl rfl) rfl rfl rfl ?_
    refine ol_val (v := .pointer none) (by exact xr_assign rfl rfl) rfl rfl rfl ?_
    refine ol_val (v := .int .i64 t1.2) (by exact xr_assign rfl rfl) rfl rfl rfl ?_
    refine ol_nil ?_
    refine cw_seq ?_
    refine cw_seq ?_
    refine cw_mid (fun ρ' w' => ρ' 1 = .pointer none ∧ ρ' 14 = .bool true ∧ w6 = w') ?_ ?_
    · skip
      refine cw_region ?_
      refine ol_val (v := .pointer none) (by exact xr_move rfl rfl) rfl rfl rfl ?_
      refine ol_val (v := .bool true) (by exact xr_eqP (b := true) rfl Try.underlying30 rfl rfl (by simp) (by simp)) rfl rfl rfl ?_
      refine ol_val (v := .bool true) (by exact xr_move rfl rfl) rfl rfl rfl ?_
      refine ol_gskip rfl rfl rfl rfl rfl rfl ?_
      refine ol_gskip rfl rfl rfl rfl rfl rfl ?_
      refine ol_val (v := .bool true) (by exact xr_pickT rfl rfl rfl rfl) rfl rfl rfl ?_
      refine ol_nil ?_
      refine thn_i ?_
      exact ⟨rfl, rfl, rfl⟩
    · skip
      rintro ρ9 _ ⟨e1, e14, rfl⟩
      refine cw_condT e14 rfl ?_
      refine cw_seq ?_
      refine cw_region ?_
      refine ol_val (v := .bool false) (by exact xr_assign rfl rfl) rfl rfl rfl ?_
      refine ol_nil ?_
      refine cw_ret ?_
      repeat (first | with_reducible refine thn_r ?_ | with_reducible refine blk_r ?_)
      obtain rfl := Option.some.inj h
      refine fin_ret1 Try.results24 rfl ?_
      exact ⟨_, rfl, rfl, fB⟩
  · skip
    obtain ⟨G10, u14, u17, o15, o18, rfl, z11, b12⟩ := p4.2 _ e7
    have o15 := Own.base o15 fB.size
    have o18 := Own.base o18 fB.size
    have z11 := Nat.le_trans fB.size z11
    have fB := fB.gr q5
    refine ol_val (v := .tuple #[.pointer (some ⟨G10, 0, none⟩), .int .i64 t1.2]) (by exact xr_move rfl rfl) rfl rfl rfl ?_
    refine ol_val (v := .pointer (some ⟨G10, 0, none⟩)) (by exact xr_extract rfl rfl rfl) rfl rfl rfl ?_
    refine ol_val (v := .int .i64 t1.2) (by exact xr_extract rfl rfl rfl) rfl rfl rfl ?_
    refine ol_val (v := .pointer (some ⟨G10, 0, none⟩)) (by exact xr_assign rfl rfl) rfl rfl rfl ?_
    refine ol_val (v := .int .i64 t1.2) (by exact xr_assign rfl rfl) rfl rfl rfl ?_
    refine ol_nil ?_
    refine cw_seq ?_
    refine cw_seq ?_
    refine cw_mid (fun ρ' w' => ρ' 1 = .pointer (some ⟨G10, 0, none⟩) ∧ ρ' 14 = .bool (!decide (t1.2 = 0)) ∧ w6 = w') ?_ ?_
    · skip
      refine cw_region ?_
      refine ol_val (v := .pointer (some ⟨G10, 0, none⟩)) (by exact xr_move rfl rfl) rfl rfl rfl ?_
      refine ol_val (v := .bool false) (by exact xr_eqP (b := false) rfl Try.underlying30 rfl rfl (by simp) (by simp)) rfl rfl rfl ?_
      refine ol_val (v := .bool false) (by exact xr_move rfl rfl) rfl rfl rfl ?_
      refine ol_gval (v := .int .i64 t1.2) (by exact xr_move rfl rfl) rfl rfl rfl rfl rfl rfl ?_
      refine ol_gval (v := .bool (!decide (t1.2 = 0))) (by exact xr_neI rfl Try.underlying31 rfl rfl rfl) rfl rfl rfl rfl rfl rfl ?_
      refine ol_val (v := .bool (!decide (t1.2 = 0))) (by exact xr_pickF rfl rfl rfl rfl) rfl rfl rfl ?_
      refine ol_nil ?_
      refine thn_i ?_
      exact ⟨rfl, rfl, rfl⟩
    · skip
      rintro ρ20 _ ⟨e1, e14, rfl⟩
      rcases is h with ⟨c21, h⟩ | ⟨c21, h⟩
      · refine cw_condT e14 c21 ?_
        refine cw_seq ?_
        refine cw_region ?_
        refine ol_val (v := .bool false) (by exact xr_assign rfl rfl) rfl rfl rfl ?_
        refine ol_nil ?_
        refine cw_ret ?_
        repeat (first | with_reducible refine thn_r ?_ | with_reducible refine blk_r ?_)
        obtain rfl := Option.some.inj h
        refine fin_ret1 Try.results24 rfl ?_
        exact ⟨_, rfl, rfl, fB⟩
      · refine cw_condF e14 c21 ?_
        refine cw_skip ?_
        refine cw_seq ?_
        refine cw_region ?_
        refine ol_val (v := .pointer (some ⟨G10, 0, none⟩)) (by exact xr_move rfl e1) rfl rfl rfl ?_
        obtain ⟨t22, k23, h⟩ := bs h
        have c33 : ∀ k, (k = G10 ∨ some k = Value.ownBlock u14 ∨ some k = Value.ownBlock u17) → w.heap.size ≤ k := (cv_or (cv_eq z11) (cv_or (cv_own o15.geO) (cv_own o18.geO)))
        refine ol_op (by exact opv_call rfl cal28 (ac rfl (ac rfl (ac rfl an))) (pmem_Device_Store.ok fu _ m8 G10 u14 (Own.base o15 (Nat.zero_le _)) u17 (Own.base o18 (Nat.zero_le _)) b12 0 5 _ k23)) rfl rfl rfl ?_
        rintro _ w34 ⟨u25, u29, o26, m27, o30, m31, rfl, b12, q24⟩
        have o26 := Own.rebase o26 (fun g hg => (m27 g hg).elim (fun x => Nat.le_trans fB.size x) (c33 g))
        have o30 := Own.rebase o30 (fun g hg => (m31 g hg).elim (fun x => Nat.le_trans fB.size x) (c33 g))
        have fB := fB.call q24 (fun k h => .inl (c33 k h))
        refine ol_nil ?_
        refine cw_seq ?_
        refine cw_region ?_
        refine ol_val (v := .pointer (some ⟨G10, 0, none⟩)) (by exact xr_move rfl e1) rfl rfl rfl ?_
        obtain ⟨t35, k36, h⟩ := bs h
        have c46 : ∀ k, (k = G10 ∨ some k = Value.ownBlock u25 ∨ some k = Value.ownBlock u29) → w.heap.size ≤ k := (cv_or (cv_eq z11) (cv_or (cv_own o26.geO) (cv_own o30.geO)))
        refine ol_op (by exact opv_call rfl cal29 (ac rfl (ac rfl an)) (pmem_Device_Flush.ok fu _ t22.2 G10 u25 (Own.base o26 (Nat.zero_le _)) u29 (Own.base o30 (Nat.zero_le _)) b12 0 _ k36)) rfl rfl rfl ?_
        rintro _ w47 ⟨u38, u42, o39, m40, o43, m44, rfl, b12, q37⟩
        have o39 := Own.rebase o39 (fun g hg => (m40 g hg).elim (fun x => Nat.le_trans fB.size x) (c46 g))
        have o43 := Own.rebase o43 (fun g hg => (m44 g hg).elim (fun x => Nat.le_trans fB.size x) (c46 g))
        have fB := fB.call q37 (fun k h => .inl (c46 k h))
        refine ol_nil ?_
        refine cw_seq ?_
        refine cw_region ?_
        refine ol_val (v := .pointer (some ⟨G10, 0, none⟩)) (by exact xr_move rfl e1) rfl rfl rfl ?_
        obtain ⟨t48, k49, h⟩ := bs h
        have c59 : ∀ k, (k = G10 ∨ some k = Value.ownBlock u38 ∨ some k = Value.ownBlock u42) → w.heap.size ≤ k := (cv_or (cv_eq z11) (cv_or (cv_own o39.geO) (cv_own o43.geO)))
        refine ol_op (by exact opv_call rfl cal28 (ac rfl (ac rfl (ac rfl an))) (pmem_Device_Store.ok fu _ t35.2 G10 u38 (Own.base o39 (Nat.zero_le _)) u42 (Own.base o43 (Nat.zero_le _)) b12 0 6 _ k49)) rfl rfl rfl ?_
        rintro _ w60 ⟨u51, u55, o52, m53, o56, m57, rfl, b12, q50⟩
        have o52 := Own.rebase o52 (fun g hg => (m53 g hg).elim (fun x => Nat.le_trans fB.size x) (c59 g))
        have o56 := Own.rebase o56 (fun g hg => (m57 g hg).elim (fun x => Nat.le_trans fB.size x) (c59 g))
        have fB := fB.call q50 (fun k h => .inl (c59 k h))
        refine ol_nil ?_
        refine cw_seq ?_
        refine cw_region ?_
        refine ol_val (v := .pointer (some ⟨G10, 0, none⟩)) (by exact xr_move rfl e1) rfl rfl rfl ?_
        obtain ⟨t61, k62, h⟩ := bs h
        have c72 : ∀ k, (k = G10 ∨ some k = Value.ownBlock u51 ∨ some k = Value.ownBlock u55) → w.heap.size ≤ k := (cv_or (cv_eq z11) (cv_or (cv_own o52.geO) (cv_own o56.geO)))
        refine ol_op (by exact opv_call rfl cal30 (ac rfl an) (pmem_Device_Fence.ok fu _ t48.2 G10 u51 (Own.base o52 (Nat.zero_le _)) u55 (Own.base o56 (Nat.zero_le _)) b12 _ k62)) rfl rfl rfl ?_
        rintro _ w73 ⟨u64, u68, o65, m66, o69, m70, rfl, b12, q63⟩
        have o65 := Own.rebase o65 (fun g hg => (m66 g hg).elim (fun x => Nat.le_trans fB.size x) (c72 g))
        have o69 := Own.rebase o69 (fun g hg => (m70 g hg).elim (fun x => Nat.le_trans fB.size x) (c72 g))
        have fB := fB.call q63 (fun k h => .inl (c72 k h))
        refine ol_nil ?_
        refine cw_seq ?_
        refine cw_region ?_
        refine ol_val (v := .pointer (some ⟨G10, 0, none⟩)) (by exact xr_move rfl e1) rfl rfl rfl ?_
        obtain ⟨t74, k75, h⟩ := bs h
        have c85 : ∀ k, (k = G10 ∨ some k = Value.ownBlock u64 ∨ some k = Value.ownBlock u68) → w.heap.size ≤ k := (cv_or (cv_eq z11) (cv_or (cv_own o65.geO) (cv_own o69.geO)))
        refine ol_op (by exact opv_call rfl cal32 (ac rfl (ac rfl an)) (pmem_Device_Crash.ok fu _ t61.2 G10 u64 (Own.base o65 (Nat.zero_le _)) u68 (Own.base o69 (Nat.zero_le _)) b12 [] (.slice none 0 0) (Rd.nil (kI .i64) _) (OffR.nil _ _) (OffRV.nilL _ _) (OffRV.nilL _ _) _ k75)) rfl rfl rfl ?_
        rintro _ w86 ⟨u77, u81, o78, m79, o82, m83, rfl, b12, q76⟩
        have o78 := Own.rebase o78 (fun g hg => (m79 g hg).elim (fun x => Nat.le_trans fB.size x) (c85 g))
        have o82 := Own.rebase o82 (fun g hg => (m83 g hg).elim (fun x => Nat.le_trans fB.size x) (c85 g))
        have fB := fB.call q76 (fun k h => .inl (c85 k h))
        refine ol_nil ?_
        refine cw_seq ?_
        refine cw_region ?_
        refine ol_val (v := .pointer (some ⟨G10, 0, none⟩)) (by exact xr_move rfl e1) rfl rfl rfl ?_
        obtain ⟨t87, k88, h⟩ := bs h
        refine ol_op (by exact opv_call rfl cal82 (ac rfl (ac rfl an)) (pmem_Device_Load.ok fu _ t74 G10 u77 (o78.rd) u81 (o82.rd) b12 0 _ k88)) rfl rfl rfl ?_
        rintro _ w90 ⟨rfl, q89⟩
        have fB := fB.gr q89
        refine ol_val (v := .tuple #[.int .u64 t87.1, .int .i64 t87.2]) (by exact xr_move rfl rfl) rfl rfl rfl ?_
        refine ol_val (v := .int .u64 t87.1) (by exact xr_extract rfl rfl rfl) rfl rfl rfl ?_
        refine ol_val (v := .int .i64 t87.2) (by exact xr_extract rfl rfl rfl) rfl rfl rfl ?_
        refine ol_val (v := .int .u64 t87.1) (by exact xr_assign rfl rfl) rfl rfl rfl ?_
        refine ol_val (v := .int .i64 t87.2) (by exact xr_assign rfl rfl) rfl rfl rfl ?_
        refine ol_nil ?_
        refine cw_seq ?_
        refine cw_mid (fun ρ' w' => ρ' 0 = .bool (if (decide (t87.2 = 0)) = true then (decide (t87.1 = 5)) else false) ∧ w90 = w') ?_ ?_
        · skip
          refine cw_region ?_
          refine ol_val (v := .int .i64 t87.2) (by exact xr_move rfl rfl) rfl rfl rfl ?_
          refine ol_val (v := .bool (decide (t87.2 = 0))) (by exact xr_eqI rfl Try.underlying31 rfl rfl rfl) rfl rfl rfl ?_
          refine ol_val (v := .bool (decide (t87.2 = 0))) (by exact xr_move rfl rfl) rfl rfl rfl ?_
          rcases bt (decide (t87.2 = 0)) with c91 | c91
          · skip
            refine ol_gval (v := .int .u64 t87.1) (by exact xr_move rfl rfl) rfl rfl rfl rfl rfl c91 ?_
            refine ol_gval (v := .bool (decide (t87.1 = 5))) (by exact xr_eqI rfl Try.underlying22 rfl rfl rfl) rfl rfl rfl rfl rfl c91 ?_
            refine ol_val (v := .bool (decide (t87.1 = 5))) (by exact xr_pickT rfl rfl c91 rfl) rfl rfl rfl ?_
            refine ol_val (v := .bool (decide (t87.1 = 5))) (by exact xr_assign rfl rfl) rfl rfl rfl ?_
            refine ol_nil ?_
            refine thn_i ?_
            exact ⟨(rfl).trans (congrArg (fun z => (.bool z : Value)) (show (decide (t87.1 = 5)) = (if (decide (t87.2 = 0)) = true then (decide (t87.1 = 5)) else false) from by rw [ite_t c91])), rfl⟩
          · skip
            refine ol_gskip rfl rfl rfl rfl rfl c91 ?_
            refine ol_gskip rfl rfl rfl rfl rfl c91 ?_
            refine ol_val (v := .bool false) (by exact xr_pickF rfl rfl c91 rfl) rfl rfl rfl ?_
            refine ol_val (v := .bool false) (by exact xr_assign rfl rfl) rfl rfl rfl ?_
            refine ol_nil ?_
            refine thn_i ?_
            exact ⟨(rfl).trans (congrArg (fun z => (.bool z : Value)) (show false = (if (decide (t87.2 = 0)) = true then (decide (t87.1 = 5)) else false) from by rw [ite_f c91])), rfl⟩
        · skip
          rintro ρ92 _ ⟨e0, rfl⟩
          refine cw_ret ?_
          repeat (first | with_reducible refine thn_r ?_ | with_reducible refine blk_r ?_)
          obtain rfl := Option.some.inj h
          refine fin_ret1 Try.results24 e0 ?_
          exact ⟨_, rfl, rfl, fB⟩
end Go.Proofs.Ytklhbaghbmndeaa

/- (*rickyard/pmem.Device).Image$1: its model, and that the Go function computes it: written by gen.py. -/
set_option linter.unusedVariables false
namespace Go.Proofs.Ytklhbaghbmndeaa
open Go Go.Xw
def pmem_Device_Image_1__r0.f (fu : Nat) (a0 : S_pmem_cell) : Option Int := some (a0.lasts)
set_option maxRecDepth 100000 in
set_option maxHeartbeats 400000 in
theorem pmem_Device_Image_1__r0.ok (fu : Nat) (w : World) (a0 : S_pmem_cell) (G_0 p_0 : Nat) (A_0 : At w G_0 p_0 (cellsOf [Seg.cell (.int .u64 a0.lasts), Seg.cell (.int .u64 a0.stored), Seg.cell (.int .u64 a0.sent), Seg.cell (.bool a0.flushed)])) (r : Int) (h : pmem_Device_Image_1__r0.f fu a0 = some r) :
    Calls Try.prog 89 (([.pointer (some ⟨G_0, p_0, none⟩)] : List Value).toArray) w (fun e w' => ∃ v, e = .returned v ∧ v = .int .u64 r ∧ Gr w w') := by
  unfold pmem_Device_Image_1__r0.f at h
  have fB : Gr w w := Fr.refl _ _
  refine calls_cw Try.func89 rfl Try.ntmps89 rfl ?_
  refine cw_seq ?_
  refine cw_region ?_
  refine ol_val (v := .int .u64 0) (by exact xr_assign rfl rfl) rfl rfl rfl ?_
  refine ol_nil ?_
  refine cw_seq ?_
  refine cw_region ?_
  refine ol_val (v := .pointer (some ⟨G_0, p_0, none⟩)) (by exact xr_move rfl rfl) rfl rfl rfl ?_
  refine ol_val (v := .pointer (some ⟨G_0, p_0, none⟩)) (by exact xr_nilCheck rfl rfl) rfl rfl rfl ?_
  refine ol_val (v := .pointer (some ⟨G_0, p_0 + 0, none⟩)) (by exact xr_fieldAddr (p := p_0) (q := 0) rfl fl142_0 rfl) rfl rfl rfl ?_
  refine ol_val (v := .int .u64 a0.lasts) (by exact xr_load1 (v := .int .u64 a0.lasts) rfl ag22 rfl (At.segs (ss := [Seg.cell (.int .u64 a0.lasts), Seg.cell (.int .u64 a0.stored), Seg.cell (.int .u64 a0.sent), Seg.cell (.bool a0.flushed)]) (At.gr A_0 fB) 0 1 rfl)) rfl rfl rfl ?_
  refine ol_val (v := .int .u64 a0.lasts) (by exact xr_assign rfl rfl) rfl rfl rfl ?_
  refine ol_nil ?_
  refine cw_ret ?_
  repeat (first | with_reducible refine thn_r ?_ | with_reducible refine blk_r ?_)
  obtain rfl := Option.some.inj h
  refine fin_ret1 Try.results89 rfl ?_
  exact ⟨_, rfl, rfl, fB⟩
end Go.Proofs.Ytklhbaghbmndeaa

/- rickyard/octet.Lay: its model, and that the Go function computes it: written by gen.py. -/
set_option linter.unusedVariables false
namespace Go.Proofs.Ytklhbaghbmndeaa
open Go Go.Xw
def octet_Lay.s0 (fu : Nat) (a1 : Int) : (Int × Int × (List Int)) → Option (Sum (List Int) (Int × Int × (List Int))) := fun s14 => (if (decide (s14.2.1 < (List.length (List.replicate (Int.toNat a1) (0 : Int)) : Int))) = true then (if 0 ≤ s14.2.1 ∧ s14.2.1 < (List.length s14.2.2 : Int) then some (Sum.inr ((shR .u64 s14.1 8), (IntKind.i64.wrap (s14.2.1 + 1)), (List.set s14.2.2 (Int.toNat s14.2.1) (IntKind.u8.wrap s14.1)))) else none) else some (Sum.inl (s14.2.2)))
def octet_Lay.f (fu : Nat) (a0 : Int) (a1 : Int) : Option (List Int) := (if (if (decide (a1 < 0)) = true then true else (decide (a1 > 8))) = true then some ([]) else (if 0 ≤ a1 ∧ Int.toNat a1 ≤ LIM then ((loopM (octet_Lay.s0 fu a1) fu (a0, 0, (List.replicate (Int.toNat a1) (0 : Int)))).bind fun e15 => some (e15)) else none))
set_option maxRecDepth 100000 in
set_option maxHeartbeats 400000 in
theorem octet_Lay.ok (fu : Nat) (w : World) (a0 : Int) (a1 : Int) (r : (List Int)) (h : octet_Lay.f fu a0 a1 = some r) :
    Calls Try.prog 128 (([.int .u64 a0, .int .i64 a1] : List Value).toArray) w (fun e w' => ∃ v, e = .returned v ∧ ∃ u1 : Value, ∃ o2 : Own (kI .u8) 5 w' w.heap.size u1 r, v = u1 ∧ Gr w w') := by
  unfold octet_Lay.f at h
  have fB : Gr w w := Fr.refl _ _
  refine calls_cw Try.func128 rfl Try.ntmps128 rfl ?_
  refine cw_seq ?_
  refine cw_region ?_
  refine ol_val (v := .slice none 0 0) (by exact xr_assign rfl rfl) rfl rfl rfl ?_
  refine ol_nil ?_
  refine cw_seq ?_
  refine cw_seq ?_
  refine cw_mid (fun ρ' w' => ρ' 0 = .int .u64 a0 ∧ ρ' 1 = .int .i64 a1 ∧ ρ' 12 = .bool (if (decide (a1 < 0)) = true then true else (decide (a1 > 8))) ∧ w = w') ?_ ?_
  · skip
    refine cw_region ?_
    refine ol_val (v := .int .i64 a1) (by exact xr_move rfl rfl) rfl rfl rfl ?_
    refine ol_val (v := .bool (decide (a1 < 0))) (by exact xr_lss rfl rfl rfl) rfl rfl rfl ?_
    refine ol_val (v := .bool (decide (a1 < 0))) (by exact xr_move rfl rfl) rfl rfl rfl ?_
    rcases bt (decide (a1 < 0)) with c4 | c4
    · skip
      refine ol_gskip rfl rfl rfl rfl rfl c4 ?_
      refine ol_gskip rfl rfl rfl rfl rfl c4 ?_
      refine ol_val (v := .bool true) (by exact xr_pickT rfl rfl c4 rfl) rfl rfl rfl ?_
      refine ol_nil ?_
      refine thn_i ?_
      exact ⟨rfl, rfl, (rfl).trans (congrArg (fun z => (.bool z : Value)) (show true = (if (decide (a1 < 0)) = true then true else (decide (a1 > 8))) from by rw [ite_t c4])), rfl⟩
    · skip
      refine ol_gval (v := .int .i64 a1) (by exact xr_move rfl rfl) rfl rfl rfl rfl rfl c4 ?_
      refine ol_gval (v := .bool (decide (a1 > 8))) (by exact xr_gtr rfl rfl rfl) rfl rfl rfl rfl rfl c4 ?_
      refine ol_val (v := .bool (decide (a1 > 8))) (by exact xr_pickF rfl rfl c4 rfl) rfl rfl rfl ?_
      refine ol_nil ?_
      refine thn_i ?_
      exact ⟨rfl, rfl, (rfl).trans (congrArg (fun z => (.bool z : Value)) (show (decide (a1 > 8)) = (if (decide (a1 < 0)) = true then true else (decide (a1 > 8))) from by rw [ite_f c4])), rfl⟩
  · skip
    rintro ρ5 _ ⟨e0, e1, e12, rfl⟩
    rcases is h with ⟨c6, h⟩ | ⟨c6, h⟩
    · refine cw_condT e12 c6 ?_
      refine cw_seq ?_
      refine cw_region ?_
      refine ol_val (v := .slice none 0 0) (by exact xr_assign rfl rfl) rfl rfl rfl ?_
      refine ol_nil ?_
      refine cw_ret ?_
      repeat (first | with_reducible refine thn_r ?_ | with_reducible refine blk_r ?_)
      obtain rfl := Option.some.inj h
      refine fin_ret1 Try.results128 rfl ?_
      exact ⟨_, rfl, (.slice none 0 0), Own.nil _ _ _ _, rfl, fB⟩
    · refine cw_condF e12 c6 ?_
      refine cw_skip ?_
      refine cw_seq ?_
      refine cw_region ?_
      refine ol_val (v := .int .i64 a1) (by exact xr_move rfl e1) rfl rfl rfl ?_
      obtain ⟨g7, h⟩ := gs h
      refine ol_op (by exact opv_make (K := (kI .u8)) (z := (0 : Int)) rfl Try.underlying43 el5 rfl rfl rfl g7.1 g7.2 rfl fB.size) rfl rfl rfl ?_
      rintro v8 w13 ⟨o10, q9, z11⟩
      have fB := fB.gr q9
      refine ol_val (v := v8) (by exact xr_assign rfl rfl) rfl rfl rfl ?_
      refine ol_nil ?_
      refine cw_seq ?_
      refine cw_seq ?_
      refine cw_region ?_
      refine ol_val (v := v8) (by exact xr_move rfl rfl) rfl rfl rfl ?_
      refine ol_val (v := .int .i64 (List.length (List.replicate (Int.toNat a1) (0 : Int)) : Int)) (by exact xr_lenR rfl Try.underlying43 rfl o10.rd) rfl rfl rfl ?_
      refine ol_val (v := .int .i64 0) (by exact xr_move rfl rfl) rfl rfl rfl ?_
      refine ol_nil ?_
      obtain ⟨e15, l16, h17⟩ := bs h
      refine cw_mid (fun ρ' w' => ∃ o10 : Own (kI .u8) 5 w' w.heap.size v8 e15, ρ' 5 = v8 ∧ Gr w w') ?_ ?_
      · refine cw_block ?_
        refine cw_round (fun (s14 : Int × Int × (List Int)) ρ' w' => ∃ o10 : Own (kI .u8) 5 w' w.heap.size v8 s14.2.2, ρ' 0 = .int .u64 s14.1 ∧ ρ' 5 = v8 ∧ ρ' 16 = .int .i64 (List.length (List.replicate (Int.toNat a1) (0 : Int)) : Int) ∧ ρ' 17 = .int .i64 s14.2.1 ∧ Gr w w') l16 ?_ ?_
        · skip
          exact ⟨o10, e0, rfl, rfl, rfl, fB⟩
        · rintro s14 x20 ρ18 w19 ⟨o10, e0, e5, e16, e17, fB⟩ h
          unfold octet_Lay.s0 at h
          refine cw_seq ?_
          refine cw_region ?_
          refine ol_val (v := .bool (decide (s14.2.1 < (List.length (List.replicate (Int.toNat a1) (0 : Int)) : Int)))) (by exact xr_lss rfl e17 e16) rfl rfl rfl ?_
          refine ol_nil ?_
          refine cw_seq ?_
          rcases is h with ⟨c21, h⟩ | ⟨c21, h⟩
          · refine cw_condT rfl c21 ?_
            refine cw_skip ?_
            refine cw_seq ?_
            refine cw_block ?_
            refine cw_seq ?_
            refine cw_region ?_
            refine ol_val (v := .int .i64 s14.2.1) (by exact xr_move rfl e17) rfl rfl rfl ?_
            refine ol_val (v := .int .i64 s14.2.1) (by exact xr_assign rfl rfl) rfl rfl rfl ?_
            refine ol_nil ?_
            refine cw_seq ?_
            refine cw_region ?_
            refine ol_val (v := v8) (by exact xr_move rfl e5) rfl rfl rfl ?_
            refine ol_val (v := .int .i64 s14.2.1) (by exact xr_move rfl rfl) rfl rfl rfl ?_
            refine ol_val (v := .int .u64 s14.1) (by exact xr_move rfl e0) rfl rfl rfl ?_
            refine ol_val (v := .int .u8 (IntKind.u8.wrap s14.1)) (by exact xr_conv rfl Try.underlying22 Try.underlying5 rfl) rfl rfl rfl ?_
            obtain ⟨g22, h⟩ := gs h
            refine ol_val (v := .pointer (some ⟨(sb v8), so v8 + Int.toNat s14.2.1 * 1, none⟩)) (by exact xr_indexR (K := (kI .u8)) (v := v8) rfl Try.underlying43 sz5 rfl o10.rd rfl g22.1 g22.2) rfl rfl rfl ?_
            have f24 := o10.geO
            refine ol_op0 (by exact opv_storeRow (z := (IntKind.u8.wrap s14.1)) (xs := cellsOf [Seg.cell (.int .u8 (IntKind.u8.wrap s14.1))]) rfl sz5 rfl rfl rfl (len_cellsOf _) (one_cellsOf _) o10 g22.1 g22.2 (Spl.whole ((Kd.len _ _).trans (Kd.len _ _).symm)) rfl) rfl rfl ?_
            rintro _ w25 ⟨o10, q23⟩
            have fB := fB.wrO q23 f24
            refine ol_nil ?_
            refine cw_region ?_
            refine ol_val (v := .int .u64 s14.1) (by exact xr_move rfl e0) rfl rfl rfl ?_
            refine ol_val (v := .int .u64 (shR .u64 s14.1 8)) (by exact xr_shr rfl rfl rfl (by decide)) rfl rfl rfl ?_
            refine ol_val (v := .int .u64 (shR .u64 s14.1 8)) (by exact xr_assign rfl rfl) rfl rfl rfl ?_
            refine ol_nil ?_
            refine blk_i ?_
            refine cw_region ?_
            refine ol_val (v := .int .i64 (IntKind.i64.wrap (s14.2.1 + 1))) (by exact xr_add rfl e17 rfl) rfl rfl rfl ?_
            refine ol_val (v := .int .i64 (IntKind.i64.wrap (s14.2.1 + 1))) (by exact xr_move rfl rfl) rfl rfl rfl ?_
            refine ol_nil ?_
            obtain rfl := Option.some.inj h
            refine lp_in ?_
            exact ⟨o10, rfl, e5, e16, rfl, fB⟩
          · refine cw_condF rfl c21 ?_
            refine cw_exit ?_
            repeat (first | with_reducible refine thn_e ?_ | with_reducible refine blk_e rfl ?_)
            obtain rfl := Option.some.inj h
            refine lp_exit ?_
            rintro rfl
            refine thn_x ?_
            exact ⟨o10, e5, fB⟩
      · rintro ρ26 w27 ⟨o10, e5, fB⟩
        have h := h17
        refine cw_seq ?_
        refine cw_region ?_
        refine ol_val (v := v8) (by exact xr_move rfl e5) rfl rfl rfl ?_
        refine ol_val (v := v8) (by exact xr_assign rfl rfl) rfl rfl rfl ?_
        refine ol_nil ?_
        refine cw_ret ?_
        repeat (first | with_reducible refine thn_r ?_ | with_reducible refine blk_r ?_)
        obtain rfl := Option.some.inj h
        refine fin_ret1 Try.results128 rfl ?_
        exact ⟨_, rfl, v8, o10, rfl, fB⟩
end Go.Proofs.Ytklhbaghbmndeaa

/- rickyard/octet.Octets: its model, and that the Go function computes it: written by gen.py. -/
set_option linter.unusedVariables false
namespace Go.Proofs.Ytklhbaghbmndeaa
open Go Go.Xw
def octet_Octets.s0 (fu : Nat) (a0 : List Int) : ((List Int) × Int) → Option (Sum (List Int) ((List Int) × Int)) := fun s4 => (if (decide (s4.2 < (List.length a0 : Int))) = true then (if 0 ≤ s4.2 ∧ s4.2 < (List.length a0 : Int) then ((octet_Lay.f fu (ix a0 s4.2) 8 : Option (List Int)).bind fun t19 => (if List.length s4.1 + List.length t19 ≤ LIM then some (Sum.inr ((s4.1 ++ t19), (IntKind.i64.wrap (s4.2 + 1)))) else none)) else none) else some (Sum.inl (s4.1)))
def octet_Octets.f (fu : Nat) (a0 : List Int) : Option (List Int) := ((loopM (octet_Octets.s0 fu a0) fu ([], 0)).bind fun e5 => some (e5))
set_option maxRecDepth 100000 in
set_option maxHeartbeats 400000 in
theorem octet_Octets.ok (fu : Nat) (w : World) (a0 : List Int) (V0_0 : Value) (R0_0 : Rd (kI .u64) w V0_0 a0) (r : (List Int)) (h : octet_Octets.f fu a0 = some r) :
    Calls Try.prog 104 (([V0_0] : List Value).toArray) w (fun e w' => ∃ v, e = .returned v ∧ ∃ u1 : Value, ∃ o2 : Own (kI .u8) 5 w' w.heap.size u1 r, v = u1 ∧ Gr w w') := by
  unfold octet_Octets.f at h
  have fB : Gr w w := Fr.refl _ _
  refine calls_cw Try.func104 rfl Try.ntmps104 rfl ?_
  refine cw_seq ?_
  refine cw_region ?_
  refine ol_val (v := .slice none 0 0) (by exact xr_assign rfl rfl) rfl rfl rfl ?_
  refine ol_nil ?_
  refine cw_seq ?_
  refine cw_region ?_
  refine ol_val (v := .slice none 0 0) (by exact xr_assign rfl rfl) rfl rfl rfl ?_
  refine ol_nil ?_
  refine cw_seq ?_
  refine cw_seq ?_
  refine cw_region ?_
  refine ol_val (v := V0_0) (by exact xr_move rfl rfl) rfl rfl rfl ?_
  refine ol_val (v := .int .i64 (List.length a0 : Int)) (by exact xr_lenR rfl Try.underlying46 rfl (R0_0.gr fB)) rfl rfl rfl ?_
  refine ol_val (v := .int .i64 0) (by exact xr_move rfl rfl) rfl rfl rfl ?_
  refine ol_nil ?_
  obtain ⟨e5, l6, h7⟩ := bs h
  refine cw_mid (fun ρ' w' => ∃ v8 : Value, ∃ o9 : Own (kI .u8) 5 w' w.heap.size v8 e5, ρ' 3 = v8 ∧ Gr w w') ?_ ?_
  · refine cw_block ?_
    refine cw_round (fun (s4 : (List Int) × Int) ρ' w' => ∃ v11 : Value, ∃ o12 : Own (kI .u8) 5 w' w.heap.size v11 s4.1, ρ' 3 = v11 ∧ ρ' 6 = V0_0 ∧ ρ' 7 = .int .i64 (List.length a0 : Int) ∧ ρ' 8 = .int .i64 s4.2 ∧ Gr w w') l6 ?_ ?_
    · skip
      exact ⟨(.slice none 0 0), Own.nil _ _ _ _, rfl, rfl, rfl, rfl, fB⟩
    · rintro s4 x16 ρ14 w15 ⟨v11, o12, e3, e6, e7, e8, fB⟩ h
      unfold octet_Octets.s0 at h
      refine cw_seq ?_
      refine cw_region ?_
      refine ol_val (v := .bool (decide (s4.2 < (List.length a0 : Int)))) (by exact xr_lss rfl e8 e7) rfl rfl rfl ?_
      refine ol_nil ?_
      refine cw_seq ?_
      rcases is h with ⟨c17, h⟩ | ⟨c17, h⟩
      · refine cw_condT rfl c17 ?_
        refine cw_skip ?_
        refine cw_seq ?_
        refine cw_block ?_
        refine cw_seq ?_
        refine cw_region ?_
        obtain ⟨g18, h⟩ := gs h
        refine ol_val (v := .pointer (some ⟨(sb V0_0), so V0_0 + Int.toNat s4.2 * 1, none⟩)) (by exact xr_indexR (K := (kI .u64)) (v := V0_0) rfl Try.underlying46 sz22 e6 (R0_0.gr fB) e8 g18.1 g18.2) rfl rfl rfl ?_
        refine ol_val (v := .int .u64 (ix a0 s4.2)) (by exact xr_load1 (v := .int .u64 (ix a0 s4.2)) rfl ag22 rfl ((R0_0.gr fB).elem g18.1 g18.2)) rfl rfl rfl ?_
        refine ol_val (v := .int .u64 (ix a0 s4.2)) (by exact xr_assign rfl rfl) rfl rfl rfl ?_
        refine ol_nil ?_
        refine cw_region ?_
        refine ol_val (v := v11) (by exact xr_move rfl e3) rfl rfl rfl ?_
        refine ol_val (v := .int .u64 (ix a0 s4.2)) (by exact xr_move rfl rfl) rfl rfl rfl ?_
        obtain ⟨t19, k20, h⟩ := bs h
        refine ol_op (by exact opv_call rfl cal128 (ac rfl (ac rfl an)) (octet_Lay.ok fu _ (ix a0 s4.2) 8 _ k20)) rfl rfl rfl ?_
        rintro u21 w25 ⟨_, o22, rfl, q24⟩
        have a26 := OffV.call o12 o22
        have o22 := Own.base o22 fB.size
        have o12 := o12.gr q24
        have fB := fB.gr q24
        obtain ⟨g31, h⟩ := gs h
        have f33 := o12.geO
        refine ol_op (by exact opv_append (K := (kI .u8)) rfl Try.underlying43 el5 rfl rfl rfl rfl rfl o12 o22.rd g31 fB.size) rfl rfl rfl ?_
        rintro v27 w34 ⟨o28, q29, n30⟩
        have fB := fB.wrO q29 f33
        refine ol_val (v := v27) (by exact xr_assign rfl rfl) rfl rfl rfl ?_
        refine ol_nil ?_
        refine blk_i ?_
        refine cw_region ?_
        refine ol_val (v := .int .i64 (IntKind.i64.wrap (s4.2 + 1))) (by exact xr_add rfl e8 rfl) rfl rfl rfl ?_
        refine ol_val (v := .int .i64 (IntKind.i64.wrap (s4.2 + 1))) (by exact xr_move rfl rfl) rfl rfl rfl ?_
        refine ol_nil ?_
        obtain rfl := Option.some.inj h
        refine lp_in ?_
        exact ⟨v27, o28, rfl, e6, e7, rfl, fB⟩
      · refine cw_condF rfl c17 ?_
        refine cw_exit ?_
        repeat (first | with_reducible refine thn_e ?_ | with_reducible refine blk_e rfl ?_)
        obtain rfl := Option.some.inj h
        refine lp_exit ?_
        rintro rfl
        refine thn_x ?_
        exact ⟨v11, o12, e3, fB⟩
  · rintro ρ35 w36 ⟨v8, o9, e3, fB⟩
    have h := h7
    refine cw_seq ?_
    refine cw_region ?_
    refine ol_val (v := v8) (by exact xr_move rfl e3) rfl rfl rfl ?_
    refine ol_val (v := v8) (by exact xr_assign rfl rfl) rfl rfl rfl ?_
    refine ol_nil ?_
    refine cw_ret ?_
    repeat (first | with_reducible refine thn_r ?_ | with_reducible refine blk_r ?_)
    obtain rfl := Option.some.inj h
    refine fin_ret1 Try.results104 rfl ?_
    exact ⟨_, rfl, v8, o9, rfl, fB⟩
end Go.Proofs.Ytklhbaghbmndeaa

/- (*rickyard/pmem.Device).octets: its model, and that the Go function computes it: written by gen.py. -/
set_option linter.unusedVariables false
namespace Go.Proofs.Ytklhbaghbmndeaa
open Go Go.Xw
def pmem_Device_octets__pmem_Device_Image_1.s0 (fu : Nat) (a0 : S_pmem_Device) : (Int × (List Int)) → Option (Sum (List Int) (Int × (List Int))) := fun s11 => (if (decide (s11.1 < (List.length a0.cells : Int))) = true then (if 0 ≤ s11.1 ∧ s11.1 < (List.length a0.cells : Int) then ((pmem_Device_Image_1__r0.f fu (ix a0.cells s11.1) : Option Int).bind fun t20 => (if 0 ≤ s11.1 ∧ s11.1 < (List.length s11.2 : Int) then some (Sum.inr ((IntKind.i64.wrap (s11.1 + 1)), (List.set s11.2 (Int.toNat s11.1) t20))) else none)) else none) else some (Sum.inl (s11.2)))
def pmem_Device_octets__pmem_Device_Image_1.f (fu : Nat) (a0 : S_pmem_Device) : Option (List Int) := (if 0 ≤ (List.length a0.cells : Int) ∧ Int.toNat (List.length a0.cells : Int) ≤ LIM then ((loopM (pmem_Device_octets__pmem_Device_Image_1.s0 fu a0) fu (0, (List.replicate (Int.toNat (List.length a0.cells : Int)) (0 : Int)))).bind fun e12 => ((octet_Octets.f fu e12 : Option (List Int)).bind fun t31 => some (t31))) else none)
set_option maxRecDepth 100000 in
set_option maxHeartbeats 400000 in
theorem pmem_Device_octets__pmem_Device_Image_1.ok (fu : Nat) (w : World) (a0 : S_pmem_Device) (G_0 : Nat) (V0_0 : Value) (R0_0 : Rd k_pmem_cell w V0_0 a0.cells) (V0_1 : Value) (R0_1 : Rd (kI .i64) w V0_1 a0.plan.list) (b_0 : Blk w G_0 139 [Seg.cell V0_0 R0_0.one, Seg.cell V0_1 R0_1.one, Seg.cell (.int .i64 a0.plan.at_), Seg.cell (.bool a0.off), Seg.cell (.bool a0.armed), Seg.cell (.int .i64 a0.left), Seg.cell (.int .i64 a0.steps)]) (r : (List Int)) (h : pmem_Device_octets__pmem_Device_Image_1.f fu a0 = some r) :
    Calls Try.prog 88 (([.pointer (some ⟨G_0, 0, none⟩), Value.func (.func 89) #[] #[]] : List Value).toArray) w (fun e w' => ∃ v, e = .returned v ∧ ∃ u1 : Value, ∃ o2 : Own (kI .u8) 5 w' w.heap.size u1 r, v = u1 ∧ Gr w w') := by
  unfold pmem_Device_octets__pmem_Device_Image_1.f at h
  have fB : Gr w w := Fr.refl _ _
  refine calls_cw Try.func88 rfl Try.ntmps88 rfl ?_
  refine cw_seq ?_
  refine cw_region ?_
  refine ol_val (v := .slice none 0 0) (by exact xr_assign rfl rfl) rfl rfl rfl ?_
  refine ol_nil ?_
  refine cw_seq ?_
  refine cw_region ?_
  refine ol_val (v := .pointer (some ⟨G_0, 0, none⟩)) (by exact xr_move rfl rfl) rfl rfl rfl ?_
  refine ol_val (v := .pointer (some ⟨G_0, 0, none⟩)) (by exact xr_nilCheck rfl rfl) rfl rfl rfl ?_
  refine ol_val (v := .pointer (some ⟨G_0, 0, none⟩)) (by exact xr_fieldAddr (p := 0) (q := 0) rfl fl139_0 rfl) rfl rfl rfl ?_
  refine ol_val (v := V0_0) (by exact xr_load1 (v := V0_0) rfl ag135 rfl (b_0.seg 0 rfl rfl)) rfl rfl rfl ?_
  refine ol_val (v := .int .i64 (List.length a0.cells : Int)) (by exact xr_lenR rfl Try.underlying135 rfl (R0_0.gr fB)) rfl rfl rfl ?_
  obtain ⟨g4, h⟩ := gs h
  refine ol_op (by exact opv_make (K := (kI .u64)) (z := (0 : Int)) rfl Try.underlying46 el22 rfl rfl rfl g4.1 g4.2 rfl fB.size) rfl rfl rfl ?_
  rintro v5 w10 ⟨o7, q6, z8⟩
  have b_0 := b_0.gr q6
  have fB := fB.gr q6
  refine ol_val (v := v5) (by exact xr_assign rfl rfl) rfl rfl rfl ?_
  refine ol_nil ?_
  refine cw_seq ?_
  refine cw_seq ?_
  refine cw_region ?_
  refine ol_val (v := .pointer (some ⟨G_0, 0, none⟩)) (by exact xr_move rfl rfl) rfl rfl rfl ?_
  refine ol_val (v := .pointer (some ⟨G_0, 0, none⟩)) (by exact xr_nilCheck rfl rfl) rfl rfl rfl ?_
  refine ol_val (v := .pointer (some ⟨G_0, 0, none⟩)) (by exact xr_fieldAddr (p := 0) (q := 0) rfl fl139_0 rfl) rfl rfl rfl ?_
  refine ol_val (v := V0_0) (by exact xr_load1 (v := V0_0) rfl ag135 rfl (b_0.seg 0 rfl rfl)) rfl rfl rfl ?_
  refine ol_val (v := .int .i64 (List.length a0.cells : Int)) (by exact xr_lenR rfl Try.underlying135 rfl (R0_0.gr fB)) rfl rfl rfl ?_
  refine ol_val (v := .int .i64 0) (by exact xr_move rfl rfl) rfl rfl rfl ?_
  refine ol_nil ?_
  obtain ⟨e12, l13, h14⟩ := bs h
  refine cw_mid (fun ρ' w' => ∃ o7 : Own (kI .u64) 22 w' w.heap.size v5 e12, ρ' 5 = v5 ∧ Blk w' G_0 139 [Seg.cell V0_0 R0_0.one, Seg.cell V0_1 R0_1.one, Seg.cell (.int .i64 a0.plan.at_), Seg.cell (.bool a0.off), Seg.cell (.bool a0.armed), Seg.cell (.int .i64 a0.left), Seg.cell (.int .i64 a0.steps)] ∧ Gr w w') ?_ ?_
  · refine cw_block ?_
    refine cw_round (fun (s11 : Int × (List Int)) ρ' w' => ∃ o7 : Own (kI .u64) 22 w' w.heap.size v5 s11.2, ρ' 0 = .pointer (some ⟨G_0, 0, none⟩) ∧ ρ' 1 = Value.func (.func 89) #[] #[] ∧ ρ' 5 = v5 ∧ ρ' 17 = .int .i64 (List.length a0.cells : Int) ∧ ρ' 18 = .int .i64 s11.1 ∧ Blk w' G_0 139 [Seg.cell V0_0 R0_0.one, Seg.cell V0_1 R0_1.one, Seg.cell (.int .i64 a0.plan.at_), Seg.cell (.bool a0.off), Seg.cell (.bool a0.armed), Seg.cell (.int .i64 a0.left), Seg.cell (.int .i64 a0.steps)] ∧ Gr w w') l13 ?_ ?_
    · skip
      exact ⟨o7, rfl, rfl, rfl, rfl, rfl, b_0, fB⟩
    · rintro s11 x17 ρ15 w16 ⟨o7, e0, e1, e5, e17, e18, b_0, fB⟩ h
      unfold pmem_Device_octets__pmem_Device_Image_1.s0 at h
      refine cw_seq ?_
      refine cw_region ?_
      refine ol_val (v := .bool (decide (s11.1 < (List.length a0.cells : Int)))) (by exact xr_lss rfl e18 e17) rfl rfl rfl ?_
      refine ol_nil ?_
      refine cw_seq ?_
      rcases is h with ⟨c18, h⟩ | ⟨c18, h⟩
      · refine cw_condT rfl c18 ?_
        refine cw_skip ?_
        refine cw_seq ?_
        refine cw_block ?_
        refine cw_seq ?_
        refine cw_region ?_
        refine ol_val (v := .int .i64 s11.1) (by exact xr_move rfl e18) rfl rfl rfl ?_
        refine ol_val (v := .int .i64 s11.1) (by exact xr_assign rfl rfl) rfl rfl rfl ?_
        refine ol_nil ?_
        refine cw_region ?_
        refine ol_val (v := v5) (by exact xr_move rfl e5) rfl rfl rfl ?_
        refine ol_val (v := .int .i64 s11.1) (by exact xr_move rfl rfl) rfl rfl rfl ?_
        refine ol_val (v := Value.func (.func 89) #[] #[]) (by exact xr_move rfl e1) rfl rfl rfl ?_
        refine ol_val (v := .pointer (some ⟨G_0, 0, none⟩)) (by exact xr_move rfl e0) rfl rfl rfl ?_
        refine ol_val (v := .pointer (some ⟨G_0, 0, none⟩)) (by exact xr_nilCheck rfl rfl) rfl rfl rfl ?_
        refine ol_val (v := .pointer (some ⟨G_0, 0, none⟩)) (by exact xr_fieldAddr (p := 0) (q := 0) rfl fl139_0 rfl) rfl rfl rfl ?_
        refine ol_val (v := V0_0) (by exact xr_load1 (v := V0_0) rfl ag135 rfl (b_0.seg 0 rfl rfl)) rfl rfl rfl ?_
        refine ol_val (v := .int .i64 s11.1) (by exact xr_move rfl rfl) rfl rfl rfl ?_
        obtain ⟨g19, h⟩ := gs h
        refine ol_val (v := .pointer (some ⟨(sb V0_0), so V0_0 + Int.toNat s11.1 * 4, none⟩)) (by exact xr_indexR (K := k_pmem_cell) (v := V0_0) rfl Try.underlying135 sz142 rfl (R0_0.gr fB) rfl g19.1 g19.2) rfl rfl rfl ?_
        obtain ⟨t20, k21, h⟩ := bs h
        refine ol_op (by exact opv_callV (C := []) rfl rfl cal89 (ac rfl an) (pmem_Device_Image_1__r0.ok fu _ (ix a0.cells s11.1) (sb V0_0) (so V0_0 + Int.toNat s11.1 * 4) (show At _ _ _ (cellsOf [Seg.cell (.int .u64 ((ix a0.cells s11.1).lasts)), Seg.cell (.int .u64 ((ix a0.cells s11.1).stored)), Seg.cell (.int .u64 ((ix a0.cells s11.1).sent)), Seg.cell (.bool ((ix a0.cells s11.1).flushed))]) from ((R0_0.gr fB).elem g19.1 g19.2)) _ k21)) rfl rfl rfl ?_
        rintro _ w23 ⟨rfl, q22⟩
        have b_0 := b_0.gr q22
        have o7 := o7.gr q22
        have fB := fB.gr q22
        obtain ⟨g24, h⟩ := gs h
        refine ol_val (v := .pointer (some ⟨(sb v5), so v5 + Int.toNat s11.1 * 1, none⟩)) (by exact xr_indexR (K := (kI .u64)) (v := v5) rfl Try.underlying46 sz22 rfl o7.rd rfl g24.1 g24.2) rfl rfl rfl ?_
        have f26 := off_ty b_0 o7 (by decide)
        have f27 := o7.geO
        refine ol_op0 (by exact opv_storeRow (z := t20) (xs := cellsOf [Seg.cell (.int .u64 t20)]) rfl sz22 rfl rfl rfl (len_cellsOf _) (one_cellsOf _) o7 g24.1 g24.2 (Spl.whole ((Kd.len _ _).trans (Kd.len _ _).symm)) rfl) rfl rfl ?_
        rintro _ w28 ⟨o7, q25⟩
        have b_0 := b_0.wrO q25 f26
        have fB := fB.wrO q25 f27
        refine ol_nil ?_
        refine blk_i ?_
        refine cw_region ?_
        refine ol_val (v := .int .i64 (IntKind.i64.wrap (s11.1 + 1))) (by exact xr_add rfl e18 rfl) rfl rfl rfl ?_
        refine ol_val (v := .int .i64 (IntKind.i64.wrap (s11.1 + 1))) (by exact xr_move rfl rfl) rfl rfl rfl ?_
        refine ol_nil ?_
        obtain rfl := Option.some.inj h
        refine lp_in ?_
        exact ⟨o7, e0, e1, e5, e17, rfl, b_0, fB⟩
      · refine cw_condF rfl c18 ?_
        refine cw_exit ?_
        repeat (first | with_reducible refine thn_e ?_ | with_reducible refine blk_e rfl ?_)
        obtain rfl := Option.some.inj h
        refine lp_exit ?_
        rintro rfl
        refine thn_x ?_
        exact ⟨o7, e5, b_0, fB⟩
  · rintro ρ29 w30 ⟨o7, e5, b_0, fB⟩
    have h := h14
    refine cw_seq ?_
    refine cw_region ?_
    refine ol_val (v := v5) (by exact xr_move rfl e5) rfl rfl rfl ?_
    obtain ⟨t31, k32, h⟩ := bs h
    refine ol_op (by exact opv_call rfl cal104 (ac rfl an) (octet_Octets.ok fu _ e12 v5 (o7.rd) _ k32)) rfl rfl rfl ?_
    rintro u33 w37 ⟨_, o34, rfl, q36⟩
    have o34 := Own.base o34 fB.size
    have b_0 := b_0.gr q36
    have fB := fB.gr q36
    refine ol_val (v := u33) (by exact xr_assign rfl rfl) rfl rfl rfl ?_
    refine ol_nil ?_
    refine cw_ret ?_
    repeat (first | with_reducible refine thn_r ?_ | with_reducible refine blk_r ?_)
    obtain rfl := Option.some.inj h
    refine fin_ret1 Try.results88 rfl ?_
    exact ⟨_, rfl, u33, o34, rfl, fB⟩
end Go.Proofs.Ytklhbaghbmndeaa

/- (*rickyard/pmem.Device).Image: its model, and that the Go function computes it: written by gen.py. -/
set_option linter.unusedVariables false
namespace Go.Proofs.Ytklhbaghbmndeaa
open Go Go.Xw
def pmem_Device_Image.f (fu : Nat) (a0 : S_pmem_Device) : Option (List Int) := ((pmem_Device_octets__pmem_Device_Image_1.f fu a0 : Option (List Int)).bind fun t4 => some (t4))
set_option maxRecDepth 100000 in
set_option maxHeartbeats 400000 in
theorem pmem_Device_Image.ok (fu : Nat) (w : World) (a0 : S_pmem_Device) (G_0 : Nat) (V0_0 : Value) (R0_0 : Rd k_pmem_cell w V0_0 a0.cells) (V0_1 : Value) (R0_1 : Rd (kI .i64) w V0_1 a0.plan.list) (b_0 : Blk w G_0 139 [Seg.cell V0_0 R0_0.one, Seg.cell V0_1 R0_1.one, Seg.cell (.int .i64 a0.plan.at_), Seg.cell (.bool a0.off), Seg.cell (.bool a0.armed), Seg.cell (.int .i64 a0.left), Seg.cell (.int .i64 a0.steps)]) (r : (List Int)) (h : pmem_Device_Image.f fu a0 = some r) :
    Calls Try.prog 33 (([.pointer (some ⟨G_0, 0, none⟩)] : List Value).toArray) w (fun e w' => ∃ v, e = .returned v ∧ ∃ u1 : Value, ∃ o2 : Own (kI .u8) 5 w' w.heap.size u1 r, v = u1 ∧ Gr w w') := by
  unfold pmem_Device_Image.f at h
  have fB : Gr w w := Fr.refl _ _
  refine calls_cw Try.func33 rfl Try.ntmps33 rfl ?_
  refine cw_seq ?_
  refine cw_region ?_
  refine ol_val (v := .slice none 0 0) (by exact xr_assign rfl rfl) rfl rfl rfl ?_
  refine ol_nil ?_
  refine cw_seq ?_
  refine cw_region ?_
  refine ol_val (v := .pointer (some ⟨G_0, 0, none⟩)) (by exact xr_move rfl rfl) rfl rfl rfl ?_
  obtain ⟨t4, k5, h⟩ := bs h
  refine ol_op (by exact opv_call rfl cal88 (ac rfl (ac rfl an)) (pmem_Device_octets__pmem_Device_Image_1.ok fu _ a0 G_0 V0_0 (R0_0.gr fB) V0_1 (R0_1.gr fB) b_0 _ k5)) rfl rfl rfl ?_
  rintro u6 w10 ⟨_, o7, rfl, q9⟩
  have o7 := Own.base o7 fB.size
  have b_0 := b_0.gr q9
  have fB := fB.gr q9
  refine ol_val (v := u6) (by exact xr_assign rfl rfl) rfl rfl rfl ?_
  refine ol_nil ?_
  refine cw_ret ?_
  repeat (first | with_reducible refine thn_r ?_ | with_reducible refine blk_r ?_)
  obtain rfl := Option.some.inj h
  refine fin_ret1 Try.results33 rfl ?_
  exact ⟨_, rfl, u6, o7, rfl, fB⟩
end Go.Proofs.Ytklhbaghbmndeaa

/- (*rickyard/pmem.Device).View$1: its model, and that the Go function computes it: written by gen.py. -/
set_option linter.unusedVariables false
namespace Go.Proofs.Ytklhbaghbmndeaa
open Go Go.Xw
def pmem_Device_View_1__r0.f (fu : Nat) (a0 : S_pmem_cell) : Option Int := some (a0.stored)
set_option maxRecDepth 100000 in
set_option maxHeartbeats 400000 in
theorem pmem_Device_View_1__r0.ok (fu : Nat) (w : World) (a0 : S_pmem_cell) (G_0 p_0 : Nat) (A_0 : At w G_0 p_0 (cellsOf [Seg.cell (.int .u64 a0.lasts), Seg.cell (.int .u64 a0.stored), Seg.cell (.int .u64 a0.sent), Seg.cell (.bool a0.flushed)])) (r : Int) (h : pmem_Device_View_1__r0.f fu a0 = some r) :
    Calls Try.prog 91 (([.pointer (some ⟨G_0, p_0, none⟩)] : List Value).toArray) w (fun e w' => ∃ v, e = .returned v ∧ v = .int .u64 r ∧ Gr w w') := by
  unfold pmem_Device_View_1__r0.f at h
  have fB : Gr w w := Fr.refl _ _
  refine calls_cw Try.func91 rfl Try.ntmps91 rfl ?_
  refine cw_seq ?_
  refine cw_region ?_
  refine ol_val (v := .int .u64 0) (by exact xr_assign rfl rfl) rfl rfl rfl ?_
  refine ol_nil ?_
  refine cw_seq ?_
  refine cw_region ?_
  refine ol_val (v := .pointer (some ⟨G_0, p_0, none⟩)) (by exact xr_move rfl rfl) rfl rfl rfl ?_
  refine ol_val (v := .pointer (some ⟨G_0, p_0, none⟩)) (by exact xr_nilCheck rfl rfl) rfl rfl rfl ?_
  refine ol_val (v := .pointer (some ⟨G_0, p_0 + 1, none⟩)) (by exact xr_fieldAddr (p := p_0) (q := 1) rfl fl142_1 rfl) rfl rfl rfl ?_
  refine ol_val (v := .int .u64 a0.stored) (by exact xr_load1 (v := .int .u64 a0.stored) rfl ag22 rfl (At.segs (ss := [Seg.cell (.int .u64 a0.lasts), Seg.cell (.int .u64 a0.stored), Seg.cell (.int .u64 a0.sent), Seg.cell (.bool a0.flushed)]) (At.gr A_0 fB) 1 1 rfl)) rfl rfl rfl ?_
  refine ol_val (v := .int .u64 a0.stored) (by exact xr_assign rfl rfl) rfl rfl rfl ?_
  refine ol_nil ?_
  refine cw_ret ?_
  repeat (first | with_reducible refine thn_r ?_ | with_reducible refine blk_r ?_)
  obtain rfl := Option.some.inj h
  refine fin_ret1 Try.results91 rfl ?_
  exact ⟨_, rfl, rfl, fB⟩
end Go.Proofs.Ytklhbaghbmndeaa

/- (*rickyard/pmem.Device).octets: its model, and that the Go function computes it: written by gen.py. -/
set_option linter.unusedVariables false
namespace Go.Proofs.Ytklhbaghbmndeaa
open Go Go.Xw
def pmem_Device_octets__pmem_Device_View_1.s0 (fu : Nat) (a0 : S_pmem_Device) : (Int × (List Int)) → Option (Sum (List Int) (Int × (List Int))) := fun s11 => (if (decide (s11.1 < (List.length a0.cells : Int))) = true then (if 0 ≤ s11.1 ∧ s11.1 < (List.length a0.cells : Int) then ((pmem_Device_View_1__r0.f fu (ix a0.cells s11.1) : Option Int).bind fun t20 => (if 0 ≤ s11.1 ∧ s11.1 < (List.length s11.2 : Int) then some (Sum.inr ((IntKind.i64.wrap (s11.1 + 1)), (List.set s11.2 (Int.toNat s11.1) t20))) else none)) else none) else some (Sum.inl (s11.2)))
def pmem_Device_octets__pmem_Device_View_1.f (fu : Nat) (a0 : S_pmem_Device) : Option (List Int) := (if 0 ≤ (List.length a0.cells : Int) ∧ Int.toNat (List.length a0.cells : Int) ≤ LIM then ((loopM (pmem_Device_octets__pmem_Device_View_1.s0 fu a0) fu (0, (List.replicate (Int.toNat (List.length a0.cells : Int)) (0 : Int)))).bind fun e12 => ((octet_Octets.f fu e12 : Option (List Int)).bind fun t31 => some (t31))) else none)
set_option maxRecDepth 100000 in
set_option maxHeartbeats 400000 in
theorem pmem_Device_octets__pmem_Device_View_1.ok (fu : Nat) (w : World) (a0 : S_pmem_Device) (G_0 : Nat) (V0_0 : Value) (R0_0 : Rd k_pmem_cell w V0_0 a0.cells) (V0_1 : Value) (R0_1 : Rd (kI .i64) w V0_1 a0.plan.list) (b_0 : Blk w G_0 139 [Seg.cell V0_0 R0_0.one, Seg.cell V0_1 R0_1.one, Seg.cell (.int .i64 a0.plan.at_), Seg.cell (.bool a0.off), Seg.cell (.bool a0.armed), Seg.cell (.int .i64 a0.left), Seg.cell (.int .i64 a0.steps)]) (r : (List Int)) (h : pmem_Device_octets__pmem_Device_View_1.f fu a0 = some r) :
    Calls Try.prog 88 (([.pointer (some ⟨G_0, 0, none⟩), Value.func (.func 91) #[] #[]] : List Value).toArray) w (fun e w' => ∃ v, e = .returned v ∧ ∃ u1 : Value, ∃ o2 : Own (kI .u8) 5 w' w.heap.size u1 r, v = u1 ∧ Gr w w') := by
  unfold pmem_Device_octets__pmem_Device_View_1.f at h
  have fB : Gr w w := Fr.refl _ _
  refine calls_cw Try.func88 rfl Try.ntmps88 rfl ?_
  refine cw_seq ?_
  refine cw_region ?_
  refine ol_val (v := .slice none 0 0) (by exact xr_assign rfl rfl) rfl rfl rfl ?_
  refine ol_nil ?_
  refine cw_seq ?_
  refine cw_region ?_
  refine ol_val (v := .pointer (some ⟨G_0, 0, none⟩)) (by exact xr_move rfl rfl) rfl rfl rfl ?_
  refine ol_val (v := .pointer (some ⟨G_0, 0, none⟩)) (by exact xr_nilCheck rfl rfl) rfl rfl rfl ?_
  refine ol_val (v := .pointer (some ⟨G_0, 0, none⟩)) (by exact xr_fieldAddr (p := 0) (q := 0) rfl fl139_0 rfl) rfl rfl rfl ?_
  refine ol_val (v := V0_0) (by exact xr_load1 (v := V0_0) rfl ag135 rfl (b_0.seg 0 rfl rfl)) rfl rfl rfl ?_
  refine ol_val (v := .int .i64 (List.length a0.cells : Int)) (by exact xr_lenR rfl Try.underlying135 rfl (R0_0.gr fB)) rfl rfl rfl ?_
  obtain ⟨g4, h⟩ := gs h
  refine ol_op (by exact opv_make (K := (kI .u64)) (z := (0 : Int)) rfl Try.underlying46 el22 rfl rfl rfl g4.1 g4.2 rfl fB.size) rfl rfl rfl ?_
  rintro v5 w10 ⟨o7, q6, z8⟩
  have b_0 := b_0.gr q6
  have fB := fB.gr q6
  refine ol_val (v := v5) (by exact xr_assign rfl rfl) rfl rfl rfl ?_
  refine ol_nil ?_
  refine cw_seq ?_
  refine cw_seq ?_
  refine cw_region ?_
  refine ol_val (v := .pointer (some ⟨G_0, 0, none⟩)) (by exact xr_move rfl rfl) rfl rfl rfl ?_
  refine ol_val (v := .pointer (some ⟨G_0, 0, none⟩)) (by exact xr_nilCheck rfl rfl) rfl rfl rfl ?_
  refine ol_val (v := .pointer (some ⟨G_0, 0, none⟩)) (by exact xr_fieldAddr (p := 0) (q := 0) rfl fl139_0 rfl) rfl rfl rfl ?_
  refine ol_val (v := V0_0) (by exact xr_load1 (v := V0_0) rfl ag135 rfl (b_0.seg 0 rfl rfl)) rfl rfl rfl ?_
  refine ol_val (v := .int .i64 (List.length a0.cells : Int)) (by exact xr_lenR rfl Try.underlying135 rfl (R0_0.gr fB)) rfl rfl rfl ?_
  refine ol_val (v := .int .i64 0) (by exact xr_move rfl rfl) rfl rfl rfl ?_
  refine ol_nil ?_
  obtain ⟨e12, l13, h14⟩ := bs h
  refine cw_mid (fun ρ' w' => ∃ o7 : Own (kI .u64) 22 w' w.heap.size v5 e12, ρ' 5 = v5 ∧ Blk w' G_0 139 [Seg.cell V0_0 R0_0.one, Seg.cell V0_1 R0_1.one, Seg.cell (.int .i64 a0.plan.at_), Seg.cell (.bool a0.off), Seg.cell (.bool a0.armed), Seg.cell (.int .i64 a0.left), Seg.cell (.int .i64 a0.steps)] ∧ Gr w w') ?_ ?_
  · refine cw_block ?_
    refine cw_round (fun (s11 : Int × (List Int)) ρ' w' => ∃ o7 : Own (kI .u64) 22 w' w.heap.size v5 s11.2, ρ' 0 = .pointer (some ⟨G_0, 0, none⟩) ∧ ρ' 1 = Value.func (.func 91) #[] #[] ∧ ρ' 5 = v5 ∧ ρ' 17 = .int .i64 (List.length a0.cells : Int) ∧ ρ' 18 = .int .i64 s11.1 ∧ Blk w' G_0 139 [Seg.cell V0_0 R0_0.one, Seg.cell V0_1 R0_1.one, Seg.cell (.int .i64 a0.plan.at_), Seg.cell (.bool a0.off), Seg.cell (.bool a0.armed), Seg.cell (.int .i64 a0.left), Seg.cell (.int .i64 a0.steps)] ∧ Gr w w') l13 ?_ ?_
    · skip
      exact ⟨o7, rfl, rfl, rfl, rfl, rfl, b_0, fB⟩
    · rintro s11 x17 ρ15 w16 ⟨o7, e0, e1, e5, e17, e18, b_0, fB⟩ h
      unfold pmem_Device_octets__pmem_Device_View_1.s0 at h
      refine cw_seq ?_
      refine cw_region ?_
      refine ol_val (v := .bool (decide (s11.1 < (List.length a0.cells : Int)))) (by exact xr_lss rfl e18 e17) rfl rfl rfl ?_
      refine ol_nil ?_
      refine cw_seq ?_
      rcases is h with ⟨c18, h⟩ | ⟨c18, h⟩
      · refine cw_condT rfl c18 ?_
        refine cw_skip ?_
        refine cw_seq ?_
        refine cw_block ?_
        refine cw_seq ?_
        refine cw_region ?_
        refine ol_val (v := .int .i64 s11.1) (by exact xr_move rfl e18) rfl rfl rfl ?_
        refine ol_val (v := .int .i64 s11.1) (by exact xr_assign rfl rfl) rfl rfl rfl ?_
        refine ol_nil ?_
        refine cw_region ?_
        refine ol_val (v := v5) (by exact xr_move rfl e5) rfl rfl rfl ?_
        refine ol_val (v := .int .i64 s11.1) (by exact xr_move rfl rfl) rfl rfl rfl ?_
        refine ol_val (v := Value.func (.func 91) #[] #[]) (by exact xr_move rfl e1) rfl rfl rfl ?_
        refine ol_val (v := .pointer (some ⟨G_0, 0, none⟩)) (by exact xr_move rfl e0) rfl rfl rfl ?_
        refine ol_val (v := .pointer (some ⟨G_0, 0, none⟩)) (by exact xr_nilCheck rfl rfl) rfl rfl rfl ?_
        refine ol_val (v := .pointer (some ⟨G_0, 0, none⟩)) (by exact xr_fieldAddr (p := 0) (q := 0) rfl fl139_0 rfl) rfl rfl rfl ?_
        refine ol_val (v := V0_0) (by exact xr_load1 (v := V0_0) rfl ag135 rfl (b_0.seg 0 rfl rfl)) rfl rfl rfl ?_
        refine ol_val (v := .int .i64 s11.1) (by exact xr_move rfl rfl) rfl rfl rfl ?_
        obtain ⟨g19, h⟩ := gs h
        refine ol_val (v := .pointer (some ⟨(sb V0_0), so V0_0 + Int.toNat s11.1 * 4, none⟩)) (by exact xr_indexR (K := k_pmem_cell) (v := V0_0) rfl Try.underlying135 sz142 rfl (R0_0.gr fB) rfl g19.1 g19.2) rfl rfl rfl ?_
        obtain ⟨t20, k21, h⟩ := bs h
        refine ol_op (by exact opv_callV (C := []) rfl rfl cal91 (ac rfl an) (pmem_Device_View_1__r0.ok fu _ (ix a0.cells s11.1) (sb V0_0) (so V0_0 + Int.toNat s11.1 * 4) (show At _ _ _ (cellsOf [Seg.cell (.int .u64 ((ix a0.cells s11.1).lasts)), Seg.cell (.int .u64 ((ix a0.cells s11.1).stored)), Seg.cell (.int .u64 ((ix a0.cells s11.1).sent)), Seg.cell (.bool ((ix a0.cells s11.1).flushed))]) from ((R0_0.gr fB).elem g19.1 g19.2)) _ k21)) rfl rfl rfl ?_
        rintro _ w23 ⟨rfl, q22⟩
        have b_0 := b_0.gr q22
        have o7 := o7.gr q22
        have fB := fB.gr q22
        obtain ⟨g24, h⟩ := gs h
        refine ol_val (v := .pointer (some ⟨(sb v5), so v5 + Int.toNat s11.1 * 1, none⟩)) (by exact xr_indexR (K := (kI .u64)) (v := v5) rfl Try.underlying46 sz22 rfl o7.rd rfl g24.1 g24.2) rfl rfl rfl ?_
        have f26 := off_ty b_0 o7 (by decide)
        have f27 := o7.geO
        refine ol_op0 (by exact opv_storeRow (z := t20) (xs := cellsOf [Seg.cell (.int .u64 t20)]) rfl sz22 rfl rfl rfl (len_cellsOf _) (one_cellsOf _) o7 g24.1 g24.2 (Spl.whole ((Kd.len _ _).trans (Kd.len _ _).symm)) rfl) rfl rfl ?_
        rintro _ w28 ⟨o7, q25⟩
        have b_0 := b_0.wrO q25 f26
        have fB := fB.wrO q25 f27
        refine ol_nil ?_
        refine blk_i ?_
        refine cw_region ?_
        refine ol_val (v := .int .i64 (IntKind.i64.wrap (s11.1 + 1))) (by exact xr_add rfl e18 rfl) rfl rfl rfl ?_
        refine ol_val (v := .int .i64 (IntKind.i64.wrap (s11.1 + 1))) (by exact xr_move rfl rfl) rfl rfl rfl ?_
        refine ol_nil ?_
        obtain rfl := Option.some.inj h
        refine lp_in ?_
        exact ⟨o7, e0, e1, e5, e17, rfl, b_0, fB⟩
      · refine cw_condF rfl c18 ?_
        refine cw_exit ?_
        repeat (first | with_reducible refine thn_e ?_ | with_reducible refine blk_e rfl ?_)
        obtain rfl := Option.some.inj h
        refine lp_exit ?_
        rintro rfl
        refine thn_x ?_
        exact ⟨o7, e5, b_0, fB⟩
  · rintro ρ29 w30 ⟨o7, e5, b_0, fB⟩
    have h := h14
    refine cw_seq ?_
    refine cw_region ?_
    refine ol_val (v := v5) (by exact xr_move rfl e5) rfl rfl rfl ?_
    obtain ⟨t31, k32, h⟩ := bs h
    refine ol_op (by exact opv_call rfl cal104 (ac rfl an) (octet_Octets.ok fu _ e12 v5 (o7.rd) _ k32)) rfl rfl rfl ?_
    rintro u33 w37 ⟨_, o34, rfl, q36⟩
    have o34 := Own.base o34 fB.size
    have b_0 := b_0.gr q36
    have fB := fB.gr q36
    refine ol_val (v := u33) (by exact xr_assign rfl rfl) rfl rfl rfl ?_
    refine ol_nil ?_
    refine cw_ret ?_
    repeat (first | with_reducible refine thn_r ?_ | with_reducible refine blk_r ?_)
    obtain rfl := Option.some.inj h
    refine fin_ret1 Try.results88 rfl ?_
    exact ⟨_, rfl, u33, o34, rfl, fB⟩
end Go.Proofs.Ytklhbaghbmndeaa

/- (*rickyard/pmem.Device).View: its model, and that the Go function computes it: written by gen.py. -/
set_option linter.unusedVariables false
namespace Go.Proofs.Ytklhbaghbmndeaa
open Go Go.Xw
def pmem_Device_View.f (fu : Nat) (a0 : S_pmem_Device) : Option (List Int) := ((pmem_Device_octets__pmem_Device_View_1.f fu a0 : Option (List Int)).bind fun t4 => some (t4))
set_option maxRecDepth 100000 in
set_option maxHeartbeats 400000 in
theorem pmem_Device_View.ok (fu : Nat) (w : World) (a0 : S_pmem_Device) (G_0 : Nat) (V0_0 : Value) (R0_0 : Rd k_pmem_cell w V0_0 a0.cells) (V0_1 : Value) (R0_1 : Rd (kI .i64) w V0_1 a0.plan.list) (b_0 : Blk w G_0 139 [Seg.cell V0_0 R0_0.one, Seg.cell V0_1 R0_1.one, Seg.cell (.int .i64 a0.plan.at_), Seg.cell (.bool a0.off), Seg.cell (.bool a0.armed), Seg.cell (.int .i64 a0.left), Seg.cell (.int .i64 a0.steps)]) (r : (List Int)) (h : pmem_Device_View.f fu a0 = some r) :
    Calls Try.prog 36 (([.pointer (some ⟨G_0, 0, none⟩)] : List Value).toArray) w (fun e w' => ∃ v, e = .returned v ∧ ∃ u1 : Value, ∃ o2 : Own (kI .u8) 5 w' w.heap.size u1 r, v = u1 ∧ Gr w w') := by
  unfold pmem_Device_View.f at h
  have fB : Gr w w := Fr.refl _ _
  refine calls_cw Try.func36 rfl Try.ntmps36 rfl ?_
  refine cw_seq ?_
  refine cw_region ?_
  refine ol_val (v := .slice none 0 0) (by exact xr_assign rfl rfl) rfl rfl rfl ?_
  refine ol_nil ?_
  refine cw_seq ?_
  refine cw_region ?_
  refine ol_val (v := .pointer (some ⟨G_0, 0, none⟩)) (by exact xr_move rfl rfl) rfl rfl rfl ?_
  obtain ⟨t4, k5, h⟩ := bs h
  refine ol_op (by exact opv_call rfl cal88 (ac rfl (ac rfl an)) (pmem_Device_octets__pmem_Device_View_1.ok fu _ a0 G_0 V0_0 (R0_0.gr fB) V0_1 (R0_1.gr fB) b_0 _ k5)) rfl rfl rfl ?_
  rintro u6 w10 ⟨_, o7, rfl, q9⟩
  have o7 := Own.base o7 fB.size
  have b_0 := b_0.gr q9
  have fB := fB.gr q9
  refine ol_val (v := u6) (by exact xr_assign rfl rfl) rfl rfl rfl ?_
  refine ol_nil ?_
  refine cw_ret ?_
  repeat (first | with_reducible refine thn_r ?_ | with_reducible refine blk_r ?_)
  obtain rfl := Option.some.inj h
  refine fin_ret1 Try.results36 rfl ?_
  exact ⟨_, rfl, u6, o7, rfl, fB⟩
end Go.Proofs.Ytklhbaghbmndeaa

/- (*rickyard/pmem.Device).Steps: its model, and that the Go function computes it: written by gen.py. -/
set_option linter.unusedVariables false
namespace Go.Proofs.Ytklhbaghbmndeaa
open Go Go.Xw
def pmem_Device_Steps.f (fu : Nat) (a0 : S_pmem_Device) : Option Int := some (a0.steps)
set_option maxRecDepth 100000 in
set_option maxHeartbeats 400000 in
theorem pmem_Device_Steps.ok (fu : Nat) (w : World) (a0 : S_pmem_Device) (G_0 : Nat) (V0_0 : Value) (R0_0 : Rd k_pmem_cell w V0_0 a0.cells) (V0_1 : Value) (R0_1 : Rd (kI .i64) w V0_1 a0.plan.list) (b_0 : Blk w G_0 139 [Seg.cell V0_0 R0_0.one, Seg.cell V0_1 R0_1.one, Seg.cell (.int .i64 a0.plan.at_), Seg.cell (.bool a0.off), Seg.cell (.bool a0.armed), Seg.cell (.int .i64 a0.left), Seg.cell (.int .i64 a0.steps)]) (r : Int) (h : pmem_Device_Steps.f fu a0 = some r) :
    Calls Try.prog 37 (([.pointer (some ⟨G_0, 0, none⟩)] : List Value).toArray) w (fun e w' => ∃ v, e = .returned v ∧ v = .int .i64 r ∧ Gr w w') := by
  unfold pmem_Device_Steps.f at h
  have fB : Gr w w := Fr.refl _ _
  refine calls_cw Try.func37 rfl Try.ntmps37 rfl ?_
  refine cw_seq ?_
  refine cw_region ?_
  refine ol_val (v := .int .i64 0) (by exact xr_assign rfl rfl) rfl rfl rfl ?_
  refine ol_nil ?_
  refine cw_seq ?_
  refine cw_region ?_
  refine ol_val (v := .pointer (some ⟨G_0, 0, none⟩)) (by exact xr_move rfl rfl) rfl rfl rfl ?_
  refine ol_val (v := .pointer (some ⟨G_0, 0, none⟩)) (by exact xr_nilCheck rfl rfl) rfl rfl rfl ?_
  refine ol_val (v := .pointer (some ⟨G_0, 6, none⟩)) (by exact xr_fieldAddr (p := 0) (q := 6) rfl fl139_5 rfl) rfl rfl rfl ?_
  refine ol_val (v := .int .i64 a0.steps) (by exact xr_load1 (v := .int .i64 a0.steps) rfl ag3 rfl (b_0.seg 6 rfl rfl)) rfl rfl rfl ?_
  refine ol_val (v := .int .i64 a0.steps) (by exact xr_assign rfl rfl) rfl rfl rfl ?_
  refine ol_nil ?_
  refine cw_ret ?_
  repeat (first | with_reducible refine thn_r ?_ | with_reducible refine blk_r ?_)
  obtain rfl := Option.some.inj h
  refine fin_ret1 Try.results37 rfl ?_
  exact ⟨_, rfl, rfl, fB⟩
end Go.Proofs.Ytklhbaghbmndeaa

/- (*rickyard/pmem.Device).Up: its model, and that the Go function computes it: written by gen.py. -/
set_option linter.unusedVariables false
namespace Go.Proofs.Ytklhbaghbmndeaa
open Go Go.Xw
def pmem_Device_Up.f (fu : Nat) (a0 : S_pmem_Device) : Option Bool := some ((!a0.off))
set_option maxRecDepth 100000 in
set_option maxHeartbeats 400000 in
theorem pmem_Device_Up.ok (fu : Nat) (w : World) (a0 : S_pmem_Device) (G_0 : Nat) (V0_0 : Value) (R0_0 : Rd k_pmem_cell w V0_0 a0.cells) (V0_1 : Value) (R0_1 : Rd (kI .i64) w V0_1 a0.plan.list) (b_0 : Blk w G_0 139 [Seg.cell V0_0 R0_0.one, Seg.cell V0_1 R0_1.one, Seg.cell (.int .i64 a0.plan.at_), Seg.cell (.bool a0.off), Seg.cell (.bool a0.armed), Seg.cell (.int .i64 a0.left), Seg.cell (.int .i64 a0.steps)]) (r : Bool) (h : pmem_Device_Up.f fu a0 = some r) :
    Calls Try.prog 39 (([.pointer (some ⟨G_0, 0, none⟩)] : List Value).toArray) w (fun e w' => ∃ v, e = .returned v ∧ v = .bool r ∧ Gr w w') := by
  unfold pmem_Device_Up.f at h
  have fB : Gr w w := Fr.refl _ _
  refine calls_cw Try.func39 rfl Try.ntmps39 rfl ?_
  refine cw_seq ?_
  refine cw_region ?_
  refine ol_val (v := .bool false) (by exact xr_assign rfl rfl) rfl rfl rfl ?_
  refine ol_nil ?_
  refine cw_seq ?_
  refine cw_region ?_
  refine ol_val (v := .pointer (some ⟨G_0, 0, none⟩)) (by exact xr_move rfl rfl) rfl rfl rfl ?_
  refine ol_val (v := .pointer (some ⟨G_0, 0, none⟩)) (by exact xr_nilCheck rfl rfl) rfl rfl rfl ?_
  refine ol_val (v := .pointer (some ⟨G_0, 3, none⟩)) (by exact xr_fieldAddr (p := 0) (q := 3) rfl fl139_2 rfl) rfl rfl rfl ?_
  refine ol_val (v := .bool a0.off) (by exact xr_load1 (v := .bool a0.off) rfl ag4 rfl (b_0.seg 3 rfl rfl)) rfl rfl rfl ?_
  refine ol_val (v := .bool (!a0.off)) (by exact xr_not rfl rfl) rfl rfl rfl ?_
  refine ol_val (v := .bool (!a0.off)) (by exact xr_assign rfl rfl) rfl rfl rfl ?_
  refine ol_nil ?_
  refine cw_ret ?_
  repeat (first | with_reducible refine thn_r ?_ | with_reducible refine blk_r ?_)
  obtain rfl := Option.some.inj h
  refine fin_ret1 Try.results39 rfl ?_
  exact ⟨_, rfl, rfl, fB⟩
end Go.Proofs.Ytklhbaghbmndeaa

/- (*rickyard/pmem.Device).Fates: its model, and that the Go function computes it: written by gen.py. -/
set_option linter.unusedVariables false
namespace Go.Proofs.Ytklhbaghbmndeaa
open Go Go.Xw
def pmem_Device_Fates.s0 (fu : Nat) (a0 : S_pmem_Device) : ((List S_api_Fate) × Int) → Option (Sum (List S_api_Fate) ((List S_api_Fate) × Int)) := fun s4 => (if (decide (s4.2 < (List.length a0.cells : Int))) = true then (if 0 ≤ s4.2 ∧ s4.2 < (List.length a0.cells : Int) then ((pmem_cell_open__r0.f fu (ix a0.cells s4.2) : Option Bool).bind fun t19 => (((if t19 = true then (if List.length s4.1 + List.length [(⟨s4.2, (ix a0.cells s4.2).lasts, (ix a0.cells s4.2).flushed, (ix a0.cells s4.2).sent, (ix a0.cells s4.2).stored⟩ : S_api_Fate)] ≤ LIM then some ((s4.1 ++ [(⟨s4.2, (ix a0.cells s4.2).lasts, (ix a0.cells s4.2).flushed, (ix a0.cells s4.2).sent, (ix a0.cells s4.2).stored⟩ : S_api_Fate)])) else none) else some (s4.1)) : Option (List S_api_Fate)).bind fun x23 => some (Sum.inr (x23, (IntKind.i64.wrap (s4.2 + 1)))))) else none) else some (Sum.inl (s4.1)))
def pmem_Device_Fates.f (fu : Nat) (a0 : S_pmem_Device) : Option (List S_api_Fate) := ((loopM (pmem_Device_Fates.s0 fu a0) fu ([], 0)).bind fun e5 => some (e5))
set_option maxRecDepth 100000 in
set_option maxHeartbeats 400000 in
theorem pmem_Device_Fates.ok (fu : Nat) (w : World) (a0 : S_pmem_Device) (G_0 : Nat) (V0_0 : Value) (R0_0 : Rd k_pmem_cell w V0_0 a0.cells) (V0_1 : Value) (R0_1 : Rd (kI .i64) w V0_1 a0.plan.list) (b_0 : Blk w G_0 139 [Seg.cell V0_0 R0_0.one, Seg.cell V0_1 R0_1.one, Seg.cell (.int .i64 a0.plan.at_), Seg.cell (.bool a0.off), Seg.cell (.bool a0.armed), Seg.cell (.int .i64 a0.left), Seg.cell (.int .i64 a0.steps)]) (r : (List S_api_Fate)) (h : pmem_Device_Fates.f fu a0 = some r) :
    Calls Try.prog 40 (([.pointer (some ⟨G_0, 0, none⟩)] : List Value).toArray) w (fun e w' => ∃ v, e = .returned v ∧ ∃ u1 : Value, ∃ o2 : Own k_api_Fate 55 w' w.heap.size u1 r, v = u1 ∧ Gr w w') := by
  unfold pmem_Device_Fates.f at h
  have fB : Gr w w := Fr.refl _ _
  refine calls_cw Try.func40 rfl Try.ntmps40 rfl ?_
  refine cw_seq ?_
  refine cw_region ?_
  refine ol_val (v := .slice none 0 0) (by exact xr_assign rfl rfl) rfl rfl rfl ?_
  refine ol_nil ?_
  refine cw_seq ?_
  refine cw_region ?_
  refine ol_val (v := .slice none 0 0) (by exact xr_assign rfl rfl) rfl rfl rfl ?_
  refine ol_nil ?_
  refine cw_seq ?_
  refine cw_seq ?_
  refine cw_region ?_
  refine ol_val (v := .pointer (some ⟨G_0, 0, none⟩)) (by exact xr_move rfl rfl) rfl rfl rfl ?_
  refine ol_val (v := .pointer (some ⟨G_0, 0, none⟩)) (by exact xr_nilCheck rfl rfl) rfl rfl rfl ?_
  refine ol_val (v := .pointer (some ⟨G_0, 0, none⟩)) (by exact xr_fieldAddr (p := 0) (q := 0) rfl fl139_0 rfl) rfl rfl rfl ?_
  refine ol_val (v := V0_0) (by exact xr_load1 (v := V0_0) rfl ag135 rfl (b_0.seg 0 rfl rfl)) rfl rfl rfl ?_
  refine ol_val (v := .int .i64 (List.length a0.cells : Int)) (by exact xr_lenR rfl Try.underlying135 rfl (R0_0.gr fB)) rfl rfl rfl ?_
  refine ol_val (v := .int .i64 0) (by exact xr_move rfl rfl) rfl rfl rfl ?_
  refine ol_nil ?_
  obtain ⟨e5, l6, h7⟩ := bs h
  refine cw_mid (fun ρ' w' => ∃ v8 : Value, ∃ o9 : Own k_api_Fate 55 w' w.heap.size v8 e5, ρ' 3 = v8 ∧ Blk w' G_0 139 [Seg.cell V0_0 R0_0.one, Seg.cell V0_1 R0_1.one, Seg.cell (.int .i64 a0.plan.at_), Seg.cell (.bool a0.off), Seg.cell (.bool a0.armed), Seg.cell (.int .i64 a0.left), Seg.cell (.int .i64 a0.steps)] ∧ Gr w w') ?_ ?_
  · refine cw_block ?_
    refine cw_round (fun (s4 : (List S_api_Fate) × Int) ρ' w' => ∃ v11 : Value, ∃ o12 : Own k_api_Fate 55 w' w.heap.size v11 s4.1, ρ' 0 = .pointer (some ⟨G_0, 0, none⟩) ∧ ρ' 3 = v11 ∧ ρ' 10 = .int .i64 (List.length a0.cells : Int) ∧ ρ' 11 = .int .i64 s4.2 ∧ Blk w' G_0 139 [Seg.cell V0_0 R0_0.one, Seg.cell V0_1 R0_1.one, Seg.cell (.int .i64 a0.plan.at_), Seg.cell (.bool a0.off), Seg.cell (.bool a0.armed), Seg.cell (.int .i64 a0.left), Seg.cell (.int .i64 a0.steps)] ∧ Gr w w') l6 ?_ ?_
    · skip
      exact ⟨(.slice none 0 0), Own.nil _ _ _ _, rfl, rfl, rfl, rfl, b_0, fB⟩
    · rintro s4 x16 ρ14 w15 ⟨v11, o12, e0, e3, e10, e11, b_0, fB⟩ h
      unfold pmem_Device_Fates.s0 at h
      refine cw_seq ?_
      refine cw_region ?_
      refine ol_val (v := .bool (decide (s4.2 < (List.length a0.cells : Int)))) (by exact xr_lss rfl e11 e10) rfl rfl rfl ?_
      refine ol_nil ?_
      refine cw_seq ?_
      rcases is h with ⟨c17, h⟩ | ⟨c17, h⟩
      · refine cw_condT rfl c17 ?_
        refine cw_skip ?_
        refine cw_seq ?_
        refine cw_block ?_
        refine cw_seq ?_
        refine cw_region ?_
        refine ol_val (v := .int .i64 s4.2) (by exact xr_move rfl e11) rfl rfl rfl ?_
        refine ol_val (v := .int .i64 s4.2) (by exact xr_assign rfl rfl) rfl rfl rfl ?_
        refine ol_nil ?_
        refine cw_seq ?_
        refine cw_region ?_
        refine ol_val (v := .pointer (some ⟨G_0, 0, none⟩)) (by exact xr_move rfl e0) rfl rfl rfl ?_
        refine ol_val (v := .pointer (some ⟨G_0, 0, none⟩)) (by exact xr_nilCheck rfl rfl) rfl rfl rfl ?_
        refine ol_val (v := .pointer (some ⟨G_0, 0, none⟩)) (by exact xr_fieldAddr (p := 0) (q := 0) rfl fl139_0 rfl) rfl rfl rfl ?_
        refine ol_val (v := V0_0) (by exact xr_load1 (v := V0_0) rfl ag135 rfl (b_0.seg 0 rfl rfl)) rfl rfl rfl ?_
        refine ol_val (v := .int .i64 s4.2) (by exact xr_move rfl rfl) rfl rfl rfl ?_
        obtain ⟨g18, h⟩ := gs h
        refine ol_val (v := .pointer (some ⟨(sb V0_0), so V0_0 + Int.toNat s4.2 * 4, none⟩)) (by exact xr_indexR (K := k_pmem_cell) (v := V0_0) rfl Try.underlying135 sz142 rfl (R0_0.gr fB) rfl g18.1 g18.2) rfl rfl rfl ?_
        refine ol_val (v := .pointer (some ⟨(sb V0_0), so V0_0 + Int.toNat s4.2 * 4, none⟩)) (by exact xr_assign rfl rfl) rfl rfl rfl ?_
        refine ol_nil ?_
        refine cw_seq ?_
        refine cw_region ?_
        refine ol_val (v := .pointer (some ⟨(sb V0_0), so V0_0 + Int.toNat s4.2 * 4, none⟩)) (by exact xr_move rfl rfl) rfl rfl rfl ?_
        obtain ⟨t19, k20, h⟩ := bs h
        refine ol_op (by exact opv_call rfl cal86 (ac rfl an) (pmem_cell_open__r0.ok fu _ (ix a0.cells s4.2) (sb V0_0) (so V0_0 + Int.toNat s4.2 * 4) (show At _ _ _ (cellsOf [Seg.cell (.int .u64 ((ix a0.cells s4.2).lasts)), Seg.cell (.int .u64 ((ix a0.cells s4.2).stored)), Seg.cell (.int .u64 ((ix a0.cells s4.2).sent)), Seg.cell (.bool ((ix a0.cells s4.2).flushed))]) from ((R0_0.gr fB).elem g18.1 g18.2)) _ k20)) rfl rfl rfl ?_
        rintro _ w22 ⟨rfl, q21⟩
        have b_0 := b_0.gr q21
        have o12 := o12.gr q21
        have fB := fB.gr q21
        refine ol_nil ?_
        obtain ⟨x23, j24, h25⟩ := bs h
        refine cw_mid (fun ρ' w' => ∃ v26 : Value, ∃ o27 : Own k_api_Fate 55 w' w.heap.size v26 x23, ρ' 0 = .pointer (some ⟨G_0, 0, none⟩) ∧ ρ' 3 = v26 ∧ ρ' 10 = .int .i64 (List.length a0.cells : Int) ∧ ρ' 11 = .int .i64 s4.2 ∧ Blk w' G_0 139 [Seg.cell V0_0 R0_0.one, Seg.cell V0_1 R0_1.one, Seg.cell (.int .i64 a0.plan.at_), Seg.cell (.bool a0.off), Seg.cell (.bool a0.armed), Seg.cell (.int .i64 a0.left), Seg.cell (.int .i64 a0.steps)] ∧ Gr w w') ?_ ?_
        · have h := j24
          rcases is h with ⟨c29, h⟩ | ⟨c29, h⟩
          · refine cw_condT rfl c29 ?_
            refine cw_drawL 20 [fun vz wz => vz = (v11 : Value), fun vz wz => vz = (.int .i64 s4.2 : Value), fun vz wz => vz = (.pointer (some ⟨(sb V0_0), so V0_0 + Int.toNat s4.2 * 4, none⟩) : Value), fun vz wz => vz = (.pointer (some ⟨(sb V0_0), so V0_0 + Int.toNat s4.2 * 4, none⟩) : Value), fun vz wz => vz = (.pointer (some ⟨(sb V0_0), so V0_0 + Int.toNat s4.2 * 4 + 0, none⟩) : Value), fun vz wz => vz = (.int .u64 ((ix a0.cells s4.2).lasts) : Value), fun vz wz => vz = (.pointer (some ⟨(sb V0_0), so V0_0 + Int.toNat s4.2 * 4, none⟩) : Value), fun vz wz => vz = (.pointer (some ⟨(sb V0_0), so V0_0 + Int.toNat s4.2 * 4, none⟩) : Value), fun vz wz => vz = (.pointer (some ⟨(sb V0_0), so V0_0 + Int.toNat s4.2 * 4 + 3, none⟩) : Value), fun vz wz => vz = (.bool ((ix a0.cells s4.2).flushed) : Value), fun vz wz => vz = (.pointer (some ⟨(sb V0_0), so V0_0 + Int.toNat s4.2 * 4, none⟩) : Value), fun vz wz => vz = (.pointer (some ⟨(sb V0_0), so V0_0 + Int.toNat s4.2 * 4, none⟩) : Value), fun vz wz => vz = (.pointer (some ⟨(sb V0_0), so V0_0 + Int.toNat s4.2 * 4 + 2, none⟩) : Value), fun vz wz => vz = (.int .u64 ((ix a0.cells s4.2).sent) : Value), fun vz wz => vz = (.pointer (some ⟨(sb V0_0), so V0_0 + Int.toNat s4.2 * 4, none⟩) : Value), fun vz wz => vz = (.pointer (some ⟨(sb V0_0), so V0_0 + Int.toNat s4.2 * 4, none⟩) : Value), fun vz wz => vz = (.pointer (some ⟨(sb V0_0), so V0_0 + Int.toNat s4.2 * 4 + 1, none⟩) : Value), fun vz wz => vz = (.int .u64 ((ix a0.cells s4.2).stored) : Value), fun vz wz => vz = (aggV [Seg.cell (.int .i64 s4.2), Seg.cell (.int .u64 ((ix a0.cells s4.2).lasts)), Seg.cell (.bool ((ix a0.cells s4.2).flushed)), Seg.cell (.int .u64 ((ix a0.cells s4.2).sent)), Seg.cell (.int .u64 ((ix a0.cells s4.2).stored))] : Value), fun vz wz => ∃ v30 : Value, ∃ o32 : Own k_api_Fate 55 wz w.heap.size v30 [(⟨s4.2, (ix a0.cells s4.2).lasts, (ix a0.cells s4.2).flushed, (ix a0.cells s4.2).sent, (ix a0.cells s4.2).stored⟩ : S_api_Fate)], vz = (v30 : Value)] mo rfl ⟨fun _ _ _ h _ => h, fun _ _ _ h _ => h, fun _ _ _ h _ => h, fun _ _ _ h _ => h, fun _ _ _ h _ => h, fun _ _ _ h _ => h, fun _ _ _ h _ => h, fun _ _ _ h _ => h, fun _ _ _ h _ => h, fun _ _ _ h _ => h, fun _ _ _ h _ => h, fun _ _ _ h _ => h, fun _ _ _ h _ => h, fun _ _ _ h _ => h, fun _ _ _ h _ => h, fun _ _ _ h _ => h, fun _ _ _ h _ => h, fun _ _ _ h _ => h, fun _ _ _ h _ => h, fun _ _ _ ⟨v30, o32, h⟩ q => ⟨v30, o32.gr q, h⟩, trivial⟩ ?_ ?_
            · refine ⟨?_, ?_, ?_, ?_, ?_, ?_, ?_, ?_, ?_, ?_, ?_, ?_, ?_, ?_, ?_, ?_, ?_, ?_, ?_, ?_, trivial⟩
              · intro ρz wz hz hk hd
                exact sk_val (v := v11) (by exact xr_move rfl ((hk 3 rfl).trans e3)) rfl rfl
              · intro ρz wz hz hk hd
                exact sk_val (v := .int .i64 s4.2) (by exact xr_move rfl ((hk 4 rfl).trans rfl)) rfl rfl
              · intro ρz wz hz hk hd
                exact sk_val (by exact xr_move rfl ((hk 5 rfl).trans rfl)) rfl rfl
              · intro ρz wz hz hk hd
                have d24 := hd 2 rfl 24 rfl
                exact sk_val (by exact xr_nilCheck rfl d24) rfl rfl
              · intro ρz wz hz hk hd
                have d25 := hd 3 rfl 25 rfl
                exact sk_val (by exact xr_fieldAddr (p := so V0_0 + Int.toNat s4.2 * 4) (q := 0) rfl fl142_0 d25) rfl rfl
              · intro ρz wz hz hk hd
                have d26 := hd 4 rfl 26 rfl
                exact sk_val (v := .int .u64 ((ix a0.cells s4.2).lasts)) (by exact xr_load1 (v := .int .u64 ((ix a0.cells s4.2).lasts)) rfl ag22 d26 (At.segs (ss := segs_pmem_cell (ix a0.cells s4.2)) ((R0_0.gr (fB.gr hz)).elem g18.1 g18.2) 0 1 rfl)) rfl rfl
              · intro ρz wz hz hk hd
                exact sk_val (by exact xr_move rfl ((hk 5 rfl).trans rfl)) rfl rfl
              · intro ρz wz hz hk hd
                have d28 := hd 6 rfl 28 rfl
                exact sk_val (by exact xr_nilCheck rfl d28) rfl rfl
              · intro ρz wz hz hk hd
                have d29 := hd 7 rfl 29 rfl
                exact sk_val (by exact xr_fieldAddr (p := so V0_0 + Int.toNat s4.2 * 4) (q := 3) rfl fl142_3 d29) rfl rfl
              · intro ρz wz hz hk hd
                have d30 := hd 8 rfl 30 rfl
                exact sk_val (v := .bool ((ix a0.cells s4.2).flushed)) (by exact xr_load1 (v := .bool ((ix a0.cells s4.2).flushed)) rfl ag4 d30 (At.segs (ss := segs_pmem_cell (ix a0.cells s4.2)) ((R0_0.gr (fB.gr hz)).elem g18.1 g18.2) 3 1 rfl)) rfl rfl
              · intro ρz wz hz hk hd
                exact sk_val (by exact xr_move rfl ((hk 5 rfl).trans rfl)) rfl rfl
              · intro ρz wz hz hk hd
                have d32 := hd 10 rfl 32 rfl
                exact sk_val (by exact xr_nilCheck rfl d32) rfl rfl
              · intro ρz wz hz hk hd
                have d33 := hd 11 rfl 33 rfl
                exact sk_val (by exact xr_fieldAddr (p := so V0_0 + Int.toNat s4.2 * 4) (q := 2) rfl fl142_2 d33) rfl rfl
              · intro ρz wz hz hk hd
                have d34 := hd 12 rfl 34 rfl
                exact sk_val (v := .int .u64 ((ix a0.cells s4.2).sent)) (by exact xr_load1 (v := .int .u64 ((ix a0.cells s4.2).sent)) rfl ag22 d34 (At.segs (ss := segs_pmem_cell (ix a0.cells s4.2)) ((R0_0.gr (fB.gr hz)).elem g18.1 g18.2) 2 1 rfl)) rfl rfl
              · intro ρz wz hz hk hd
                exact sk_val (by exact xr_move rfl ((hk 5 rfl).trans rfl)) rfl rfl
              · intro ρz wz hz hk hd
                have d36 := hd 14 rfl 36 rfl
                exact sk_val (by exact xr_nilCheck rfl d36) rfl rfl
              · intro ρz wz hz hk hd
                have d37 := hd 15 rfl 37 rfl
                exact sk_val (by exact xr_fieldAddr (p := so V0_0 + Int.toNat s4.2 * 4) (q := 1) rfl fl142_1 d37) rfl rfl
              · intro ρz wz hz hk hd
                have d38 := hd 16 rfl 38 rfl
                exact sk_val (v := .int .u64 ((ix a0.cells s4.2).stored)) (by exact xr_load1 (v := .int .u64 ((ix a0.cells s4.2).stored)) rfl ag22 d38 (At.segs (ss := segs_pmem_cell (ix a0.cells s4.2)) ((R0_0.gr (fB.gr hz)).elem g18.1 g18.2) 1 1 rfl)) rfl rfl
              · intro ρz wz hz hk hd
                have d23 := hd 1 rfl 23 rfl
                have d27 := hd 5 rfl 27 rfl
                have d31 := hd 9 rfl 31 rfl
                have d35 := hd 13 rfl 35 rfl
                have d39 := hd 17 rfl 39 rfl
                exact sk_val (by exact xr_build (vals := [(0, .int .i64 s4.2), (1, .int .u64 ((ix a0.cells s4.2).lasts)), (2, .bool ((ix a0.cells s4.2).flushed)), (3, .int .u64 ((ix a0.cells s4.2).sent)), (4, .int .u64 ((ix a0.cells s4.2).stored))]) rfl ⟨rfl, d23, ⟨rfl, d27, ⟨rfl, d31, ⟨rfl, d35, ⟨rfl, d39, trivial⟩⟩⟩⟩⟩ (bl55_0_1_2_3_4 s4.2 ((ix a0.cells s4.2).lasts) ((ix a0.cells s4.2).flushed) ((ix a0.cells s4.2).sent) ((ix a0.cells s4.2).stored) _)) rfl rfl
              · intro ρz wz hz hk hd
                have d40 := hd 18 rfl 40 rfl
                refine sk_op (by exact opv_buildRec (K := k_api_Fate) (z := (⟨s4.2, (ix a0.cells s4.2).lasts, (ix a0.cells s4.2).flushed, (ix a0.cells s4.2).sent, (ix a0.cells s4.2).stored⟩ : S_api_Fate)) rfl Try.underlying52 el55 rfl rfl d40 rfl (Nat.le_trans fB.size hz.size)) rfl ?_
                rintro v30 wy ⟨o32, q31, z33⟩
                exact ⟨⟨v30, o32, rfl⟩, q31⟩
            · intro ρ35 w36 q37 hk hd
              have e0 := (hk 0 rfl).trans e0
              have e10 := (hk 10 rfl).trans e10
              have e11 := (hk 11 rfl).trans e11
              have e22 := hd 0 rfl 22 rfl
              obtain ⟨v38, o39, e41⟩ := hd 19 rfl 41 rfl
              have b_0 := b_0.gr q37
              have o12 := o12.gr q37
              have fB := fB.gr q37
              obtain ⟨g45, h⟩ := gs h
              have f47 := off_ty b_0 o12 (by decide)
              have f48 := o12.geO
              refine ol_op (by exact opv_append (K := k_api_Fate) rfl Try.underlying52 el55 rfl rfl rfl e22 e41 o12 o39.rd g45 fB.size) rfl rfl rfl ?_
              rintro v41 w49 ⟨o42, q43, n44⟩
              have b_0 := b_0.wrO q43 f47
              have fB := fB.wrO q43 f48
              refine ol_val (v := v41) (by exact xr_assign rfl rfl) rfl rfl rfl ?_
              refine ol_nil ?_
              obtain rfl := Option.some.inj h
              refine thn_i ?_
              exact ⟨v41, o42, e0, rfl, e10, e11, b_0, fB⟩
          · refine cw_condF rfl c29 ?_
            refine cw_skip ?_
            obtain rfl := Option.some.inj h
            refine thn_i ?_
            exact ⟨v11, o12, e0, e3, e10, e11, b_0, fB⟩
        · rintro ρ50 w51 ⟨v26, o27, e0, e3, e10, e11, b_0, fB⟩
          have h := h25
          refine blk_i ?_
          refine cw_region ?_
          refine ol_val (v := .int .i64 (IntKind.i64.wrap (s4.2 + 1))) (by exact xr_add rfl e11 rfl) rfl rfl rfl ?_
          refine ol_val (v := .int .i64 (IntKind.i64.wrap (s4.2 + 1))) (by exact xr_move rfl rfl) rfl rfl rfl ?_
          refine ol_nil ?_
          obtain rfl := Option.some.inj h
          refine lp_in ?_
          exact ⟨v26, o27, e0, e3, e10, rfl, b_0, fB⟩
      · refine cw_condF rfl c17 ?_
        refine cw_exit ?_
        repeat (first | with_reducible refine thn_e ?_ | with_reducible refine blk_e rfl ?_)
        obtain rfl := Option.some.inj h
        refine lp_exit ?_
        rintro rfl
        refine thn_x ?_
        exact ⟨v11, o12, e3, b_0, fB⟩
  · rintro ρ52 w53 ⟨v8, o9, e3, b_0, fB⟩
    have h := h7
    refine cw_seq ?_
    refine cw_region ?_
    refine ol_val (v := v8) (by exact xr_move rfl e3) rfl rfl rfl ?_
    refine ol_val (v := v8) (by exact xr_assign rfl rfl) rfl rfl rfl ?_
    refine ol_nil ?_
    refine cw_ret ?_
    repeat (first | with_reducible refine thn_r ?_ | with_reducible refine blk_r ?_)
    obtain rfl := Option.some.inj h
    refine fin_ret1 Try.results40 rfl ?_
    exact ⟨_, rfl, v8, o9, rfl, fB⟩
end Go.Proofs.Ytklhbaghbmndeaa

/- rickyard/octet.Read: its model, and that the Go function computes it: written by gen.py. -/
set_option linter.unusedVariables false
namespace Go.Proofs.Ytklhbaghbmndeaa
open Go Go.Xw
def octet_Read.s0 (fu : Nat) (a0 : List Int) : (Int × Int) → Option (Sum Int (Int × Int)) := fun s3 => (if (decide (s3.2 < (List.length (cut a0 0 (mnI (List.length a0 : Int) 8)) : Int))) = true then (if 0 ≤ s3.2 ∧ s3.2 < (List.length (cut a0 0 (mnI (List.length a0 : Int) 8)) : Int) then (if 0 ≤ (IntKind.i64.wrap (8 * s3.2)) then some (Sum.inr ((bOr .u64 s3.1 (shL .u64 (IntKind.u64.wrap (ix (cut a0 0 (mnI (List.length a0 : Int) 8)) s3.2)) (IntKind.i64.wrap (8 * s3.2)))), (IntKind.i64.wrap (s3.2 + 1)))) else none) else none) else some (Sum.inl (s3.1)))
def octet_Read.f (fu : Nat) (a0 : List Int) : Option Int := (if 0 ≤ (mnI (List.length a0 : Int) 8) ∧ (mnI (List.length a0 : Int) 8) ≤ (List.length a0 : Int) then ((loopM (octet_Read.s0 fu a0) fu (0, 0)).bind fun e4 => some (e4)) else none)
set_option maxRecDepth 100000 in
set_option maxHeartbeats 400000 in
theorem octet_Read.ok (fu : Nat) (w : World) (a0 : List Int) (V0_0 : Value) (R0_0 : Rd (kI .u8) w V0_0 a0) (r : Int) (h : octet_Read.f fu a0 = some r) :
    Calls Try.prog 109 (([V0_0] : List Value).toArray) w (fun e w' => ∃ v, e = .returned v ∧ v = .int .u64 r ∧ Gr w w') := by
  unfold octet_Read.f at h
  have fB : Gr w w := Fr.refl _ _
  refine calls_cw Try.func109 rfl Try.ntmps109 rfl ?_
  refine cw_seq ?_
  refine cw_region ?_
  refine ol_val (v := .int .u64 0) (by exact xr_assign rfl rfl) rfl rfl rfl ?_
  refine ol_nil ?_
  refine cw_seq ?_
  refine cw_region ?_
  refine ol_val (v := .int .u64 0) (by exact xr_assign rfl rfl) rfl rfl rfl ?_
  refine ol_nil ?_
  refine cw_seq ?_
  refine cw_seq ?_
  refine cw_region ?_
  refine ol_val (v := V0_0) (by exact xr_move rfl rfl) rfl rfl rfl ?_
  refine ol_val (v := V0_0) (by exact xr_move rfl rfl) rfl rfl rfl ?_
  refine ol_val (v := .int .i64 (List.length a0 : Int)) (by exact xr_lenR rfl Try.underlying43 rfl (R0_0.gr fB)) rfl rfl rfl ?_
  refine ol_val (v := .int .i64 (mnI (List.length a0 : Int) 8)) (by exact xr_min2 rfl rfl rfl) rfl rfl rfl ?_
  obtain ⟨g2, h⟩ := gs h
  refine ol_val (v := subv 1 V0_0 0 (Int.toNat (mnI (List.length a0 : Int) 8))) (by exact xr_slice_h (K := (kI .u8)) (v := V0_0) rfl Try.underlying43 sz5 rfl (R0_0.gr fB) rfl g2.1 g2.2) rfl rfl rfl ?_
  have r1 : Rd (kI .u8) w (subv 1 V0_0 0 (Int.toNat (mnI (List.length a0 : Int) 8))) (cut a0 0 (mnI (List.length a0 : Int) 8)) := (R0_0.gr fB).cut (lo := 0) (hi := (mnI (List.length a0 : Int) 8)) (by decide) g2.1 g2.2
  refine ol_val (v := .int .i64 (List.length (cut a0 0 (mnI (List.length a0 : Int) 8)) : Int)) (by exact xr_lenR rfl Try.underlying43 rfl r1) rfl rfl rfl ?_
  refine ol_val (v := .int .i64 0) (by exact xr_move rfl rfl) rfl rfl rfl ?_
  refine ol_nil ?_
  obtain ⟨e4, l5, h6⟩ := bs h
  refine cw_mid (fun ρ' w' => ρ' 3 = .int .u64 e4 ∧ Gr w w') ?_ ?_
  · refine cw_block ?_
    refine cw_round (fun (s3 : Int × Int) ρ' w' => ∃ r1 : Rd (kI .u8) w' (subv 1 V0_0 0 (Int.toNat (mnI (List.length a0 : Int) 8))) (cut a0 0 (mnI (List.length a0 : Int) 8)), ρ' 3 = .int .u64 s3.1 ∧ ρ' 10 = subv 1 V0_0 0 (Int.toNat (mnI (List.length a0 : Int) 8)) ∧ ρ' 11 = .int .i64 (List.length (cut a0 0 (mnI (List.length a0 : Int) 8)) : Int) ∧ ρ' 12 = .int .i64 s3.2 ∧ Gr w w') l5 ?_ ?_
    · skip
      exact ⟨r1, rfl, rfl, rfl, rfl, fB⟩
    · rintro s3 x9 ρ7 w8 ⟨r1, e3, e10, e11, e12, fB⟩ h
      unfold octet_Read.s0 at h
      refine cw_seq ?_
      refine cw_region ?_
      refine ol_val (v := .bool (decide (s3.2 < (List.length (cut a0 0 (mnI (List.length a0 : Int) 8)) : Int)))) (by exact xr_lss rfl e12 e11) rfl rfl rfl ?_
      refine ol_nil ?_
      refine cw_seq ?_
      rcases is h with ⟨c10, h⟩ | ⟨c10, h⟩
      · refine cw_condT rfl c10 ?_
        refine cw_skip ?_
        refine cw_seq ?_
        refine cw_block ?_
        refine cw_seq ?_
        refine cw_region ?_
        refine ol_val (v := .int .i64 s3.2) (by exact xr_move rfl e12) rfl rfl rfl ?_
        obtain ⟨g11, h⟩ := gs h
        refine ol_val (v := .pointer (some ⟨(sb (subv 1 V0_0 0 (Int.toNat (mnI (List.length a0 : Int) 8)))), so (subv 1 V0_0 0 (Int.toNat (mnI (List.length a0 : Int) 8))) + Int.toNat s3.2 * 1, none⟩)) (by exact xr_indexR (K := (kI .u8)) (v := subv 1 V0_0 0 (Int.toNat (mnI (List.length a0 : Int) 8))) rfl Try.underlying43 sz5 e10 r1 e12 g11.1 g11.2) rfl rfl rfl ?_
        refine ol_val (v := .int .u8 (ix (cut a0 0 (mnI (List.length a0 : Int) 8)) s3.2)) (by exact xr_load1 (v := .int .u8 (ix (cut a0 0 (mnI (List.length a0 : Int) 8)) s3.2)) rfl ag5 rfl (r1.elem g11.1 g11.2)) rfl rfl rfl ?_
        refine ol_val (v := .int .i64 s3.2) (by exact xr_assign rfl rfl) rfl rfl rfl ?_
        refine ol_val (v := .int .u8 (ix (cut a0 0 (mnI (List.length a0 : Int) 8)) s3.2)) (by exact xr_assign rfl rfl) rfl rfl rfl ?_
        refine ol_nil ?_
        refine cw_region ?_
        refine ol_val (v := .int .u64 s3.1) (by exact xr_move rfl e3) rfl rfl rfl ?_
        refine ol_val (v := .int .u8 (ix (cut a0 0 (mnI (List.length a0 : Int) 8)) s3.2)) (by exact xr_move rfl rfl) rfl rfl rfl ?_
        refine ol_val (v := .int .u64 (IntKind.u64.wrap (ix (cut a0 0 (mnI (List.length a0 : Int) 8)) s3.2))) (by exact xr_conv rfl Try.underlying5 Try.underlying22 rfl) rfl rfl rfl ?_
        refine ol_val (v := .int .i64 s3.2) (by exact xr_move rfl rfl) rfl rfl rfl ?_
        refine ol_val (v := .int .i64 (IntKind.i64.wrap (8 * s3.2))) (by exact xr_mul rfl rfl rfl) rfl rfl rfl ?_
        obtain ⟨g12, h⟩ := gs h
        refine ol_val (v := .int .u64 (shL .u64 (IntKind.u64.wrap (ix (cut a0 0 (mnI (List.length a0 : Int) 8)) s3.2)) (IntKind.i64.wrap (8 * s3.2)))) (by exact xr_shl rfl rfl rfl g12) rfl rfl rfl ?_
        refine ol_val (v := .int .u64 (bOr .u64 s3.1 (shL .u64 (IntKind.u64.wrap (ix (cut a0 0 (mnI (List.length a0 : Int) 8)) s3.2)) (IntKind.i64.wrap (8 * s3.2))))) (by exact xr_or rfl rfl rfl) rfl rfl rfl ?_
        refine ol_val (v := .int .u64 (bOr .u64 s3.1 (shL .u64 (IntKind.u64.wrap (ix (cut a0 0 (mnI (List.length a0 : Int) 8)) s3.2)) (IntKind.i64.wrap (8 * s3.2))))) (by exact xr_assign rfl rfl) rfl rfl rfl ?_
        refine ol_nil ?_
        refine blk_i ?_
        refine cw_region ?_
        refine ol_val (v := .int .i64 (IntKind.i64.wrap (s3.2 + 1))) (by exact xr_add rfl e12 rfl) rfl rfl rfl ?_
        refine ol_val (v := .int .i64 (IntKind.i64.wrap (s3.2 + 1))) (by exact xr_move rfl rfl) rfl rfl rfl ?_
        refine ol_nil ?_
        obtain rfl := Option.some.inj h
        refine lp_in ?_
        exact ⟨r1, rfl, e10, e11, rfl, fB⟩
      · refine cw_condF rfl c10 ?_
        refine cw_exit ?_
        repeat (first | with_reducible refine thn_e ?_ | with_reducible refine blk_e rfl ?_)
        obtain rfl := Option.some.inj h
        refine lp_exit ?_
        rintro rfl
        refine thn_x ?_
        exact ⟨e3, fB⟩
  · rintro ρ13 w14 ⟨e3, fB⟩
    have h := h6
    refine cw_seq ?_
    refine cw_region ?_
    refine ol_val (v := .int .u64 e4) (by exact xr_move rfl e3) rfl rfl rfl ?_
    refine ol_val (v := .int .u64 e4) (by exact xr_assign rfl rfl) rfl rfl rfl ?_
    refine ol_nil ?_
    refine cw_ret ?_
    repeat (first | with_reducible refine thn_r ?_ | with_reducible refine blk_r ?_)
    obtain rfl := Option.some.inj h
    refine fin_ret1 Try.results109 rfl ?_
    exact ⟨_, rfl, rfl, fB⟩
end Go.Proofs.Ytklhbaghbmndeaa

/- rickyard/octet.Words: its model, and that the Go function computes it: written by gen.py. -/
set_option linter.unusedVariables false
namespace Go.Proofs.Ytklhbaghbmndeaa
open Go Go.Xw
def octet_Words.s0 (fu : Nat) : ((List Int) × (List Int)) → Option (Sum (List Int) ((List Int) × (List Int))) := fun s4 => (if (decide ((List.length s4.1 : Int) ≥ 8)) = true then ((octet_Read.f fu s4.1 : Option Int).bind fun t21 => (if List.length s4.2 + List.length [t21] ≤ LIM then (if (8 : Int) ≤ (List.length s4.1 : Int) then some (Sum.inr ((cut s4.1 8 (List.length s4.1 : Int)), (s4.2 ++ [t21]))) else none) else none)) else some (Sum.inl (s4.2)))
def octet_Words.f (fu : Nat) (a0 : List Int) : Option (List Int) := ((loopM (octet_Words.s0 fu) fu (a0, [])).bind fun e5 => some (e5))
set_option maxRecDepth 100000 in
set_option maxHeartbeats 400000 in
theorem octet_Words.ok (fu : Nat) (w : World) (a0 : List Int) (V0_0 : Value) (R0_0 : Rd (kI .u8) w V0_0 a0) (r : (List Int)) (h : octet_Words.f fu a0 = some r) :
    Calls Try.prog 99 (([V0_0] : List Value).toArray) w (fun e w' => ∃ v, e = .returned v ∧ ∃ u1 : Value, ∃ o2 : Own (kI .u64) 22 w' w.heap.size u1 r, v = u1 ∧ Gr w w') := by
  unfold octet_Words.f at h
  have fB : Gr w w := Fr.refl _ _
  refine calls_cw Try.func99 rfl Try.ntmps99 rfl ?_
  refine cw_seq ?_
  refine cw_region ?_
  refine ol_val (v := .slice none 0 0) (by exact xr_assign rfl rfl) rfl rfl rfl ?_
  refine ol_nil ?_
  refine cw_seq ?_
  refine cw_region ?_
  refine ol_val (v := .slice none 0 0) (by exact xr_assign rfl rfl) rfl rfl rfl ?_
  refine ol_nil ?_
  refine cw_seq ?_
  obtain ⟨e5, l6, h7⟩ := bs h
  refine cw_mid (fun ρ' w' => ∃ v8 : Value, ∃ o9 : Own (kI .u64) 22 w' w.heap.size v8 e5, ρ' 3 = v8 ∧ Gr w w') ?_ ?_
  · refine cw_block ?_
    refine cw_round (fun (s4 : (List Int) × (List Int)) ρ' w' => ∃ v11 : Value, ∃ v13 : Value, ∃ o14 : Own (kI .u64) 22 w' w.heap.size v13 s4.2, ∃ r12 : Rd (kI .u8) w' v11 s4.1, OffRV v11 s4.1 v13 ∧ ρ' 0 = v11 ∧ ρ' 3 = v13 ∧ Gr w w') l6 ?_ ?_
    · skip
      exact ⟨V0_0, (.slice none 0 0), Own.nil _ _ _ _, (R0_0.gr fB), (OffRV.nil _ _), rfl, rfl, fB⟩
    · rintro s4 x19 ρ17 w18 ⟨v11, v13, o14, r12, a16, e0, e3, fB⟩ h
      unfold octet_Words.s0 at h
      refine cw_seq ?_
      refine cw_seq ?_
      refine cw_region ?_
      refine ol_val (v := v11) (by exact xr_move rfl e0) rfl rfl rfl ?_
      refine ol_val (v := .int .i64 (List.length s4.1 : Int)) (by exact xr_lenR rfl Try.underlying43 rfl r12) rfl rfl rfl ?_
      refine ol_val (v := .bool (decide ((List.length s4.1 : Int) ≥ 8))) (by exact xr_geq rfl rfl rfl) rfl rfl rfl ?_
      refine ol_nil ?_
      rcases is h with ⟨c20, h⟩ | ⟨c20, h⟩
      · refine cw_condT rfl c20 ?_
        refine cw_skip ?_
        refine cw_block ?_
        refine cw_seq ?_
        refine cw_region ?_
        refine ol_val (v := v13) (by exact xr_move rfl e3) rfl rfl rfl ?_
        refine ol_val (v := v11) (by exact xr_move rfl e0) rfl rfl rfl ?_
        obtain ⟨t21, k22, h⟩ := bs h
        refine ol_op (by exact opv_call rfl cal109 (ac rfl an) (octet_Read.ok fu _ s4.1 v11 (r12) _ k22)) rfl rfl rfl ?_
        rintro _ w24 ⟨rfl, q23⟩
        have o14 := o14.gr q23
        have r12 := r12.gr q23
        have fB := fB.gr q23
        refine ol_op (by exact opv_buildSlice (K := (kI .u64)) (xs := [t21]) (vals := [.int .u64 t21]) rfl Try.underlying46 el22 rfl rfl ⟨rfl, rfl, trivial⟩ rfl rfl rfl fB.size) rfl rfl rfl ?_
        rintro v25 w30 ⟨o27, q26, z28⟩
        have a31 := OffV.new o14 z28
        have a32 := OffRV.new r12 z28 rfl
        have o14 := o14.gr q26
        have r12 := r12.gr q26
        have fB := fB.gr q26
        obtain ⟨g37, h⟩ := gs h
        have f39 := o14.geO
        refine ol_op (by exact opv_append (K := (kI .u64)) rfl Try.underlying46 el22 rfl rfl rfl rfl rfl o14 o27.rd g37 fB.size) rfl rfl rfl ?_
        rintro v33 w40 ⟨o34, q35, n36⟩
        have a41 := OffRV.app r12 a16 n36 rfl
        have fB := fB.wrO q35 f39
        have r12 := r12.wrV q35 a16
        refine ol_val (v := v33) (by exact xr_assign rfl rfl) rfl rfl rfl ?_
        refine ol_nil ?_
        refine cw_region ?_
        refine ol_val (v := v11) (by exact xr_move rfl e0) rfl rfl rfl ?_
        obtain ⟨g43, h⟩ := gs h
        refine ol_val (v := subv 1 v11 (Int.toNat 8) (List.length s4.1)) (by exact xr_slice_l (K := (kI .u8)) (v := v11) rfl Try.underlying43 sz5 rfl r12 rfl (by decide) g43) rfl rfl rfl ?_
        have r42 : Rd (kI .u8) w40 (subv 1 v11 (Int.toNat 8) (List.length s4.1)) (cut s4.1 8 (List.length s4.1 : Int)) := r12.cut (lo := 8) (hi := (List.length s4.1 : Int)) (by decide) g43 (Int.le_refl _)
        refine ol_val (v := subv 1 v11 (Int.toNat 8) (List.length s4.1)) (by exact xr_assign rfl rfl) rfl rfl rfl ?_
        refine ol_nil ?_
        refine blk_i ?_
        obtain rfl := Option.some.inj h
        refine lp_in ?_
        exact ⟨(subv 1 v11 (Int.toNat 8) (List.length s4.1)), v33, o34, r42, (OffRV.cut a41), rfl, rfl, fB⟩
      · refine cw_condF rfl c20 ?_
        refine cw_exit ?_
        repeat (first | with_reducible refine thn_e ?_ | with_reducible refine blk_e rfl ?_)
        obtain rfl := Option.some.inj h
        refine lp_exit ?_
        rintro rfl
        refine thn_x ?_
        exact ⟨v13, o14, e3, fB⟩
  · rintro ρ44 w45 ⟨v8, o9, e3, fB⟩
    have h := h7
    refine cw_seq ?_
    refine cw_region ?_
    refine ol_val (v := v8) (by exact xr_move rfl e3) rfl rfl rfl ?_
    refine ol_val (v := v8) (by exact xr_assign rfl rfl) rfl rfl rfl ?_
    refine ol_nil ?_
    refine cw_ret ?_
    repeat (first | with_reducible refine thn_r ?_ | with_reducible refine blk_r ?_)
    obtain rfl := Option.some.inj h
    refine fin_ret1 Try.results99 rfl ?_
    exact ⟨_, rfl, v8, o9, rfl, fB⟩
end Go.Proofs.Ytklhbaghbmndeaa

/- rickyard/pmem.From: its model, and that the Go function computes it: written by gen.py. -/
set_option linter.unusedVariables false
namespace Go.Proofs.Ytklhbaghbmndeaa
open Go Go.Xw
def pmem_From.s0 (fu : Nat) (t11 : (List Int)) : (Int × (List S_pmem_cell)) → Option (Sum (List S_pmem_cell) (Int × (List S_pmem_cell))) := fun s18 => (if (decide (s18.1 < (List.length t11 : Int))) = true then (if 0 ≤ s18.1 ∧ s18.1 < (List.length t11 : Int) then (if List.length s18.2 + List.length [(⟨(ix t11 s18.1), (ix t11 s18.1), (0 : Int), false⟩ : S_pmem_cell)] ≤ LIM then some (Sum.inr ((IntKind.i64.wrap (s18.1 + 1)), (s18.2 ++ [(⟨(ix t11 s18.1), (ix t11 s18.1), (0 : Int), false⟩ : S_pmem_cell)]))) else none) else none) else some (Sum.inl (s18.2)))
def pmem_From.f (fu : Nat) (a0 : List Int) : Option S_pmem_Device := (if 0 ≤ (IntKind.i64.wrap ((mnI (IntKind.i64.wrap (Int.tdiv (List.length a0 : Int) 64)) 4096) * 64)) ∧ (IntKind.i64.wrap ((mnI (IntKind.i64.wrap (Int.tdiv (List.length a0 : Int) 64)) 4096) * 64)) ≤ (List.length a0 : Int) then ((octet_Words.f fu (cut a0 0 (IntKind.i64.wrap ((mnI (IntKind.i64.wrap (Int.tdiv (List.length a0 : Int) 64)) 4096) * 64))) : Option (List Int)).bind fun t11 => ((loopM (pmem_From.s0 fu t11) fu (0, [])).bind fun e19 => some ((⟨e19, (⟨[], (0 : Int)⟩ : S_pmem_plan), false, false, (0 : Int), (0 : Int)⟩ : S_pmem_Device)))) else none)
set_option maxRecDepth 100000 in
set_option maxHeartbeats 400000 in
theorem pmem_From.ok (fu : Nat) (w : World) (a0 : List Int) (V0_0 : Value) (R0_0 : Rd (kI .u8) w V0_0 a0) (r : S_pmem_Device) (h : pmem_From.f fu a0 = some r) :
    Calls Try.prog 48 (([V0_0] : List Value).toArray) w (fun e w' => ∃ v, e = .returned v ∧ ∃ u1 : Value, ∃ p2 : ∃ G9 : Nat, ∃ U0 : Value, ∃ U1 : Value, ∃ O0 : Own k_pmem_cell 142 w' w.heap.size U0 r.cells, ∃ O1 : Own (kI .i64) 3 w' w.heap.size U1 r.plan.list, u1 = .pointer (some ⟨G9, 0, none⟩) ∧ w.heap.size ≤ G9 ∧ Blk w' G9 139 [Seg.cell U0 O0.one, Seg.cell U1 O1.one, Seg.cell (.int .i64 r.plan.at_), Seg.cell (.bool r.off), Seg.cell (.bool r.armed), Seg.cell (.int .i64 r.left), Seg.cell (.int .i64 r.steps)], v = u1 ∧ Gr w w') := by
  unfold pmem_From.f at h
  have fB : Gr w w := Fr.refl _ _
  refine calls_cw Try.func48 rfl Try.ntmps48 rfl ?_
  refine cw_seq ?_
  refine cw_region ?_
  refine ol_val (v := .pointer none) (by exact xr_assign rfl rfl) rfl rfl rfl ?_
  refine ol_nil ?_
  refine cw_seq ?_
  refine cw_region ?_
  refine ol_val (v := V0_0) (by exact xr_move rfl rfl) rfl rfl rfl ?_
  refine ol_val (v := .int .i64 (List.length a0 : Int)) (by exact xr_lenR rfl Try.underlying43 rfl (R0_0.gr fB)) rfl rfl rfl ?_
  refine ol_val (v := .int .i64 (IntKind.i64.wrap (Int.tdiv (List.length a0 : Int) 64))) (by exact xr_quo rfl rfl rfl (by decide)) rfl rfl rfl ?_
  refine ol_val (v := .int .i64 (mnI (IntKind.i64.wrap (Int.tdiv (List.length a0 : Int) 64)) 4096)) (by exact xr_min2 rfl rfl rfl) rfl rfl rfl ?_
  refine ol_val (v := .int .i64 (mnI (IntKind.i64.wrap (Int.tdiv (List.length a0 : Int) 64)) 4096)) (by exact xr_assign rfl rfl) rfl rfl rfl ?_
  refine ol_nil ?_
  refine cw_seq ?_
  refine cw_region ?_
  refine ol_val (v := aggV [Seg.cell (.slice none 0 0) (by rfl), Seg.cell (.slice none 0 0) (by rfl), Seg.cell (.int .i64 (0 : Int)), Seg.cell (.bool false), Seg.cell (.bool false), Seg.cell (.int .i64 (0 : Int)), Seg.cell (.int .i64 (0 : Int))]) (by exact xr_build (vals := []) rfl trivial (bl139_ _)) rfl rfl rfl ?_
  refine ol_op (by exact opv_box (ss := [Seg.cell (.slice none 0 0) (by rfl), Seg.cell (.slice none 0 0) (by rfl), Seg.cell (.int .i64 (0 : Int)), Seg.cell (.bool false), Seg.cell (.bool false), Seg.cell (.int .i64 (0 : Int)), Seg.cell (.int .i64 (0 : Int))]) rfl rfl rfl) rfl rfl rfl ?_
  rintro _ w8 ⟨G3, rfl, b4, q5, z6⟩
  have z6 := Nat.le_trans fB.size z6
  have fB := fB.gr q5
  refine ol_val (v := .pointer (some ⟨G3, 0, none⟩)) (by exact xr_assign rfl rfl) rfl rfl rfl ?_
  refine ol_nil ?_
  refine cw_seq ?_
  refine cw_seq ?_
  refine cw_region ?_
  refine ol_val (v := V0_0) (by exact xr_move rfl rfl) rfl rfl rfl ?_
  refine ol_val (v := .int .i64 (mnI (IntKind.i64.wrap (Int.tdiv (List.length a0 : Int) 64)) 4096)) (by exact xr_move rfl rfl) rfl rfl rfl ?_
  refine ol_val (v := .int .i64 (IntKind.i64.wrap ((mnI (IntKind.i64.wrap (Int.tdiv (List.length a0 : Int) 64)) 4096) * 64))) (by exact xr_mul rfl rfl rfl) rfl rfl rfl ?_
  obtain ⟨g10, h⟩ := gs h
  refine ol_val (v := subv 1 V0_0 0 (Int.toNat (IntKind.i64.wrap ((mnI (IntKind.i64.wrap (Int.tdiv (List.length a0 : Int) 64)) 4096) * 64)))) (by exact xr_slice_h (K := (kI .u8)) (v := V0_0) rfl Try.underlying43 sz5 rfl (R0_0.gr fB) rfl g10.1 g10.2) rfl rfl rfl ?_
  have r9 : Rd (kI .u8) w8 (subv 1 V0_0 0 (Int.toNat (IntKind.i64.wrap ((mnI (IntKind.i64.wrap (Int.tdiv (List.length a0 : Int) 64)) 4096) * 64)))) (cut a0 0 (IntKind.i64.wrap ((mnI (IntKind.i64.wrap (Int.tdiv (List.length a0 : Int) 64)) 4096) * 64))) := (R0_0.gr fB).cut (lo := 0) (hi := (IntKind.i64.wrap ((mnI (IntKind.i64.wrap (Int.tdiv (List.length a0 : Int) 64)) 4096) * 64))) (by decide) g10.1 g10.2
  obtain ⟨t11, k12, h⟩ := bs h
  refine ol_op (by exact opv_call rfl cal99 (ac rfl an) (octet_Words.ok fu _ (cut a0 0 (IntKind.i64.wrap ((mnI (IntKind.i64.wrap (Int.tdiv (List.length a0 : Int) 64)) 4096) * 64))) (subv 1 V0_0 0 (Int.toNat (IntKind.i64.wrap ((mnI (IntKind.i64.wrap (Int.tdiv (List.length a0 : Int) 64)) 4096) * 64)))) (r9) _ k12)) rfl rfl rfl ?_
  rintro u13 w17 ⟨_, o14, rfl, q16⟩
  have o14 := Own.base o14 fB.size
  have b4 := b4.gr q16
  have fB := fB.gr q16
  refine ol_val (v := .int .i64 (List.length t11 : Int)) (by exact xr_lenR rfl Try.underlying46 rfl o14.rd) rfl rfl rfl ?_
  refine ol_val (v := .int .i64 0) (by exact xr_move rfl rfl) rfl rfl rfl ?_
  refine ol_nil ?_
  obtain ⟨e19, l20, h21⟩ := bs h
  refine cw_mid (fun ρ' w' => ∃ v22 : Value, ∃ o23 : Own k_pmem_cell 142 w' w.heap.size v22 e19, ρ' 4 = .pointer (some ⟨G3, 0, none⟩) ∧ Blk w' G3 139 [Seg.cell v22 o23.one, Seg.cell (.slice none 0 0) (by rfl), Seg.cell (.int .i64 (0 : Int)), Seg.cell (.bool false), Seg.cell (.bool false), Seg.cell (.int .i64 (0 : Int)), Seg.cell (.int .i64 (0 : Int))] ∧ Gr w w') ?_ ?_
  · refine cw_block ?_
    refine cw_round (fun (s18 : Int × (List S_pmem_cell)) ρ' w' => ∃ v25 : Value, ∃ o14 : Own (kI .u64) 22 w' w.heap.size u13 t11, ∃ o26 : Own k_pmem_cell 142 w' w.heap.size v25 s18.2, ρ' 4 = .pointer (some ⟨G3, 0, none⟩) ∧ ρ' 17 = u13 ∧ ρ' 18 = .int .i64 (List.length t11 : Int) ∧ ρ' 19 = .int .i64 s18.1 ∧ Blk w' G3 139 [Seg.cell v25 o26.one, Seg.cell (.slice none 0 0) (by rfl), Seg.cell (.int .i64 (0 : Int)), Seg.cell (.bool false), Seg.cell (.bool false), Seg.cell (.int .i64 (0 : Int)), Seg.cell (.int .i64 (0 : Int))] ∧ Gr w w') l20 ?_ ?_
    · skip
      exact ⟨(.slice none 0 0), o14, Own.nil _ _ _ _, rfl, rfl, rfl, rfl, b4, fB⟩
    · rintro s18 x30 ρ28 w29 ⟨v25, o14, o26, e4, e17, e18, e19, b4, fB⟩ h
      unfold pmem_From.s0 at h
      refine cw_seq ?_
      refine cw_region ?_
      refine ol_val (v := .bool (decide (s18.1 < (List.length t11 : Int)))) (by exact xr_lss rfl e19 e18) rfl rfl rfl ?_
      refine ol_nil ?_
      refine cw_seq ?_
      rcases is h with ⟨c31, h⟩ | ⟨c31, h⟩
      · refine cw_condT rfl c31 ?_
        refine cw_skip ?_
        refine cw_seq ?_
        refine cw_block ?_
        refine cw_seq ?_
        refine cw_region ?_
        obtain ⟨g32, h⟩ := gs h
        refine ol_val (v := .pointer (some ⟨(sb u13), so u13 + Int.toNat s18.1 * 1, none⟩)) (by exact xr_indexR (K := (kI .u64)) (v := u13) rfl Try.underlying46 sz22 e17 o14.rd e19 g32.1 g32.2) rfl rfl rfl ?_
        refine ol_val (v := .int .u64 (ix t11 s18.1)) (by exact xr_load1 (v := .int .u64 (ix t11 s18.1)) rfl ag22 rfl (o14.rd.elem g32.1 g32.2)) rfl rfl rfl ?_
        refine ol_val (v := .int .u64 (ix t11 s18.1)) (by exact xr_assign rfl rfl) rfl rfl rfl ?_
        refine ol_nil ?_
        refine cw_region ?_
        refine ol_val (v := .pointer (some ⟨G3, 0, none⟩)) (by exact xr_move rfl e4) rfl rfl rfl ?_
        refine ol_val (v := .pointer (some ⟨G3, 0, none⟩)) (by exact xr_move rfl e4) rfl rfl rfl ?_
        refine ol_val (v := .pointer (some ⟨G3, 0, none⟩)) (by exact xr_nilCheck rfl rfl) rfl rfl rfl ?_
        refine ol_val (v := .pointer (some ⟨G3, 0, none⟩)) (by exact xr_fieldAddr (p := 0) (q := 0) rfl fl139_0 rfl) rfl rfl rfl ?_
        refine ol_val (v := v25) (by exact xr_load1 (v := v25) rfl ag135 rfl (b4.seg 0 rfl rfl)) rfl rfl rfl ?_
        refine ol_val (v := .int .u64 (ix t11 s18.1)) (by exact xr_move rfl rfl) rfl rfl rfl ?_
        refine ol_val (v := .int .u64 (ix t11 s18.1)) (by exact xr_move rfl rfl) rfl rfl rfl ?_
        refine ol_val (v := aggV [Seg.cell (.int .u64 (ix t11 s18.1)), Seg.cell (.int .u64 (ix t11 s18.1)), Seg.cell (.int .u64 (0 : Int)), Seg.cell (.bool false)]) (by exact xr_build (vals := [(0, .int .u64 (ix t11 s18.1)), (1, .int .u64 (ix t11 s18.1))]) rfl ⟨rfl, rfl, ⟨rfl, rfl, trivial⟩⟩ (bl142_0_1 (ix t11 s18.1) (ix t11 s18.1) _)) rfl rfl rfl ?_
        refine ol_op (by exact opv_buildRec (K := k_pmem_cell) (z := (⟨(ix t11 s18.1), (ix t11 s18.1), (0 : Int), false⟩ : S_pmem_cell)) rfl Try.underlying135 el142 rfl rfl rfl rfl fB.size) rfl rfl rfl ?_
        rintro v33 w38 ⟨o35, q34, z36⟩
        have a39 := OffV.new o26 z36
        have b4 := b4.gr q34
        have o14 := o14.gr q34
        have o26 := o26.gr q34
        have fB := fB.gr q34
        obtain ⟨g44, h⟩ := gs h
        have f46 := off_ty b4 o26 (by decide)
        have f47 := OffV.ty o14 o26 (by decide)
        have f48 := o26.geO
        refine ol_op (by exact opv_append (K := k_pmem_cell) rfl Try.underlying135 el142 rfl rfl rfl rfl rfl o26 o35.rd g44 fB.size) rfl rfl rfl ?_
        rintro v40 w49 ⟨o41, q42, n43⟩
        have b4 := b4.wrO q42 f46
        have o14 := o14.wrV q42 f47
        have fB := fB.wrO q42 f48
        refine ol_val (v := .pointer (some ⟨G3, 0, none⟩)) (by exact xr_nilCheck rfl rfl) rfl rfl rfl ?_
        refine ol_val (v := .pointer (some ⟨G3, 0, none⟩)) (by exact xr_fieldAddr (p := 0) (q := 0) rfl fl139_0 rfl) rfl rfl rfl ?_
        have f51 := off_ty b4 o14 (by decide)
        have f52 := off_ty b4 o41 (by decide)
        refine ol_op0 (by exact opv_store (ss' := [Seg.cell v40 o41.one, Seg.cell (.slice none 0 0) (by rfl), Seg.cell (.int .i64 (0 : Int)), Seg.cell (.bool false), Seg.cell (.bool false), Seg.cell (.int .i64 (0 : Int)), Seg.cell (.int .i64 (0 : Int))]) (xs := cellsOf [Seg.cell v40 o41.one]) rfl sz135 rfl rfl (cells_one o41.one) (len_cellsOf _) (one_cellsOf _) b4 (Spl.segs _ 0 1 [Seg.cell v40 o41.one] rfl rfl)) rfl rfl ?_
        rintro _ w53 ⟨b4, q50⟩
        have o14 := o14.wr q50 f51
        have o41 := o41.wr q50 f52
        have fB := fB.wr q50 z6
        refine ol_nil ?_
        refine blk_i ?_
        refine cw_region ?_
        refine ol_val (v := .int .i64 (IntKind.i64.wrap (s18.1 + 1))) (by exact xr_add rfl e19 rfl) rfl rfl rfl ?_
        refine ol_val (v := .int .i64 (IntKind.i64.wrap (s18.1 + 1))) (by exact xr_move rfl rfl) rfl rfl rfl ?_
        refine ol_nil ?_
        obtain rfl := Option.some.inj h
        refine lp_in ?_
        exact ⟨v40, o14, o41, e4, e17, e18, rfl, b4, fB⟩
      · refine cw_condF rfl c31 ?_
        refine cw_exit ?_
        repeat (first | with_reducible refine thn_e ?_ | with_reducible refine blk_e rfl ?_)
        obtain rfl := Option.some.inj h
        refine lp_exit ?_
        rintro rfl
        refine thn_x ?_
        exact ⟨v25, o26, e4, b4, fB⟩
  · rintro ρ54 w55 ⟨v22, o23, e4, b4, fB⟩
    have h := h21
    refine cw_seq ?_
    refine cw_region ?_
    refine ol_val (v := .pointer (some ⟨G3, 0, none⟩)) (by exact xr_move rfl e4) rfl rfl rfl ?_
    refine ol_val (v := .pointer (some ⟨G3, 0, none⟩)) (by exact xr_assign rfl rfl) rfl rfl rfl ?_
    refine ol_nil ?_
    refine cw_ret ?_
    repeat (first | with_reducible refine thn_r ?_ | with_reducible refine blk_r ?_)
    obtain rfl := Option.some.inj h
    refine fin_ret1 Try.results48 rfl ?_
    exact ⟨_, rfl, (.pointer (some ⟨G3, 0, none⟩)), ⟨G3, v22, (.slice none 0 0), o23, Own.nil _ _ _ _, rfl, z6, b4⟩, rfl, fB⟩
end Go.Proofs.Ytklhbaghbmndeaa
