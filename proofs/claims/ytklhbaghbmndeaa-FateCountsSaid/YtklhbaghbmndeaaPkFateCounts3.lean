/- FateCounts: texts merged, part 3 of 8. The last part proves that the law FateCounts holds for every input. -/
import Derived.Test.YtklhbaghbmndeaaPkFateCounts2
/- (*rickyard/pmem.Device).Fates: its model, and that the Go function computes it: written by gen.py. -/
set_option linter.unusedVariables false
namespace Go.Proofs.Ytklhbaghbmndeaa
open Go Go.Xw
def pmem_Device_Fates.s0 (fu : Nat) (a0 : S_pmem_Device) : ((List S_api_Fate) × Int) → Option (Sum (List S_api_Fate) ((List S_api_Fate) × Int)) := fun s4 => (if (decide (s4.2 < (List.length a0.cells : Int))) = true then (if 0 ≤ s4.2 ∧ s4.2 < (List.length a0.cells : Int) then ((pmem_cell_open__r0.f fu (ix a0.cells s4.2) : Option Bool).bind fun t19 => (((if t19 = true then (if List.length s4.1 + List.length [(⟨s4.2, (ix a0.cells s4.2).lasts, (ix a0.cells s4.2).flushed, (ix a0.cells s4.2).sent, (ix a0.cells s4.2).stored⟩ : S_api_Fate)] ≤ LIM then some ((s4.1 ++ [(⟨s4.2, (ix a0.cells s4.2).lasts, (ix a0.cells s4.2).flushed, (ix a0.cells s4.2).sent, (ix a0.cells s4.2).stored⟩ : S_api_Fate)])) else none) else some (s4.1)) : Option (List S_api_Fate)).bind fun x23 => some (Sum.inr (x23, (IntKind.i64.wrap (s4.2 + 1)))))) else none) else some (Sum.inl (s4.1)))
def pmem_Device_Fates.f (fu : Nat) (a0 : S_pmem_Device) : Option (List S_api_Fate) := ((loopM (pmem_Device_Fates.s0 fu a0) fu ([], 0)).bind fun e5 => some (e5))
set_option maxRecDepth 100000 in
set_option maxHeartbeats 400000 in
theorem pmem_Device_Fates.ok (fu : Nat) (w : World) (a0 : S_pmem_Device) (G_0 : Nat) (V0_0 : Value) (R0_0 : Rd k_pmem_cell w V0_0 a0.cells) (V0_1 : Value) (R0_1 : Rd (kI .i64) w V0_1 a0.plan.list) (b_0 : Blk w G_0 139 [Seg.cell V0_0 R0_0.one, Seg.cell V0_1 R0_1.one, Seg.cell (.int .i64 a0.plan.at_), Seg.cell (.bool a0.off), Seg.cell (.bool a0.armed), Seg.cell (.int .i64 a0.left), Seg.cell (.int .i64 a0.steps)]) (r : (List S_api_Fate)) (h : pmem_Device_Fates.f fu a0 = some r) :
    Calls Try.prog 40 (([.pointer (some ⟨G_0, 0, none⟩)] : List Value).toArray) w (fun e w' => ∃ v, e = .returned v ∧ ∃ u1 : Value, ∃ o2 : Own k_api_Fate 55 w' w.heap.size u1 r, v = u1 ∧ Gr w w') := by
  unfold pmem_Device_Fates.f at h
  have fB : Gr w w := Fr.refl _ _
  refine calls_cw Try.func40 rfl Try.ntmps40 rfl ?_
  refine cw_seq ?_
  refine cw_region ?_
  refine ol_val (v := .slice none 0 0) (by exact xr_assign rfl rfl) rfl rfl rfl ?_
  refine ol_nil ?_
  refine cw_seq ?_
  refine cw_region ?_
  refine ol_val (v := .slice none 0 0) (by exact xr_assign rfl rfl) rfl rfl rfl ?_
  refine ol_nil ?_
  refine cw_seq ?_
  refine cw_seq ?_
  refine cw_region ?_
  refine ol_val (v := .pointer (some ⟨G_0, 0, none⟩)) (by exact xr_move rfl rfl) rfl rfl rfl ?_
  refine ol_val (v := .pointer (some ⟨G_0, 0, none⟩)) (by exact xr_nilCheck rfl rfl) rfl rfl rfl ?_
  refine ol_val (v := .pointer (some ⟨G_0, 0, none⟩)) (by exact xr_fieldAddr (p := 0) (q := 0) rfl fl139_0 rfl) rfl rfl rfl ?_
  refine ol_val (v := V0_0) (by exact xr_load1 (v := V0_0) rfl ag135 rfl (b_0.seg 0 rfl rfl)) rfl rfl rfl ?_
  refine ol_val (v := .int .i64 (List.length a0.cells : Int)) (by exact xr_lenR rfl Try.underlying135 rfl (R0_0.gr fB)) rfl rfl rfl ?_
  refine ol_val (v := .int .i64 0) (by exact xr_move rfl rfl) rfl rfl rfl ?_
  refine ol_nil ?_
  obtain ⟨e5, l6, h7⟩ := bs h
  refine cw_mid (fun ρ' w' => ∃ v8 : Value, ∃ o9 : Own k_api_Fate 55 w' w.heap.size v8 e5, ρ' 3 = v8 ∧ Blk w' G_0 139 [Seg.cell V0_0 R0_0.one, Seg.cell V0_1 R0_1.one, Seg.cell (.int .i64 a0.plan.at_), Seg.cell (.bool a0.off), Seg.cell (.bool a0.armed), Seg.cell (.int .i64 a0.left), Seg.cell (.int .i64 a0.steps)] ∧ Gr w w') ?_ ?_
  · refine cw_block ?_
    refine cw_round (fun (s4 : (List S_api_Fate) × Int) ρ' w' => ∃ v11 : Value, ∃ o12 : Own k_api_Fate 55 w' w.heap.size v11 s4.1, ρ' 0 = .pointer (some ⟨G_0, 0, none⟩) ∧ ρ' 3 = v11 ∧ ρ' 10 = .int .i64 (List.length a0.cells : Int) ∧ ρ' 11 = .int .i64 s4.2 ∧ Blk w' G_0 139 [Seg.cell V0_0 R0_0.one, Seg.cell V0_1 R0_1.one, Seg.cell (.int .i64 a0.plan.at_), Seg.cell (.bool a0.off), Seg.cell (.bool a0.armed), Seg.cell (.int .i64 a0.left), Seg.cell (.int .i64 a0.steps)] ∧ Gr w w') l6 ?_ ?_
    · skip
      exact ⟨(.slice none 0 0), Own.nil _ _ _ _, rfl, rfl, rfl, rfl, b_0, fB⟩
    · rintro s4 x16 ρ14 w15 ⟨v11, o12, e0, e3, e10, e11, b_0, fB⟩ h
      unfold pmem_Device_Fates.s0 at h
      refine cw_seq ?_
      refine cw_region ?_
      refine ol_val (v := .bool (decide (s4.2 < (List.length a0.cells : Int)))) (by exact xr_lss rfl e11 e10) rfl rfl rfl ?_
      refine ol_nil ?_
      refine cw_seq ?_
      rcases is h with ⟨c17, h⟩ | ⟨c17, h⟩
      · refine cw_condT rfl c17 ?_
        refine cw_skip ?_
        refine cw_seq ?_
        refine cw_block ?_
        refine cw_seq ?_
        refine cw_region ?_
        refine ol_val (v := .int .i64 s4.2) (by exact xr_move rfl e11) rfl rfl rfl ?_
        refine ol_val (v := .int .i64 s4.2) (by exact xr_assign rfl rfl) rfl rfl rfl ?_
        refine ol_nil ?_
        refine cw_seq ?_
        refine cw_region ?_
        refine ol_val (v := .pointer (some ⟨G_0, 0, none⟩)) (by exact xr_move rfl e0) rfl rfl rfl ?_
        refine ol_val (v := .pointer (some ⟨G_0, 0, none⟩)) (by exact xr_nilCheck rfl rfl) rfl rfl rfl ?_
        refine ol_val (v := .pointer (some ⟨G_0, 0, none⟩)) (by exact xr_fieldAddr (p := 0) (q := 0) rfl fl139_0 rfl) rfl rfl rfl ?_
        refine ol_val (v := V0_0) (by exact xr_load1 (v := V0_0) rfl ag135 rfl (b_0.seg 0 rfl rfl)) rfl rfl rfl ?_
        refine ol_val (v := .int .i64 s4.2) (by exact xr_move rfl rfl) rfl rfl rfl ?_
        obtain ⟨g18, h⟩ := gs h
        refine ol_val (v := .pointer (some ⟨(sb V0_0), so V0_0 + Int.toNat s4.2 * 4, none⟩)) (by exact xr_indexR (K := k_pmem_cell) (v := V0_0) rfl Try.underlying135 sz142 rfl (R0_0.gr fB) rfl g18.1 g18.2) rfl rfl rfl ?_
        refine ol_val (v := .pointer (some ⟨(sb V0_0), so V0_0 + Int.toNat s4.2 * 4, none⟩)) (by exact xr_assign rfl rfl) rfl rfl rfl ?_
        refine ol_nil ?_
        refine cw_seq ?_
        refine cw_region ?_
        refine ol_val (v := .pointer (some ⟨(sb V0_0), so V0_0 + Int.toNat s4.2 * 4, none⟩)) (by exact xr_move rfl rfl) rfl rfl rfl ?_
        obtain ⟨t19, k20, h⟩ := bs h
        refine ol_op (by exact opv_call rfl cal86 (ac rfl an) (pmem_cell_open__r0.ok fu _ (ix a0.cells s4.2) (sb V0_0) (so V0_0 + Int.toNat s4.2 * 4) (show At _ _ _ (cellsOf [Seg.cell (.int .u64 ((ix a0.cells s4.2).lasts)), Seg.cell (.int .u64 ((ix a0.cells s4.2).stored)), Seg.cell (.int .u64 ((ix a0.cells s4.2).sent)), Seg.cell (.bool ((ix a0.cells s4.2).flushed))]) from ((R0_0.gr fB).elem g18.1 g18.2)) _ k20)) rfl rfl rfl ?_
        rintro _ w22 ⟨rfl, q21⟩
        have b_0 := b_0.gr q21
        have o12 := o12.gr q21
        have fB := fB.gr q21
        refine ol_nil ?_
        obtain ⟨x23, j24, h25⟩ := bs h
        refine cw_mid (fun ρ' w' => ∃ v26 : Value, ∃ o27 : Own k_api_Fate 55 w' w.heap.size v26 x23, ρ' 0 = .pointer (some ⟨G_0, 0, none⟩) ∧ ρ' 3 = v26 ∧ ρ' 10 = .int .i64 (List.length a0.cells : Int) ∧ ρ' 11 = .int .i64 s4.2 ∧ Blk w' G_0 139 [Seg.cell V0_0 R0_0.one, Seg.cell V0_1 R0_1.one, Seg.cell (.int .i64 a0.plan.at_), Seg.cell (.bool a0.off), Seg.cell (.bool a0.armed), Seg.cell (.int .i64 a0.left), Seg.cell (.int .i64 a0.steps)] ∧ Gr w w') ?_ ?_
        · have h := j24
          rcases is h with ⟨c29, h⟩ | ⟨c29, h⟩
          · refine cw_condT rfl c29 ?_
            refine cw_drawL 20 [fun vz wz => vz = (v11 : Value), fun vz wz => vz = (.int .i64 s4.2 : Value), fun vz wz => vz = (.pointer (some ⟨(sb V0_0), so V0_0 + Int.toNat s4.2 * 4, none⟩) : Value), fun vz wz => vz = (.pointer (some ⟨(sb V0_0), so V0_0 + Int.toNat s4.2 * 4, none⟩) : Value), fun vz wz => vz = (.pointer (some ⟨(sb V0_0), so V0_0 + Int.toNat s4.2 * 4 + 0, none⟩) : Value), fun vz wz => vz = (.int .u64 ((ix a0.cells s4.2).lasts) : Value), fun vz wz => vz = (.pointer (some ⟨(sb V0_0), so V0_0 + Int.toNat s4.2 * 4, none⟩) : Value), fun vz wz => vz = (.pointer (some ⟨(sb V0_0), so V0_0 + Int.toNat s4.2 * 4, none⟩) : Value), fun vz wz => vz = (.pointer (some ⟨(sb V0_0), so V0_0 + Int.toNat s4.2 * 4 + 3, none⟩) : Value), fun vz wz => vz = (.bool ((ix a0.cells s4.2).flushed) : Value), fun vz wz => vz = (.pointer (some ⟨(sb V0_0), so V0_0 + Int.toNat s4.2 * 4, none⟩) : Value), fun vz wz => vz = (.pointer (some ⟨(sb V0_0), so V0_0 + Int.toNat s4.2 * 4, none⟩) : Value), fun vz wz => vz = (.pointer (some ⟨(sb V0_0), so V0_0 + Int.toNat s4.2 * 4 + 2, none⟩) : Value), fun vz wz => vz = (.int .u64 ((ix a0.cells s4.2).sent) : Value), fun vz wz => vz = (.pointer (some ⟨(sb V0_0), so V0_0 + Int.toNat s4.2 * 4, none⟩) : Value), fun vz wz => vz = (.pointer (some ⟨(sb V0_0), so V0_0 + Int.toNat s4.2 * 4, none⟩) : Value), fun vz wz => vz = (.pointer (some ⟨(sb V0_0), so V0_0 + Int.toNat s4.2 * 4 + 1, none⟩) : Value), fun vz wz => vz = (.int .u64 ((ix a0.cells s4.2).stored) : Value), fun vz wz => vz = (aggV [Seg.cell (.int .i64 s4.2), Seg.cell (.int .u64 ((ix a0.cells s4.2).lasts)), Seg.cell (.bool ((ix a0.cells s4.2).flushed)), Seg.cell (.int .u64 ((ix a0.cells s4.2).sent)), Seg.cell (.int .u64 ((ix a0.cells s4.2).stored))] : Value), fun vz wz => ∃ v30 : Value, ∃ o32 : Own k_api_Fate 55 wz w.heap.size v30 [(⟨s4.2, (ix a0.cells s4.2).lasts, (ix a0.cells s4.2).flushed, (ix a0.cells s4.2).sent, (ix a0.cells s4.2).stored⟩ : S_api_Fate)], vz = (v30 : Value)] mo rfl ⟨fun _ _ _ h _ => h, fun _ _ _ h _ => h, fun _ _ _ h _ => h, fun _ _ _ h _ => h, fun _ _ _ h _ => h, fun _ _ _ h _ => h, fun _ _ _ h _ => h, fun _ _ _ h _ => h, fun _ _ _ h _ => h, fun _ _ _ h _ => h, fun _ _ _ h _ => h, fun _ _ _ h _ => h, fun _ _ _ h _ => h, fun _ _ _ h _ => h, fun _ _ _ h _ => h, fun _ _ _ h _ => h, fun _ _ _ h _ => h, fun _ _ _ h _ => h, fun _ _ _ h _ => h, fun _ _ _ ⟨v30, o32, h⟩ q => ⟨v30, o32.gr q, h⟩, trivial⟩ ?_ ?_
            · refine ⟨?_, ?_, ?_, ?_, ?_, ?_, ?_, ?_, ?_, ?_, ?_, ?_, ?_, ?_, ?_, ?_, ?_, ?_, ?_, ?_, trivial⟩
              · intro ρz wz hz hk hd
                exact sk_val (v := v11) (by exact xr_move rfl ((hk 3 rfl).trans e3)) rfl rfl
              · intro ρz wz hz hk hd
                exact sk_val (v := .int .i64 s4.2) (by exact xr_move rfl ((hk 4 rfl).trans rfl)) rfl rfl
              · intro ρz wz hz hk hd
                exact sk_val (by exact xr_move rfl ((hk 5 rfl).trans rfl)) rfl rfl
              · intro ρz wz hz hk hd
                have d24 := hd 2 rfl 24 rfl
                exact sk_val (by exact xr_nilCheck rfl d24) rfl rfl
              · intro ρz wz hz hk hd
                have d25 := hd 3 rfl 25 rfl
                exact sk_val (by exact xr_fieldAddr (p := so V0_0 + Int.toNat s4.2 * 4) (q := 0) rfl fl142_0 d25) rfl rfl
              · intro ρz wz hz hk hd
                have d26 := hd 4 rfl 26 rfl
                exact sk_val (v := .int .u64 ((ix a0.cells s4.2).lasts)) (by exact xr_load1 (v := .int .u64 ((ix a0.cells s4.2).lasts)) rfl ag22 d26 (At.segs (ss := segs_pmem_cell (ix a0.cells s4.2)) ((R0_0.gr (fB.gr hz)).elem g18.1 g18.2) 0 1 rfl)) rfl rfl
              · intro ρz wz hz hk hd
                exact sk_val (by exact xr_move rfl ((hk 5 rfl).trans rfl)) rfl rfl
              · intro ρz wz hz hk hd
                have d28 := hd 6 rfl 28 rfl
                exact sk_val (by exact xr_nilCheck rfl d28) rfl rfl
              · intro ρz wz hz hk hd
                have d29 := hd 7 rfl 29 rfl
                exact sk_val (by exact xr_fieldAddr (p := so V0_0 + Int.toNat s4.2 * 4) (q := 3) rfl fl142_3 d29) rfl rfl
              · intro ρz wz hz hk hd
                have d30 := hd 8 rfl 30 rfl
                exact sk_val (v := .bool ((ix a0.cells s4.2).flushed)) (by exact xr_load1 (v := .bool ((ix a0.cells s4.2).flushed)) rfl ag4 d30 (At.segs (ss := segs_pmem_cell (ix a0.cells s4.2)) ((R0_0.gr (fB.gr hz)).elem g18.1 g18.2) 3 1 rfl)) rfl rfl
              · intro ρz wz hz hk hd
                exact sk_val (by exact xr_move rfl ((hk 5 rfl).trans rfl)) rfl rfl
              · intro ρz wz hz hk hd
                have d32 := hd 10 rfl 32 rfl
                exact sk_val (by exact xr_nilCheck rfl d32) rfl rfl
              · intro ρz wz hz hk hd
                have d33 := hd 11 rfl 33 rfl
                exact sk_val (by exact xr_fieldAddr (p := so V0_0 + Int.toNat s4.2 * 4) (q := 2) rfl fl142_2 d33) rfl rfl
              · intro ρz wz hz hk hd
                have d34 := hd 12 rfl 34 rfl
                exact sk_val (v := .int .u64 ((ix a0.cells s4.2).sent)) (by exact xr_load1 (v := .int .u64 ((ix a0.cells s4.2).sent)) rfl ag22 d34 (At.segs (ss := segs_pmem_cell (ix a0.cells s4.2)) ((R0_0.gr (fB.gr hz)).elem g18.1 g18.2) 2 1 rfl)) rfl rfl
              · intro ρz wz hz hk hd
                exact sk_val (by exact xr_move rfl ((hk 5 rfl).trans rfl)) rfl rfl
              · intro ρz wz hz hk hd
                have d36 := hd 14 rfl 36 rfl
                exact sk_val (by exact xr_nilCheck rfl d36) rfl rfl
              · intro ρz wz hz hk hd
                have d37 := hd 15 rfl 37 rfl
                exact sk_val (by exact xr_fieldAddr (p := so V0_0 + Int.toNat s4.2 * 4) (q := 1) rfl fl142_1 d37) rfl rfl
              · intro ρz wz hz hk hd
                have d38 := hd 16 rfl 38 rfl
                exact sk_val (v := .int .u64 ((ix a0.cells s4.2).stored)) (by exact xr_load1 (v := .int .u64 ((ix a0.cells s4.2).stored)) rfl ag22 d38 (At.segs (ss := segs_pmem_cell (ix a0.cells s4.2)) ((R0_0.gr (fB.gr hz)).elem g18.1 g18.2) 1 1 rfl)) rfl rfl
              · intro ρz wz hz hk hd
                have d23 := hd 1 rfl 23 rfl
                have d27 := hd 5 rfl 27 rfl
                have d31 := hd 9 rfl 31 rfl
                have d35 := hd 13 rfl 35 rfl
                have d39 := hd 17 rfl 39 rfl
                exact sk_val (by exact xr_build (vals := [(0, .int .i64 s4.2), (1, .int .u64 ((ix a0.cells s4.2).lasts)), (2, .bool ((ix a0.cells s4.2).flushed)), (3, .int .u64 ((ix a0.cells s4.2).sent)), (4, .int .u64 ((ix a0.cells s4.2).stored))]) rfl ⟨rfl, d23, ⟨rfl, d27, ⟨rfl, d31, ⟨rfl, d35, ⟨rfl, d39, trivial⟩⟩⟩⟩⟩ (bl55_0_1_2_3_4 s4.2 ((ix a0.cells s4.2).lasts) ((ix a0.cells s4.2).flushed) ((ix a0.cells s4.2).sent) ((ix a0.cells s4.2).stored) _)) rfl rfl
              · intro ρz wz hz hk hd
                have d40 := hd 18 rfl 40 rfl
                refine sk_op (by exact opv_buildRec (K := k_api_Fate) (z := (⟨s4.2, (ix a0.cells s4.2).lasts, (ix a0.cells s4.2).flushed, (ix a0.cells s4.2).sent, (ix a0.cells s4.2).stored⟩ : S_api_Fate)) rfl Try.underlying52 el55 rfl rfl d40 rfl (Nat.le_trans fB.size hz.size)) rfl ?_
                rintro v30 wy ⟨o32, q31, z33⟩
                exact ⟨⟨v30, o32, rfl⟩, q31⟩
            · intro ρ35 w36 q37 hk hd
              have e0 := (hk 0 rfl).trans e0
              have e10 := (hk 10 rfl).trans e10
              have e11 := (hk 11 rfl).trans e11
              have e22 := hd 0 rfl 22 rfl
              obtain ⟨v38, o39, e41⟩ := hd 19 rfl 41 rfl
              have b_0 := b_0.gr q37
              have o12 := o12.gr q37
              have fB := fB.gr q37
              obtain ⟨g45, h⟩ := gs h
              have f47 := off_ty b_0 o12 (by decide)
              have f48 := o12.geO
              refine ol_op (by exact opv_append (K := k_api_Fate) rfl Try.underlying52 el55 rfl rfl rfl e22 e41 o12 o39.rd g45 fB.size) rfl rfl rfl ?_
              rintro v41 w49 ⟨o42, q43, n44⟩
              have b_0 := b_0.wrO q43 f47
              have fB := fB.wrO q43 f48
              refine ol_val (v := v41) (by exact xr_assign rfl rfl) rfl rfl rfl ?_
              refine ol_nil ?_
              obtain rfl := Option.some.inj h
              refine thn_i ?_
              exact ⟨v41, o42, e0, rfl, e10, e11, b_0, fB⟩
          · refine cw_condF rfl c29 ?_
            refine cw_skip ?_
            obtain rfl := Option.some.inj h
            refine thn_i ?_
            exact ⟨v11, o12, e0, e3, e10, e11, b_0, fB⟩
        · rintro ρ50 w51 ⟨v26, o27, e0, e3, e10, e11, b_0, fB⟩
          have h := h25
          refine blk_i ?_
          refine cw_region ?_
          refine ol_val (v := .int .i64 (IntKind.i64.wrap (s4.2 + 1))) (by exact xr_add rfl e11 rfl) rfl rfl rfl ?_
          refine ol_val (v := .int .i64 (IntKind.i64.wrap (s4.2 + 1))) (by exact xr_move rfl rfl) rfl rfl rfl ?_
          refine ol_nil ?_
          obtain rfl := Option.some.inj h
          refine lp_in ?_
          exact ⟨v26, o27, e0, e3, e10, rfl, b_0, fB⟩
      · refine cw_condF rfl c17 ?_
        refine cw_exit ?_
        repeat (first | with_reducible refine thn_e ?_ | with_reducible refine blk_e rfl ?_)
        obtain rfl := Option.some.inj h
        refine lp_exit ?_
        rintro rfl
        refine thn_x ?_
        exact ⟨v11, o12, e3, b_0, fB⟩
  · rintro ρ52 w53 ⟨v8, o9, e3, b_0, fB⟩
    have h := h7
    refine cw_seq ?_
    refine cw_region ?_
    refine ol_val (v := v8) (by exact xr_move rfl e3) rfl rfl rfl ?_
    refine ol_val (v := v8) (by exact xr_assign rfl rfl) rfl rfl rfl ?_
    refine ol_nil ?_
    refine cw_ret ?_
    repeat (first | with_reducible refine thn_r ?_ | with_reducible refine blk_r ?_)
    obtain rfl := Option.some.inj h
    refine fin_ret1 Try.results40 rfl ?_
    exact ⟨_, rfl, v8, o9, rfl, fB⟩
end Go.Proofs.Ytklhbaghbmndeaa

/- slices.Index[[]uint64,uint64]: its model, and that the Go function computes it: written by gen.py. -/
set_option linter.unusedVariables false
namespace Go.Proofs.Ytklhbaghbmndeaa
open Go Go.Xw
def slices_Index_1.s0 (fu : Nat) (a0 : List Int) (a1 : Int) : Int → Option (Sum (Sum Int Unit) Int) := fun s1 => (if (decide (s1 < (List.length a0 : Int))) = true then (if 0 ≤ s1 ∧ s1 < (List.length a0 : Int) then (if (decide (a1 = (ix a0 s1))) = true then some (Sum.inl (Sum.inl (s1))) else some (Sum.inr ((IntKind.i64.wrap (s1 + 1))))) else none) else some (Sum.inl (Sum.inr ())))
def slices_Index_1.f (fu : Nat) (a0 : List Int) (a1 : Int) : Option Int := ((loopM (slices_Index_1.s0 fu a0 a1) fu (0)).bind fun e2 => match e2 with | Sum.inl p => some p | Sum.inr x5 => some ((-1)))
set_option maxRecDepth 100000 in
set_option maxHeartbeats 400000 in
theorem slices_Index_1.ok (fu : Nat) (w : World) (a0 : List Int) (V0_0 : Value) (R0_0 : Rd (kI .u64) w V0_0 a0) (a1 : Int) (r : Int) (h : slices_Index_1.f fu a0 a1 = some r) :
    Calls Try.prog 127 (([V0_0, .int .u64 a1] : List Value).toArray) w (fun e w' => ∃ v, e = .returned v ∧ v = .int .i64 r ∧ Gr w w') := by
  unfold slices_Index_1.f at h
  have fB : Gr w w := Fr.refl _ _
  refine calls_cw Try.func127 rfl Try.ntmps127 rfl ?_
  refine cw_seq ?_
  refine cw_region ?_
  refine ol_val (v := .int .i64 0) (by exact xr_assign rfl rfl) rfl rfl rfl ?_
  refine ol_nil ?_
  refine cw_seq ?_
  refine cw_seq ?_
  refine cw_region ?_
  refine ol_val (v := V0_0) (by exact xr_move rfl rfl) rfl rfl rfl ?_
  refine ol_val (v := .int .i64 (List.length a0 : Int)) (by exact xr_lenR rfl Try.underlying46 rfl (R0_0.gr fB)) rfl rfl rfl ?_
  refine ol_val (v := .int .i64 0) (by exact xr_move rfl rfl) rfl rfl rfl ?_
  refine ol_nil ?_
  obtain ⟨e2, l3, h4⟩ := bs h
  refine cw_mid (fun ρ' w' => ∃ x5, e2 = Sum.inr x5 ∧ Gr w w') ?_ ?_
  · refine cw_block ?_
    refine cw_round (fun (s1 : Int) ρ' w' => ρ' 0 = V0_0 ∧ ρ' 1 = .int .u64 a1 ∧ ρ' 7 = .int .i64 (List.length a0 : Int) ∧ ρ' 8 = .int .i64 s1 ∧ Gr w w') l3 ?_ ?_
    · skip
      exact ⟨rfl, rfl, rfl, rfl, fB⟩
    · rintro s1 x8 ρ6 w7 ⟨e0, e1, e7, e8, fB⟩ h
      unfold slices_Index_1.s0 at h
      refine cw_seq ?_
      refine cw_region ?_
      refine ol_val (v := .bool (decide (s1 < (List.length a0 : Int)))) (by exact xr_lss rfl e8 e7) rfl rfl rfl ?_
      refine ol_nil ?_
      refine cw_seq ?_
      rcases is h with ⟨c9, h⟩ | ⟨c9, h⟩
      · refine cw_condT rfl c9 ?_
        refine cw_skip ?_
        refine cw_seq ?_
        refine cw_block ?_
        refine cw_seq ?_
        refine cw_region ?_
        refine ol_val (v := .int .i64 s1) (by exact xr_move rfl e8) rfl rfl rfl ?_
        refine ol_val (v := .int .i64 s1) (by exact xr_assign rfl rfl) rfl rfl rfl ?_
        refine ol_nil ?_
        refine cw_seq ?_
        refine cw_region ?_
        refine ol_val (v := .int .u64 a1) (by exact xr_move rfl e1) rfl rfl rfl ?_
        refine ol_val (v := V0_0) (by exact xr_move rfl e0) rfl rfl rfl ?_
        refine ol_val (v := .int .i64 s1) (by exact xr_move rfl rfl) rfl rfl rfl ?_
        obtain ⟨g10, h⟩ := gs h
        refine ol_val (v := .pointer (some ⟨(sb V0_0), so V0_0 + Int.toNat s1 * 1, none⟩)) (by exact xr_indexR (K := (kI .u64)) (v := V0_0) rfl Try.underlying46 sz22 rfl (R0_0.gr fB) rfl g10.1 g10.2) rfl rfl rfl ?_
        refine ol_val (v := .int .u64 (ix a0 s1)) (by exact xr_load1 (v := .int .u64 (ix a0 s1)) rfl ag22 rfl ((R0_0.gr fB).elem g10.1 g10.2)) rfl rfl rfl ?_
        refine ol_val (v := .bool (decide (a1 = (ix a0 s1)))) (by exact xr_eqI rfl Try.underlying22 rfl rfl rfl) rfl rfl rfl ?_
        refine ol_nil ?_
        rcases is h with ⟨c11, h⟩ | ⟨c11, h⟩
        · refine cw_condT rfl c11 ?_
          refine cw_seq ?_
          refine cw_region ?_
          refine ol_val (v := .int .i64 s1) (by exact xr_move rfl rfl) rfl rfl rfl ?_
          refine ol_val (v := .int .i64 s1) (by exact xr_assign rfl rfl) rfl rfl rfl ?_
          refine ol_nil ?_
          refine cw_ret ?_
          repeat (first | with_reducible refine thn_r ?_ | with_reducible refine blk_r ?_)
          obtain rfl := Option.some.inj h
          refine lp_ret ?_
          rintro rfl
          repeat (first | with_reducible refine thn_r ?_ | with_reducible refine blk_r ?_)
          have h := h4
          obtain rfl := Option.some.inj h
          refine fin_ret1 Try.results127 rfl ?_
          exact ⟨_, rfl, rfl, fB⟩
        · refine cw_condF rfl c11 ?_
          refine cw_skip ?_
          refine blk_i ?_
          refine cw_region ?_
          refine ol_val (v := .int .i64 (IntKind.i64.wrap (s1 + 1))) (by exact xr_add rfl e8 rfl) rfl rfl rfl ?_
          refine ol_val (v := .int .i64 (IntKind.i64.wrap (s1 + 1))) (by exact xr_move rfl rfl) rfl rfl rfl ?_
          refine ol_nil ?_
          obtain rfl := Option.some.inj h
          refine lp_in ?_
          exact ⟨e0, e1, e7, rfl, fB⟩
      · refine cw_condF rfl c9 ?_
        refine cw_exit ?_
        repeat (first | with_reducible refine thn_e ?_ | with_reducible refine blk_e rfl ?_)
        obtain rfl := Option.some.inj h
        refine lp_exit ?_
        rintro rfl
        refine thn_x ?_
        exact ⟨_, rfl, fB⟩
  · rintro ρ12 w13 ⟨x5, rfl, fB⟩
    have h := h4
    refine cw_seq ?_
    refine cw_region ?_
    refine ol_val (v := .int .i64 (-1)) (by exact xr_assign rfl rfl) rfl rfl rfl ?_
    refine ol_nil ?_
    refine cw_ret ?_
    repeat (first | with_reducible refine thn_r ?_ | with_reducible refine blk_r ?_)
    obtain rfl := Option.some.inj h
    refine fin_ret1 Try.results127 rfl ?_
    exact ⟨_, rfl, rfl, fB⟩
end Go.Proofs.Ytklhbaghbmndeaa

/- slices.Contains[[]uint64,uint64]: its model, and that the Go function computes it: written by gen.py. -/
set_option linter.unusedVariables false
namespace Go.Proofs.Ytklhbaghbmndeaa
open Go Go.Xw
def slices_Contains_1.f (fu : Nat) (a0 : List Int) (a1 : Int) : Option Bool := ((slices_Index_1.f fu a0 a1 : Option Int).bind fun t1 => some ((decide (t1 ≥ 0))))
set_option maxRecDepth 100000 in
set_option maxHeartbeats 400000 in
theorem slices_Contains_1.ok (fu : Nat) (w : World) (a0 : List Int) (V0_0 : Value) (R0_0 : Rd (kI .u64) w V0_0 a0) (a1 : Int) (r : Bool) (h : slices_Contains_1.f fu a0 a1 = some r) :
    Calls Try.prog 100 (([V0_0, .int .u64 a1] : List Value).toArray) w (fun e w' => ∃ v, e = .returned v ∧ v = .bool r ∧ Gr w w') := by
  unfold slices_Contains_1.f at h
  have fB : Gr w w := Fr.refl _ _
  refine calls_cw Try.func100 rfl Try.ntmps100 rfl ?_
  refine cw_seq ?_
  refine cw_region ?_
  refine ol_val (v := .bool false) (by exact xr_assign rfl rfl) rfl rfl rfl ?_
  refine ol_nil ?_
  refine cw_seq ?_
  refine cw_region ?_
  refine ol_val (v := V0_0) (by exact xr_move rfl rfl) rfl rfl rfl ?_
  refine ol_val (v := .int .u64 a1) (by exact xr_move rfl rfl) rfl rfl rfl ?_
  obtain ⟨t1, k2, h⟩ := bs h
  refine ol_op (by exact opv_call rfl cal127 (ac rfl (ac rfl an)) (slices_Index_1.ok fu _ a0 V0_0 (R0_0.gr fB) a1 _ k2)) rfl rfl rfl ?_
  rintro _ w4 ⟨rfl, q3⟩
  have fB := fB.gr q3
  refine ol_val (v := .bool (decide (t1 ≥ 0))) (by exact xr_geq rfl rfl rfl) rfl rfl rfl ?_
  refine ol_val (v := .bool (decide (t1 ≥ 0))) (by exact xr_assign rfl rfl) rfl rfl rfl ?_
  refine ol_nil ?_
  refine cw_ret ?_
  repeat (first | with_reducible refine thn_r ?_ | with_reducible refine blk_r ?_)
  obtain rfl := Option.some.inj h
  refine fin_ret1 Try.results100 rfl ?_
  exact ⟨_, rfl, rfl, fB⟩
end Go.Proofs.Ytklhbaghbmndeaa

/- rickyard/fate.Values: its model, and that the Go function computes it: written by gen.py. -/
set_option linter.unusedVariables false
namespace Go.Proofs.Ytklhbaghbmndeaa
open Go Go.Xw
def fate_Values.f (fu : Nat) (a0 : S_api_Fate) : Option (List Int) := (((if (if a0.Flushed = true then (!decide (a0.Sent = a0.Lasts)) else false) = true then (if List.length [a0.Lasts] + List.length [a0.Sent] ≤ LIM then some (([a0.Lasts] ++ [a0.Sent])) else none) else some ([a0.Lasts])) : Option (List Int)).bind fun x18 => ((slices_Contains_1.f fu x18 a0.Stored : Option Bool).bind fun t43 => (((if (!t43) = true then (if List.length x18 + List.length [a0.Stored] ≤ LIM then some ((x18 ++ [a0.Stored])) else none) else some (x18)) : Option (List Int)).bind fun x47 => some (x47))))
set_option maxRecDepth 100000 in
set_option maxHeartbeats 400000 in
theorem fate_Values.ok (fu : Nat) (w : World) (a0 : S_api_Fate) (r : (List Int)) (h : fate_Values.f fu a0 = some r) :
    Calls Try.prog 50 (([aggV [Seg.cell (.int .i64 a0.At), Seg.cell (.int .u64 a0.Lasts), Seg.cell (.bool a0.Flushed), Seg.cell (.int .u64 a0.Sent), Seg.cell (.int .u64 a0.Stored)]] : List Value).toArray) w (fun e w' => ∃ v, e = .returned v ∧ ∃ u1 : Value, ∃ o2 : Own (kI .u64) 22 w' w.heap.size u1 r, v = u1 ∧ Gr w w') := by
  unfold fate_Values.f at h
  have fB : Gr w w := Fr.refl _ _
  refine calls_cw Try.func50 rfl Try.ntmps50 rfl ?_
  refine cw_seq ?_
  refine cw_region ?_
  refine ol_op (by exact opv_box (ss := [Seg.cell (.int .i64 a0.At), Seg.cell (.int .u64 a0.Lasts), Seg.cell (.bool a0.Flushed), Seg.cell (.int .u64 a0.Sent), Seg.cell (.int .u64 a0.Stored)]) rfl rfl rfl) rfl rfl rfl ?_
  rintro _ w9 ⟨G4, rfl, b5, q6, z7⟩
  have z7 := Nat.le_trans fB.size z7
  have fB := fB.gr q6
  refine ol_val (v := .slice none 0 0) (by exact xr_assign rfl rfl) rfl rfl rfl ?_
  refine ol_nil ?_
  refine cw_seq ?_
  refine cw_region ?_
  refine ol_val (v := .pointer (some ⟨G4, 1, none⟩)) (by exact xr_fieldAddr (p := 0) (q := 1) rfl fl55_1 rfl) rfl rfl rfl ?_
  refine ol_val (v := .int .u64 a0.Lasts) (by exact xr_load1 (v := .int .u64 a0.Lasts) rfl ag22 rfl (b5.seg 1 rfl rfl)) rfl rfl rfl ?_
  refine ol_op (by exact opv_buildSlice (K := (kI .u64)) (xs := [a0.Lasts]) (vals := [.int .u64 a0.Lasts]) rfl Try.underlying46 el22 rfl rfl ⟨rfl, rfl, trivial⟩ rfl rfl rfl fB.size) rfl rfl rfl ?_
  rintro v10 w15 ⟨o12, q11, z13⟩
  have b5 := b5.gr q11
  have fB := fB.gr q11
  refine ol_val (v := v10) (by exact xr_assign rfl rfl) rfl rfl rfl ?_
  refine ol_nil ?_
  refine cw_seq ?_
  refine cw_seq ?_
  refine cw_mid (fun ρ' w' => ρ' 1 = .pointer (some ⟨G4, 0, none⟩) ∧ ρ' 3 = v10 ∧ ρ' 15 = .bool (if a0.Flushed = true then (!decide (a0.Sent = a0.Lasts)) else false) ∧ w15 = w') ?_ ?_
  · skip
    refine cw_region ?_
    refine ol_val (v := .pointer (some ⟨G4, 2, none⟩)) (by exact xr_fieldAddr (p := 0) (q := 2) rfl fl55_2 rfl) rfl rfl rfl ?_
    refine ol_val (v := .bool a0.Flushed) (by exact xr_load1 (v := .bool a0.Flushed) rfl ag4 rfl (b5.seg 2 rfl rfl)) rfl rfl rfl ?_
    refine ol_val (v := .bool a0.Flushed) (by exact xr_move rfl rfl) rfl rfl rfl ?_
    rcases bt a0.Flushed with c16 | c16
    · skip
      refine ol_gval (v := .pointer (some ⟨G4, 3, none⟩)) (by exact xr_fieldAddr (p := 0) (q := 3) rfl fl55_3 rfl) rfl rfl rfl rfl rfl c16 ?_
      refine ol_gval (v := .int .u64 a0.Sent) (by exact xr_load1 (v := .int .u64 a0.Sent) rfl ag22 rfl (b5.seg 3 rfl rfl)) rfl rfl rfl rfl rfl c16 ?_
      refine ol_gval (v := .pointer (some ⟨G4, 1, none⟩)) (by exact xr_fieldAddr (p := 0) (q := 1) rfl fl55_1 rfl) rfl rfl rfl rfl rfl c16 ?_
      refine ol_gval (v := .int .u64 a0.Lasts) (by exact xr_load1 (v := .int .u64 a0.Lasts) rfl ag22 rfl (b5.seg 1 rfl rfl)) rfl rfl rfl rfl rfl c16 ?_
      refine ol_gval (v := .bool (!decide (a0.Sent = a0.Lasts))) (by exact xr_neI rfl Try.underlying22 rfl rfl rfl) rfl rfl rfl rfl rfl c16 ?_
      refine ol_val (v := .bool (!decide (a0.Sent = a0.Lasts))) (by exact xr_pickT rfl rfl c16 rfl) rfl rfl rfl ?_
      refine ol_nil ?_
      refine thn_i ?_
      exact ⟨rfl, rfl, (rfl).trans (congrArg (fun z => (.bool z : Value)) (show (!decide (a0.Sent = a0.Lasts)) = (if a0.Flushed = true then (!decide (a0.Sent = a0.Lasts)) else false) from by rw [ite_t c16])), rfl⟩
    · skip
      refine ol_gskip rfl rfl rfl rfl rfl c16 ?_
      refine ol_gskip rfl rfl rfl rfl rfl c16 ?_
      refine ol_gskip rfl rfl rfl rfl rfl c16 ?_
      refine ol_gskip rfl rfl rfl rfl rfl c16 ?_
      refine ol_gskip rfl rfl rfl rfl rfl c16 ?_
      refine ol_val (v := .bool false) (by exact xr_pickF rfl rfl c16 rfl) rfl rfl rfl ?_
      refine ol_nil ?_
      refine thn_i ?_
      exact ⟨rfl, rfl, (rfl).trans (congrArg (fun z => (.bool z : Value)) (show false = (if a0.Flushed = true then (!decide (a0.Sent = a0.Lasts)) else false) from by rw [ite_f c16])), rfl⟩
  · skip
    rintro ρ17 _ ⟨e1, e3, e15, rfl⟩
    obtain ⟨x18, j19, h20⟩ := bs h
    refine cw_mid (fun ρ' w' => ∃ v21 : Value, ∃ o22 : Own (kI .u64) 22 w' w.heap.size v21 x18, ρ' 1 = .pointer (some ⟨G4, 0, none⟩) ∧ ρ' 3 = v21 ∧ Blk w' G4 55 [Seg.cell (.int .i64 a0.At), Seg.cell (.int .u64 a0.Lasts), Seg.cell (.bool a0.Flushed), Seg.cell (.int .u64 a0.Sent), Seg.cell (.int .u64 a0.Stored)] ∧ Gr w w') ?_ ?_
    · have h := j19
      rcases is h with ⟨c24, h⟩ | ⟨c24, h⟩
      · refine cw_condT e15 c24 ?_
        refine cw_region ?_
        refine ol_val (v := v10) (by exact xr_move rfl e3) rfl rfl rfl ?_
        refine ol_val (v := .pointer (some ⟨G4, 3, none⟩)) (by exact xr_fieldAddr (p := 0) (q := 3) rfl fl55_3 e1) rfl rfl rfl ?_
        refine ol_val (v := .int .u64 a0.Sent) (by exact xr_load1 (v := .int .u64 a0.Sent) rfl ag22 rfl (b5.seg 3 rfl rfl)) rfl rfl rfl ?_
        refine ol_op (by exact opv_buildSlice (K := (kI .u64)) (xs := [a0.Sent]) (vals := [.int .u64 a0.Sent]) rfl Try.underlying46 el22 rfl rfl ⟨rfl, rfl, trivial⟩ rfl rfl rfl fB.size) rfl rfl rfl ?_
        rintro v25 w30 ⟨o27, q26, z28⟩
        have a31 := OffV.new o12 z28
        have b5 := b5.gr q26
        have o12 := o12.gr q26
        have fB := fB.gr q26
        obtain ⟨g36, h⟩ := gs h
        have f38 := off_ty b5 o12 (by decide)
        have f39 := o12.geO
        refine ol_op (by exact opv_append (K := (kI .u64)) rfl Try.underlying46 el22 rfl rfl rfl rfl rfl o12 o27.rd g36 fB.size) rfl rfl rfl ?_
        rintro v32 w40 ⟨o33, q34, n35⟩
        have b5 := b5.wrO q34 f38
        have fB := fB.wrO q34 f39
        refine ol_val (v := v32) (by exact xr_assign rfl rfl) rfl rfl rfl ?_
        refine ol_nil ?_
        obtain rfl := Option.some.inj h
        refine thn_i ?_
        exact ⟨v32, o33, e1, rfl, b5, fB⟩
      · refine cw_condF e15 c24 ?_
        refine cw_skip ?_
        obtain rfl := Option.some.inj h
        refine thn_i ?_
        exact ⟨v10, o12, e1, e3, b5, fB⟩
    · rintro ρ41 w42 ⟨v21, o22, e1, e3, b5, fB⟩
      have h := h20
      refine cw_seq ?_
      refine cw_seq ?_
      refine cw_region ?_
      refine ol_val (v := v21) (by exact xr_move rfl e3) rfl rfl rfl ?_
      refine ol_val (v := .pointer (some ⟨G4, 4, none⟩)) (by exact xr_fieldAddr (p := 0) (q := 4) rfl fl55_4 e1) rfl rfl rfl ?_
      refine ol_val (v := .int .u64 a0.Stored) (by exact xr_load1 (v := .int .u64 a0.Stored) rfl ag22 rfl (b5.seg 4 rfl rfl)) rfl rfl rfl ?_
      obtain ⟨t43, k44, h⟩ := bs h
      refine ol_op (by exact opv_call rfl cal100 (ac rfl (ac rfl an)) (slices_Contains_1.ok fu _ x18 v21 (o22.rd) a0.Stored _ k44)) rfl rfl rfl ?_
      rintro _ w46 ⟨rfl, q45⟩
      have b5 := b5.gr q45
      have o22 := o22.gr q45
      have fB := fB.gr q45
      refine ol_val (v := .bool (!t43)) (by exact xr_not rfl rfl) rfl rfl rfl ?_
      refine ol_nil ?_
      obtain ⟨x47, j48, h49⟩ := bs h
      refine cw_mid (fun ρ' w' => ∃ v50 : Value, ∃ o51 : Own (kI .u64) 22 w' w.heap.size v50 x47, ρ' 3 = v50 ∧ Gr w w') ?_ ?_
      · have h := j48
        rcases is h with ⟨c53, h⟩ | ⟨c53, h⟩
        · refine cw_condT rfl c53 ?_
          refine cw_region ?_
          refine ol_val (v := v21) (by exact xr_move rfl e3) rfl rfl rfl ?_
          refine ol_val (v := .pointer (some ⟨G4, 4, none⟩)) (by exact xr_fieldAddr (p := 0) (q := 4) rfl fl55_4 e1) rfl rfl rfl ?_
          refine ol_val (v := .int .u64 a0.Stored) (by exact xr_load1 (v := .int .u64 a0.Stored) rfl ag22 rfl (b5.seg 4 rfl rfl)) rfl rfl rfl ?_
          refine ol_op (by exact opv_buildSlice (K := (kI .u64)) (xs := [a0.Stored]) (vals := [.int .u64 a0.Stored]) rfl Try.underlying46 el22 rfl rfl ⟨rfl, rfl, trivial⟩ rfl rfl rfl fB.size) rfl rfl rfl ?_
          rintro v54 w59 ⟨o56, q55, z57⟩
          have a60 := OffV.new o22 z57
          have o22 := o22.gr q55
          have fB := fB.gr q55
          obtain ⟨g65, h⟩ := gs h
          have f67 := o22.geO
          refine ol_op (by exact opv_append (K := (kI .u64)) rfl Try.underlying46 el22 rfl rfl rfl rfl rfl o22 o56.rd g65 fB.size) rfl rfl rfl ?_
          rintro v61 w68 ⟨o62, q63, n64⟩
          have fB := fB.wrO q63 f67
          refine ol_val (v := v61) (by exact xr_assign rfl rfl) rfl rfl rfl ?_
          refine ol_nil ?_
          obtain rfl := Option.some.inj h
          refine thn_i ?_
          exact ⟨v61, o62, rfl, fB⟩
        · refine cw_condF rfl c53 ?_
          refine cw_skip ?_
          obtain rfl := Option.some.inj h
          refine thn_i ?_
          exact ⟨v21, o22, e3, fB⟩
      · rintro ρ69 w70 ⟨v50, o51, e3, fB⟩
        have h := h49
        refine cw_seq ?_
        refine cw_region ?_
        refine ol_val (v := v50) (by exact xr_move rfl e3) rfl rfl rfl ?_
        refine ol_val (v := v50) (by exact xr_assign rfl rfl) rfl rfl rfl ?_
        refine ol_nil ?_
        refine cw_ret ?_
        repeat (first | with_reducible refine thn_r ?_ | with_reducible refine blk_r ?_)
        obtain rfl := Option.some.inj h
        refine fin_ret1 Try.results50 rfl ?_
        exact ⟨_, rfl, v50, o51, rfl, fB⟩
end Go.Proofs.Ytklhbaghbmndeaa

/- rickyard/fate.Count: its model, and that the Go function computes it: written by gen.py. -/
set_option linter.unusedVariables false
namespace Go.Proofs.Ytklhbaghbmndeaa
open Go Go.Xw
def fate_Count.s0 (fu : Nat) (t1 : (List S_api_Fate)) : (Int × Int) → Option (Sum Int (Int × Int)) := fun s8 => (if (decide (s8.2 < (List.length t1 : Int))) = true then (if 0 ≤ s8.2 ∧ s8.2 < (List.length t1 : Int) then ((fate_Values.f fu (ix t1 s8.2) : Option (List Int)).bind fun t28 => some (Sum.inr ((mnI (IntKind.i64.wrap (s8.1 * (List.length t28 : Int))) 1099511627776), (IntKind.i64.wrap (s8.2 + 1))))) else none) else some (Sum.inl (s8.1)))
def fate_Count.f (fu : Nat) (a0 : S_pmem_Device) : Option Int := ((pmem_Device_Fates.f fu a0 : Option (List S_api_Fate)).bind fun t1 => ((loopM (fate_Count.s0 fu t1) fu (1, 0)).bind fun e9 => some (e9)))
set_option maxRecDepth 100000 in
set_option maxHeartbeats 400000 in
theorem fate_Count.ok (fu : Nat) (w : World) (a0 : S_pmem_Device) (G_0 : Nat) (V0_0 : Value) (R0_0 : Rd k_pmem_cell w V0_0 a0.cells) (V0_1 : Value) (R0_1 : Rd (kI .i64) w V0_1 a0.plan.list) (b_0 : Blk w G_0 139 [Seg.cell V0_0 R0_0.one, Seg.cell V0_1 R0_1.one, Seg.cell (.int .i64 a0.plan.at_), Seg.cell (.bool a0.off), Seg.cell (.bool a0.armed), Seg.cell (.int .i64 a0.left), Seg.cell (.int .i64 a0.steps)]) (r : Int) (h : fate_Count.f fu a0 = some r) :
    Calls Try.prog 61 (([.pointer (some ⟨G_0, 0, none⟩)] : List Value).toArray) w (fun e w' => ∃ v, e = .returned v ∧ v = .int .i64 r ∧ Gr w w') := by
  unfold fate_Count.f at h
  have fB : Gr w w := Fr.refl _ _
  refine calls_cw Try.func61 rfl Try.ntmps61 rfl ?_
  refine cw_seq ?_
  refine cw_region ?_
  refine ol_val (v := .int .i64 0) (by exact xr_assign rfl rfl) rfl rfl rfl ?_
  refine ol_nil ?_
  refine cw_seq ?_
  refine cw_seq ?_
  refine cw_region ?_
  refine ol_val (v := .pointer (some ⟨G_0, 0, none⟩)) (by exact xr_move rfl rfl) rfl rfl rfl ?_
  refine ol_val (v := .bool false) (by exact xr_eqP (b := false) rfl Try.underlying30 rfl rfl (by simp) (by simp)) rfl rfl rfl ?_
  refine ol_nil ?_
  refine cw_condF rfl rfl ?_
  refine cw_skip ?_
  refine cw_seq ?_
  refine cw_region ?_
  refine ol_val (v := .int .i64 1) (by exact xr_assign rfl rfl) rfl rfl rfl ?_
  refine ol_nil ?_
  refine cw_seq ?_
  refine cw_seq ?_
  refine cw_region ?_
  refine ol_val (v := .pointer (some ⟨G_0, 0, none⟩)) (by exact xr_move rfl rfl) rfl rfl rfl ?_
  obtain ⟨t1, k2, h⟩ := bs h
  refine ol_op (by exact opv_call rfl cal40 (ac rfl an) (pmem_Device_Fates.ok fu _ a0 G_0 V0_0 (R0_0.gr fB) V0_1 (R0_1.gr fB) b_0 _ k2)) rfl rfl rfl ?_
  rintro u3 w7 ⟨_, o4, rfl, q6⟩
  have o4 := Own.base o4 fB.size
  have b_0 := b_0.gr q6
  have fB := fB.gr q6
  refine ol_val (v := .int .i64 (List.length t1 : Int)) (by exact xr_lenR rfl Try.underlying52 rfl o4.rd) rfl rfl rfl ?_
  refine ol_val (v := .int .i64 0) (by exact xr_move rfl rfl) rfl rfl rfl ?_
  refine ol_nil ?_
  obtain ⟨e9, l10, h11⟩ := bs h
  refine cw_mid (fun ρ' w' => ρ' 3 = .int .i64 e9 ∧ Blk w' G_0 139 [Seg.cell V0_0 R0_0.one, Seg.cell V0_1 R0_1.one, Seg.cell (.int .i64 a0.plan.at_), Seg.cell (.bool a0.off), Seg.cell (.bool a0.armed), Seg.cell (.int .i64 a0.left), Seg.cell (.int .i64 a0.steps)] ∧ Gr w w') ?_ ?_
  · refine cw_block ?_
    refine cw_round (fun (s8 : Int × Int) ρ' w' => ∃ o4 : Own k_api_Fate 55 w' w.heap.size u3 t1, ρ' 3 = .int .i64 s8.1 ∧ ρ' 9 = u3 ∧ ρ' 10 = .int .i64 (List.length t1 : Int) ∧ ρ' 11 = .int .i64 s8.2 ∧ Blk w' G_0 139 [Seg.cell V0_0 R0_0.one, Seg.cell V0_1 R0_1.one, Seg.cell (.int .i64 a0.plan.at_), Seg.cell (.bool a0.off), Seg.cell (.bool a0.armed), Seg.cell (.int .i64 a0.left), Seg.cell (.int .i64 a0.steps)] ∧ Gr w w') l10 ?_ ?_
    · skip
      exact ⟨o4, rfl, rfl, rfl, rfl, b_0, fB⟩
    · rintro s8 x14 ρ12 w13 ⟨o4, e3, e9, e10, e11, b_0, fB⟩ h
      unfold fate_Count.s0 at h
      refine cw_seq ?_
      refine cw_region ?_
      refine ol_val (v := .bool (decide (s8.2 < (List.length t1 : Int)))) (by exact xr_lss rfl e11 e10) rfl rfl rfl ?_
      refine ol_nil ?_
      refine cw_seq ?_
      rcases is h with ⟨c15, h⟩ | ⟨c15, h⟩
      · refine cw_condT rfl c15 ?_
        refine cw_skip ?_
        refine cw_seq ?_
        refine cw_block ?_
        refine cw_seq ?_
        refine cw_region ?_
        obtain ⟨g16, h⟩ := gs h
        refine ol_val (v := .pointer (some ⟨(sb u3), so u3 + Int.toNat s8.2 * 5, none⟩)) (by exact xr_indexR (K := k_api_Fate) (v := u3) rfl Try.underlying52 sz55 e9 o4.rd e11 g16.1 g16.2) rfl rfl rfl ?_
        refine ol_val (v := aggV [Seg.cell (.int .i64 ((ix t1 s8.2).At)), Seg.cell (.int .u64 ((ix t1 s8.2).Lasts)), Seg.cell (.bool ((ix t1 s8.2).Flushed)), Seg.cell (.int .u64 ((ix t1 s8.2).Sent)), Seg.cell (.int .u64 ((ix t1 s8.2).Stored))]) (by exact xr_loadS (ss := [Seg.cell (.int .i64 ((ix t1 s8.2).At)), Seg.cell (.int .u64 ((ix t1 s8.2).Lasts)), Seg.cell (.bool ((ix t1 s8.2).Flushed)), Seg.cell (.int .u64 ((ix t1 s8.2).Sent)), Seg.cell (.int .u64 ((ix t1 s8.2).Stored))]) rfl ag55 sz55 rfl rfl (o4.rd.elem g16.1 g16.2)) rfl rfl rfl ?_
        refine ol_op (by exact opv_alloc (ss := [Seg.cell (.int .i64 (0 : Int)), Seg.cell (.int .u64 (0 : Int)), Seg.cell (.bool false), Seg.cell (.int .u64 (0 : Int)), Seg.cell (.int .u64 (0 : Int))]) rfl ze55 rfl) rfl rfl rfl ?_
        rintro _ w22 ⟨G17, rfl, b18, q19, z20⟩
        have n23 := b_0.ne z20
        have a24 := Own.off_new o4 z20
        have z20 := Nat.le_trans fB.size z20
        have b_0 := b_0.gr q19
        have o4 := o4.gr q19
        have fB := fB.gr q19
        have f26 := a24
        refine ol_op0 (by exact opv_store (ss' := [Seg.cell (.int .i64 ((ix t1 s8.2).At)), Seg.cell (.int .u64 ((ix t1 s8.2).Lasts)), Seg.cell (.bool ((ix t1 s8.2).Flushed)), Seg.cell (.int .u64 ((ix t1 s8.2).Sent)), Seg.cell (.int .u64 ((ix t1 s8.2).Stored))]) (xs := cellsOf [Seg.cell (.int .i64 ((ix t1 s8.2).At)), Seg.cell (.int .u64 ((ix t1 s8.2).Lasts)), Seg.cell (.bool ((ix t1 s8.2).Flushed)), Seg.cell (.int .u64 ((ix t1 s8.2).Sent)), Seg.cell (.int .u64 ((ix t1 s8.2).Stored))]) rfl sz55 rfl rfl rfl (len_cellsOf _) (one_cellsOf _) b18 (Spl.segs _ 0 5 [Seg.cell (.int .i64 ((ix t1 s8.2).At)), Seg.cell (.int .u64 ((ix t1 s8.2).Lasts)), Seg.cell (.bool ((ix t1 s8.2).Flushed)), Seg.cell (.int .u64 ((ix t1 s8.2).Sent)), Seg.cell (.int .u64 ((ix t1 s8.2).Stored))] rfl rfl)) rfl rfl ?_
        rintro _ w27 ⟨b18, q25⟩
        have b_0 := b_0.wr q25 n23
        have o4 := o4.wr q25 f26
        have fB := fB.wr q25 z20
        refine ol_nil ?_
        refine cw_region ?_
        refine ol_val (v := .int .i64 s8.1) (by exact xr_move rfl e3) rfl rfl rfl ?_
        refine ol_val (v := aggV [Seg.cell (.int .i64 ((ix t1 s8.2).At)), Seg.cell (.int .u64 ((ix t1 s8.2).Lasts)), Seg.cell (.bool ((ix t1 s8.2).Flushed)), Seg.cell (.int .u64 ((ix t1 s8.2).Sent)), Seg.cell (.int .u64 ((ix t1 s8.2).Stored))]) (by exact xr_loadS (ss := [Seg.cell (.int .i64 ((ix t1 s8.2).At)), Seg.cell (.int .u64 ((ix t1 s8.2).Lasts)), Seg.cell (.bool ((ix t1 s8.2).Flushed)), Seg.cell (.int .u64 ((ix t1 s8.2).Sent)), Seg.cell (.int .u64 ((ix t1 s8.2).Stored))]) rfl ag55 sz55 rfl rfl (b18.segs 0 5 rfl)) rfl rfl rfl ?_
        obtain ⟨t28, k29, h⟩ := bs h
        refine ol_op (by exact opv_call rfl cal50 (ac rfl an) (fate_Values.ok fu _ (ix t1 s8.2) _ k29)) rfl rfl rfl ?_
        rintro u30 w34 ⟨_, o31, rfl, q33⟩
        have o31 := Own.base o31 fB.size
        have b_0 := b_0.gr q33
        have o4 := o4.gr q33
        have fB := fB.gr q33
        refine ol_val (v := .int .i64 (List.length t28 : Int)) (by exact xr_lenR rfl Try.underlying46 rfl o31.rd) rfl rfl rfl ?_
        refine ol_val (v := .int .i64 (IntKind.i64.wrap (s8.1 * (List.length t28 : Int)))) (by exact xr_mul rfl rfl rfl) rfl rfl rfl ?_
        refine ol_val (v := .int .i64 (mnI (IntKind.i64.wrap (s8.1 * (List.length t28 : Int))) 1099511627776)) (by exact xr_min2 rfl rfl rfl) rfl rfl rfl ?_
        refine ol_val (v := .int .i64 (mnI (IntKind.i64.wrap (s8.1 * (List.length t28 : Int))) 1099511627776)) (by exact xr_assign rfl rfl) rfl rfl rfl ?_
        refine ol_nil ?_
        refine blk_i ?_
        refine cw_region ?_
        refine ol_val (v := .int .i64 (IntKind.i64.wrap (s8.2 + 1))) (by exact xr_add rfl e11 rfl) rfl rfl rfl ?_
        refine ol_val (v := .int .i64 (IntKind.i64.wrap (s8.2 + 1))) (by exact xr_move rfl rfl) rfl rfl rfl ?_
        refine ol_nil ?_
        obtain rfl := Option.some.inj h
        refine lp_in ?_
        exact ⟨o4, rfl, e9, e10, rfl, b_0, fB⟩
      · refine cw_condF rfl c15 ?_
        refine cw_exit ?_
        repeat (first | with_reducible refine thn_e ?_ | with_reducible refine blk_e rfl ?_)
        obtain rfl := Option.some.inj h
        refine lp_exit ?_
        rintro rfl
        refine thn_x ?_
        exact ⟨e3, b_0, fB⟩
  · rintro ρ35 w36 ⟨e3, b_0, fB⟩
    have h := h11
    refine cw_seq ?_
    refine cw_region ?_
    refine ol_val (v := .int .i64 e9) (by exact xr_move rfl e3) rfl rfl rfl ?_
    refine ol_val (v := .int .i64 e9) (by exact xr_assign rfl rfl) rfl rfl rfl ?_
    refine ol_nil ?_
    refine cw_ret ?_
    repeat (first | with_reducible refine thn_r ?_ | with_reducible refine blk_r ?_)
    obtain rfl := Option.some.inj h
    refine fin_ret1 Try.results61 rfl ?_
    exact ⟨_, rfl, rfl, fB⟩
end Go.Proofs.Ytklhbaghbmndeaa

/- (*rickyard/pmem.Device).Image$1: its model, and that the Go function computes it: written by gen.py. -/
set_option linter.unusedVariables false
namespace Go.Proofs.Ytklhbaghbmndeaa
open Go Go.Xw
def pmem_Device_Image_1__r0.f (fu : Nat) (a0 : S_pmem_cell) : Option Int := some (a0.lasts)
set_option maxRecDepth 100000 in
set_option maxHeartbeats 400000 in
theorem pmem_Device_Image_1__r0.ok (fu : Nat) (w : World) (a0 : S_pmem_cell) (G_0 p_0 : Nat) (A_0 : At w G_0 p_0 (cellsOf [Seg.cell (.int .u64 a0.lasts), Seg.cell (.int .u64 a0.stored), Seg.cell (.int .u64 a0.sent), Seg.cell (.bool a0.flushed)])) (r : Int) (h : pmem_Device_Image_1__r0.f fu a0 = some r) :
    Calls Try.prog 89 (([.pointer (some ⟨G_0, p_0, none⟩)] : List Value).toArray) w (fun e w' => ∃ v, e = .returned v ∧ v = .int .u64 r ∧ Gr w w') := by
  unfold pmem_Device_Image_1__r0.f at h
  have fB : Gr w w := Fr.refl _ _
  refine calls_cw Try.func89 rfl Try.ntmps89 rfl ?_
  refine cw_seq ?_
  refine cw_region ?_
  refine ol_val (v := .int .u64 0) (by exact xr_assign rfl rfl) rfl rfl rfl ?_
  refine ol_nil ?_
  refine cw_seq ?_
  refine cw_region ?_
  refine ol_val (v := .pointer (some ⟨G_0, p_0, none⟩)) (by exact xr_move rfl rfl) rfl rfl rfl ?_
  refine ol_val (v := .pointer (some ⟨G_0, p_0, none⟩)) (by exact xr_nilCheck rfl rfl) rfl rfl rfl ?_
  refine ol_val (v := .pointer (some ⟨G_0, p_0 + 0, none⟩)) (by exact xr_fieldAddr (p := p_0) (q := 0) rfl fl142_0 rfl) rfl rfl rfl ?_
  refine ol_val (v := .int .u64 a0.lasts) (by exact xr_load1 (v := .int .u64 a0.lasts) rfl ag22 rfl (At.segs (ss := [Seg.cell (.int .u64 a0.lasts), Seg.cell (.int .u64 a0.stored), Seg.cell (.int .u64 a0.sent), Seg.cell (.bool a0.flushed)]) (At.gr A_0 fB) 0 1 rfl)) rfl rfl rfl ?_
  refine ol_val (v := .int .u64 a0.lasts) (by exact xr_assign rfl rfl) rfl rfl rfl ?_
  refine ol_nil ?_
  refine cw_ret ?_
  repeat (first | with_reducible refine thn_r ?_ | with_reducible refine blk_r ?_)
  obtain rfl := Option.some.inj h
  refine fin_ret1 Try.results89 rfl ?_
  exact ⟨_, rfl, rfl, fB⟩
end Go.Proofs.Ytklhbaghbmndeaa

/- rickyard/octet.Lay: its model, and that the Go function computes it: written by gen.py. -/
set_option linter.unusedVariables false
namespace Go.Proofs.Ytklhbaghbmndeaa
open Go Go.Xw
def octet_Lay.s0 (fu : Nat) (a1 : Int) : (Int × Int × (List Int)) → Option (Sum (List Int) (Int × Int × (List Int))) := fun s14 => (if (decide (s14.2.1 < (List.length (List.replicate (Int.toNat a1) (0 : Int)) : Int))) = true then (if 0 ≤ s14.2.1 ∧ s14.2.1 < (List.length s14.2.2 : Int) then some (Sum.inr ((shR .u64 s14.1 8), (IntKind.i64.wrap (s14.2.1 + 1)), (List.set s14.2.2 (Int.toNat s14.2.1) (IntKind.u8.wrap s14.1)))) else none) else some (Sum.inl (s14.2.2)))
def octet_Lay.f (fu : Nat) (a0 : Int) (a1 : Int) : Option (List Int) := (if (if (decide (a1 < 0)) = true then true else (decide (a1 > 8))) = true then some ([]) else (if 0 ≤ a1 ∧ Int.toNat a1 ≤ LIM then ((loopM (octet_Lay.s0 fu a1) fu (a0, 0, (List.replicate (Int.toNat a1) (0 : Int)))).bind fun e15 => some (e15)) else none))
set_option maxRecDepth 100000 in
set_option maxHeartbeats 400000 in
theorem octet_Lay.ok (fu : Nat) (w : World) (a0 : Int) (a1 : Int) (r : (List Int)) (h : octet_Lay.f fu a0 a1 = some r) :
    Calls Try.prog 128 (([.int .u64 a0, .int .i64 a1] : List Value).toArray) w (fun e w' => ∃ v, e = .returned v ∧ ∃ u1 : Value, ∃ o2 : Own (kI .u8) 5 w' w.heap.size u1 r, v = u1 ∧ Gr w w') := by
  unfold octet_Lay.f at h
  have fB : Gr w w := Fr.refl _ _
  refine calls_cw Try.func128 rfl Try.ntmps128 rfl ?_
  refine cw_seq ?_
  refine cw_region ?_
  refine ol_val (v := .slice none 0 0) (by exact xr_assign rfl rfl) rfl rfl rfl ?_
  refine ol_nil ?_
  refine cw_seq ?_
  refine cw_seq ?_
  refine cw_mid (fun ρ' w' => ρ' 0 = .int .u64 a0 ∧ ρ' 1 = .int .i64 a1 ∧ ρ' 12 = .bool (if (decide (a1 < 0)) = true then true else (decide (a1 > 8))) ∧ w = w') ?_ ?_
  · skip
    refine cw_region ?_
    refine ol_val (v := .int .i64 a1) (by exact xr_move rfl rfl) rfl rfl rfl ?_
    refine ol_val (v := .bool (decide (a1 < 0))) (by exact xr_lss rfl rfl rfl) rfl rfl rfl ?_
    refine ol_val (v := .bool (decide (a1 < 0))) (by exact xr_move rfl rfl) rfl rfl rfl ?_
    rcases bt (decide (a1 < 0)) with c4 | c4
    · skip
      refine ol_gskip rfl rfl rfl rfl rfl c4 ?_
      refine ol_gskip rfl rfl rfl rfl rfl c4 ?_
      refine ol_val (v := .bool true) (by exact xr_pickT rfl rfl c4 rfl) rfl rfl rfl ?_
      refine ol_nil ?_
      refine thn_i ?_
      exact ⟨rfl, rfl, (rfl).trans (congrArg (fun z => (.bool z : Value)) (show true = (if (decide (a1 < 0)) = true then true else (decide (a1 > 8))) from by rw [ite_t c4])), rfl⟩
    · skip
      refine ol_gval (v := .int .i64 a1) (by exact xr_move rfl rfl) rfl rfl rfl rfl rfl c4 ?_
      refine ol_gval (v := .bool (decide (a1 > 8))) (by exact xr_gtr rfl rfl rfl) rfl rfl rfl rfl rfl c4 ?_
      refine ol_val (v := .bool (decide (a1 > 8))) (by exact xr_pickF rfl rfl c4 rfl) rfl rfl rfl ?_
      refine ol_nil ?_
      refine thn_i ?_
      exact ⟨rfl, rfl, (rfl).trans (congrArg (fun z => (.bool z : Value)) (show (decide (a1 > 8)) = (if (decide (a1 < 0)) = true then true else (decide (a1 > 8))) from by rw [ite_f c4])), rfl⟩
  · skip
    rintro ρ5 _ ⟨e0, e1, e12, rfl⟩
    rcases is h with ⟨c6, h⟩ | ⟨c6, h⟩
    · refine cw_condT e12 c6 ?_
      refine cw_seq ?_
      refine cw_region ?_
      refine ol_val (v := .slice none 0 0) (by exact xr_assign rfl rfl) rfl rfl rfl ?_
      refine ol_nil ?_
      refine cw_ret ?_
      repeat (first | with_reducible refine thn_r ?_ | with_reducible refine blk_r ?_)
      obtain rfl := Option.some.inj h
      refine fin_ret1 Try.results128 rfl ?_
      exact ⟨_, rfl, (.slice none 0 0), Own.nil _ _ _ _, rfl, fB⟩
    · refine cw_condF e12 c6 ?_
      refine cw_skip ?_
      refine cw_seq ?_
      refine cw_region ?_
      refine ol_val (v := .int .i64 a1) (by exact xr_move rfl e1) rfl rfl rfl ?_
      obtain ⟨g7, h⟩ := gs h
      refine ol_op (by exact opv_make (K := (kI .u8)) (z := (0 : Int)) rfl Try.underlying43 el5 rfl rfl rfl g7.1 g7.2 rfl fB.size) rfl rfl rfl ?_
      rintro v8 w13 ⟨o10, q9, z11⟩
      have fB := fB.gr q9
      refine ol_val (v := v8) (by exact xr_assign rfl rfl) rfl rfl rfl ?_
      refine ol_nil ?_
      refine cw_seq ?_
      refine cw_seq ?_
      refine cw_region ?_
      refine ol_val (v := v8) (by exact xr_move rfl rfl) rfl rfl rfl ?_
      refine ol_val (v := .int .i64 (List.length (List.replicate (Int.toNat a1) (0 : Int)) : Int)) (by exact xr_lenR rfl Try.underlying43 rfl o10.rd) rfl rfl rfl ?_
      refine ol_val (v := .int .i64 0) (by exact xr_move rfl rfl) rfl rfl rfl ?_
      refine ol_nil ?_
      obtain ⟨e15, l16, h17⟩ := bs h
      refine cw_mid (fun ρ' w' => ∃ o10 : Own (kI .u8) 5 w' w.heap.size v8 e15, ρ' 5 = v8 ∧ Gr w w') ?_ ?_
      · refine cw_block ?_
        refine cw_round (fun (s14 : Int × Int × (List Int)) ρ' w' => ∃ o10 : Own (kI .u8) 5 w' w.heap.size v8 s14.2.2, ρ' 0 = .int .u64 s14.1 ∧ ρ' 5 = v8 ∧ ρ' 16 = .int .i64 (List.length (List.replicate (Int.toNat a1) (0 : Int)) : Int) ∧ ρ' 17 = .int .i64 s14.2.1 ∧ Gr w w') l16 ?_ ?_
        · skip
          exact ⟨o10, e0, rfl, rfl, rfl, fB⟩
        · rintro s14 x20 ρ18 w19 ⟨o10, e0, e5, e16, e17, fB⟩ h
          unfold octet_Lay.s0 at h
          refine cw_seq ?_
          refine cw_region ?_
          refine ol_val (v := .bool (decide (s14.2.1 < (List.length (List.replicate (Int.toNat a1) (0 : Int)) : Int)))) (by exact xr_lss rfl e17 e16) rfl rfl rfl ?_
          refine ol_nil ?_
          refine cw_seq ?_
          rcases is h with ⟨c21, h⟩ | ⟨c21, h⟩
          · refine cw_condT rfl c21 ?_
            refine cw_skip ?_
            refine cw_seq ?_
            refine cw_block ?_
            refine cw_seq ?_
            refine cw_region ?_
            refine ol_val (v := .int .i64 s14.2.1) (by exact xr_move rfl e17) rfl rfl rfl ?_
            refine ol_val (v := .int .i64 s14.2.1) (by exact xr_assign rfl rfl) rfl rfl rfl ?_
            refine ol_nil ?_
            refine cw_seq ?_
            refine cw_region ?_
            refine ol_val (v := v8) (by exact xr_move rfl e5) rfl rfl rfl ?_
            refine ol_val (v := .int .i64 s14.2.1) (by exact xr_move rfl rfl) rfl rfl rfl ?_
            refine ol_val (v := .int .u64 s14.1) (by exact xr_move rfl e0) rfl rfl rfl ?_
            refine ol_val (v := .int .u8 (IntKind.u8.wrap s14.1)) (by exact xr_conv rfl Try.underlying22 Try.underlying5 rfl) rfl rfl rfl ?_
            obtain ⟨g22, h⟩ := gs h
            refine ol_val (v := .pointer (some ⟨(sb v8), so v8 + Int.toNat s14.2.1 * 1, none⟩)) (by exact xr_indexR (K := (kI .u8)) (v := v8) rfl Try.underlying43 sz5 rfl o10.rd rfl g22.1 g22.2) rfl rfl rfl ?_
            have f24 := o10.geO
            refine ol_op0 (by exact opv_storeRow (z := (IntKind.u8.wrap s14.1)) (xs := cellsOf [Seg.cell (.int .u8 (IntKind.u8.wrap s14.1))]) rfl sz5 rfl rfl rfl (len_cellsOf _) (one_cellsOf _) o10 g22.1 g22.2 (Spl.whole ((Kd.len _ _).trans (Kd.len _ _).symm)) rfl) rfl rfl ?_
            rintro _ w25 ⟨o10, q23⟩
            have fB := fB.wrO q23 f24
            refine ol_nil ?_
            refine cw_region ?_
            refine ol_val (v := .int .u64 s14.1) (by exact xr_move rfl e0) rfl rfl rfl ?_
            refine ol_val (v := .int .u64 (shR .u64 s14.1 8)) (by exact xr_shr rfl rfl rfl (by decide)) rfl rfl rfl ?_
            refine ol_val (v := .int .u64 (shR .u64 s14.1 8)) (by exact xr_assign rfl rfl) rfl rfl rfl ?_
            refine ol_nil ?_
            refine blk_i ?_
            refine cw_region ?_
            refine ol_val (v := .int .i64 (IntKind.i64.wrap (s14.2.1 + 1))) (by exact xr_add rfl e17 rfl) rfl rfl rfl ?_
            refine ol_val (v := .int .i64 (IntKind.i64.wrap (s14.2.1 + 1))) (by exact xr_move rfl rfl) rfl rfl rfl ?_
            refine ol_nil ?_
            obtain rfl := Option.some.inj h
            refine lp_in ?_
            exact ⟨o10, rfl, e5, e16, rfl, fB⟩
          · refine cw_condF rfl c21 ?_
            refine cw_exit ?_
            repeat (first | with_reducible refine thn_e ?_ | with_reducible refine blk_e rfl ?_)
            obtain rfl := Option.some.inj h
            refine lp_exit ?_
            rintro rfl
            refine thn_x ?_
            exact ⟨o10, e5, fB⟩
      · rintro ρ26 w27 ⟨o10, e5, fB⟩
        have h := h17
        refine cw_seq ?_
        refine cw_region ?_
        refine ol_val (v := v8) (by exact xr_move rfl e5) rfl rfl rfl ?_
        refine ol_val (v := v8) (by exact xr_assign rfl rfl) rfl rfl rfl ?_
        refine ol_nil ?_
        refine cw_ret ?_
        repeat (first | with_reducible refine thn_r ?_ | with_reducible refine blk_r ?_)
        obtain rfl := Option.some.inj h
        refine fin_ret1 Try.results128 rfl ?_
        exact ⟨_, rfl, v8, o10, rfl, fB⟩
end Go.Proofs.Ytklhbaghbmndeaa

/- rickyard/octet.Octets: its model, and that the Go function computes it: written by gen.py. -/
set_option linter.unusedVariables false
namespace Go.Proofs.Ytklhbaghbmndeaa
open Go Go.Xw
def octet_Octets.s0 (fu : Nat) (a0 : List Int) : ((List Int) × Int) → Option (Sum (List Int) ((List Int) × Int)) := fun s4 => (if (decide (s4.2 < (List.length a0 : Int))) = true then (if 0 ≤ s4.2 ∧ s4.2 < (List.length a0 : Int) then ((octet_Lay.f fu (ix a0 s4.2) 8 : Option (List Int)).bind fun t19 => (if List.length s4.1 + List.length t19 ≤ LIM then some (Sum.inr ((s4.1 ++ t19), (IntKind.i64.wrap (s4.2 + 1)))) else none)) else none) else some (Sum.inl (s4.1)))
def octet_Octets.f (fu : Nat) (a0 : List Int) : Option (List Int) := ((loopM (octet_Octets.s0 fu a0) fu ([], 0)).bind fun e5 => some (e5))
set_option maxRecDepth 100000 in
set_option maxHeartbeats 400000 in
theorem octet_Octets.ok (fu : Nat) (w : World) (a0 : List Int) (V0_0 : Value) (R0_0 : Rd (kI .u64) w V0_0 a0) (r : (List Int)) (h : octet_Octets.f fu a0 = some r) :
    Calls Try.prog 104 (([V0_0] : List Value).toArray) w (fun e w' => ∃ v, e = .returned v ∧ ∃ u1 : Value, ∃ o2 : Own (kI .u8) 5 w' w.heap.size u1 r, v = u1 ∧ Gr w w') := by
  unfold octet_Octets.f at h
  have fB : Gr w w := Fr.refl _ _
  refine calls_cw Try.func104 rfl Try.ntmps104 rfl ?_
  refine cw_seq ?_
  refine cw_region ?_
  refine ol_val (v := .slice none 0 0) (by exact xr_assign rfl rfl) rfl rfl rfl ?_
  refine ol_nil ?_
  refine cw_seq ?_
  refine cw_region ?_
  refine ol_val (v := .slice none 0 0) (by exact xr_assign rfl rfl) rfl rfl rfl ?_
  refine ol_nil ?_
  refine cw_seq ?_
  refine cw_seq ?_
  refine cw_region ?_
  refine ol_val (v := V0_0) (by exact xr_move rfl rfl) rfl rfl rfl ?_
  refine ol_val (v := .int .i64 (List.length a0 : Int)) (by exact xr_lenR rfl Try.underlying46 rfl (R0_0.gr fB)) rfl rfl rfl ?_
  refine ol_val (v := .int .i64 0) (by exact xr_move rfl rfl) rfl rfl rfl ?_
  refine ol_nil ?_
  obtain ⟨e5, l6, h7⟩ := bs h
  refine cw_mid (fun ρ' w' => ∃ v8 : Value, ∃ o9 : Own (kI .u8) 5 w' w.heap.size v8 e5, ρ' 3 = v8 ∧ Gr w w') ?_ ?_
  · refine cw_block ?_
    refine cw_round (fun (s4 : (List Int) × Int) ρ' w' => ∃ v11 : Value, ∃ o12 : Own (kI .u8) 5 w' w.heap.size v11 s4.1, ρ' 3 = v11 ∧ ρ' 6 = V0_0 ∧ ρ' 7 = .int .i64 (List.length a0 : Int) ∧ ρ' 8 = .int .i64 s4.2 ∧ Gr w w') l6 ?_ ?_
    · skip
      exact ⟨(.slice none 0 0), Own.nil _ _ _ _, rfl, rfl, rfl, rfl, fB⟩
    · rintro s4 x16 ρ14 w15 ⟨v11, o12, e3, e6, e7, e8, fB⟩ h
      unfold octet_Octets.s0 at h
      refine cw_seq ?_
      refine cw_region ?_
      refine ol_val (v := .bool (decide (s4.2 < (List.length a0 : Int)))) (by exact xr_lss rfl e8 e7) rfl rfl rfl ?_
      refine ol_nil ?_
      refine cw_seq ?_
      rcases is h with ⟨c17, h⟩ | ⟨c17, h⟩
      · refine cw_condT rfl c17 ?_
        refine cw_skip ?_
        refine cw_seq ?_
        refine cw_block ?_
        refine cw_seq ?_
        refine cw_region ?_
        obtain ⟨g18, h⟩ := gs h
        refine ol_val (v := .pointer (some ⟨(sb V0_0), so V0_0 + Int.toNat s4.2 * 1, none⟩)) (by exact xr_indexR (K := (kI .u64)) (v := V0_0) rfl Try.underlying46 sz22 e6 (R0_0.gr fB) e8 g18.1 g18.2) rfl rfl rfl ?_
        refine ol_val (v := .int .u64 (ix a0 s4.2)) (by exact xr_load1 (v := .int .u64 (ix a0 s4.2)) rfl ag22 rfl ((R0_0.gr fB).elem g18.1 g18.2)) rfl rfl rfl ?_
        refine ol_val (v := .int .u64 (ix a0 s4.2)) (by exact xr_assign rfl rfl) rfl rfl rfl ?_
        refine ol_nil ?_
        refine cw_region ?_
        refine ol_val (v := v11) (by exact xr_move rfl e3) rfl rfl rfl ?_
        refine ol_val (v := .int .u64 (ix a0 s4.2)) (by exact xr_move rfl rfl) rfl rfl rfl ?_
        obtain ⟨t19, k20, h⟩ := bs h
        refine ol_op (by exact opv_call rfl cal128 (ac rfl (ac rfl an)) (octet_Lay.ok fu _ (ix a0 s4.2) 8 _ k20)) rfl rfl rfl ?_
        rintro u21 w25 ⟨_, o22, rfl, q24⟩
        have a26 := OffV.call o12 o22
        have o22 := Own.base o22 fB.size
        have o12 := o12.gr q24
        have fB := fB.gr q24
        obtain ⟨g31, h⟩ := gs h
        have f33 := o12.geO
        refine ol_op (by exact opv_append (K := (kI .u8)) rfl Try.underlying43 el5 rfl rfl rfl rfl rfl o12 o22.rd g31 fB.size) rfl rfl rfl ?_
        rintro v27 w34 ⟨o28, q29, n30⟩
        have fB := fB.wrO q29 f33
        refine ol_val (v := v27) (by exact xr_assign rfl rfl) rfl rfl rfl ?_
        refine ol_nil ?_
        refine blk_i ?_
        refine cw_region ?_
        refine ol_val (v := .int .i64 (IntKind.i64.wrap (s4.2 + 1))) (by exact xr_add rfl e8 rfl) rfl rfl rfl ?_
        refine ol_val (v := .int .i64 (IntKind.i64.wrap (s4.2 + 1))) (by exact xr_move rfl rfl) rfl rfl rfl ?_
        refine ol_nil ?_
        obtain rfl := Option.some.inj h
        refine lp_in ?_
        exact ⟨v27, o28, rfl, e6, e7, rfl, fB⟩
      · refine cw_condF rfl c17 ?_
        refine cw_exit ?_
        repeat (first | with_reducible refine thn_e ?_ | with_reducible refine blk_e rfl ?_)
        obtain rfl := Option.some.inj h
        refine lp_exit ?_
        rintro rfl
        refine thn_x ?_
        exact ⟨v11, o12, e3, fB⟩
  · rintro ρ35 w36 ⟨v8, o9, e3, fB⟩
    have h := h7
    refine cw_seq ?_
    refine cw_region ?_
    refine ol_val (v := v8) (by exact xr_move rfl e3) rfl rfl rfl ?_
    refine ol_val (v := v8) (by exact xr_assign rfl rfl) rfl rfl rfl ?_
    refine ol_nil ?_
    refine cw_ret ?_
    repeat (first | with_reducible refine thn_r ?_ | with_reducible refine blk_r ?_)
    obtain rfl := Option.some.inj h
    refine fin_ret1 Try.results104 rfl ?_
    exact ⟨_, rfl, v8, o9, rfl, fB⟩
end Go.Proofs.Ytklhbaghbmndeaa

/- (*rickyard/pmem.Device).octets: its model, and that the Go function computes it: written by gen.py. -/
set_option linter.unusedVariables false
namespace Go.Proofs.Ytklhbaghbmndeaa
open Go Go.Xw
def pmem_Device_octets__pmem_Device_Image_1.s0 (fu : Nat) (a0 : S_pmem_Device) : (Int × (List Int)) → Option (Sum (List Int) (Int × (List Int))) := fun s11 => (if (decide (s11.1 < (List.length a0.cells : Int))) = true then (if 0 ≤ s11.1 ∧ s11.1 < (List.length a0.cells : Int) then ((pmem_Device_Image_1__r0.f fu (ix a0.cells s11.1) : Option Int).bind fun t20 => (if 0 ≤ s11.1 ∧ s11.1 < (List.length s11.2 : Int) then some (Sum.inr ((IntKind.i64.wrap (s11.1 + 1)), (List.set s11.2 (Int.toNat s11.1) t20))) else none)) else none) else some (Sum.inl (s11.2)))
def pmem_Device_octets__pmem_Device_Image_1.f (fu : Nat) (a0 : S_pmem_Device) : Option (List Int) := (if 0 ≤ (List.length a0.cells : Int) ∧ Int.toNat (List.length a0.cells : Int) ≤ LIM then ((loopM (pmem_Device_octets__pmem_Device_Image_1.s0 fu a0) fu (0, (List.replicate (Int.toNat (List.length a0.cells : Int)) (0 : Int)))).bind fun e12 => ((octet_Octets.f fu e12 : Option (List Int)).bind fun t31 => some (t31))) else none)
set_option maxRecDepth 100000 in
set_option maxHeartbeats 400000 in
theorem pmem_Device_octets__pmem_Device_Image_1.ok (fu : Nat) (w : World) (a0 : S_pmem_Device) (G_0 : Nat) (V0_0 : Value) (R0_0 : Rd k_pmem_cell w V0_0 a0.cells) (V0_1 : Value) (R0_1 : Rd (kI .i64) w V0_1 a0.plan.list) (b_0 : Blk w G_0 139 [Seg.cell V0_0 R0_0.one, Seg.cell V0_1 R0_1.one, Seg.cell (.int .i64 a0.plan.at_), Seg.cell (.bool a0.off), Seg.cell (.bool a0.armed), Seg.cell (.int .i64 a0.left), Seg.cell (.int .i64 a0.steps)]) (r : (List Int)) (h : pmem_Device_octets__pmem_Device_Image_1.f fu a0 = some r) :
    Calls Try.prog 88 (([.pointer (some ⟨G_0, 0, none⟩), Value.func (.func 89) #[] #[]] : List Value).toArray) w (fun e w' => ∃ v, e = .returned v ∧ ∃ u1 : Value, ∃ o2 : Own (kI .u8) 5 w' w.heap.size u1 r, v = u1 ∧ Gr w w') := by
  unfold pmem_Device_octets__pmem_Device_Image_1.f at h
  have fB : Gr w w := Fr.refl _ _
  refine calls_cw Try.func88 rfl Try.ntmps88 rfl ?_
  refine cw_seq ?_
  refine cw_region ?_
  refine ol_val (v := .slice none 0 0) (by exact xr_assign rfl rfl) rfl rfl rfl ?_
  refine ol_nil ?_
  refine cw_seq ?_
  refine cw_region ?_
  refine ol_val (v := .pointer (some ⟨G_0, 0, none⟩)) (by exact xr_move rfl rfl) rfl rfl rfl ?_
  refine ol_val (v := .pointer (some ⟨G_0, 0, none⟩)) (by exact xr_nilCheck rfl rfl) rfl rfl rfl ?_
  refine ol_val (v := .pointer (some ⟨G_0, 0, none⟩)) (by exact xr_fieldAddr (p := 0) (q := 0) rfl fl139_0 rfl) rfl rfl rfl ?_
  refine ol_val (v := V0_0) (by exact xr_load1 (v := V0_0) rfl ag135 rfl (b_0.seg 0 rfl rfl)) rfl rfl rfl ?_
  refine ol_val (v := .int .i64 (List.length a0.cells : Int)) (by exact xr_lenR rfl Try.underlying135 rfl (R0_0.gr fB)) rfl rfl rfl ?_
  obtain ⟨g4, h⟩ := gs h
  refine ol_op (by exact opv_make (K := (kI .u64)) (z := (0 : Int)) rfl Try.underlying46 el22 rfl rfl rfl g4.1 g4.2 rfl fB.size) rfl rfl rfl ?_
  rintro v5 w10 ⟨o7, q6, z8⟩
  have b_0 := b_0.gr q6
  have fB := fB.gr q6
  refine ol_val (v := v5) (by exact xr_assign rfl rfl) rfl rfl rfl ?_
  refine ol_nil ?_
  refine cw_seq ?_
  refine cw_seq ?_
  refine cw_region ?_
  refine ol_val (v := .pointer (some ⟨G_0, 0, none⟩)) (by exact xr_move rfl rfl) rfl rfl rfl ?_
  refine ol_val (v := .pointer (some ⟨G_0, 0, none⟩)) (by exact xr_nilCheck rfl rfl) rfl rfl rfl ?_
  refine ol_val (v := .pointer (some ⟨G_0, 0, none⟩)) (by exact xr_fieldAddr (p := 0) (q := 0) rfl fl139_0 rfl) rfl rfl rfl ?_
  refine ol_val (v := V0_0) (by exact xr_load1 (v := V0_0) rfl ag135 rfl (b_0.seg 0 rfl rfl)) rfl rfl rfl ?_
  refine ol_val (v := .int .i64 (List.length a0.cells : Int)) (by exact xr_lenR rfl Try.underlying135 rfl (R0_0.gr fB)) rfl rfl rfl ?_
  refine ol_val (v := .int .i64 0) (by exact xr_move rfl rfl) rfl rfl rfl ?_
  refine ol_nil ?_
  obtain ⟨e12, l13, h14⟩ := bs h
  refine cw_mid (fun ρ' w' => ∃ o7 : Own (kI .u64) 22 w' w.heap.size v5 e12, ρ' 5 = v5 ∧ Blk w' G_0 139 [Seg.cell V0_0 R0_0.one, Seg.cell V0_1 R0_1.one, Seg.cell (.int .i64 a0.plan.at_), Seg.cell (.bool a0.off), Seg.cell (.bool a0.armed), Seg.cell (.int .i64 a0.left), Seg.cell (.int .i64 a0.steps)] ∧ Gr w w') ?_ ?_
  · refine cw_block ?_
    refine cw_round (fun (s11 : Int × (List Int)) ρ' w' => ∃ o7 : Own (kI .u64) 22 w' w.heap.size v5 s11.2, ρ' 0 = .pointer (some ⟨G_0, 0, none⟩) ∧ ρ' 1 = Value.func (.func 89) #[] #[] ∧ ρ' 5 = v5 ∧ ρ' 17 = .int .i64 (List.length a0.cells : Int) ∧ ρ' 18 = .int .i64 s11.1 ∧ Blk w' G_0 139 [Seg.cell V0_0 R0_0.one, Seg.cell V0_1 R0_1.one, Seg.cell (.int .i64 a0.plan.at_), Seg.cell (.bool a0.off), Seg.cell (.bool a0.armed), Seg.cell (.int .i64 a0.left), Seg.cell (.int .i64 a0.steps)] ∧ Gr w w') l13 ?_ ?_
    · skip
      exact ⟨o7, rfl, rfl, rfl, rfl, rfl, b_0, fB⟩
    · rintro s11 x17 ρ15 w16 ⟨o7, e0, e1, e5, e17, e18, b_0, fB⟩ h
      unfold pmem_Device_octets__pmem_Device_Image_1.s0 at h
      refine cw_seq ?_
      refine cw_region ?_
      refine ol_val (v := .bool (decide (s11.1 < (List.length a0.cells : Int)))) (by exact xr_lss rfl e18 e17) rfl rfl rfl ?_
      refine ol_nil ?_
      refine cw_seq ?_
      rcases is h with ⟨c18, h⟩ | ⟨c18, h⟩
      · refine cw_condT rfl c18 ?_
        refine cw_skip ?_
        refine cw_seq ?_
        refine cw_block ?_
        refine cw_seq ?_
        refine cw_region ?_
        refine ol_val (v := .int .i64 s11.1) (by exact xr_move rfl e18) rfl rfl rfl ?_
        refine ol_val (v := .int .i64 s11.1) (by exact xr_assign rfl rfl) rfl rfl rfl ?_
        refine ol_nil ?_
        refine cw_region ?_
        refine ol_val (v := v5) (by exact xr_move rfl e5) rfl rfl rfl ?_
        refine ol_val (v := .int .i64 s11.1) (by exact xr_move rfl rfl) rfl rfl rfl ?_
        refine ol_val (v := Value.func (.func 89) #[] #[]) (by exact xr_move rfl e1) rfl rfl rfl ?_
        refine ol_val (v := .pointer (some ⟨G_0, 0, none⟩)) (by exact xr_move rfl e0) rfl rfl rfl ?_
        refine ol_val (v := .pointer (some ⟨G_0, 0, none⟩)) (by exact xr_nilCheck rfl rfl) rfl rfl rfl ?_
        refine ol_val (v := .pointer (some ⟨G_0, 0, none⟩)) (by exact xr_fieldAddr (p := 0) (q := 0) rfl fl139_0 rfl) rfl rfl rfl ?_
        refine ol_val (v := V0_0) (by exact xr_load1 (v := V0_0) rfl ag135 rfl (b_0.seg 0 rfl rfl)) rfl rfl rfl ?_
        refine ol_val (v := .int .i64 s11.1) (by exact xr_move rfl rfl) rfl rfl rfl ?_
        obtain ⟨g19, h⟩ := gs h
        refine ol_val (v := .pointer (some ⟨(sb V0_0), so V0_0 + Int.toNat s11.1 * 4, none⟩)) (by exact xr_indexR (K := k_pmem_cell) (v := V0_0) rfl Try.underlying135 sz142 rfl (R0_0.gr fB) rfl g19.1 g19.2) rfl rfl rfl ?_
        obtain ⟨t20, k21, h⟩ := bs h
        refine ol_op (by exact opv_callV (C := []) rfl rfl cal89 (ac rfl an) (pmem_Device_Image_1__r0.ok fu _ (ix a0.cells s11.1) (sb V0_0) (so V0_0 + Int.toNat s11.1 * 4) (show At _ _ _ (cellsOf [Seg.cell (.int .u64 ((ix a0.cells s11.1).lasts)), Seg.cell (.int .u64 ((ix a0.cells s11.1).stored)), Seg.cell (.int .u64 ((ix a0.cells s11.1).sent)), Seg.cell (.bool ((ix a0.cells s11.1).flushed))]) from ((R0_0.gr fB).elem g19.1 g19.2)) _ k21)) rfl rfl rfl ?_
        rintro _ w23 ⟨rfl, q22⟩
        have b_0 := b_0.gr q22
        have o7 := o7.gr q22
        have fB := fB.gr q22
        obtain ⟨g24, h⟩ := gs h
        refine ol_val (v := .pointer (some ⟨(sb v5), so v5 + Int.toNat s11.1 * 1, none⟩)) (by exact xr_indexR (K := (kI .u64)) (v := v5) rfl Try.underlying46 sz22 rfl o7.rd rfl g24.1 g24.2) rfl rfl rfl ?_
        have f26 := off_ty b_0 o7 (by decide)
        have f27 := o7.geO
        refine ol_op0 (by exact opv_storeRow (z := t20) (xs := cellsOf [Seg.cell (.int .u64 t20)]) rfl sz22 rfl rfl rfl (len_cellsOf _) (one_cellsOf _) o7 g24.1 g24.2 (Spl.whole ((Kd.len _ _).trans (Kd.len _ _).symm)) rfl) rfl rfl ?_
        rintro _ w28 ⟨o7, q25⟩
        have b_0 := b_0.wrO q25 f26
        have fB := fB.wrO q25 f27
        refine ol_nil ?_
        refine blk_i ?_
        refine cw_region ?_
        refine ol_val (v := .int .i64 (IntKind.i64.wrap (s11.1 + 1))) (by exact xr_add rfl e18 rfl) rfl rfl rfl ?_
        refine ol_val (v := .int .i64 (IntKind.i64.wrap (s11.1 + 1))) (by exact xr_move rfl rfl) rfl rfl rfl ?_
        refine ol_nil ?_
        obtain rfl := Option.some.inj h
        refine lp_in ?_
        exact ⟨o7, e0, e1, e5, e17, rfl, b_0, fB⟩
      · refine cw_condF rfl c18 ?_
        refine cw_exit ?_
        repeat (first | with_reducible refine thn_e ?_ | with_reducible refine blk_e rfl ?_)
        obtain rfl := Option.some.inj h
        refine lp_exit ?_
        rintro rfl
        refine thn_x ?_
        exact ⟨o7, e5, b_0, fB⟩
  · rintro ρ29 w30 ⟨o7, e5, b_0, fB⟩
    have h := h14
    refine cw_seq ?_
    refine cw_region ?_
    refine ol_val (v := v5) (by exact xr_move rfl e5) rfl rfl rfl ?_
    obtain ⟨t31, k32, h⟩ := bs h
    refine ol_op (by exact opv_call rfl cal104 (ac rfl an) (octet_Octets.ok fu _ e12 v5 (o7.rd) _ k32)) rfl rfl rfl ?_
    rintro u33 w37 ⟨_, o34, rfl, q36⟩
    have o34 := Own.base o34 fB.size
    have b_0 := b_0.gr q36
    have fB := fB.gr q36
    refine ol_val (v := u33) (by exact xr_assign rfl rfl) rfl rfl rfl ?_
    refine ol_nil ?_
    refine cw_ret ?_
    repeat (first | with_reducible refine thn_r ?_ | with_reducible refine blk_r ?_)
    obtain rfl := Option.some.inj h
    refine fin_ret1 Try.results88 rfl ?_
    exact ⟨_, rfl, u33, o34, rfl, fB⟩
end Go.Proofs.Ytklhbaghbmndeaa

/- (*rickyard/pmem.Device).Image: its model, and that the Go function computes it: written by gen.py. -/
set_option linter.unusedVariables false
namespace Go.Proofs.Ytklhbaghbmndeaa
open Go Go.Xw
def pmem_Device_Image.f (fu : Nat) (a0 : S_pmem_Device) : Option (List Int) := ((pmem_Device_octets__pmem_Device_Image_1.f fu a0 : Option (List Int)).bind fun t4 => some (t4))
set_option maxRecDepth 100000 in
set_option maxHeartbeats 400000 in
theorem pmem_Device_Image.ok (fu : Nat) (w : World) (a0 : S_pmem_Device) (G_0 : Nat) (V0_0 : Value) (R0_0 : Rd k_pmem_cell w V0_0 a0.cells) (V0_1 : Value) (R0_1 : Rd (kI .i64) w V0_1 a0.plan.list) (b_0 : Blk w G_0 139 [Seg.cell V0_0 R0_0.one, Seg.cell V0_1 R0_1.one, Seg.cell (.int .i64 a0.plan.at_), Seg.cell (.bool a0.off), Seg.cell (.bool a0.armed), Seg.cell (.int .i64 a0.left), Seg.cell (.int .i64 a0.steps)]) (r : (List Int)) (h : pmem_Device_Image.f fu a0 = some r) :
    Calls Try.prog 33 (([.pointer (some ⟨G_0, 0, none⟩)] : List Value).toArray) w (fun e w' => ∃ v, e = .returned v ∧ ∃ u1 : Value, ∃ o2 : Own (kI .u8) 5 w' w.heap.size u1 r, v = u1 ∧ Gr w w') := by
  unfold pmem_Device_Image.f at h
  have fB : Gr w w := Fr.refl _ _
  refine calls_cw Try.func33 rfl Try.ntmps33 rfl ?_
  refine cw_seq ?_
  refine cw_region ?_
  refine ol_val (v := .slice none 0 0) (by exact xr_assign rfl rfl) rfl rfl rfl ?_
  refine ol_nil ?_
  refine cw_seq ?_
  refine cw_region ?_
  refine ol_val (v := .pointer (some ⟨G_0, 0, none⟩)) (by exact xr_move rfl rfl) rfl rfl rfl ?_
  obtain ⟨t4, k5, h⟩ := bs h
  refine ol_op (by exact opv_call rfl cal88 (ac rfl (ac rfl an)) (pmem_Device_octets__pmem_Device_Image_1.ok fu _ a0 G_0 V0_0 (R0_0.gr fB) V0_1 (R0_1.gr fB) b_0 _ k5)) rfl rfl rfl ?_
  rintro u6 w10 ⟨_, o7, rfl, q9⟩
  have o7 := Own.base o7 fB.size
  have b_0 := b_0.gr q9
  have fB := fB.gr q9
  refine ol_val (v := u6) (by exact xr_assign rfl rfl) rfl rfl rfl ?_
  refine ol_nil ?_
  refine cw_ret ?_
  repeat (first | with_reducible refine thn_r ?_ | with_reducible refine blk_r ?_)
  obtain rfl := Option.some.inj h
  refine fin_ret1 Try.results33 rfl ?_
  exact ⟨_, rfl, u6, o7, rfl, fB⟩
end Go.Proofs.Ytklhbaghbmndeaa

/- rickyard/fate.choice: its model, and that the Go function computes it: written by gen.py. -/
set_option linter.unusedVariables false
namespace Go.Proofs.Ytklhbaghbmndeaa
open Go Go.Xw
def fate_choice.f (fu : Nat) (a0 : S_api_Fate) (a1 : Int) : Option Int := (if (decide (a1 = a0.Lasts)) = true then some (0) else (if (if a0.Flushed = true then (decide (a1 = a0.Sent)) else false) = true then some (1) else (if (decide (a1 = a0.Stored)) = true then some (2) else some ((-1)))))
set_option maxRecDepth 100000 in
set_option maxHeartbeats 400000 in
theorem fate_choice.ok (fu : Nat) (w : World) (a0 : S_api_Fate) (a1 : Int) (r : Int) (h : fate_choice.f fu a0 a1 = some r) :
    Calls Try.prog 108 (([aggV [Seg.cell (.int .i64 a0.At), Seg.cell (.int .u64 a0.Lasts), Seg.cell (.bool a0.Flushed), Seg.cell (.int .u64 a0.Sent), Seg.cell (.int .u64 a0.Stored)], .int .u64 a1] : List Value).toArray) w (fun e w' => ∃ v, e = .returned v ∧ v = .int .i64 r ∧ Gr w w') := by
  unfold fate_choice.f at h
  have fB : Gr w w := Fr.refl _ _
  refine calls_cw Try.func108 rfl Try.ntmps108 rfl ?_
  refine cw_seq ?_
  refine cw_region ?_
  refine ol_op (by exact opv_box (ss := [Seg.cell (.int .i64 a0.At), Seg.cell (.int .u64 a0.Lasts), Seg.cell (.bool a0.Flushed), Seg.cell (.int .u64 a0.Sent), Seg.cell (.int .u64 a0.Stored)]) rfl rfl rfl) rfl rfl rfl ?_
  rintro _ w6 ⟨G1, rfl, b2, q3, z4⟩
  have z4 := Nat.le_trans fB.size z4
  have fB := fB.gr q3
  refine ol_val (v := .int .i64 0) (by exact xr_assign rfl rfl) rfl rfl rfl ?_
  refine ol_nil ?_
  refine cw_seq ?_
  refine cw_block ?_
  refine cw_seq ?_
  refine cw_region ?_
  refine ol_val (v := .int .u64 a1) (by exact xr_move rfl rfl) rfl rfl rfl ?_
  refine ol_val (v := .pointer (some ⟨G1, 1, none⟩)) (by exact xr_fieldAddr (p := 0) (q := 1) rfl fl55_1 rfl) rfl rfl rfl ?_
  refine ol_val (v := .int .u64 a0.Lasts) (by exact xr_load1 (v := .int .u64 a0.Lasts) rfl ag22 rfl (b2.seg 1 rfl rfl)) rfl rfl rfl ?_
  refine ol_val (v := .bool (decide (a1 = a0.Lasts))) (by exact xr_eqI rfl Try.underlying22 rfl rfl rfl) rfl rfl rfl ?_
  refine ol_val (v := .bool (decide (a1 = a0.Lasts))) (by exact xr_assign rfl rfl) rfl rfl rfl ?_
  refine ol_nil ?_
  rcases is h with ⟨c7, h⟩ | ⟨c7, h⟩
  · refine cw_condT rfl c7 ?_
    refine cw_seq ?_
    refine cw_region ?_
    refine ol_val (v := .int .i64 0) (by exact xr_assign rfl rfl) rfl rfl rfl ?_
    refine ol_nil ?_
    refine cw_ret ?_
    repeat (first | with_reducible refine thn_r ?_ | with_reducible refine blk_r ?_)
    obtain rfl := Option.some.inj h
    refine fin_ret1 Try.results108 rfl ?_
    exact ⟨_, rfl, rfl, fB⟩
  · refine cw_condF rfl c7 ?_
    refine cw_seq ?_
    refine cw_mid (fun ρ' w' => ρ' 1 = .int .u64 a1 ∧ ρ' 2 = .pointer (some ⟨G1, 0, none⟩) ∧ ρ' 10 = .bool (if a0.Flushed = true then (decide (a1 = a0.Sent)) else false) ∧ w6 = w') ?_ ?_
    · skip
      refine cw_region ?_
      refine ol_val (v := .pointer (some ⟨G1, 2, none⟩)) (by exact xr_fieldAddr (p := 0) (q := 2) rfl fl55_2 rfl) rfl rfl rfl ?_
      refine ol_val (v := .bool a0.Flushed) (by exact xr_load1 (v := .bool a0.Flushed) rfl ag4 rfl (b2.seg 2 rfl rfl)) rfl rfl rfl ?_
      refine ol_val (v := .bool a0.Flushed) (by exact xr_move rfl rfl) rfl rfl rfl ?_
      rcases bt a0.Flushed with c8 | c8
      · skip
        refine ol_gval (v := .int .u64 a1) (by exact xr_move rfl rfl) rfl rfl rfl rfl rfl c8 ?_
        refine ol_gval (v := .pointer (some ⟨G1, 3, none⟩)) (by exact xr_fieldAddr (p := 0) (q := 3) rfl fl55_3 rfl) rfl rfl rfl rfl rfl c8 ?_
        refine ol_gval (v := .int .u64 a0.Sent) (by exact xr_load1 (v := .int .u64 a0.Sent) rfl ag22 rfl (b2.seg 3 rfl rfl)) rfl rfl rfl rfl rfl c8 ?_
        refine ol_gval (v := .bool (decide (a1 = a0.Sent))) (by exact xr_eqI rfl Try.underlying22 rfl rfl rfl) rfl rfl rfl rfl rfl c8 ?_
        refine ol_val (v := .bool (decide (a1 = a0.Sent))) (by exact xr_pickT rfl rfl c8 rfl) rfl rfl rfl ?_
        refine ol_val (v := .bool (decide (a1 = a0.Sent))) (by exact xr_assign rfl rfl) rfl rfl rfl ?_
        refine ol_nil ?_
        refine thn_i ?_
        exact ⟨rfl, rfl, (rfl).trans (congrArg (fun z => (.bool z : Value)) (show (decide (a1 = a0.Sent)) = (if a0.Flushed = true then (decide (a1 = a0.Sent)) else false) from by rw [ite_t c8])), rfl⟩
      · skip
        refine ol_gskip rfl rfl rfl rfl rfl c8 ?_
        refine ol_gskip rfl rfl rfl rfl rfl c8 ?_
        refine ol_gskip rfl rfl rfl rfl rfl c8 ?_
        refine ol_gskip rfl rfl rfl rfl rfl c8 ?_
        refine ol_val (v := .bool false) (by exact xr_pickF rfl rfl c8 rfl) rfl rfl rfl ?_
        refine ol_val (v := .bool false) (by exact xr_assign rfl rfl) rfl rfl rfl ?_
        refine ol_nil ?_
        refine thn_i ?_
        exact ⟨rfl, rfl, (rfl).trans (congrArg (fun z => (.bool z : Value)) (show false = (if a0.Flushed = true then (decide (a1 = a0.Sent)) else false) from by rw [ite_f c8])), rfl⟩
    · skip
      rintro ρ9 _ ⟨e1, e2, e10, rfl⟩
      rcases is h with ⟨c10, h⟩ | ⟨c10, h⟩
      · refine cw_condT e10 c10 ?_
        refine cw_seq ?_
        refine cw_region ?_
        refine ol_val (v := .int .i64 1) (by exact xr_assign rfl rfl) rfl rfl rfl ?_
        refine ol_nil ?_
        refine cw_ret ?_
        repeat (first | with_reducible refine thn_r ?_ | with_reducible refine blk_r ?_)
        obtain rfl := Option.some.inj h
        refine fin_ret1 Try.results108 rfl ?_
        exact ⟨_, rfl, rfl, fB⟩
      · refine cw_condF e10 c10 ?_
        refine cw_seq ?_
        refine cw_region ?_
        refine ol_val (v := .int .u64 a1) (by exact xr_move rfl e1) rfl rfl rfl ?_
        refine ol_val (v := .pointer (some ⟨G1, 4, none⟩)) (by exact xr_fieldAddr (p := 0) (q := 4) rfl fl55_4 e2) rfl rfl rfl ?_
        refine ol_val (v := .int .u64 a0.Stored) (by exact xr_load1 (v := .int .u64 a0.Stored) rfl ag22 rfl (b2.seg 4 rfl rfl)) rfl rfl rfl ?_
        refine ol_val (v := .bool (decide (a1 = a0.Stored))) (by exact xr_eqI rfl Try.underlying22 rfl rfl rfl) rfl rfl rfl ?_
        refine ol_val (v := .bool (decide (a1 = a0.Stored))) (by exact xr_assign rfl rfl) rfl rfl rfl ?_
        refine ol_nil ?_
        rcases is h with ⟨c11, h⟩ | ⟨c11, h⟩
        · refine cw_condT rfl c11 ?_
          refine cw_seq ?_
          refine cw_region ?_
          refine ol_val (v := .int .i64 2) (by exact xr_assign rfl rfl) rfl rfl rfl ?_
          refine ol_nil ?_
          refine cw_ret ?_
          repeat (first | with_reducible refine thn_r ?_ | with_reducible refine blk_r ?_)
          obtain rfl := Option.some.inj h
          refine fin_ret1 Try.results108 rfl ?_
          exact ⟨_, rfl, rfl, fB⟩
        · refine cw_condF rfl c11 ?_
          refine cw_skip ?_
          refine blk_i ?_
          refine cw_seq ?_
          refine cw_region ?_
          refine ol_val (v := .int .i64 (-1)) (by exact xr_assign rfl rfl) rfl rfl rfl ?_
          refine ol_nil ?_
          refine cw_ret ?_
          repeat (first | with_reducible refine thn_r ?_ | with_reducible refine blk_r ?_)
          obtain rfl := Option.some.inj h
          refine fin_ret1 Try.results108 rfl ?_
          exact ⟨_, rfl, rfl, fB⟩
end Go.Proofs.Ytklhbaghbmndeaa

/- rickyard/octet.Read: its model, and that the Go function computes it: written by gen.py. -/
set_option linter.unusedVariables false
namespace Go.Proofs.Ytklhbaghbmndeaa
open Go Go.Xw
def octet_Read.s0 (fu : Nat) (a0 : List Int) : (Int × Int) → Option (Sum Int (Int × Int)) := fun s3 => (if (decide (s3.2 < (List.length (cut a0 0 (mnI (List.length a0 : Int) 8)) : Int))) = true then (if 0 ≤ s3.2 ∧ s3.2 < (List.length (cut a0 0 (mnI (List.length a0 : Int) 8)) : Int) then (if 0 ≤ (IntKind.i64.wrap (8 * s3.2)) then some (Sum.inr ((bOr .u64 s3.1 (shL .u64 (IntKind.u64.wrap (ix (cut a0 0 (mnI (List.length a0 : Int) 8)) s3.2)) (IntKind.i64.wrap (8 * s3.2)))), (IntKind.i64.wrap (s3.2 + 1)))) else none) else none) else some (Sum.inl (s3.1)))
def octet_Read.f (fu : Nat) (a0 : List Int) : Option Int := (if 0 ≤ (mnI (List.length a0 : Int) 8) ∧ (mnI (List.length a0 : Int) 8) ≤ (List.length a0 : Int) then ((loopM (octet_Read.s0 fu a0) fu (0, 0)).bind fun e4 => some (e4)) else none)
set_option maxRecDepth 100000 in
set_option maxHeartbeats 400000 in
theorem octet_Read.ok (fu : Nat) (w : World) (a0 : List Int) (V0_0 : Value) (R0_0 : Rd (kI .u8) w V0_0 a0) (r : Int) (h : octet_Read.f fu a0 = some r) :
    Calls Try.prog 109 (([V0_0] : List Value).toArray) w (fun e w' => ∃ v, e = .returned v ∧ v = .int .u64 r ∧ Gr w w') := by
  unfold octet_Read.f at h
  have fB : Gr w w := Fr.refl _ _
  refine calls_cw Try.func109 rfl Try.ntmps109 rfl ?_
  refine cw_seq ?_
  refine cw_region ?_
  refine ol_val (v := .int .u64 0) (by exact xr_assign rfl rfl) rfl rfl rfl ?_
  refine ol_nil ?_
  refine cw_seq ?_
  refine cw_region ?_
  refine ol_val (v := .int .u64 0) (by exact xr_assign rfl rfl) rfl rfl rfl ?_
  refine ol_nil ?_
  refine cw_seq ?_
  refine cw_seq ?_
  refine cw_region ?_
  refine ol_val (v := V0_0) (by exact xr_move rfl rfl) rfl rfl rfl ?_
  refine ol_val (v := V0_0) (by exact xr_move rfl rfl) rfl rfl rfl ?_
  refine ol_val (v := .int .i64 (List.length a0 : Int)) (by exact xr_lenR rfl Try.underlying43 rfl (R0_0.gr fB)) rfl rfl rfl ?_
  refine ol_val (v := .int .i64 (mnI (List.length a0 : Int) 8)) (by exact xr_min2 rfl rfl rfl) rfl rfl rfl ?_
  obtain ⟨g2, h⟩ := gs h
  refine ol_val (v := subv 1 V0_0 0 (Int.toNat (mnI (List.length a0 : Int) 8))) (by exact xr_slice_h (K := (kI .u8)) (v := V0_0) rfl Try.underlying43 sz5 rfl (R0_0.gr fB) rfl g2.1 g2.2) rfl rfl rfl ?_
  have r1 : Rd (kI .u8) w (subv 1 V0_0 0 (Int.toNat (mnI (List.length a0 : Int) 8))) (cut a0 0 (mnI (List.length a0 : Int) 8)) := (R0_0.gr fB).cut (lo := 0) (hi := (mnI (List.length a0 : Int) 8)) (by decide) g2.1 g2.2
  refine ol_val (v := .int .i64 (List.length (cut a0 0 (mnI (List.length a0 : Int) 8)) : Int)) (by exact xr_lenR rfl Try.underlying43 rfl r1) rfl rfl rfl ?_
  refine ol_val (v := .int .i64 0) (by exact xr_move rfl rfl) rfl rfl rfl ?_
  refine ol_nil ?_
  obtain ⟨e4, l5, h6⟩ := bs h
  refine cw_mid (fun ρ' w' => ρ' 3 = .int .u64 e4 ∧ Gr w w') ?_ ?_
  · refine cw_block ?_
    refine cw_round (fun (s3 : Int × Int) ρ' w' => ∃ r1 : Rd (kI .u8) w' (subv 1 V0_0 0 (Int.toNat (mnI (List.length a0 : Int) 8))) (cut a0 0 (mnI (List.length a0 : Int) 8)), ρ' 3 = .int .u64 s3.1 ∧ ρ' 10 = subv 1 V0_0 0 (Int.toNat (mnI (List.length a0 : Int) 8)) ∧ ρ' 11 = .int .i64 (List.length (cut a0 0 (mnI (List.length a0 : Int) 8)) : Int) ∧ ρ' 12 = .int .i64 s3.2 ∧ Gr w w') l5 ?_ ?_
    · skip
      exact ⟨r1, rfl, rfl, rfl, rfl, fB⟩
    · rintro s3 x9 ρ7 w8 ⟨r1, e3, e10, e11, e12, fB⟩ h
      unfold octet_Read.s0 at h
      refine cw_seq ?_
      refine cw_region ?_
      refine ol_val (v := .bool (decide (s3.2 < (List.length (cut a0 0 (mnI (List.length a0 : Int) 8)) : Int)))) (by exact xr_lss rfl e12 e11) rfl rfl rfl ?_
      refine ol_nil ?_
      refine cw_seq ?_
      rcases is h with ⟨c10, h⟩ | ⟨c10, h⟩
      · refine cw_condT rfl c10 ?_
        refine cw_skip ?_
        refine cw_seq ?_
        refine cw_block ?_
        refine cw_seq ?_
        refine cw_region ?_
        refine ol_val (v := .int .i64 s3.2) (by exact xr_move rfl e12) rfl rfl rfl ?_
        obtain ⟨g11, h⟩ := gs h
        refine ol_val (v := .pointer (some ⟨(sb (subv 1 V0_0 0 (Int.toNat (mnI (List.length a0 : Int) 8)))), so (subv 1 V0_0 0 (Int.toNat (mnI (List.length a0 : Int) 8))) + Int.toNat s3.2 * 1, none⟩)) (by exact xr_indexR (K := (kI .u8)) (v := subv 1 V0_0 0 (Int.toNat (mnI (List.length a0 : Int) 8))) rfl Try.underlying43 sz5 e10 r1 e12 g11.1 g11.2) rfl rfl rfl ?_
        refine ol_val (v := .int .u8 (ix (cut a0 0 (mnI (List.length a0 : Int) 8)) s3.2)) (by exact xr_load1 (v := .int .u8 (ix (cut a0 0 (mnI (List.length a0 : Int) 8)) s3.2)) rfl ag5 rfl (r1.elem g11.1 g11.2)) rfl rfl rfl ?_
        refine ol_val (v := .int .i64 s3.2) (by exact xr_assign rfl rfl) rfl rfl rfl ?_
        refine ol_val (v := .int .u8 (ix (cut a0 0 (mnI (List.length a0 : Int) 8)) s3.2)) (by exact xr_assign rfl rfl) rfl rfl rfl ?_
        refine ol_nil ?_
        refine cw_region ?_
        refine ol_val (v := .int .u64 s3.1) (by exact xr_move rfl e3) rfl rfl rfl ?_
        refine ol_val (v := .int .u8 (ix (cut a0 0 (mnI (List.length a0 : Int) 8)) s3.2)) (by exact xr_move rfl rfl) rfl rfl rfl ?_
        refine ol_val (v := .int .u64 (IntKind.u64.wrap (ix (cut a0 0 (mnI (List.length a0 : Int) 8)) s3.2))) (by exact xr_conv rfl Try.underlying5 Try.underlying22 rfl) rfl rfl rfl ?_
        refine ol_val (v := .int .i64 s3.2) (by exact xr_move rfl rfl) rfl rfl rfl ?_
        refine ol_val (v := .int .i64 (IntKind.i64.wrap (8 * s3.2))) (by exact xr_mul rfl rfl rfl) rfl rfl rfl ?_
        obtain ⟨g12, h⟩ := gs h
        refine ol_val (v := .int .u64 (shL .u64 (IntKind.u64.wrap (ix (cut a0 0 (mnI (List.length a0 : Int) 8)) s3.2)) (IntKind.i64.wrap (8 * s3.2)))) (by exact xr_shl rfl rfl rfl g12) rfl rfl rfl ?_
        refine ol_val (v := .int .u64 (bOr .u64 s3.1 (shL .u64 (IntKind.u64.wrap (ix (cut a0 0 (mnI (List.length a0 : Int) 8)) s3.2)) (IntKind.i64.wrap (8 * s3.2))))) (by exact xr_or rfl rfl rfl) rfl rfl rfl ?_
        refine ol_val (v := .int .u64 (bOr .u64 s3.1 (shL .u64 (IntKind.u64.wrap (ix (cut a0 0 (mnI (List.length a0 : Int) 8)) s3.2)) (IntKind.i64.wrap (8 * s3.2))))) (by exact xr_assign rfl rfl) rfl rfl rfl ?_
        refine ol_nil ?_
        refine blk_i ?_
        refine cw_region ?_
        refine ol_val (v := .int .i64 (IntKind.i64.wrap (s3.2 + 1))) (by exact xr_add rfl e12 rfl) rfl rfl rfl ?_
        refine ol_val (v := .int .i64 (IntKind.i64.wrap (s3.2 + 1))) (by exact xr_move rfl rfl) rfl rfl rfl ?_
        refine ol_nil ?_
        obtain rfl := Option.some.inj h
        refine lp_in ?_
        exact ⟨r1, rfl, e10, e11, rfl, fB⟩
      · refine cw_condF rfl c10 ?_
        refine cw_exit ?_
        repeat (first | with_reducible refine thn_e ?_ | with_reducible refine blk_e rfl ?_)
        obtain rfl := Option.some.inj h
        refine lp_exit ?_
        rintro rfl
        refine thn_x ?_
        exact ⟨e3, fB⟩
  · rintro ρ13 w14 ⟨e3, fB⟩
    have h := h6
    refine cw_seq ?_
    refine cw_region ?_
    refine ol_val (v := .int .u64 e4) (by exact xr_move rfl e3) rfl rfl rfl ?_
    refine ol_val (v := .int .u64 e4) (by exact xr_assign rfl rfl) rfl rfl rfl ?_
    refine ol_nil ?_
    refine cw_ret ?_
    repeat (first | with_reducible refine thn_r ?_ | with_reducible refine blk_r ?_)
    obtain rfl := Option.some.inj h
    refine fin_ret1 Try.results109 rfl ?_
    exact ⟨_, rfl, rfl, fB⟩
end Go.Proofs.Ytklhbaghbmndeaa

/- slices.Equal[[]byte,byte]: its model, and that the Go function computes it: written by gen.py. -/
set_option linter.unusedVariables false
namespace Go.Proofs.Ytklhbaghbmndeaa
open Go Go.Xw
def slices_Equal.s0 (fu : Nat) (a0 : List Int) (a1 : List Int) : Int → Option (Sum (Sum Bool Unit) Int) := fun s2 => (if (decide (s2 < (List.length a0 : Int))) = true then (if 0 ≤ s2 ∧ s2 < (List.length a0 : Int) then (if 0 ≤ s2 ∧ s2 < (List.length a1 : Int) then (if (!decide ((ix a0 s2) = (ix a1 s2))) = true then some (Sum.inl (Sum.inl (false))) else some (Sum.inr ((IntKind.i64.wrap (s2 + 1))))) else none) else none) else some (Sum.inl (Sum.inr ())))
def slices_Equal.f (fu : Nat) (a0 : List Int) (a1 : List Int) : Option Bool := (if (!decide ((List.length a0 : Int) = (List.length a1 : Int))) = true then some (false) else ((loopM (slices_Equal.s0 fu a0 a1) fu (0)).bind fun e3 => match e3 with | Sum.inl p => some p | Sum.inr x6 => some (true)))
set_option maxRecDepth 100000 in
set_option maxHeartbeats 400000 in
theorem slices_Equal.ok (fu : Nat) (w : World) (a0 : List Int) (V0_0 : Value) (R0_0 : Rd (kI .u8) w V0_0 a0) (a1 : List Int) (V1_0 : Value) (R1_0 : Rd (kI .u8) w V1_0 a1) (r : Bool) (h : slices_Equal.f fu a0 a1 = some r) :
    Calls Try.prog 110 (([V0_0, V1_0] : List Value).toArray) w (fun e w' => ∃ v, e = .returned v ∧ v = .bool r ∧ Gr w w') := by
  unfold slices_Equal.f at h
  have fB : Gr w w := Fr.refl _ _
  refine calls_cw Try.func110 rfl Try.ntmps110 rfl ?_
  refine cw_seq ?_
  refine cw_region ?_
  refine ol_val (v := .bool false) (by exact xr_assign rfl rfl) rfl rfl rfl ?_
  refine ol_nil ?_
  refine cw_seq ?_
  refine cw_seq ?_
  refine cw_region ?_
  refine ol_val (v := V0_0) (by exact xr_move rfl rfl) rfl rfl rfl ?_
  refine ol_val (v := .int .i64 (List.length a0 : Int)) (by exact xr_lenR rfl Try.underlying43 rfl (R0_0.gr fB)) rfl rfl rfl ?_
  refine ol_val (v := V1_0) (by exact xr_move rfl rfl) rfl rfl rfl ?_
  refine ol_val (v := .int .i64 (List.length a1 : Int)) (by exact xr_lenR rfl Try.underlying43 rfl (R1_0.gr fB)) rfl rfl rfl ?_
  refine ol_val (v := .bool (!decide ((List.length a0 : Int) = (List.length a1 : Int)))) (by exact xr_neI rfl Try.underlying3 rfl rfl rfl) rfl rfl rfl ?_
  refine ol_nil ?_
  rcases is h with ⟨c1, h⟩ | ⟨c1, h⟩
  · refine cw_condT rfl c1 ?_
    refine cw_seq ?_
    refine cw_region ?_
    refine ol_val (v := .bool false) (by exact xr_assign rfl rfl) rfl rfl rfl ?_
    refine ol_nil ?_
    refine cw_ret ?_
    repeat (first | with_reducible refine thn_r ?_ | with_reducible refine blk_r ?_)
    obtain rfl := Option.some.inj h
    refine fin_ret1 Try.results110 rfl ?_
    exact ⟨_, rfl, rfl, fB⟩
  · refine cw_condF rfl c1 ?_
    refine cw_skip ?_
    refine cw_seq ?_
    refine cw_seq ?_
    refine cw_region ?_
    refine ol_val (v := V0_0) (by exact xr_move rfl rfl) rfl rfl rfl ?_
    refine ol_val (v := .int .i64 (List.length a0 : Int)) (by exact xr_lenR rfl Try.underlying43 rfl (R0_0.gr fB)) rfl rfl rfl ?_
    refine ol_val (v := .int .i64 0) (by exact xr_move rfl rfl) rfl rfl rfl ?_
    refine ol_nil ?_
    obtain ⟨e3, l4, h5⟩ := bs h
    refine cw_mid (fun ρ' w' => ∃ x6, e3 = Sum.inr x6 ∧ Gr w w') ?_ ?_
    · refine cw_block ?_
      refine cw_round (fun (s2 : Int) ρ' w' => ρ' 0 = V0_0 ∧ ρ' 1 = V1_0 ∧ ρ' 12 = .int .i64 (List.length a0 : Int) ∧ ρ' 13 = .int .i64 s2 ∧ Gr w w') l4 ?_ ?_
      · skip
        exact ⟨rfl, rfl, rfl, rfl, fB⟩
      · rintro s2 x9 ρ7 w8 ⟨e0, e1, e12, e13, fB⟩ h
        unfold slices_Equal.s0 at h
        refine cw_seq ?_
        refine cw_region ?_
        refine ol_val (v := .bool (decide (s2 < (List.length a0 : Int)))) (by exact xr_lss rfl e13 e12) rfl rfl rfl ?_
        refine ol_nil ?_
        refine cw_seq ?_
        rcases is h with ⟨c10, h⟩ | ⟨c10, h⟩
        · refine cw_condT rfl c10 ?_
          refine cw_skip ?_
          refine cw_seq ?_
          refine cw_block ?_
          refine cw_seq ?_
          refine cw_region ?_
          refine ol_val (v := .int .i64 s2) (by exact xr_move rfl e13) rfl rfl rfl ?_
          refine ol_val (v := .int .i64 s2) (by exact xr_assign rfl rfl) rfl rfl rfl ?_
          refine ol_nil ?_
          refine cw_seq ?_
          obtain ⟨g11, h⟩ := gs h
          obtain ⟨g12, h⟩ := gs h
          refine cw_drawL 8 [fun vz wz => vz = (V0_0 : Value), fun vz wz => vz = (.int .i64 s2 : Value), fun vz wz => vz = (.pointer (some ⟨(sb V0_0), so V0_0 + Int.toNat s2 * 1, none⟩) : Value), fun vz wz => vz = (.int .u8 (ix a0 s2) : Value), fun vz wz => vz = (V1_0 : Value), fun vz wz => vz = (.int .i64 s2 : Value), fun vz wz => vz = (.pointer (some ⟨(sb V1_0), so V1_0 + Int.toNat s2 * 1, none⟩) : Value), fun vz wz => vz = (.int .u8 (ix a1 s2) : Value)] mo rfl ⟨fun _ _ _ h _ => h, fun _ _ _ h _ => h, fun _ _ _ h _ => h, fun _ _ _ h _ => h, fun _ _ _ h _ => h, fun _ _ _ h _ => h, fun _ _ _ h _ => h, fun _ _ _ h _ => h, trivial⟩ ?_ ?_
          · refine ⟨?_, ?_, ?_, ?_, ?_, ?_, ?_, ?_, trivial⟩
            · intro ρz wz hz hk hd
              exact sk_val (v := V0_0) (by exact xr_move rfl ((hk 0 rfl).trans e0)) rfl rfl
            · intro ρz wz hz hk hd
              exact sk_val (v := .int .i64 s2) (by exact xr_move rfl ((hk 5 rfl).trans rfl)) rfl rfl
            · intro ρz wz hz hk hd
              have d16 := hd 0 rfl 16 rfl
              have d17 := hd 1 rfl 17 rfl
              exact sk_val (by exact xr_indexR (K := (kI .u8)) (v := V0_0) rfl Try.underlying43 sz5 d16 (R0_0.gr (fB.gr hz)) d17 g11.1 g11.2) rfl rfl
            · intro ρz wz hz hk hd
              have d18 := hd 2 rfl 18 rfl
              exact sk_val (v := .int .u8 (ix a0 s2)) (by exact xr_load1 (v := .int .u8 (ix a0 s2)) rfl ag5 d18 ((R0_0.gr (fB.gr hz)).elem g11.1 g11.2)) rfl rfl
            · intro ρz wz hz hk hd
              exact sk_val (v := V1_0) (by exact xr_move rfl ((hk 1 rfl).trans e1)) rfl rfl
            · intro ρz wz hz hk hd
              exact sk_val (v := .int .i64 s2) (by exact xr_move rfl ((hk 5 rfl).trans rfl)) rfl rfl
            · intro ρz wz hz hk hd
              have d20 := hd 4 rfl 20 rfl
              have d21 := hd 5 rfl 21 rfl
              exact sk_val (by exact xr_indexR (K := (kI .u8)) (v := V1_0) rfl Try.underlying43 sz5 d20 (R1_0.gr (fB.gr hz)) d21 g12.1 g12.2) rfl rfl
            · intro ρz wz hz hk hd
              have d22 := hd 6 rfl 22 rfl
              exact sk_val (v := .int .u8 (ix a1 s2)) (by exact xr_load1 (v := .int .u8 (ix a1 s2)) rfl ag5 d22 ((R1_0.gr (fB.gr hz)).elem g12.1 g12.2)) rfl rfl
          · intro ρ13 w14 q15 hk hd
            have e0 := (hk 0 rfl).trans e0
            have e1 := (hk 1 rfl).trans e1
            have e12 := (hk 12 rfl).trans e12
            have e13 := (hk 13 rfl).trans e13
            have e19 := hd 3 rfl 19 rfl
            have e23 := hd 7 rfl 23 rfl
            have fB := fB.gr q15
            refine ol_val (v := .bool (!decide ((ix a0 s2) = (ix a1 s2)))) (by exact xr_neI rfl Try.underlying5 rfl e19 e23) rfl rfl rfl ?_
            refine ol_nil ?_
            rcases is h with ⟨c16, h⟩ | ⟨c16, h⟩
            · refine cw_condT rfl c16 ?_
              refine cw_seq ?_
              refine cw_region ?_
              refine ol_val (v := .bool false) (by exact xr_assign rfl rfl) rfl rfl rfl ?_
              refine ol_nil ?_
              refine cw_ret ?_
              repeat (first | with_reducible refine thn_r ?_ | with_reducible refine blk_r ?_)
              obtain rfl := Option.some.inj h
              refine lp_ret ?_
              rintro rfl
              repeat (first | with_reducible refine thn_r ?_ | with_reducible refine blk_r ?_)
              have h := h5
              obtain rfl := Option.some.inj h
              refine fin_ret1 Try.results110 rfl ?_
              exact ⟨_, rfl, rfl, fB⟩
            · refine cw_condF rfl c16 ?_
              refine cw_skip ?_
              refine blk_i ?_
              refine cw_region ?_
              refine ol_val (v := .int .i64 (IntKind.i64.wrap (s2 + 1))) (by exact xr_add rfl e13 rfl) rfl rfl rfl ?_
              refine ol_val (v := .int .i64 (IntKind.i64.wrap (s2 + 1))) (by exact xr_move rfl rfl) rfl rfl rfl ?_
              refine ol_nil ?_
              obtain rfl := Option.some.inj h
              refine lp_in ?_
              exact ⟨e0, e1, e12, rfl, fB⟩
        · refine cw_condF rfl c10 ?_
          refine cw_exit ?_
          repeat (first | with_reducible refine thn_e ?_ | with_reducible refine blk_e rfl ?_)
          obtain rfl := Option.some.inj h
          refine lp_exit ?_
          rintro rfl
          refine thn_x ?_
          exact ⟨_, rfl, fB⟩
    · rintro ρ17 w18 ⟨x6, rfl, fB⟩
      have h := h5
      refine cw_seq ?_
      refine cw_region ?_
      refine ol_val (v := .bool true) (by exact xr_assign rfl rfl) rfl rfl rfl ?_
      refine ol_nil ?_
      refine cw_ret ?_
      repeat (first | with_reducible refine thn_r ?_ | with_reducible refine blk_r ?_)
      obtain rfl := Option.some.inj h
      refine fin_ret1 Try.results110 rfl ?_
      exact ⟨_, rfl, rfl, fB⟩
end Go.Proofs.Ytklhbaghbmndeaa

/- rickyard/fate.Choose: its model, and that the Go function computes it: written by gen.py. -/
set_option linter.unusedVariables false
namespace Go.Proofs.Ytklhbaghbmndeaa
open Go Go.Xw
def fate_Choose.s0 (fu : Nat) (a1 : List Int) (t14 : (List S_api_Fate)) : ((List Int) × Int × (List Int)) → Option (Sum (Sum ((List Int) × Bool) ((List Int) × (List Int))) ((List Int) × Int × (List Int))) := fun s23 => (if (decide (s23.2.1 < (List.length t14 : Int))) = true then (if 0 ≤ s23.2.1 ∧ s23.2.1 < (List.length t14 : Int) then (if (0 : Int) ≤ (IntKind.i64.wrap (((ix t14 s23.2.1).At) * 8)) ∧ (IntKind.i64.wrap (((ix t14 s23.2.1).At) * 8)) ≤ (IntKind.i64.wrap ((IntKind.i64.wrap (((ix t14 s23.2.1).At) * 8)) + 8)) ∧ (IntKind.i64.wrap ((IntKind.i64.wrap (((ix t14 s23.2.1).At) * 8)) + 8)) ≤ (List.length a1 : Int) then ((octet_Read.f fu (cut a1 (IntKind.i64.wrap (((ix t14 s23.2.1).At) * 8)) (IntKind.i64.wrap ((IntKind.i64.wrap (((ix t14 s23.2.1).At) * 8)) + 8))) : Option Int).bind fun t60 => ((fate_choice.f fu (ix t14 s23.2.1) t60 : Option Int).bind fun t66 => (if (decide (t66 < 0)) = true then some (Sum.inl (Sum.inl ([], false))) else (if List.length s23.1 + List.length [t66] ≤ LIM then (if 0 ≤ (IntKind.i64.wrap (((ix t14 s23.2.1).At) * 8)) ∧ (IntKind.i64.wrap (((ix t14 s23.2.1).At) * 8)) ≤ (List.length s23.2.2 : Int) then (if Int.toNat (IntKind.i64.wrap (((ix t14 s23.2.1).At) * 8)) ≤ List.length s23.2.2 ∧ List.length s23.2.2 ≤ List.length s23.2.2 then some (Sum.inr ((s23.1 ++ [t66]), (IntKind.i64.wrap (s23.2.1 + 1)), (splL s23.2.2 (Int.toNat (IntKind.i64.wrap (((ix t14 s23.2.1).At) * 8))) (List.take (List.length s23.2.2 - Int.toNat (IntKind.i64.wrap (((ix t14 s23.2.1).At) * 8))) (cut a1 (IntKind.i64.wrap (((ix t14 s23.2.1).At) * 8)) (IntKind.i64.wrap ((IntKind.i64.wrap (((ix t14 s23.2.1).At) * 8)) + 8))))))) else none) else none) else none)))) else none) else none) else some (Sum.inl (Sum.inr (s23.1, s23.2.2))))
def fate_Choose.f (fu : Nat) (a0 : S_pmem_Device) (a1 : List Int) : Option ((List Int) × Bool) := ((pmem_Device_Image.f fu a0 : Option (List Int)).bind fun t4 => (if (!decide ((List.length a1 : Int) = (List.length t4 : Int))) = true then some ([], false) else ((pmem_Device_Fates.f fu a0 : Option (List S_api_Fate)).bind fun t14 => ((loopM (fate_Choose.s0 fu a1 t14) fu ([], 0, t4)).bind fun e24 => match e24 with | Sum.inl p => some p | Sum.inr x27 => ((slices_Equal.f fu x27.2 a1 : Option Bool).bind fun t107 => (if (!t107) = true then some ([], false) else some (x27.1, true)))))))
set_option maxRecDepth 100000 in
set_option maxHeartbeats 400000 in
theorem fate_Choose.ok (fu : Nat) (w : World) (a0 : S_pmem_Device) (G_0 : Nat) (V0_0 : Value) (R0_0 : Rd k_pmem_cell w V0_0 a0.cells) (V0_1 : Value) (R0_1 : Rd (kI .i64) w V0_1 a0.plan.list) (b_0 : Blk w G_0 139 [Seg.cell V0_0 R0_0.one, Seg.cell V0_1 R0_1.one, Seg.cell (.int .i64 a0.plan.at_), Seg.cell (.bool a0.off), Seg.cell (.bool a0.armed), Seg.cell (.int .i64 a0.left), Seg.cell (.int .i64 a0.steps)]) (a1 : List Int) (V1_0 : Value) (R1_0 : Rd (kI .u8) w V1_0 a1) (r : (List Int) × Bool) (h : fate_Choose.f fu a0 a1 = some r) :
    Calls Try.prog 63 (([.pointer (some ⟨G_0, 0, none⟩), V1_0] : List Value).toArray) w (fun e w' => ∃ v, e = .returned v ∧ ∃ u1 : Value, ∃ o2 : Own (kI .i64) 3 w' w.heap.size u1 r.1, v = .tuple #[u1, .bool r.2] ∧ Gr w w') := by
  unfold fate_Choose.f at h
  have fB : Gr w w := Fr.refl _ _
  refine calls_cw Try.func63 rfl Try.ntmps63 rfl ?_
  refine cw_seq ?_
  refine cw_region ?_
  refine ol_val (v := .slice none 0 0) (by exact xr_assign rfl rfl) rfl rfl rfl ?_
  refine ol_val (v := .bool false) (by exact xr_assign rfl rfl) rfl rfl rfl ?_
  refine ol_nil ?_
  refine cw_seq ?_
  refine cw_seq ?_
  refine cw_region ?_
  refine ol_val (v := .pointer (some ⟨G_0, 0, none⟩)) (by exact xr_move rfl rfl) rfl rfl rfl ?_
  refine ol_val (v := .bool false) (by exact xr_eqP (b := false) rfl Try.underlying30 rfl rfl (by simp) (by simp)) rfl rfl rfl ?_
  refine ol_nil ?_
  refine cw_condF rfl rfl ?_
  refine cw_skip ?_
  refine cw_seq ?_
  refine cw_region ?_
  refine ol_val (v := .pointer (some ⟨G_0, 0, none⟩)) (by exact xr_move rfl rfl) rfl rfl rfl ?_
  obtain ⟨t4, k5, h⟩ := bs h
  refine ol_op (by exact opv_call rfl cal33 (ac rfl an) (pmem_Device_Image.ok fu _ a0 G_0 V0_0 (R0_0) V0_1 (R0_1) b_0 _ k5)) rfl rfl rfl ?_
  rintro u6 w10 ⟨_, o7, rfl, q9⟩
  have a11 := OffRV.call R0_0 o7 rfl
  have a12 := OffRV.call R0_1 o7 rfl
  have o7 := Own.base o7 fB.size
  have b_0 := b_0.gr q9
  have R0_0 := R0_0.gr q9
  have R0_1 := R0_1.gr q9
  have fB := fB.gr q9
  refine ol_val (v := u6) (by exact xr_assign rfl rfl) rfl rfl rfl ?_
  refine ol_nil ?_
  refine cw_seq ?_
  refine cw_seq ?_
  refine cw_region ?_
  refine ol_val (v := V1_0) (by exact xr_move rfl rfl) rfl rfl rfl ?_
  refine ol_val (v := .int .i64 (List.length a1 : Int)) (by exact xr_lenR rfl Try.underlying43 rfl (R1_0.gr fB)) rfl rfl rfl ?_
  refine ol_val (v := u6) (by exact xr_move rfl rfl) rfl rfl rfl ?_
  refine ol_val (v := .int .i64 (List.length t4 : Int)) (by exact xr_lenR rfl Try.underlying43 rfl o7.rd) rfl rfl rfl ?_
  refine ol_val (v := .bool (!decide ((List.length a1 : Int) = (List.length t4 : Int)))) (by exact xr_neI rfl Try.underlying3 rfl rfl rfl) rfl rfl rfl ?_
  refine ol_nil ?_
  rcases is h with ⟨c13, h⟩ | ⟨c13, h⟩
  · refine cw_condT rfl c13 ?_
    refine cw_seq ?_
    refine cw_region ?_
    refine ol_val (v := .slice none 0 0) (by exact xr_assign rfl rfl) rfl rfl rfl ?_
    refine ol_val (v := .bool false) (by exact xr_assign rfl rfl) rfl rfl rfl ?_
    refine ol_nil ?_
    refine cw_ret ?_
    repeat (first | with_reducible refine thn_r ?_ | with_reducible refine blk_r ?_)
    obtain rfl := Option.some.inj h
    refine fin_ret2 Try.results63 rfl rfl ?_
    exact ⟨_, rfl, (.slice none 0 0), Own.nil _ _ _ _, rfl, fB⟩
  · refine cw_condF rfl c13 ?_
    refine cw_skip ?_
    refine cw_seq ?_
    refine cw_region ?_
    refine ol_val (v := .slice none 0 0) (by exact xr_assign rfl rfl) rfl rfl rfl ?_
    refine ol_nil ?_
    refine cw_seq ?_
    refine cw_seq ?_
    refine cw_region ?_
    refine ol_val (v := .pointer (some ⟨G_0, 0, none⟩)) (by exact xr_move rfl rfl) rfl rfl rfl ?_
    obtain ⟨t14, k15, h⟩ := bs h
    refine ol_op (by exact opv_call rfl cal40 (ac rfl an) (pmem_Device_Fates.ok fu _ a0 G_0 V0_0 (R0_0) V0_1 (R0_1) b_0 _ k15)) rfl rfl rfl ?_
    rintro u16 w20 ⟨_, o17, rfl, q19⟩
    have a21 := OffRV.call R0_0 o17 rfl
    have a22 := OffRV.call R0_1 o17 rfl
    have o17 := Own.base o17 fB.size
    have b_0 := b_0.gr q19
    have o7 := o7.gr q19
    have R0_0 := R0_0.gr q19
    have R0_1 := R0_1.gr q19
    have fB := fB.gr q19
    refine ol_val (v := .int .i64 (List.length t14 : Int)) (by exact xr_lenR rfl Try.underlying52 rfl o17.rd) rfl rfl rfl ?_
    refine ol_val (v := .int .i64 0) (by exact xr_move rfl rfl) rfl rfl rfl ?_
    refine ol_nil ?_
    obtain ⟨e24, l25, h26⟩ := bs h
    refine cw_mid (fun ρ' w' => ∃ x27, e24 = Sum.inr x27 ∧ ∃ v28 : Value, ∃ o7 : Own (kI .u8) 5 w' w.heap.size u6 x27.2, ∃ o29 : Own (kI .i64) 3 w' w.heap.size v28 x27.1, ∃ R0_0 : Rd k_pmem_cell w' V0_0 a0.cells, ∃ R0_1 : Rd (kI .i64) w' V0_1 a0.plan.list, OffRV V0_0 a0.cells v28 ∧ OffRV V0_1 a0.plan.list v28 ∧ ρ' 1 = V1_0 ∧ ρ' 6 = u6 ∧ ρ' 7 = v28 ∧ Blk w' G_0 139 [Seg.cell V0_0 R0_0.one, Seg.cell V0_1 R0_1.one, Seg.cell (.int .i64 a0.plan.at_), Seg.cell (.bool a0.off), Seg.cell (.bool a0.armed), Seg.cell (.int .i64 a0.left), Seg.cell (.int .i64 a0.steps)] ∧ Gr w w') ?_ ?_
    · refine cw_block ?_
      refine cw_round (fun (s23 : (List Int) × Int × (List Int)) ρ' w' => ∃ v33 : Value, ∃ o7 : Own (kI .u8) 5 w' w.heap.size u6 s23.2.2, ∃ o17 : Own k_api_Fate 55 w' w.heap.size u16 t14, ∃ o34 : Own (kI .i64) 3 w' w.heap.size v33 s23.1, ∃ R0_0 : Rd k_pmem_cell w' V0_0 a0.cells, ∃ R0_1 : Rd (kI .i64) w' V0_1 a0.plan.list, OffRV V0_0 a0.cells v33 ∧ OffRV V0_1 a0.plan.list v33 ∧ ρ' 1 = V1_0 ∧ ρ' 6 = u6 ∧ ρ' 7 = v33 ∧ ρ' 22 = u16 ∧ ρ' 23 = .int .i64 (List.length t14 : Int) ∧ ρ' 24 = .int .i64 s23.2.1 ∧ Blk w' G_0 139 [Seg.cell V0_0 R0_0.one, Seg.cell V0_1 R0_1.one, Seg.cell (.int .i64 a0.plan.at_), Seg.cell (.bool a0.off), Seg.cell (.bool a0.armed), Seg.cell (.int .i64 a0.left), Seg.cell (.int .i64 a0.steps)] ∧ Gr w w') l25 ?_ ?_
      · skip
        exact ⟨(.slice none 0 0), o7, o17, Own.nil _ _ _ _, R0_0, R0_1, (OffRV.nil _ _), (OffRV.nil _ _), rfl, rfl, rfl, rfl, rfl, rfl, b_0, fB⟩
      · rintro s23 x40 ρ38 w39 ⟨v33, o7, o17, o34, R0_0, R0_1, a36, a37, e1, e6, e7, e22, e23, e24, b_0, fB⟩ h
        unfold fate_Choose.s0 at h
        refine cw_seq ?_
        refine cw_region ?_
        refine ol_val (v := .bool (decide (s23.2.1 < (List.length t14 : Int)))) (by exact xr_lss rfl e24 e23) rfl rfl rfl ?_
        refine ol_nil ?_
        refine cw_seq ?_
        rcases is h with ⟨c41, h⟩ | ⟨c41, h⟩
        · refine cw_condT rfl c41 ?_
          refine cw_skip ?_
          refine cw_seq ?_
          refine cw_block ?_
          refine cw_seq ?_
          refine cw_region ?_
          obtain ⟨g42, h⟩ := gs h
          refine ol_val (v := .pointer (some ⟨(sb u16), so u16 + Int.toNat s23.2.1 * 5, none⟩)) (by exact xr_indexR (K := k_api_Fate) (v := u16) rfl Try.underlying52 sz55 e22 o17.rd e24 g42.1 g42.2) rfl rfl rfl ?_
          refine ol_val (v := aggV [Seg.cell (.int .i64 ((ix t14 s23.2.1).At)), Seg.cell (.int .u64 ((ix t14 s23.2.1).Lasts)), Seg.cell (.bool ((ix t14 s23.2.1).Flushed)), Seg.cell (.int .u64 ((ix t14 s23.2.1).Sent)), Seg.cell (.int .u64 ((ix t14 s23.2.1).Stored))]) (by exact xr_loadS (ss := [Seg.cell (.int .i64 ((ix t14 s23.2.1).At)), Seg.cell (.int .u64 ((ix t14 s23.2.1).Lasts)), Seg.cell (.bool ((ix t14 s23.2.1).Flushed)), Seg.cell (.int .u64 ((ix t14 s23.2.1).Sent)), Seg.cell (.int .u64 ((ix t14 s23.2.1).Stored))]) rfl ag55 sz55 rfl rfl (o17.rd.elem g42.1 g42.2)) rfl rfl rfl ?_
          refine ol_op (by exact opv_alloc (ss := [Seg.cell (.int .i64 (0 : Int)), Seg.cell (.int .u64 (0 : Int)), Seg.cell (.bool false), Seg.cell (.int .u64 (0 : Int)), Seg.cell (.int .u64 (0 : Int))]) rfl ze55 rfl) rfl rfl rfl ?_
          rintro _ w48 ⟨G43, rfl, b44, q45, z46⟩
          have n49 := b_0.ne z46
          have a50 := Own.off_new o17 z46
          have a51 := OffR.new R0_0 z46 rfl
          have a52 := OffR.new R0_1 z46 rfl
          have z46 := Nat.le_trans fB.size z46
          have b_0 := b_0.gr q45
          have o7 := o7.gr q45
          have o17 := o17.gr q45
          have o34 := o34.gr q45
          have R0_0 := R0_0.gr q45
          have R0_1 := R0_1.gr q45
          have fB := fB.gr q45
          have f54 := off_ty b44 o7 (by decide)
          have f55 := a50
          have f56 := off_ty b44 o34 (by decide)
          refine ol_op0 (by exact opv_store (ss' := [Seg.cell (.int .i64 ((ix t14 s23.2.1).At)), Seg.cell (.int .u64 ((ix t14 s23.2.1).Lasts)), Seg.cell (.bool ((ix t14 s23.2.1).Flushed)), Seg.cell (.int .u64 ((ix t14 s23.2.1).Sent)), Seg.cell (.int .u64 ((ix t14 s23.2.1).Stored))]) (xs := cellsOf [Seg.cell (.int .i64 ((ix t14 s23.2.1).At)), Seg.cell (.int .u64 ((ix t14 s23.2.1).Lasts)), Seg.cell (.bool ((ix t14 s23.2.1).Flushed)), Seg.cell (.int .u64 ((ix t14 s23.2.1).Sent)), Seg.cell (.int .u64 ((ix t14 s23.2.1).Stored))]) rfl sz55 rfl rfl rfl (len_cellsOf _) (one_cellsOf _) b44 (Spl.segs _ 0 5 [Seg.cell (.int .i64 ((ix t14 s23.2.1).At)), Seg.cell (.int .u64 ((ix t14 s23.2.1).Lasts)), Seg.cell (.bool ((ix t14 s23.2.1).Flushed)), Seg.cell (.int .u64 ((ix t14 s23.2.1).Sent)), Seg.cell (.int .u64 ((ix t14 s23.2.1).Stored))] rfl rfl)) rfl rfl ?_
          rintro _ w57 ⟨b44, q53⟩
          have b_0 := b_0.wr q53 n49
          have o7 := o7.wr q53 f54
          have o17 := o17.wr q53 f55
          have o34 := o34.wr q53 f56
          have R0_0 := R0_0.wr q53 a51
          have R0_1 := R0_1.wr q53 a52
          have fB := fB.wr q53 z46
          refine ol_nil ?_
          refine cw_seq ?_
          refine cw_region ?_
          refine ol_val (v := V1_0) (by exact xr_move rfl e1) rfl rfl rfl ?_
          refine ol_val (v := .pointer (some ⟨G43, 0, none⟩)) (by exact xr_fieldAddr (p := 0) (q := 0) rfl fl55_0 rfl) rfl rfl rfl ?_
          refine ol_val (v := .int .i64 ((ix t14 s23.2.1).At)) (by exact xr_load1 (v := .int .i64 ((ix t14 s23.2.1).At)) rfl ag3 rfl (b44.seg 0 rfl rfl)) rfl rfl rfl ?_
          refine ol_val (v := .int .i64 (IntKind.i64.wrap (((ix t14 s23.2.1).At) * 8))) (by exact xr_mul rfl rfl rfl) rfl rfl rfl ?_
          refine ol_val (v := .pointer (some ⟨G43, 0, none⟩)) (by exact xr_fieldAddr (p := 0) (q := 0) rfl fl55_0 rfl) rfl rfl rfl ?_
          refine ol_val (v := .int .i64 ((ix t14 s23.2.1).At)) (by exact xr_load1 (v := .int .i64 ((ix t14 s23.2.1).At)) rfl ag3 rfl (b44.seg 0 rfl rfl)) rfl rfl rfl ?_
          refine ol_val (v := .int .i64 (IntKind.i64.wrap (((ix t14 s23.2.1).At) * 8))) (by exact xr_mul rfl rfl rfl) rfl rfl rfl ?_
          refine ol_val (v := .int .i64 (IntKind.i64.wrap ((IntKind.i64.wrap (((ix t14 s23.2.1).At) * 8)) + 8))) (by exact xr_add rfl rfl rfl) rfl rfl rfl ?_
          obtain ⟨g59, h⟩ := gs h
          refine ol_val (v := subv 1 V1_0 (Int.toNat (IntKind.i64.wrap (((ix t14 s23.2.1).At) * 8))) (Int.toNat (IntKind.i64.wrap ((IntKind.i64.wrap (((ix t14 s23.2.1).At) * 8)) + 8)))) (by exact xr_slice_lh (K := (kI .u8)) (v := V1_0) rfl Try.underlying43 sz5 rfl (R1_0.gr fB) rfl rfl g59.1 g59.2.1 g59.2.2) rfl rfl rfl ?_
          have r58 : Rd (kI .u8) w57 (subv 1 V1_0 (Int.toNat (IntKind.i64.wrap (((ix t14 s23.2.1).At) * 8))) (Int.toNat (IntKind.i64.wrap ((IntKind.i64.wrap (((ix t14 s23.2.1).At) * 8)) + 8)))) (cut a1 (IntKind.i64.wrap (((ix t14 s23.2.1).At) * 8)) (IntKind.i64.wrap ((IntKind.i64.wrap (((ix t14 s23.2.1).At) * 8)) + 8))) := (R1_0.gr fB).cut (lo := (IntKind.i64.wrap (((ix t14 s23.2.1).At) * 8))) (hi := (IntKind.i64.wrap ((IntKind.i64.wrap (((ix t14 s23.2.1).At) * 8)) + 8))) g59.1 g59.2.1 g59.2.2
          refine ol_val (v := subv 1 V1_0 (Int.toNat (IntKind.i64.wrap (((ix t14 s23.2.1).At) * 8))) (Int.toNat (IntKind.i64.wrap ((IntKind.i64.wrap (((ix t14 s23.2.1).At) * 8)) + 8)))) (by exact xr_assign rfl rfl) rfl rfl rfl ?_
          refine ol_nil ?_
          refine cw_seq ?_
          obtain ⟨t60, k61, h⟩ := bs h
          refine cw_drawL 3 [fun vz wz => vz = (aggV [Seg.cell (.int .i64 ((ix t14 s23.2.1).At)), Seg.cell (.int .u64 ((ix t14 s23.2.1).Lasts)), Seg.cell (.bool ((ix t14 s23.2.1).Flushed)), Seg.cell (.int .u64 ((ix t14 s23.2.1).Sent)), Seg.cell (.int .u64 ((ix t14 s23.2.1).Stored))] : Value), fun vz wz => vz = (subv 1 V1_0 (Int.toNat (IntKind.i64.wrap (((ix t14 s23.2.1).At) * 8))) (Int.toNat (IntKind.i64.wrap ((IntKind.i64.wrap (((ix t14 s23.2.1).At) * 8)) + 8))) : Value), fun vz wz => vz = (.int .u64 t60 : Value)] mo rfl ⟨fun _ _ _ h _ => h, fun _ _ _ h _ => h, fun _ _ _ h _ => h, trivial⟩ ?_ ?_
          · refine ⟨?_, ?_, ?_, trivial⟩
            · intro ρz wz hz hk hd
              exact sk_val (by exact xr_loadS (ss := [Seg.cell (.int .i64 ((ix t14 s23.2.1).At)), Seg.cell (.int .u64 ((ix t14 s23.2.1).Lasts)), Seg.cell (.bool ((ix t14 s23.2.1).Flushed)), Seg.cell (.int .u64 ((ix t14 s23.2.1).Sent)), Seg.cell (.int .u64 ((ix t14 s23.2.1).Stored))]) rfl ag55 sz55 rfl ((hk 9 rfl).trans rfl) ((b44.gr hz).segs 0 5 rfl)) rfl rfl
            · intro ρz wz hz hk hd
              exact sk_val (by exact xr_move rfl ((hk 10 rfl).trans rfl)) rfl rfl
            · intro ρz wz hz hk hd
              have d38 := hd 1 rfl 38 rfl
              refine sk_op (by exact opv_call rfl cal109 (ac d38 an) (octet_Read.ok fu _ (cut a1 (IntKind.i64.wrap (((ix t14 s23.2.1).At) * 8)) (IntKind.i64.wrap ((IntKind.i64.wrap (((ix t14 s23.2.1).At) * 8)) + 8))) (subv 1 V1_0 (Int.toNat (IntKind.i64.wrap (((ix t14 s23.2.1).At) * 8))) (Int.toNat (IntKind.i64.wrap ((IntKind.i64.wrap (((ix t14 s23.2.1).At) * 8)) + 8)))) (r58.gr hz) _ k61)) rfl ?_
              rintro _ wy ⟨rfl, q62⟩
              exact ⟨rfl, q62⟩
          · intro ρ63 w64 q65 hk hd
            have e1 := (hk 1 rfl).trans e1
            have e6 := (hk 6 rfl).trans e6
            have e7 := (hk 7 rfl).trans e7
            have e9 := (hk 9 rfl).trans rfl
            have e10 := (hk 10 rfl).trans rfl
            have e22 := (hk 22 rfl).trans e22
            have e23 := (hk 23 rfl).trans e23
            have e24 := (hk 24 rfl).trans e24
            have e37 := hd 0 rfl 37 rfl
            have e39 := hd 2 rfl 39 rfl
            have b_0 := b_0.gr q65
            have b44 := b44.gr q65
            have o7 := o7.gr q65
            have o17 := o17.gr q65
            have o34 := o34.gr q65
            have R0_0 := R0_0.gr q65
            have R0_1 := R0_1.gr q65
            have r58 := r58.gr q65
            have fB := fB.gr q65
            obtain ⟨t66, k67, h⟩ := bs h
            refine ol_op (by exact opv_call rfl cal108 (ac e37 (ac e39 an)) (fate_choice.ok fu _ (ix t14 s23.2.1) t60 _ k67)) rfl rfl rfl ?_
            rintro _ w69 ⟨rfl, q68⟩
            have b_0 := b_0.gr q68
            have b44 := b44.gr q68
            have o7 := o7.gr q68
            have o17 := o17.gr q68
            have o34 := o34.gr q68
            have R0_0 := R0_0.gr q68
            have R0_1 := R0_1.gr q68
            have r58 := r58.gr q68
            have fB := fB.gr q68
            refine ol_val (v := .int .i64 t66) (by exact xr_assign rfl rfl) rfl rfl rfl ?_
            refine ol_nil ?_
            refine cw_seq ?_
            refine cw_seq ?_
            refine cw_region ?_
            refine ol_val (v := .int .i64 t66) (by exact xr_move rfl rfl) rfl rfl rfl ?_
            refine ol_val (v := .bool (decide (t66 < 0))) (by exact xr_lss rfl rfl rfl) rfl rfl rfl ?_
            refine ol_nil ?_
            rcases is h with ⟨c70, h⟩ | ⟨c70, h⟩
            · refine cw_condT rfl c70 ?_
              refine cw_seq ?_
              refine cw_region ?_
              refine ol_val (v := .slice none 0 0) (by exact xr_assign rfl rfl) rfl rfl rfl ?_
              refine ol_val (v := .bool false) (by exact xr_assign rfl rfl) rfl rfl rfl ?_
              refine ol_nil ?_
              refine cw_ret ?_
              repeat (first | with_reducible refine thn_r ?_ | with_reducible refine blk_r ?_)
              obtain rfl := Option.some.inj h
              refine lp_ret ?_
              rintro rfl
              repeat (first | with_reducible refine thn_r ?_ | with_reducible refine blk_r ?_)
              have h := h26
              obtain rfl := Option.some.inj h
              refine fin_ret2 Try.results63 rfl rfl ?_
              exact ⟨_, rfl, (.slice none 0 0), Own.nil _ _ _ _, rfl, fB⟩
            · refine cw_condF rfl c70 ?_
              refine cw_skip ?_
              refine cw_seq ?_
              refine cw_region ?_
              refine ol_val (v := v33) (by exact xr_move rfl e7) rfl rfl rfl ?_
              refine ol_val (v := .int .i64 t66) (by exact xr_move rfl rfl) rfl rfl rfl ?_
              refine ol_op (by exact opv_buildSlice (K := (kI .i64)) (xs := [t66]) (vals := [.int .i64 t66]) rfl Try.underlying25 el3 rfl rfl ⟨rfl, rfl, trivial⟩ rfl rfl rfl fB.size) rfl rfl rfl ?_
              rintro v71 w76 ⟨o73, q72, z74⟩
              have a77 := OffV.new o34 z74
              have a78 := OffRV.new R0_0 z74 rfl
              have a79 := OffRV.new R0_1 z74 rfl
              have a80 := OffRV.new r58 z74 rfl
              have b_0 := b_0.gr q72
              have b44 := b44.gr q72
              have o7 := o7.gr q72
              have o17 := o17.gr q72
              have o34 := o34.gr q72
              have R0_0 := R0_0.gr q72
              have R0_1 := R0_1.gr q72
              have r58 := r58.gr q72
              have fB := fB.gr q72
              obtain ⟨g85, h⟩ := gs h
              have f87 := off_ty b_0 o34 (by decide)
              have f88 := off_ty b44 o34 (by decide)
              have f89 := OffV.ty o7 o34 (by decide)
              have f90 := OffV.ty o17 o34 (by decide)
              have f91 := o34.geO
              refine ol_op (by exact opv_append (K := (kI .i64)) rfl Try.underlying25 el3 rfl rfl rfl rfl rfl o34 o73.rd g85 fB.size) rfl rfl rfl ?_
              rintro v81 w92 ⟨o82, q83, n84⟩
              have a93 := OffRV.app R0_0 a36 n84 rfl
              have a94 := OffRV.app R0_1 a37 n84 rfl
              have a95 := OffRV.app r58 (OffRV.cut (OffRV.call R1_0 o34 rfl)) n84 rfl
              have b_0 := b_0.wrO q83 f87
              have b44 := b44.wrO q83 f88
              have o7 := o7.wrV q83 f89
              have o17 := o17.wrV q83 f90
              have fB := fB.wrO q83 f91
              have R0_0 := R0_0.wrV q83 a36
              have R0_1 := R0_1.wrV q83 a37
              have r58 := r58.wrV q83 (OffRV.cut (OffRV.call R1_0 o34 rfl))
              refine ol_val (v := v81) (by exact xr_assign rfl rfl) rfl rfl rfl ?_
              refine ol_nil ?_
              refine cw_region ?_
              refine ol_val (v := u6) (by exact xr_move rfl e6) rfl rfl rfl ?_
              refine ol_val (v := .pointer (some ⟨G43, 0, none⟩)) (by exact xr_fieldAddr (p := 0) (q := 0) rfl fl55_0 e9) rfl rfl rfl ?_
              refine ol_val (v := .int .i64 ((ix t14 s23.2.1).At)) (by exact xr_load1 (v := .int .i64 ((ix t14 s23.2.1).At)) rfl ag3 rfl (b44.seg 0 rfl rfl)) rfl rfl rfl ?_
              refine ol_val (v := .int .i64 (IntKind.i64.wrap (((ix t14 s23.2.1).At) * 8))) (by exact xr_mul rfl rfl rfl) rfl rfl rfl ?_
              obtain ⟨g97, h⟩ := gs h
              refine ol_val (v := subv 1 u6 (Int.toNat (IntKind.i64.wrap (((ix t14 s23.2.1).At) * 8))) (List.length s23.2.2)) (by exact xr_slice_l (K := (kI .u8)) (v := u6) rfl Try.underlying43 sz5 rfl o7.rd rfl g97.1 g97.2) rfl rfl rfl ?_
              have r96 : Rd (kI .u8) w92 (subv 1 u6 (Int.toNat (IntKind.i64.wrap (((ix t14 s23.2.1).At) * 8))) (List.length s23.2.2)) (cut s23.2.2 (IntKind.i64.wrap (((ix t14 s23.2.1).At) * 8)) (List.length s23.2.2 : Int)) := o7.rd.cut (lo := (IntKind.i64.wrap (((ix t14 s23.2.1).At) * 8))) (hi := (List.length s23.2.2 : Int)) g97.1 g97.2 (Int.le_refl _)
              refine ol_val (v := subv 1 V1_0 (Int.toNat (IntKind.i64.wrap (((ix t14 s23.2.1).At) * 8))) (Int.toNat (IntKind.i64.wrap ((IntKind.i64.wrap (((ix t14 s23.2.1).At) * 8)) + 8)))) (by exact xr_move rfl e10) rfl rfl rfl ?_
              obtain ⟨g99, h⟩ := gs h
              have f100 := off_ty b_0 o7 (by decide)
              have f101 := OffV.ty o17 o7 (by decide)
              have f102 := OffV.ty o82 o7 (by decide)
              have f103 := o7.geO
              refine ol_op (by exact opv_copyCut rfl Try.underlying43 sz5 rfl rfl rfl rfl o7 g99.1 g99.2 r58) rfl rfl rfl ?_
              rintro _ w104 ⟨rfl, o7, q98⟩
              have b_0 := b_0.wrO q98 f100
              have o17 := o17.wrV q98 f101
              have o82 := o82.wrV q98 f102
              have fB := fB.wrO q98 f103
              have R0_0 := R0_0.wrV q98 a11
              have R0_1 := R0_1.wrV q98 a12
              refine ol_nil ?_
              refine blk_i ?_
              refine cw_region ?_
              refine ol_val (v := .int .i64 (IntKind.i64.wrap (s23.2.1 + 1))) (by exact xr_add rfl e24 rfl) rfl rfl rfl ?_
              refine ol_val (v := .int .i64 (IntKind.i64.wrap (s23.2.1 + 1))) (by exact xr_move rfl rfl) rfl rfl rfl ?_
              refine ol_nil ?_
              obtain rfl := Option.some.inj h
              refine lp_in ?_
              exact ⟨v81, o7, o17, o82, R0_0, R0_1, a93, a94, e1, e6, rfl, e22, e23, rfl, b_0, fB⟩
        · refine cw_condF rfl c41 ?_
          refine cw_exit ?_
          repeat (first | with_reducible refine thn_e ?_ | with_reducible refine blk_e rfl ?_)
          obtain rfl := Option.some.inj h
          refine lp_exit ?_
          rintro rfl
          refine thn_x ?_
          exact ⟨_, rfl, v33, o7, o34, R0_0, R0_1, a36, a37, e1, e6, e7, b_0, fB⟩
    · rintro ρ105 w106 ⟨x27, rfl, v28, o7, o29, R0_0, R0_1, a31, a32, e1, e6, e7, b_0, fB⟩
      have h := h26
      refine cw_seq ?_
      refine cw_seq ?_
      refine cw_region ?_
      refine ol_val (v := u6) (by exact xr_move rfl e6) rfl rfl rfl ?_
      refine ol_val (v := V1_0) (by exact xr_move rfl e1) rfl rfl rfl ?_
      obtain ⟨t107, k108, h⟩ := bs h
      refine ol_op (by exact opv_call rfl cal110 (ac rfl (ac rfl an)) (slices_Equal.ok fu _ x27.2 u6 (o7.rd) a1 V1_0 (R1_0.gr fB) _ k108)) rfl rfl rfl ?_
      rintro _ w110 ⟨rfl, q109⟩
      have b_0 := b_0.gr q109
      have o29 := o29.gr q109
      have R0_0 := R0_0.gr q109
      have R0_1 := R0_1.gr q109
      have fB := fB.gr q109
      refine ol_val (v := .bool (!t107)) (by exact xr_not rfl rfl) rfl rfl rfl ?_
      refine ol_nil ?_
      rcases is h with ⟨c111, h⟩ | ⟨c111, h⟩
      · refine cw_condT rfl c111 ?_
        refine cw_seq ?_
        refine cw_region ?_
        refine ol_val (v := .slice none 0 0) (by exact xr_assign rfl rfl) rfl rfl rfl ?_
        refine ol_val (v := .bool false) (by exact xr_assign rfl rfl) rfl rfl rfl ?_
        refine ol_nil ?_
        refine cw_ret ?_
        repeat (first | with_reducible refine thn_r ?_ | with_reducible refine blk_r ?_)
        obtain rfl := Option.some.inj h
        refine fin_ret2 Try.results63 rfl rfl ?_
        exact ⟨_, rfl, (.slice none 0 0), Own.nil _ _ _ _, rfl, fB⟩
      · refine cw_condF rfl c111 ?_
        refine cw_skip ?_
        refine cw_seq ?_
        refine cw_region ?_
        refine ol_val (v := v28) (by exact xr_move rfl e7) rfl rfl rfl ?_
        refine ol_val (v := v28) (by exact xr_assign rfl rfl) rfl rfl rfl ?_
        refine ol_val (v := .bool true) (by exact xr_assign rfl rfl) rfl rfl rfl ?_
        refine ol_nil ?_
        refine cw_ret ?_
        repeat (first | with_reducible refine thn_r ?_ | with_reducible refine blk_r ?_)
        obtain rfl := Option.some.inj h
        refine fin_ret2 Try.results63 rfl rfl ?_
        exact ⟨_, rfl, v28, o29, rfl, fB⟩
end Go.Proofs.Ytklhbaghbmndeaa

/- rickyard/rickyardlaw06.awake: its model, and that the Go function computes it: written by gen.py. -/
set_option linter.unusedVariables false
namespace Go.Proofs.Ytklhbaghbmndeaa
open Go Go.Xw
def rickyardlaw06_awake.f (fu : Nat) : Option Bool := ((pmem_New.f fu 1 : Option ((Option S_pmem_Device) × Int)).bind fun t1 => (Option.elim t1.1 (some (false)) (fun m8 => ((pmem_Device_Store.f fu m8 0 5 : Option (Int × S_pmem_Device)).bind fun t19 => ((pmem_Device_Flush.f fu t19.2 0 : Option (Int × S_pmem_Device)).bind fun t32 => ((pmem_Device_Store.f fu t32.2 0 6 : Option (Int × S_pmem_Device)).bind fun t45 => (if List.length [6] + 63 ≤ LIM then ((fate_Choose.f fu t45.2 ([6] ++ List.replicate 63 (0 : Int)) : Option ((List Int) × Bool)).bind fun t75 => ((((fate_Count.f fu t45.2 : Option Int).bind fun t85 => (if (decide (t85 = 3)) = true then (if t75.2 = true then (if (decide ((List.length t75.1 : Int) = 8)) = true then (if (0 : Int) < (List.length t75.1 : Int) then (if (decide ((ix t75.1 0) = 2)) = true then (if (1 : Int) < (List.length t75.1 : Int) then some ((decide ((ix t75.1 1) = 0))) else none) else some (false)) else none) else some (false)) else some (false)) else some (false))) : Option Bool).bind fun x83 => some (x83))) else none)))))))
set_option maxRecDepth 100000 in
set_option maxHeartbeats 400000 in
theorem rickyardlaw06_awake.ok (fu : Nat) (w : World)  (r : Bool) (h : rickyardlaw06_awake.f fu = some r) :
    Calls Try.prog 49 (([] : List Value).toArray) w (fun e w' => ∃ v, e = .returned v ∧ v = .bool r ∧ Gr w w') := by
  unfold rickyardlaw06_awake.f at h
  have fB : Gr w w := Fr.refl _ _
  refine calls_cw Try.func49 rfl Try.ntmps49 rfl ?_
  refine cw_seq ?_
  refine cw_region ?_
  refine ol_val (v := .bool false) (by exact xr_assign rfl rfl) rfl rfl rfl ?_
  refine ol_nil ?_
  refine cw_seq ?_
  refine cw_region ?_
  obtain ⟨t1, k2, h⟩ := bs h
  refine ol_op (by exact opv_call rfl cal26 (ac rfl an) (pmem_New.ok fu _ 1 _ k2)) rfl rfl rfl ?_
  rintro _ w6 ⟨u3, p4, rfl, q5⟩
  rcases en h with ⟨e7, h⟩ | ⟨m8, e7, h⟩
  · obtain rfl := p4.1 e7
    have fB := fB.gr q5
    refine ol_val (v := .tuple #[.pointer none, .int .i64 t1.2]) (by exact xr_move rfl rfl) rfl rfl rfl ?_
    refine ol_val (v := .pointer none) (by exact xr_extract rfl rfl rfl) rfl rfl rfl ?_
    refine ol_val (v := .int .i64 t1.2) (by exact xr_extract rfl rfl rfl) rfl rfl rfl ?_
    refine ol_val (v := .pointer none) (by exact xr_assign rfl rfl) rfl rfl rfl ?_
    refine ol_val (v := .int .i64 t1.2) (by exact xr_assign rfl rfl) rfl rfl rfl ?_
    refine ol_nil ?_
    refine cw_seq ?_
    refine cw_seq ?_
    refine cw_region ?_
    refine ol_val (v := .pointer none) (by exact xr_move rfl rfl) rfl rfl rfl ?_
    refine ol_val (v := .bool true) (by exact xr_eqP (b := true) rfl Try.underlying30 rfl rfl (by simp) (by simp)) rfl rfl rfl ?_
    refine ol_nil ?_
    refine cw_condT rfl rfl ?_
    refine cw_seq ?_
    refine cw_region ?_
    refine ol_val (v := .bool false) (by exact xr_assign rfl rfl) rfl rfl rfl ?_
    refine ol_nil ?_
    refine cw_ret ?_
    repeat (first | with_reducible refine thn_r ?_ | with_reducible refine blk_r ?_)
    obtain rfl := Option.some.inj h
    refine fin_ret1 Try.results49 rfl ?_
    exact ⟨_, rfl, rfl, fB⟩
  · skip
    obtain ⟨G9, u13, u16, o14, o17, rfl, z10, b11⟩ := p4.2 _ e7
    have o14 := Own.base o14 fB.size
    have o17 := Own.base o17 fB.size
    have z10 := Nat.le_trans fB.size z10
    have fB := fB.gr q5
    refine ol_val (v := .tuple #[.pointer (some ⟨G9, 0, none⟩), .int .i64 t1.2]) (by exact xr_move rfl rfl) rfl rfl rfl ?_
    refine ol_val (v := .pointer (some ⟨G9, 0, none⟩)) (by exact xr_extract rfl rfl rfl) rfl rfl rfl ?_
    refine ol_val (v := .int .i64 t1.2) (by exact xr_extract rfl rfl rfl) rfl rfl rfl ?_
    refine ol_val (v := .pointer (some ⟨G9, 0, none⟩)) (by exact xr_assign rfl rfl) rfl rfl rfl ?_
    refine ol_val (v := .int .i64 t1.2) (by exact xr_assign rfl rfl) rfl rfl rfl ?_
    refine ol_nil ?_
    refine cw_seq ?_
    refine cw_seq ?_
    refine cw_region ?_
    refine ol_val (v := .pointer (some ⟨G9, 0, none⟩)) (by exact xr_move rfl rfl) rfl rfl rfl ?_
    refine ol_val (v := .bool false) (by exact xr_eqP (b := false) rfl Try.underlying30 rfl rfl (by simp) (by simp)) rfl rfl rfl ?_
    refine ol_nil ?_
    refine cw_condF rfl rfl ?_
    refine cw_skip ?_
    refine cw_seq ?_
    refine cw_region ?_
    refine ol_val (v := .pointer (some ⟨G9, 0, none⟩)) (by exact xr_move rfl rfl) rfl rfl rfl ?_
    obtain ⟨t19, k20, h⟩ := bs h
    have c30 : ∀ k, (k = G9 ∨ some k = Value.ownBlock u13 ∨ some k = Value.ownBlock u16) → w.heap.size ≤ k := (cv_or (cv_eq z10) (cv_or (cv_own o14.geO) (cv_own o17.geO)))
    refine ol_op (by exact opv_call rfl cal28 (ac rfl (ac rfl (ac rfl an))) (pmem_Device_Store.ok fu _ m8 G9 u13 (Own.base o14 (Nat.zero_le _)) u16 (Own.base o17 (Nat.zero_le _)) b11 0 5 _ k20)) rfl rfl rfl ?_
    rintro _ w31 ⟨u22, u26, o23, m24, o27, m28, rfl, b11, q21⟩
    have o23 := Own.rebase o23 (fun g hg => (m24 g hg).elim (fun x => Nat.le_trans fB.size x) (c30 g))
    have o27 := Own.rebase o27 (fun g hg => (m28 g hg).elim (fun x => Nat.le_trans fB.size x) (c30 g))
    have fB := fB.call q21 (fun k h => .inl (c30 k h))
    refine ol_nil ?_
    refine cw_seq ?_
    refine cw_region ?_
    refine ol_val (v := .pointer (some ⟨G9, 0, none⟩)) (by exact xr_move rfl rfl) rfl rfl rfl ?_
    obtain ⟨t32, k33, h⟩ := bs h
    have c43 : ∀ k, (k = G9 ∨ some k = Value.ownBlock u22 ∨ some k = Value.ownBlock u26) → w.heap.size ≤ k := (cv_or (cv_eq z10) (cv_or (cv_own o23.geO) (cv_own o27.geO)))
    refine ol_op (by exact opv_call rfl cal29 (ac rfl (ac rfl an)) (pmem_Device_Flush.ok fu _ t19.2 G9 u22 (Own.base o23 (Nat.zero_le _)) u26 (Own.base o27 (Nat.zero_le _)) b11 0 _ k33)) rfl rfl rfl ?_
    rintro _ w44 ⟨u35, u39, o36, m37, o40, m41, rfl, b11, q34⟩
    have o36 := Own.rebase o36 (fun g hg => (m37 g hg).elim (fun x => Nat.le_trans fB.size x) (c43 g))
    have o40 := Own.rebase o40 (fun g hg => (m41 g hg).elim (fun x => Nat.le_trans fB.size x) (c43 g))
    have fB := fB.call q34 (fun k h => .inl (c43 k h))
    refine ol_nil ?_
    refine cw_seq ?_
    refine cw_region ?_
    refine ol_val (v := .pointer (some ⟨G9, 0, none⟩)) (by exact xr_move rfl rfl) rfl rfl rfl ?_
    obtain ⟨t45, k46, h⟩ := bs h
    have c56 : ∀ k, (k = G9 ∨ some k = Value.ownBlock u35 ∨ some k = Value.ownBlock u39) → w.heap.size ≤ k := (cv_or (cv_eq z10) (cv_or (cv_own o36.geO) (cv_own o40.geO)))
    refine ol_op (by exact opv_call rfl cal28 (ac rfl (ac rfl (ac rfl an))) (pmem_Device_Store.ok fu _ t32.2 G9 u35 (Own.base o36 (Nat.zero_le _)) u39 (Own.base o40 (Nat.zero_le _)) b11 0 6 _ k46)) rfl rfl rfl ?_
    rintro _ w57 ⟨u48, u52, o49, m50, o53, m54, rfl, b11, q47⟩
    have o49 := Own.rebase o49 (fun g hg => (m50 g hg).elim (fun x => Nat.le_trans fB.size x) (c56 g))
    have o53 := Own.rebase o53 (fun g hg => (m54 g hg).elim (fun x => Nat.le_trans fB.size x) (c56 g))
    have fB := fB.call q47 (fun k h => .inl (c56 k h))
    refine ol_nil ?_
    refine cw_seq ?_
    refine cw_region ?_
    refine ol_val (v := .pointer (some ⟨G9, 0, none⟩)) (by exact xr_move rfl rfl) rfl rfl rfl ?_
    refine ol_op (by exact opv_buildSlice (K := (kI .u8)) (xs := [6]) (vals := [.int .u8 6]) rfl Try.underlying43 el5 rfl rfl ⟨rfl, rfl, trivial⟩ rfl rfl rfl fB.size) rfl rfl rfl ?_
    rintro v58 w63 ⟨o60, q59, z61⟩
    have b11 := b11.gr q59
    have o49 := o49.gr q59
    have o53 := o53.gr q59
    have fB := fB.gr q59
    obtain ⟨g68, h⟩ := gs h
    have f70 := off_ty b11 o60 (by decide)
    have f71 := OffV.ty o49 o60 (by decide)
    have f72 := OffV.ty o53 o60 (by decide)
    have f73 := o60.geO
    refine ol_op (by exact opv_appendZ (n := 63) rfl Try.underlying43 Try.underlying3 el5 rfl rfl rfl o60 rfl g68 fB.size) rfl rfl rfl ?_
    rintro v64 w74 ⟨o65, q66, n67⟩
    have b11 := b11.wrO q66 f70
    have o49 := o49.wrV q66 f71
    have o53 := o53.wrV q66 f72
    have fB := fB.wrO q66 f73
    obtain ⟨t75, k76, h⟩ := bs h
    refine ol_op (by exact opv_call rfl cal63 (ac rfl (ac rfl an)) (fate_Choose.ok fu _ t45.2 G9 u48 (o49.rd) u52 (o53.rd) b11 ([6] ++ List.replicate 63 (0 : Int)) v64 (o65.rd) _ k76)) rfl rfl rfl ?_
    rintro _ w81 ⟨u77, o78, rfl, q80⟩
    have a82 := OffV.call o53 o78
    have o78 := Own.base o78 fB.size
    have b11 := b11.gr q80
    have o49 := o49.gr q80
    have o53 := o53.gr q80
    have fB := fB.gr q80
    refine ol_val (v := .tuple #[u77, .bool t75.2]) (by exact xr_move rfl rfl) rfl rfl rfl ?_
    refine ol_val (v := u77) (by exact xr_extract rfl rfl rfl) rfl rfl rfl ?_
    refine ol_val (v := .bool t75.2) (by exact xr_extract rfl rfl rfl) rfl rfl rfl ?_
    refine ol_val (v := u77) (by exact xr_assign rfl rfl) rfl rfl rfl ?_
    refine ol_val (v := .bool t75.2) (by exact xr_assign rfl rfl) rfl rfl rfl ?_
    refine ol_nil ?_
    refine cw_seq ?_
    obtain ⟨x83, j84, h⟩ := bs h
    refine cw_mid (fun ρ' w' => ρ' 0 = .bool x83 ∧ Gr w81 w') ?_ ?_
    · skip
      refine cw_region ?_
      refine ol_val (v := .pointer (some ⟨G9, 0, none⟩)) (by exact xr_move rfl rfl) rfl rfl rfl ?_
      obtain ⟨t85, k86, j84⟩ := bs j84
      refine ol_op (by exact opv_call rfl cal61 (ac rfl an) (fate_Count.ok fu _ t45.2 G9 u48 (o49.rd) u52 (o53.rd) b11 _ k86)) rfl rfl rfl ?_
      rintro _ w88 ⟨rfl, q87⟩
      have o78 := o78.gr q87
      have fB := fB.gr q87
      refine ol_val (v := .bool (decide (t85 = 3))) (by exact xr_eqI rfl Try.underlying3 rfl rfl rfl) rfl rfl rfl ?_
      refine ol_val (v := .bool (decide (t85 = 3))) (by exact xr_move rfl rfl) rfl rfl rfl ?_
      rcases is j84 with ⟨c89, j84⟩ | ⟨c89, j84⟩
      · skip
        refine ol_gval (v := .bool t75.2) (by exact xr_move rfl rfl) rfl rfl rfl rfl rfl c89 ?_
        refine ol_val (v := .bool t75.2) (by exact xr_pickT rfl rfl c89 rfl) rfl rfl rfl ?_
        refine ol_val (v := .bool t75.2) (by exact xr_move rfl rfl) rfl rfl rfl ?_
        rcases is j84 with ⟨c90, j84⟩ | ⟨c90, j84⟩
        · skip
          refine ol_gval (v := u77) (by exact xr_move rfl rfl) rfl rfl rfl rfl rfl c90 ?_
          refine ol_gval (v := .int .i64 (List.length t75.1 : Int)) (by exact xr_lenR rfl Try.underlying25 rfl o78.rd) rfl rfl rfl rfl rfl c90 ?_
          refine ol_gval (v := .bool (decide ((List.length t75.1 : Int) = 8))) (by exact xr_eqI rfl Try.underlying3 rfl rfl rfl) rfl rfl rfl rfl rfl c90 ?_
          refine ol_val (v := .bool (decide ((List.length t75.1 : Int) = 8))) (by exact xr_pickT rfl rfl c90 rfl) rfl rfl rfl ?_
          refine ol_val (v := .bool (decide ((List.length t75.1 : Int) = 8))) (by exact xr_move rfl rfl) rfl rfl rfl ?_
          rcases is j84 with ⟨c91, j84⟩ | ⟨c91, j84⟩
          · skip
            refine ol_gval (v := u77) (by exact xr_move rfl rfl) rfl rfl rfl rfl rfl c91 ?_
            obtain ⟨g92, j84⟩ := gs j84
            refine ol_gval (v := .pointer (some ⟨(sb u77), so u77 + Int.toNat 0 * 1, none⟩)) (by exact xr_indexR (K := (kI .i64)) (v := u77) rfl Try.underlying25 sz3 rfl o78.rd rfl (by decide) g92) rfl rfl rfl rfl rfl c91 ?_
            refine ol_gval (v := .int .i64 (ix t75.1 0)) (by exact xr_load1 (v := .int .i64 (ix t75.1 0)) rfl ag3 rfl (o78.rd.elem (by decide) g92)) rfl rfl rfl rfl rfl c91 ?_
            refine ol_gval (v := .bool (decide ((ix t75.1 0) = 2))) (by exact xr_eqI rfl Try.underlying3 rfl rfl rfl) rfl rfl rfl rfl rfl c91 ?_
            refine ol_val (v := .bool (decide ((ix t75.1 0) = 2))) (by exact xr_pickT rfl rfl c91 rfl) rfl rfl rfl ?_
            refine ol_val (v := .bool (decide ((ix t75.1 0) = 2))) (by exact xr_move rfl rfl) rfl rfl rfl ?_
            rcases is j84 with ⟨c93, j84⟩ | ⟨c93, j84⟩
            · skip
              refine ol_gval (v := u77) (by exact xr_move rfl rfl) rfl rfl rfl rfl rfl c93 ?_
              obtain ⟨g94, j84⟩ := gs j84
              refine ol_gval (v := .pointer (some ⟨(sb u77), so u77 + Int.toNat 1 * 1, none⟩)) (by exact xr_indexR (K := (kI .i64)) (v := u77) rfl Try.underlying25 sz3 rfl o78.rd rfl (by decide) g94) rfl rfl rfl rfl rfl c93 ?_
              refine ol_gval (v := .int .i64 (ix t75.1 1)) (by exact xr_load1 (v := .int .i64 (ix t75.1 1)) rfl ag3 rfl (o78.rd.elem (by decide) g94)) rfl rfl rfl rfl rfl c93 ?_
              refine ol_gval (v := .bool (decide ((ix t75.1 1) = 0))) (by exact xr_eqI rfl Try.underlying3 rfl rfl rfl) rfl rfl rfl rfl rfl c93 ?_
              refine ol_val (v := .bool (decide ((ix t75.1 1) = 0))) (by exact xr_pickT rfl rfl c93 rfl) rfl rfl rfl ?_
              refine ol_val (v := .bool (decide ((ix t75.1 1) = 0))) (by exact xr_assign rfl rfl) rfl rfl rfl ?_
              refine ol_nil ?_
              obtain rfl := Option.some.inj j84
              refine thn_i ?_
              exact ⟨rfl, q87⟩
            · skip
              refine ol_gskip rfl rfl rfl rfl rfl c93 ?_
              refine ol_gskip rfl rfl rfl rfl rfl c93 ?_
              refine ol_gskip rfl rfl rfl rfl rfl c93 ?_
              refine ol_gskip rfl rfl rfl rfl rfl c93 ?_
              refine ol_val (v := .bool false) (by exact xr_pickF rfl rfl c93 rfl) rfl rfl rfl ?_
              refine ol_val (v := .bool false) (by exact xr_assign rfl rfl) rfl rfl rfl ?_
              refine ol_nil ?_
              obtain rfl := Option.some.inj j84
              refine thn_i ?_
              exact ⟨rfl, q87⟩
          · skip
            refine ol_gskip rfl rfl rfl rfl rfl c91 ?_
            refine ol_gskip rfl rfl rfl rfl rfl c91 ?_
            refine ol_gskip rfl rfl rfl rfl rfl c91 ?_
            refine ol_gskip rfl rfl rfl rfl rfl c91 ?_
            refine ol_val (v := .bool false) (by exact xr_pickF rfl rfl c91 rfl) rfl rfl rfl ?_
            refine ol_val (v := .bool false) (by exact xr_move rfl rfl) rfl rfl rfl ?_
            refine ol_gskip rfl rfl rfl rfl rfl rfl ?_
            refine ol_gskip rfl rfl rfl rfl rfl rfl ?_
            refine ol_gskip rfl rfl rfl rfl rfl rfl ?_
            refine ol_gskip rfl rfl rfl rfl rfl rfl ?_
            refine ol_val (v := .bool false) (by exact xr_pickF rfl rfl rfl rfl) rfl rfl rfl ?_
            refine ol_val (v := .bool false) (by exact xr_assign rfl rfl) rfl rfl rfl ?_
            refine ol_nil ?_
            obtain rfl := Option.some.inj j84
            refine thn_i ?_
            exact ⟨rfl, q87⟩
        · skip
          refine ol_gskip rfl rfl rfl rfl rfl c90 ?_
          refine ol_gskip rfl rfl rfl rfl rfl c90 ?_
          refine ol_gskip rfl rfl rfl rfl rfl c90 ?_
          refine ol_val (v := .bool false) (by exact xr_pickF rfl rfl c90 rfl) rfl rfl rfl ?_
          refine ol_val (v := .bool false) (by exact xr_move rfl rfl) rfl rfl rfl ?_
          refine ol_gskip rfl rfl rfl rfl rfl rfl ?_
          refine ol_gskip rfl rfl rfl rfl rfl rfl ?_
          refine ol_gskip rfl rfl rfl rfl rfl rfl ?_
          refine ol_gskip rfl rfl rfl rfl rfl rfl ?_
          refine ol_val (v := .bool false) (by exact xr_pickF rfl rfl rfl rfl) rfl rfl rfl ?_
          refine ol_val (v := .bool false) (by exact xr_move rfl rfl) rfl rfl rfl ?_
          refine ol_gskip rfl rfl rfl rfl rfl rfl ?_
          refine ol_gskip rfl rfl rfl rfl rfl rfl ?_
          refine ol_gskip rfl rfl rfl rfl rfl rfl ?_
          refine ol_gskip rfl rfl rfl rfl rfl rfl ?_
          refine ol_val (v := .bool false) (by exact xr_pickF rfl rfl rfl rfl) rfl rfl rfl ?_
          refine ol_val (v := .bool false) (by exact xr_assign rfl rfl) rfl rfl rfl ?_
          refine ol_nil ?_
          obtain rfl := Option.some.inj j84
          refine thn_i ?_
          exact ⟨rfl, q87⟩
      · skip
        refine ol_gskip rfl rfl rfl rfl rfl c89 ?_
        refine ol_val (v := .bool false) (by exact xr_pickF rfl rfl c89 rfl) rfl rfl rfl ?_
        refine ol_val (v := .bool false) (by exact xr_move rfl rfl) rfl rfl rfl ?_
        refine ol_gskip rfl rfl rfl rfl rfl rfl ?_
        refine ol_gskip rfl rfl rfl rfl rfl rfl ?_
        refine ol_gskip rfl rfl rfl rfl rfl rfl ?_
        refine ol_val (v := .bool false) (by exact xr_pickF rfl rfl rfl rfl) rfl rfl rfl ?_
        refine ol_val (v := .bool false) (by exact xr_move rfl rfl) rfl rfl rfl ?_
        refine ol_gskip rfl rfl rfl rfl rfl rfl ?_
        refine ol_gskip rfl rfl rfl rfl rfl rfl ?_
        refine ol_gskip rfl rfl rfl rfl rfl rfl ?_
        refine ol_gskip rfl rfl rfl rfl rfl rfl ?_
        refine ol_val (v := .bool false) (by exact xr_pickF rfl rfl rfl rfl) rfl rfl rfl ?_
        refine ol_val (v := .bool false) (by exact xr_move rfl rfl) rfl rfl rfl ?_
        refine ol_gskip rfl rfl rfl rfl rfl rfl ?_
        refine ol_gskip rfl rfl rfl rfl rfl rfl ?_
        refine ol_gskip rfl rfl rfl rfl rfl rfl ?_
        refine ol_gskip rfl rfl rfl rfl rfl rfl ?_
        refine ol_val (v := .bool false) (by exact xr_pickF rfl rfl rfl rfl) rfl rfl rfl ?_
        refine ol_val (v := .bool false) (by exact xr_assign rfl rfl) rfl rfl rfl ?_
        refine ol_nil ?_
        obtain rfl := Option.some.inj j84
        refine thn_i ?_
        exact ⟨rfl, q87⟩
    · skip
      rintro ρ95 w96 ⟨e0, q97⟩
      have fB := fB.gr q97
      refine cw_ret ?_
      repeat (first | with_reducible refine thn_r ?_ | with_reducible refine blk_r ?_)
      obtain rfl := Option.some.inj h
      refine fin_ret1 Try.results49 e0 ?_
      exact ⟨_, rfl, rfl, fB⟩
end Go.Proofs.Ytklhbaghbmndeaa

/- rickyard/rickyardlaw05.Small: its model, and that the Go function computes it: written by gen.py. -/
set_option linter.unusedVariables false
namespace Go.Proofs.Ytklhbaghbmndeaa
open Go Go.Xw
def rickyardlaw05_Small.s0 (fu : Nat) (a0 : List S_rickyardlaw05_Act) : Int → Option (Sum (Sum Bool Unit) Int) := fun s2 => (if (decide (s2 < (List.length a0 : Int))) = true then (if 0 ≤ s2 ∧ s2 < (List.length a0 : Int) then (if (decide ((List.length ((ix a0 s2).L) : Int) > 40)) = true then some (Sum.inl (Sum.inl (false))) else some (Sum.inr ((IntKind.i64.wrap (s2 + 1))))) else none) else some (Sum.inl (Sum.inr ())))
def rickyardlaw05_Small.f (fu : Nat) (a0 : List S_rickyardlaw05_Act) (a1 : Int) : Option Bool := (if (decide ((List.length a0 : Int) > a1)) = true then some (false) else ((loopM (rickyardlaw05_Small.s0 fu a0) fu (0)).bind fun e3 => match e3 with | Sum.inl p => some p | Sum.inr x6 => some (true)))
set_option maxRecDepth 100000 in
set_option maxHeartbeats 400000 in
theorem rickyardlaw05_Small.ok (fu : Nat) (w : World) (a0 : List S_rickyardlaw05_Act) (V0_0 : Value) (R0_0 : RdN 4 D_rickyardlaw05_Act w V0_0 a0) (a1 : Int) (r : Bool) (h : rickyardlaw05_Small.f fu a0 a1 = some r) :
    Calls Try.prog 25 (([V0_0, .int .i64 a1] : List Value).toArray) w (fun e w' => ∃ v, e = .returned v ∧ v = .bool r ∧ Gr w w') := by
  unfold rickyardlaw05_Small.f at h
  have fB : Gr w w := Fr.refl _ _
  refine calls_cw Try.func25 rfl Try.ntmps25 rfl ?_
  refine cw_seq ?_
  refine cw_region ?_
  refine ol_val (v := .bool false) (by exact xr_assign rfl rfl) rfl rfl rfl ?_
  refine ol_nil ?_
  refine cw_seq ?_
  refine cw_seq ?_
  refine cw_region ?_
  refine ol_val (v := V0_0) (by exact xr_move rfl rfl) rfl rfl rfl ?_
  refine ol_val (v := .int .i64 (List.length a0 : Int)) (by exact xr_lenN rfl Try.underlying24 rfl (RdN.gr R0_0 D_rickyardlaw05_Act.gr fB)) rfl rfl rfl ?_
  refine ol_val (v := .int .i64 a1) (by exact xr_move rfl rfl) rfl rfl rfl ?_
  refine ol_val (v := .bool (decide ((List.length a0 : Int) > a1))) (by exact xr_gtr rfl rfl rfl) rfl rfl rfl ?_
  refine ol_nil ?_
  rcases is h with ⟨c1, h⟩ | ⟨c1, h⟩
  · refine cw_condT rfl c1 ?_
    refine cw_seq ?_
    refine cw_region ?_
    refine ol_val (v := .bool false) (by exact xr_assign rfl rfl) rfl rfl rfl ?_
    refine ol_nil ?_
    refine cw_ret ?_
    repeat (first | with_reducible refine thn_r ?_ | with_reducible refine blk_r ?_)
    obtain rfl := Option.some.inj h
    refine fin_ret1 Try.results25 rfl ?_
    exact ⟨_, rfl, rfl, fB⟩
  · refine cw_condF rfl c1 ?_
    refine cw_skip ?_
    refine cw_seq ?_
    refine cw_seq ?_
    refine cw_region ?_
    refine ol_val (v := .int .i64 0) (by exact xr_assign rfl rfl) rfl rfl rfl ?_
    refine ol_nil ?_
    obtain ⟨e3, l4, h5⟩ := bs h
    refine cw_mid (fun ρ' w' => ∃ x6, e3 = Sum.inr x6 ∧ Gr w w') ?_ ?_
    · refine cw_block ?_
      refine cw_round (fun (s2 : Int) ρ' w' => ρ' 0 = V0_0 ∧ ρ' 5 = .int .i64 s2 ∧ Gr w w') l4 ?_ ?_
      · skip
        exact ⟨rfl, rfl, fB⟩
      · rintro s2 x9 ρ7 w8 ⟨e0, e5, fB⟩ h
        unfold rickyardlaw05_Small.s0 at h
        refine cw_seq ?_
        refine cw_seq ?_
        refine cw_region ?_
        refine ol_val (v := .int .i64 s2) (by exact xr_move rfl e5) rfl rfl rfl ?_
        refine ol_val (v := V0_0) (by exact xr_move rfl e0) rfl rfl rfl ?_
        refine ol_val (v := .int .i64 (List.length a0 : Int)) (by exact xr_lenN rfl Try.underlying24 rfl (RdN.gr R0_0 D_rickyardlaw05_Act.gr fB)) rfl rfl rfl ?_
        refine ol_val (v := .bool (decide (s2 < (List.length a0 : Int)))) (by exact xr_lss rfl rfl rfl) rfl rfl rfl ?_
        refine ol_nil ?_
        rcases is h with ⟨c10, h⟩ | ⟨c10, h⟩
        · refine cw_condT rfl c10 ?_
          refine cw_skip ?_
          refine cw_seq ?_
          refine cw_block ?_
          refine cw_seq ?_
          refine cw_region ?_
          refine ol_val (v := V0_0) (by exact xr_move rfl e0) rfl rfl rfl ?_
          refine ol_val (v := .int .i64 s2) (by exact xr_move rfl e5) rfl rfl rfl ?_
          obtain ⟨g11, h⟩ := gs h
          refine ol_val (v := .pointer (some ⟨(sb V0_0), so V0_0 + Int.toNat s2 * 4, none⟩)) (by exact xr_indexN (v := V0_0) rfl Try.underlying24 sz39 rfl (RdN.gr R0_0 D_rickyardlaw05_Act.gr fB) rfl g11.1 g11.2) rfl rfl rfl ?_
          refine ol_val (v := .pointer (some ⟨(sb V0_0), so V0_0 + Int.toNat s2 * 4 + 3, none⟩)) (by exact xr_fieldAddr (p := so V0_0 + Int.toNat s2 * 4) (q := 3) rfl fl39_3 rfl) rfl rfl rfl ?_
          refine ol_val (v := cellAt w (sb V0_0) (so V0_0 + Int.toNat s2 * 4 + 3)) (by exact xr_load1 (v := cellAt w (sb V0_0) (so V0_0 + Int.toNat s2 * 4 + 3)) rfl ag25 rfl (At.segs (ss := [Seg.cell (.int .i64 ((ix a0 s2).Kind)), Seg.cell (.int .i64 ((ix a0 s2).At)), Seg.cell (.int .u64 ((ix a0 s2).W)), Seg.cell (cellAt w (sb V0_0) (so V0_0 + Int.toNat s2 * 4 + 3)) (N_rickyardlaw05_Act R0_0 g11.1 g11.2).2.one]) (At.gr (N_rickyardlaw05_Act R0_0 g11.1 g11.2).1 fB) 3 1 rfl)) rfl rfl rfl ?_
          refine ol_val (v := .int .i64 (List.length ((ix a0 s2).L) : Int)) (by exact xr_lenR rfl Try.underlying25 rfl ((N_rickyardlaw05_Act R0_0 g11.1 g11.2).2.gr fB)) rfl rfl rfl ?_
          refine ol_val (v := .bool (decide ((List.length ((ix a0 s2).L) : Int) > 40))) (by exact xr_gtr rfl rfl rfl) rfl rfl rfl ?_
          refine ol_nil ?_
          rcases is h with ⟨c12, h⟩ | ⟨c12, h⟩
          · refine cw_condT rfl c12 ?_
            refine cw_seq ?_
            refine cw_region ?_
            refine ol_val (v := .bool false) (by exact xr_assign rfl rfl) rfl rfl rfl ?_
            refine ol_nil ?_
            refine cw_ret ?_
            repeat (first | with_reducible refine thn_r ?_ | with_reducible refine blk_r ?_)
            obtain rfl := Option.some.inj h
            refine lp_ret ?_
            rintro rfl
            repeat (first | with_reducible refine thn_r ?_ | with_reducible refine blk_r ?_)
            have h := h5
            obtain rfl := Option.some.inj h
            refine fin_ret1 Try.results25 rfl ?_
            exact ⟨_, rfl, rfl, fB⟩
          · refine cw_condF rfl c12 ?_
            refine cw_skip ?_
            refine blk_i ?_
            refine cw_region ?_
            refine ol_val (v := .int .i64 s2) (by exact xr_move rfl e5) rfl rfl rfl ?_
            refine ol_val (v := .int .i64 (IntKind.i64.wrap (s2 + 1))) (by exact xr_add rfl rfl rfl) rfl rfl rfl ?_
            refine ol_val (v := .int .i64 (IntKind.i64.wrap (s2 + 1))) (by exact xr_assign rfl rfl) rfl rfl rfl ?_
            refine ol_nil ?_
            obtain rfl := Option.some.inj h
            refine lp_in ?_
            exact ⟨e0, rfl, fB⟩
        · refine cw_condF rfl c10 ?_
          refine cw_exit ?_
          repeat (first | with_reducible refine thn_e ?_ | with_reducible refine blk_e rfl ?_)
          obtain rfl := Option.some.inj h
          refine lp_exit ?_
          rintro rfl
          refine thn_x ?_
          exact ⟨_, rfl, fB⟩
    · rintro ρ13 w14 ⟨x6, rfl, fB⟩
      have h := h5
      refine cw_seq ?_
      refine cw_region ?_
      refine ol_val (v := .bool true) (by exact xr_assign rfl rfl) rfl rfl rfl ?_
      refine ol_nil ?_
      refine cw_ret ?_
      repeat (first | with_reducible refine thn_r ?_ | with_reducible refine blk_r ?_)
      obtain rfl := Option.some.inj h
      refine fin_ret1 Try.results25 rfl ?_
      exact ⟨_, rfl, rfl, fB⟩
end Go.Proofs.Ytklhbaghbmndeaa

/- rickyard/rickyardref01.Rest: its model, and that the Go function computes it: written by gen.py. -/
set_option linter.unusedVariables false
namespace Go.Proofs.Ytklhbaghbmndeaa
open Go Go.Xw
def rickyardref01_Rest.f (fu : Nat) (a0 : Int) (a1 : Int) : Option Int := (if a1 ≠ 0 then (if a1 ≠ 0 then some ((Int.tmod (IntKind.i64.wrap ((Int.tmod a0 a1) + a1)) a1)) else none) else none)
set_option maxRecDepth 100000 in
set_option maxHeartbeats 400000 in
theorem rickyardref01_Rest.ok (fu : Nat) (w : World) (a0 : Int) (a1 : Int) (r : Int) (h : rickyardref01_Rest.f fu a0 a1 = some r) :
    Calls Try.prog 27 (([.int .i64 a0, .int .i64 a1] : List Value).toArray) w (fun e w' => ∃ v, e = .returned v ∧ v = .int .i64 r ∧ Gr w w') := by
  unfold rickyardref01_Rest.f at h
  have fB : Gr w w := Fr.refl _ _
  refine calls_cw Try.func27 rfl Try.ntmps27 rfl ?_
  refine cw_seq ?_
  refine cw_region ?_
  refine ol_val (v := .int .i64 0) (by exact xr_assign rfl rfl) rfl rfl rfl ?_
  refine ol_nil ?_
  refine cw_seq ?_
  refine cw_region ?_
  refine ol_val (v := .int .i64 a0) (by exact xr_move rfl rfl) rfl rfl rfl ?_
  refine ol_val (v := .int .i64 a1) (by exact xr_move rfl rfl) rfl rfl rfl ?_
  obtain ⟨g1, h⟩ := gs h
  refine ol_val (v := .int .i64 (Int.tmod a0 a1)) (by exact xr_rem rfl rfl rfl g1) rfl rfl rfl ?_
  refine ol_val (v := .int .i64 a1) (by exact xr_move rfl rfl) rfl rfl rfl ?_
  refine ol_val (v := .int .i64 (IntKind.i64.wrap ((Int.tmod a0 a1) + a1))) (by exact xr_add rfl rfl rfl) rfl rfl rfl ?_
  refine ol_val (v := .int .i64 a1) (by exact xr_move rfl rfl) rfl rfl rfl ?_
  obtain ⟨g2, h⟩ := gs h
  refine ol_val (v := .int .i64 (Int.tmod (IntKind.i64.wrap ((Int.tmod a0 a1) + a1)) a1)) (by exact xr_rem rfl rfl rfl g2) rfl rfl rfl ?_
  refine ol_val (v := .int .i64 (Int.tmod (IntKind.i64.wrap ((Int.tmod a0 a1) + a1)) a1)) (by exact xr_assign rfl rfl) rfl rfl rfl ?_
  refine ol_nil ?_
  refine cw_ret ?_
  repeat (first | with_reducible refine thn_r ?_ | with_reducible refine blk_r ?_)
  obtain rfl := Option.some.inj h
  refine fin_ret1 Try.results27 rfl ?_
  exact ⟨_, rfl, rfl, fB⟩
end Go.Proofs.Ytklhbaghbmndeaa

/- (*rickyard/pmem.Device).Fence: its model, and that the Go function computes it: written by gen.py. -/
set_option linter.unusedVariables false
namespace Go.Proofs.Ytklhbaghbmndeaa
open Go Go.Xw
def pmem_Device_Fence.s0 (fu : Nat) (a0 : S_pmem_Device) : (Int × (List S_pmem_cell)) → Option (Sum (List S_pmem_cell) (Int × (List S_pmem_cell))) := fun s12 => (if (decide (s12.1 < (List.length a0.cells : Int))) = true then (if 0 ≤ s12.1 ∧ s12.1 < (List.length s12.2 : Int) then (((if (ix s12.2 s12.1).flushed = true then ((pmem_cell_keep__i0.f fu (ix s12.2 s12.1) ((ix s12.2 s12.1).sent) : Option S_pmem_cell).bind fun t31 => some ((List.set s12.2 (Int.toNat s12.1) t31))) else some (s12.2)) : Option (List S_pmem_cell)).bind fun x21 => some (Sum.inr ((IntKind.i64.wrap (s12.1 + 1)), x21))) else none) else some (Sum.inl (s12.2)))
def pmem_Device_Fence.f (fu : Nat) (a0 : S_pmem_Device) : Option (Int × S_pmem_Device) := ((pmem_Device_may.f fu a0 0 1 : Option Int).bind fun t7 => (if (!decide (t7 = 0)) = true then some (t7, a0) else ((loopM (pmem_Device_Fence.s0 fu a0) fu (0, a0.cells)).bind fun e13 => ((pmem_Device_step.f fu (⟨e13, a0.plan, a0.off, a0.armed, a0.left, a0.steps⟩ : S_pmem_Device) : Option S_pmem_Device).bind fun t43 => some (0, t43)))))
set_option maxRecDepth 100000 in
set_option maxHeartbeats 400000 in
theorem pmem_Device_Fence.ok (fu : Nat) (w : World) (a0 : S_pmem_Device) (G_0 : Nat) (V0_0 : Value) (O0_0 : Own k_pmem_cell 142 w 0 V0_0 a0.cells) (V0_1 : Value) (O0_1 : Own (kI .i64) 3 w 0 V0_1 a0.plan.list) (b_0 : Blk w G_0 139 [Seg.cell V0_0 O0_0.one, Seg.cell V0_1 O0_1.one, Seg.cell (.int .i64 a0.plan.at_), Seg.cell (.bool a0.off), Seg.cell (.bool a0.armed), Seg.cell (.int .i64 a0.left), Seg.cell (.int .i64 a0.steps)]) (r : Int × S_pmem_Device) (h : pmem_Device_Fence.f fu a0 = some r) :
    Calls Try.prog 30 (([.pointer (some ⟨G_0, 0, none⟩)] : List Value).toArray) w (fun e w' => ∃ v, e = .returned v ∧ ∃ u1 : Value, ∃ u4 : Value, ∃ o2 : Own k_pmem_cell 142 w' 0 u1 r.2.cells, ∃ m3 : ∀ g, Value.ownBlock u1 = some g → w.heap.size ≤ g ∨ (g = G_0 ∨ some g = Value.ownBlock V0_0 ∨ some g = Value.ownBlock V0_1), ∃ o5 : Own (kI .i64) 3 w' 0 u4 r.2.plan.list, ∃ m6 : ∀ g, Value.ownBlock u4 = some g → w.heap.size ≤ g ∨ (g = G_0 ∨ some g = Value.ownBlock V0_0 ∨ some g = Value.ownBlock V0_1), v = .int .i64 r.1 ∧ Blk w' G_0 139 [Seg.cell u1 o2.one, Seg.cell u4 o5.one, Seg.cell (.int .i64 r.2.plan.at_), Seg.cell (.bool r.2.off), Seg.cell (.bool r.2.armed), Seg.cell (.int .i64 r.2.left), Seg.cell (.int .i64 r.2.steps)] ∧ Fr (fun j => j = G_0 ∨ some j = Value.ownBlock V0_0 ∨ some j = Value.ownBlock V0_1) w w') := by
  unfold pmem_Device_Fence.f at h
  have fB : Fr (fun j => j = G_0 ∨ some j = Value.ownBlock V0_0 ∨ some j = Value.ownBlock V0_1) w w := Fr.refl _ _
  have M0_0 : ∀ g, Value.ownBlock V0_0 = some g → w.heap.size ≤ g ∨ (g = G_0 ∨ some g = Value.ownBlock V0_0 ∨ some g = Value.ownBlock V0_1) := fun g hg => .inr (.inr (.inl hg.symm))
  have M0_1 : ∀ g, Value.ownBlock V0_1 = some g → w.heap.size ≤ g ∨ (g = G_0 ∨ some g = Value.ownBlock V0_0 ∨ some g = Value.ownBlock V0_1) := fun g hg => .inr (.inr (.inr hg.symm))
  refine calls_cw Try.func30 rfl Try.ntmps30 rfl ?_
  refine cw_seq ?_
  refine cw_region ?_
  refine ol_val (v := .int .i64 0) (by exact xr_assign rfl rfl) rfl rfl rfl ?_
  refine ol_nil ?_
  refine cw_seq ?_
  refine cw_seq ?_
  refine cw_region ?_
  refine ol_val (v := .pointer (some ⟨G_0, 0, none⟩)) (by exact xr_move rfl rfl) rfl rfl rfl ?_
  obtain ⟨t7, k8, h⟩ := bs h
  refine ol_op (by exact opv_call rfl cal83 (ac rfl (ac rfl (ac rfl an))) (pmem_Device_may.ok fu _ a0 G_0 V0_0 (O0_0.rd) V0_1 (O0_1.rd) b_0 0 1 _ k8)) rfl rfl rfl ?_
  rintro _ w10 ⟨rfl, q9⟩
  have b_0 := b_0.gr q9
  have O0_0 := O0_0.gr q9
  have O0_1 := O0_1.gr q9
  have fB := fB.gr q9
  refine ol_val (v := .int .i64 t7) (by exact xr_assign rfl rfl) rfl rfl rfl ?_
  refine ol_nil ?_
  refine cw_seq ?_
  refine cw_region ?_
  refine ol_val (v := .int .i64 t7) (by exact xr_move rfl rfl) rfl rfl rfl ?_
  refine ol_val (v := .bool (!decide (t7 = 0))) (by exact xr_neI rfl Try.underlying31 rfl rfl rfl) rfl rfl rfl ?_
  refine ol_nil ?_
  rcases is h with ⟨c11, h⟩ | ⟨c11, h⟩
  · refine cw_condT rfl c11 ?_
    refine cw_seq ?_
    refine cw_region ?_
    refine ol_val (v := .int .i64 t7) (by exact xr_move rfl rfl) rfl rfl rfl ?_
    refine ol_val (v := .int .i64 t7) (by exact xr_assign rfl rfl) rfl rfl rfl ?_
    refine ol_nil ?_
    refine cw_ret ?_
    repeat (first | with_reducible refine thn_r ?_ | with_reducible refine blk_r ?_)
    obtain rfl := Option.some.inj h
    refine fin_ret1 Try.results30 rfl ?_
    exact ⟨_, rfl, V0_0, V0_1, O0_0, M0_0, O0_1, M0_1, rfl, b_0, fB⟩
  · refine cw_condF rfl c11 ?_
    refine cw_skip ?_
    refine cw_seq ?_
    refine cw_seq ?_
    refine cw_region ?_
    refine ol_val (v := .pointer (some ⟨G_0, 0, none⟩)) (by exact xr_move rfl rfl) rfl rfl rfl ?_
    refine ol_val (v := .pointer (some ⟨G_0, 0, none⟩)) (by exact xr_nilCheck rfl rfl) rfl rfl rfl ?_
    refine ol_val (v := .pointer (some ⟨G_0, 0, none⟩)) (by exact xr_fieldAddr (p := 0) (q := 0) rfl fl139_0 rfl) rfl rfl rfl ?_
    refine ol_val (v := V0_0) (by exact xr_load1 (v := V0_0) rfl ag135 rfl (b_0.seg 0 rfl rfl)) rfl rfl rfl ?_
    refine ol_val (v := .int .i64 (List.length a0.cells : Int)) (by exact xr_lenR rfl Try.underlying135 rfl O0_0.rd) rfl rfl rfl ?_
    refine ol_val (v := .int .i64 0) (by exact xr_move rfl rfl) rfl rfl rfl ?_
    refine ol_nil ?_
    obtain ⟨e13, l14, h15⟩ := bs h
    refine cw_mid (fun ρ' w' => ∃ O0_0 : Own k_pmem_cell 142 w' 0 V0_0 e13, ∃ O0_1 : Own (kI .i64) 3 w' 0 V0_1 a0.plan.list, ρ' 0 = .pointer (some ⟨G_0, 0, none⟩) ∧ Blk w' G_0 139 [Seg.cell V0_0 O0_0.one, Seg.cell V0_1 O0_1.one, Seg.cell (.int .i64 a0.plan.at_), Seg.cell (.bool a0.off), Seg.cell (.bool a0.armed), Seg.cell (.int .i64 a0.left), Seg.cell (.int .i64 a0.steps)] ∧ Fr (fun j => j = G_0 ∨ some j = Value.ownBlock V0_0 ∨ some j = Value.ownBlock V0_1) w w') ?_ ?_
    · refine cw_block ?_
      refine cw_round (fun (s12 : Int × (List S_pmem_cell)) ρ' w' => ∃ O0_0 : Own k_pmem_cell 142 w' 0 V0_0 s12.2, ∃ O0_1 : Own (kI .i64) 3 w' 0 V0_1 a0.plan.list, ρ' 0 = .pointer (some ⟨G_0, 0, none⟩) ∧ ρ' 15 = .int .i64 (List.length a0.cells : Int) ∧ ρ' 16 = .int .i64 s12.1 ∧ Blk w' G_0 139 [Seg.cell V0_0 O0_0.one, Seg.cell V0_1 O0_1.one, Seg.cell (.int .i64 a0.plan.at_), Seg.cell (.bool a0.off), Seg.cell (.bool a0.armed), Seg.cell (.int .i64 a0.left), Seg.cell (.int .i64 a0.steps)] ∧ Fr (fun j => j = G_0 ∨ some j = Value.ownBlock V0_0 ∨ some j = Value.ownBlock V0_1) w w') l14 ?_ ?_
      · skip
        exact ⟨O0_0, O0_1, rfl, rfl, rfl, b_0, fB⟩
      · rintro s12 x18 ρ16 w17 ⟨O0_0, O0_1, e0, e15, e16, b_0, fB⟩ h
        unfold pmem_Device_Fence.s0 at h
        refine cw_seq ?_
        refine cw_region ?_
        refine ol_val (v := .bool (decide (s12.1 < (List.length a0.cells : Int)))) (by exact xr_lss rfl e16 e15) rfl rfl rfl ?_
        refine ol_nil ?_
        refine cw_seq ?_
        rcases is h with ⟨c19, h⟩ | ⟨c19, h⟩
        · refine cw_condT rfl c19 ?_
          refine cw_skip ?_
          refine cw_seq ?_
          refine cw_block ?_
          refine cw_seq ?_
          refine cw_region ?_
          refine ol_val (v := .int .i64 s12.1) (by exact xr_move rfl e16) rfl rfl rfl ?_
          refine ol_val (v := .int .i64 s12.1) (by exact xr_assign rfl rfl) rfl rfl rfl ?_
          refine ol_nil ?_
          refine cw_seq ?_
          refine cw_region ?_
          refine ol_val (v := .pointer (some ⟨G_0, 0, none⟩)) (by exact xr_move rfl e0) rfl rfl rfl ?_
          refine ol_val (v := .pointer (some ⟨G_0, 0, none⟩)) (by exact xr_nilCheck rfl rfl) rfl rfl rfl ?_
          refine ol_val (v := .pointer (some ⟨G_0, 0, none⟩)) (by exact xr_fieldAddr (p := 0) (q := 0) rfl fl139_0 rfl) rfl rfl rfl ?_
          refine ol_val (v := V0_0) (by exact xr_load1 (v := V0_0) rfl ag135 rfl (b_0.seg 0 rfl rfl)) rfl rfl rfl ?_
          refine ol_val (v := .int .i64 s12.1) (by exact xr_move rfl rfl) rfl rfl rfl ?_
          obtain ⟨g20, h⟩ := gs h
          refine ol_val (v := .pointer (some ⟨(sb V0_0), so V0_0 + Int.toNat s12.1 * 4, none⟩)) (by exact xr_indexR (K := k_pmem_cell) (v := V0_0) rfl Try.underlying135 sz142 rfl O0_0.rd rfl g20.1 g20.2) rfl rfl rfl ?_
          refine ol_val (v := .pointer (some ⟨(sb V0_0), so V0_0 + Int.toNat s12.1 * 4, none⟩)) (by exact xr_assign rfl rfl) rfl rfl rfl ?_
          refine ol_nil ?_
          refine cw_seq ?_
          refine cw_region ?_
          refine ol_val (v := .pointer (some ⟨(sb V0_0), so V0_0 + Int.toNat s12.1 * 4, none⟩)) (by exact xr_move rfl rfl) rfl rfl rfl ?_
          refine ol_val (v := .pointer (some ⟨(sb V0_0), so V0_0 + Int.toNat s12.1 * 4, none⟩)) (by exact xr_nilCheck rfl rfl) rfl rfl rfl ?_
          refine ol_val (v := .pointer (some ⟨(sb V0_0), so V0_0 + Int.toNat s12.1 * 4 + 3, none⟩)) (by exact xr_fieldAddr (p := so V0_0 + Int.toNat s12.1 * 4) (q := 3) rfl fl142_3 rfl) rfl rfl rfl ?_
          refine ol_val (v := .bool ((ix s12.2 s12.1).flushed)) (by exact xr_load1 (v := .bool ((ix s12.2 s12.1).flushed)) rfl ag4 rfl (At.segs (ss := segs_pmem_cell (ix s12.2 s12.1)) (O0_0.rd.elem g20.1 g20.2) 3 1 rfl)) rfl rfl rfl ?_
          refine ol_nil ?_
          obtain ⟨x21, j22, h23⟩ := bs h
          refine cw_mid (fun ρ' w' => ∃ O0_0 : Own k_pmem_cell 142 w' 0 V0_0 x21, ∃ O0_1 : Own (kI .i64) 3 w' 0 V0_1 a0.plan.list, ρ' 0 = .pointer (some ⟨G_0, 0, none⟩) ∧ ρ' 15 = .int .i64 (List.length a0.cells : Int) ∧ ρ' 16 = .int .i64 s12.1 ∧ Blk w' G_0 139 [Seg.cell V0_0 O0_0.one, Seg.cell V0_1 O0_1.one, Seg.cell (.int .i64 a0.plan.at_), Seg.cell (.bool a0.off), Seg.cell (.bool a0.armed), Seg.cell (.int .i64 a0.left), Seg.cell (.int .i64 a0.steps)] ∧ Fr (fun j => j = G_0 ∨ some j = Value.ownBlock V0_0 ∨ some j = Value.ownBlock V0_1) w w') ?_ ?_
          · have h := j22
            rcases is h with ⟨c24, h⟩ | ⟨c24, h⟩
            · refine cw_condT rfl c24 ?_
              refine cw_region ?_
              refine ol_val (v := .pointer (some ⟨(sb V0_0), so V0_0 + Int.toNat s12.1 * 4, none⟩)) (by exact xr_move rfl rfl) rfl rfl rfl ?_
              refine ol_val (v := .pointer (some ⟨(sb V0_0), so V0_0 + Int.toNat s12.1 * 4, none⟩)) (by exact xr_move rfl rfl) rfl rfl rfl ?_
              refine ol_val (v := .pointer (some ⟨(sb V0_0), so V0_0 + Int.toNat s12.1 * 4, none⟩)) (by exact xr_nilCheck rfl rfl) rfl rfl rfl ?_
              refine ol_val (v := .pointer (some ⟨(sb V0_0), so V0_0 + Int.toNat s12.1 * 4 + 2, none⟩)) (by exact xr_fieldAddr (p := so V0_0 + Int.toNat s12.1 * 4) (q := 2) rfl fl142_2 rfl) rfl rfl rfl ?_
              refine ol_val (v := .int .u64 ((ix s12.2 s12.1).sent)) (by exact xr_load1 (v := .int .u64 ((ix s12.2 s12.1).sent)) rfl ag22 rfl (At.segs (ss := segs_pmem_cell (ix s12.2 s12.1)) (O0_0.rd.elem g20.1 g20.2) 2 1 rfl)) rfl rfl rfl ?_
              obtain ⟨t31, k32, h⟩ := bs h
              have f35 := off_ty b_0 O0_0 (by decide)
              have f36 := OffV.ty O0_1 O0_0 (by decide)
              obtain ⟨X25, Y26, h27, h28, b29, k30⟩ := Own.sub (K := k_pmem_cell) (i := s12.1) (ss := [Seg.cell (.int .u64 ((ix s12.2 s12.1).lasts)), Seg.cell (.int .u64 ((ix s12.2 s12.1).stored)), Seg.cell (.int .u64 ((ix s12.2 s12.1).sent)), Seg.cell (.bool ((ix s12.2 s12.1).flushed))]) O0_0 g20.1 g20.2 rfl
              refine ol_op (by exact opv_call rfl cal85 (ac (ptrE (q := List.length X25) rfl h27) (ac rfl an)) (pmem_cell_keep__i0.ok fu _ (ix s12.2 s12.1) (sb V0_0) 142 X25 Y26 b29 ((ix s12.2 s12.1).sent) _ k32)) rfl rfl rfl ?_
              rintro _ w38 ⟨rfl, b34, q33⟩
              have O0_0 := k30 _ t31 [Seg.cell (.int .u64 t31.lasts), Seg.cell (.int .u64 t31.stored), Seg.cell (.int .u64 t31.sent), Seg.cell (.bool t31.flushed)] rfl b34
              have q33 := fr_own q33 h28
              have b_0 := b_0.wrO q33 f35
              have O0_1 := O0_1.wrV q33 f36
              have fB := fB.wrM q33 M0_0
              refine ol_nil ?_
              obtain rfl := Option.some.inj h
              refine thn_i ?_
              exact ⟨O0_0, O0_1, e0, e15, e16, b_0, fB⟩
            · refine cw_condF rfl c24 ?_
              refine cw_skip ?_
              obtain rfl := Option.some.inj h
              refine thn_i ?_
              exact ⟨O0_0, O0_1, e0, e15, e16, b_0, fB⟩
          · rintro ρ39 w40 ⟨O0_0, O0_1, e0, e15, e16, b_0, fB⟩
            have h := h23
            refine blk_i ?_
            refine cw_region ?_
            refine ol_val (v := .int .i64 (IntKind.i64.wrap (s12.1 + 1))) (by exact xr_add rfl e16 rfl) rfl rfl rfl ?_
            refine ol_val (v := .int .i64 (IntKind.i64.wrap (s12.1 + 1))) (by exact xr_move rfl rfl) rfl rfl rfl ?_
            refine ol_nil ?_
            obtain rfl := Option.some.inj h
            refine lp_in ?_
            exact ⟨O0_0, O0_1, e0, e15, rfl, b_0, fB⟩
        · refine cw_condF rfl c19 ?_
          refine cw_exit ?_
          repeat (first | with_reducible refine thn_e ?_ | with_reducible refine blk_e rfl ?_)
          obtain rfl := Option.some.inj h
          refine lp_exit ?_
          rintro rfl
          refine thn_x ?_
          exact ⟨O0_0, O0_1, e0, b_0, fB⟩
    · rintro ρ41 w42 ⟨O0_0, O0_1, e0, b_0, fB⟩
      have h := h15
      refine cw_seq ?_
      refine cw_region ?_
      refine ol_val (v := .pointer (some ⟨G_0, 0, none⟩)) (by exact xr_move rfl e0) rfl rfl rfl ?_
      obtain ⟨t43, k44, h⟩ := bs h
      have c54 : ∀ k, (k = G_0 ∨ some k = Value.ownBlock V0_0 ∨ some k = Value.ownBlock V0_1) → (w.heap.size ≤ k ∨ (k = G_0 ∨ some k = Value.ownBlock V0_0 ∨ some k = Value.ownBlock V0_1)) := (cv_or (cv_eq (.inr (.inl rfl))) (cv_or (cv_own M0_0) (cv_own M0_1)))
      refine ol_op (by exact opv_call rfl cal84 (ac rfl an) (pmem_Device_step.ok fu _ (⟨e13, a0.plan, a0.off, a0.armed, a0.left, a0.steps⟩ : S_pmem_Device) G_0 V0_0 (Own.base O0_0 (Nat.zero_le _)) V0_1 (Own.base O0_1 (Nat.zero_le _)) b_0 _ k44)) rfl rfl rfl ?_
      rintro _ w55 ⟨u46, u50, o47, m48, o51, m52, rfl, b_0, q45⟩
      have m48 : ∀ g, Value.ownBlock u46 = some g → w.heap.size ≤ g ∨ (g = G_0 ∨ some g = Value.ownBlock V0_0 ∨ some g = Value.ownBlock V0_1) := fun g hg => (m48 g hg).elim (fun x => .inl (Nat.le_trans fB.size x)) (c54 g)
      have m52 : ∀ g, Value.ownBlock u50 = some g → w.heap.size ≤ g ∨ (g = G_0 ∨ some g = Value.ownBlock V0_0 ∨ some g = Value.ownBlock V0_1) := fun g hg => (m52 g hg).elim (fun x => .inl (Nat.le_trans fB.size x)) (c54 g)
      have fB := fB.call q45 c54
      refine ol_nil ?_
      refine cw_seq ?_
      refine cw_region ?_
      refine ol_val (v := .int .i64 0) (by exact xr_assign rfl rfl) rfl rfl rfl ?_
      refine ol_nil ?_
      refine cw_ret ?_
      repeat (first | with_reducible refine thn_r ?_ | with_reducible refine blk_r ?_)
      obtain rfl := Option.some.inj h
      refine fin_ret1 Try.results30 rfl ?_
      exact ⟨_, rfl, u46, u50, o47, m48, o51, m52, rfl, b_0, fB⟩
end Go.Proofs.Ytklhbaghbmndeaa

/- (*rickyard/pmem.cell).fate: its model, and that the Go function computes it: written by gen.py. -/
set_option linter.unusedVariables false
namespace Go.Proofs.Ytklhbaghbmndeaa
open Go Go.Xw
def pmem_cell_fate__r0.f (fu : Nat) (a0 : S_pmem_cell) (a1 : Int) : Option Int := (((if (decide ((Int.tmod a1 3) = 1)) = true then some ((decide ((Int.tmod a1 3) = 1))) else some ((decide ((Int.tmod a1 3) = (-2))))) : Option Bool).bind fun x1 => (((if x1 = true then (if a0.flushed = true then some (Sum.inl (a0.sent)) else some (Sum.inr ())) else (((if (decide ((Int.tmod a1 3) = 2)) = true then some ((decide ((Int.tmod a1 3) = 2))) else some ((decide ((Int.tmod a1 3) = (-1))))) : Option Bool).bind fun x13 => (if x13 = true then some (Sum.inl (a0.stored)) else some (Sum.inr ())))) : Option (Sum Int Unit)).bind fun x7 => match x7 with | Sum.inl p => some p | Sum.inr x10 => some (a0.lasts)))
set_option maxRecDepth 100000 in
set_option maxHeartbeats 400000 in
theorem pmem_cell_fate__r0.ok (fu : Nat) (w : World) (a0 : S_pmem_cell) (G_0 p_0 : Nat) (A_0 : At w G_0 p_0 (cellsOf [Seg.cell (.int .u64 a0.lasts), Seg.cell (.int .u64 a0.stored), Seg.cell (.int .u64 a0.sent), Seg.cell (.bool a0.flushed)])) (a1 : Int) (r : Int) (h : pmem_cell_fate__r0.f fu a0 a1 = some r) :
    Calls Try.prog 87 (([.pointer (some ⟨G_0, p_0, none⟩), .int .i64 a1] : List Value).toArray) w (fun e w' => ∃ v, e = .returned v ∧ v = .int .u64 r ∧ Gr w w') := by
  unfold pmem_cell_fate__r0.f at h
  have fB : Gr w w := Fr.refl _ _
  refine calls_cw Try.func87 rfl Try.ntmps87 rfl ?_
  refine cw_seq ?_
  refine cw_region ?_
  refine ol_val (v := .int .u64 0) (by exact xr_assign rfl rfl) rfl rfl rfl ?_
  refine ol_nil ?_
  refine cw_seq ?_
  refine cw_seq ?_
  refine cw_region ?_
  refine ol_val (v := .int .i64 a1) (by exact xr_move rfl rfl) rfl rfl rfl ?_
  refine ol_val (v := .int .i64 (Int.tmod a1 3)) (by exact xr_rem rfl rfl rfl (by decide)) rfl rfl rfl ?_
  refine ol_nil ?_
  refine cw_block ?_
  refine cw_seq ?_
  refine cw_seq ?_
  refine cw_region ?_
  refine ol_val (v := .bool (decide ((Int.tmod a1 3) = 1))) (by exact xr_eqI rfl Try.underlying3 rfl rfl rfl) rfl rfl rfl ?_
  refine ol_val (v := .bool (decide ((Int.tmod a1 3) = 1))) (by exact xr_assign rfl rfl) rfl rfl rfl ?_
  refine ol_nil ?_
  obtain ⟨x1, j2, h3⟩ := bs h
  refine cw_mid (fun ρ' w' => ρ' 0 = .pointer (some ⟨G_0, p_0, none⟩) ∧ ρ' 6 = .int .i64 (Int.tmod a1 3) ∧ ρ' 7 = .bool x1 ∧ Gr w w') ?_ ?_
  · have h := j2
    rcases is h with ⟨c4, h⟩ | ⟨c4, h⟩
    · refine cw_condT rfl c4 ?_
      refine cw_skip ?_
      obtain rfl := Option.some.inj h
      refine thn_i ?_
      exact ⟨rfl, rfl, rfl, fB⟩
    · refine cw_condF rfl c4 ?_
      refine cw_region ?_
      refine ol_val (v := .bool (decide ((Int.tmod a1 3) = (-2)))) (by exact xr_eqI rfl Try.underlying3 rfl rfl rfl) rfl rfl rfl ?_
      refine ol_val (v := .bool (decide ((Int.tmod a1 3) = (-2)))) (by exact xr_assign rfl rfl) rfl rfl rfl ?_
      refine ol_nil ?_
      obtain rfl := Option.some.inj h
      refine thn_i ?_
      exact ⟨rfl, rfl, rfl, fB⟩
  · rintro ρ5 w6 ⟨e0, e6, e7, fB⟩
    have h := h3
    obtain ⟨x7, j8, h9⟩ := bs h
    refine cw_mid (fun ρ' w' => ∃ x10, x7 = Sum.inr x10 ∧ ρ' 0 = .pointer (some ⟨G_0, p_0, none⟩) ∧ Gr w w') ?_ ?_
    · have h := j8
      rcases is h with ⟨c11, h⟩ | ⟨c11, h⟩
      · refine cw_condT e7 c11 ?_
        refine cw_seq ?_
        refine cw_region ?_
        refine ol_val (v := .pointer (some ⟨G_0, p_0, none⟩)) (by exact xr_move rfl e0) rfl rfl rfl ?_
        refine ol_val (v := .pointer (some ⟨G_0, p_0, none⟩)) (by exact xr_nilCheck rfl rfl) rfl rfl rfl ?_
        refine ol_val (v := .pointer (some ⟨G_0, p_0 + 3, none⟩)) (by exact xr_fieldAddr (p := p_0) (q := 3) rfl fl142_3 rfl) rfl rfl rfl ?_
        refine ol_val (v := .bool a0.flushed) (by exact xr_load1 (v := .bool a0.flushed) rfl ag4 rfl (At.segs (ss := [Seg.cell (.int .u64 a0.lasts), Seg.cell (.int .u64 a0.stored), Seg.cell (.int .u64 a0.sent), Seg.cell (.bool a0.flushed)]) (At.gr A_0 fB) 3 1 rfl)) rfl rfl rfl ?_
        refine ol_nil ?_
        rcases is h with ⟨c12, h⟩ | ⟨c12, h⟩
        · refine cw_condT rfl c12 ?_
          refine cw_seq ?_
          refine cw_region ?_
          refine ol_val (v := .pointer (some ⟨G_0, p_0, none⟩)) (by exact xr_move rfl e0) rfl rfl rfl ?_
          refine ol_val (v := .pointer (some ⟨G_0, p_0, none⟩)) (by exact xr_nilCheck rfl rfl) rfl rfl rfl ?_
          refine ol_val (v := .pointer (some ⟨G_0, p_0 + 2, none⟩)) (by exact xr_fieldAddr (p := p_0) (q := 2) rfl fl142_2 rfl) rfl rfl rfl ?_
          refine ol_val (v := .int .u64 a0.sent) (by exact xr_load1 (v := .int .u64 a0.sent) rfl ag22 rfl (At.segs (ss := [Seg.cell (.int .u64 a0.lasts), Seg.cell (.int .u64 a0.stored), Seg.cell (.int .u64 a0.sent), Seg.cell (.bool a0.flushed)]) (At.gr A_0 fB) 2 1 rfl)) rfl rfl rfl ?_
          refine ol_val (v := .int .u64 a0.sent) (by exact xr_assign rfl rfl) rfl rfl rfl ?_
          refine ol_nil ?_
          refine cw_ret ?_
          repeat (first | with_reducible refine thn_r ?_ | with_reducible refine blk_r ?_)
          obtain rfl := Option.some.inj h
          have h := h9
          obtain rfl := Option.some.inj h
          refine fin_ret1 Try.results87 rfl ?_
          exact ⟨_, rfl, rfl, fB⟩
        · refine cw_condF rfl c12 ?_
          refine cw_skip ?_
          obtain rfl := Option.some.inj h
          refine thn_i ?_
          exact ⟨_, rfl, e0, fB⟩
      · refine cw_condF e7 c11 ?_
        refine cw_seq ?_
        refine cw_seq ?_
        refine cw_region ?_
        refine ol_val (v := .bool (decide ((Int.tmod a1 3) = 2))) (by exact xr_eqI rfl Try.underlying3 rfl e6 rfl) rfl rfl rfl ?_
        refine ol_val (v := .bool (decide ((Int.tmod a1 3) = 2))) (by exact xr_assign rfl rfl) rfl rfl rfl ?_
        refine ol_nil ?_
        obtain ⟨x13, j14, h15⟩ := bs h
        refine cw_mid (fun ρ' w' => ρ' 0 = .pointer (some ⟨G_0, p_0, none⟩) ∧ ρ' 18 = .bool x13 ∧ Gr w w') ?_ ?_
        · have h := j14
          rcases is h with ⟨c16, h⟩ | ⟨c16, h⟩
          · refine cw_condT rfl c16 ?_
            refine cw_skip ?_
            obtain rfl := Option.some.inj h
            refine thn_i ?_
            exact ⟨e0, rfl, fB⟩
          · refine cw_condF rfl c16 ?_
            refine cw_region ?_
            refine ol_val (v := .bool (decide ((Int.tmod a1 3) = (-1)))) (by exact xr_eqI rfl Try.underlying3 rfl e6 rfl) rfl rfl rfl ?_
            refine ol_val (v := .bool (decide ((Int.tmod a1 3) = (-1)))) (by exact xr_assign rfl rfl) rfl rfl rfl ?_
            refine ol_nil ?_
            obtain rfl := Option.some.inj h
            refine thn_i ?_
            exact ⟨e0, rfl, fB⟩
        · rintro ρ17 w18 ⟨e0, e18, fB⟩
          have h := h15
          rcases is h with ⟨c19, h⟩ | ⟨c19, h⟩
          · refine cw_condT e18 c19 ?_
            refine cw_seq ?_
            refine cw_region ?_
            refine ol_val (v := .pointer (some ⟨G_0, p_0, none⟩)) (by exact xr_move rfl e0) rfl rfl rfl ?_
            refine ol_val (v := .pointer (some ⟨G_0, p_0, none⟩)) (by exact xr_nilCheck rfl rfl) rfl rfl rfl ?_
            refine ol_val (v := .pointer (some ⟨G_0, p_0 + 1, none⟩)) (by exact xr_fieldAddr (p := p_0) (q := 1) rfl fl142_1 rfl) rfl rfl rfl ?_
            refine ol_val (v := .int .u64 a0.stored) (by exact xr_load1 (v := .int .u64 a0.stored) rfl ag22 rfl (At.segs (ss := [Seg.cell (.int .u64 a0.lasts), Seg.cell (.int .u64 a0.stored), Seg.cell (.int .u64 a0.sent), Seg.cell (.bool a0.flushed)]) (At.gr A_0 fB) 1 1 rfl)) rfl rfl rfl ?_
            refine ol_val (v := .int .u64 a0.stored) (by exact xr_assign rfl rfl) rfl rfl rfl ?_
            refine ol_nil ?_
            refine cw_ret ?_
            repeat (first | with_reducible refine thn_r ?_ | with_reducible refine blk_r ?_)
            obtain rfl := Option.some.inj h
            have h := h9
            obtain rfl := Option.some.inj h
            refine fin_ret1 Try.results87 rfl ?_
            exact ⟨_, rfl, rfl, fB⟩
          · refine cw_condF e18 c19 ?_
            refine cw_skip ?_
            obtain rfl := Option.some.inj h
            refine thn_i ?_
            exact ⟨_, rfl, e0, fB⟩
    · rintro ρ20 w21 ⟨x10, rfl, e0, fB⟩
      have h := h9
      refine blk_i ?_
      refine cw_seq ?_
      refine cw_region ?_
      refine ol_val (v := .pointer (some ⟨G_0, p_0, none⟩)) (by exact xr_move rfl e0) rfl rfl rfl ?_
      refine ol_val (v := .pointer (some ⟨G_0, p_0, none⟩)) (by exact xr_nilCheck rfl rfl) rfl rfl rfl ?_
      refine ol_val (v := .pointer (some ⟨G_0, p_0 + 0, none⟩)) (by exact xr_fieldAddr (p := p_0) (q := 0) rfl fl142_0 rfl) rfl rfl rfl ?_
      refine ol_val (v := .int .u64 a0.lasts) (by exact xr_load1 (v := .int .u64 a0.lasts) rfl ag22 rfl (At.segs (ss := [Seg.cell (.int .u64 a0.lasts), Seg.cell (.int .u64 a0.stored), Seg.cell (.int .u64 a0.sent), Seg.cell (.bool a0.flushed)]) (At.gr A_0 fB) 0 1 rfl)) rfl rfl rfl ?_
      refine ol_val (v := .int .u64 a0.lasts) (by exact xr_assign rfl rfl) rfl rfl rfl ?_
      refine ol_nil ?_
      refine cw_ret ?_
      repeat (first | with_reducible refine thn_r ?_ | with_reducible refine blk_r ?_)
      obtain rfl := Option.some.inj h
      refine fin_ret1 Try.results87 rfl ?_
      exact ⟨_, rfl, rfl, fB⟩
end Go.Proofs.Ytklhbaghbmndeaa
