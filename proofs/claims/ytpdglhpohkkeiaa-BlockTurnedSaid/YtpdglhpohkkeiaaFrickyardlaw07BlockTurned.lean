/- rickyard/rickyardlaw07.BlockTurned: its model, and that the Go function computes it: written by gen.py. -/
import Derived.Test.YtpdglhpohkkeiaaBase
import Derived.Test.YtpdglhpohkkeiaaFrickyardlaw07awake
import Derived.Test.YtpdglhpohkkeiaaFblockSeal
import Derived.Test.YtpdglhpohkkeiaaFblockOpen
import Derived.Test.YtpdglhpohkkeiaaFblockKind
set_option linter.unusedVariables false
namespace Go.Proofs.Ytpdglhpohkkeiaa
open Go Go.Xw
def rickyardlaw07_BlockTurned.s0 (fu : Nat) (a2 : Arr 2 Int) (x43 : Int) : (Int × (List Int)) → Option (Sum (List Int) (Int × (List Int))) := fun s49 => (if (decide (s49.1 < 32)) = true then (if 0 ≤ s49.1 then (((if (decide ((bAnd .u32 (shR .u32 (Arr.get a2 1) s49.1) 1) = 1)) = true then (if 0 ≤ (IntKind.i64.wrap (Int.tdiv (IntKind.i64.wrap (x43 + s49.1)) 8)) ∧ (IntKind.i64.wrap (Int.tdiv (IntKind.i64.wrap (x43 + s49.1)) 8)) < (List.length s49.2 : Int) then (if 0 ≤ (Int.tmod (IntKind.i64.wrap (x43 + s49.1)) 8) then (if 0 ≤ (IntKind.i64.wrap (Int.tdiv (IntKind.i64.wrap (x43 + s49.1)) 8)) ∧ (IntKind.i64.wrap (Int.tdiv (IntKind.i64.wrap (x43 + s49.1)) 8)) < (List.length s49.2 : Int) then some ((List.set s49.2 (Int.toNat (IntKind.i64.wrap (Int.tdiv (IntKind.i64.wrap (x43 + s49.1)) 8))) (bXor .u8 (ix s49.2 (IntKind.i64.wrap (Int.tdiv (IntKind.i64.wrap (x43 + s49.1)) 8))) (shL .u8 1 (Int.tmod (IntKind.i64.wrap (x43 + s49.1)) 8))))) else none) else none) else none) else some (s49.2)) : Option (List Int)).bind fun x58 => some (Sum.inr ((IntKind.i64.wrap (s49.1 + 1)), x58))) else none) else some (Sum.inl (s49.2)))
def rickyardlaw07_BlockTurned.f (fu : Nat) (a0 : Int) (a1 : Arr 56 Int) (a2 : Arr 2 Int) : Option Bool := ((((rickyardlaw07_awake.f fu : Option Bool).bind fun t19 => (if (!t19) = true then some (true) else some ((decide ((Arr.get a2 1) = 0))))) : Option Bool).bind fun x17 => (if x17 = true then ((rickyardlaw07_awake.f fu : Option Bool).bind fun t28 => some (t28)) else ((block_Seal.f fu (IntKind.i64.wrap (1 + (Int.tmod (IntKind.i64.wrap a0) 255))) (IntKind.i64.wrap a0) (Arr.l a1) : Option ((List Int) × Bool)).bind fun t33 => (if (if (!t33.2) = true then true else (!decide ((List.length t33.1 : Int) = 64))) = true then some (false) else (((if (!decide ((Int.tmod (IntKind.i64.wrap (Arr.get a2 0)) 8) = 0)) = true then some ((IntKind.i64.wrap (32 + (Int.tmod (IntKind.i64.wrap (Arr.get a2 0)) 449)))) else some (0)) : Option Int).bind fun x43 => ((loopM (rickyardlaw07_BlockTurned.s0 fu a2 x43) fu (0, t33.1)).bind fun e50 => ((block_Open.f fu e50 : Option (Int × Int × (List Int) × Bool)).bind fun t75 => (((if (!t75.2.2.2) = true then (if (decide ((List.length t75.2.2.1 : Int) = 0)) = true then ((block_Kind.f fu e50 : Option Int).bind fun t86 => some ((decide (t86 = 0)))) else some (false)) else some (false)) : Option Bool).bind fun x82 => some (x82)))))))))
set_option maxRecDepth 100000 in
set_option maxHeartbeats 400000 in
theorem rickyardlaw07_BlockTurned.ok (fu : Nat) (w : World) (a0 : Int) (a1 : Arr 56 Int) (a2 : Arr 2 Int) (r : Bool) (h : rickyardlaw07_BlockTurned.f fu a0 a1 a2 = some r) :
    Calls Try.prog 7 (([.int .u8 a0, aggV [Kd.seg (kA 56 (kI .u8)) a1], aggV [Kd.seg (kA 2 (kI .u32)) a2]] : List Value).toArray) w (fun e w' => ∃ v, e = .returned v ∧ v = .bool r ∧ Gr w w') := by
  unfold rickyardlaw07_BlockTurned.f at h
  have fB : Gr w w := Fr.refl _ _
  refine calls_cw Try.func7 rfl Try.ntmps7 rfl ?_
  refine cw_seq ?_
  refine cw_region ?_
  refine ol_op (by exact opv_box (ss := [Kd.seg (kA 56 (kI .u8)) a1]) rfl rfl rfl) rfl rfl rfl ?_
  rintro _ w6 ⟨G1, rfl, b2, q3, z4⟩
  have z4 := Nat.le_trans fB.size z4
  have fB := fB.gr q3
  refine ol_op (by exact opv_box (ss := [Kd.seg (kA 2 (kI .u32)) a2]) rfl rfl rfl) rfl rfl rfl ?_
  rintro _ w12 ⟨G7, rfl, b8, q9, z10⟩
  have n13 := Blk.ne b2 z10
  have z10 := Nat.le_trans fB.size z10
  have b2 := b2.gr q9
  have fB := fB.gr q9
  refine ol_val (v := .bool false) (by exact xr_assign rfl rfl) rfl rfl rfl ?_
  refine ol_nil ?_
  refine cw_seq ?_
  refine cw_drawL 6 [fun vz wz => vz = (.pointer (some ⟨G7, 0 + Int.toNat 0 * 1, none⟩) : Value), fun vz wz => vz = (.int .u32 (Arr.get a2 0) : Value), fun vz wz => vz = (.int .i64 (IntKind.i64.wrap (Arr.get a2 0)) : Value), fun vz wz => vz = (.pointer (some ⟨G7, 0 + Int.toNat 1 * 1, none⟩) : Value), fun vz wz => vz = (.int .u32 (Arr.get a2 1) : Value), fun vz wz => vz = (.int .i64 (IntKind.i64.wrap (Arr.get a2 0)) : Value)] mo rfl ⟨fun _ _ _ h _ => h, fun _ _ _ h _ => h, fun _ _ _ h _ => h, fun _ _ _ h _ => h, fun _ _ _ h _ => h, fun _ _ _ h _ => h, trivial⟩ ?_ ?_
  · refine ⟨?_, ?_, ?_, ?_, ?_, ?_, trivial⟩
    · intro ρz wz hz hk hd
      exact sk_val (v := .pointer (some ⟨G7, 0 + Int.toNat 0 * 1, none⟩)) (by exact xr_indexA (p := 0) (s := 1) rfl Try.underlying52 sz51 ((hk 5 rfl).trans rfl) rfl (by decide) (by decide)) rfl rfl
    · intro ρz wz hz hk hd
      have d17 := hd 0 rfl 17 rfl
      exact sk_val (v := .int .u32 (Arr.get a2 0)) (by exact xr_load1 (v := .int .u32 (Arr.get a2 0)) rfl ag51 d17 (At.arr (a := a2) ((b8.gr hz).seg 0 rfl rfl) (by decide) (by decide))) rfl rfl
    · intro ρz wz hz hk hd
      have d18 := hd 1 rfl 18 rfl
      exact sk_val (v := .int .i64 (IntKind.i64.wrap (Arr.get a2 0))) (by exact xr_conv rfl Try.underlying51 Try.underlying3 d18) rfl rfl
    · intro ρz wz hz hk hd
      exact sk_val (v := .pointer (some ⟨G7, 0 + Int.toNat 1 * 1, none⟩)) (by exact xr_indexA (p := 0) (s := 1) rfl Try.underlying52 sz51 ((hk 5 rfl).trans rfl) rfl (by decide) (by decide)) rfl rfl
    · intro ρz wz hz hk hd
      have d20 := hd 3 rfl 20 rfl
      exact sk_val (v := .int .u32 (Arr.get a2 1)) (by exact xr_load1 (v := .int .u32 (Arr.get a2 1)) rfl ag51 d20 (At.arr (a := a2) ((b8.gr hz).seg 0 rfl rfl) (by decide) (by decide))) rfl rfl
    · intro ρz wz hz hk hd
      have d19 := hd 2 rfl 19 rfl
      exact sk_val (v := .int .i64 (IntKind.i64.wrap (Arr.get a2 0))) (by exact xr_assign rfl d19) rfl rfl
  · intro ρ14 w15 q16 hk hd
    have e0 := (hk 0 rfl).trans rfl
    have e4 := (hk 4 rfl).trans rfl
    have e7 := hd 5 rfl 7 rfl
    have e21 := hd 4 rfl 21 rfl
    have b2 := b2.gr q16
    have fB := fB.gr q16
    refine ol_val (v := .int .u32 (Arr.get a2 1)) (by exact xr_assign rfl e21) rfl rfl rfl ?_
    refine ol_nil ?_
    refine cw_seq ?_
    refine cw_seq ?_
    obtain ⟨x17, j18, h⟩ := bs h
    refine cw_mid (fun ρ' w' => ρ' 0 = .int .u8 a0 ∧ ρ' 4 = .pointer (some ⟨G1, 0, none⟩) ∧ ρ' 7 = .int .i64 (IntKind.i64.wrap (Arr.get a2 0)) ∧ ρ' 8 = .int .u32 (Arr.get a2 1) ∧ ρ' 27 = .bool x17 ∧ Gr w15 w') ?_ ?_
    · skip
      refine cw_region ?_
      obtain ⟨t19, k20, j18⟩ := bs j18
      refine ol_op (by exact opv_call rfl cal38 an (rickyardlaw07_awake.ok fu _ _ k20)) rfl rfl rfl ?_
      rintro _ w22 ⟨rfl, q21⟩
      have b2 := b2.gr q21
      have fB := fB.gr q21
      refine ol_val (v := .bool (!t19)) (by exact xr_not rfl rfl) rfl rfl rfl ?_
      refine ol_val (v := .bool (!t19)) (by exact xr_move rfl rfl) rfl rfl rfl ?_
      rcases is j18 with ⟨c23, j18⟩ | ⟨c23, j18⟩
      · skip
        refine ol_gskip rfl rfl rfl rfl rfl c23 ?_
        refine ol_gskip rfl rfl rfl rfl rfl c23 ?_
        refine ol_val (v := .bool true) (by exact xr_pickT rfl rfl c23 rfl) rfl rfl rfl ?_
        refine ol_nil ?_
        obtain rfl := Option.some.inj j18
        refine thn_i ?_
        exact ⟨e0, e4, e7, rfl, rfl, q21⟩
      · skip
        refine ol_gval (v := .int .u32 (Arr.get a2 1)) (by exact xr_move rfl rfl) rfl rfl rfl rfl rfl c23 ?_
        refine ol_gval (v := .bool (decide ((Arr.get a2 1) = 0))) (by exact xr_eqI rfl Try.underlying51 rfl rfl rfl) rfl rfl rfl rfl rfl c23 ?_
        refine ol_val (v := .bool (decide ((Arr.get a2 1) = 0))) (by exact xr_pickF rfl rfl c23 rfl) rfl rfl rfl ?_
        refine ol_nil ?_
        obtain rfl := Option.some.inj j18
        refine thn_i ?_
        exact ⟨e0, e4, e7, rfl, rfl, q21⟩
    · skip
      rintro ρ24 w25 ⟨e0, e4, e7, e8, e27, q26⟩
      have b2 := b2.gr q26
      have fB := fB.gr q26
      rcases is h with ⟨c27, h⟩ | ⟨c27, h⟩
      · refine cw_condT e27 c27 ?_
        refine cw_seq ?_
        refine cw_region ?_
        obtain ⟨t28, k29, h⟩ := bs h
        refine ol_op (by exact opv_call rfl cal38 an (rickyardlaw07_awake.ok fu _ _ k29)) rfl rfl rfl ?_
        rintro _ w31 ⟨rfl, q30⟩
        have fB := fB.gr q30
        refine ol_val (v := .bool t28) (by exact xr_assign rfl rfl) rfl rfl rfl ?_
        refine ol_nil ?_
        refine cw_ret ?_
        repeat (first | with_reducible refine thn_r ?_ | with_reducible refine blk_r ?_)
        obtain rfl := Option.some.inj h
        refine fin_ret1 Try.results7 rfl ?_
        exact ⟨_, rfl, rfl, fB⟩
      · refine cw_condF e27 c27 ?_
        refine cw_skip ?_
        refine cw_seq ?_
        refine cw_region ?_
        refine ol_val (v := .int .u8 a0) (by exact xr_move rfl e0) rfl rfl rfl ?_
        refine ol_val (v := .int .i64 (IntKind.i64.wrap a0)) (by exact xr_conv rfl Try.underlying5 Try.underlying3 rfl) rfl rfl rfl ?_
        refine ol_val (v := .int .i64 (Int.tmod (IntKind.i64.wrap a0) 255)) (by exact xr_rem rfl rfl rfl (by decide)) rfl rfl rfl ?_
        refine ol_val (v := .int .i64 (IntKind.i64.wrap (1 + (Int.tmod (IntKind.i64.wrap a0) 255)))) (by exact xr_add rfl rfl rfl) rfl rfl rfl ?_
        refine ol_val (v := .int .u8 a0) (by exact xr_move rfl e0) rfl rfl rfl ?_
        refine ol_val (v := .int .i64 (IntKind.i64.wrap a0)) (by exact xr_conv rfl Try.underlying5 Try.underlying3 rfl) rfl rfl rfl ?_
        refine ol_val (v := .slice (some ⟨G1, 0, none⟩) 56 56) (by exact xr_sliceArr rfl Try.underlying50 sz5 e4) rfl rfl rfl ?_
        have r32 : Rd (kI .u8) w25 (.slice (some ⟨G1, 0, none⟩) 56 56) (Arr.l a1) := Rd.arr (b2.seg 0 rfl rfl)
        obtain ⟨t33, k34, h⟩ := bs h
        refine ol_op (by exact opv_call rfl cal39 (ac rfl (ac rfl (ac rfl an))) (block_Seal.ok fu _ (IntKind.i64.wrap (1 + (Int.tmod (IntKind.i64.wrap a0) 255))) (IntKind.i64.wrap a0) (Arr.l a1) (.slice (some ⟨G1, 0, none⟩) 56 56) (r32) _ k34)) rfl rfl rfl ?_
        rintro _ w39 ⟨u35, o36, rfl, q38⟩
        have o36 := Own.base o36 fB.size
        have fB := fB.gr q38
        refine ol_val (v := .tuple #[u35, .bool t33.2]) (by exact xr_move rfl rfl) rfl rfl rfl ?_
        refine ol_val (v := u35) (by exact xr_extract rfl rfl rfl) rfl rfl rfl ?_
        refine ol_val (v := .bool t33.2) (by exact xr_extract rfl rfl rfl) rfl rfl rfl ?_
        refine ol_val (v := u35) (by exact xr_assign rfl rfl) rfl rfl rfl ?_
        refine ol_val (v := .bool t33.2) (by exact xr_assign rfl rfl) rfl rfl rfl ?_
        refine ol_nil ?_
        refine cw_seq ?_
        refine cw_seq ?_
        refine cw_mid (fun ρ' w' => ρ' 7 = .int .i64 (IntKind.i64.wrap (Arr.get a2 0)) ∧ ρ' 8 = .int .u32 (Arr.get a2 1) ∧ ρ' 9 = u35 ∧ ρ' 46 = .bool (if (!t33.2) = true then true else (!decide ((List.length t33.1 : Int) = 64))) ∧ w39 = w') ?_ ?_
        · skip
          refine cw_region ?_
          refine ol_val (v := .bool t33.2) (by exact xr_move rfl rfl) rfl rfl rfl ?_
          refine ol_val (v := .bool (!t33.2)) (by exact xr_not rfl rfl) rfl rfl rfl ?_
          refine ol_val (v := .bool (!t33.2)) (by exact xr_move rfl rfl) rfl rfl rfl ?_
          rcases bt (!t33.2) with c40 | c40
          · skip
            refine ol_gskip rfl rfl rfl rfl rfl c40 ?_
            refine ol_gskip rfl rfl rfl rfl rfl c40 ?_
            refine ol_gskip rfl rfl rfl rfl rfl c40 ?_
            refine ol_val (v := .bool true) (by exact xr_pickT rfl rfl c40 rfl) rfl rfl rfl ?_
            refine ol_nil ?_
            refine thn_i ?_
            exact ⟨e7, e8, rfl, (rfl).trans (congrArg (fun z => (.bool z : Value)) (show true = (if (!t33.2) = true then true else (!decide ((List.length t33.1 : Int) = 64))) from by rw [ite_t c40])), rfl⟩
          · skip
            refine ol_gval (v := u35) (by exact xr_move rfl rfl) rfl rfl rfl rfl rfl c40 ?_
            refine ol_gval (v := .int .i64 (List.length t33.1 : Int)) (by exact xr_lenR rfl Try.underlying38 rfl o36.rd) rfl rfl rfl rfl rfl c40 ?_
            refine ol_gval (v := .bool (!decide ((List.length t33.1 : Int) = 64))) (by exact xr_neI rfl Try.underlying3 rfl rfl rfl) rfl rfl rfl rfl rfl c40 ?_
            refine ol_val (v := .bool (!decide ((List.length t33.1 : Int) = 64))) (by exact xr_pickF rfl rfl c40 rfl) rfl rfl rfl ?_
            refine ol_nil ?_
            refine thn_i ?_
            exact ⟨e7, e8, rfl, (rfl).trans (congrArg (fun z => (.bool z : Value)) (show (!decide ((List.length t33.1 : Int) = 64)) = (if (!t33.2) = true then true else (!decide ((List.length t33.1 : Int) = 64))) from by rw [ite_f c40])), rfl⟩
        · skip
          rintro ρ41 _ ⟨e7, e8, e9, e46, rfl⟩
          rcases is h with ⟨c42, h⟩ | ⟨c42, h⟩
          · refine cw_condT e46 c42 ?_
            refine cw_seq ?_
            refine cw_region ?_
            refine ol_val (v := .bool false) (by exact xr_assign rfl rfl) rfl rfl rfl ?_
            refine ol_nil ?_
            refine cw_ret ?_
            repeat (first | with_reducible refine thn_r ?_ | with_reducible refine blk_r ?_)
            obtain rfl := Option.some.inj h
            refine fin_ret1 Try.results7 rfl ?_
            exact ⟨_, rfl, rfl, fB⟩
          · refine cw_condF e46 c42 ?_
            refine cw_skip ?_
            refine cw_seq ?_
            refine cw_region ?_
            refine ol_val (v := .int .i64 0) (by exact xr_assign rfl rfl) rfl rfl rfl ?_
            refine ol_nil ?_
            refine cw_seq ?_
            refine cw_seq ?_
            refine cw_region ?_
            refine ol_val (v := .int .i64 (IntKind.i64.wrap (Arr.get a2 0))) (by exact xr_move rfl e7) rfl rfl rfl ?_
            refine ol_val (v := .int .i64 (Int.tmod (IntKind.i64.wrap (Arr.get a2 0)) 8)) (by exact xr_rem rfl rfl rfl (by decide)) rfl rfl rfl ?_
            refine ol_val (v := .bool (!decide ((Int.tmod (IntKind.i64.wrap (Arr.get a2 0)) 8) = 0))) (by exact xr_neI rfl Try.underlying3 rfl rfl rfl) rfl rfl rfl ?_
            refine ol_nil ?_
            obtain ⟨x43, j44, h45⟩ := bs h
            refine cw_mid (fun ρ' w' => Own (kI .u8) 5 w' w.heap.size u35 t33.1 ∧ ρ' 8 = .int .u32 (Arr.get a2 1) ∧ ρ' 9 = u35 ∧ ρ' 11 = .int .i64 x43 ∧ Gr w w') ?_ ?_
            · have h := j44
              rcases is h with ⟨c46, h⟩ | ⟨c46, h⟩
              · refine cw_condT rfl c46 ?_
                refine cw_region ?_
                refine ol_val (v := .int .i64 (IntKind.i64.wrap (Arr.get a2 0))) (by exact xr_move rfl e7) rfl rfl rfl ?_
                refine ol_val (v := .int .i64 (Int.tmod (IntKind.i64.wrap (Arr.get a2 0)) 449)) (by exact xr_rem rfl rfl rfl (by decide)) rfl rfl rfl ?_
                refine ol_val (v := .int .i64 (IntKind.i64.wrap (32 + (Int.tmod (IntKind.i64.wrap (Arr.get a2 0)) 449)))) (by exact xr_add rfl rfl rfl) rfl rfl rfl ?_
                refine ol_val (v := .int .i64 (IntKind.i64.wrap (32 + (Int.tmod (IntKind.i64.wrap (Arr.get a2 0)) 449)))) (by exact xr_assign rfl rfl) rfl rfl rfl ?_
                refine ol_nil ?_
                obtain rfl := Option.some.inj h
                refine thn_i ?_
                exact ⟨o36, e8, e9, rfl, fB⟩
              · refine cw_condF rfl c46 ?_
                refine cw_skip ?_
                obtain rfl := Option.some.inj h
                refine thn_i ?_
                exact ⟨o36, e8, e9, rfl, fB⟩
            · rintro ρ47 w48 ⟨o36, e8, e9, e11, fB⟩
              have h := h45
              refine cw_seq ?_
              refine cw_seq ?_
              refine cw_region ?_
              refine ol_val (v := .int .i64 0) (by exact xr_assign rfl rfl) rfl rfl rfl ?_
              refine ol_nil ?_
              obtain ⟨e50, l51, h52⟩ := bs h
              refine cw_mid (fun ρ' w' => Own (kI .u8) 5 w' w.heap.size u35 e50 ∧ ρ' 9 = u35 ∧ Gr w w') ?_ ?_
              · refine cw_block ?_
                refine cw_round (fun (s49 : Int × (List Int)) ρ' w' => Own (kI .u8) 5 w' w.heap.size u35 s49.2 ∧ ρ' 8 = .int .u32 (Arr.get a2 1) ∧ ρ' 9 = u35 ∧ ρ' 11 = .int .i64 x43 ∧ ρ' 12 = .int .i64 s49.1 ∧ Gr w w') l51 ?_ ?_
                · skip
                  exact ⟨o36, e8, e9, e11, rfl, fB⟩
                · rintro s49 x55 ρ53 w54 ⟨o36, e8, e9, e11, e12, fB⟩ h
                  unfold rickyardlaw07_BlockTurned.s0 at h
                  refine cw_seq ?_
                  refine cw_seq ?_
                  refine cw_region ?_
                  refine ol_val (v := .int .i64 s49.1) (by exact xr_move rfl e12) rfl rfl rfl ?_
                  refine ol_val (v := .bool (decide (s49.1 < 32))) (by exact xr_lss rfl rfl rfl) rfl rfl rfl ?_
                  refine ol_nil ?_
                  rcases is h with ⟨c56, h⟩ | ⟨c56, h⟩
                  · refine cw_condT rfl c56 ?_
                    refine cw_skip ?_
                    refine cw_seq ?_
                    refine cw_block ?_
                    refine cw_seq ?_
                    refine cw_region ?_
                    refine ol_val (v := .int .u32 (Arr.get a2 1)) (by exact xr_move rfl e8) rfl rfl rfl ?_
                    refine ol_val (v := .int .i64 s49.1) (by exact xr_move rfl e12) rfl rfl rfl ?_
                    obtain ⟨g57, h⟩ := gs h
                    refine ol_val (v := .int .u32 (shR .u32 (Arr.get a2 1) s49.1)) (by exact xr_shr rfl rfl rfl g57) rfl rfl rfl ?_
                    refine ol_val (v := .int .u32 (bAnd .u32 (shR .u32 (Arr.get a2 1) s49.1) 1)) (by exact xr_and rfl rfl rfl) rfl rfl rfl ?_
                    refine ol_val (v := .bool (decide ((bAnd .u32 (shR .u32 (Arr.get a2 1) s49.1) 1) = 1))) (by exact xr_eqI rfl Try.underlying51 rfl rfl rfl) rfl rfl rfl ?_
                    refine ol_nil ?_
                    obtain ⟨x58, j59, h60⟩ := bs h
                    refine cw_mid (fun ρ' w' => Own (kI .u8) 5 w' w.heap.size u35 x58 ∧ ρ' 8 = .int .u32 (Arr.get a2 1) ∧ ρ' 9 = u35 ∧ ρ' 11 = .int .i64 x43 ∧ ρ' 12 = .int .i64 s49.1 ∧ Gr w w') ?_ ?_
                    · have h := j59
                      rcases is h with ⟨c61, h⟩ | ⟨c61, h⟩
                      · refine cw_condT rfl c61 ?_
                        obtain ⟨g62, h⟩ := gs h
                        obtain ⟨g63, h⟩ := gs h
                        refine cw_drawL 18 [fun vz wz => vz = (u35 : Value), fun vz wz => vz = (.int .i64 x43 : Value), fun vz wz => vz = (.int .i64 s49.1 : Value), fun vz wz => vz = (.int .i64 (IntKind.i64.wrap (x43 + s49.1)) : Value), fun vz wz => vz = (.int .i64 (IntKind.i64.wrap (Int.tdiv (IntKind.i64.wrap (x43 + s49.1)) 8)) : Value), fun vz wz => vz = (u35 : Value), fun vz wz => vz = (.int .i64 x43 : Value), fun vz wz => vz = (.int .i64 s49.1 : Value), fun vz wz => vz = (.int .i64 (IntKind.i64.wrap (x43 + s49.1)) : Value), fun vz wz => vz = (.int .i64 (IntKind.i64.wrap (Int.tdiv (IntKind.i64.wrap (x43 + s49.1)) 8)) : Value), fun vz wz => vz = (.pointer (some ⟨(sb u35), so u35 + Int.toNat (IntKind.i64.wrap (Int.tdiv (IntKind.i64.wrap (x43 + s49.1)) 8)) * 1, none⟩) : Value), fun vz wz => vz = (.int .u8 (ix s49.2 (IntKind.i64.wrap (Int.tdiv (IntKind.i64.wrap (x43 + s49.1)) 8))) : Value), fun vz wz => vz = (.int .i64 x43 : Value), fun vz wz => vz = (.int .i64 s49.1 : Value), fun vz wz => vz = (.int .i64 (IntKind.i64.wrap (x43 + s49.1)) : Value), fun vz wz => vz = (.int .i64 (Int.tmod (IntKind.i64.wrap (x43 + s49.1)) 8) : Value), fun vz wz => vz = (.int .u8 (shL .u8 1 (Int.tmod (IntKind.i64.wrap (x43 + s49.1)) 8)) : Value), fun vz wz => vz = (.int .u8 (bXor .u8 (ix s49.2 (IntKind.i64.wrap (Int.tdiv (IntKind.i64.wrap (x43 + s49.1)) 8))) (shL .u8 1 (Int.tmod (IntKind.i64.wrap (x43 + s49.1)) 8))) : Value)] mo rfl ⟨fun _ _ _ h _ => h, fun _ _ _ h _ => h, fun _ _ _ h _ => h, fun _ _ _ h _ => h, fun _ _ _ h _ => h, fun _ _ _ h _ => h, fun _ _ _ h _ => h, fun _ _ _ h _ => h, fun _ _ _ h _ => h, fun _ _ _ h _ => h, fun _ _ _ h _ => h, fun _ _ _ h _ => h, fun _ _ _ h _ => h, fun _ _ _ h _ => h, fun _ _ _ h _ => h, fun _ _ _ h _ => h, fun _ _ _ h _ => h, fun _ _ _ h _ => h, trivial⟩ ?_ ?_
                        · refine ⟨?_, ?_, ?_, ?_, ?_, ?_, ?_, ?_, ?_, ?_, ?_, ?_, ?_, ?_, ?_, ?_, ?_, ?_, trivial⟩
                          · intro ρz wz hz hk hd
                            exact sk_val (v := u35) (by exact xr_move rfl ((hk 9 rfl).trans e9)) rfl rfl
                          · intro ρz wz hz hk hd
                            exact sk_val (v := .int .i64 x43) (by exact xr_move rfl ((hk 11 rfl).trans e11)) rfl rfl
                          · intro ρz wz hz hk hd
                            exact sk_val (v := .int .i64 s49.1) (by exact xr_move rfl ((hk 12 rfl).trans e12)) rfl rfl
                          · intro ρz wz hz hk hd
                            have d63 := hd 1 rfl 63 rfl
                            have d64 := hd 2 rfl 64 rfl
                            exact sk_val (v := .int .i64 (IntKind.i64.wrap (x43 + s49.1))) (by exact xr_add rfl d63 d64) rfl rfl
                          · intro ρz wz hz hk hd
                            have d65 := hd 3 rfl 65 rfl
                            exact sk_val (by exact xr_quo rfl d65 rfl (by decide)) rfl rfl
                          · intro ρz wz hz hk hd
                            exact sk_val (v := u35) (by exact xr_move rfl ((hk 9 rfl).trans e9)) rfl rfl
                          · intro ρz wz hz hk hd
                            exact sk_val (v := .int .i64 x43) (by exact xr_move rfl ((hk 11 rfl).trans e11)) rfl rfl
                          · intro ρz wz hz hk hd
                            exact sk_val (v := .int .i64 s49.1) (by exact xr_move rfl ((hk 12 rfl).trans e12)) rfl rfl
                          · intro ρz wz hz hk hd
                            have d68 := hd 6 rfl 68 rfl
                            have d69 := hd 7 rfl 69 rfl
                            exact sk_val (v := .int .i64 (IntKind.i64.wrap (x43 + s49.1))) (by exact xr_add rfl d68 d69) rfl rfl
                          · intro ρz wz hz hk hd
                            have d70 := hd 8 rfl 70 rfl
                            exact sk_val (by exact xr_quo rfl d70 rfl (by decide)) rfl rfl
                          · intro ρz wz hz hk hd
                            have d67 := hd 5 rfl 67 rfl
                            have d71 := hd 9 rfl 71 rfl
                            exact sk_val (by exact xr_indexR (K := (kI .u8)) (v := u35) rfl Try.underlying38 sz5 d67 (o36.gr hz).rd d71 g62.1 g62.2) rfl rfl
                          · intro ρz wz hz hk hd
                            have d72 := hd 10 rfl 72 rfl
                            exact sk_val (by exact xr_load1 (v := .int .u8 (ix s49.2 (IntKind.i64.wrap (Int.tdiv (IntKind.i64.wrap (x43 + s49.1)) 8)))) rfl ag5 d72 ((o36.gr hz).rd.elem g62.1 g62.2)) rfl rfl
                          · intro ρz wz hz hk hd
                            exact sk_val (v := .int .i64 x43) (by exact xr_move rfl ((hk 11 rfl).trans e11)) rfl rfl
                          · intro ρz wz hz hk hd
                            exact sk_val (v := .int .i64 s49.1) (by exact xr_move rfl ((hk 12 rfl).trans e12)) rfl rfl
                          · intro ρz wz hz hk hd
                            have d74 := hd 12 rfl 74 rfl
                            have d75 := hd 13 rfl 75 rfl
                            exact sk_val (v := .int .i64 (IntKind.i64.wrap (x43 + s49.1))) (by exact xr_add rfl d74 d75) rfl rfl
                          · intro ρz wz hz hk hd
                            have d76 := hd 14 rfl 76 rfl
                            exact sk_val (v := .int .i64 (Int.tmod (IntKind.i64.wrap (x43 + s49.1)) 8)) (by exact xr_rem rfl d76 rfl (by decide)) rfl rfl
                          · intro ρz wz hz hk hd
                            have d77 := hd 15 rfl 77 rfl
                            exact sk_val (by exact xr_shl rfl rfl d77 g63) rfl rfl
                          · intro ρz wz hz hk hd
                            have d73 := hd 11 rfl 73 rfl
                            have d78 := hd 16 rfl 78 rfl
                            exact sk_val (by exact xr_xor rfl d73 d78) rfl rfl
                        · intro ρ64 w65 q66 hk hd
                          have e8 := (hk 8 rfl).trans e8
                          have e9 := (hk 9 rfl).trans e9
                          have e11 := (hk 11 rfl).trans e11
                          have e12 := (hk 12 rfl).trans e12
                          have e62 := hd 0 rfl 62 rfl
                          have e66 := hd 4 rfl 66 rfl
                          have e79 := hd 17 rfl 79 rfl
                          have o36 := o36.gr q66
                          have fB := fB.gr q66
                          obtain ⟨g67, h⟩ := gs h
                          refine ol_val (v := .pointer (some ⟨(sb u35), so u35 + Int.toNat (IntKind.i64.wrap (Int.tdiv (IntKind.i64.wrap (x43 + s49.1)) 8)) * 1, none⟩)) (by exact xr_indexR (K := (kI .u8)) (v := u35) rfl Try.underlying38 sz5 e62 o36.rd e66 g67.1 g67.2) rfl rfl rfl ?_
                          have f69 := o36.geO
                          refine ol_op0 (by exact opv_storeRow (z := (bXor .u8 (ix s49.2 (IntKind.i64.wrap (Int.tdiv (IntKind.i64.wrap (x43 + s49.1)) 8))) (shL .u8 1 (Int.tmod (IntKind.i64.wrap (x43 + s49.1)) 8)))) (xs := cellsOf [Seg.cell (.int .u8 (bXor .u8 (ix s49.2 (IntKind.i64.wrap (Int.tdiv (IntKind.i64.wrap (x43 + s49.1)) 8))) (shL .u8 1 (Int.tmod (IntKind.i64.wrap (x43 + s49.1)) 8))))]) rfl sz5 rfl e79 rfl (len_cellsOf _) (one_cellsOf _) o36 g67.1 g67.2 (Spl.whole ((Kd.len _ _).trans (Kd.len _ _).symm)) rfl) rfl rfl ?_
                          rintro _ w70 ⟨o36, q68⟩
                          have fB := fB.wrO q68 f69
                          refine ol_nil ?_
                          obtain rfl := Option.some.inj h
                          refine thn_i ?_
                          exact ⟨o36, e8, e9, e11, e12, fB⟩
                      · refine cw_condF rfl c61 ?_
                        refine cw_skip ?_
                        obtain rfl := Option.some.inj h
                        refine thn_i ?_
                        exact ⟨o36, e8, e9, e11, e12, fB⟩
                    · rintro ρ71 w72 ⟨o36, e8, e9, e11, e12, fB⟩
                      have h := h60
                      refine blk_i ?_
                      refine cw_region ?_
                      refine ol_val (v := .int .i64 s49.1) (by exact xr_move rfl e12) rfl rfl rfl ?_
                      refine ol_val (v := .int .i64 (IntKind.i64.wrap (s49.1 + 1))) (by exact xr_add rfl rfl rfl) rfl rfl rfl ?_
                      refine ol_val (v := .int .i64 (IntKind.i64.wrap (s49.1 + 1))) (by exact xr_assign rfl rfl) rfl rfl rfl ?_
                      refine ol_nil ?_
                      obtain rfl := Option.some.inj h
                      refine lp_in ?_
                      exact ⟨o36, e8, e9, e11, rfl, fB⟩
                  · refine cw_condF rfl c56 ?_
                    refine cw_exit ?_
                    repeat (first | with_reducible refine thn_e ?_ | with_reducible refine blk_e rfl ?_)
                    obtain rfl := Option.some.inj h
                    refine lp_exit ?_
                    rintro rfl
                    refine thn_x ?_
                    exact ⟨o36, e9, fB⟩
              · rintro ρ73 w74 ⟨o36, e9, fB⟩
                have h := h52
                refine cw_seq ?_
                refine cw_region ?_
                refine ol_val (v := u35) (by exact xr_move rfl e9) rfl rfl rfl ?_
                obtain ⟨t75, k76, h⟩ := bs h
                refine ol_op (by exact opv_call rfl cal40 (ac rfl an) (block_Open.ok fu _ e50 u35 (o36.rd) _ k76)) rfl rfl rfl ?_
                rintro _ w81 ⟨u77, o78, rfl, q80⟩
                have o78 := Own.base o78 fB.size
                have o36 := o36.gr q80
                have fB := fB.gr q80
                refine ol_val (v := .tuple #[.int .i64 t75.1, .int .i64 t75.2.1, u77, .bool t75.2.2.2]) (by exact xr_move rfl rfl) rfl rfl rfl ?_
                refine ol_val (v := .int .i64 t75.1) (by exact xr_extract rfl rfl rfl) rfl rfl rfl ?_
                refine ol_val (v := .int .i64 t75.2.1) (by exact xr_extract rfl rfl rfl) rfl rfl rfl ?_
                refine ol_val (v := u77) (by exact xr_extract rfl rfl rfl) rfl rfl rfl ?_
                refine ol_val (v := .bool t75.2.2.2) (by exact xr_extract rfl rfl rfl) rfl rfl rfl ?_
                refine ol_val (v := .int .i64 t75.1) (by exact xr_assign rfl rfl) rfl rfl rfl ?_
                refine ol_val (v := .int .i64 t75.2.1) (by exact xr_assign rfl rfl) rfl rfl rfl ?_
                refine ol_val (v := u77) (by exact xr_assign rfl rfl) rfl rfl rfl ?_
                refine ol_val (v := .bool t75.2.2.2) (by exact xr_assign rfl rfl) rfl rfl rfl ?_
                refine ol_nil ?_
                refine cw_seq ?_
                obtain ⟨x82, j83, h⟩ := bs h
                refine cw_mid (fun ρ' w' => ρ' 6 = .bool x82 ∧ Gr w81 w') ?_ ?_
                · skip
                  refine cw_region ?_
                  refine ol_val (v := .bool t75.2.2.2) (by exact xr_move rfl rfl) rfl rfl rfl ?_
                  refine ol_val (v := .bool (!t75.2.2.2)) (by exact xr_not rfl rfl) rfl rfl rfl ?_
                  refine ol_val (v := .bool (!t75.2.2.2)) (by exact xr_move rfl rfl) rfl rfl rfl ?_
                  rcases is j83 with ⟨c84, j83⟩ | ⟨c84, j83⟩
                  · skip
                    refine ol_gval (v := u77) (by exact xr_move rfl rfl) rfl rfl rfl rfl rfl c84 ?_
                    refine ol_gval (v := .int .i64 (List.length t75.2.2.1 : Int)) (by exact xr_lenR rfl Try.underlying38 rfl o78.rd) rfl rfl rfl rfl rfl c84 ?_
                    refine ol_gval (v := .bool (decide ((List.length t75.2.2.1 : Int) = 0))) (by exact xr_eqI rfl Try.underlying3 rfl rfl rfl) rfl rfl rfl rfl rfl c84 ?_
                    refine ol_val (v := .bool (decide ((List.length t75.2.2.1 : Int) = 0))) (by exact xr_pickT rfl rfl c84 rfl) rfl rfl rfl ?_
                    refine ol_val (v := .bool (decide ((List.length t75.2.2.1 : Int) = 0))) (by exact xr_move rfl rfl) rfl rfl rfl ?_
                    rcases is j83 with ⟨c85, j83⟩ | ⟨c85, j83⟩
                    · skip
                      refine ol_gval (v := u35) (by exact xr_move rfl e9) rfl rfl rfl rfl rfl c85 ?_
                      obtain ⟨t86, k87, j83⟩ := bs j83
                      refine ol_gop (by exact opv_call rfl cal44 (ac rfl an) (block_Kind.ok fu _ e50 u35 (o36.rd) _ k87)) rfl rfl rfl rfl rfl c85 ?_
                      rintro _ w89 ⟨rfl, q88⟩
                      have fB := fB.gr q88
                      refine ol_gval (v := .bool (decide (t86 = 0))) (by exact xr_eqI rfl Try.underlying3 rfl rfl rfl) rfl rfl rfl rfl rfl c85 ?_
                      refine ol_val (v := .bool (decide (t86 = 0))) (by exact xr_pickT rfl rfl c85 rfl) rfl rfl rfl ?_
                      refine ol_val (v := .bool (decide (t86 = 0))) (by exact xr_assign rfl rfl) rfl rfl rfl ?_
                      refine ol_nil ?_
                      obtain rfl := Option.some.inj j83
                      refine thn_i ?_
                      exact ⟨rfl, q88⟩
                    · skip
                      refine ol_gskip rfl rfl rfl rfl rfl c85 ?_
                      refine ol_gskip rfl rfl rfl rfl rfl c85 ?_
                      refine ol_gskip rfl rfl rfl rfl rfl c85 ?_
                      refine ol_val (v := .bool false) (by exact xr_pickF rfl rfl c85 rfl) rfl rfl rfl ?_
                      refine ol_val (v := .bool false) (by exact xr_assign rfl rfl) rfl rfl rfl ?_
                      refine ol_nil ?_
                      obtain rfl := Option.some.inj j83
                      refine thn_i ?_
                      exact ⟨rfl, Fr.refl _ _⟩
                  · skip
                    refine ol_gskip rfl rfl rfl rfl rfl c84 ?_
                    refine ol_gskip rfl rfl rfl rfl rfl c84 ?_
                    refine ol_gskip rfl rfl rfl rfl rfl c84 ?_
                    refine ol_val (v := .bool false) (by exact xr_pickF rfl rfl c84 rfl) rfl rfl rfl ?_
                    refine ol_val (v := .bool false) (by exact xr_move rfl rfl) rfl rfl rfl ?_
                    refine ol_gskip rfl rfl rfl rfl rfl rfl ?_
                    refine ol_gskip rfl rfl rfl rfl rfl rfl ?_
                    refine ol_gskip rfl rfl rfl rfl rfl rfl ?_
                    refine ol_val (v := .bool false) (by exact xr_pickF rfl rfl rfl rfl) rfl rfl rfl ?_
                    refine ol_val (v := .bool false) (by exact xr_assign rfl rfl) rfl rfl rfl ?_
                    refine ol_nil ?_
                    obtain rfl := Option.some.inj j83
                    refine thn_i ?_
                    exact ⟨rfl, Fr.refl _ _⟩
                · skip
                  rintro ρ90 w91 ⟨e6, q92⟩
                  have fB := fB.gr q92
                  refine cw_ret ?_
                  repeat (first | with_reducible refine thn_r ?_ | with_reducible refine blk_r ?_)
                  obtain rfl := Option.some.inj h
                  refine fin_ret1 Try.results7 e6 ?_
                  exact ⟨_, rfl, rfl, fB⟩
end Go.Proofs.Ytpdglhpohkkeiaa
