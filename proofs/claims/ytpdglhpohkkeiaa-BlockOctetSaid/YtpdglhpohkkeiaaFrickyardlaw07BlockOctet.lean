/- rickyard/rickyardlaw07.BlockOctet: its model, and that the Go function computes it: written by gen.py. -/
import Derived.Test.YtpdglhpohkkeiaaBase
import Derived.Test.YtpdglhpohkkeiaaFrickyardref01Rest
import Derived.Test.YtpdglhpohkkeiaaFrickyardlaw07awake
import Derived.Test.YtpdglhpohkkeiaaFblockSeal
import Derived.Test.YtpdglhpohkkeiaaFblockOpen
set_option linter.unusedVariables false
namespace Go.Proofs.Ytpdglhpohkkeiaa
open Go Go.Xw
def rickyardlaw07_BlockOctet.f (fu : Nat) (a0 : Int) (a1 : Int) (a2 : Int) : Option Bool := ((((rickyardlaw07_awake.f fu : Option Bool).bind fun t3 => (if (!t3) = true then some (true) else some ((decide (a0 = 0))))) : Option Bool).bind fun x1 => (if x1 = true then ((rickyardlaw07_awake.f fu : Option Bool).bind fun t12 => some (t12)) else (if 0 < List.length [98, 111, 100, 121] then ((block_Seal.f fu (IntKind.i64.wrap a0) (IntKind.i64.wrap a1) [98, 111, 100, 121] : Option ((List Int) × Bool)).bind fun t27 => (if (if (!t27.2) = true then true else (!decide ((List.length t27.1 : Int) = 64))) = true then some (false) else ((rickyardref01_Rest.f fu a2 64 : Option Int).bind fun t37 => ((rickyardref01_Rest.f fu (IntKind.i64.wrap (Int.tdiv a2 64)) 255 : Option Int).bind fun t41 => (if 0 ≤ t37 ∧ t37 < (List.length t27.1 : Int) then (if 0 ≤ t37 ∧ t37 < (List.length t27.1 : Int) then ((block_Open.f fu (List.set t27.1 (Int.toNat t37) (bXor .u8 (ix t27.1 t37) (IntKind.u8.wrap (IntKind.i64.wrap (1 + t41))))) : Option (Int × Int × (List Int) × Bool)).bind fun t50 => (if 0 ≤ t37 ∧ t37 < (List.length (List.set t27.1 (Int.toNat t37) (bXor .u8 (ix t27.1 t37) (IntKind.u8.wrap (IntKind.i64.wrap (1 + t41))))) : Int) then (if 0 ≤ t37 ∧ t37 < (List.length (List.set t27.1 (Int.toNat t37) (bXor .u8 (ix t27.1 t37) (IntKind.u8.wrap (IntKind.i64.wrap (1 + t41))))) : Int) then ((block_Open.f fu (List.set (List.set t27.1 (Int.toNat t37) (bXor .u8 (ix t27.1 t37) (IntKind.u8.wrap (IntKind.i64.wrap (1 + t41))))) (Int.toNat t37) (bXor .u8 (ix (List.set t27.1 (Int.toNat t37) (bXor .u8 (ix t27.1 t37) (IntKind.u8.wrap (IntKind.i64.wrap (1 + t41))))) t37) (IntKind.u8.wrap (IntKind.i64.wrap (1 + t41))))) : Option (Int × Int × (List Int) × Bool)).bind fun t62 => some ((if (!t50.2.2.2) = true then t62.2.2.2 else false))) else none) else none)) else none) else none))))) else none)))
set_option maxRecDepth 100000 in
set_option maxHeartbeats 400000 in
theorem rickyardlaw07_BlockOctet.ok (fu : Nat) (w : World) (a0 : Int) (a1 : Int) (a2 : Int) (r : Bool) (h : rickyardlaw07_BlockOctet.f fu a0 a1 a2 = some r) :
    Calls Try.prog 8 (([.int .u8 a0, .int .u8 a1, .int .i64 a2] : List Value).toArray) w (fun e w' => ∃ v, e = .returned v ∧ v = .bool r ∧ Gr w w') := by
  unfold rickyardlaw07_BlockOctet.f at h
  have fB : Gr w w := Fr.refl _ _
  refine calls_cw Try.func8 rfl Try.ntmps8 rfl ?_
  refine cw_seq ?_
  refine cw_region ?_
  refine ol_val (v := .bool false) (by exact xr_assign rfl rfl) rfl rfl rfl ?_
  refine ol_nil ?_
  refine cw_seq ?_
  refine cw_seq ?_
  obtain ⟨x1, j2, h⟩ := bs h
  refine cw_mid (fun ρ' w' => ρ' 0 = .int .u8 a0 ∧ ρ' 1 = .int .u8 a1 ∧ ρ' 2 = .int .i64 a2 ∧ ρ' 24 = .bool x1 ∧ Gr w w') ?_ ?_
  · skip
    refine cw_region ?_
    obtain ⟨t3, k4, j2⟩ := bs j2
    refine ol_op (by exact opv_call rfl cal38 an (rickyardlaw07_awake.ok fu _ _ k4)) rfl rfl rfl ?_
    rintro _ w6 ⟨rfl, q5⟩
    have fB := fB.gr q5
    refine ol_val (v := .bool (!t3)) (by exact xr_not rfl rfl) rfl rfl rfl ?_
    refine ol_val (v := .bool (!t3)) (by exact xr_move rfl rfl) rfl rfl rfl ?_
    rcases is j2 with ⟨c7, j2⟩ | ⟨c7, j2⟩
    · skip
      refine ol_gskip rfl rfl rfl rfl rfl c7 ?_
      refine ol_gskip rfl rfl rfl rfl rfl c7 ?_
      refine ol_val (v := .bool true) (by exact xr_pickT rfl rfl c7 rfl) rfl rfl rfl ?_
      refine ol_nil ?_
      obtain rfl := Option.some.inj j2
      refine thn_i ?_
      exact ⟨rfl, rfl, rfl, rfl, q5⟩
    · skip
      refine ol_gval (v := .int .u8 a0) (by exact xr_move rfl rfl) rfl rfl rfl rfl rfl c7 ?_
      refine ol_gval (v := .bool (decide (a0 = 0))) (by exact xr_eqI rfl Try.underlying5 rfl rfl rfl) rfl rfl rfl rfl rfl c7 ?_
      refine ol_val (v := .bool (decide (a0 = 0))) (by exact xr_pickF rfl rfl c7 rfl) rfl rfl rfl ?_
      refine ol_nil ?_
      obtain rfl := Option.some.inj j2
      refine thn_i ?_
      exact ⟨rfl, rfl, rfl, rfl, q5⟩
  · skip
    rintro ρ8 w9 ⟨e0, e1, e2, e24, q10⟩
    have fB := fB.gr q10
    rcases is h with ⟨c11, h⟩ | ⟨c11, h⟩
    · refine cw_condT e24 c11 ?_
      refine cw_seq ?_
      refine cw_region ?_
      obtain ⟨t12, k13, h⟩ := bs h
      refine ol_op (by exact opv_call rfl cal38 an (rickyardlaw07_awake.ok fu _ _ k13)) rfl rfl rfl ?_
      rintro _ w15 ⟨rfl, q14⟩
      have fB := fB.gr q14
      refine ol_val (v := .bool t12) (by exact xr_assign rfl rfl) rfl rfl rfl ?_
      refine ol_nil ?_
      refine cw_ret ?_
      repeat (first | with_reducible refine thn_r ?_ | with_reducible refine blk_r ?_)
      obtain rfl := Option.some.inj h
      refine fin_ret1 Try.results8 rfl ?_
      exact ⟨_, rfl, rfl, fB⟩
    · refine cw_condF e24 c11 ?_
      refine cw_skip ?_
      refine cw_seq ?_
      refine cw_region ?_
      refine ol_val (v := .int .u8 a0) (by exact xr_move rfl e0) rfl rfl rfl ?_
      refine ol_val (v := .int .i64 (IntKind.i64.wrap a0)) (by exact xr_conv rfl Try.underlying5 Try.underlying3 rfl) rfl rfl rfl ?_
      refine ol_val (v := .int .u8 a1) (by exact xr_move rfl e1) rfl rfl rfl ?_
      refine ol_val (v := .int .i64 (IntKind.i64.wrap a1)) (by exact xr_conv rfl Try.underlying5 Try.underlying3 rfl) rfl rfl rfl ?_
      refine ol_op (by exact opv_buildSlice (K := (kI .u8)) (xs := [98, 111, 100, 121]) (vals := [.int .u8 98, .int .u8 111, .int .u8 100, .int .u8 121]) rfl Try.underlying38 el5 rfl rfl ⟨rfl, rfl, ⟨rfl, rfl, ⟨rfl, rfl, ⟨rfl, rfl, trivial⟩⟩⟩⟩ rfl rfl rfl fB.size) rfl rfl rfl ?_
      rintro v16 w21 ⟨o18, q17, z19⟩
      have fB := fB.gr q17
      obtain ⟨g24, h⟩ := gs h
      have f25 := o18.geO
      refine ol_op (by exact opv_convSl rfl Try.underlying38 Try.underlying5 rfl o18 g24) rfl rfl rfl ?_
      rintro _ w26 ⟨rfl, r23, q22⟩
      have fB := fB.wrO q22 f25
      obtain ⟨t27, k28, h⟩ := bs h
      refine ol_op (by exact opv_call rfl cal39 (ac rfl (ac rfl (ac rfl an))) (block_Seal.ok fu _ (IntKind.i64.wrap a0) (IntKind.i64.wrap a1) [98, 111, 100, 121] v16 (r23) _ k28)) rfl rfl rfl ?_
      rintro _ w33 ⟨u29, o30, rfl, q32⟩
      have o30 := Own.base o30 fB.size
      have fB := fB.gr q32
      refine ol_val (v := .tuple #[u29, .bool t27.2]) (by exact xr_move rfl rfl) rfl rfl rfl ?_
      refine ol_val (v := u29) (by exact xr_extract rfl rfl rfl) rfl rfl rfl ?_
      refine ol_val (v := .bool t27.2) (by exact xr_extract rfl rfl rfl) rfl rfl rfl ?_
      refine ol_val (v := u29) (by exact xr_assign rfl rfl) rfl rfl rfl ?_
      refine ol_val (v := .bool t27.2) (by exact xr_assign rfl rfl) rfl rfl rfl ?_
      refine ol_nil ?_
      refine cw_seq ?_
      refine cw_seq ?_
      refine cw_mid (fun ρ' w' => ρ' 2 = .int .i64 a2 ∧ ρ' 7 = u29 ∧ ρ' 42 = .bool (if (!t27.2) = true then true else (!decide ((List.length t27.1 : Int) = 64))) ∧ w33 = w') ?_ ?_
      · skip
        refine cw_region ?_
        refine ol_val (v := .bool t27.2) (by exact xr_move rfl rfl) rfl rfl rfl ?_
        refine ol_val (v := .bool (!t27.2)) (by exact xr_not rfl rfl) rfl rfl rfl ?_
        refine ol_val (v := .bool (!t27.2)) (by exact xr_move rfl rfl) rfl rfl rfl ?_
        rcases bt (!t27.2) with c34 | c34
        · skip
          refine ol_gskip rfl rfl rfl rfl rfl c34 ?_
          refine ol_gskip rfl rfl rfl rfl rfl c34 ?_
          refine ol_gskip rfl rfl rfl rfl rfl c34 ?_
          refine ol_val (v := .bool true) (by exact xr_pickT rfl rfl c34 rfl) rfl rfl rfl ?_
          refine ol_nil ?_
          refine thn_i ?_
          exact ⟨e2, rfl, (rfl).trans (congrArg (fun z => (.bool z : Value)) (show true = (if (!t27.2) = true then true else (!decide ((List.length t27.1 : Int) = 64))) from by rw [ite_t c34])), rfl⟩
        · skip
          refine ol_gval (v := u29) (by exact xr_move rfl rfl) rfl rfl rfl rfl rfl c34 ?_
          refine ol_gval (v := .int .i64 (List.length t27.1 : Int)) (by exact xr_lenR rfl Try.underlying38 rfl o30.rd) rfl rfl rfl rfl rfl c34 ?_
          refine ol_gval (v := .bool (!decide ((List.length t27.1 : Int) = 64))) (by exact xr_neI rfl Try.underlying3 rfl rfl rfl) rfl rfl rfl rfl rfl c34 ?_
          refine ol_val (v := .bool (!decide ((List.length t27.1 : Int) = 64))) (by exact xr_pickF rfl rfl c34 rfl) rfl rfl rfl ?_
          refine ol_nil ?_
          refine thn_i ?_
          exact ⟨e2, rfl, (rfl).trans (congrArg (fun z => (.bool z : Value)) (show (!decide ((List.length t27.1 : Int) = 64)) = (if (!t27.2) = true then true else (!decide ((List.length t27.1 : Int) = 64))) from by rw [ite_f c34])), rfl⟩
      · skip
        rintro ρ35 _ ⟨e2, e7, e42, rfl⟩
        rcases is h with ⟨c36, h⟩ | ⟨c36, h⟩
        · refine cw_condT e42 c36 ?_
          refine cw_seq ?_
          refine cw_region ?_
          refine ol_val (v := .bool false) (by exact xr_assign rfl rfl) rfl rfl rfl ?_
          refine ol_nil ?_
          refine cw_ret ?_
          repeat (first | with_reducible refine thn_r ?_ | with_reducible refine blk_r ?_)
          obtain rfl := Option.some.inj h
          refine fin_ret1 Try.results8 rfl ?_
          exact ⟨_, rfl, rfl, fB⟩
        · refine cw_condF e42 c36 ?_
          refine cw_skip ?_
          refine cw_seq ?_
          refine cw_region ?_
          refine ol_val (v := .int .i64 a2) (by exact xr_move rfl e2) rfl rfl rfl ?_
          obtain ⟨t37, k38, h⟩ := bs h
          refine ol_op (by exact opv_call rfl cal34 (ac rfl (ac rfl an)) (rickyardref01_Rest.ok fu _ a2 64 _ k38)) rfl rfl rfl ?_
          rintro _ w40 ⟨rfl, q39⟩
          have o30 := o30.gr q39
          have fB := fB.gr q39
          refine ol_val (v := .int .i64 t37) (by exact xr_assign rfl rfl) rfl rfl rfl ?_
          refine ol_nil ?_
          refine cw_seq ?_
          refine cw_region ?_
          refine ol_val (v := .int .i64 a2) (by exact xr_move rfl e2) rfl rfl rfl ?_
          refine ol_val (v := .int .i64 (IntKind.i64.wrap (Int.tdiv a2 64))) (by exact xr_quo rfl rfl rfl (by decide)) rfl rfl rfl ?_
          obtain ⟨t41, k42, h⟩ := bs h
          refine ol_op (by exact opv_call rfl cal34 (ac rfl (ac rfl an)) (rickyardref01_Rest.ok fu _ (IntKind.i64.wrap (Int.tdiv a2 64)) 255 _ k42)) rfl rfl rfl ?_
          rintro _ w44 ⟨rfl, q43⟩
          have o30 := o30.gr q43
          have fB := fB.gr q43
          refine ol_val (v := .int .i64 (IntKind.i64.wrap (1 + t41))) (by exact xr_add rfl rfl rfl) rfl rfl rfl ?_
          refine ol_val (v := .int .u8 (IntKind.u8.wrap (IntKind.i64.wrap (1 + t41)))) (by exact xr_conv rfl Try.underlying3 Try.underlying5 rfl) rfl rfl rfl ?_
          refine ol_val (v := .int .u8 (IntKind.u8.wrap (IntKind.i64.wrap (1 + t41)))) (by exact xr_assign rfl rfl) rfl rfl rfl ?_
          refine ol_nil ?_
          refine cw_seq ?_
          refine cw_region ?_
          refine ol_val (v := u29) (by exact xr_move rfl e7) rfl rfl rfl ?_
          refine ol_val (v := .int .i64 t37) (by exact xr_move rfl rfl) rfl rfl rfl ?_
          refine ol_val (v := u29) (by exact xr_move rfl e7) rfl rfl rfl ?_
          refine ol_val (v := .int .i64 t37) (by exact xr_move rfl rfl) rfl rfl rfl ?_
          obtain ⟨g45, h⟩ := gs h
          refine ol_val (v := .pointer (some ⟨(sb u29), so u29 + Int.toNat t37 * 1, none⟩)) (by exact xr_indexR (K := (kI .u8)) (v := u29) rfl Try.underlying38 sz5 rfl o30.rd rfl g45.1 g45.2) rfl rfl rfl ?_
          refine ol_val (v := .int .u8 (ix t27.1 t37)) (by exact xr_load1 (v := .int .u8 (ix t27.1 t37)) rfl ag5 rfl (o30.rd.elem g45.1 g45.2)) rfl rfl rfl ?_
          refine ol_val (v := .int .u8 (IntKind.u8.wrap (IntKind.i64.wrap (1 + t41)))) (by exact xr_move rfl rfl) rfl rfl rfl ?_
          refine ol_val (v := .int .u8 (bXor .u8 (ix t27.1 t37) (IntKind.u8.wrap (IntKind.i64.wrap (1 + t41))))) (by exact xr_xor rfl rfl rfl) rfl rfl rfl ?_
          obtain ⟨g46, h⟩ := gs h
          refine ol_val (v := .pointer (some ⟨(sb u29), so u29 + Int.toNat t37 * 1, none⟩)) (by exact xr_indexR (K := (kI .u8)) (v := u29) rfl Try.underlying38 sz5 rfl o30.rd rfl g46.1 g46.2) rfl rfl rfl ?_
          have f48 := o30.geO
          refine ol_op0 (by exact opv_storeRow (z := (bXor .u8 (ix t27.1 t37) (IntKind.u8.wrap (IntKind.i64.wrap (1 + t41))))) (xs := cellsOf [Seg.cell (.int .u8 (bXor .u8 (ix t27.1 t37) (IntKind.u8.wrap (IntKind.i64.wrap (1 + t41)))))]) rfl sz5 rfl rfl rfl (len_cellsOf _) (one_cellsOf _) o30 g46.1 g46.2 (Spl.whole ((Kd.len _ _).trans (Kd.len _ _).symm)) rfl) rfl rfl ?_
          rintro _ w49 ⟨o30, q47⟩
          have fB := fB.wrO q47 f48
          refine ol_nil ?_
          refine cw_seq ?_
          refine cw_region ?_
          refine ol_val (v := u29) (by exact xr_move rfl e7) rfl rfl rfl ?_
          obtain ⟨t50, k51, h⟩ := bs h
          refine ol_op (by exact opv_call rfl cal40 (ac rfl an) (block_Open.ok fu _ (List.set t27.1 (Int.toNat t37) (bXor .u8 (ix t27.1 t37) (IntKind.u8.wrap (IntKind.i64.wrap (1 + t41))))) u29 (o30.rd) _ k51)) rfl rfl rfl ?_
          rintro _ w56 ⟨u52, o53, rfl, q55⟩
          have o53 := Own.base o53 fB.size
          have o30 := o30.gr q55
          have fB := fB.gr q55
          refine ol_val (v := .tuple #[.int .i64 t50.1, .int .i64 t50.2.1, u52, .bool t50.2.2.2]) (by exact xr_move rfl rfl) rfl rfl rfl ?_
          refine ol_val (v := .int .i64 t50.1) (by exact xr_extract rfl rfl rfl) rfl rfl rfl ?_
          refine ol_val (v := .int .i64 t50.2.1) (by exact xr_extract rfl rfl rfl) rfl rfl rfl ?_
          refine ol_val (v := u52) (by exact xr_extract rfl rfl rfl) rfl rfl rfl ?_
          refine ol_val (v := .bool t50.2.2.2) (by exact xr_extract rfl rfl rfl) rfl rfl rfl ?_
          refine ol_val (v := .int .i64 t50.1) (by exact xr_assign rfl rfl) rfl rfl rfl ?_
          refine ol_val (v := .int .i64 t50.2.1) (by exact xr_assign rfl rfl) rfl rfl rfl ?_
          refine ol_val (v := u52) (by exact xr_assign rfl rfl) rfl rfl rfl ?_
          refine ol_val (v := .bool t50.2.2.2) (by exact xr_assign rfl rfl) rfl rfl rfl ?_
          refine ol_nil ?_
          refine cw_seq ?_
          refine cw_region ?_
          refine ol_val (v := u29) (by exact xr_move rfl e7) rfl rfl rfl ?_
          refine ol_val (v := .int .i64 t37) (by exact xr_move rfl rfl) rfl rfl rfl ?_
          refine ol_val (v := u29) (by exact xr_move rfl e7) rfl rfl rfl ?_
          refine ol_val (v := .int .i64 t37) (by exact xr_move rfl rfl) rfl rfl rfl ?_
          obtain ⟨g57, h⟩ := gs h
          refine ol_val (v := .pointer (some ⟨(sb u29), so u29 + Int.toNat t37 * 1, none⟩)) (by exact xr_indexR (K := (kI .u8)) (v := u29) rfl Try.underlying38 sz5 rfl o30.rd rfl g57.1 g57.2) rfl rfl rfl ?_
          refine ol_val (v := .int .u8 (ix (List.set t27.1 (Int.toNat t37) (bXor .u8 (ix t27.1 t37) (IntKind.u8.wrap (IntKind.i64.wrap (1 + t41))))) t37)) (by exact xr_load1 (v := .int .u8 (ix (List.set t27.1 (Int.toNat t37) (bXor .u8 (ix t27.1 t37) (IntKind.u8.wrap (IntKind.i64.wrap (1 + t41))))) t37)) rfl ag5 rfl (o30.rd.elem g57.1 g57.2)) rfl rfl rfl ?_
          refine ol_val (v := .int .u8 (IntKind.u8.wrap (IntKind.i64.wrap (1 + t41)))) (by exact xr_move rfl rfl) rfl rfl rfl ?_
          refine ol_val (v := .int .u8 (bXor .u8 (ix (List.set t27.1 (Int.toNat t37) (bXor .u8 (ix t27.1 t37) (IntKind.u8.wrap (IntKind.i64.wrap (1 + t41))))) t37) (IntKind.u8.wrap (IntKind.i64.wrap (1 + t41))))) (by exact xr_xor rfl rfl rfl) rfl rfl rfl ?_
          obtain ⟨g58, h⟩ := gs h
          refine ol_val (v := .pointer (some ⟨(sb u29), so u29 + Int.toNat t37 * 1, none⟩)) (by exact xr_indexR (K := (kI .u8)) (v := u29) rfl Try.underlying38 sz5 rfl o30.rd rfl g58.1 g58.2) rfl rfl rfl ?_
          have f60 := o30.geO
          refine ol_op0 (by exact opv_storeRow (z := (bXor .u8 (ix (List.set t27.1 (Int.toNat t37) (bXor .u8 (ix t27.1 t37) (IntKind.u8.wrap (IntKind.i64.wrap (1 + t41))))) t37) (IntKind.u8.wrap (IntKind.i64.wrap (1 + t41))))) (xs := cellsOf [Seg.cell (.int .u8 (bXor .u8 (ix (List.set t27.1 (Int.toNat t37) (bXor .u8 (ix t27.1 t37) (IntKind.u8.wrap (IntKind.i64.wrap (1 + t41))))) t37) (IntKind.u8.wrap (IntKind.i64.wrap (1 + t41)))))]) rfl sz5 rfl rfl rfl (len_cellsOf _) (one_cellsOf _) o30 g58.1 g58.2 (Spl.whole ((Kd.len _ _).trans (Kd.len _ _).symm)) rfl) rfl rfl ?_
          rintro _ w61 ⟨o30, q59⟩
          have fB := fB.wrO q59 f60
          refine ol_nil ?_
          refine cw_seq ?_
          refine cw_region ?_
          refine ol_val (v := u29) (by exact xr_move rfl e7) rfl rfl rfl ?_
          obtain ⟨t62, k63, h⟩ := bs h
          refine ol_op (by exact opv_call rfl cal40 (ac rfl an) (block_Open.ok fu _ (List.set (List.set t27.1 (Int.toNat t37) (bXor .u8 (ix t27.1 t37) (IntKind.u8.wrap (IntKind.i64.wrap (1 + t41))))) (Int.toNat t37) (bXor .u8 (ix (List.set t27.1 (Int.toNat t37) (bXor .u8 (ix t27.1 t37) (IntKind.u8.wrap (IntKind.i64.wrap (1 + t41))))) t37) (IntKind.u8.wrap (IntKind.i64.wrap (1 + t41))))) u29 (o30.rd) _ k63)) rfl rfl rfl ?_
          rintro _ w68 ⟨u64, o65, rfl, q67⟩
          have o65 := Own.base o65 fB.size
          have fB := fB.gr q67
          refine ol_val (v := .tuple #[.int .i64 t62.1, .int .i64 t62.2.1, u64, .bool t62.2.2.2]) (by exact xr_move rfl rfl) rfl rfl rfl ?_
          refine ol_val (v := .int .i64 t62.1) (by exact xr_extract rfl rfl rfl) rfl rfl rfl ?_
          refine ol_val (v := .int .i64 t62.2.1) (by exact xr_extract rfl rfl rfl) rfl rfl rfl ?_
          refine ol_val (v := u64) (by exact xr_extract rfl rfl rfl) rfl rfl rfl ?_
          refine ol_val (v := .bool t62.2.2.2) (by exact xr_extract rfl rfl rfl) rfl rfl rfl ?_
          refine ol_val (v := .int .i64 t62.1) (by exact xr_assign rfl rfl) rfl rfl rfl ?_
          refine ol_val (v := .int .i64 t62.2.1) (by exact xr_assign rfl rfl) rfl rfl rfl ?_
          refine ol_val (v := u64) (by exact xr_assign rfl rfl) rfl rfl rfl ?_
          refine ol_val (v := .bool t62.2.2.2) (by exact xr_assign rfl rfl) rfl rfl rfl ?_
          refine ol_nil ?_
          refine cw_seq ?_
          refine cw_mid (fun ρ' w' => ρ' 6 = .bool (if (!t50.2.2.2) = true then t62.2.2.2 else false) ∧ w68 = w') ?_ ?_
          · skip
            refine cw_region ?_
            refine ol_val (v := .bool t50.2.2.2) (by exact xr_move rfl rfl) rfl rfl rfl ?_
            refine ol_val (v := .bool (!t50.2.2.2)) (by exact xr_not rfl rfl) rfl rfl rfl ?_
            refine ol_val (v := .bool (!t50.2.2.2)) (by exact xr_move rfl rfl) rfl rfl rfl ?_
            rcases bt (!t50.2.2.2) with c69 | c69
            · skip
              refine ol_gval (v := .bool t62.2.2.2) (by exact xr_move rfl rfl) rfl rfl rfl rfl rfl c69 ?_
              refine ol_val (v := .bool t62.2.2.2) (by exact xr_pickT rfl rfl c69 rfl) rfl rfl rfl ?_
              refine ol_val (v := .bool t62.2.2.2) (by exact xr_assign rfl rfl) rfl rfl rfl ?_
              refine ol_nil ?_
              refine thn_i ?_
              exact ⟨(rfl).trans (congrArg (fun z => (.bool z : Value)) (show t62.2.2.2 = (if (!t50.2.2.2) = true then t62.2.2.2 else false) from by rw [ite_t c69])), rfl⟩
            · skip
              refine ol_gskip rfl rfl rfl rfl rfl c69 ?_
              refine ol_val (v := .bool false) (by exact xr_pickF rfl rfl c69 rfl) rfl rfl rfl ?_
              refine ol_val (v := .bool false) (by exact xr_assign rfl rfl) rfl rfl rfl ?_
              refine ol_nil ?_
              refine thn_i ?_
              exact ⟨(rfl).trans (congrArg (fun z => (.bool z : Value)) (show false = (if (!t50.2.2.2) = true then t62.2.2.2 else false) from by rw [ite_f c69])), rfl⟩
          · skip
            rintro ρ70 _ ⟨e6, rfl⟩
            refine cw_ret ?_
            repeat (first | with_reducible refine thn_r ?_ | with_reducible refine blk_r ?_)
            obtain rfl := Option.some.inj h
            refine fin_ret1 Try.results8 e6 ?_
            exact ⟨_, rfl, rfl, fB⟩
end Go.Proofs.Ytpdglhpohkkeiaa
