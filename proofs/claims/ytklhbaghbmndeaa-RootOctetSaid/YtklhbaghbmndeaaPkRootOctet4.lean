/- RootOctet: texts merged, part 4 of 6. The last part proves that the law RootOctet holds for every input. -/
import Derived.Test.YtklhbaghbmndeaaPkRootOctet3
set_option maxRecDepth 100000
set_option maxHeartbeats 4000000
set_option linter.unusedVariables false
set_option linter.unusedSimpArgs false
namespace Go.Proofs.Ytklhbaghbmndeaa
open Go Go.Xw
def super_Put.s0 (fu : Nat) (a0 : S_api_Super) : ((List Int) × Int) → Option (Sum (List Int) ((List Int) × Int)) := fun s28 => (if (decide (s28.2 < 5)) = true then (if 0 ≤ s28.2 ∧ s28.2 < 5 then ((octet_Lay.f fu (IntKind.u64.wrap (Arr.get (Arr.set (Arr.set (Arr.set (Arr.set (Arr.set (Arr.rep 5 (0 : Int)) 0 a0.Tickets.Geometry.Blocks) 1 a0.Tickets.Geometry.Slots) 2 a0.Tickets.Geometry.Gens) 3 a0.Tickets.High) 4 a0.Tickets.Free) s28.2)) 4).bind fun t43 => (if List.length s28.1 + List.length t43 ≤ LIM then some (Sum.inr ((s28.1 ++ t43), (IntKind.i64.wrap (s28.2 + 1)))) else none)) else none) else some (Sum.inl (s28.1)))
def super_Put.s1 (fu : Nat) (a0 : S_api_Super) : ((List Int) × Int) → Option (Sum (List Int) ((List Int) × Int)) := fun s78 => (if (decide (s78.2 < (List.length ([a0.Tickets.Top, a0.Dir] ++ a0.Charts) : Int))) = true then (if 0 ≤ s78.2 ∧ s78.2 < (List.length ([a0.Tickets.Top, a0.Dir] ++ a0.Charts) : Int) then ((octet_Lay.f fu (IntKind.u64.wrap (ix ([a0.Tickets.Top, a0.Dir] ++ a0.Charts) s78.2)) 2).bind fun t93 => (if List.length s78.1 + List.length t93 ≤ LIM then some (Sum.inr ((s78.1 ++ t93), (IntKind.i64.wrap (s78.2 + 1)))) else none)) else none) else some (Sum.inl (s78.1)))
def super_Put.f (fu : Nat) (a0 : S_api_Super) : Option ((List Int) × Bool) := ((super_Right.f fu a0).bind fun t10 => (if (!t10) = true then some ([], false) else ((octet_Octets.f fu [(IntKind.u64.wrap a0.Epoch)]).bind fun t21 => ((loopM (super_Put.s0 fu a0) fu (t21, 0)).bind fun e29 => (if List.length [a0.Tickets.Top, a0.Dir] + List.length a0.Charts ≤ LIM then ((loopM (super_Put.s1 fu a0) fu (e29, 0)).bind fun e79 => ((block_Seal.f fu 7 (List.length a0.Charts : Int) e79).bind fun t113 => some (t113.1, t113.2))) else none)))))
theorem super_Put.ok (fu : Nat) (w : World) (a0 : S_api_Super) (V0_0 : Value) (R0_0 : Rd (kI .i64) w V0_0 a0.Charts) (r : (List Int) × Bool) (h : super_Put.f fu a0 = some r) :
  Calls Try.prog 120 (([aggV [(sI a0.Epoch), (sI a0.Tickets.Geometry.Blocks), (sI a0.Tickets.Geometry.Slots), (sI a0.Tickets.Geometry.Gens), (sI a0.Tickets.Top), (sI a0.Tickets.High), (sI a0.Tickets.Free), (sI a0.Dir), Seg.cell V0_0 R0_0.one]] : List Value).toArray) w (fun e w' => ∃ v, e = .returned v ∧ ∃ u1 : Value, ∃ o2 : Own (kI .u8) 5 w' w.heap.size u1 r.1, v = .tuple #[u1, .bool r.2] ∧ Gr w w') := by
 unfold super_Put.f at h
 have fB : Gr w w := Fr.refl _ _
 refine calls_cw Try.func120 rfl Try.ntmps120 rfl ?_
 refine cw_seq ?_
 refine cw_region ?_
 refine ol_op (opv_box (ss := [(sI a0.Epoch), (sI a0.Tickets.Geometry.Blocks), (sI a0.Tickets.Geometry.Slots), (sI a0.Tickets.Geometry.Gens), (sI a0.Tickets.Top), (sI a0.Tickets.High), (sI a0.Tickets.Free), (sI a0.Dir), Seg.cell V0_0 R0_0.one]) rfl rfl rfl) rfl rfl rfl ?_
 rintro _ w9 ⟨G4, rfl, b5, q6, z7⟩
 have z7 := Nat.le_trans fB.size z7
 have fB := fB.gr q6
 refine ol_val (v := .slice none 0 0) (xr_assign rfl rfl) rfl rfl rfl ?_
 refine ol_val (v := .bool false) (xr_assign rfl rfl) rfl rfl rfl ?_
 refine ol_nil ?_
 refine cw_seq ?_
 refine cw_seq ?_
 refine cw_region ?_
 refine ol_val (v := aggV [(sI a0.Epoch), (sI a0.Tickets.Geometry.Blocks), (sI a0.Tickets.Geometry.Slots), (sI a0.Tickets.Geometry.Gens), (sI a0.Tickets.Top), (sI a0.Tickets.High), (sI a0.Tickets.Free), (sI a0.Dir), Seg.cell V0_0 R0_0.one]) (xr_loadS (ss := [(sI a0.Epoch), (sI a0.Tickets.Geometry.Blocks), (sI a0.Tickets.Geometry.Slots), (sI a0.Tickets.Geometry.Gens), (sI a0.Tickets.Top), (sI a0.Tickets.High), (sI a0.Tickets.Free), (sI a0.Dir), Seg.cell V0_0 R0_0.one]) rfl ag110 sz110 rfl rfl (b5.segs 0 9 rfl)) rfl rfl rfl ?_
 obtain ⟨t10, k11, h⟩ := bs h
 refine ol_op (opv_call rfl cal132 (ac rfl an) (super_Right.ok fu _ a0 V0_0 (R0_0.gr fB) _ k11)) rfl rfl rfl ?_
 rintro _ w13 ⟨rfl, q12⟩
 have b5 := b5.gr q12
 have fB := fB.gr q12
 refine ol_val (v := .bool (!t10)) (xr_not rfl rfl) rfl rfl rfl ?_
 refine ol_nil ?_
 rcases is h with ⟨c14, h⟩ | ⟨c14, h⟩
 ·refine cw_condT rfl c14 ?_
  refine cw_seq ?_
  refine cw_region ?_
  refine ol_val (v := .slice none 0 0) (xr_assign rfl rfl) rfl rfl rfl ?_
  refine ol_val (v := .bool false) (xr_assign rfl rfl) rfl rfl rfl ?_
  refine ol_nil ?_
  refine cw_ret ?_
  repeat (first | with_reducible refine thn_r ?_ | with_reducible refine blk_r ?_)
  obtain rfl := Option.some.inj h
  refine fin_ret2 Try.results120 rfl rfl ?_
  exact ⟨_, rfl, (.slice none 0 0), Own.nil _ _ _ _, rfl, fB⟩
 refine cw_condF rfl c14 ?_
 refine cw_skip ?_
 refine cw_seq ?_
 refine cw_region ?_
 refine ol_val (v := (pt G4 0)) (xr_fieldAddr (p := 0) (q := 0) rfl fl110_0 rfl) rfl rfl rfl ?_
 refine ol_val (v := .int .i64 a0.Epoch) (xr_load1 (v := .int .i64 a0.Epoch) rfl ag3 rfl (b5.seg 0 rfl rfl)) rfl rfl rfl ?_
 refine ol_val (v := .int .u64 (IntKind.u64.wrap a0.Epoch)) (xr_conv rfl Try.underlying3 Try.underlying22 rfl) rfl rfl rfl ?_
 refine ol_op (opv_buildSlice (K := (kI .u64)) (xs := [(IntKind.u64.wrap a0.Epoch)]) (vals := [.int .u64 (IntKind.u64.wrap a0.Epoch)]) rfl Try.underlying46 el22 rfl rfl ⟨rfl, rfl, trivial⟩ rfl rfl rfl fB.size) rfl rfl rfl ?_
 rintro v15 w20 ⟨o17, q16, z18⟩
 have b5 := b5.gr q16
 have fB := fB.gr q16
 obtain ⟨t21, k22, h⟩ := bs h
 refine ol_op (opv_call rfl cal104 (ac rfl an) (octet_Octets.ok fu _ [(IntKind.u64.wrap a0.Epoch)] v15 (o17.rd) _ k22)) rfl rfl rfl ?_
 rintro u23 w27 ⟨_, o24, rfl, q26⟩
 have o24 := Own.base o24 fB.size
 have b5 := b5.gr q26
 have fB := fB.gr q26
 refine ol_val (v := u23) (xr_assign rfl rfl) rfl rfl rfl ?_
 refine ol_nil ?_
 refine cw_seq ?_
 refine cw_seq ?_
 refine cw_region ?_
 refine ol_val (v := (pt G4 1)) (xr_fieldAddr (p := 0) (q := 1) rfl fl110_1 rfl) rfl rfl rfl ?_
 refine ol_val (v := (pt G4 1)) (xr_fieldAddr (p := 1) (q := 0) rfl fl108_0 rfl) rfl rfl rfl ?_
 refine ol_val (v := (pt G4 1)) (xr_fieldAddr (p := 1) (q := 0) rfl fl106_0 rfl) rfl rfl rfl ?_
 refine ol_val (v := .int .i64 a0.Tickets.Geometry.Blocks) (xr_load1 (v := .int .i64 a0.Tickets.Geometry.Blocks) rfl ag3 rfl (b5.seg 1 rfl rfl)) rfl rfl rfl ?_
 refine ol_val (v := (pt G4 1)) (xr_fieldAddr (p := 0) (q := 1) rfl fl110_1 rfl) rfl rfl rfl ?_
 refine ol_val (v := (pt G4 1)) (xr_fieldAddr (p := 1) (q := 0) rfl fl108_0 rfl) rfl rfl rfl ?_
 refine ol_val (v := (pt G4 2)) (xr_fieldAddr (p := 1) (q := 1) rfl fl106_1 rfl) rfl rfl rfl ?_
 refine ol_val (v := .int .i64 a0.Tickets.Geometry.Slots) (xr_load1 (v := .int .i64 a0.Tickets.Geometry.Slots) rfl ag3 rfl (b5.seg 2 rfl rfl)) rfl rfl rfl ?_
 refine ol_val (v := (pt G4 1)) (xr_fieldAddr (p := 0) (q := 1) rfl fl110_1 rfl) rfl rfl rfl ?_
 refine ol_val (v := (pt G4 1)) (xr_fieldAddr (p := 1) (q := 0) rfl fl108_0 rfl) rfl rfl rfl ?_
 refine ol_val (v := (pt G4 3)) (xr_fieldAddr (p := 1) (q := 2) rfl fl106_2 rfl) rfl rfl rfl ?_
 refine ol_val (v := .int .i64 a0.Tickets.Geometry.Gens) (xr_load1 (v := .int .i64 a0.Tickets.Geometry.Gens) rfl ag3 rfl (b5.seg 3 rfl rfl)) rfl rfl rfl ?_
 refine ol_val (v := (pt G4 1)) (xr_fieldAddr (p := 0) (q := 1) rfl fl110_1 rfl) rfl rfl rfl ?_
 refine ol_val (v := (pt G4 5)) (xr_fieldAddr (p := 1) (q := 4) rfl fl108_2 rfl) rfl rfl rfl ?_
 refine ol_val (v := .int .i64 a0.Tickets.High) (xr_load1 (v := .int .i64 a0.Tickets.High) rfl ag3 rfl (b5.seg 5 rfl rfl)) rfl rfl rfl ?_
 refine ol_val (v := (pt G4 1)) (xr_fieldAddr (p := 0) (q := 1) rfl fl110_1 rfl) rfl rfl rfl ?_
 refine ol_val (v := (pt G4 6)) (xr_fieldAddr (p := 1) (q := 5) rfl fl108_3 rfl) rfl rfl rfl ?_
 refine ol_val (v := .int .i64 a0.Tickets.Free) (xr_load1 (v := .int .i64 a0.Tickets.Free) rfl ag3 rfl (b5.seg 6 rfl rfl)) rfl rfl rfl ?_
 refine ol_val (v := aggV [Kd.seg (kA 5 (kI .i64)) (Arr.set (Arr.set (Arr.set (Arr.set (Arr.set (Arr.rep 5 (0 : Int)) 0 a0.Tickets.Geometry.Blocks) 1 a0.Tickets.Geometry.Slots) 2 a0.Tickets.Geometry.Gens) 3 a0.Tickets.High) 4 a0.Tickets.Free)]) (xr_buildA (vals := [(0, .int .i64 a0.Tickets.Geometry.Blocks), (1, .int .i64 a0.Tickets.Geometry.Slots), (2, .int .i64 a0.Tickets.Geometry.Gens), (3, .int .i64 a0.Tickets.High), (4, .int .i64 a0.Tickets.Free)]) (res := [Kd.seg (kA 5 (kI .i64)) (Arr.set (Arr.set (Arr.set (Arr.set (Arr.set (Arr.rep 5 (0 : Int)) 0 a0.Tickets.Geometry.Blocks) 1 a0.Tickets.Geometry.Slots) 2 a0.Tickets.Geometry.Gens) 3 a0.Tickets.High) 4 a0.Tickets.Free)]) rfl ⟨rfl, rfl, ⟨rfl, rfl, ⟨rfl, rfl, ⟨rfl, rfl, ⟨rfl, rfl, trivial⟩⟩⟩⟩⟩ Try.underlying193 ze193 sz3 (fl_cons (xs := Kd.enc (kI .i64) a0.Tickets.Geometry.Blocks) (cs' := cellsOf [Kd.seg (kA 5 (kI .i64)) (Arr.set (Arr.rep 5 (0 : Int)) 0 a0.Tickets.Geometry.Blocks)]) rfl rfl (Kd.len _ _) (Spl.seg_in (p := 0) (o := Int.toNat 0 * Kd.size (kI .i64) + 0) [Kd.seg (kA 5 (kI .i64)) (Arr.rep 5 (0 : Int))] 0 (Kd.seg (kA 5 (kI .i64)) (Arr.set (Arr.rep 5 (0 : Int)) 0 a0.Tickets.Geometry.Blocks)) rfl rfl (Spl.arr (K := (kI .i64)) (Arr.rep 5 (0 : Int)) 0 a0.Tickets.Geometry.Blocks (by decide) (by decide) (Spl.whole ((Kd.len _ _).trans (Kd.len _ _).symm)))) (fl_cons (xs := Kd.enc (kI .i64) a0.Tickets.Geometry.Slots) (cs' := cellsOf [Kd.seg (kA 5 (kI .i64)) (Arr.set (Arr.set (Arr.rep 5 (0 : Int)) 0 a0.Tickets.Geometry.Blocks) 1 a0.Tickets.Geometry.Slots)]) rfl rfl (Kd.len _ _) (Spl.seg_in (p := 0) (o := Int.toNat 1 * Kd.size (kI .i64) + 0) [Kd.seg (kA 5 (kI .i64)) (Arr.set (Arr.rep 5 (0 : Int)) 0 a0.Tickets.Geometry.Blocks)] 0 (Kd.seg (kA 5 (kI .i64)) (Arr.set (Arr.set (Arr.rep 5 (0 : Int)) 0 a0.Tickets.Geometry.Blocks) 1 a0.Tickets.Geometry.Slots)) rfl rfl (Spl.arr (K := (kI .i64)) (Arr.set (Arr.rep 5 (0 : Int)) 0 a0.Tickets.Geometry.Blocks) 1 a0.Tickets.Geometry.Slots (by decide) (by decide) (Spl.whole ((Kd.len _ _).trans (Kd.len _ _).symm)))) (fl_cons (xs := Kd.enc (kI .i64) a0.Tickets.Geometry.Gens) (cs' := cellsOf [Kd.seg (kA 5 (kI .i64)) (Arr.set (Arr.set (Arr.set (Arr.rep 5 (0 : Int)) 0 a0.Tickets.Geometry.Blocks) 1 a0.Tickets.Geometry.Slots) 2 a0.Tickets.Geometry.Gens)]) rfl rfl (Kd.len _ _) (Spl.seg_in (p := 0) (o := Int.toNat 2 * Kd.size (kI .i64) + 0) [Kd.seg (kA 5 (kI .i64)) (Arr.set (Arr.set (Arr.rep 5 (0 : Int)) 0 a0.Tickets.Geometry.Blocks) 1 a0.Tickets.Geometry.Slots)] 0 (Kd.seg (kA 5 (kI .i64)) (Arr.set (Arr.set (Arr.set (Arr.rep 5 (0 : Int)) 0 a0.Tickets.Geometry.Blocks) 1 a0.Tickets.Geometry.Slots) 2 a0.Tickets.Geometry.Gens)) rfl rfl (Spl.arr (K := (kI .i64)) (Arr.set (Arr.set (Arr.rep 5 (0 : Int)) 0 a0.Tickets.Geometry.Blocks) 1 a0.Tickets.Geometry.Slots) 2 a0.Tickets.Geometry.Gens (by decide) (by decide) (Spl.whole ((Kd.len _ _).trans (Kd.len _ _).symm)))) (fl_cons (xs := Kd.enc (kI .i64) a0.Tickets.High) (cs' := cellsOf [Kd.seg (kA 5 (kI .i64)) (Arr.set (Arr.set (Arr.set (Arr.set (Arr.rep 5 (0 : Int)) 0 a0.Tickets.Geometry.Blocks) 1 a0.Tickets.Geometry.Slots) 2 a0.Tickets.Geometry.Gens) 3 a0.Tickets.High)]) rfl rfl (Kd.len _ _) (Spl.seg_in (p := 0) (o := Int.toNat 3 * Kd.size (kI .i64) + 0) [Kd.seg (kA 5 (kI .i64)) (Arr.set (Arr.set (Arr.set (Arr.rep 5 (0 : Int)) 0 a0.Tickets.Geometry.Blocks) 1 a0.Tickets.Geometry.Slots) 2 a0.Tickets.Geometry.Gens)] 0 (Kd.seg (kA 5 (kI .i64)) (Arr.set (Arr.set (Arr.set (Arr.set (Arr.rep 5 (0 : Int)) 0 a0.Tickets.Geometry.Blocks) 1 a0.Tickets.Geometry.Slots) 2 a0.Tickets.Geometry.Gens) 3 a0.Tickets.High)) rfl rfl (Spl.arr (K := (kI .i64)) (Arr.set (Arr.set (Arr.set (Arr.rep 5 (0 : Int)) 0 a0.Tickets.Geometry.Blocks) 1 a0.Tickets.Geometry.Slots) 2 a0.Tickets.Geometry.Gens) 3 a0.Tickets.High (by decide) (by decide) (Spl.whole ((Kd.len _ _).trans (Kd.len _ _).symm)))) (fl_cons (xs := Kd.enc (kI .i64) a0.Tickets.Free) (cs' := cellsOf [Kd.seg (kA 5 (kI .i64)) (Arr.set (Arr.set (Arr.set (Arr.set (Arr.set (Arr.rep 5 (0 : Int)) 0 a0.Tickets.Geometry.Blocks) 1 a0.Tickets.Geometry.Slots) 2 a0.Tickets.Geometry.Gens) 3 a0.Tickets.High) 4 a0.Tickets.Free)]) rfl rfl (Kd.len _ _) (Spl.seg_in (p := 0) (o := Int.toNat 4 * Kd.size (kI .i64) + 0) [Kd.seg (kA 5 (kI .i64)) (Arr.set (Arr.set (Arr.set (Arr.set (Arr.rep 5 (0 : Int)) 0 a0.Tickets.Geometry.Blocks) 1 a0.Tickets.Geometry.Slots) 2 a0.Tickets.Geometry.Gens) 3 a0.Tickets.High)] 0 (Kd.seg (kA 5 (kI .i64)) (Arr.set (Arr.set (Arr.set (Arr.set (Arr.set (Arr.rep 5 (0 : Int)) 0 a0.Tickets.Geometry.Blocks) 1 a0.Tickets.Geometry.Slots) 2 a0.Tickets.Geometry.Gens) 3 a0.Tickets.High) 4 a0.Tickets.Free)) rfl rfl (Spl.arr (K := (kI .i64)) (Arr.set (Arr.set (Arr.set (Arr.set (Arr.rep 5 (0 : Int)) 0 a0.Tickets.Geometry.Blocks) 1 a0.Tickets.Geometry.Slots) 2 a0.Tickets.Geometry.Gens) 3 a0.Tickets.High) 4 a0.Tickets.Free (by decide) (by decide) (Spl.whole ((Kd.len _ _).trans (Kd.len _ _).symm)))) fl_nil)))))) rfl rfl rfl ?_
 refine ol_val (v := .int .i64 0) (xr_move rfl rfl) rfl rfl rfl ?_
 refine ol_nil ?_
 obtain ⟨e29, l30, h31⟩ := bs h
 refine cw_mid (fun ρ' w' => ∃ v32 : Value, ∃ o33 : Own (kI .u8) 5 w' w.heap.size v32 e29, ρ' 1 = (pt G4 0) ∧ ρ' 4 = v32 ∧ Blk w' G4 110 [(sI a0.Epoch), (sI a0.Tickets.Geometry.Blocks), (sI a0.Tickets.Geometry.Slots), (sI a0.Tickets.Geometry.Gens), (sI a0.Tickets.Top), (sI a0.Tickets.High), (sI a0.Tickets.Free), (sI a0.Dir), Seg.cell V0_0 R0_0.one] ∧ Gr w w') ?_ ?_
 ·refine cw_block ?_
  refine cw_round (fun (s28 : (List Int) × Int) ρ' w' => ∃ v35 : Value, ∃ o36 : Own (kI .u8) 5 w' w.heap.size v35 s28.1, ρ' 1 = (pt G4 0) ∧ ρ' 4 = v35 ∧ ρ' 35 = aggV [Kd.seg (kA 5 (kI .i64)) (Arr.set (Arr.set (Arr.set (Arr.set (Arr.set (Arr.rep 5 (0 : Int)) 0 a0.Tickets.Geometry.Blocks) 1 a0.Tickets.Geometry.Slots) 2 a0.Tickets.Geometry.Gens) 3 a0.Tickets.High) 4 a0.Tickets.Free)] ∧ ρ' 36 = .int .i64 s28.2 ∧ Blk w' G4 110 [(sI a0.Epoch), (sI a0.Tickets.Geometry.Blocks), (sI a0.Tickets.Geometry.Slots), (sI a0.Tickets.Geometry.Gens), (sI a0.Tickets.Top), (sI a0.Tickets.High), (sI a0.Tickets.Free), (sI a0.Dir), Seg.cell V0_0 R0_0.one] ∧ Gr w w') l30 ?_ ?_
  ·skip
   exact ⟨u23, o24, rfl, rfl, rfl, rfl, b5, fB⟩
  rintro s28 x40 ρ38 w39 ⟨v35, o36, e1, e4, e35, e36, b5, fB⟩ h
  unfold super_Put.s0 at h
  refine cw_seq ?_
  refine cw_region ?_
  refine ol_val (v := .bool (decide (s28.2 < 5))) (xr_lss rfl e36 rfl) rfl rfl rfl ?_
  refine ol_nil ?_
  refine cw_seq ?_
  rcases is h with ⟨c41, h⟩ | ⟨c41, h⟩
  ·refine cw_condT rfl c41 ?_
   refine cw_skip ?_
   refine cw_seq ?_
   refine cw_block ?_
   refine cw_seq ?_
   refine cw_region ?_
   obtain ⟨g42, h⟩ := gs h
   refine ol_val (v := .int .i64 (Arr.get (Arr.set (Arr.set (Arr.set (Arr.set (Arr.set (Arr.rep 5 (0 : Int)) 0 a0.Tickets.Geometry.Blocks) 1 a0.Tickets.Geometry.Slots) 2 a0.Tickets.Geometry.Gens) 3 a0.Tickets.High) 4 a0.Tickets.Free) s28.2)) (xr_indexArr1 (K := (kI .i64)) (a := (Arr.set (Arr.set (Arr.set (Arr.set (Arr.set (Arr.rep 5 (0 : Int)) 0 a0.Tickets.Geometry.Blocks) 1 a0.Tickets.Geometry.Slots) 2 a0.Tickets.Geometry.Gens) 3 a0.Tickets.High) 4 a0.Tickets.Free)) (v := .int .i64 (Arr.get (Arr.set (Arr.set (Arr.set (Arr.set (Arr.set (Arr.rep 5 (0 : Int)) 0 a0.Tickets.Geometry.Blocks) 1 a0.Tickets.Geometry.Slots) 2 a0.Tickets.Geometry.Gens) 3 a0.Tickets.High) 4 a0.Tickets.Free) s28.2)) rfl Try.underlying193 ag3 sz3 e35 e36 rfl g42.1 g42.2 rfl) rfl rfl rfl ?_
   refine ol_val (v := .int .i64 (Arr.get (Arr.set (Arr.set (Arr.set (Arr.set (Arr.set (Arr.rep 5 (0 : Int)) 0 a0.Tickets.Geometry.Blocks) 1 a0.Tickets.Geometry.Slots) 2 a0.Tickets.Geometry.Gens) 3 a0.Tickets.High) 4 a0.Tickets.Free) s28.2)) (xr_assign rfl rfl) rfl rfl rfl ?_
   refine ol_nil ?_
   refine cw_region ?_
   refine ol_val (v := v35) (xr_move rfl e4) rfl rfl rfl ?_
   refine ol_val (v := .int .i64 (Arr.get (Arr.set (Arr.set (Arr.set (Arr.set (Arr.set (Arr.rep 5 (0 : Int)) 0 a0.Tickets.Geometry.Blocks) 1 a0.Tickets.Geometry.Slots) 2 a0.Tickets.Geometry.Gens) 3 a0.Tickets.High) 4 a0.Tickets.Free) s28.2)) (xr_move rfl rfl) rfl rfl rfl ?_
   refine ol_val (v := .int .u64 (IntKind.u64.wrap (Arr.get (Arr.set (Arr.set (Arr.set (Arr.set (Arr.set (Arr.rep 5 (0 : Int)) 0 a0.Tickets.Geometry.Blocks) 1 a0.Tickets.Geometry.Slots) 2 a0.Tickets.Geometry.Gens) 3 a0.Tickets.High) 4 a0.Tickets.Free) s28.2))) (xr_conv rfl Try.underlying3 Try.underlying22 rfl) rfl rfl rfl ?_
   obtain ⟨t43, k44, h⟩ := bs h
   refine ol_op (opv_call rfl cal128 (ac rfl (ac rfl an)) (octet_Lay.ok fu _ (IntKind.u64.wrap (Arr.get (Arr.set (Arr.set (Arr.set (Arr.set (Arr.set (Arr.rep 5 (0 : Int)) 0 a0.Tickets.Geometry.Blocks) 1 a0.Tickets.Geometry.Slots) 2 a0.Tickets.Geometry.Gens) 3 a0.Tickets.High) 4 a0.Tickets.Free) s28.2)) 4 _ k44)) rfl rfl rfl ?_
   rintro u45 w49 ⟨_, o46, rfl, q48⟩
   have a50 := OffV.call o36 o46
   have o46 := Own.base o46 fB.size
   have b5 := b5.gr q48
   have o36 := o36.gr q48
   have fB := fB.gr q48
   obtain ⟨g55, h⟩ := gs h
   have f57 := off_ty b5 o36 (by decide)
   have f58 := o36.geO
   refine ol_op (opv_append (K := (kI .u8)) rfl Try.underlying43 el5 rfl rfl rfl rfl rfl o36 o46.rd g55 fB.size) rfl rfl rfl ?_
   rintro v51 w59 ⟨o52, q53, n54⟩
   have b5 := b5.wrO q53 f57
   have fB := fB.wrO q53 f58
   refine ol_val (v := v51) (xr_assign rfl rfl) rfl rfl rfl ?_
   refine ol_nil ?_
   refine blk_i ?_
   refine cw_region ?_
   refine ol_val (v := .int .i64 (IntKind.i64.wrap (s28.2 + 1))) (xr_add rfl e36 rfl) rfl rfl rfl ?_
   refine ol_val (v := .int .i64 (IntKind.i64.wrap (s28.2 + 1))) (xr_move rfl rfl) rfl rfl rfl ?_
   refine ol_nil ?_
   obtain rfl := Option.some.inj h
   refine lp_in ?_
   exact ⟨v51, o52, e1, rfl, e35, rfl, b5, fB⟩
  refine cw_condF rfl c41 ?_
  refine cw_exit ?_
  repeat (first | with_reducible refine thn_e ?_ | with_reducible refine blk_e rfl ?_)
  obtain rfl := Option.some.inj h
  refine lp_exit ?_
  rintro rfl
  refine thn_x ?_
  exact ⟨v35, o36, e1, e4, b5, fB⟩
 rintro ρ60 w61 ⟨v32, o33, e1, e4, b5, fB⟩
 have h := h31
 refine cw_seq ?_
 refine cw_seq ?_
 refine cw_region ?_
 refine ol_val (v := (pt G4 1)) (xr_fieldAddr (p := 0) (q := 1) rfl fl110_1 e1) rfl rfl rfl ?_
 refine ol_val (v := (pt G4 4)) (xr_fieldAddr (p := 1) (q := 3) rfl fl108_1 rfl) rfl rfl rfl ?_
 refine ol_val (v := .int .i64 a0.Tickets.Top) (xr_load1 (v := .int .i64 a0.Tickets.Top) rfl ag3 rfl (b5.seg 4 rfl rfl)) rfl rfl rfl ?_
 refine ol_val (v := (pt G4 7)) (xr_fieldAddr (p := 0) (q := 7) rfl fl110_2 e1) rfl rfl rfl ?_
 refine ol_val (v := .int .i64 a0.Dir) (xr_load1 (v := .int .i64 a0.Dir) rfl ag3 rfl (b5.seg 7 rfl rfl)) rfl rfl rfl ?_
 refine ol_op (opv_buildSlice (K := (kI .i64)) (xs := [a0.Tickets.Top, a0.Dir]) (vals := [.int .i64 a0.Tickets.Top, .int .i64 a0.Dir]) rfl Try.underlying25 el3 rfl rfl ⟨rfl, rfl, ⟨rfl, rfl, trivial⟩⟩ rfl rfl rfl fB.size) rfl rfl rfl ?_
 rintro v62 w67 ⟨o64, q63, z65⟩
 have b5 := b5.gr q63
 have o33 := o33.gr q63
 have fB := fB.gr q63
 refine ol_val (v := (pt G4 8)) (xr_fieldAddr (p := 0) (q := 8) rfl fl110_3 e1) rfl rfl rfl ?_
 refine ol_val (v := V0_0) (xr_load1 (v := V0_0) rfl ag25 rfl (b5.seg 8 rfl rfl)) rfl rfl rfl ?_
 obtain ⟨g72, h⟩ := gs h
 have f74 := off_ty b5 o64 (by decide)
 have f75 := OffV.ty o33 o64 (by decide)
 have f76 := o64.geO
 refine ol_op (opv_append (K := (kI .i64)) rfl Try.underlying25 el3 rfl rfl rfl rfl rfl o64 (R0_0.gr fB) g72 fB.size) rfl rfl rfl ?_
 rintro v68 w77 ⟨o69, q70, n71⟩
 have b5 := b5.wrO q70 f74
 have o33 := o33.wrV q70 f75
 have fB := fB.wrO q70 f76
 refine ol_val (v := .int .i64 (List.length ([a0.Tickets.Top, a0.Dir] ++ a0.Charts) : Int)) (xr_lenR rfl Try.underlying25 rfl o69.rd) rfl rfl rfl ?_
 refine ol_val (v := .int .i64 0) (xr_move rfl rfl) rfl rfl rfl ?_
 refine ol_nil ?_
 obtain ⟨e79, l80, h81⟩ := bs h
 refine cw_mid (fun ρ' w' => ∃ v82 : Value, ∃ o83 : Own (kI .u8) 5 w' w.heap.size v82 e79, ρ' 1 = (pt G4 0) ∧ ρ' 4 = v82 ∧ Blk w' G4 110 [(sI a0.Epoch), (sI a0.Tickets.Geometry.Blocks), (sI a0.Tickets.Geometry.Slots), (sI a0.Tickets.Geometry.Gens), (sI a0.Tickets.Top), (sI a0.Tickets.High), (sI a0.Tickets.Free), (sI a0.Dir), Seg.cell V0_0 R0_0.one] ∧ Gr w w') ?_ ?_
 ·refine cw_block ?_
  refine cw_round (fun (s78 : (List Int) × Int) ρ' w' => ∃ v85 : Value, ∃ o69 : Own (kI .i64) 3 w' w.heap.size v68 ([a0.Tickets.Top, a0.Dir] ++ a0.Charts), ∃ o86 : Own (kI .u8) 5 w' w.heap.size v85 s78.1, ρ' 1 = (pt G4 0) ∧ ρ' 4 = v85 ∧ ρ' 53 = v68 ∧ ρ' 54 = .int .i64 (List.length ([a0.Tickets.Top, a0.Dir] ++ a0.Charts) : Int) ∧ ρ' 55 = .int .i64 s78.2 ∧ Blk w' G4 110 [(sI a0.Epoch), (sI a0.Tickets.Geometry.Blocks), (sI a0.Tickets.Geometry.Slots), (sI a0.Tickets.Geometry.Gens), (sI a0.Tickets.Top), (sI a0.Tickets.High), (sI a0.Tickets.Free), (sI a0.Dir), Seg.cell V0_0 R0_0.one] ∧ Gr w w') l80 ?_ ?_
  ·skip
   exact ⟨v32, o69, o33, e1, e4, rfl, rfl, rfl, b5, fB⟩
  rintro s78 x90 ρ88 w89 ⟨v85, o69, o86, e1, e4, e53, e54, e55, b5, fB⟩ h
  unfold super_Put.s1 at h
  refine cw_seq ?_
  refine cw_region ?_
  refine ol_val (v := .bool (decide (s78.2 < (List.length ([a0.Tickets.Top, a0.Dir] ++ a0.Charts) : Int)))) (xr_lss rfl e55 e54) rfl rfl rfl ?_
  refine ol_nil ?_
  refine cw_seq ?_
  rcases is h with ⟨c91, h⟩ | ⟨c91, h⟩
  ·refine cw_condT rfl c91 ?_
   refine cw_skip ?_
   refine cw_seq ?_
   refine cw_block ?_
   refine cw_seq ?_
   refine cw_region ?_
   obtain ⟨g92, h⟩ := gs h
   refine ol_val (v := (pt ((sb v68)) (so v68 + Int.toNat s78.2 * 1))) (xr_indexR (K := (kI .i64)) (v := v68) rfl Try.underlying25 sz3 e53 o69.rd e55 g92.1 g92.2) rfl rfl rfl ?_
   refine ol_val (v := .int .i64 (ix ([a0.Tickets.Top, a0.Dir] ++ a0.Charts) s78.2)) (xr_load1 (v := .int .i64 (ix ([a0.Tickets.Top, a0.Dir] ++ a0.Charts) s78.2)) rfl ag3 rfl (o69.rd.elem g92.1 g92.2)) rfl rfl rfl ?_
   refine ol_val (v := .int .i64 (ix ([a0.Tickets.Top, a0.Dir] ++ a0.Charts) s78.2)) (xr_assign rfl rfl) rfl rfl rfl ?_
   refine ol_nil ?_
   refine cw_region ?_
   refine ol_val (v := v85) (xr_move rfl e4) rfl rfl rfl ?_
   refine ol_val (v := .int .i64 (ix ([a0.Tickets.Top, a0.Dir] ++ a0.Charts) s78.2)) (xr_move rfl rfl) rfl rfl rfl ?_
   refine ol_val (v := .int .u64 (IntKind.u64.wrap (ix ([a0.Tickets.Top, a0.Dir] ++ a0.Charts) s78.2))) (xr_conv rfl Try.underlying3 Try.underlying22 rfl) rfl rfl rfl ?_
   obtain ⟨t93, k94, h⟩ := bs h
   refine ol_op (opv_call rfl cal128 (ac rfl (ac rfl an)) (octet_Lay.ok fu _ (IntKind.u64.wrap (ix ([a0.Tickets.Top, a0.Dir] ++ a0.Charts) s78.2)) 2 _ k94)) rfl rfl rfl ?_
   rintro u95 w99 ⟨_, o96, rfl, q98⟩
   have a100 := OffV.call o86 o96
   have o96 := Own.base o96 fB.size
   have b5 := b5.gr q98
   have o69 := o69.gr q98
   have o86 := o86.gr q98
   have fB := fB.gr q98
   obtain ⟨g105, h⟩ := gs h
   have f107 := off_ty b5 o86 (by decide)
   have f108 := OffV.ty o69 o86 (by decide)
   have f109 := o86.geO
   refine ol_op (opv_append (K := (kI .u8)) rfl Try.underlying43 el5 rfl rfl rfl rfl rfl o86 o96.rd g105 fB.size) rfl rfl rfl ?_
   rintro v101 w110 ⟨o102, q103, n104⟩
   have b5 := b5.wrO q103 f107
   have o69 := o69.wrV q103 f108
   have fB := fB.wrO q103 f109
   refine ol_val (v := v101) (xr_assign rfl rfl) rfl rfl rfl ?_
   refine ol_nil ?_
   refine blk_i ?_
   refine cw_region ?_
   refine ol_val (v := .int .i64 (IntKind.i64.wrap (s78.2 + 1))) (xr_add rfl e55 rfl) rfl rfl rfl ?_
   refine ol_val (v := .int .i64 (IntKind.i64.wrap (s78.2 + 1))) (xr_move rfl rfl) rfl rfl rfl ?_
   refine ol_nil ?_
   obtain rfl := Option.some.inj h
   refine lp_in ?_
   exact ⟨v101, o69, o102, e1, rfl, e53, e54, rfl, b5, fB⟩
  refine cw_condF rfl c91 ?_
  refine cw_exit ?_
  repeat (first | with_reducible refine thn_e ?_ | with_reducible refine blk_e rfl ?_)
  obtain rfl := Option.some.inj h
  refine lp_exit ?_
  rintro rfl
  refine thn_x ?_
  exact ⟨v85, o86, e1, e4, b5, fB⟩
 rintro ρ111 w112 ⟨v82, o83, e1, e4, b5, fB⟩
 have h := h81
 refine cw_seq ?_
 refine cw_region ?_
 refine ol_val (v := (pt G4 8)) (xr_fieldAddr (p := 0) (q := 8) rfl fl110_3 e1) rfl rfl rfl ?_
 refine ol_val (v := V0_0) (xr_load1 (v := V0_0) rfl ag25 rfl (b5.seg 8 rfl rfl)) rfl rfl rfl ?_
 refine ol_val (v := .int .i64 (List.length a0.Charts : Int)) (xr_lenR rfl Try.underlying25 rfl (R0_0.gr fB)) rfl rfl rfl ?_
 refine ol_val (v := v82) (xr_move rfl e4) rfl rfl rfl ?_
 obtain ⟨t113, k114, h⟩ := bs h
 refine ol_op (opv_call rfl cal140 (ac rfl (ac rfl (ac rfl an))) (block_Seal.ok fu _ 7 (List.length a0.Charts : Int) e79 v82 (o83.rd) _ k114)) rfl rfl rfl ?_
 rintro _ w119 ⟨u115, o116, rfl, q118⟩
 have o116 := Own.base o116 fB.size
 have fB := fB.gr q118
 refine ol_val (v := u115) (xr_extract rfl rfl rfl) rfl rfl rfl ?_
 refine ol_val (v := .bool t113.2) (xr_extract rfl rfl rfl) rfl rfl rfl ?_
 refine ol_val (v := u115) (xr_assign rfl rfl) rfl rfl rfl ?_
 refine ol_val (v := .bool t113.2) (xr_assign rfl rfl) rfl rfl rfl ?_
 refine ol_nil ?_
 refine cw_ret ?_
 repeat (first | with_reducible refine thn_r ?_ | with_reducible refine blk_r ?_)
 obtain rfl := Option.some.inj h
 refine fin_ret2 Try.results120 rfl rfl ?_
 exact ⟨_, rfl, u115, o116, rfl, fB⟩
def pmem_cell_keep__i0.f (fu : Nat) (a0 : S_pmem_cell) (a1 : Int) : Option S_pmem_cell := some ((⟨a1, a0.stored, 0, false⟩ : S_pmem_cell))
theorem pmem_cell_keep__i0.ok (fu : Nat) (w : World) (a0 : S_pmem_cell) (G_0 : Nat) (T_0 : TypeId) (X_0 Y_0 : List Value) (b_0 : SubB w G_0 T_0 X_0 [Seg.cell (.int .u64 a0.lasts), Seg.cell (.int .u64 a0.stored), Seg.cell (.int .u64 a0.sent), Seg.cell (.bool a0.flushed)] Y_0) (a1 : Int) (r : S_pmem_cell) (h : pmem_cell_keep__i0.f fu a0 a1 = some r) :
  Calls Try.prog 85 (([(pt G_0 (List.length X_0)), .int .u64 a1] : List Value).toArray) w (fun e w' => ∃ v, e = .returned v ∧ v = .tuple #[] ∧ SubB w' G_0 T_0 X_0 [Seg.cell (.int .u64 r.lasts), Seg.cell (.int .u64 r.stored), Seg.cell (.int .u64 r.sent), Seg.cell (.bool r.flushed)] Y_0 ∧ Fr (fun j => j = G_0) w w') := by
 unfold pmem_cell_keep__i0.f at h
 have fB : Fr (fun j => j = G_0) w w := Fr.refl _ _
 refine calls_cw Try.func85 rfl Try.ntmps85 rfl ?_
 refine cw_seq ?_
 refine cw_region ?_
 refine ol_val (v := (pt G_0 (List.length X_0))) (xr_move rfl rfl) rfl rfl rfl ?_
 refine ol_val (v := .int .u64 a1) (xr_move rfl rfl) rfl rfl rfl ?_
 refine ol_val (v := (pt G_0 (List.length X_0))) (xr_nilCheck rfl rfl) rfl rfl rfl ?_
 refine ol_val (v := (pt G_0 (List.length X_0 + 0))) (xr_fieldAddr (p := List.length X_0) (q := 0) rfl fl142_0 rfl) rfl rfl rfl ?_
 refine ol_op0 (opv_storeSub (ss' := [Seg.cell (.int .u64 a1), Seg.cell (.int .u64 a0.stored), Seg.cell (.int .u64 a0.sent), Seg.cell (.bool a0.flushed)]) (xs := cellsOf [Seg.cell (.int .u64 a1)]) rfl sz22 rfl rfl rfl (len_cellsOf _) (one_cellsOf _) b_0 (Spl.segs _ 0 1 [Seg.cell (.int .u64 a1)] rfl rfl)) rfl rfl ?_
 rintro _ w2 ⟨b_0, q1⟩
 have fB := fB.wrS q1 rfl
 refine ol_nil ?_
 refine cw_region ?_
 refine ol_val (v := (pt G_0 (List.length X_0))) (xr_move rfl rfl) rfl rfl rfl ?_
 refine ol_val (v := (pt G_0 (List.length X_0))) (xr_move rfl rfl) rfl rfl rfl ?_
 refine ol_val (v := (pt G_0 (List.length X_0))) (xr_nilCheck rfl rfl) rfl rfl rfl ?_
 refine ol_val (v := (pt G_0 (List.length X_0 + 2))) (xr_fieldAddr (p := List.length X_0) (q := 2) rfl fl142_2 rfl) rfl rfl rfl ?_
 refine ol_op0 (opv_storeSub (ss' := [Seg.cell (.int .u64 a1), Seg.cell (.int .u64 a0.stored), Seg.cell (.int .u64 0), Seg.cell (.bool a0.flushed)]) (xs := cellsOf [Seg.cell (.int .u64 0)]) rfl sz22 rfl rfl rfl (len_cellsOf _) (one_cellsOf _) b_0 (Spl.segs _ 2 1 [Seg.cell (.int .u64 0)] rfl rfl)) rfl rfl ?_
 rintro _ w4 ⟨b_0, q3⟩
 have fB := fB.wrS q3 rfl
 refine ol_val (v := (pt G_0 (List.length X_0))) (xr_nilCheck rfl rfl) rfl rfl rfl ?_
 refine ol_val (v := (pt G_0 (List.length X_0 + 3))) (xr_fieldAddr (p := List.length X_0) (q := 3) rfl fl142_3 rfl) rfl rfl rfl ?_
 refine ol_op0 (opv_storeSub (ss' := [Seg.cell (.int .u64 a1), Seg.cell (.int .u64 a0.stored), Seg.cell (.int .u64 0), Seg.cell (.bool false)]) (xs := cellsOf [Seg.cell (.bool false)]) rfl sz4 rfl rfl rfl (len_cellsOf _) (one_cellsOf _) b_0 (Spl.segs _ 3 1 [Seg.cell (.bool false)] rfl rfl)) rfl rfl ?_
 rintro _ w6 ⟨b_0, q5⟩
 have fB := fB.wrS q5 rfl
 refine ol_nil ?_
 obtain rfl := Option.some.inj h
 refine fin_end0 Try.results85 ?_
 exact ⟨_, rfl, rfl, b_0, fB⟩
def pmem_plan_next__i0.f (fu : Nat) (a0 : S_pmem_plan) : Option (Int × S_pmem_plan) := (if (decide ((List.length a0.list : Int) = 0)) = true then some ((-1), a0) else (if 0 ≤ a0.at_ ∧ a0.at_ < (List.length a0.list : Int) then (if (List.length a0.list : Int) ≠ 0 then some ((ix a0.list a0.at_), (⟨a0.list, (Int.tmod (IntKind.i64.wrap (a0.at_ + 1)) (List.length a0.list : Int))⟩ : S_pmem_plan)) else none) else none))
theorem pmem_plan_next__i0.ok (fu : Nat) (w : World) (a0 : S_pmem_plan) (G_0 : Nat) (T_0 : TypeId) (X_0 Y_0 : List Value) (V0_0 : Value) (R0_0 : Rd (kI .i64) w V0_0 a0.list) (N0_0 : OffR V0_0 a0.list G_0) (b_0 : SubB w G_0 T_0 X_0 [Seg.cell V0_0 R0_0.one, (sI a0.at_)] Y_0) (r : Int × S_pmem_plan) (h : pmem_plan_next__i0.f fu a0 = some r) :
  Calls Try.prog 123 (([(pt G_0 (List.length X_0))] : List Value).toArray) w (fun e w' => ∃ v, e = .returned v ∧ v = .int .i64 r.1 ∧ SubB w' G_0 T_0 X_0 [Seg.cell V0_0 R0_0.one, (sI r.2.at_)] Y_0 ∧ Fr (fun j => j = G_0) w w') := by
 unfold pmem_plan_next__i0.f at h
 have fB : Fr (fun j => j = G_0) w w := Fr.refl _ _
 refine calls_cw Try.func123 rfl Try.ntmps123 rfl ?_
 refine cw_seq ?_
 refine cw_region ?_
 refine ol_val (v := .int .i64 0) (xr_assign rfl rfl) rfl rfl rfl ?_
 refine ol_nil ?_
 refine cw_seq ?_
 refine cw_seq ?_
 refine cw_region ?_
 refine ol_val (v := (pt G_0 (List.length X_0))) (xr_move rfl rfl) rfl rfl rfl ?_
 refine ol_val (v := (pt G_0 (List.length X_0))) (xr_nilCheck rfl rfl) rfl rfl rfl ?_
 refine ol_val (v := (pt G_0 (List.length X_0 + 0))) (xr_fieldAddr (p := List.length X_0) (q := 0) rfl fl137_0 rfl) rfl rfl rfl ?_
 refine ol_val (v := V0_0) (xr_load1 (v := V0_0) rfl ag25 rfl (b_0.seg 0 rfl rfl)) rfl rfl rfl ?_
 refine ol_val (v := .int .i64 (List.length a0.list : Int)) (xr_lenR rfl Try.underlying25 rfl R0_0) rfl rfl rfl ?_
 refine ol_val (v := .bool (decide ((List.length a0.list : Int) = 0))) (xr_eqI rfl Try.underlying3 rfl rfl rfl) rfl rfl rfl ?_
 refine ol_nil ?_
 rcases is h with ⟨c1, h⟩ | ⟨c1, h⟩
 ·refine cw_condT rfl c1 ?_
  refine cw_seq ?_
  refine cw_region ?_
  refine ol_val (v := .int .i64 (-1)) (xr_assign rfl rfl) rfl rfl rfl ?_
  refine ol_nil ?_
  refine cw_ret ?_
  repeat (first | with_reducible refine thn_r ?_ | with_reducible refine blk_r ?_)
  obtain rfl := Option.some.inj h
  refine fin_ret1 Try.results123 rfl ?_
  exact ⟨_, rfl, rfl, b_0, fB⟩
 refine cw_condF rfl c1 ?_
 refine cw_skip ?_
 refine cw_seq ?_
 refine cw_drawL 8 [fun vz wz => vz = ((pt G_0 (List.length X_0)) : Value), fun vz wz => vz = ((pt G_0 (List.length X_0)) : Value), fun vz wz => vz = ((pt G_0 (List.length X_0 + 0)) : Value), fun vz wz => vz = (V0_0 : Value), fun vz wz => vz = ((pt G_0 (List.length X_0)) : Value), fun vz wz => vz = ((pt G_0 (List.length X_0)) : Value), fun vz wz => vz = ((pt G_0 (List.length X_0 + 1)) : Value), fun vz wz => vz = (.int .i64 a0.at_ : Value)] mo rfl ⟨fun _ _ _ h _ => h, fun _ _ _ h _ => h, fun _ _ _ h _ => h, fun _ _ _ h _ => h, fun _ _ _ h _ => h, fun _ _ _ h _ => h, fun _ _ _ h _ => h, fun _ _ _ h _ => h, trivial⟩ ?_ ?_
 ·refine ⟨?_, ?_, ?_, ?_, ?_, ?_, ?_, ?_, trivial⟩
  ·intro ρz wz hz hk hd
   exact sk_val (v := (pt G_0 (List.length X_0))) (xr_move rfl ((hk 0 rfl).trans rfl)) rfl rfl
  ·intro ρz wz hz hk hd
   exact sk_val (v := (pt G_0 (List.length X_0))) (xr_nilCheck rfl (hd 0 rfl 10 rfl)) rfl rfl
  ·intro ρz wz hz hk hd
   exact sk_val (v := (pt G_0 (List.length X_0 + 0))) (xr_fieldAddr (p := List.length X_0) (q := 0) rfl fl137_0 (hd 1 rfl 11 rfl)) rfl rfl
  ·intro ρz wz hz hk hd
   exact sk_val (v := V0_0) (xr_load1 (v := V0_0) rfl ag25 (hd 2 rfl 12 rfl) ((b_0.gr hz).seg 0 rfl rfl)) rfl rfl
  ·intro ρz wz hz hk hd
   exact sk_val (v := (pt G_0 (List.length X_0))) (xr_move rfl ((hk 0 rfl).trans rfl)) rfl rfl
  ·intro ρz wz hz hk hd
   exact sk_val (v := (pt G_0 (List.length X_0))) (xr_nilCheck rfl (hd 4 rfl 14 rfl)) rfl rfl
  ·intro ρz wz hz hk hd
   exact sk_val (v := (pt G_0 (List.length X_0 + 1))) (xr_fieldAddr (p := List.length X_0) (q := 1) rfl fl137_1 (hd 5 rfl 15 rfl)) rfl rfl
  intro ρz wz hz hk hd
  exact sk_val (v := .int .i64 a0.at_) (xr_load1 (v := .int .i64 a0.at_) rfl ag3 (hd 6 rfl 16 rfl) ((b_0.gr hz).seg 1 rfl rfl)) rfl rfl
 intro ρ2 w3 q4 hk hd
 have e0 := (hk 0 rfl).trans rfl
 have e13 := hd 3 rfl 13 rfl
 have e17 := hd 7 rfl 17 rfl
 have b_0 := b_0.gr q4
 have R0_0 := R0_0.gr q4
 have fB := fB.gr q4
 obtain ⟨g5, h⟩ := gs h
 refine ol_val (v := (pt ((sb V0_0)) (so V0_0 + Int.toNat a0.at_ * 1))) (xr_indexR (K := (kI .i64)) (v := V0_0) rfl Try.underlying25 sz3 e13 R0_0 e17 g5.1 g5.2) rfl rfl rfl ?_
 refine ol_val (v := .int .i64 (ix a0.list a0.at_)) (xr_load1 (v := .int .i64 (ix a0.list a0.at_)) rfl ag3 rfl (R0_0.elem g5.1 g5.2)) rfl rfl rfl ?_
 refine ol_val (v := .int .i64 (ix a0.list a0.at_)) (xr_assign rfl rfl) rfl rfl rfl ?_
 refine ol_nil ?_
 refine cw_seq ?_
 obtain ⟨g6, h⟩ := gs h
 refine cw_drawL 12 [fun vz wz => vz = ((pt G_0 (List.length X_0)) : Value), fun vz wz => vz = ((pt G_0 (List.length X_0)) : Value), fun vz wz => vz = ((pt G_0 (List.length X_0)) : Value), fun vz wz => vz = ((pt G_0 (List.length X_0 + 1)) : Value), fun vz wz => vz = (.int .i64 a0.at_ : Value), fun vz wz => vz = (.int .i64 (IntKind.i64.wrap (a0.at_ + 1)) : Value), fun vz wz => vz = ((pt G_0 (List.length X_0)) : Value), fun vz wz => vz = ((pt G_0 (List.length X_0)) : Value), fun vz wz => vz = ((pt G_0 (List.length X_0 + 0)) : Value), fun vz wz => vz = (V0_0 : Value), fun vz wz => vz = (.int .i64 (List.length a0.list : Int) : Value), fun vz wz => vz = (.int .i64 (Int.tmod (IntKind.i64.wrap (a0.at_ + 1)) (List.length a0.list : Int)) : Value)] mo rfl ⟨fun _ _ _ h _ => h, fun _ _ _ h _ => h, fun _ _ _ h _ => h, fun _ _ _ h _ => h, fun _ _ _ h _ => h, fun _ _ _ h _ => h, fun _ _ _ h _ => h, fun _ _ _ h _ => h, fun _ _ _ h _ => h, fun _ _ _ h _ => h, fun _ _ _ h _ => h, fun _ _ _ h _ => h, trivial⟩ ?_ ?_
 ·refine ⟨?_, ?_, ?_, ?_, ?_, ?_, ?_, ?_, ?_, ?_, ?_, ?_, trivial⟩
  ·intro ρz wz hz hk hd
   exact sk_val (v := (pt G_0 (List.length X_0))) (xr_move rfl ((hk 0 rfl).trans e0)) rfl rfl
  ·intro ρz wz hz hk hd
   exact sk_val (v := (pt G_0 (List.length X_0))) (xr_move rfl ((hk 0 rfl).trans e0)) rfl rfl
  ·intro ρz wz hz hk hd
   exact sk_val (v := (pt G_0 (List.length X_0))) (xr_nilCheck rfl (hd 1 rfl 21 rfl)) rfl rfl
  ·intro ρz wz hz hk hd
   exact sk_val (v := (pt G_0 (List.length X_0 + 1))) (xr_fieldAddr (p := List.length X_0) (q := 1) rfl fl137_1 (hd 2 rfl 22 rfl)) rfl rfl
  ·intro ρz wz hz hk hd
   exact sk_val (v := .int .i64 a0.at_) (xr_load1 (v := .int .i64 a0.at_) rfl ag3 (hd 3 rfl 23 rfl) ((b_0.gr hz).seg 1 rfl rfl)) rfl rfl
  ·intro ρz wz hz hk hd
   exact sk_val (v := .int .i64 (IntKind.i64.wrap (a0.at_ + 1))) (xr_add rfl (hd 4 rfl 24 rfl) rfl) rfl rfl
  ·intro ρz wz hz hk hd
   exact sk_val (v := (pt G_0 (List.length X_0))) (xr_move rfl ((hk 0 rfl).trans e0)) rfl rfl
  ·intro ρz wz hz hk hd
   exact sk_val (v := (pt G_0 (List.length X_0))) (xr_nilCheck rfl (hd 6 rfl 26 rfl)) rfl rfl
  ·intro ρz wz hz hk hd
   exact sk_val (v := (pt G_0 (List.length X_0 + 0))) (xr_fieldAddr (p := List.length X_0) (q := 0) rfl fl137_0 (hd 7 rfl 27 rfl)) rfl rfl
  ·intro ρz wz hz hk hd
   exact sk_val (v := V0_0) (xr_load1 (v := V0_0) rfl ag25 (hd 8 rfl 28 rfl) ((b_0.gr hz).seg 0 rfl rfl)) rfl rfl
  ·intro ρz wz hz hk hd
   exact sk_val (v := .int .i64 (List.length a0.list : Int)) (xr_lenR rfl Try.underlying25 (hd 9 rfl 29 rfl) (R0_0.gr hz)) rfl rfl
  intro ρz wz hz hk hd
  exact sk_val (xr_rem rfl (hd 5 rfl 25 rfl) (hd 10 rfl 30 rfl) g6) rfl rfl
 intro ρ7 w8 q9 hk hd
 have e3 := (hk 3 rfl).trans rfl
 have e20 := hd 0 rfl 20 rfl
 have e31 := hd 11 rfl 31 rfl
 have b_0 := b_0.gr q9
 have R0_0 := R0_0.gr q9
 have fB := fB.gr q9
 refine ol_val (v := (pt G_0 (List.length X_0))) (xr_nilCheck rfl e20) rfl rfl rfl ?_
 refine ol_val (v := (pt G_0 (List.length X_0 + 1))) (xr_fieldAddr (p := List.length X_0) (q := 1) rfl fl137_1 rfl) rfl rfl rfl ?_
 refine ol_op0 (opv_storeSub (ss' := [Seg.cell V0_0 R0_0.one, (sI (Int.tmod (IntKind.i64.wrap (a0.at_ + 1)) (List.length a0.list : Int)))]) (xs := cellsOf [(sI (Int.tmod (IntKind.i64.wrap (a0.at_ + 1)) (List.length a0.list : Int)))]) rfl sz3 rfl e31 rfl (len_cellsOf _) (one_cellsOf _) b_0 (Spl.segs _ 1 1 [(sI (Int.tmod (IntKind.i64.wrap (a0.at_ + 1)) (List.length a0.list : Int)))] rfl rfl)) rfl rfl ?_
 rintro _ w11 ⟨b_0, q10⟩
 have R0_0 := R0_0.wr q10 N0_0
 have fB := fB.wrS q10 rfl
 refine ol_nil ?_
 refine cw_seq ?_
 refine cw_region ?_
 refine ol_val (v := .int .i64 (ix a0.list a0.at_)) (xr_move rfl e3) rfl rfl rfl ?_
 refine ol_val (v := .int .i64 (ix a0.list a0.at_)) (xr_assign rfl rfl) rfl rfl rfl ?_
 refine ol_nil ?_
 refine cw_ret ?_
 repeat (first | with_reducible refine thn_r ?_ | with_reducible refine blk_r ?_)
 obtain rfl := Option.some.inj h
 refine fin_ret1 Try.results123 rfl ?_
 exact ⟨_, rfl, rfl, b_0, fB⟩
def pmem_Device_step.f (fu : Nat) (a0 : S_pmem_Device) : Option S_pmem_Device := ((pmem_plan_next__i0.f fu a0.plan).bind fun t11 => (((if (if (decide (t11.1 ≥ 0)) = true then (decide ((List.length a0.cells : Int) > 0)) else false) = true then (if (List.length a0.cells : Int) ≠ 0 then (if 0 ≤ (Int.tmod t11.1 (List.length a0.cells : Int)) ∧ (Int.tmod t11.1 (List.length a0.cells : Int)) < (List.length a0.cells : Int) then ((pmem_cell_keep__i0.f fu (ix a0.cells (Int.tmod t11.1 (List.length a0.cells : Int))) ((ix a0.cells (Int.tmod t11.1 (List.length a0.cells : Int))).stored)).bind fun t35 => some ((List.set a0.cells (Int.toNat (Int.tmod t11.1 (List.length a0.cells : Int))) t35))) else none) else none) else some (a0.cells)) : Option (List S_pmem_cell)).bind fun x20 => (((if a0.armed = true then some ((decide ((IntKind.i64.wrap (a0.left - 1)) = 0)), (IntKind.i64.wrap (a0.left - 1))) else some (a0.off, a0.left)) : Option (Bool × Int)).bind fun x45 => some ((⟨x20, (⟨a0.plan.list, t11.2.at_⟩ : S_pmem_plan), x45.1, a0.armed, x45.2, (IntKind.i64.wrap (a0.steps + 1))⟩ : S_pmem_Device)))))
theorem pmem_Device_step.ok (fu : Nat) (w : World) (a0 : S_pmem_Device) (G_0 : Nat) (V0_0 : Value) (O0_0 : Own k_pmem_cell 142 w 0 V0_0 a0.cells) (V0_1 : Value) (O0_1 : Own (kI .i64) 3 w 0 V0_1 a0.plan.list) (b_0 : Blk w G_0 139 [Seg.cell V0_0 O0_0.one, Seg.cell V0_1 O0_1.one, (sI a0.plan.at_), Seg.cell (.bool a0.off), Seg.cell (.bool a0.armed), (sI a0.left), (sI a0.steps)]) (r : S_pmem_Device) (h : pmem_Device_step.f fu a0 = some r) :
  Calls Try.prog 84 (([(pt G_0 0)] : List Value).toArray) w (fun e w' => ∃ v, e = .returned v ∧ ∃ u1 : Value, ∃ u4 : Value, ∃ o2 : Own k_pmem_cell 142 w' 0 u1 r.cells, ∃ m3 : ∀ g, Value.ownBlock u1 = some g → w.heap.size ≤ g ∨ (g = G_0 ∨ some g = Value.ownBlock V0_0 ∨ some g = Value.ownBlock V0_1), ∃ o5 : Own (kI .i64) 3 w' 0 u4 r.plan.list, ∃ m6 : ∀ g, Value.ownBlock u4 = some g → w.heap.size ≤ g ∨ (g = G_0 ∨ some g = Value.ownBlock V0_0 ∨ some g = Value.ownBlock V0_1), v = .tuple #[] ∧ Blk w' G_0 139 [Seg.cell u1 o2.one, Seg.cell u4 o5.one, (sI r.plan.at_), Seg.cell (.bool r.off), Seg.cell (.bool r.armed), (sI r.left), (sI r.steps)] ∧ Fr (fun j => j = G_0 ∨ some j = Value.ownBlock V0_0 ∨ some j = Value.ownBlock V0_1) w w') := by
 unfold pmem_Device_step.f at h
 have fB : Fr (fun j => j = G_0 ∨ some j = Value.ownBlock V0_0 ∨ some j = Value.ownBlock V0_1) w w := Fr.refl _ _
 have M0_0 : ∀ g, Value.ownBlock V0_0 = some g → w.heap.size ≤ g ∨ (g = G_0 ∨ some g = Value.ownBlock V0_0 ∨ some g = Value.ownBlock V0_1) := fun g hg => .inr (.inr (.inl hg.symm))
 have M0_1 : ∀ g, Value.ownBlock V0_1 = some g → w.heap.size ≤ g ∨ (g = G_0 ∨ some g = Value.ownBlock V0_0 ∨ some g = Value.ownBlock V0_1) := fun g hg => .inr (.inr (.inr hg.symm))
 refine calls_cw Try.func84 rfl Try.ntmps84 rfl ?_
 refine cw_seq ?_
 refine cw_region ?_
 refine ol_val (v := (pt G_0 0)) (xr_move rfl rfl) rfl rfl rfl ?_
 refine ol_val (v := (pt G_0 0)) (xr_nilCheck rfl rfl) rfl rfl rfl ?_
 refine ol_val (v := (pt G_0 6)) (xr_fieldAddr (p := 0) (q := 6) rfl fl139_5 rfl) rfl rfl rfl ?_
 refine ol_val (v := .int .i64 a0.steps) (xr_load1 (v := .int .i64 a0.steps) rfl ag3 rfl (b_0.seg 6 rfl rfl)) rfl rfl rfl ?_
 refine ol_val (v := .int .i64 (IntKind.i64.wrap (a0.steps + 1))) (xr_add rfl rfl rfl) rfl rfl rfl ?_
 refine ol_val (v := (pt G_0 0)) (xr_nilCheck rfl rfl) rfl rfl rfl ?_
 refine ol_val (v := (pt G_0 6)) (xr_fieldAddr (p := 0) (q := 6) rfl fl139_5 rfl) rfl rfl rfl ?_
 have f8 := off_ty b_0 O0_0 (by decide)
 have f9 := off_ty b_0 O0_1 (by decide)
 refine ol_op0 (opv_store (ss' := [Seg.cell V0_0 O0_0.one, Seg.cell V0_1 O0_1.one, (sI a0.plan.at_), Seg.cell (.bool a0.off), Seg.cell (.bool a0.armed), (sI a0.left), (sI (IntKind.i64.wrap (a0.steps + 1)))]) (xs := cellsOf [(sI (IntKind.i64.wrap (a0.steps + 1)))]) rfl sz3 rfl rfl rfl (len_cellsOf _) (one_cellsOf _) b_0 (Spl.segs _ 6 1 [(sI (IntKind.i64.wrap (a0.steps + 1)))] rfl rfl)) rfl rfl ?_
 rintro _ w10 ⟨b_0, q7⟩
 have O0_0 := O0_0.wr q7 f8
 have O0_1 := O0_1.wr q7 f9
 have fB := fB.wrS q7 (.inl rfl)
 refine ol_nil ?_
 refine cw_seq ?_
 refine cw_seq ?_
 refine cw_region ?_
 refine ol_val (v := (pt G_0 0)) (xr_move rfl rfl) rfl rfl rfl ?_
 refine ol_val (v := (pt G_0 0)) (xr_nilCheck rfl rfl) rfl rfl rfl ?_
 refine ol_val (v := (pt G_0 1)) (xr_fieldAddr (p := 0) (q := 1) rfl fl139_1 rfl) rfl rfl rfl ?_
 obtain ⟨t11, k12, h⟩ := bs h
 have f15 := off_ty b_0 O0_0 (by decide)
 have f16 := off_ty b_0 O0_1 (by decide)
 refine ol_op (opv_call rfl cal123 (ac (ptrE (q := List.length (cellsOf [Seg.cell V0_0 O0_0.one])) rfl (len_cellsOf _)) an) (pmem_plan_next__i0.ok fu _ a0.plan G_0 139 (cellsOf [Seg.cell V0_0 O0_0.one]) _ V0_1 O0_1.rd (OffR.own O0_1 (off_ty b_0 O0_1 (by decide))) (b_0.sub 1 2) _ k12)) rfl rfl rfl ?_
 rintro _ w17 ⟨rfl, b14, q13⟩
 have b_0 : Blk w17 G_0 139 [Seg.cell V0_0 O0_0.one, Seg.cell V0_1 O0_1.one, (sI t11.2.at_), Seg.cell (.bool a0.off), Seg.cell (.bool a0.armed), (sI a0.left), (sI (IntKind.i64.wrap (a0.steps + 1)))] := Blk.unsub (pre := [Seg.cell V0_0 O0_0.one]) (mid := [Seg.cell V0_1 O0_1.one, (sI t11.2.at_)]) (post := [Seg.cell (.bool a0.off), Seg.cell (.bool a0.armed), (sI a0.left), (sI (IntKind.i64.wrap (a0.steps + 1)))]) b14
 have O0_0 := O0_0.wr q13 f15
 have O0_1 := O0_1.wr q13 f16
 have fB := fB.wrS q13 (.inl rfl)
 refine ol_val (v := .int .i64 t11.1) (xr_assign rfl rfl) rfl rfl rfl ?_
 refine ol_nil ?_
 refine cw_seq ?_
 refine cw_mid (fun ρ' w' => ρ' 0 = (pt G_0 0) ∧ ρ' 2 = .int .i64 t11.1 ∧ ρ' 24 = .bool (if (decide (t11.1 ≥ 0)) = true then (decide ((List.length a0.cells : Int) > 0)) else false) ∧ w17 = w') ?_ ?_
 ·skip
  refine cw_region ?_
  refine ol_val (v := .int .i64 t11.1) (xr_move rfl rfl) rfl rfl rfl ?_
  refine ol_val (v := .bool (decide (t11.1 ≥ 0))) (xr_geq rfl rfl rfl) rfl rfl rfl ?_
  refine ol_val (v := .bool (decide (t11.1 ≥ 0))) (xr_move rfl rfl) rfl rfl rfl ?_
  rcases bt (decide (t11.1 ≥ 0)) with c18 | c18
  ·skip
   refine ol_gval (v := (pt G_0 0)) (xr_move rfl rfl) rfl rfl rfl rfl rfl c18 ?_
   refine ol_gval (v := (pt G_0 0)) (xr_nilCheck rfl rfl) rfl rfl rfl rfl rfl c18 ?_
   refine ol_gval (v := (pt G_0 0)) (xr_fieldAddr (p := 0) (q := 0) rfl fl139_0 rfl) rfl rfl rfl rfl rfl c18 ?_
   refine ol_gval (v := V0_0) (xr_load1 (v := V0_0) rfl ag135 rfl (b_0.seg 0 rfl rfl)) rfl rfl rfl rfl rfl c18 ?_
   refine ol_gval (v := .int .i64 (List.length a0.cells : Int)) (xr_lenR rfl Try.underlying135 rfl O0_0.rd) rfl rfl rfl rfl rfl c18 ?_
   refine ol_gval (v := .bool (decide ((List.length a0.cells : Int) > 0))) (xr_gtr rfl rfl rfl) rfl rfl rfl rfl rfl c18 ?_
   refine ol_val (v := .bool (decide ((List.length a0.cells : Int) > 0))) (xr_pickT rfl rfl c18 rfl) rfl rfl rfl ?_
   refine ol_nil ?_
   refine thn_i ?_
   exact ⟨rfl, rfl, (rfl).trans (congrArg (fun z => (.bool z : Value)) (show (decide ((List.length a0.cells : Int) > 0)) = (if (decide (t11.1 ≥ 0)) = true then (decide ((List.length a0.cells : Int) > 0)) else false) from by rw [ite_t c18])), rfl⟩
  refine ol_gskip rfl rfl rfl rfl rfl c18 ?_
  refine ol_gskip rfl rfl rfl rfl rfl c18 ?_
  refine ol_gskip rfl rfl rfl rfl rfl c18 ?_
  refine ol_gskip rfl rfl rfl rfl rfl c18 ?_
  refine ol_gskip rfl rfl rfl rfl rfl c18 ?_
  refine ol_gskip rfl rfl rfl rfl rfl c18 ?_
  refine ol_val (v := .bool false) (xr_pickF rfl rfl c18 rfl) rfl rfl rfl ?_
  refine ol_nil ?_
  refine thn_i ?_
  exact ⟨rfl, rfl, (rfl).trans (congrArg (fun z => (.bool z : Value)) (show false = (if (decide (t11.1 ≥ 0)) = true then (decide ((List.length a0.cells : Int) > 0)) else false) from by rw [ite_f c18])), rfl⟩
 rintro ρ19 _ ⟨e0, e2, e24, rfl⟩
 obtain ⟨x20, j21, h22⟩ := bs h
 refine cw_mid (fun ρ' w' => ∃ O0_0 : Own k_pmem_cell 142 w' 0 V0_0 x20, ∃ O0_1 : Own (kI .i64) 3 w' 0 V0_1 a0.plan.list, ρ' 0 = (pt G_0 0) ∧ Blk w' G_0 139 [Seg.cell V0_0 O0_0.one, Seg.cell V0_1 O0_1.one, (sI t11.2.at_), Seg.cell (.bool a0.off), Seg.cell (.bool a0.armed), (sI a0.left), (sI (IntKind.i64.wrap (a0.steps + 1)))] ∧ Fr (fun j => j = G_0 ∨ some j = Value.ownBlock V0_0 ∨ some j = Value.ownBlock V0_1) w w') ?_ ?_
 ·have h := j21
  rcases is h with ⟨c23, h⟩ | ⟨c23, h⟩
  ·refine cw_condT e24 c23 ?_
   refine cw_seq ?_
   obtain ⟨g24, h⟩ := gs h
   refine cw_drawL 11 [fun vz wz => vz = ((pt G_0 0) : Value), fun vz wz => vz = ((pt G_0 0) : Value), fun vz wz => vz = ((pt G_0 0) : Value), fun vz wz => vz = (V0_0 : Value), fun vz wz => vz = (.int .i64 t11.1 : Value), fun vz wz => vz = ((pt G_0 0) : Value), fun vz wz => vz = ((pt G_0 0) : Value), fun vz wz => vz = ((pt G_0 0) : Value), fun vz wz => vz = (V0_0 : Value), fun vz wz => vz = (.int .i64 (List.length a0.cells : Int) : Value), fun vz wz => vz = (.int .i64 (Int.tmod t11.1 (List.length a0.cells : Int)) : Value)] mo rfl ⟨fun _ _ _ h _ => h, fun _ _ _ h _ => h, fun _ _ _ h _ => h, fun _ _ _ h _ => h, fun _ _ _ h _ => h, fun _ _ _ h _ => h, fun _ _ _ h _ => h, fun _ _ _ h _ => h, fun _ _ _ h _ => h, fun _ _ _ h _ => h, fun _ _ _ h _ => h, trivial⟩ ?_ ?_
   ·refine ⟨?_, ?_, ?_, ?_, ?_, ?_, ?_, ?_, ?_, ?_, ?_, trivial⟩
    ·intro ρz wz hz hk hd
     exact sk_val (v := (pt G_0 0)) (xr_move rfl ((hk 0 rfl).trans e0)) rfl rfl
    ·intro ρz wz hz hk hd
     exact sk_val (v := (pt G_0 0)) (xr_nilCheck rfl (hd 0 rfl 25 rfl)) rfl rfl
    ·intro ρz wz hz hk hd
     exact sk_val (v := (pt G_0 0)) (xr_fieldAddr (p := 0) (q := 0) rfl fl139_0 (hd 1 rfl 26 rfl)) rfl rfl
    ·intro ρz wz hz hk hd
     exact sk_val (v := V0_0) (xr_load1 (v := V0_0) rfl ag135 (hd 2 rfl 27 rfl) ((b_0.gr hz).seg 0 rfl rfl)) rfl rfl
    ·intro ρz wz hz hk hd
     exact sk_val (v := .int .i64 t11.1) (xr_move rfl ((hk 2 rfl).trans e2)) rfl rfl
    ·intro ρz wz hz hk hd
     exact sk_val (v := (pt G_0 0)) (xr_move rfl ((hk 0 rfl).trans e0)) rfl rfl
    ·intro ρz wz hz hk hd
     exact sk_val (v := (pt G_0 0)) (xr_nilCheck rfl (hd 5 rfl 30 rfl)) rfl rfl
    ·intro ρz wz hz hk hd
     exact sk_val (v := (pt G_0 0)) (xr_fieldAddr (p := 0) (q := 0) rfl fl139_0 (hd 6 rfl 31 rfl)) rfl rfl
    ·intro ρz wz hz hk hd
     exact sk_val (v := V0_0) (xr_load1 (v := V0_0) rfl ag135 (hd 7 rfl 32 rfl) ((b_0.gr hz).seg 0 rfl rfl)) rfl rfl
    ·intro ρz wz hz hk hd
     exact sk_val (v := .int .i64 (List.length a0.cells : Int)) (xr_lenR rfl Try.underlying135 (hd 8 rfl 33 rfl) (O0_0.gr hz).rd) rfl rfl
    intro ρz wz hz hk hd
    exact sk_val (v := .int .i64 (Int.tmod t11.1 (List.length a0.cells : Int))) (xr_rem rfl (hd 4 rfl 29 rfl) (hd 9 rfl 34 rfl) g24) rfl rfl
   intro ρ25 w26 q27 hk hd
   have e0 := (hk 0 rfl).trans e0
   have e28 := hd 3 rfl 28 rfl
   have e35 := hd 10 rfl 35 rfl
   have b_0 := b_0.gr q27
   have O0_0 := O0_0.gr q27
   have O0_1 := O0_1.gr q27
   have fB := fB.gr q27
   obtain ⟨g28, h⟩ := gs h
   refine ol_val (v := (pt ((sb V0_0)) (so V0_0 + Int.toNat (Int.tmod t11.1 (List.length a0.cells : Int)) * 4))) (xr_indexR (K := k_pmem_cell) (v := V0_0) rfl Try.underlying135 sz142 e28 O0_0.rd e35 g28.1 g28.2) rfl rfl rfl ?_
   refine ol_val (v := (pt ((sb V0_0)) (so V0_0 + Int.toNat (Int.tmod t11.1 (List.length a0.cells : Int)) * 4))) (xr_assign rfl rfl) rfl rfl rfl ?_
   refine ol_nil ?_
   refine cw_region ?_
   refine ol_val (v := (pt ((sb V0_0)) (so V0_0 + Int.toNat (Int.tmod t11.1 (List.length a0.cells : Int)) * 4))) (xr_move rfl rfl) rfl rfl rfl ?_
   refine ol_val (v := (pt ((sb V0_0)) (so V0_0 + Int.toNat (Int.tmod t11.1 (List.length a0.cells : Int)) * 4))) (xr_move rfl rfl) rfl rfl rfl ?_
   refine ol_val (v := (pt ((sb V0_0)) (so V0_0 + Int.toNat (Int.tmod t11.1 (List.length a0.cells : Int)) * 4))) (xr_nilCheck rfl rfl) rfl rfl rfl ?_
   refine ol_val (v := (pt ((sb V0_0)) (so V0_0 + Int.toNat (Int.tmod t11.1 (List.length a0.cells : Int)) * 4 + 1))) (xr_fieldAddr (p := so V0_0 + Int.toNat (Int.tmod t11.1 (List.length a0.cells : Int)) * 4) (q := 1) rfl fl142_1 rfl) rfl rfl rfl ?_
   refine ol_val (v := .int .u64 ((ix a0.cells (Int.tmod t11.1 (List.length a0.cells : Int))).stored)) (xr_load1 (v := .int .u64 ((ix a0.cells (Int.tmod t11.1 (List.length a0.cells : Int))).stored)) rfl ag22 rfl (At.segs (ss := segs_pmem_cell (ix a0.cells (Int.tmod t11.1 (List.length a0.cells : Int)))) (O0_0.rd.elem g28.1 g28.2) 1 1 rfl)) rfl rfl rfl ?_
   obtain ⟨t35, k36, h⟩ := bs h
   have f39 := off_ty b_0 O0_0 (by decide)
   have f40 := OffV.ty O0_1 O0_0 (by decide)
   obtain ⟨X29, Y30, h31, h32, b33, k34⟩ := Own.sub (K := k_pmem_cell) (i := (Int.tmod t11.1 (List.length a0.cells : Int))) (ss := [Seg.cell (.int .u64 ((ix a0.cells (Int.tmod t11.1 (List.length a0.cells : Int))).lasts)), Seg.cell (.int .u64 ((ix a0.cells (Int.tmod t11.1 (List.length a0.cells : Int))).stored)), Seg.cell (.int .u64 ((ix a0.cells (Int.tmod t11.1 (List.length a0.cells : Int))).sent)), Seg.cell (.bool ((ix a0.cells (Int.tmod t11.1 (List.length a0.cells : Int))).flushed))]) O0_0 g28.1 g28.2 rfl
   refine ol_op (opv_call rfl cal85 (ac (ptrE (q := List.length X29) rfl h31) (ac rfl an)) (pmem_cell_keep__i0.ok fu _ (ix a0.cells (Int.tmod t11.1 (List.length a0.cells : Int))) (sb V0_0) 142 X29 Y30 b33 ((ix a0.cells (Int.tmod t11.1 (List.length a0.cells : Int))).stored) _ k36)) rfl rfl rfl ?_
   rintro _ w42 ⟨rfl, b38, q37⟩
   have O0_0 := k34 _ t35 [Seg.cell (.int .u64 t35.lasts), Seg.cell (.int .u64 t35.stored), Seg.cell (.int .u64 t35.sent), Seg.cell (.bool t35.flushed)] rfl b38
   have q37 := fr_own q37 h32
   have b_0 := b_0.wrO q37 f39
   have O0_1 := O0_1.wrV q37 f40
   have fB := fB.wrM q37 M0_0
   refine ol_nil ?_
   obtain rfl := Option.some.inj h
   refine thn_i ?_
   exact ⟨O0_0, O0_1, e0, b_0, fB⟩
  refine cw_condF e24 c23 ?_
  refine cw_skip ?_
  obtain rfl := Option.some.inj h
  refine thn_i ?_
  exact ⟨O0_0, O0_1, e0, b_0, fB⟩
 rintro ρ43 w44 ⟨O0_0, O0_1, e0, b_0, fB⟩
 have h := h22
 refine cw_seq ?_
 refine cw_region ?_
 refine ol_val (v := (pt G_0 0)) (xr_move rfl e0) rfl rfl rfl ?_
 refine ol_val (v := (pt G_0 0)) (xr_nilCheck rfl rfl) rfl rfl rfl ?_
 refine ol_val (v := (pt G_0 4)) (xr_fieldAddr (p := 0) (q := 4) rfl fl139_3 rfl) rfl rfl rfl ?_
 refine ol_val (v := .bool a0.armed) (xr_load1 (v := .bool a0.armed) rfl ag4 rfl (b_0.seg 4 rfl rfl)) rfl rfl rfl ?_
 refine ol_nil ?_
 obtain ⟨x45, j46, h47⟩ := bs h
 refine cw_mid (fun ρ' w' => ∃ O0_0 : Own k_pmem_cell 142 w' 0 V0_0 x20, ∃ O0_1 : Own (kI .i64) 3 w' 0 V0_1 a0.plan.list, Blk w' G_0 139 [Seg.cell V0_0 O0_0.one, Seg.cell V0_1 O0_1.one, (sI t11.2.at_), Seg.cell (.bool x45.1), Seg.cell (.bool a0.armed), (sI x45.2), (sI (IntKind.i64.wrap (a0.steps + 1)))] ∧ Fr (fun j => j = G_0 ∨ some j = Value.ownBlock V0_0 ∨ some j = Value.ownBlock V0_1) w w') ?_ ?_
 ·have h := j46
  rcases is h with ⟨c48, h⟩ | ⟨c48, h⟩
  ·refine cw_condT rfl c48 ?_
   refine cw_seq ?_
   refine cw_region ?_
   refine ol_val (v := (pt G_0 0)) (xr_move rfl e0) rfl rfl rfl ?_
   refine ol_val (v := (pt G_0 0)) (xr_nilCheck rfl rfl) rfl rfl rfl ?_
   refine ol_val (v := (pt G_0 5)) (xr_fieldAddr (p := 0) (q := 5) rfl fl139_4 rfl) rfl rfl rfl ?_
   refine ol_val (v := .int .i64 a0.left) (xr_load1 (v := .int .i64 a0.left) rfl ag3 rfl (b_0.seg 5 rfl rfl)) rfl rfl rfl ?_
   refine ol_val (v := .int .i64 (IntKind.i64.wrap (a0.left - 1))) (xr_sub rfl rfl rfl) rfl rfl rfl ?_
   refine ol_val (v := (pt G_0 0)) (xr_nilCheck rfl rfl) rfl rfl rfl ?_
   refine ol_val (v := (pt G_0 5)) (xr_fieldAddr (p := 0) (q := 5) rfl fl139_4 rfl) rfl rfl rfl ?_
   have f50 := off_ty b_0 O0_0 (by decide)
   have f51 := off_ty b_0 O0_1 (by decide)
   refine ol_op0 (opv_store (ss' := [Seg.cell V0_0 O0_0.one, Seg.cell V0_1 O0_1.one, (sI t11.2.at_), Seg.cell (.bool a0.off), Seg.cell (.bool a0.armed), (sI (IntKind.i64.wrap (a0.left - 1))), (sI (IntKind.i64.wrap (a0.steps + 1)))]) (xs := cellsOf [(sI (IntKind.i64.wrap (a0.left - 1)))]) rfl sz3 rfl rfl rfl (len_cellsOf _) (one_cellsOf _) b_0 (Spl.segs _ 5 1 [(sI (IntKind.i64.wrap (a0.left - 1)))] rfl rfl)) rfl rfl ?_
   rintro _ w52 ⟨b_0, q49⟩
   have O0_0 := O0_0.wr q49 f50
   have O0_1 := O0_1.wr q49 f51
   have fB := fB.wrS q49 (.inl rfl)
   refine ol_nil ?_
   refine cw_region ?_
   refine ol_val (v := (pt G_0 0)) (xr_move rfl e0) rfl rfl rfl ?_
   refine ol_val (v := (pt G_0 0)) (xr_move rfl e0) rfl rfl rfl ?_
   refine ol_val (v := (pt G_0 0)) (xr_nilCheck rfl rfl) rfl rfl rfl ?_
   refine ol_val (v := (pt G_0 5)) (xr_fieldAddr (p := 0) (q := 5) rfl fl139_4 rfl) rfl rfl rfl ?_
   refine ol_val (v := .int .i64 (IntKind.i64.wrap (a0.left - 1))) (xr_load1 (v := .int .i64 (IntKind.i64.wrap (a0.left - 1))) rfl ag3 rfl (b_0.seg 5 rfl rfl)) rfl rfl rfl ?_
   refine ol_val (v := .bool (decide ((IntKind.i64.wrap (a0.left - 1)) = 0))) (xr_eqI rfl Try.underlying3 rfl rfl rfl) rfl rfl rfl ?_
   refine ol_val (v := (pt G_0 0)) (xr_nilCheck rfl rfl) rfl rfl rfl ?_
   refine ol_val (v := (pt G_0 3)) (xr_fieldAddr (p := 0) (q := 3) rfl fl139_2 rfl) rfl rfl rfl ?_
   have f54 := off_ty b_0 O0_0 (by decide)
   have f55 := off_ty b_0 O0_1 (by decide)
   refine ol_op0 (opv_store (ss' := [Seg.cell V0_0 O0_0.one, Seg.cell V0_1 O0_1.one, (sI t11.2.at_), Seg.cell (.bool (decide ((IntKind.i64.wrap (a0.left - 1)) = 0))), Seg.cell (.bool a0.armed), (sI (IntKind.i64.wrap (a0.left - 1))), (sI (IntKind.i64.wrap (a0.steps + 1)))]) (xs := cellsOf [Seg.cell (.bool (decide ((IntKind.i64.wrap (a0.left - 1)) = 0)))]) rfl sz4 rfl rfl rfl (len_cellsOf _) (one_cellsOf _) b_0 (Spl.segs _ 3 1 [Seg.cell (.bool (decide ((IntKind.i64.wrap (a0.left - 1)) = 0)))] rfl rfl)) rfl rfl ?_
   rintro _ w56 ⟨b_0, q53⟩
   have O0_0 := O0_0.wr q53 f54
   have O0_1 := O0_1.wr q53 f55
   have fB := fB.wrS q53 (.inl rfl)
   refine ol_nil ?_
   obtain rfl := Option.some.inj h
   refine thn_i ?_
   exact ⟨O0_0, O0_1, b_0, fB⟩
  refine cw_condF rfl c48 ?_
  refine cw_skip ?_
  obtain rfl := Option.some.inj h
  refine thn_i ?_
  exact ⟨O0_0, O0_1, b_0, fB⟩
 rintro ρ57 w58 ⟨O0_0, O0_1, b_0, fB⟩
 have h := h47
 obtain rfl := Option.some.inj h
 refine fin_end0 Try.results84 ?_
 exact ⟨_, rfl, V0_0, V0_1, O0_0, M0_0, O0_1, M0_1, rfl, b_0, fB⟩
def pmem_Device_Fence.s0 (fu : Nat) (a0 : S_pmem_Device) : (Int × (List S_pmem_cell)) → Option (Sum (List S_pmem_cell) (Int × (List S_pmem_cell))) := fun s12 => (if (decide (s12.1 < (List.length a0.cells : Int))) = true then (if 0 ≤ s12.1 ∧ s12.1 < (List.length s12.2 : Int) then (((if (ix s12.2 s12.1).flushed = true then ((pmem_cell_keep__i0.f fu (ix s12.2 s12.1) ((ix s12.2 s12.1).sent)).bind fun t31 => some ((List.set s12.2 (Int.toNat s12.1) t31))) else some (s12.2)) : Option (List S_pmem_cell)).bind fun x21 => some (Sum.inr ((IntKind.i64.wrap (s12.1 + 1)), x21))) else none) else some (Sum.inl (s12.2)))
def pmem_Device_Fence.f (fu : Nat) (a0 : S_pmem_Device) : Option (Int × S_pmem_Device) := ((pmem_Device_may.f fu a0 0 1).bind fun t7 => (if (!decide (t7 = 0)) = true then some (t7, a0) else ((loopM (pmem_Device_Fence.s0 fu a0) fu (0, a0.cells)).bind fun e13 => ((pmem_Device_step.f fu (⟨e13, a0.plan, a0.off, a0.armed, a0.left, a0.steps⟩ : S_pmem_Device)).bind fun t43 => some (0, t43)))))
theorem pmem_Device_Fence.ok (fu : Nat) (w : World) (a0 : S_pmem_Device) (G_0 : Nat) (V0_0 : Value) (O0_0 : Own k_pmem_cell 142 w 0 V0_0 a0.cells) (V0_1 : Value) (O0_1 : Own (kI .i64) 3 w 0 V0_1 a0.plan.list) (b_0 : Blk w G_0 139 [Seg.cell V0_0 O0_0.one, Seg.cell V0_1 O0_1.one, (sI a0.plan.at_), Seg.cell (.bool a0.off), Seg.cell (.bool a0.armed), (sI a0.left), (sI a0.steps)]) (r : Int × S_pmem_Device) (h : pmem_Device_Fence.f fu a0 = some r) :
  Calls Try.prog 30 (([(pt G_0 0)] : List Value).toArray) w (fun e w' => ∃ v, e = .returned v ∧ ∃ u1 : Value, ∃ u4 : Value, ∃ o2 : Own k_pmem_cell 142 w' 0 u1 r.2.cells, ∃ m3 : ∀ g, Value.ownBlock u1 = some g → w.heap.size ≤ g ∨ (g = G_0 ∨ some g = Value.ownBlock V0_0 ∨ some g = Value.ownBlock V0_1), ∃ o5 : Own (kI .i64) 3 w' 0 u4 r.2.plan.list, ∃ m6 : ∀ g, Value.ownBlock u4 = some g → w.heap.size ≤ g ∨ (g = G_0 ∨ some g = Value.ownBlock V0_0 ∨ some g = Value.ownBlock V0_1), v = .int .i64 r.1 ∧ Blk w' G_0 139 [Seg.cell u1 o2.one, Seg.cell u4 o5.one, (sI r.2.plan.at_), Seg.cell (.bool r.2.off), Seg.cell (.bool r.2.armed), (sI r.2.left), (sI r.2.steps)] ∧ Fr (fun j => j = G_0 ∨ some j = Value.ownBlock V0_0 ∨ some j = Value.ownBlock V0_1) w w') := by
 unfold pmem_Device_Fence.f at h
 have fB : Fr (fun j => j = G_0 ∨ some j = Value.ownBlock V0_0 ∨ some j = Value.ownBlock V0_1) w w := Fr.refl _ _
 have M0_0 : ∀ g, Value.ownBlock V0_0 = some g → w.heap.size ≤ g ∨ (g = G_0 ∨ some g = Value.ownBlock V0_0 ∨ some g = Value.ownBlock V0_1) := fun g hg => .inr (.inr (.inl hg.symm))
 have M0_1 : ∀ g, Value.ownBlock V0_1 = some g → w.heap.size ≤ g ∨ (g = G_0 ∨ some g = Value.ownBlock V0_0 ∨ some g = Value.ownBlock V0_1) := fun g hg => .inr (.inr (.inr hg.symm))
 refine calls_cw Try.func30 rfl Try.ntmps30 rfl ?_
 refine cw_seq ?_
 refine cw_region ?_
 refine ol_val (v := .int .i64 0) (xr_assign rfl rfl) rfl rfl rfl ?_
 refine ol_nil ?_
 refine cw_seq ?_
 refine cw_seq ?_
 refine cw_region ?_
 refine ol_val (v := (pt G_0 0)) (xr_move rfl rfl) rfl rfl rfl ?_
 obtain ⟨t7, k8, h⟩ := bs h
 refine ol_op (opv_call rfl cal83 (ac rfl (ac rfl (ac rfl an))) (pmem_Device_may.ok fu _ a0 G_0 V0_0 (O0_0.rd) V0_1 (O0_1.rd) b_0 0 1 _ k8)) rfl rfl rfl ?_
 rintro _ w10 ⟨rfl, q9⟩
 have b_0 := b_0.gr q9
 have O0_0 := O0_0.gr q9
 have O0_1 := O0_1.gr q9
 have fB := fB.gr q9
 refine ol_val (v := .int .i64 t7) (xr_assign rfl rfl) rfl rfl rfl ?_
 refine ol_nil ?_
 refine cw_seq ?_
 refine cw_region ?_
 refine ol_val (v := .int .i64 t7) (xr_move rfl rfl) rfl rfl rfl ?_
 refine ol_val (v := .bool (!decide (t7 = 0))) (xr_neI rfl Try.underlying31 rfl rfl rfl) rfl rfl rfl ?_
 refine ol_nil ?_
 rcases is h with ⟨c11, h⟩ | ⟨c11, h⟩
 ·refine cw_condT rfl c11 ?_
  refine cw_seq ?_
  refine cw_region ?_
  refine ol_val (v := .int .i64 t7) (xr_move rfl rfl) rfl rfl rfl ?_
  refine ol_val (v := .int .i64 t7) (xr_assign rfl rfl) rfl rfl rfl ?_
  refine ol_nil ?_
  refine cw_ret ?_
  repeat (first | with_reducible refine thn_r ?_ | with_reducible refine blk_r ?_)
  obtain rfl := Option.some.inj h
  refine fin_ret1 Try.results30 rfl ?_
  exact ⟨_, rfl, V0_0, V0_1, O0_0, M0_0, O0_1, M0_1, rfl, b_0, fB⟩
 refine cw_condF rfl c11 ?_
 refine cw_skip ?_
 refine cw_seq ?_
 refine cw_seq ?_
 refine cw_region ?_
 refine ol_val (v := (pt G_0 0)) (xr_move rfl rfl) rfl rfl rfl ?_
 refine ol_val (v := (pt G_0 0)) (xr_nilCheck rfl rfl) rfl rfl rfl ?_
 refine ol_val (v := (pt G_0 0)) (xr_fieldAddr (p := 0) (q := 0) rfl fl139_0 rfl) rfl rfl rfl ?_
 refine ol_val (v := V0_0) (xr_load1 (v := V0_0) rfl ag135 rfl (b_0.seg 0 rfl rfl)) rfl rfl rfl ?_
 refine ol_val (v := .int .i64 (List.length a0.cells : Int)) (xr_lenR rfl Try.underlying135 rfl O0_0.rd) rfl rfl rfl ?_
 refine ol_val (v := .int .i64 0) (xr_move rfl rfl) rfl rfl rfl ?_
 refine ol_nil ?_
 obtain ⟨e13, l14, h15⟩ := bs h
 refine cw_mid (fun ρ' w' => ∃ O0_0 : Own k_pmem_cell 142 w' 0 V0_0 e13, ∃ O0_1 : Own (kI .i64) 3 w' 0 V0_1 a0.plan.list, ρ' 0 = (pt G_0 0) ∧ Blk w' G_0 139 [Seg.cell V0_0 O0_0.one, Seg.cell V0_1 O0_1.one, (sI a0.plan.at_), Seg.cell (.bool a0.off), Seg.cell (.bool a0.armed), (sI a0.left), (sI a0.steps)] ∧ Fr (fun j => j = G_0 ∨ some j = Value.ownBlock V0_0 ∨ some j = Value.ownBlock V0_1) w w') ?_ ?_
 ·refine cw_block ?_
  refine cw_round (fun (s12 : Int × (List S_pmem_cell)) ρ' w' => ∃ O0_0 : Own k_pmem_cell 142 w' 0 V0_0 s12.2, ∃ O0_1 : Own (kI .i64) 3 w' 0 V0_1 a0.plan.list, ρ' 0 = (pt G_0 0) ∧ ρ' 15 = .int .i64 (List.length a0.cells : Int) ∧ ρ' 16 = .int .i64 s12.1 ∧ Blk w' G_0 139 [Seg.cell V0_0 O0_0.one, Seg.cell V0_1 O0_1.one, (sI a0.plan.at_), Seg.cell (.bool a0.off), Seg.cell (.bool a0.armed), (sI a0.left), (sI a0.steps)] ∧ Fr (fun j => j = G_0 ∨ some j = Value.ownBlock V0_0 ∨ some j = Value.ownBlock V0_1) w w') l14 ?_ ?_
  ·skip
   exact ⟨O0_0, O0_1, rfl, rfl, rfl, b_0, fB⟩
  rintro s12 x18 ρ16 w17 ⟨O0_0, O0_1, e0, e15, e16, b_0, fB⟩ h
  unfold pmem_Device_Fence.s0 at h
  refine cw_seq ?_
  refine cw_region ?_
  refine ol_val (v := .bool (decide (s12.1 < (List.length a0.cells : Int)))) (xr_lss rfl e16 e15) rfl rfl rfl ?_
  refine ol_nil ?_
  refine cw_seq ?_
  rcases is h with ⟨c19, h⟩ | ⟨c19, h⟩
  ·refine cw_condT rfl c19 ?_
   refine cw_skip ?_
   refine cw_seq ?_
   refine cw_block ?_
   refine cw_seq ?_
   refine cw_region ?_
   refine ol_val (v := .int .i64 s12.1) (xr_move rfl e16) rfl rfl rfl ?_
   refine ol_val (v := .int .i64 s12.1) (xr_assign rfl rfl) rfl rfl rfl ?_
   refine ol_nil ?_
   refine cw_seq ?_
   refine cw_region ?_
   refine ol_val (v := (pt G_0 0)) (xr_move rfl e0) rfl rfl rfl ?_
   refine ol_val (v := (pt G_0 0)) (xr_nilCheck rfl rfl) rfl rfl rfl ?_
   refine ol_val (v := (pt G_0 0)) (xr_fieldAddr (p := 0) (q := 0) rfl fl139_0 rfl) rfl rfl rfl ?_
   refine ol_val (v := V0_0) (xr_load1 (v := V0_0) rfl ag135 rfl (b_0.seg 0 rfl rfl)) rfl rfl rfl ?_
   refine ol_val (v := .int .i64 s12.1) (xr_move rfl rfl) rfl rfl rfl ?_
   obtain ⟨g20, h⟩ := gs h
   refine ol_val (v := (pt ((sb V0_0)) (so V0_0 + Int.toNat s12.1 * 4))) (xr_indexR (K := k_pmem_cell) (v := V0_0) rfl Try.underlying135 sz142 rfl O0_0.rd rfl g20.1 g20.2) rfl rfl rfl ?_
   refine ol_val (v := (pt ((sb V0_0)) (so V0_0 + Int.toNat s12.1 * 4))) (xr_assign rfl rfl) rfl rfl rfl ?_
   refine ol_nil ?_
   refine cw_seq ?_
   refine cw_region ?_
   refine ol_val (v := (pt ((sb V0_0)) (so V0_0 + Int.toNat s12.1 * 4))) (xr_move rfl rfl) rfl rfl rfl ?_
   refine ol_val (v := (pt ((sb V0_0)) (so V0_0 + Int.toNat s12.1 * 4))) (xr_nilCheck rfl rfl) rfl rfl rfl ?_
   refine ol_val (v := (pt ((sb V0_0)) (so V0_0 + Int.toNat s12.1 * 4 + 3))) (xr_fieldAddr (p := so V0_0 + Int.toNat s12.1 * 4) (q := 3) rfl fl142_3 rfl) rfl rfl rfl ?_
   refine ol_val (v := .bool ((ix s12.2 s12.1).flushed)) (xr_load1 (v := .bool ((ix s12.2 s12.1).flushed)) rfl ag4 rfl (At.segs (ss := segs_pmem_cell (ix s12.2 s12.1)) (O0_0.rd.elem g20.1 g20.2) 3 1 rfl)) rfl rfl rfl ?_
   refine ol_nil ?_
   obtain ⟨x21, j22, h23⟩ := bs h
   refine cw_mid (fun ρ' w' => ∃ O0_0 : Own k_pmem_cell 142 w' 0 V0_0 x21, ∃ O0_1 : Own (kI .i64) 3 w' 0 V0_1 a0.plan.list, ρ' 0 = (pt G_0 0) ∧ ρ' 15 = .int .i64 (List.length a0.cells : Int) ∧ ρ' 16 = .int .i64 s12.1 ∧ Blk w' G_0 139 [Seg.cell V0_0 O0_0.one, Seg.cell V0_1 O0_1.one, (sI a0.plan.at_), Seg.cell (.bool a0.off), Seg.cell (.bool a0.armed), (sI a0.left), (sI a0.steps)] ∧ Fr (fun j => j = G_0 ∨ some j = Value.ownBlock V0_0 ∨ some j = Value.ownBlock V0_1) w w') ?_ ?_
   ·have h := j22
    rcases is h with ⟨c24, h⟩ | ⟨c24, h⟩
    ·refine cw_condT rfl c24 ?_
     refine cw_region ?_
     refine ol_val (v := (pt ((sb V0_0)) (so V0_0 + Int.toNat s12.1 * 4))) (xr_move rfl rfl) rfl rfl rfl ?_
     refine ol_val (v := (pt ((sb V0_0)) (so V0_0 + Int.toNat s12.1 * 4))) (xr_move rfl rfl) rfl rfl rfl ?_
     refine ol_val (v := (pt ((sb V0_0)) (so V0_0 + Int.toNat s12.1 * 4))) (xr_nilCheck rfl rfl) rfl rfl rfl ?_
     refine ol_val (v := (pt ((sb V0_0)) (so V0_0 + Int.toNat s12.1 * 4 + 2))) (xr_fieldAddr (p := so V0_0 + Int.toNat s12.1 * 4) (q := 2) rfl fl142_2 rfl) rfl rfl rfl ?_
     refine ol_val (v := .int .u64 ((ix s12.2 s12.1).sent)) (xr_load1 (v := .int .u64 ((ix s12.2 s12.1).sent)) rfl ag22 rfl (At.segs (ss := segs_pmem_cell (ix s12.2 s12.1)) (O0_0.rd.elem g20.1 g20.2) 2 1 rfl)) rfl rfl rfl ?_
     obtain ⟨t31, k32, h⟩ := bs h
     have f35 := off_ty b_0 O0_0 (by decide)
     have f36 := OffV.ty O0_1 O0_0 (by decide)
     obtain ⟨X25, Y26, h27, h28, b29, k30⟩ := Own.sub (K := k_pmem_cell) (i := s12.1) (ss := [Seg.cell (.int .u64 ((ix s12.2 s12.1).lasts)), Seg.cell (.int .u64 ((ix s12.2 s12.1).stored)), Seg.cell (.int .u64 ((ix s12.2 s12.1).sent)), Seg.cell (.bool ((ix s12.2 s12.1).flushed))]) O0_0 g20.1 g20.2 rfl
     refine ol_op (opv_call rfl cal85 (ac (ptrE (q := List.length X25) rfl h27) (ac rfl an)) (pmem_cell_keep__i0.ok fu _ (ix s12.2 s12.1) (sb V0_0) 142 X25 Y26 b29 ((ix s12.2 s12.1).sent) _ k32)) rfl rfl rfl ?_
     rintro _ w38 ⟨rfl, b34, q33⟩
     have O0_0 := k30 _ t31 [Seg.cell (.int .u64 t31.lasts), Seg.cell (.int .u64 t31.stored), Seg.cell (.int .u64 t31.sent), Seg.cell (.bool t31.flushed)] rfl b34
     have q33 := fr_own q33 h28
     have b_0 := b_0.wrO q33 f35
     have O0_1 := O0_1.wrV q33 f36
     have fB := fB.wrM q33 M0_0
     refine ol_nil ?_
     obtain rfl := Option.some.inj h
     refine thn_i ?_
     exact ⟨O0_0, O0_1, e0, e15, e16, b_0, fB⟩
    refine cw_condF rfl c24 ?_
    refine cw_skip ?_
    obtain rfl := Option.some.inj h
    refine thn_i ?_
    exact ⟨O0_0, O0_1, e0, e15, e16, b_0, fB⟩
   rintro ρ39 w40 ⟨O0_0, O0_1, e0, e15, e16, b_0, fB⟩
   have h := h23
   refine blk_i ?_
   refine cw_region ?_
   refine ol_val (v := .int .i64 (IntKind.i64.wrap (s12.1 + 1))) (xr_add rfl e16 rfl) rfl rfl rfl ?_
   refine ol_val (v := .int .i64 (IntKind.i64.wrap (s12.1 + 1))) (xr_move rfl rfl) rfl rfl rfl ?_
   refine ol_nil ?_
   obtain rfl := Option.some.inj h
   refine lp_in ?_
   exact ⟨O0_0, O0_1, e0, e15, rfl, b_0, fB⟩
  refine cw_condF rfl c19 ?_
  refine cw_exit ?_
  repeat (first | with_reducible refine thn_e ?_ | with_reducible refine blk_e rfl ?_)
  obtain rfl := Option.some.inj h
  refine lp_exit ?_
  rintro rfl
  refine thn_x ?_
  exact ⟨O0_0, O0_1, e0, b_0, fB⟩
 rintro ρ41 w42 ⟨O0_0, O0_1, e0, b_0, fB⟩
 have h := h15
 refine cw_seq ?_
 refine cw_region ?_
 refine ol_val (v := (pt G_0 0)) (xr_move rfl e0) rfl rfl rfl ?_
 obtain ⟨t43, k44, h⟩ := bs h
 have c54 : ∀ k, (k = G_0 ∨ some k = Value.ownBlock V0_0 ∨ some k = Value.ownBlock V0_1) → (w.heap.size ≤ k ∨ (k = G_0 ∨ some k = Value.ownBlock V0_0 ∨ some k = Value.ownBlock V0_1)) := (cv_or (cv_eq (.inr (.inl rfl))) (cv_or (cv_own M0_0) (cv_own M0_1)))
 refine ol_op (opv_call rfl cal84 (ac rfl an) (pmem_Device_step.ok fu _ (⟨e13, a0.plan, a0.off, a0.armed, a0.left, a0.steps⟩ : S_pmem_Device) G_0 V0_0 (Own.base O0_0 (Nat.zero_le _)) V0_1 (Own.base O0_1 (Nat.zero_le _)) b_0 _ k44)) rfl rfl rfl ?_
 rintro _ w55 ⟨u46, u50, o47, m48, o51, m52, rfl, b_0, q45⟩
 have m48 : ∀ g, Value.ownBlock u46 = some g → w.heap.size ≤ g ∨ (g = G_0 ∨ some g = Value.ownBlock V0_0 ∨ some g = Value.ownBlock V0_1) := fun g hg => (m48 g hg).elim (fun x => .inl (Nat.le_trans fB.size x)) (c54 g)
 have m52 : ∀ g, Value.ownBlock u50 = some g → w.heap.size ≤ g ∨ (g = G_0 ∨ some g = Value.ownBlock V0_0 ∨ some g = Value.ownBlock V0_1) := fun g hg => (m52 g hg).elim (fun x => .inl (Nat.le_trans fB.size x)) (c54 g)
 have fB := fB.call q45 c54
 refine ol_nil ?_
 refine cw_seq ?_
 refine cw_region ?_
 refine ol_val (v := .int .i64 0) (xr_assign rfl rfl) rfl rfl rfl ?_
 refine ol_nil ?_
 refine cw_ret ?_
 repeat (first | with_reducible refine thn_r ?_ | with_reducible refine blk_r ?_)
 obtain rfl := Option.some.inj h
 refine fin_ret1 Try.results30 rfl ?_
 exact ⟨_, rfl, u46, u50, o47, m48, o51, m52, rfl, b_0, fB⟩
def press_Sure.f (fu : Nat) (a0 : S_pmem_Device) : Option (Int × S_pmem_Device) := ((pmem_Device_Fence.f fu a0).bind fun t7 => some (t7.1, t7.2))
theorem press_Sure.ok (fu : Nat) (w : World) (a0 : S_pmem_Device) (G_0 : Nat) (V0_0 : Value) (O0_0 : Own k_pmem_cell 142 w 0 V0_0 a0.cells) (V0_1 : Value) (O0_1 : Own (kI .i64) 3 w 0 V0_1 a0.plan.list) (b_0 : Blk w G_0 139 [Seg.cell V0_0 O0_0.one, Seg.cell V0_1 O0_1.one, (sI a0.plan.at_), Seg.cell (.bool a0.off), Seg.cell (.bool a0.armed), (sI a0.left), (sI a0.steps)]) (r : Int × S_pmem_Device) (h : press_Sure.f fu a0 = some r) :
  Calls Try.prog 54 (([(pt G_0 0)] : List Value).toArray) w (fun e w' => ∃ v, e = .returned v ∧ ∃ u1 : Value, ∃ u4 : Value, ∃ o2 : Own k_pmem_cell 142 w' 0 u1 r.2.cells, ∃ m3 : ∀ g, Value.ownBlock u1 = some g → w.heap.size ≤ g ∨ (g = G_0 ∨ some g = Value.ownBlock V0_0 ∨ some g = Value.ownBlock V0_1), ∃ o5 : Own (kI .i64) 3 w' 0 u4 r.2.plan.list, ∃ m6 : ∀ g, Value.ownBlock u4 = some g → w.heap.size ≤ g ∨ (g = G_0 ∨ some g = Value.ownBlock V0_0 ∨ some g = Value.ownBlock V0_1), v = .int .i64 r.1 ∧ Blk w' G_0 139 [Seg.cell u1 o2.one, Seg.cell u4 o5.one, (sI r.2.plan.at_), Seg.cell (.bool r.2.off), Seg.cell (.bool r.2.armed), (sI r.2.left), (sI r.2.steps)] ∧ Fr (fun j => j = G_0 ∨ some j = Value.ownBlock V0_0 ∨ some j = Value.ownBlock V0_1) w w') := by
 unfold press_Sure.f at h
 have fB : Fr (fun j => j = G_0 ∨ some j = Value.ownBlock V0_0 ∨ some j = Value.ownBlock V0_1) w w := Fr.refl _ _
 have M0_0 : ∀ g, Value.ownBlock V0_0 = some g → w.heap.size ≤ g ∨ (g = G_0 ∨ some g = Value.ownBlock V0_0 ∨ some g = Value.ownBlock V0_1) := fun g hg => .inr (.inr (.inl hg.symm))
 have M0_1 : ∀ g, Value.ownBlock V0_1 = some g → w.heap.size ≤ g ∨ (g = G_0 ∨ some g = Value.ownBlock V0_0 ∨ some g = Value.ownBlock V0_1) := fun g hg => .inr (.inr (.inr hg.symm))
 refine calls_cw Try.func54 rfl Try.ntmps54 rfl ?_
 refine cw_seq ?_
 refine cw_region ?_
 refine ol_val (v := .int .i64 0) (xr_assign rfl rfl) rfl rfl rfl ?_
 refine ol_nil ?_
 refine cw_seq ?_
 refine cw_seq ?_
 refine cw_region ?_
 refine ol_val (v := (pt G_0 0)) (xr_move rfl rfl) rfl rfl rfl ?_
 refine ol_val (v := .bool false) (xr_eqP (b := false) rfl Try.underlying30 rfl rfl (by simp) (by simp)) rfl rfl rfl ?_
 refine ol_nil ?_
 refine cw_condF rfl rfl ?_
 refine cw_skip ?_
 refine cw_seq ?_
 refine cw_region ?_
 refine ol_val (v := (pt G_0 0)) (xr_move rfl rfl) rfl rfl rfl ?_
 obtain ⟨t7, k8, h⟩ := bs h
 have c18 : ∀ k, (k = G_0 ∨ some k = Value.ownBlock V0_0 ∨ some k = Value.ownBlock V0_1) → (w.heap.size ≤ k ∨ (k = G_0 ∨ some k = Value.ownBlock V0_0 ∨ some k = Value.ownBlock V0_1)) := (cv_or (cv_eq (.inr (.inl rfl))) (cv_or (cv_own M0_0) (cv_own M0_1)))
 refine ol_op (opv_call rfl cal30 (ac rfl an) (pmem_Device_Fence.ok fu _ a0 G_0 V0_0 (Own.base O0_0 (Nat.zero_le _)) V0_1 (Own.base O0_1 (Nat.zero_le _)) b_0 _ k8)) rfl rfl rfl ?_
 rintro _ w19 ⟨u10, u14, o11, m12, o15, m16, rfl, b_0, q9⟩
 have m12 : ∀ g, Value.ownBlock u10 = some g → w.heap.size ≤ g ∨ (g = G_0 ∨ some g = Value.ownBlock V0_0 ∨ some g = Value.ownBlock V0_1) := fun g hg => (m12 g hg).elim (fun x => .inl (Nat.le_trans fB.size x)) (c18 g)
 have m16 : ∀ g, Value.ownBlock u14 = some g → w.heap.size ≤ g ∨ (g = G_0 ∨ some g = Value.ownBlock V0_0 ∨ some g = Value.ownBlock V0_1) := fun g hg => (m16 g hg).elim (fun x => .inl (Nat.le_trans fB.size x)) (c18 g)
 have fB := fB.call q9 c18
 refine ol_val (v := .int .i64 t7.1) (xr_assign rfl rfl) rfl rfl rfl ?_
 refine ol_nil ?_
 refine cw_ret ?_
 repeat (first | with_reducible refine thn_r ?_ | with_reducible refine blk_r ?_)
 obtain rfl := Option.some.inj h
 refine fin_ret1 Try.results54 rfl ?_
 exact ⟨_, rfl, u10, u14, o11, m12, o15, m16, rfl, b_0, fB⟩
def pmem_Device_Store.f (fu : Nat) (a0 : S_pmem_Device) (a1 : Int) (a2 : Int) : Option (Int × S_pmem_Device) := ((pmem_Device_may.f fu a0 a1 (List.length a0.cells : Int)).bind fun t7 => (if (!decide (t7 = 0)) = true then some (t7, a0) else (if 0 ≤ a1 ∧ a1 < (List.length a0.cells : Int) then ((pmem_Device_step.f fu (⟨(List.set a0.cells (Int.toNat a1) (⟨(ix a0.cells a1).lasts, a2, (ix a0.cells a1).sent, (ix a0.cells a1).flushed⟩ : S_pmem_cell)), a0.plan, a0.off, a0.armed, a0.left, a0.steps⟩ : S_pmem_Device)).bind fun t18 => some (0, t18)) else none)))
theorem pmem_Device_Store.ok (fu : Nat) (w : World) (a0 : S_pmem_Device) (G_0 : Nat) (V0_0 : Value) (O0_0 : Own k_pmem_cell 142 w 0 V0_0 a0.cells) (V0_1 : Value) (O0_1 : Own (kI .i64) 3 w 0 V0_1 a0.plan.list) (b_0 : Blk w G_0 139 [Seg.cell V0_0 O0_0.one, Seg.cell V0_1 O0_1.one, (sI a0.plan.at_), Seg.cell (.bool a0.off), Seg.cell (.bool a0.armed), (sI a0.left), (sI a0.steps)]) (a1 : Int) (a2 : Int) (r : Int × S_pmem_Device) (h : pmem_Device_Store.f fu a0 a1 a2 = some r) :
  Calls Try.prog 28 (([(pt G_0 0), .int .i64 a1, .int .u64 a2] : List Value).toArray) w (fun e w' => ∃ v, e = .returned v ∧ ∃ u1 : Value, ∃ u4 : Value, ∃ o2 : Own k_pmem_cell 142 w' 0 u1 r.2.cells, ∃ m3 : ∀ g, Value.ownBlock u1 = some g → w.heap.size ≤ g ∨ (g = G_0 ∨ some g = Value.ownBlock V0_0 ∨ some g = Value.ownBlock V0_1), ∃ o5 : Own (kI .i64) 3 w' 0 u4 r.2.plan.list, ∃ m6 : ∀ g, Value.ownBlock u4 = some g → w.heap.size ≤ g ∨ (g = G_0 ∨ some g = Value.ownBlock V0_0 ∨ some g = Value.ownBlock V0_1), v = .int .i64 r.1 ∧ Blk w' G_0 139 [Seg.cell u1 o2.one, Seg.cell u4 o5.one, (sI r.2.plan.at_), Seg.cell (.bool r.2.off), Seg.cell (.bool r.2.armed), (sI r.2.left), (sI r.2.steps)] ∧ Fr (fun j => j = G_0 ∨ some j = Value.ownBlock V0_0 ∨ some j = Value.ownBlock V0_1) w w') := by
 unfold pmem_Device_Store.f at h
 have fB : Fr (fun j => j = G_0 ∨ some j = Value.ownBlock V0_0 ∨ some j = Value.ownBlock V0_1) w w := Fr.refl _ _
 have M0_0 : ∀ g, Value.ownBlock V0_0 = some g → w.heap.size ≤ g ∨ (g = G_0 ∨ some g = Value.ownBlock V0_0 ∨ some g = Value.ownBlock V0_1) := fun g hg => .inr (.inr (.inl hg.symm))
 have M0_1 : ∀ g, Value.ownBlock V0_1 = some g → w.heap.size ≤ g ∨ (g = G_0 ∨ some g = Value.ownBlock V0_0 ∨ some g = Value.ownBlock V0_1) := fun g hg => .inr (.inr (.inr hg.symm))
 refine calls_cw Try.func28 rfl Try.ntmps28 rfl ?_
 refine cw_seq ?_
 refine cw_region ?_
 refine ol_val (v := .int .i64 0) (xr_assign rfl rfl) rfl rfl rfl ?_
 refine ol_nil ?_
 refine cw_seq ?_
 refine cw_seq ?_
 refine cw_region ?_
 refine ol_val (v := (pt G_0 0)) (xr_move rfl rfl) rfl rfl rfl ?_
 refine ol_val (v := .int .i64 a1) (xr_move rfl rfl) rfl rfl rfl ?_
 refine ol_val (v := (pt G_0 0)) (xr_move rfl rfl) rfl rfl rfl ?_
 refine ol_val (v := (pt G_0 0)) (xr_nilCheck rfl rfl) rfl rfl rfl ?_
 refine ol_val (v := (pt G_0 0)) (xr_fieldAddr (p := 0) (q := 0) rfl fl139_0 rfl) rfl rfl rfl ?_
 refine ol_val (v := V0_0) (xr_load1 (v := V0_0) rfl ag135 rfl (b_0.seg 0 rfl rfl)) rfl rfl rfl ?_
 refine ol_val (v := .int .i64 (List.length a0.cells : Int)) (xr_lenR rfl Try.underlying135 rfl O0_0.rd) rfl rfl rfl ?_
 obtain ⟨t7, k8, h⟩ := bs h
 refine ol_op (opv_call rfl cal83 (ac rfl (ac rfl (ac rfl an))) (pmem_Device_may.ok fu _ a0 G_0 V0_0 (O0_0.rd) V0_1 (O0_1.rd) b_0 a1 (List.length a0.cells : Int) _ k8)) rfl rfl rfl ?_
 rintro _ w10 ⟨rfl, q9⟩
 have b_0 := b_0.gr q9
 have O0_0 := O0_0.gr q9
 have O0_1 := O0_1.gr q9
 have fB := fB.gr q9
 refine ol_val (v := .int .i64 t7) (xr_assign rfl rfl) rfl rfl rfl ?_
 refine ol_nil ?_
 refine cw_seq ?_
 refine cw_region ?_
 refine ol_val (v := .int .i64 t7) (xr_move rfl rfl) rfl rfl rfl ?_
 refine ol_val (v := .bool (!decide (t7 = 0))) (xr_neI rfl Try.underlying31 rfl rfl rfl) rfl rfl rfl ?_
 refine ol_nil ?_
 rcases is h with ⟨c11, h⟩ | ⟨c11, h⟩
 ·refine cw_condT rfl c11 ?_
  refine cw_seq ?_
  refine cw_region ?_
  refine ol_val (v := .int .i64 t7) (xr_move rfl rfl) rfl rfl rfl ?_
  refine ol_val (v := .int .i64 t7) (xr_assign rfl rfl) rfl rfl rfl ?_
  refine ol_nil ?_
  refine cw_ret ?_
  repeat (first | with_reducible refine thn_r ?_ | with_reducible refine blk_r ?_)
  obtain rfl := Option.some.inj h
  refine fin_ret1 Try.results28 rfl ?_
  exact ⟨_, rfl, V0_0, V0_1, O0_0, M0_0, O0_1, M0_1, rfl, b_0, fB⟩
 refine cw_condF rfl c11 ?_
 refine cw_skip ?_
 refine cw_seq ?_
 refine cw_region ?_
 refine ol_val (v := (pt G_0 0)) (xr_move rfl rfl) rfl rfl rfl ?_
 refine ol_val (v := (pt G_0 0)) (xr_nilCheck rfl rfl) rfl rfl rfl ?_
 refine ol_val (v := (pt G_0 0)) (xr_fieldAddr (p := 0) (q := 0) rfl fl139_0 rfl) rfl rfl rfl ?_
 refine ol_val (v := V0_0) (xr_load1 (v := V0_0) rfl ag135 rfl (b_0.seg 0 rfl rfl)) rfl rfl rfl ?_
 refine ol_val (v := .int .i64 a1) (xr_move rfl rfl) rfl rfl rfl ?_
 refine ol_val (v := .int .u64 a2) (xr_move rfl rfl) rfl rfl rfl ?_
 obtain ⟨g12, h⟩ := gs h
 refine ol_val (v := (pt ((sb V0_0)) (so V0_0 + Int.toNat a1 * 4))) (xr_indexR (K := k_pmem_cell) (v := V0_0) rfl Try.underlying135 sz142 rfl O0_0.rd rfl g12.1 g12.2) rfl rfl rfl ?_
 refine ol_val (v := (pt ((sb V0_0)) (so V0_0 + Int.toNat a1 * 4 + 1))) (xr_fieldAddr (p := so V0_0 + Int.toNat a1 * 4) (q := 1) rfl fl142_1 rfl) rfl rfl rfl ?_
 have f14 := off_ty b_0 O0_0 (by decide)
 have f15 := OffV.ty O0_1 O0_0 (by decide)
 refine ol_op0 (opv_storeRow (z := (⟨(ix a0.cells a1).lasts, a2, (ix a0.cells a1).sent, (ix a0.cells a1).flushed⟩ : S_pmem_cell)) (xs := cellsOf [Seg.cell (.int .u64 a2)]) rfl sz22 rfl rfl rfl (len_cellsOf _) (one_cellsOf _) O0_0 g12.1 g12.2 (Spl.segs (segs_pmem_cell (ix a0.cells a1)) 1 1 [Seg.cell (.int .u64 a2)] rfl rfl) rfl) rfl rfl ?_
 rintro _ w17 ⟨O0_0, q13⟩
 have b_0 := b_0.wrO q13 f14
 have O0_1 := O0_1.wrV q13 f15
 have fB := fB.wrM q13 M0_0
 refine ol_nil ?_
 refine cw_seq ?_
 refine cw_region ?_
 refine ol_val (v := (pt G_0 0)) (xr_move rfl rfl) rfl rfl rfl ?_
 obtain ⟨t18, k19, h⟩ := bs h
 have c29 : ∀ k, (k = G_0 ∨ some k = Value.ownBlock V0_0 ∨ some k = Value.ownBlock V0_1) → (w.heap.size ≤ k ∨ (k = G_0 ∨ some k = Value.ownBlock V0_0 ∨ some k = Value.ownBlock V0_1)) := (cv_or (cv_eq (.inr (.inl rfl))) (cv_or (cv_own M0_0) (cv_own M0_1)))
 refine ol_op (opv_call rfl cal84 (ac rfl an) (pmem_Device_step.ok fu _ (⟨(List.set a0.cells (Int.toNat a1) (⟨(ix a0.cells a1).lasts, a2, (ix a0.cells a1).sent, (ix a0.cells a1).flushed⟩ : S_pmem_cell)), a0.plan, a0.off, a0.armed, a0.left, a0.steps⟩ : S_pmem_Device) G_0 V0_0 (Own.base O0_0 (Nat.zero_le _)) V0_1 (Own.base O0_1 (Nat.zero_le _)) b_0 _ k19)) rfl rfl rfl ?_
 rintro _ w30 ⟨u21, u25, o22, m23, o26, m27, rfl, b_0, q20⟩
 have m23 : ∀ g, Value.ownBlock u21 = some g → w.heap.size ≤ g ∨ (g = G_0 ∨ some g = Value.ownBlock V0_0 ∨ some g = Value.ownBlock V0_1) := fun g hg => (m23 g hg).elim (fun x => .inl (Nat.le_trans fB.size x)) (c29 g)
 have m27 : ∀ g, Value.ownBlock u25 = some g → w.heap.size ≤ g ∨ (g = G_0 ∨ some g = Value.ownBlock V0_0 ∨ some g = Value.ownBlock V0_1) := fun g hg => (m27 g hg).elim (fun x => .inl (Nat.le_trans fB.size x)) (c29 g)
 have fB := fB.call q20 c29
 refine ol_nil ?_
 refine cw_seq ?_
 refine cw_region ?_
 refine ol_val (v := .int .i64 0) (xr_assign rfl rfl) rfl rfl rfl ?_
 refine ol_nil ?_
 refine cw_ret ?_
 repeat (first | with_reducible refine thn_r ?_ | with_reducible refine blk_r ?_)
 obtain rfl := Option.some.inj h
 refine fin_ret1 Try.results28 rfl ?_
 exact ⟨_, rfl, u21, u25, o22, m23, o26, m27, rfl, b_0, fB⟩
def pmem_Device_Flush.s0 (fu : Nat) (a1 : Int) : (Int × (List S_pmem_cell)) → Option (Sum (List S_pmem_cell) (Int × (List S_pmem_cell))) := fun s16 => (if (decide (s16.1 < 8)) = true then (if 0 ≤ (IntKind.i64.wrap ((IntKind.i64.wrap (a1 * 8)) + s16.1)) ∧ (IntKind.i64.wrap ((IntKind.i64.wrap (a1 * 8)) + s16.1)) < (List.length s16.2 : Int) then some (Sum.inr ((IntKind.i64.wrap (s16.1 + 1)), (List.set (List.set s16.2 (Int.toNat (IntKind.i64.wrap ((IntKind.i64.wrap (a1 * 8)) + s16.1))) (⟨(ix s16.2 (IntKind.i64.wrap ((IntKind.i64.wrap (a1 * 8)) + s16.1))).lasts, (ix s16.2 (IntKind.i64.wrap ((IntKind.i64.wrap (a1 * 8)) + s16.1))).stored, (ix s16.2 (IntKind.i64.wrap ((IntKind.i64.wrap (a1 * 8)) + s16.1))).stored, (ix s16.2 (IntKind.i64.wrap ((IntKind.i64.wrap (a1 * 8)) + s16.1))).flushed⟩ : S_pmem_cell)) (Int.toNat (IntKind.i64.wrap ((IntKind.i64.wrap (a1 * 8)) + s16.1))) (⟨(ix (List.set s16.2 (Int.toNat (IntKind.i64.wrap ((IntKind.i64.wrap (a1 * 8)) + s16.1))) (⟨(ix s16.2 (IntKind.i64.wrap ((IntKind.i64.wrap (a1 * 8)) + s16.1))).lasts, (ix s16.2 (IntKind.i64.wrap ((IntKind.i64.wrap (a1 * 8)) + s16.1))).stored, (ix s16.2 (IntKind.i64.wrap ((IntKind.i64.wrap (a1 * 8)) + s16.1))).stored, (ix s16.2 (IntKind.i64.wrap ((IntKind.i64.wrap (a1 * 8)) + s16.1))).flushed⟩ : S_pmem_cell)) (IntKind.i64.wrap ((IntKind.i64.wrap (a1 * 8)) + s16.1))).lasts, (ix (List.set s16.2 (Int.toNat (IntKind.i64.wrap ((IntKind.i64.wrap (a1 * 8)) + s16.1))) (⟨(ix s16.2 (IntKind.i64.wrap ((IntKind.i64.wrap (a1 * 8)) + s16.1))).lasts, (ix s16.2 (IntKind.i64.wrap ((IntKind.i64.wrap (a1 * 8)) + s16.1))).stored, (ix s16.2 (IntKind.i64.wrap ((IntKind.i64.wrap (a1 * 8)) + s16.1))).stored, (ix s16.2 (IntKind.i64.wrap ((IntKind.i64.wrap (a1 * 8)) + s16.1))).flushed⟩ : S_pmem_cell)) (IntKind.i64.wrap ((IntKind.i64.wrap (a1 * 8)) + s16.1))).stored, (ix (List.set s16.2 (Int.toNat (IntKind.i64.wrap ((IntKind.i64.wrap (a1 * 8)) + s16.1))) (⟨(ix s16.2 (IntKind.i64.wrap ((IntKind.i64.wrap (a1 * 8)) + s16.1))).lasts, (ix s16.2 (IntKind.i64.wrap ((IntKind.i64.wrap (a1 * 8)) + s16.1))).stored, (ix s16.2 (IntKind.i64.wrap ((IntKind.i64.wrap (a1 * 8)) + s16.1))).stored, (ix s16.2 (IntKind.i64.wrap ((IntKind.i64.wrap (a1 * 8)) + s16.1))).flushed⟩ : S_pmem_cell)) (IntKind.i64.wrap ((IntKind.i64.wrap (a1 * 8)) + s16.1))).sent, true⟩ : S_pmem_cell)))) else none) else some (Sum.inl (s16.2)))
def pmem_Device_Flush.f (fu : Nat) (a0 : S_pmem_Device) (a1 : Int) : Option (Int × S_pmem_Device) := ((pmem_Device_Lines.f fu a0).bind fun t7 => ((pmem_Device_may.f fu a0 a1 t7).bind fun t11 => (if (!decide (t11 = 0)) = true then some (t11, a0) else ((loopM (pmem_Device_Flush.s0 fu a1) fu (0, a0.cells)).bind fun e17 => ((pmem_Device_step.f fu (⟨e17, a0.plan, a0.off, a0.armed, a0.left, a0.steps⟩ : S_pmem_Device)).bind fun t37 => some (0, t37))))))
theorem pmem_Device_Flush.ok (fu : Nat) (w : World) (a0 : S_pmem_Device) (G_0 : Nat) (V0_0 : Value) (O0_0 : Own k_pmem_cell 142 w 0 V0_0 a0.cells) (V0_1 : Value) (O0_1 : Own (kI .i64) 3 w 0 V0_1 a0.plan.list) (b_0 : Blk w G_0 139 [Seg.cell V0_0 O0_0.one, Seg.cell V0_1 O0_1.one, (sI a0.plan.at_), Seg.cell (.bool a0.off), Seg.cell (.bool a0.armed), (sI a0.left), (sI a0.steps)]) (a1 : Int) (r : Int × S_pmem_Device) (h : pmem_Device_Flush.f fu a0 a1 = some r) :
  Calls Try.prog 29 (([(pt G_0 0), .int .i64 a1] : List Value).toArray) w (fun e w' => ∃ v, e = .returned v ∧ ∃ u1 : Value, ∃ u4 : Value, ∃ o2 : Own k_pmem_cell 142 w' 0 u1 r.2.cells, ∃ m3 : ∀ g, Value.ownBlock u1 = some g → w.heap.size ≤ g ∨ (g = G_0 ∨ some g = Value.ownBlock V0_0 ∨ some g = Value.ownBlock V0_1), ∃ o5 : Own (kI .i64) 3 w' 0 u4 r.2.plan.list, ∃ m6 : ∀ g, Value.ownBlock u4 = some g → w.heap.size ≤ g ∨ (g = G_0 ∨ some g = Value.ownBlock V0_0 ∨ some g = Value.ownBlock V0_1), v = .int .i64 r.1 ∧ Blk w' G_0 139 [Seg.cell u1 o2.one, Seg.cell u4 o5.one, (sI r.2.plan.at_), Seg.cell (.bool r.2.off), Seg.cell (.bool r.2.armed), (sI r.2.left), (sI r.2.steps)] ∧ Fr (fun j => j = G_0 ∨ some j = Value.ownBlock V0_0 ∨ some j = Value.ownBlock V0_1) w w') := by
 unfold pmem_Device_Flush.f at h
 have fB : Fr (fun j => j = G_0 ∨ some j = Value.ownBlock V0_0 ∨ some j = Value.ownBlock V0_1) w w := Fr.refl _ _
 have M0_0 : ∀ g, Value.ownBlock V0_0 = some g → w.heap.size ≤ g ∨ (g = G_0 ∨ some g = Value.ownBlock V0_0 ∨ some g = Value.ownBlock V0_1) := fun g hg => .inr (.inr (.inl hg.symm))
 have M0_1 : ∀ g, Value.ownBlock V0_1 = some g → w.heap.size ≤ g ∨ (g = G_0 ∨ some g = Value.ownBlock V0_0 ∨ some g = Value.ownBlock V0_1) := fun g hg => .inr (.inr (.inr hg.symm))
 refine calls_cw Try.func29 rfl Try.ntmps29 rfl ?_
 refine cw_seq ?_
 refine cw_region ?_
 refine ol_val (v := .int .i64 0) (xr_assign rfl rfl) rfl rfl rfl ?_
 refine ol_nil ?_
 refine cw_seq ?_
 refine cw_seq ?_
 refine cw_region ?_
 refine ol_val (v := (pt G_0 0)) (xr_move rfl rfl) rfl rfl rfl ?_
 refine ol_val (v := .int .i64 a1) (xr_move rfl rfl) rfl rfl rfl ?_
 refine ol_val (v := (pt G_0 0)) (xr_move rfl rfl) rfl rfl rfl ?_
 obtain ⟨t7, k8, h⟩ := bs h
 refine ol_op (opv_call rfl cal43 (ac rfl an) (pmem_Device_Lines.ok fu _ a0 G_0 V0_0 (O0_0.rd) V0_1 (O0_1.rd) b_0 _ k8)) rfl rfl rfl ?_
 rintro _ w10 ⟨rfl, q9⟩
 have b_0 := b_0.gr q9
 have O0_0 := O0_0.gr q9
 have O0_1 := O0_1.gr q9
 have fB := fB.gr q9
 obtain ⟨t11, k12, h⟩ := bs h
 refine ol_op (opv_call rfl cal83 (ac rfl (ac rfl (ac rfl an))) (pmem_Device_may.ok fu _ a0 G_0 V0_0 (O0_0.rd) V0_1 (O0_1.rd) b_0 a1 t7 _ k12)) rfl rfl rfl ?_
 rintro _ w14 ⟨rfl, q13⟩
 have b_0 := b_0.gr q13
 have O0_0 := O0_0.gr q13
 have O0_1 := O0_1.gr q13
 have fB := fB.gr q13
 refine ol_val (v := .int .i64 t11) (xr_assign rfl rfl) rfl rfl rfl ?_
 refine ol_nil ?_
 refine cw_seq ?_
 refine cw_region ?_
 refine ol_val (v := .int .i64 t11) (xr_move rfl rfl) rfl rfl rfl ?_
 refine ol_val (v := .bool (!decide (t11 = 0))) (xr_neI rfl Try.underlying31 rfl rfl rfl) rfl rfl rfl ?_
 refine ol_nil ?_
 rcases is h with ⟨c15, h⟩ | ⟨c15, h⟩
 ·refine cw_condT rfl c15 ?_
  refine cw_seq ?_
  refine cw_region ?_
  refine ol_val (v := .int .i64 t11) (xr_move rfl rfl) rfl rfl rfl ?_
  refine ol_val (v := .int .i64 t11) (xr_assign rfl rfl) rfl rfl rfl ?_
  refine ol_nil ?_
  refine cw_ret ?_
  repeat (first | with_reducible refine thn_r ?_ | with_reducible refine blk_r ?_)
  obtain rfl := Option.some.inj h
  refine fin_ret1 Try.results29 rfl ?_
  exact ⟨_, rfl, V0_0, V0_1, O0_0, M0_0, O0_1, M0_1, rfl, b_0, fB⟩
 refine cw_condF rfl c15 ?_
 refine cw_skip ?_
 refine cw_seq ?_
 refine cw_seq ?_
 refine cw_region ?_
 refine ol_val (v := .int .i64 0) (xr_move rfl rfl) rfl rfl rfl ?_
 refine ol_nil ?_
 obtain ⟨e17, l18, h19⟩ := bs h
 refine cw_mid (fun ρ' w' => ∃ O0_0 : Own k_pmem_cell 142 w' 0 V0_0 e17, ∃ O0_1 : Own (kI .i64) 3 w' 0 V0_1 a0.plan.list, ρ' 0 = (pt G_0 0) ∧ Blk w' G_0 139 [Seg.cell V0_0 O0_0.one, Seg.cell V0_1 O0_1.one, (sI a0.plan.at_), Seg.cell (.bool a0.off), Seg.cell (.bool a0.armed), (sI a0.left), (sI a0.steps)] ∧ Fr (fun j => j = G_0 ∨ some j = Value.ownBlock V0_0 ∨ some j = Value.ownBlock V0_1) w w') ?_ ?_
 ·refine cw_block ?_
  refine cw_round (fun (s16 : Int × (List S_pmem_cell)) ρ' w' => ∃ O0_0 : Own k_pmem_cell 142 w' 0 V0_0 s16.2, ∃ O0_1 : Own (kI .i64) 3 w' 0 V0_1 a0.plan.list, ρ' 0 = (pt G_0 0) ∧ ρ' 1 = .int .i64 a1 ∧ ρ' 16 = .int .i64 s16.1 ∧ Blk w' G_0 139 [Seg.cell V0_0 O0_0.one, Seg.cell V0_1 O0_1.one, (sI a0.plan.at_), Seg.cell (.bool a0.off), Seg.cell (.bool a0.armed), (sI a0.left), (sI a0.steps)] ∧ Fr (fun j => j = G_0 ∨ some j = Value.ownBlock V0_0 ∨ some j = Value.ownBlock V0_1) w w') l18 ?_ ?_
  ·skip
   exact ⟨O0_0, O0_1, rfl, rfl, rfl, b_0, fB⟩
  rintro s16 x22 ρ20 w21 ⟨O0_0, O0_1, e0, e1, e16, b_0, fB⟩ h
  unfold pmem_Device_Flush.s0 at h
  refine cw_seq ?_
  refine cw_region ?_
  refine ol_val (v := .bool (decide (s16.1 < 8))) (xr_lss rfl e16 rfl) rfl rfl rfl ?_
  refine ol_nil ?_
  refine cw_seq ?_
  rcases is h with ⟨c23, h⟩ | ⟨c23, h⟩
  ·refine cw_condT rfl c23 ?_
   refine cw_skip ?_
   refine cw_seq ?_
   refine cw_block ?_
   refine cw_seq ?_
   refine cw_region ?_
   refine ol_val (v := .int .i64 s16.1) (xr_move rfl e16) rfl rfl rfl ?_
   refine ol_val (v := .int .i64 s16.1) (xr_assign rfl rfl) rfl rfl rfl ?_
   refine ol_nil ?_
   refine cw_seq ?_
   refine cw_region ?_
   refine ol_val (v := (pt G_0 0)) (xr_move rfl e0) rfl rfl rfl ?_
   refine ol_val (v := (pt G_0 0)) (xr_nilCheck rfl rfl) rfl rfl rfl ?_
   refine ol_val (v := (pt G_0 0)) (xr_fieldAddr (p := 0) (q := 0) rfl fl139_0 rfl) rfl rfl rfl ?_
   refine ol_val (v := V0_0) (xr_load1 (v := V0_0) rfl ag135 rfl (b_0.seg 0 rfl rfl)) rfl rfl rfl ?_
   refine ol_val (v := .int .i64 a1) (xr_move rfl e1) rfl rfl rfl ?_
   refine ol_val (v := .int .i64 (IntKind.i64.wrap (a1 * 8))) (xr_mul rfl rfl rfl) rfl rfl rfl ?_
   refine ol_val (v := .int .i64 s16.1) (xr_move rfl rfl) rfl rfl rfl ?_
   refine ol_val (v := .int .i64 (IntKind.i64.wrap ((IntKind.i64.wrap (a1 * 8)) + s16.1))) (xr_add rfl rfl rfl) rfl rfl rfl ?_
   obtain ⟨g24, h⟩ := gs h
   refine ol_val (v := (pt ((sb V0_0)) (so V0_0 + Int.toNat (IntKind.i64.wrap ((IntKind.i64.wrap (a1 * 8)) + s16.1)) * 4))) (xr_indexR (K := k_pmem_cell) (v := V0_0) rfl Try.underlying135 sz142 rfl O0_0.rd rfl g24.1 g24.2) rfl rfl rfl ?_
   refine ol_val (v := (pt ((sb V0_0)) (so V0_0 + Int.toNat (IntKind.i64.wrap ((IntKind.i64.wrap (a1 * 8)) + s16.1)) * 4))) (xr_assign rfl rfl) rfl rfl rfl ?_
   refine ol_nil ?_
   refine cw_region ?_
   refine ol_val (v := (pt ((sb V0_0)) (so V0_0 + Int.toNat (IntKind.i64.wrap ((IntKind.i64.wrap (a1 * 8)) + s16.1)) * 4))) (xr_move rfl rfl) rfl rfl rfl ?_
   refine ol_val (v := (pt ((sb V0_0)) (so V0_0 + Int.toNat (IntKind.i64.wrap ((IntKind.i64.wrap (a1 * 8)) + s16.1)) * 4))) (xr_move rfl rfl) rfl rfl rfl ?_
   refine ol_val (v := (pt ((sb V0_0)) (so V0_0 + Int.toNat (IntKind.i64.wrap ((IntKind.i64.wrap (a1 * 8)) + s16.1)) * 4))) (xr_move rfl rfl) rfl rfl rfl ?_
   refine ol_val (v := (pt ((sb V0_0)) (so V0_0 + Int.toNat (IntKind.i64.wrap ((IntKind.i64.wrap (a1 * 8)) + s16.1)) * 4))) (xr_nilCheck rfl rfl) rfl rfl rfl ?_
   refine ol_val (v := (pt ((sb V0_0)) (so V0_0 + Int.toNat (IntKind.i64.wrap ((IntKind.i64.wrap (a1 * 8)) + s16.1)) * 4 + 1))) (xr_fieldAddr (p := so V0_0 + Int.toNat (IntKind.i64.wrap ((IntKind.i64.wrap (a1 * 8)) + s16.1)) * 4) (q := 1) rfl fl142_1 rfl) rfl rfl rfl ?_
   refine ol_val (v := .int .u64 ((ix s16.2 (IntKind.i64.wrap ((IntKind.i64.wrap (a1 * 8)) + s16.1))).stored)) (xr_load1 (v := .int .u64 ((ix s16.2 (IntKind.i64.wrap ((IntKind.i64.wrap (a1 * 8)) + s16.1))).stored)) rfl ag22 rfl (At.segs (ss := segs_pmem_cell (ix s16.2 (IntKind.i64.wrap ((IntKind.i64.wrap (a1 * 8)) + s16.1)))) (O0_0.rd.elem g24.1 g24.2) 1 1 rfl)) rfl rfl rfl ?_
   refine ol_val (v := (pt ((sb V0_0)) (so V0_0 + Int.toNat (IntKind.i64.wrap ((IntKind.i64.wrap (a1 * 8)) + s16.1)) * 4))) (xr_nilCheck rfl rfl) rfl rfl rfl ?_
   refine ol_val (v := (pt ((sb V0_0)) (so V0_0 + Int.toNat (IntKind.i64.wrap ((IntKind.i64.wrap (a1 * 8)) + s16.1)) * 4 + 2))) (xr_fieldAddr (p := so V0_0 + Int.toNat (IntKind.i64.wrap ((IntKind.i64.wrap (a1 * 8)) + s16.1)) * 4) (q := 2) rfl fl142_2 rfl) rfl rfl rfl ?_
   have f26 := off_ty b_0 O0_0 (by decide)
   have f27 := OffV.ty O0_1 O0_0 (by decide)
   refine ol_op0 (opv_storeRow (z := (⟨(ix s16.2 (IntKind.i64.wrap ((IntKind.i64.wrap (a1 * 8)) + s16.1))).lasts, (ix s16.2 (IntKind.i64.wrap ((IntKind.i64.wrap (a1 * 8)) + s16.1))).stored, (ix s16.2 (IntKind.i64.wrap ((IntKind.i64.wrap (a1 * 8)) + s16.1))).stored, (ix s16.2 (IntKind.i64.wrap ((IntKind.i64.wrap (a1 * 8)) + s16.1))).flushed⟩ : S_pmem_cell)) (xs := cellsOf [Seg.cell (.int .u64 ((ix s16.2 (IntKind.i64.wrap ((IntKind.i64.wrap (a1 * 8)) + s16.1))).stored))]) rfl sz22 rfl rfl rfl (len_cellsOf _) (one_cellsOf _) O0_0 g24.1 g24.2 (Spl.segs (segs_pmem_cell (ix s16.2 (IntKind.i64.wrap ((IntKind.i64.wrap (a1 * 8)) + s16.1)))) 2 1 [Seg.cell (.int .u64 ((ix s16.2 (IntKind.i64.wrap ((IntKind.i64.wrap (a1 * 8)) + s16.1))).stored))] rfl rfl) rfl) rfl rfl ?_
   rintro _ w29 ⟨O0_0, q25⟩
   have b_0 := b_0.wrO q25 f26
   have O0_1 := O0_1.wrV q25 f27
   have fB := fB.wrM q25 M0_0
   refine ol_val (v := (pt ((sb V0_0)) (so V0_0 + Int.toNat (IntKind.i64.wrap ((IntKind.i64.wrap (a1 * 8)) + s16.1)) * 4))) (xr_nilCheck rfl rfl) rfl rfl rfl ?_
   refine ol_val (v := (pt ((sb V0_0)) (so V0_0 + Int.toNat (IntKind.i64.wrap ((IntKind.i64.wrap (a1 * 8)) + s16.1)) * 4 + 3))) (xr_fieldAddr (p := so V0_0 + Int.toNat (IntKind.i64.wrap ((IntKind.i64.wrap (a1 * 8)) + s16.1)) * 4) (q := 3) rfl fl142_3 rfl) rfl rfl rfl ?_
   have f31 := off_ty b_0 O0_0 (by decide)
   have f32 := OffV.ty O0_1 O0_0 (by decide)
   refine ol_op0 (opv_storeRow (z := (⟨(ix (List.set s16.2 (Int.toNat (IntKind.i64.wrap ((IntKind.i64.wrap (a1 * 8)) + s16.1))) (⟨(ix s16.2 (IntKind.i64.wrap ((IntKind.i64.wrap (a1 * 8)) + s16.1))).lasts, (ix s16.2 (IntKind.i64.wrap ((IntKind.i64.wrap (a1 * 8)) + s16.1))).stored, (ix s16.2 (IntKind.i64.wrap ((IntKind.i64.wrap (a1 * 8)) + s16.1))).stored, (ix s16.2 (IntKind.i64.wrap ((IntKind.i64.wrap (a1 * 8)) + s16.1))).flushed⟩ : S_pmem_cell)) (IntKind.i64.wrap ((IntKind.i64.wrap (a1 * 8)) + s16.1))).lasts, (ix (List.set s16.2 (Int.toNat (IntKind.i64.wrap ((IntKind.i64.wrap (a1 * 8)) + s16.1))) (⟨(ix s16.2 (IntKind.i64.wrap ((IntKind.i64.wrap (a1 * 8)) + s16.1))).lasts, (ix s16.2 (IntKind.i64.wrap ((IntKind.i64.wrap (a1 * 8)) + s16.1))).stored, (ix s16.2 (IntKind.i64.wrap ((IntKind.i64.wrap (a1 * 8)) + s16.1))).stored, (ix s16.2 (IntKind.i64.wrap ((IntKind.i64.wrap (a1 * 8)) + s16.1))).flushed⟩ : S_pmem_cell)) (IntKind.i64.wrap ((IntKind.i64.wrap (a1 * 8)) + s16.1))).stored, (ix (List.set s16.2 (Int.toNat (IntKind.i64.wrap ((IntKind.i64.wrap (a1 * 8)) + s16.1))) (⟨(ix s16.2 (IntKind.i64.wrap ((IntKind.i64.wrap (a1 * 8)) + s16.1))).lasts, (ix s16.2 (IntKind.i64.wrap ((IntKind.i64.wrap (a1 * 8)) + s16.1))).stored, (ix s16.2 (IntKind.i64.wrap ((IntKind.i64.wrap (a1 * 8)) + s16.1))).stored, (ix s16.2 (IntKind.i64.wrap ((IntKind.i64.wrap (a1 * 8)) + s16.1))).flushed⟩ : S_pmem_cell)) (IntKind.i64.wrap ((IntKind.i64.wrap (a1 * 8)) + s16.1))).sent, true⟩ : S_pmem_cell)) (xs := cellsOf [Seg.cell (.bool true)]) rfl sz4 rfl rfl rfl (len_cellsOf _) (one_cellsOf _) O0_0 g24.1 (by simpa only [List.length_set] using g24.2) (Spl.segs (segs_pmem_cell (ix (List.set s16.2 (Int.toNat (IntKind.i64.wrap ((IntKind.i64.wrap (a1 * 8)) + s16.1))) (⟨(ix s16.2 (IntKind.i64.wrap ((IntKind.i64.wrap (a1 * 8)) + s16.1))).lasts, (ix s16.2 (IntKind.i64.wrap ((IntKind.i64.wrap (a1 * 8)) + s16.1))).stored, (ix s16.2 (IntKind.i64.wrap ((IntKind.i64.wrap (a1 * 8)) + s16.1))).stored, (ix s16.2 (IntKind.i64.wrap ((IntKind.i64.wrap (a1 * 8)) + s16.1))).flushed⟩ : S_pmem_cell)) (IntKind.i64.wrap ((IntKind.i64.wrap (a1 * 8)) + s16.1)))) 3 1 [Seg.cell (.bool true)] rfl rfl) rfl) rfl rfl ?_
   rintro _ w34 ⟨O0_0, q30⟩
   have b_0 := b_0.wrO q30 f31
   have O0_1 := O0_1.wrV q30 f32
   have fB := fB.wrM q30 M0_0
   refine ol_nil ?_
   refine blk_i ?_
   refine cw_region ?_
   refine ol_val (v := .int .i64 (IntKind.i64.wrap (s16.1 + 1))) (xr_add rfl e16 rfl) rfl rfl rfl ?_
   refine ol_val (v := .int .i64 (IntKind.i64.wrap (s16.1 + 1))) (xr_move rfl rfl) rfl rfl rfl ?_
   refine ol_nil ?_
   obtain rfl := Option.some.inj h
   refine lp_in ?_
   exact ⟨O0_0, O0_1, e0, e1, rfl, b_0, fB⟩
  refine cw_condF rfl c23 ?_
  refine cw_exit ?_
  repeat (first | with_reducible refine thn_e ?_ | with_reducible refine blk_e rfl ?_)
  obtain rfl := Option.some.inj h
  refine lp_exit ?_
  rintro rfl
  refine thn_x ?_
  exact ⟨O0_0, O0_1, e0, b_0, fB⟩
 rintro ρ35 w36 ⟨O0_0, O0_1, e0, b_0, fB⟩
 have h := h19
 refine cw_seq ?_
 refine cw_region ?_
 refine ol_val (v := (pt G_0 0)) (xr_move rfl e0) rfl rfl rfl ?_
 obtain ⟨t37, k38, h⟩ := bs h
 have c48 : ∀ k, (k = G_0 ∨ some k = Value.ownBlock V0_0 ∨ some k = Value.ownBlock V0_1) → (w.heap.size ≤ k ∨ (k = G_0 ∨ some k = Value.ownBlock V0_0 ∨ some k = Value.ownBlock V0_1)) := (cv_or (cv_eq (.inr (.inl rfl))) (cv_or (cv_own M0_0) (cv_own M0_1)))
 refine ol_op (opv_call rfl cal84 (ac rfl an) (pmem_Device_step.ok fu _ (⟨e17, a0.plan, a0.off, a0.armed, a0.left, a0.steps⟩ : S_pmem_Device) G_0 V0_0 (Own.base O0_0 (Nat.zero_le _)) V0_1 (Own.base O0_1 (Nat.zero_le _)) b_0 _ k38)) rfl rfl rfl ?_
 rintro _ w49 ⟨u40, u44, o41, m42, o45, m46, rfl, b_0, q39⟩
 have m42 : ∀ g, Value.ownBlock u40 = some g → w.heap.size ≤ g ∨ (g = G_0 ∨ some g = Value.ownBlock V0_0 ∨ some g = Value.ownBlock V0_1) := fun g hg => (m42 g hg).elim (fun x => .inl (Nat.le_trans fB.size x)) (c48 g)
 have m46 : ∀ g, Value.ownBlock u44 = some g → w.heap.size ≤ g ∨ (g = G_0 ∨ some g = Value.ownBlock V0_0 ∨ some g = Value.ownBlock V0_1) := fun g hg => (m46 g hg).elim (fun x => .inl (Nat.le_trans fB.size x)) (c48 g)
 have fB := fB.call q39 c48
 refine ol_nil ?_
 refine cw_seq ?_
 refine cw_region ?_
 refine ol_val (v := .int .i64 0) (xr_assign rfl rfl) rfl rfl rfl ?_
 refine ol_nil ?_
 refine cw_ret ?_
 repeat (first | with_reducible refine thn_r ?_ | with_reducible refine blk_r ?_)
 obtain rfl := Option.some.inj h
 refine fin_ret1 Try.results29 rfl ?_
 exact ⟨_, rfl, u40, u44, o41, m42, o45, m46, rfl, b_0, fB⟩
def press_store.s0 (fu : Nat) (a1 : Int) (a2 : Int) (a3 : List Int) : (Int × (List S_pmem_cell) × (List Int) × Int × Bool × Bool × Int × Int) → Option (Sum (Sum (Int × S_pmem_Device) ((List S_pmem_cell) × (List Int) × Int × Bool × Bool × Int × Int)) (Int × (List S_pmem_cell) × (List Int) × Int × Bool × Bool × Int × Int)) := fun s7 => (if (decide (s7.1 < (List.length a3 : Int))) = true then (if 0 ≤ s7.1 ∧ s7.1 < (List.length a3 : Int) then ((pmem_Device_Store.f fu (⟨s7.2.1, (⟨s7.2.2.1, s7.2.2.2.1⟩ : S_pmem_plan), s7.2.2.2.2.1, s7.2.2.2.2.2.1, s7.2.2.2.2.2.2.1, s7.2.2.2.2.2.2.2⟩ : S_pmem_Device) (IntKind.i64.wrap ((IntKind.i64.wrap ((IntKind.i64.wrap (a1 * 8)) + a2)) + s7.1)) (ix a3 s7.1)).bind fun t35 => (if (!decide (t35.1 = 0)) = true then some (Sum.inl (Sum.inl (t35.1, t35.2))) else some (Sum.inr ((IntKind.i64.wrap (s7.1 + 1)), t35.2.cells, t35.2.plan.list, t35.2.plan.at_, t35.2.off, t35.2.armed, t35.2.left, t35.2.steps)))) else none) else some (Sum.inl (Sum.inr (s7.2.1, s7.2.2.1, s7.2.2.2.1, s7.2.2.2.2.1, s7.2.2.2.2.2.1, s7.2.2.2.2.2.2.1, s7.2.2.2.2.2.2.2))))
def press_store.f (fu : Nat) (a0 : S_pmem_Device) (a1 : Int) (a2 : Int) (a3 : List Int) : Option (Int × S_pmem_Device) := ((loopM (press_store.s0 fu a1 a2 a3) fu (0, a0.cells, a0.plan.list, a0.plan.at_, a0.off, a0.armed, a0.left, a0.steps)).bind fun e8 => match e8 with | Sum.inl p => some p | Sum.inr x11 => ((pmem_Device_Flush.f fu (⟨x11.1, (⟨x11.2.1, x11.2.2.1⟩ : S_pmem_plan), x11.2.2.2.1, x11.2.2.2.2.1, x11.2.2.2.2.2.1, x11.2.2.2.2.2.2⟩ : S_pmem_Device) a1).bind fun t54 => some (t54.1, t54.2)))
theorem press_store.ok (fu : Nat) (w : World) (a0 : S_pmem_Device) (G_0 : Nat) (V0_0 : Value) (O0_0 : Own k_pmem_cell 142 w 0 V0_0 a0.cells) (V0_1 : Value) (O0_1 : Own (kI .i64) 3 w 0 V0_1 a0.plan.list) (b_0 : Blk w G_0 139 [Seg.cell V0_0 O0_0.one, Seg.cell V0_1 O0_1.one, (sI a0.plan.at_), Seg.cell (.bool a0.off), Seg.cell (.bool a0.armed), (sI a0.left), (sI a0.steps)]) (a1 : Int) (a2 : Int) (a3 : List Int) (V3_0 : Value) (R3_0 : Rd (kI .u64) w V3_0 a3) (NR3_0_P0 : OffR V3_0 a3 G_0) (NR3_0_R0_0 : OffRV V3_0 a3 V0_0) (NR3_0_R0_1 : OffRV V3_0 a3 V0_1) (r : Int × S_pmem_Device) (h : press_store.f fu a0 a1 a2 a3 = some r) :
  Calls Try.prog 103 (([(pt G_0 0), .int .i64 a1, .int .i64 a2, V3_0] : List Value).toArray) w (fun e w' => ∃ v, e = .returned v ∧ ∃ u1 : Value, ∃ u4 : Value, ∃ o2 : Own k_pmem_cell 142 w' 0 u1 r.2.cells, ∃ m3 : ∀ g, Value.ownBlock u1 = some g → w.heap.size ≤ g ∨ (g = G_0 ∨ some g = Value.ownBlock V0_0 ∨ some g = Value.ownBlock V0_1), ∃ o5 : Own (kI .i64) 3 w' 0 u4 r.2.plan.list, ∃ m6 : ∀ g, Value.ownBlock u4 = some g → w.heap.size ≤ g ∨ (g = G_0 ∨ some g = Value.ownBlock V0_0 ∨ some g = Value.ownBlock V0_1), v = .int .i64 r.1 ∧ Blk w' G_0 139 [Seg.cell u1 o2.one, Seg.cell u4 o5.one, (sI r.2.plan.at_), Seg.cell (.bool r.2.off), Seg.cell (.bool r.2.armed), (sI r.2.left), (sI r.2.steps)] ∧ Fr (fun j => j = G_0 ∨ some j = Value.ownBlock V0_0 ∨ some j = Value.ownBlock V0_1) w w') := by
 unfold press_store.f at h
 have fB : Fr (fun j => j = G_0 ∨ some j = Value.ownBlock V0_0 ∨ some j = Value.ownBlock V0_1) w w := Fr.refl _ _
 have M0_0 : ∀ g, Value.ownBlock V0_0 = some g → w.heap.size ≤ g ∨ (g = G_0 ∨ some g = Value.ownBlock V0_0 ∨ some g = Value.ownBlock V0_1) := fun g hg => .inr (.inr (.inl hg.symm))
 have M0_1 : ∀ g, Value.ownBlock V0_1 = some g → w.heap.size ≤ g ∨ (g = G_0 ∨ some g = Value.ownBlock V0_0 ∨ some g = Value.ownBlock V0_1) := fun g hg => .inr (.inr (.inr hg.symm))
 refine calls_cw Try.func103 rfl Try.ntmps103 rfl ?_
 refine cw_seq ?_
 refine cw_region ?_
 refine ol_val (v := .int .i64 0) (xr_assign rfl rfl) rfl rfl rfl ?_
 refine ol_nil ?_
 refine cw_seq ?_
 refine cw_seq ?_
 refine cw_region ?_
 refine ol_val (v := V3_0) (xr_move rfl rfl) rfl rfl rfl ?_
 refine ol_val (v := .int .i64 (List.length a3 : Int)) (xr_lenR rfl Try.underlying46 rfl R3_0) rfl rfl rfl ?_
 refine ol_val (v := .int .i64 0) (xr_move rfl rfl) rfl rfl rfl ?_
 refine ol_nil ?_
 obtain ⟨e8, l9, h10⟩ := bs h
 refine cw_mid (fun ρ' w' => ∃ x11, e8 = Sum.inr x11 ∧ ∃ v12 : Value, ∃ v16 : Value, ∃ o13 : Own k_pmem_cell 142 w' 0 v12 x11.1, ∃ o17 : Own (kI .i64) 3 w' 0 v16 x11.2.1, ∃ m15 : ∀ g, Value.ownBlock v12 = some g → w.heap.size ≤ g ∨ (g = G_0 ∨ some g = Value.ownBlock V0_0 ∨ some g = Value.ownBlock V0_1), ∃ m19 : ∀ g, Value.ownBlock v16 = some g → w.heap.size ≤ g ∨ (g = G_0 ∨ some g = Value.ownBlock V0_0 ∨ some g = Value.ownBlock V0_1), ρ' 0 = (pt G_0 0) ∧ ρ' 1 = .int .i64 a1 ∧ Blk w' G_0 139 [Seg.cell v12 o13.one, Seg.cell v16 o17.one, (sI x11.2.2.1), Seg.cell (.bool x11.2.2.2.1), Seg.cell (.bool x11.2.2.2.2.1), (sI x11.2.2.2.2.2.1), (sI x11.2.2.2.2.2.2)] ∧ Fr (fun j => j = G_0 ∨ some j = Value.ownBlock V0_0 ∨ some j = Value.ownBlock V0_1) w w') ?_ ?_
 ·refine cw_block ?_
  refine cw_round (fun (s7 : Int × (List S_pmem_cell) × (List Int) × Int × Bool × Bool × Int × Int) ρ' w' => ∃ v20 : Value, ∃ v24 : Value, ∃ o21 : Own k_pmem_cell 142 w' 0 v20 s7.2.1, ∃ o25 : Own (kI .i64) 3 w' 0 v24 s7.2.2.1, ∃ m23 : ∀ g, Value.ownBlock v20 = some g → w.heap.size ≤ g ∨ (g = G_0 ∨ some g = Value.ownBlock V0_0 ∨ some g = Value.ownBlock V0_1), ∃ m27 : ∀ g, Value.ownBlock v24 = some g → w.heap.size ≤ g ∨ (g = G_0 ∨ some g = Value.ownBlock V0_0 ∨ some g = Value.ownBlock V0_1), ∃ R3_0 : Rd (kI .u64) w' V3_0 a3, OffRV V3_0 a3 v20 ∧ OffRV V3_0 a3 v24 ∧ ρ' 0 = (pt G_0 0) ∧ ρ' 1 = .int .i64 a1 ∧ ρ' 2 = .int .i64 a2 ∧ ρ' 12 = V3_0 ∧ ρ' 13 = .int .i64 (List.length a3 : Int) ∧ ρ' 14 = .int .i64 s7.1 ∧ Blk w' G_0 139 [Seg.cell v20 o21.one, Seg.cell v24 o25.one, (sI s7.2.2.2.1), Seg.cell (.bool s7.2.2.2.2.1), Seg.cell (.bool s7.2.2.2.2.2.1), (sI s7.2.2.2.2.2.2.1), (sI s7.2.2.2.2.2.2.2)] ∧ Fr (fun j => j = G_0 ∨ some j = Value.ownBlock V0_0 ∨ some j = Value.ownBlock V0_1) w w') l9 ?_ ?_
  ·skip
   exact ⟨V0_0, V0_1, O0_0, O0_1, M0_0, M0_1, R3_0, NR3_0_R0_0, NR3_0_R0_1, rfl, rfl, rfl, rfl, rfl, rfl, b_0, fB⟩
  rintro s7 x32 ρ30 w31 ⟨v20, v24, o21, o25, m23, m27, R3_0, a28, a29, e0, e1, e2, e12, e13, e14, b_0, fB⟩ h
  unfold press_store.s0 at h
  refine cw_seq ?_
  refine cw_region ?_
  refine ol_val (v := .bool (decide (s7.1 < (List.length a3 : Int)))) (xr_lss rfl e14 e13) rfl rfl rfl ?_
  refine ol_nil ?_
  refine cw_seq ?_
  rcases is h with ⟨c33, h⟩ | ⟨c33, h⟩
  ·refine cw_condT rfl c33 ?_
   refine cw_skip ?_
   refine cw_seq ?_
   refine cw_block ?_
   refine cw_seq ?_
   refine cw_region ?_
   refine ol_val (v := .int .i64 s7.1) (xr_move rfl e14) rfl rfl rfl ?_
   obtain ⟨g34, h⟩ := gs h
   refine ol_val (v := (pt ((sb V3_0)) (so V3_0 + Int.toNat s7.1 * 1))) (xr_indexR (K := (kI .u64)) (v := V3_0) rfl Try.underlying46 sz22 e12 R3_0 e14 g34.1 g34.2) rfl rfl rfl ?_
   refine ol_val (v := .int .u64 (ix a3 s7.1)) (xr_load1 (v := .int .u64 (ix a3 s7.1)) rfl ag22 rfl (R3_0.elem g34.1 g34.2)) rfl rfl rfl ?_
   refine ol_val (v := .int .i64 s7.1) (xr_assign rfl rfl) rfl rfl rfl ?_
   refine ol_val (v := .int .u64 (ix a3 s7.1)) (xr_assign rfl rfl) rfl rfl rfl ?_
   refine ol_nil ?_
   refine cw_seq ?_
   refine cw_region ?_
   refine ol_val (v := (pt G_0 0)) (xr_move rfl e0) rfl rfl rfl ?_
   refine ol_val (v := .int .i64 a1) (xr_move rfl e1) rfl rfl rfl ?_
   refine ol_val (v := .int .i64 (IntKind.i64.wrap (a1 * 8))) (xr_mul rfl rfl rfl) rfl rfl rfl ?_
   refine ol_val (v := .int .i64 a2) (xr_move rfl e2) rfl rfl rfl ?_
   refine ol_val (v := .int .i64 (IntKind.i64.wrap ((IntKind.i64.wrap (a1 * 8)) + a2))) (xr_add rfl rfl rfl) rfl rfl rfl ?_
   refine ol_val (v := .int .i64 s7.1) (xr_move rfl rfl) rfl rfl rfl ?_
   refine ol_val (v := .int .i64 (IntKind.i64.wrap ((IntKind.i64.wrap ((IntKind.i64.wrap (a1 * 8)) + a2)) + s7.1))) (xr_add rfl rfl rfl) rfl rfl rfl ?_
   refine ol_val (v := .int .u64 (ix a3 s7.1)) (xr_move rfl rfl) rfl rfl rfl ?_
   obtain ⟨t35, k36, h⟩ := bs h
   have f46 := (ro_or (ro_eq NR3_0_P0) (ro_or (ro_own a28) (ro_own a29)))
   have c47 : ∀ k, (k = G_0 ∨ some k = Value.ownBlock v20 ∨ some k = Value.ownBlock v24) → (w.heap.size ≤ k ∨ (k = G_0 ∨ some k = Value.ownBlock V0_0 ∨ some k = Value.ownBlock V0_1)) := (cv_or (cv_eq (.inr (.inl rfl))) (cv_or (cv_own m23) (cv_own m27)))
   refine ol_op (opv_call rfl cal28 (ac rfl (ac rfl (ac rfl an))) (pmem_Device_Store.ok fu _ (⟨s7.2.1, (⟨s7.2.2.1, s7.2.2.2.1⟩ : S_pmem_plan), s7.2.2.2.2.1, s7.2.2.2.2.2.1, s7.2.2.2.2.2.2.1, s7.2.2.2.2.2.2.2⟩ : S_pmem_Device) G_0 v20 (Own.base o21 (Nat.zero_le _)) v24 (Own.base o25 (Nat.zero_le _)) b_0 (IntKind.i64.wrap ((IntKind.i64.wrap ((IntKind.i64.wrap (a1 * 8)) + a2)) + s7.1)) (ix a3 s7.1) _ k36)) rfl rfl rfl ?_
   rintro _ w48 ⟨u38, u42, o39, m40, o43, m44, rfl, b_0, q37⟩
   have a49 := orv_new R3_0 rfl f46 m40
   have a50 := orv_new R3_0 rfl f46 m44
   have m40 : ∀ g, Value.ownBlock u38 = some g → w.heap.size ≤ g ∨ (g = G_0 ∨ some g = Value.ownBlock V0_0 ∨ some g = Value.ownBlock V0_1) := fun g hg => (m40 g hg).elim (fun x => .inl (Nat.le_trans fB.size x)) (c47 g)
   have m44 : ∀ g, Value.ownBlock u42 = some g → w.heap.size ≤ g ∨ (g = G_0 ∨ some g = Value.ownBlock V0_0 ∨ some g = Value.ownBlock V0_1) := fun g hg => (m44 g hg).elim (fun x => .inl (Nat.le_trans fB.size x)) (c47 g)
   have R3_0 := R3_0.fr q37 f46
   have fB := fB.call q37 c47
   refine ol_val (v := .int .i64 t35.1) (xr_assign rfl rfl) rfl rfl rfl ?_
   refine ol_nil ?_
   refine cw_seq ?_
   refine cw_region ?_
   refine ol_val (v := .int .i64 t35.1) (xr_move rfl rfl) rfl rfl rfl ?_
   refine ol_val (v := .bool (!decide (t35.1 = 0))) (xr_neI rfl Try.underlying31 rfl rfl rfl) rfl rfl rfl ?_
   refine ol_nil ?_
   rcases is h with ⟨c51, h⟩ | ⟨c51, h⟩
   ·refine cw_condT rfl c51 ?_
    refine cw_seq ?_
    refine cw_region ?_
    refine ol_val (v := .int .i64 t35.1) (xr_move rfl rfl) rfl rfl rfl ?_
    refine ol_val (v := .int .i64 t35.1) (xr_assign rfl rfl) rfl rfl rfl ?_
    refine ol_nil ?_
    refine cw_ret ?_
    repeat (first | with_reducible refine thn_r ?_ | with_reducible refine blk_r ?_)
    obtain rfl := Option.some.inj h
    refine lp_ret ?_
    rintro rfl
    repeat (first | with_reducible refine thn_r ?_ | with_reducible refine blk_r ?_)
    have h := h10
    obtain rfl := Option.some.inj h
    refine fin_ret1 Try.results103 rfl ?_
    exact ⟨_, rfl, u38, u42, o39, m40, o43, m44, rfl, b_0, fB⟩
   refine cw_condF rfl c51 ?_
   refine cw_skip ?_
   refine blk_i ?_
   refine cw_region ?_
   refine ol_val (v := .int .i64 (IntKind.i64.wrap (s7.1 + 1))) (xr_add rfl e14 rfl) rfl rfl rfl ?_
   refine ol_val (v := .int .i64 (IntKind.i64.wrap (s7.1 + 1))) (xr_move rfl rfl) rfl rfl rfl ?_
   refine ol_nil ?_
   obtain rfl := Option.some.inj h
   refine lp_in ?_
   exact ⟨u38, u42, o39, o43, m40, m44, R3_0, a49, a50, e0, e1, e2, e12, e13, rfl, b_0, fB⟩
  refine cw_condF rfl c33 ?_
  refine cw_exit ?_
  repeat (first | with_reducible refine thn_e ?_ | with_reducible refine blk_e rfl ?_)
  obtain rfl := Option.some.inj h
  refine lp_exit ?_
  rintro rfl
  refine thn_x ?_
  exact ⟨_, rfl, v20, v24, o21, o25, m23, m27, e0, e1, b_0, fB⟩
 rintro ρ52 w53 ⟨x11, rfl, v12, v16, o13, o17, m15, m19, e0, e1, b_0, fB⟩
 have h := h10
 refine cw_seq ?_
 refine cw_region ?_
 refine ol_val (v := (pt G_0 0)) (xr_move rfl e0) rfl rfl rfl ?_
 refine ol_val (v := .int .i64 a1) (xr_move rfl e1) rfl rfl rfl ?_
 obtain ⟨t54, k55, h⟩ := bs h
 have c65 : ∀ k, (k = G_0 ∨ some k = Value.ownBlock v12 ∨ some k = Value.ownBlock v16) → (w.heap.size ≤ k ∨ (k = G_0 ∨ some k = Value.ownBlock V0_0 ∨ some k = Value.ownBlock V0_1)) := (cv_or (cv_eq (.inr (.inl rfl))) (cv_or (cv_own m15) (cv_own m19)))
 refine ol_op (opv_call rfl cal29 (ac rfl (ac rfl an)) (pmem_Device_Flush.ok fu _ (⟨x11.1, (⟨x11.2.1, x11.2.2.1⟩ : S_pmem_plan), x11.2.2.2.1, x11.2.2.2.2.1, x11.2.2.2.2.2.1, x11.2.2.2.2.2.2⟩ : S_pmem_Device) G_0 v12 (Own.base o13 (Nat.zero_le _)) v16 (Own.base o17 (Nat.zero_le _)) b_0 a1 _ k55)) rfl rfl rfl ?_
 rintro _ w66 ⟨u57, u61, o58, m59, o62, m63, rfl, b_0, q56⟩
 have m59 : ∀ g, Value.ownBlock u57 = some g → w.heap.size ≤ g ∨ (g = G_0 ∨ some g = Value.ownBlock V0_0 ∨ some g = Value.ownBlock V0_1) := fun g hg => (m59 g hg).elim (fun x => .inl (Nat.le_trans fB.size x)) (c65 g)
 have m63 : ∀ g, Value.ownBlock u61 = some g → w.heap.size ≤ g ∨ (g = G_0 ∨ some g = Value.ownBlock V0_0 ∨ some g = Value.ownBlock V0_1) := fun g hg => (m63 g hg).elim (fun x => .inl (Nat.le_trans fB.size x)) (c65 g)
 have fB := fB.call q56 c65
 refine ol_val (v := .int .i64 t54.1) (xr_assign rfl rfl) rfl rfl rfl ?_
 refine ol_nil ?_
 refine cw_ret ?_
 repeat (first | with_reducible refine thn_r ?_ | with_reducible refine blk_r ?_)
 obtain rfl := Option.some.inj h
 refine fin_ret1 Try.results103 rfl ?_
 exact ⟨_, rfl, u57, u61, o58, m59, o62, m63, rfl, b_0, fB⟩
def press_Word.f (fu : Nat) (a0 : S_pmem_Device) (a1 : Int) (a2 : Int) (a3 : Int) : Option (Int × S_pmem_Device) := ((press_may.f fu a0 a1).bind fun t7 => (if (!decide (t7 = 0)) = true then some (t7, a0) else (if (if (decide (a2 < 0)) = true then true else (decide (a2 ≥ 8))) = true then some (2, a0) else ((press_store.f fu a0 a1 a2 [a3]).bind fun t21 => some (t21.1, t21.2)))))
theorem press_Word.ok (fu : Nat) (w : World) (a0 : S_pmem_Device) (G_0 : Nat) (V0_0 : Value) (O0_0 : Own k_pmem_cell 142 w 0 V0_0 a0.cells) (V0_1 : Value) (O0_1 : Own (kI .i64) 3 w 0 V0_1 a0.plan.list) (b_0 : Blk w G_0 139 [Seg.cell V0_0 O0_0.one, Seg.cell V0_1 O0_1.one, (sI a0.plan.at_), Seg.cell (.bool a0.off), Seg.cell (.bool a0.armed), (sI a0.left), (sI a0.steps)]) (a1 : Int) (a2 : Int) (a3 : Int) (r : Int × S_pmem_Device) (h : press_Word.f fu a0 a1 a2 a3 = some r) :
  Calls Try.prog 57 (([(pt G_0 0), .int .i64 a1, .int .i64 a2, .int .u64 a3] : List Value).toArray) w (fun e w' => ∃ v, e = .returned v ∧ ∃ u1 : Value, ∃ u4 : Value, ∃ o2 : Own k_pmem_cell 142 w' 0 u1 r.2.cells, ∃ m3 : ∀ g, Value.ownBlock u1 = some g → w.heap.size ≤ g ∨ (g = G_0 ∨ some g = Value.ownBlock V0_0 ∨ some g = Value.ownBlock V0_1), ∃ o5 : Own (kI .i64) 3 w' 0 u4 r.2.plan.list, ∃ m6 : ∀ g, Value.ownBlock u4 = some g → w.heap.size ≤ g ∨ (g = G_0 ∨ some g = Value.ownBlock V0_0 ∨ some g = Value.ownBlock V0_1), v = .int .i64 r.1 ∧ Blk w' G_0 139 [Seg.cell u1 o2.one, Seg.cell u4 o5.one, (sI r.2.plan.at_), Seg.cell (.bool r.2.off), Seg.cell (.bool r.2.armed), (sI r.2.left), (sI r.2.steps)] ∧ Fr (fun j => j = G_0 ∨ some j = Value.ownBlock V0_0 ∨ some j = Value.ownBlock V0_1) w w') := by
 unfold press_Word.f at h
 have fB : Fr (fun j => j = G_0 ∨ some j = Value.ownBlock V0_0 ∨ some j = Value.ownBlock V0_1) w w := Fr.refl _ _
 have M0_0 : ∀ g, Value.ownBlock V0_0 = some g → w.heap.size ≤ g ∨ (g = G_0 ∨ some g = Value.ownBlock V0_0 ∨ some g = Value.ownBlock V0_1) := fun g hg => .inr (.inr (.inl hg.symm))
 have M0_1 : ∀ g, Value.ownBlock V0_1 = some g → w.heap.size ≤ g ∨ (g = G_0 ∨ some g = Value.ownBlock V0_0 ∨ some g = Value.ownBlock V0_1) := fun g hg => .inr (.inr (.inr hg.symm))
 refine calls_cw Try.func57 rfl Try.ntmps57 rfl ?_
 refine cw_seq ?_
 refine cw_region ?_
 refine ol_val (v := .int .i64 0) (xr_assign rfl rfl) rfl rfl rfl ?_
 refine ol_nil ?_
 refine cw_seq ?_
 refine cw_seq ?_
 refine cw_region ?_
 refine ol_val (v := (pt G_0 0)) (xr_move rfl rfl) rfl rfl rfl ?_
 refine ol_val (v := .int .i64 a1) (xr_move rfl rfl) rfl rfl rfl ?_
 obtain ⟨t7, k8, h⟩ := bs h
 refine ol_op (opv_call rfl cal102 (ac rfl (ac rfl an)) (press_may.ok fu _ a0 G_0 V0_0 (O0_0.rd) V0_1 (O0_1.rd) b_0 a1 _ k8)) rfl rfl rfl ?_
 rintro _ w10 ⟨rfl, q9⟩
 have b_0 := b_0.gr q9
 have O0_0 := O0_0.gr q9
 have O0_1 := O0_1.gr q9
 have fB := fB.gr q9
 refine ol_val (v := .int .i64 t7) (xr_assign rfl rfl) rfl rfl rfl ?_
 refine ol_nil ?_
 refine cw_seq ?_
 refine cw_region ?_
 refine ol_val (v := .int .i64 t7) (xr_move rfl rfl) rfl rfl rfl ?_
 refine ol_val (v := .bool (!decide (t7 = 0))) (xr_neI rfl Try.underlying31 rfl rfl rfl) rfl rfl rfl ?_
 refine ol_nil ?_
 rcases is h with ⟨c11, h⟩ | ⟨c11, h⟩
 ·refine cw_condT rfl c11 ?_
  refine cw_seq ?_
  refine cw_region ?_
  refine ol_val (v := .int .i64 t7) (xr_move rfl rfl) rfl rfl rfl ?_
  refine ol_val (v := .int .i64 t7) (xr_assign rfl rfl) rfl rfl rfl ?_
  refine ol_nil ?_
  refine cw_ret ?_
  repeat (first | with_reducible refine thn_r ?_ | with_reducible refine blk_r ?_)
  obtain rfl := Option.some.inj h
  refine fin_ret1 Try.results57 rfl ?_
  exact ⟨_, rfl, V0_0, V0_1, O0_0, M0_0, O0_1, M0_1, rfl, b_0, fB⟩
 refine cw_condF rfl c11 ?_
 refine cw_skip ?_
 refine cw_seq ?_
 refine cw_seq ?_
 refine cw_mid (fun ρ' w' => ρ' 0 = (pt G_0 0) ∧ ρ' 1 = .int .i64 a1 ∧ ρ' 2 = .int .i64 a2 ∧ ρ' 3 = .int .u64 a3 ∧ ρ' 21 = .bool (if (decide (a2 < 0)) = true then true else (decide (a2 ≥ 8))) ∧ w10 = w') ?_ ?_
 ·skip
  refine cw_region ?_
  refine ol_val (v := .int .i64 a2) (xr_move rfl rfl) rfl rfl rfl ?_
  refine ol_val (v := .bool (decide (a2 < 0))) (xr_lss rfl rfl rfl) rfl rfl rfl ?_
  refine ol_val (v := .bool (decide (a2 < 0))) (xr_move rfl rfl) rfl rfl rfl ?_
  rcases bt (decide (a2 < 0)) with c12 | c12
  ·skip
   refine ol_gskip rfl rfl rfl rfl rfl c12 ?_
   refine ol_gskip rfl rfl rfl rfl rfl c12 ?_
   refine ol_val (v := .bool true) (xr_pickT rfl rfl c12 rfl) rfl rfl rfl ?_
   refine ol_nil ?_
   refine thn_i ?_
   exact ⟨rfl, rfl, rfl, rfl, (rfl).trans (congrArg (fun z => (.bool z : Value)) (show true = (if (decide (a2 < 0)) = true then true else (decide (a2 ≥ 8))) from by rw [ite_t c12])), rfl⟩
  refine ol_gval (v := .int .i64 a2) (xr_move rfl rfl) rfl rfl rfl rfl rfl c12 ?_
  refine ol_gval (v := .bool (decide (a2 ≥ 8))) (xr_geq rfl rfl rfl) rfl rfl rfl rfl rfl c12 ?_
  refine ol_val (v := .bool (decide (a2 ≥ 8))) (xr_pickF rfl rfl c12 rfl) rfl rfl rfl ?_
  refine ol_nil ?_
  refine thn_i ?_
  exact ⟨rfl, rfl, rfl, rfl, (rfl).trans (congrArg (fun z => (.bool z : Value)) (show (decide (a2 ≥ 8)) = (if (decide (a2 < 0)) = true then true else (decide (a2 ≥ 8))) from by rw [ite_f c12])), rfl⟩
 rintro ρ13 _ ⟨e0, e1, e2, e3, e21, rfl⟩
 rcases is h with ⟨c14, h⟩ | ⟨c14, h⟩
 ·refine cw_condT e21 c14 ?_
  refine cw_seq ?_
  refine cw_region ?_
  refine ol_val (v := .int .i64 2) (xr_assign rfl rfl) rfl rfl rfl ?_
  refine ol_nil ?_
  refine cw_ret ?_
  repeat (first | with_reducible refine thn_r ?_ | with_reducible refine blk_r ?_)
  obtain rfl := Option.some.inj h
  refine fin_ret1 Try.results57 rfl ?_
  exact ⟨_, rfl, V0_0, V0_1, O0_0, M0_0, O0_1, M0_1, rfl, b_0, fB⟩
 refine cw_condF e21 c14 ?_
 refine cw_skip ?_
 refine cw_seq ?_
 refine cw_region ?_
 refine ol_val (v := (pt G_0 0)) (xr_move rfl e0) rfl rfl rfl ?_
 refine ol_val (v := .int .i64 a1) (xr_move rfl e1) rfl rfl rfl ?_
 refine ol_val (v := .int .i64 a2) (xr_move rfl e2) rfl rfl rfl ?_
 refine ol_val (v := .int .u64 a3) (xr_move rfl e3) rfl rfl rfl ?_
 refine ol_op (opv_buildSlice (K := (kI .u64)) (xs := [a3]) (vals := [.int .u64 a3]) rfl Try.underlying46 el22 rfl rfl ⟨rfl, rfl, trivial⟩ rfl rfl rfl fB.size) rfl rfl rfl ?_
 rintro v15 w20 ⟨o17, q16, z18⟩
 have b_0 := b_0.gr q16
 have O0_0 := O0_0.gr q16
 have O0_1 := O0_1.gr q16
 have fB := fB.gr q16
 obtain ⟨t21, k22, h⟩ := bs h
 have c32 : ∀ k, (k = G_0 ∨ some k = Value.ownBlock V0_0 ∨ some k = Value.ownBlock V0_1) → (w.heap.size ≤ k ∨ (k = G_0 ∨ some k = Value.ownBlock V0_0 ∨ some k = Value.ownBlock V0_1)) := (cv_or (cv_eq (.inr (.inl rfl))) (cv_or (cv_own M0_0) (cv_own M0_1)))
 refine ol_op (opv_call rfl cal103 (ac rfl (ac rfl (ac rfl (ac rfl an)))) (press_store.ok fu _ a0 G_0 V0_0 (Own.base O0_0 (Nat.zero_le _)) V0_1 (Own.base O0_1 (Nat.zero_le _)) b_0 a1 a2 [a3] v15 (o17.rd) (OffR.own o17 (off_ty b_0 o17 (by decide))) (OffRV.own o17 (OffV.ty o17 O0_0 (by decide))) (OffRV.own o17 (OffV.ty o17 O0_1 (by decide))) _ k22)) rfl rfl rfl ?_
 rintro _ w33 ⟨u24, u28, o25, m26, o29, m30, rfl, b_0, q23⟩
 have m26 : ∀ g, Value.ownBlock u24 = some g → w.heap.size ≤ g ∨ (g = G_0 ∨ some g = Value.ownBlock V0_0 ∨ some g = Value.ownBlock V0_1) := fun g hg => (m26 g hg).elim (fun x => .inl (Nat.le_trans fB.size x)) (c32 g)
 have m30 : ∀ g, Value.ownBlock u28 = some g → w.heap.size ≤ g ∨ (g = G_0 ∨ some g = Value.ownBlock V0_0 ∨ some g = Value.ownBlock V0_1) := fun g hg => (m30 g hg).elim (fun x => .inl (Nat.le_trans fB.size x)) (c32 g)
 have fB := fB.call q23 c32
 refine ol_val (v := .int .i64 t21.1) (xr_assign rfl rfl) rfl rfl rfl ?_
 refine ol_nil ?_
 refine cw_ret ?_
 repeat (first | with_reducible refine thn_r ?_ | with_reducible refine blk_r ?_)
 obtain rfl := Option.some.inj h
 refine fin_ret1 Try.results57 rfl ?_
 exact ⟨_, rfl, u24, u28, o25, m26, o29, m30, rfl, b_0, fB⟩
def root_head.f (fu : Nat) (a0 : S_pmem_Device) (a1 : Int) (a2 : Int) : Option (Int × S_pmem_Device) := ((press_Word.f fu a0 a1 0 a2).bind fun t7 => (if (!decide (t7.1 = 0)) = true then some (t7.1, t7.2) else ((press_Sure.f fu t7.2).bind fun t21 => some (t21.1, t21.2))))
theorem root_head.ok (fu : Nat) (w : World) (a0 : S_pmem_Device) (G_0 : Nat) (V0_0 : Value) (O0_0 : Own k_pmem_cell 142 w 0 V0_0 a0.cells) (V0_1 : Value) (O0_1 : Own (kI .i64) 3 w 0 V0_1 a0.plan.list) (b_0 : Blk w G_0 139 [Seg.cell V0_0 O0_0.one, Seg.cell V0_1 O0_1.one, (sI a0.plan.at_), Seg.cell (.bool a0.off), Seg.cell (.bool a0.armed), (sI a0.left), (sI a0.steps)]) (a1 : Int) (a2 : Int) (r : Int × S_pmem_Device) (h : root_head.f fu a0 a1 a2 = some r) :
  Calls Try.prog 121 (([(pt G_0 0), .int .i64 a1, .int .u64 a2] : List Value).toArray) w (fun e w' => ∃ v, e = .returned v ∧ ∃ u1 : Value, ∃ u4 : Value, ∃ o2 : Own k_pmem_cell 142 w' 0 u1 r.2.cells, ∃ m3 : ∀ g, Value.ownBlock u1 = some g → w.heap.size ≤ g ∨ (g = G_0 ∨ some g = Value.ownBlock V0_0 ∨ some g = Value.ownBlock V0_1), ∃ o5 : Own (kI .i64) 3 w' 0 u4 r.2.plan.list, ∃ m6 : ∀ g, Value.ownBlock u4 = some g → w.heap.size ≤ g ∨ (g = G_0 ∨ some g = Value.ownBlock V0_0 ∨ some g = Value.ownBlock V0_1), v = .int .i64 r.1 ∧ Blk w' G_0 139 [Seg.cell u1 o2.one, Seg.cell u4 o5.one, (sI r.2.plan.at_), Seg.cell (.bool r.2.off), Seg.cell (.bool r.2.armed), (sI r.2.left), (sI r.2.steps)] ∧ Fr (fun j => j = G_0 ∨ some j = Value.ownBlock V0_0 ∨ some j = Value.ownBlock V0_1) w w') := by
 unfold root_head.f at h
 have fB : Fr (fun j => j = G_0 ∨ some j = Value.ownBlock V0_0 ∨ some j = Value.ownBlock V0_1) w w := Fr.refl _ _
 have M0_0 : ∀ g, Value.ownBlock V0_0 = some g → w.heap.size ≤ g ∨ (g = G_0 ∨ some g = Value.ownBlock V0_0 ∨ some g = Value.ownBlock V0_1) := fun g hg => .inr (.inr (.inl hg.symm))
 have M0_1 : ∀ g, Value.ownBlock V0_1 = some g → w.heap.size ≤ g ∨ (g = G_0 ∨ some g = Value.ownBlock V0_0 ∨ some g = Value.ownBlock V0_1) := fun g hg => .inr (.inr (.inr hg.symm))
 refine calls_cw Try.func121 rfl Try.ntmps121 rfl ?_
 refine cw_seq ?_
 refine cw_region ?_
 refine ol_val (v := .int .i64 0) (xr_assign rfl rfl) rfl rfl rfl ?_
 refine ol_nil ?_
 refine cw_seq ?_
 refine cw_seq ?_
 refine cw_region ?_
 refine ol_val (v := (pt G_0 0)) (xr_move rfl rfl) rfl rfl rfl ?_
 refine ol_val (v := .int .i64 a1) (xr_move rfl rfl) rfl rfl rfl ?_
 refine ol_val (v := .int .u64 a2) (xr_move rfl rfl) rfl rfl rfl ?_
 obtain ⟨t7, k8, h⟩ := bs h
 have c18 : ∀ k, (k = G_0 ∨ some k = Value.ownBlock V0_0 ∨ some k = Value.ownBlock V0_1) → (w.heap.size ≤ k ∨ (k = G_0 ∨ some k = Value.ownBlock V0_0 ∨ some k = Value.ownBlock V0_1)) := (cv_or (cv_eq (.inr (.inl rfl))) (cv_or (cv_own M0_0) (cv_own M0_1)))
 refine ol_op (opv_call rfl cal57 (ac rfl (ac rfl (ac rfl (ac rfl an)))) (press_Word.ok fu _ a0 G_0 V0_0 (Own.base O0_0 (Nat.zero_le _)) V0_1 (Own.base O0_1 (Nat.zero_le _)) b_0 a1 0 a2 _ k8)) rfl rfl rfl ?_
 rintro _ w19 ⟨u10, u14, o11, m12, o15, m16, rfl, b_0, q9⟩
 have m12 : ∀ g, Value.ownBlock u10 = some g → w.heap.size ≤ g ∨ (g = G_0 ∨ some g = Value.ownBlock V0_0 ∨ some g = Value.ownBlock V0_1) := fun g hg => (m12 g hg).elim (fun x => .inl (Nat.le_trans fB.size x)) (c18 g)
 have m16 : ∀ g, Value.ownBlock u14 = some g → w.heap.size ≤ g ∨ (g = G_0 ∨ some g = Value.ownBlock V0_0 ∨ some g = Value.ownBlock V0_1) := fun g hg => (m16 g hg).elim (fun x => .inl (Nat.le_trans fB.size x)) (c18 g)
 have fB := fB.call q9 c18
 refine ol_val (v := .int .i64 t7.1) (xr_assign rfl rfl) rfl rfl rfl ?_
 refine ol_nil ?_
 refine cw_seq ?_
 refine cw_region ?_
 refine ol_val (v := .int .i64 t7.1) (xr_move rfl rfl) rfl rfl rfl ?_
 refine ol_val (v := .bool (!decide (t7.1 = 0))) (xr_neI rfl Try.underlying31 rfl rfl rfl) rfl rfl rfl ?_
 refine ol_nil ?_
 rcases is h with ⟨c20, h⟩ | ⟨c20, h⟩
 ·refine cw_condT rfl c20 ?_
  refine cw_seq ?_
  refine cw_region ?_
  refine ol_val (v := .int .i64 t7.1) (xr_move rfl rfl) rfl rfl rfl ?_
  refine ol_val (v := .int .i64 t7.1) (xr_assign rfl rfl) rfl rfl rfl ?_
  refine ol_nil ?_
  refine cw_ret ?_
  repeat (first | with_reducible refine thn_r ?_ | with_reducible refine blk_r ?_)
  obtain rfl := Option.some.inj h
  refine fin_ret1 Try.results121 rfl ?_
  exact ⟨_, rfl, u10, u14, o11, m12, o15, m16, rfl, b_0, fB⟩
 refine cw_condF rfl c20 ?_
 refine cw_skip ?_
 refine cw_seq ?_
 refine cw_region ?_
 refine ol_val (v := (pt G_0 0)) (xr_move rfl rfl) rfl rfl rfl ?_
 obtain ⟨t21, k22, h⟩ := bs h
 have c32 : ∀ k, (k = G_0 ∨ some k = Value.ownBlock u10 ∨ some k = Value.ownBlock u14) → (w.heap.size ≤ k ∨ (k = G_0 ∨ some k = Value.ownBlock V0_0 ∨ some k = Value.ownBlock V0_1)) := (cv_or (cv_eq (.inr (.inl rfl))) (cv_or (cv_own m12) (cv_own m16)))
 refine ol_op (opv_call rfl cal54 (ac rfl an) (press_Sure.ok fu _ t7.2 G_0 u10 (Own.base o11 (Nat.zero_le _)) u14 (Own.base o15 (Nat.zero_le _)) b_0 _ k22)) rfl rfl rfl ?_
 rintro _ w33 ⟨u24, u28, o25, m26, o29, m30, rfl, b_0, q23⟩
 have m26 : ∀ g, Value.ownBlock u24 = some g → w.heap.size ≤ g ∨ (g = G_0 ∨ some g = Value.ownBlock V0_0 ∨ some g = Value.ownBlock V0_1) := fun g hg => (m26 g hg).elim (fun x => .inl (Nat.le_trans fB.size x)) (c32 g)
 have m30 : ∀ g, Value.ownBlock u28 = some g → w.heap.size ≤ g ∨ (g = G_0 ∨ some g = Value.ownBlock V0_0 ∨ some g = Value.ownBlock V0_1) := fun g hg => (m30 g hg).elim (fun x => .inl (Nat.le_trans fB.size x)) (c32 g)
 have fB := fB.call q23 c32
 refine ol_val (v := .int .i64 t21.1) (xr_assign rfl rfl) rfl rfl rfl ?_
 refine ol_nil ?_
 refine cw_ret ?_
 repeat (first | with_reducible refine thn_r ?_ | with_reducible refine blk_r ?_)
 obtain rfl := Option.some.inj h
 refine fin_ret1 Try.results121 rfl ?_
 exact ⟨_, rfl, u24, u28, o25, m26, o29, m30, rfl, b_0, fB⟩
def root_tail.s0 (fu : Nat) (a1 : Int) (a2 : List Int) : (Int × (List S_pmem_cell) × (List Int) × Int × Bool × Bool × Int × Int) → Option (Sum (Sum (Int × S_pmem_Device) ((List S_pmem_cell) × (List Int) × Int × Bool × Bool × Int × Int)) (Int × (List S_pmem_cell) × (List Int) × Int × Bool × Bool × Int × Int)) := fun s7 => (if (decide (s7.1 < (List.length a2 : Int))) = true then (if 0 ≤ s7.1 ∧ s7.1 < (List.length a2 : Int) then ((pmem_Device_Store.f fu (⟨s7.2.1, (⟨s7.2.2.1, s7.2.2.2.1⟩ : S_pmem_plan), s7.2.2.2.2.1, s7.2.2.2.2.2.1, s7.2.2.2.2.2.2.1, s7.2.2.2.2.2.2.2⟩ : S_pmem_Device) (IntKind.i64.wrap ((IntKind.i64.wrap (a1 * 8)) + s7.1)) (ix a2 s7.1)).bind fun t35 => (if (!decide (t35.1 = 0)) = true then some (Sum.inl (Sum.inl (t35.1, t35.2))) else some (Sum.inr ((IntKind.i64.wrap (s7.1 + 1)), t35.2.cells, t35.2.plan.list, t35.2.plan.at_, t35.2.off, t35.2.armed, t35.2.left, t35.2.steps)))) else none) else some (Sum.inl (Sum.inr (s7.2.1, s7.2.2.1, s7.2.2.2.1, s7.2.2.2.2.1, s7.2.2.2.2.2.1, s7.2.2.2.2.2.2.1, s7.2.2.2.2.2.2.2))))
def root_tail.f (fu : Nat) (a0 : S_pmem_Device) (a1 : Int) (a2 : List Int) : Option (Int × S_pmem_Device) := ((loopM (root_tail.s0 fu a1 a2) fu (1, a0.cells, a0.plan.list, a0.plan.at_, a0.off, a0.armed, a0.left, a0.steps)).bind fun e8 => match e8 with | Sum.inl p => some p | Sum.inr x11 => ((pmem_Device_Flush.f fu (⟨x11.1, (⟨x11.2.1, x11.2.2.1⟩ : S_pmem_plan), x11.2.2.2.1, x11.2.2.2.2.1, x11.2.2.2.2.2.1, x11.2.2.2.2.2.2⟩ : S_pmem_Device) a1).bind fun t54 => (if (!decide (t54.1 = 0)) = true then some (t54.1, t54.2) else ((press_Sure.f fu t54.2).bind fun t68 => some (t68.1, t68.2)))))
theorem root_tail.ok (fu : Nat) (w : World) (a0 : S_pmem_Device) (G_0 : Nat) (V0_0 : Value) (O0_0 : Own k_pmem_cell 142 w 0 V0_0 a0.cells) (V0_1 : Value) (O0_1 : Own (kI .i64) 3 w 0 V0_1 a0.plan.list) (b_0 : Blk w G_0 139 [Seg.cell V0_0 O0_0.one, Seg.cell V0_1 O0_1.one, (sI a0.plan.at_), Seg.cell (.bool a0.off), Seg.cell (.bool a0.armed), (sI a0.left), (sI a0.steps)]) (a1 : Int) (a2 : List Int) (V2_0 : Value) (R2_0 : Rd (kI .u64) w V2_0 a2) (NR2_0_P0 : OffR V2_0 a2 G_0) (NR2_0_R0_0 : OffRV V2_0 a2 V0_0) (NR2_0_R0_1 : OffRV V2_0 a2 V0_1) (r : Int × S_pmem_Device) (h : root_tail.f fu a0 a1 a2 = some r) :
  Calls Try.prog 122 (([(pt G_0 0), .int .i64 a1, V2_0] : List Value).toArray) w (fun e w' => ∃ v, e = .returned v ∧ ∃ u1 : Value, ∃ u4 : Value, ∃ o2 : Own k_pmem_cell 142 w' 0 u1 r.2.cells, ∃ m3 : ∀ g, Value.ownBlock u1 = some g → w.heap.size ≤ g ∨ (g = G_0 ∨ some g = Value.ownBlock V0_0 ∨ some g = Value.ownBlock V0_1), ∃ o5 : Own (kI .i64) 3 w' 0 u4 r.2.plan.list, ∃ m6 : ∀ g, Value.ownBlock u4 = some g → w.heap.size ≤ g ∨ (g = G_0 ∨ some g = Value.ownBlock V0_0 ∨ some g = Value.ownBlock V0_1), v = .int .i64 r.1 ∧ Blk w' G_0 139 [Seg.cell u1 o2.one, Seg.cell u4 o5.one, (sI r.2.plan.at_), Seg.cell (.bool r.2.off), Seg.cell (.bool r.2.armed), (sI r.2.left), (sI r.2.steps)] ∧ Fr (fun j => j = G_0 ∨ some j = Value.ownBlock V0_0 ∨ some j = Value.ownBlock V0_1) w w') := by
 unfold root_tail.f at h
 have fB : Fr (fun j => j = G_0 ∨ some j = Value.ownBlock V0_0 ∨ some j = Value.ownBlock V0_1) w w := Fr.refl _ _
 have M0_0 : ∀ g, Value.ownBlock V0_0 = some g → w.heap.size ≤ g ∨ (g = G_0 ∨ some g = Value.ownBlock V0_0 ∨ some g = Value.ownBlock V0_1) := fun g hg => .inr (.inr (.inl hg.symm))
 have M0_1 : ∀ g, Value.ownBlock V0_1 = some g → w.heap.size ≤ g ∨ (g = G_0 ∨ some g = Value.ownBlock V0_0 ∨ some g = Value.ownBlock V0_1) := fun g hg => .inr (.inr (.inr hg.symm))
 refine calls_cw Try.func122 rfl Try.ntmps122 rfl ?_
 refine cw_seq ?_
 refine cw_region ?_
 refine ol_val (v := .int .i64 0) (xr_assign rfl rfl) rfl rfl rfl ?_
 refine ol_nil ?_
 refine cw_seq ?_
 refine cw_seq ?_
 refine cw_region ?_
 refine ol_val (v := .int .i64 1) (xr_assign rfl rfl) rfl rfl rfl ?_
 refine ol_nil ?_
 obtain ⟨e8, l9, h10⟩ := bs h
 refine cw_mid (fun ρ' w' => ∃ x11, e8 = Sum.inr x11 ∧ ∃ v12 : Value, ∃ v16 : Value, ∃ o13 : Own k_pmem_cell 142 w' 0 v12 x11.1, ∃ o17 : Own (kI .i64) 3 w' 0 v16 x11.2.1, ∃ m15 : ∀ g, Value.ownBlock v12 = some g → w.heap.size ≤ g ∨ (g = G_0 ∨ some g = Value.ownBlock V0_0 ∨ some g = Value.ownBlock V0_1), ∃ m19 : ∀ g, Value.ownBlock v16 = some g → w.heap.size ≤ g ∨ (g = G_0 ∨ some g = Value.ownBlock V0_0 ∨ some g = Value.ownBlock V0_1), ρ' 0 = (pt G_0 0) ∧ ρ' 1 = .int .i64 a1 ∧ Blk w' G_0 139 [Seg.cell v12 o13.one, Seg.cell v16 o17.one, (sI x11.2.2.1), Seg.cell (.bool x11.2.2.2.1), Seg.cell (.bool x11.2.2.2.2.1), (sI x11.2.2.2.2.2.1), (sI x11.2.2.2.2.2.2)] ∧ Fr (fun j => j = G_0 ∨ some j = Value.ownBlock V0_0 ∨ some j = Value.ownBlock V0_1) w w') ?_ ?_
 ·refine cw_block ?_
  refine cw_round (fun (s7 : Int × (List S_pmem_cell) × (List Int) × Int × Bool × Bool × Int × Int) ρ' w' => ∃ v20 : Value, ∃ v24 : Value, ∃ o21 : Own k_pmem_cell 142 w' 0 v20 s7.2.1, ∃ o25 : Own (kI .i64) 3 w' 0 v24 s7.2.2.1, ∃ m23 : ∀ g, Value.ownBlock v20 = some g → w.heap.size ≤ g ∨ (g = G_0 ∨ some g = Value.ownBlock V0_0 ∨ some g = Value.ownBlock V0_1), ∃ m27 : ∀ g, Value.ownBlock v24 = some g → w.heap.size ≤ g ∨ (g = G_0 ∨ some g = Value.ownBlock V0_0 ∨ some g = Value.ownBlock V0_1), ∃ R2_0 : Rd (kI .u64) w' V2_0 a2, OffRV V2_0 a2 v20 ∧ OffRV V2_0 a2 v24 ∧ ρ' 0 = (pt G_0 0) ∧ ρ' 1 = .int .i64 a1 ∧ ρ' 2 = V2_0 ∧ ρ' 7 = .int .i64 s7.1 ∧ Blk w' G_0 139 [Seg.cell v20 o21.one, Seg.cell v24 o25.one, (sI s7.2.2.2.1), Seg.cell (.bool s7.2.2.2.2.1), Seg.cell (.bool s7.2.2.2.2.2.1), (sI s7.2.2.2.2.2.2.1), (sI s7.2.2.2.2.2.2.2)] ∧ Fr (fun j => j = G_0 ∨ some j = Value.ownBlock V0_0 ∨ some j = Value.ownBlock V0_1) w w') l9 ?_ ?_
  ·skip
   exact ⟨V0_0, V0_1, O0_0, O0_1, M0_0, M0_1, R2_0, NR2_0_R0_0, NR2_0_R0_1, rfl, rfl, rfl, rfl, b_0, fB⟩
  rintro s7 x32 ρ30 w31 ⟨v20, v24, o21, o25, m23, m27, R2_0, a28, a29, e0, e1, e2, e7, b_0, fB⟩ h
  unfold root_tail.s0 at h
  refine cw_seq ?_
  refine cw_seq ?_
  refine cw_region ?_
  refine ol_val (v := .int .i64 s7.1) (xr_move rfl e7) rfl rfl rfl ?_
  refine ol_val (v := V2_0) (xr_move rfl e2) rfl rfl rfl ?_
  refine ol_val (v := .int .i64 (List.length a2 : Int)) (xr_lenR rfl Try.underlying46 rfl R2_0) rfl rfl rfl ?_
  refine ol_val (v := .bool (decide (s7.1 < (List.length a2 : Int)))) (xr_lss rfl rfl rfl) rfl rfl rfl ?_
  refine ol_nil ?_
  rcases is h with ⟨c33, h⟩ | ⟨c33, h⟩
  ·refine cw_condT rfl c33 ?_
   refine cw_skip ?_
   refine cw_seq ?_
   refine cw_block ?_
   refine cw_seq ?_
   refine cw_region ?_
   refine ol_val (v := (pt G_0 0)) (xr_move rfl e0) rfl rfl rfl ?_
   refine ol_val (v := .int .i64 a1) (xr_move rfl e1) rfl rfl rfl ?_
   refine ol_val (v := .int .i64 (IntKind.i64.wrap (a1 * 8))) (xr_mul rfl rfl rfl) rfl rfl rfl ?_
   refine ol_val (v := .int .i64 s7.1) (xr_move rfl e7) rfl rfl rfl ?_
   refine ol_val (v := .int .i64 (IntKind.i64.wrap ((IntKind.i64.wrap (a1 * 8)) + s7.1))) (xr_add rfl rfl rfl) rfl rfl rfl ?_
   refine ol_val (v := V2_0) (xr_move rfl e2) rfl rfl rfl ?_
   refine ol_val (v := .int .i64 s7.1) (xr_move rfl e7) rfl rfl rfl ?_
   obtain ⟨g34, h⟩ := gs h
   refine ol_val (v := (pt ((sb V2_0)) (so V2_0 + Int.toNat s7.1 * 1))) (xr_indexR (K := (kI .u64)) (v := V2_0) rfl Try.underlying46 sz22 rfl R2_0 rfl g34.1 g34.2) rfl rfl rfl ?_
   refine ol_val (v := .int .u64 (ix a2 s7.1)) (xr_load1 (v := .int .u64 (ix a2 s7.1)) rfl ag22 rfl (R2_0.elem g34.1 g34.2)) rfl rfl rfl ?_
   obtain ⟨t35, k36, h⟩ := bs h
   have f46 := (ro_or (ro_eq NR2_0_P0) (ro_or (ro_own a28) (ro_own a29)))
   have c47 : ∀ k, (k = G_0 ∨ some k = Value.ownBlock v20 ∨ some k = Value.ownBlock v24) → (w.heap.size ≤ k ∨ (k = G_0 ∨ some k = Value.ownBlock V0_0 ∨ some k = Value.ownBlock V0_1)) := (cv_or (cv_eq (.inr (.inl rfl))) (cv_or (cv_own m23) (cv_own m27)))
   refine ol_op (opv_call rfl cal28 (ac rfl (ac rfl (ac rfl an))) (pmem_Device_Store.ok fu _ (⟨s7.2.1, (⟨s7.2.2.1, s7.2.2.2.1⟩ : S_pmem_plan), s7.2.2.2.2.1, s7.2.2.2.2.2.1, s7.2.2.2.2.2.2.1, s7.2.2.2.2.2.2.2⟩ : S_pmem_Device) G_0 v20 (Own.base o21 (Nat.zero_le _)) v24 (Own.base o25 (Nat.zero_le _)) b_0 (IntKind.i64.wrap ((IntKind.i64.wrap (a1 * 8)) + s7.1)) (ix a2 s7.1) _ k36)) rfl rfl rfl ?_
   rintro _ w48 ⟨u38, u42, o39, m40, o43, m44, rfl, b_0, q37⟩
   have a49 := orv_new R2_0 rfl f46 m40
   have a50 := orv_new R2_0 rfl f46 m44
   have m40 : ∀ g, Value.ownBlock u38 = some g → w.heap.size ≤ g ∨ (g = G_0 ∨ some g = Value.ownBlock V0_0 ∨ some g = Value.ownBlock V0_1) := fun g hg => (m40 g hg).elim (fun x => .inl (Nat.le_trans fB.size x)) (c47 g)
   have m44 : ∀ g, Value.ownBlock u42 = some g → w.heap.size ≤ g ∨ (g = G_0 ∨ some g = Value.ownBlock V0_0 ∨ some g = Value.ownBlock V0_1) := fun g hg => (m44 g hg).elim (fun x => .inl (Nat.le_trans fB.size x)) (c47 g)
   have R2_0 := R2_0.fr q37 f46
   have fB := fB.call q37 c47
   refine ol_val (v := .int .i64 t35.1) (xr_assign rfl rfl) rfl rfl rfl ?_
   refine ol_nil ?_
   refine cw_seq ?_
   refine cw_region ?_
   refine ol_val (v := .int .i64 t35.1) (xr_move rfl rfl) rfl rfl rfl ?_
   refine ol_val (v := .bool (!decide (t35.1 = 0))) (xr_neI rfl Try.underlying31 rfl rfl rfl) rfl rfl rfl ?_
   refine ol_nil ?_
   rcases is h with ⟨c51, h⟩ | ⟨c51, h⟩
   ·refine cw_condT rfl c51 ?_
    refine cw_seq ?_
    refine cw_region ?_
    refine ol_val (v := .int .i64 t35.1) (xr_move rfl rfl) rfl rfl rfl ?_
    refine ol_val (v := .int .i64 t35.1) (xr_assign rfl rfl) rfl rfl rfl ?_
    refine ol_nil ?_
    refine cw_ret ?_
    repeat (first | with_reducible refine thn_r ?_ | with_reducible refine blk_r ?_)
    obtain rfl := Option.some.inj h
    refine lp_ret ?_
    rintro rfl
    repeat (first | with_reducible refine thn_r ?_ | with_reducible refine blk_r ?_)
    have h := h10
    obtain rfl := Option.some.inj h
    refine fin_ret1 Try.results122 rfl ?_
    exact ⟨_, rfl, u38, u42, o39, m40, o43, m44, rfl, b_0, fB⟩
   refine cw_condF rfl c51 ?_
   refine cw_skip ?_
   refine blk_i ?_
   refine cw_region ?_
   refine ol_val (v := .int .i64 s7.1) (xr_move rfl e7) rfl rfl rfl ?_
   refine ol_val (v := .int .i64 (IntKind.i64.wrap (s7.1 + 1))) (xr_add rfl rfl rfl) rfl rfl rfl ?_
   refine ol_val (v := .int .i64 (IntKind.i64.wrap (s7.1 + 1))) (xr_assign rfl rfl) rfl rfl rfl ?_
   refine ol_nil ?_
   obtain rfl := Option.some.inj h
   refine lp_in ?_
   exact ⟨u38, u42, o39, o43, m40, m44, R2_0, a49, a50, e0, e1, e2, rfl, b_0, fB⟩
  refine cw_condF rfl c33 ?_
  refine cw_exit ?_
  repeat (first | with_reducible refine thn_e ?_ | with_reducible refine blk_e rfl ?_)
  obtain rfl := Option.some.inj h
  refine lp_exit ?_
  rintro rfl
  refine thn_x ?_
  exact ⟨_, rfl, v20, v24, o21, o25, m23, m27, e0, e1, b_0, fB⟩
 rintro ρ52 w53 ⟨x11, rfl, v12, v16, o13, o17, m15, m19, e0, e1, b_0, fB⟩
 have h := h10
 refine cw_seq ?_
 refine cw_seq ?_
 refine cw_region ?_
 refine ol_val (v := (pt G_0 0)) (xr_move rfl e0) rfl rfl rfl ?_
 refine ol_val (v := .int .i64 a1) (xr_move rfl e1) rfl rfl rfl ?_
 obtain ⟨t54, k55, h⟩ := bs h
 have c65 : ∀ k, (k = G_0 ∨ some k = Value.ownBlock v12 ∨ some k = Value.ownBlock v16) → (w.heap.size ≤ k ∨ (k = G_0 ∨ some k = Value.ownBlock V0_0 ∨ some k = Value.ownBlock V0_1)) := (cv_or (cv_eq (.inr (.inl rfl))) (cv_or (cv_own m15) (cv_own m19)))
 refine ol_op (opv_call rfl cal29 (ac rfl (ac rfl an)) (pmem_Device_Flush.ok fu _ (⟨x11.1, (⟨x11.2.1, x11.2.2.1⟩ : S_pmem_plan), x11.2.2.2.1, x11.2.2.2.2.1, x11.2.2.2.2.2.1, x11.2.2.2.2.2.2⟩ : S_pmem_Device) G_0 v12 (Own.base o13 (Nat.zero_le _)) v16 (Own.base o17 (Nat.zero_le _)) b_0 a1 _ k55)) rfl rfl rfl ?_
 rintro _ w66 ⟨u57, u61, o58, m59, o62, m63, rfl, b_0, q56⟩
 have m59 : ∀ g, Value.ownBlock u57 = some g → w.heap.size ≤ g ∨ (g = G_0 ∨ some g = Value.ownBlock V0_0 ∨ some g = Value.ownBlock V0_1) := fun g hg => (m59 g hg).elim (fun x => .inl (Nat.le_trans fB.size x)) (c65 g)
 have m63 : ∀ g, Value.ownBlock u61 = some g → w.heap.size ≤ g ∨ (g = G_0 ∨ some g = Value.ownBlock V0_0 ∨ some g = Value.ownBlock V0_1) := fun g hg => (m63 g hg).elim (fun x => .inl (Nat.le_trans fB.size x)) (c65 g)
 have fB := fB.call q56 c65
 refine ol_val (v := .int .i64 t54.1) (xr_assign rfl rfl) rfl rfl rfl ?_
 refine ol_nil ?_
 refine cw_seq ?_
 refine cw_region ?_
 refine ol_val (v := .int .i64 t54.1) (xr_move rfl rfl) rfl rfl rfl ?_
 refine ol_val (v := .bool (!decide (t54.1 = 0))) (xr_neI rfl Try.underlying31 rfl rfl rfl) rfl rfl rfl ?_
 refine ol_nil ?_
 rcases is h with ⟨c67, h⟩ | ⟨c67, h⟩
 ·refine cw_condT rfl c67 ?_
  refine cw_seq ?_
  refine cw_region ?_
  refine ol_val (v := .int .i64 t54.1) (xr_move rfl rfl) rfl rfl rfl ?_
  refine ol_val (v := .int .i64 t54.1) (xr_assign rfl rfl) rfl rfl rfl ?_
  refine ol_nil ?_
  refine cw_ret ?_
  repeat (first | with_reducible refine thn_r ?_ | with_reducible refine blk_r ?_)
  obtain rfl := Option.some.inj h
  refine fin_ret1 Try.results122 rfl ?_
  exact ⟨_, rfl, u57, u61, o58, m59, o62, m63, rfl, b_0, fB⟩
 refine cw_condF rfl c67 ?_
 refine cw_skip ?_
 refine cw_seq ?_
 refine cw_region ?_
 refine ol_val (v := (pt G_0 0)) (xr_move rfl e0) rfl rfl rfl ?_
 obtain ⟨t68, k69, h⟩ := bs h
 have c79 : ∀ k, (k = G_0 ∨ some k = Value.ownBlock u57 ∨ some k = Value.ownBlock u61) → (w.heap.size ≤ k ∨ (k = G_0 ∨ some k = Value.ownBlock V0_0 ∨ some k = Value.ownBlock V0_1)) := (cv_or (cv_eq (.inr (.inl rfl))) (cv_or (cv_own m59) (cv_own m63)))
 refine ol_op (opv_call rfl cal54 (ac rfl an) (press_Sure.ok fu _ t54.2 G_0 u57 (Own.base o58 (Nat.zero_le _)) u61 (Own.base o62 (Nat.zero_le _)) b_0 _ k69)) rfl rfl rfl ?_
 rintro _ w80 ⟨u71, u75, o72, m73, o76, m77, rfl, b_0, q70⟩
 have m73 : ∀ g, Value.ownBlock u71 = some g → w.heap.size ≤ g ∨ (g = G_0 ∨ some g = Value.ownBlock V0_0 ∨ some g = Value.ownBlock V0_1) := fun g hg => (m73 g hg).elim (fun x => .inl (Nat.le_trans fB.size x)) (c79 g)
 have m77 : ∀ g, Value.ownBlock u75 = some g → w.heap.size ≤ g ∨ (g = G_0 ∨ some g = Value.ownBlock V0_0 ∨ some g = Value.ownBlock V0_1) := fun g hg => (m77 g hg).elim (fun x => .inl (Nat.le_trans fB.size x)) (c79 g)
 have fB := fB.call q70 c79
 refine ol_val (v := .int .i64 t68.1) (xr_assign rfl rfl) rfl rfl rfl ?_
 refine ol_nil ?_
 refine cw_ret ?_
 repeat (first | with_reducible refine thn_r ?_ | with_reducible refine blk_r ?_)
 obtain rfl := Option.some.inj h
 refine fin_ret1 Try.results122 rfl ?_
 exact ⟨_, rfl, u71, u75, o72, m73, o76, m77, rfl, b_0, fB⟩
def root_Lay.f (fu : Nat) (a0 : S_pmem_Device) (a1 : Int) (a2 : S_api_Super) : Option (Int × S_pmem_Device) := ((root_may.f fu a0).bind fun t15 => (if (!decide (t15 = 0)) = true then some (t15, a0) else ((super_Put.f fu a2).bind fun t20 => (if (if (!t20.2) = true then true else (if (decide (a1 < 0)) = true then true else (decide (a1 ≥ 2)))) = true then some (2, a0) else ((octet_Words.f fu t20.1).bind fun t31 => ((root_head.f fu a0 a1 0).bind fun t38 => (if (!decide (t38.1 = 0)) = true then some (t38.1, t38.2) else ((root_tail.f fu t38.2 a1 t31).bind fun t53 => (if (!decide (t53.1 = 0)) = true then some (t53.1, t53.2) else (if (0 : Int) < (List.length t31 : Int) then ((root_head.f fu t53.2 a1 (ix t31 0)).bind fun t69 => some (t69.1, t69.2)) else none))))))))))
theorem root_Lay.ok (fu : Nat) (w : World) (a0 : S_pmem_Device) (G_0 : Nat) (V0_0 : Value) (O0_0 : Own k_pmem_cell 142 w 0 V0_0 a0.cells) (V0_1 : Value) (O0_1 : Own (kI .i64) 3 w 0 V0_1 a0.plan.list) (b_0 : Blk w G_0 139 [Seg.cell V0_0 O0_0.one, Seg.cell V0_1 O0_1.one, (sI a0.plan.at_), Seg.cell (.bool a0.off), Seg.cell (.bool a0.armed), (sI a0.left), (sI a0.steps)]) (a1 : Int) (a2 : S_api_Super) (V2_0 : Value) (R2_0 : Rd (kI .i64) w V2_0 a2.Charts) (NR2_0_P0 : OffR V2_0 a2.Charts G_0) (NR2_0_R0_0 : OffRV V2_0 a2.Charts V0_0) (NR2_0_R0_1 : OffRV V2_0 a2.Charts V0_1) (r : Int × S_pmem_Device) (h : root_Lay.f fu a0 a1 a2 = some r) :
  Calls Try.prog 77 (([(pt G_0 0), .int .i64 a1, aggV [(sI a2.Epoch), (sI a2.Tickets.Geometry.Blocks), (sI a2.Tickets.Geometry.Slots), (sI a2.Tickets.Geometry.Gens), (sI a2.Tickets.Top), (sI a2.Tickets.High), (sI a2.Tickets.Free), (sI a2.Dir), Seg.cell V2_0 R2_0.one]] : List Value).toArray) w (fun e w' => ∃ v, e = .returned v ∧ ∃ u1 : Value, ∃ u4 : Value, ∃ o2 : Own k_pmem_cell 142 w' 0 u1 r.2.cells, ∃ m3 : ∀ g, Value.ownBlock u1 = some g → w.heap.size ≤ g ∨ (g = G_0 ∨ some g = Value.ownBlock V0_0 ∨ some g = Value.ownBlock V0_1), ∃ o5 : Own (kI .i64) 3 w' 0 u4 r.2.plan.list, ∃ m6 : ∀ g, Value.ownBlock u4 = some g → w.heap.size ≤ g ∨ (g = G_0 ∨ some g = Value.ownBlock V0_0 ∨ some g = Value.ownBlock V0_1), v = .int .i64 r.1 ∧ Blk w' G_0 139 [Seg.cell u1 o2.one, Seg.cell u4 o5.one, (sI r.2.plan.at_), Seg.cell (.bool r.2.off), Seg.cell (.bool r.2.armed), (sI r.2.left), (sI r.2.steps)] ∧ Fr (fun j => j = G_0 ∨ some j = Value.ownBlock V0_0 ∨ some j = Value.ownBlock V0_1) w w') := by
 unfold root_Lay.f at h
 have fB : Fr (fun j => j = G_0 ∨ some j = Value.ownBlock V0_0 ∨ some j = Value.ownBlock V0_1) w w := Fr.refl _ _
 have M0_0 : ∀ g, Value.ownBlock V0_0 = some g → w.heap.size ≤ g ∨ (g = G_0 ∨ some g = Value.ownBlock V0_0 ∨ some g = Value.ownBlock V0_1) := fun g hg => .inr (.inr (.inl hg.symm))
 have M0_1 : ∀ g, Value.ownBlock V0_1 = some g → w.heap.size ≤ g ∨ (g = G_0 ∨ some g = Value.ownBlock V0_0 ∨ some g = Value.ownBlock V0_1) := fun g hg => .inr (.inr (.inr hg.symm))
 refine calls_cw Try.func77 rfl Try.ntmps77 rfl ?_
 refine cw_seq ?_
 refine cw_region ?_
 refine ol_op (opv_box (ss := [(sI a2.Epoch), (sI a2.Tickets.Geometry.Blocks), (sI a2.Tickets.Geometry.Slots), (sI a2.Tickets.Geometry.Gens), (sI a2.Tickets.Top), (sI a2.Tickets.High), (sI a2.Tickets.Free), (sI a2.Dir), Seg.cell V2_0 R2_0.one]) rfl rfl rfl) rfl rfl rfl ?_
 rintro _ w12 ⟨G7, rfl, b8, q9, z10⟩
 have n13 := b_0.ne z10
 have a14 := OffR.new R2_0 z10 rfl
 have z10 := Nat.le_trans fB.size z10
 have b_0 := b_0.gr q9
 have O0_0 := O0_0.gr q9
 have O0_1 := O0_1.gr q9
 have R2_0 := R2_0.gr q9
 have fB := fB.gr q9
 refine ol_val (v := .int .i64 0) (xr_assign rfl rfl) rfl rfl rfl ?_
 refine ol_nil ?_
 refine cw_seq ?_
 refine cw_seq ?_
 refine cw_region ?_
 refine ol_val (v := (pt G_0 0)) (xr_move rfl rfl) rfl rfl rfl ?_
 obtain ⟨t15, k16, h⟩ := bs h
 refine ol_op (opv_call rfl cal119 (ac rfl an) (root_may.ok fu _ a0 G_0 V0_0 (O0_0.rd) V0_1 (O0_1.rd) b_0 _ k16)) rfl rfl rfl ?_
 rintro _ w18 ⟨rfl, q17⟩
 have b_0 := b_0.gr q17
 have b8 := b8.gr q17
 have O0_0 := O0_0.gr q17
 have O0_1 := O0_1.gr q17
 have R2_0 := R2_0.gr q17
 have fB := fB.gr q17
 refine ol_val (v := .int .i64 t15) (xr_assign rfl rfl) rfl rfl rfl ?_
 refine ol_nil ?_
 refine cw_seq ?_
 refine cw_region ?_
 refine ol_val (v := .int .i64 t15) (xr_move rfl rfl) rfl rfl rfl ?_
 refine ol_val (v := .bool (!decide (t15 = 0))) (xr_neI rfl Try.underlying31 rfl rfl rfl) rfl rfl rfl ?_
 refine ol_nil ?_
 rcases is h with ⟨c19, h⟩ | ⟨c19, h⟩
 ·refine cw_condT rfl c19 ?_
  refine cw_seq ?_
  refine cw_region ?_
  refine ol_val (v := .int .i64 t15) (xr_move rfl rfl) rfl rfl rfl ?_
  refine ol_val (v := .int .i64 t15) (xr_assign rfl rfl) rfl rfl rfl ?_
  refine ol_nil ?_
  refine cw_ret ?_
  repeat (first | with_reducible refine thn_r ?_ | with_reducible refine blk_r ?_)
  obtain rfl := Option.some.inj h
  refine fin_ret1 Try.results77 rfl ?_
  exact ⟨_, rfl, V0_0, V0_1, O0_0, M0_0, O0_1, M0_1, rfl, b_0, fB⟩
 refine cw_condF rfl c19 ?_
 refine cw_skip ?_
 refine cw_seq ?_
 refine cw_region ?_
 refine ol_val (v := aggV [(sI a2.Epoch), (sI a2.Tickets.Geometry.Blocks), (sI a2.Tickets.Geometry.Slots), (sI a2.Tickets.Geometry.Gens), (sI a2.Tickets.Top), (sI a2.Tickets.High), (sI a2.Tickets.Free), (sI a2.Dir), Seg.cell V2_0 R2_0.one]) (xr_loadS (ss := [(sI a2.Epoch), (sI a2.Tickets.Geometry.Blocks), (sI a2.Tickets.Geometry.Slots), (sI a2.Tickets.Geometry.Gens), (sI a2.Tickets.Top), (sI a2.Tickets.High), (sI a2.Tickets.Free), (sI a2.Dir), Seg.cell V2_0 R2_0.one]) rfl ag110 sz110 rfl rfl (b8.segs 0 9 rfl)) rfl rfl rfl ?_
 obtain ⟨t20, k21, h⟩ := bs h
 refine ol_op (opv_call rfl cal120 (ac rfl an) (super_Put.ok fu _ a2 V2_0 (R2_0) _ k21)) rfl rfl rfl ?_
 rintro _ w26 ⟨u22, o23, rfl, q25⟩
 have o23 := Own.base o23 fB.size
 have b_0 := b_0.gr q25
 have O0_0 := O0_0.gr q25
 have O0_1 := O0_1.gr q25
 have fB := fB.gr q25
 refine ol_val (v := .tuple #[u22, .bool t20.2]) (xr_move rfl rfl) rfl rfl rfl ?_
 refine ol_val (v := u22) (xr_extract rfl rfl rfl) rfl rfl rfl ?_
 refine ol_val (v := .bool t20.2) (xr_extract rfl rfl rfl) rfl rfl rfl ?_
 refine ol_val (v := u22) (xr_assign rfl rfl) rfl rfl rfl ?_
 refine ol_val (v := .bool t20.2) (xr_assign rfl rfl) rfl rfl rfl ?_
 refine ol_nil ?_
 refine cw_seq ?_
 refine cw_seq ?_
 refine cw_mid (fun ρ' w' => ρ' 0 = (pt G_0 0) ∧ ρ' 1 = .int .i64 a1 ∧ ρ' 8 = u22 ∧ ρ' 32 = .bool (if (!t20.2) = true then true else (if (decide (a1 < 0)) = true then true else (decide (a1 ≥ 2)))) ∧ w26 = w') ?_ ?_
 ·skip
  refine cw_region ?_
  refine ol_val (v := .bool t20.2) (xr_move rfl rfl) rfl rfl rfl ?_
  refine ol_val (v := .bool (!t20.2)) (xr_not rfl rfl) rfl rfl rfl ?_
  refine ol_val (v := .bool (!t20.2)) (xr_move rfl rfl) rfl rfl rfl ?_
  rcases bt (!t20.2) with c27 | c27
  ·skip
   refine ol_gskip rfl rfl rfl rfl rfl c27 ?_
   refine ol_gskip rfl rfl rfl rfl rfl c27 ?_
   refine ol_val (v := .bool true) (xr_pickT rfl rfl c27 rfl) rfl rfl rfl ?_
   refine ol_val (v := .bool true) (xr_move rfl rfl) rfl rfl rfl ?_
   refine ol_gskip rfl rfl rfl rfl rfl rfl ?_
   refine ol_gskip rfl rfl rfl rfl rfl rfl ?_
   refine ol_val (v := .bool true) (xr_pickT rfl rfl rfl rfl) rfl rfl rfl ?_
   refine ol_nil ?_
   refine thn_i ?_
   exact ⟨rfl, rfl, rfl, (rfl).trans (congrArg (fun z => (.bool z : Value)) (show true = (if (!t20.2) = true then true else (if (decide (a1 < 0)) = true then true else (decide (a1 ≥ 2)))) from by rw [ite_t c27])), rfl⟩
  refine ol_gval (v := .int .i64 a1) (xr_move rfl rfl) rfl rfl rfl rfl rfl c27 ?_
  refine ol_gval (v := .bool (decide (a1 < 0))) (xr_lss rfl rfl rfl) rfl rfl rfl rfl rfl c27 ?_
  refine ol_val (v := .bool (decide (a1 < 0))) (xr_pickF rfl rfl c27 rfl) rfl rfl rfl ?_
  refine ol_val (v := .bool (decide (a1 < 0))) (xr_move rfl rfl) rfl rfl rfl ?_
  rcases bt (decide (a1 < 0)) with c28 | c28
  ·skip
   refine ol_gskip rfl rfl rfl rfl rfl c28 ?_
   refine ol_gskip rfl rfl rfl rfl rfl c28 ?_
   refine ol_val (v := .bool true) (xr_pickT rfl rfl c28 rfl) rfl rfl rfl ?_
   refine ol_nil ?_
   refine thn_i ?_
   exact ⟨rfl, rfl, rfl, (rfl).trans (congrArg (fun z => (.bool z : Value)) (show true = (if (!t20.2) = true then true else (if (decide (a1 < 0)) = true then true else (decide (a1 ≥ 2)))) from by rw [ite_f c27, ite_t c28])), rfl⟩
  refine ol_gval (v := .int .i64 a1) (xr_move rfl rfl) rfl rfl rfl rfl rfl c28 ?_
  refine ol_gval (v := .bool (decide (a1 ≥ 2))) (xr_geq rfl rfl rfl) rfl rfl rfl rfl rfl c28 ?_
  refine ol_val (v := .bool (decide (a1 ≥ 2))) (xr_pickF rfl rfl c28 rfl) rfl rfl rfl ?_
  refine ol_nil ?_
  refine thn_i ?_
  exact ⟨rfl, rfl, rfl, (rfl).trans (congrArg (fun z => (.bool z : Value)) (show (decide (a1 ≥ 2)) = (if (!t20.2) = true then true else (if (decide (a1 < 0)) = true then true else (decide (a1 ≥ 2)))) from by rw [ite_f c27, ite_f c28])), rfl⟩
 rintro ρ29 _ ⟨e0, e1, e8, e32, rfl⟩
 rcases is h with ⟨c30, h⟩ | ⟨c30, h⟩
 ·refine cw_condT e32 c30 ?_
  refine cw_seq ?_
  refine cw_region ?_
  refine ol_val (v := .int .i64 2) (xr_assign rfl rfl) rfl rfl rfl ?_
  refine ol_nil ?_
  refine cw_ret ?_
  repeat (first | with_reducible refine thn_r ?_ | with_reducible refine blk_r ?_)
  obtain rfl := Option.some.inj h
  refine fin_ret1 Try.results77 rfl ?_
  exact ⟨_, rfl, V0_0, V0_1, O0_0, M0_0, O0_1, M0_1, rfl, b_0, fB⟩
 refine cw_condF e32 c30 ?_
 refine cw_skip ?_
 refine cw_seq ?_
 refine cw_region ?_
 refine ol_val (v := u22) (xr_move rfl e8) rfl rfl rfl ?_
 obtain ⟨t31, k32, h⟩ := bs h
 refine ol_op (opv_call rfl cal99 (ac rfl an) (octet_Words.ok fu _ t20.1 u22 (o23.rd) _ k32)) rfl rfl rfl ?_
 rintro u33 w37 ⟨_, o34, rfl, q36⟩
 have o34 := Own.base o34 fB.size
 have b_0 := b_0.gr q36
 have O0_0 := O0_0.gr q36
 have O0_1 := O0_1.gr q36
 have fB := fB.gr q36
 refine ol_val (v := u33) (xr_assign rfl rfl) rfl rfl rfl ?_
 refine ol_nil ?_
 refine cw_seq ?_
 refine cw_seq ?_
 refine cw_region ?_
 refine ol_val (v := (pt G_0 0)) (xr_move rfl e0) rfl rfl rfl ?_
 refine ol_val (v := .int .i64 a1) (xr_move rfl e1) rfl rfl rfl ?_
 obtain ⟨t38, k39, h⟩ := bs h
 have f49 := (vo_or (vo_eq (off_ty b_0 o34 (by decide))) (vo_or (vo_own (OffV.ty o34 O0_0 (by decide))) (vo_own (OffV.ty o34 O0_1 (by decide)))))
 have c50 : ∀ k, (k = G_0 ∨ some k = Value.ownBlock V0_0 ∨ some k = Value.ownBlock V0_1) → (w.heap.size ≤ k ∨ (k = G_0 ∨ some k = Value.ownBlock V0_0 ∨ some k = Value.ownBlock V0_1)) := (cv_or (cv_eq (.inr (.inl rfl))) (cv_or (cv_own M0_0) (cv_own M0_1)))
 refine ol_op (opv_call rfl cal121 (ac rfl (ac rfl (ac rfl an))) (root_head.ok fu _ a0 G_0 V0_0 (Own.base O0_0 (Nat.zero_le _)) V0_1 (Own.base O0_1 (Nat.zero_le _)) b_0 a1 0 _ k39)) rfl rfl rfl ?_
 rintro _ w51 ⟨u41, u45, o42, m43, o46, m47, rfl, b_0, q40⟩
 have m43 : ∀ g, Value.ownBlock u41 = some g → w.heap.size ≤ g ∨ (g = G_0 ∨ some g = Value.ownBlock V0_0 ∨ some g = Value.ownBlock V0_1) := fun g hg => (m43 g hg).elim (fun x => .inl (Nat.le_trans fB.size x)) (c50 g)
 have m47 : ∀ g, Value.ownBlock u45 = some g → w.heap.size ≤ g ∨ (g = G_0 ∨ some g = Value.ownBlock V0_0 ∨ some g = Value.ownBlock V0_1) := fun g hg => (m47 g hg).elim (fun x => .inl (Nat.le_trans fB.size x)) (c50 g)
 have o34 := o34.fr q40 f49
 have fB := fB.call q40 c50
 refine ol_val (v := .int .i64 t38.1) (xr_assign rfl rfl) rfl rfl rfl ?_
 refine ol_nil ?_
 refine cw_seq ?_
 refine cw_region ?_
 refine ol_val (v := .int .i64 t38.1) (xr_move rfl rfl) rfl rfl rfl ?_
 refine ol_val (v := .bool (!decide (t38.1 = 0))) (xr_neI rfl Try.underlying31 rfl rfl rfl) rfl rfl rfl ?_
 refine ol_nil ?_
 rcases is h with ⟨c52, h⟩ | ⟨c52, h⟩
 ·refine cw_condT rfl c52 ?_
  refine cw_seq ?_
  refine cw_region ?_
  refine ol_val (v := .int .i64 t38.1) (xr_move rfl rfl) rfl rfl rfl ?_
  refine ol_val (v := .int .i64 t38.1) (xr_assign rfl rfl) rfl rfl rfl ?_
  refine ol_nil ?_
  refine cw_ret ?_
  repeat (first | with_reducible refine thn_r ?_ | with_reducible refine blk_r ?_)
  obtain rfl := Option.some.inj h
  refine fin_ret1 Try.results77 rfl ?_
  exact ⟨_, rfl, u41, u45, o42, m43, o46, m47, rfl, b_0, fB⟩
 refine cw_condF rfl c52 ?_
 refine cw_skip ?_
 refine cw_seq ?_
 refine cw_seq ?_
 refine cw_region ?_
 refine ol_val (v := (pt G_0 0)) (xr_move rfl e0) rfl rfl rfl ?_
 refine ol_val (v := .int .i64 a1) (xr_move rfl e1) rfl rfl rfl ?_
 refine ol_val (v := u33) (xr_move rfl rfl) rfl rfl rfl ?_
 obtain ⟨t53, k54, h⟩ := bs h
 have f64 := (vo_or (vo_eq (off_ty b_0 o34 (by decide))) (vo_or (vo_own (OffV.ty o34 o42 (by decide))) (vo_own (OffV.ty o34 o46 (by decide)))))
 have c65 : ∀ k, (k = G_0 ∨ some k = Value.ownBlock u41 ∨ some k = Value.ownBlock u45) → (w.heap.size ≤ k ∨ (k = G_0 ∨ some k = Value.ownBlock V0_0 ∨ some k = Value.ownBlock V0_1)) := (cv_or (cv_eq (.inr (.inl rfl))) (cv_or (cv_own m43) (cv_own m47)))
 refine ol_op (opv_call rfl cal122 (ac rfl (ac rfl (ac rfl an))) (root_tail.ok fu _ t38.2 G_0 u41 (Own.base o42 (Nat.zero_le _)) u45 (Own.base o46 (Nat.zero_le _)) b_0 a1 t31 u33 (o34.rd) (OffR.own o34 (off_ty b_0 o34 (by decide))) (OffRV.own o34 (OffV.ty o34 o42 (by decide))) (OffRV.own o34 (OffV.ty o34 o46 (by decide))) _ k54)) rfl rfl rfl ?_
 rintro _ w66 ⟨u56, u60, o57, m58, o61, m62, rfl, b_0, q55⟩
 have m58 : ∀ g, Value.ownBlock u56 = some g → w.heap.size ≤ g ∨ (g = G_0 ∨ some g = Value.ownBlock V0_0 ∨ some g = Value.ownBlock V0_1) := fun g hg => (m58 g hg).elim (fun x => .inl (Nat.le_trans fB.size x)) (c65 g)
 have m62 : ∀ g, Value.ownBlock u60 = some g → w.heap.size ≤ g ∨ (g = G_0 ∨ some g = Value.ownBlock V0_0 ∨ some g = Value.ownBlock V0_1) := fun g hg => (m62 g hg).elim (fun x => .inl (Nat.le_trans fB.size x)) (c65 g)
 have o34 := o34.fr q55 f64
 have fB := fB.call q55 c65
 refine ol_val (v := .int .i64 t53.1) (xr_assign rfl rfl) rfl rfl rfl ?_
 refine ol_nil ?_
 refine cw_seq ?_
 refine cw_region ?_
 refine ol_val (v := .int .i64 t53.1) (xr_move rfl rfl) rfl rfl rfl ?_
 refine ol_val (v := .bool (!decide (t53.1 = 0))) (xr_neI rfl Try.underlying31 rfl rfl rfl) rfl rfl rfl ?_
 refine ol_nil ?_
 rcases is h with ⟨c67, h⟩ | ⟨c67, h⟩
 ·refine cw_condT rfl c67 ?_
  refine cw_seq ?_
  refine cw_region ?_
  refine ol_val (v := .int .i64 t53.1) (xr_move rfl rfl) rfl rfl rfl ?_
  refine ol_val (v := .int .i64 t53.1) (xr_assign rfl rfl) rfl rfl rfl ?_
  refine ol_nil ?_
  refine cw_ret ?_
  repeat (first | with_reducible refine thn_r ?_ | with_reducible refine blk_r ?_)
  obtain rfl := Option.some.inj h
  refine fin_ret1 Try.results77 rfl ?_
  exact ⟨_, rfl, u56, u60, o57, m58, o61, m62, rfl, b_0, fB⟩
 refine cw_condF rfl c67 ?_
 refine cw_skip ?_
 refine cw_seq ?_
 refine cw_region ?_
 refine ol_val (v := (pt G_0 0)) (xr_move rfl e0) rfl rfl rfl ?_
 refine ol_val (v := .int .i64 a1) (xr_move rfl e1) rfl rfl rfl ?_
 refine ol_val (v := u33) (xr_move rfl rfl) rfl rfl rfl ?_
 obtain ⟨g68, h⟩ := gs h
 refine ol_val (v := (pt ((sb u33)) (so u33 + Int.toNat 0 * 1))) (xr_indexR (K := (kI .u64)) (v := u33) rfl Try.underlying46 sz22 rfl o34.rd rfl (by decide) g68) rfl rfl rfl ?_
 refine ol_val (v := .int .u64 (ix t31 0)) (xr_load1 (v := .int .u64 (ix t31 0)) rfl ag22 rfl (o34.rd.elem (by decide) g68)) rfl rfl rfl ?_
 obtain ⟨t69, k70, h⟩ := bs h
 have c80 : ∀ k, (k = G_0 ∨ some k = Value.ownBlock u56 ∨ some k = Value.ownBlock u60) → (w.heap.size ≤ k ∨ (k = G_0 ∨ some k = Value.ownBlock V0_0 ∨ some k = Value.ownBlock V0_1)) := (cv_or (cv_eq (.inr (.inl rfl))) (cv_or (cv_own m58) (cv_own m62)))
 refine ol_op (opv_call rfl cal121 (ac rfl (ac rfl (ac rfl an))) (root_head.ok fu _ t53.2 G_0 u56 (Own.base o57 (Nat.zero_le _)) u60 (Own.base o61 (Nat.zero_le _)) b_0 a1 (ix t31 0) _ k70)) rfl rfl rfl ?_
 rintro _ w81 ⟨u72, u76, o73, m74, o77, m78, rfl, b_0, q71⟩
 have m74 : ∀ g, Value.ownBlock u72 = some g → w.heap.size ≤ g ∨ (g = G_0 ∨ some g = Value.ownBlock V0_0 ∨ some g = Value.ownBlock V0_1) := fun g hg => (m74 g hg).elim (fun x => .inl (Nat.le_trans fB.size x)) (c80 g)
 have m78 : ∀ g, Value.ownBlock u76 = some g → w.heap.size ≤ g ∨ (g = G_0 ∨ some g = Value.ownBlock V0_0 ∨ some g = Value.ownBlock V0_1) := fun g hg => (m78 g hg).elim (fun x => .inl (Nat.le_trans fB.size x)) (c80 g)
 have fB := fB.call q71 c80
 refine ol_val (v := .int .i64 t69.1) (xr_assign rfl rfl) rfl rfl rfl ?_
 refine ol_nil ?_
 refine cw_ret ?_
 repeat (first | with_reducible refine thn_r ?_ | with_reducible refine blk_r ?_)
 obtain rfl := Option.some.inj h
 refine fin_ret1 Try.results77 rfl ?_
 exact ⟨_, rfl, u72, u76, o73, m74, o77, m78, rfl, b_0, fB⟩
def rickyardlaw16_least.f (fu : Nat) (a0 : Int) : Option S_api_Super := some ((⟨a0, (⟨(⟨16, 1, 1⟩ : S_api_Geometry), (0 : Int), (0 : Int), (0 : Int)⟩ : S_api_Tickets), (0 : Int), [2]⟩ : S_api_Super))
theorem rickyardlaw16_least.ok (fu : Nat) (w : World) (a0 : Int) (r : S_api_Super) (h : rickyardlaw16_least.f fu a0 = some r) :
  Calls Try.prog 112 (([.int .i64 a0] : List Value).toArray) w (fun e w' => ∃ v, e = .returned v ∧ ∃ u1 : Value, ∃ o2 : Own (kI .i64) 3 w' w.heap.size u1 r.Charts, v = aggV [(sI r.Epoch), (sI r.Tickets.Geometry.Blocks), (sI r.Tickets.Geometry.Slots), (sI r.Tickets.Geometry.Gens), (sI r.Tickets.Top), (sI r.Tickets.High), (sI r.Tickets.Free), (sI r.Dir), Seg.cell u1 o2.one] ∧ Gr w w') := by
 unfold rickyardlaw16_least.f at h
 have fB : Gr w w := Fr.refl _ _
 refine calls_cw Try.func112 rfl Try.ntmps112 rfl ?_
 refine cw_seq ?_
 refine cw_region ?_
 refine ol_op (opv_alloc (ss := [(sI (0 : Int)), (sI (0 : Int)), (sI (0 : Int)), (sI (0 : Int)), (sI (0 : Int)), (sI (0 : Int)), (sI (0 : Int)), (sI (0 : Int)), Seg.cell (.slice none 0 0) (by rfl)]) rfl ze110 rfl) rfl rfl rfl ?_
 rintro _ w9 ⟨G4, rfl, b5, q6, z7⟩
 have z7 := Nat.le_trans fB.size z7
 have fB := fB.gr q6
 refine ol_nil ?_
 refine cw_seq ?_
 refine cw_region ?_
 refine ol_val (v := .int .i64 a0) (xr_move rfl rfl) rfl rfl rfl ?_
 refine ol_op (opv_buildSlice (K := (kI .i64)) (xs := [2]) (vals := [.int .i64 2]) rfl Try.underlying25 el3 rfl rfl ⟨rfl, rfl, trivial⟩ rfl rfl rfl fB.size) rfl rfl rfl ?_
 rintro v10 w15 ⟨o12, q11, z13⟩
 have b5 := b5.gr q11
 have fB := fB.gr q11
 refine ol_val (v := aggV [(sI a0), (sI (0 : Int)), (sI (0 : Int)), (sI (0 : Int)), (sI (0 : Int)), (sI (0 : Int)), (sI (0 : Int)), (sI (0 : Int)), Seg.cell v10 o12.one]) (xr_buildS (vals := [(0, .int .i64 a0), (3, v10)]) (res := [(sI a0), (sI (0 : Int)), (sI (0 : Int)), (sI (0 : Int)), (sI (0 : Int)), (sI (0 : Int)), (sI (0 : Int)), (sI (0 : Int)), Seg.cell v10 o12.one]) rfl ⟨rfl, rfl, ⟨rfl, rfl, trivial⟩⟩ Try.underlying110 ze110 pl110 (fl_cons (xs := cellsOf [(sI a0)]) (cs' := cellsOf [(sI a0), (sI (0 : Int)), (sI (0 : Int)), (sI (0 : Int)), (sI (0 : Int)), (sI (0 : Int)), (sI (0 : Int)), (sI (0 : Int)), Seg.cell (.slice none 0 0) (by rfl)]) rfl rfl (len_cellsOf _) (Spl.segs [(sI (0 : Int)), (sI (0 : Int)), (sI (0 : Int)), (sI (0 : Int)), (sI (0 : Int)), (sI (0 : Int)), (sI (0 : Int)), (sI (0 : Int)), Seg.cell (.slice none 0 0) (by rfl)] 0 1 [(sI a0)] rfl rfl) (fl_cons (xs := cellsOf [Seg.cell v10 o12.one]) (cs' := cellsOf [(sI a0), (sI (0 : Int)), (sI (0 : Int)), (sI (0 : Int)), (sI (0 : Int)), (sI (0 : Int)), (sI (0 : Int)), (sI (0 : Int)), Seg.cell v10 o12.one]) rfl (cells_one o12.one) (len_cellsOf _) (Spl.segs [(sI a0), (sI (0 : Int)), (sI (0 : Int)), (sI (0 : Int)), (sI (0 : Int)), (sI (0 : Int)), (sI (0 : Int)), (sI (0 : Int)), Seg.cell (.slice none 0 0) (by rfl)] 8 1 [Seg.cell v10 o12.one] rfl rfl) fl_nil))) rfl rfl rfl ?_
 refine ol_op (opv_alloc (ss := [(sI (0 : Int)), (sI (0 : Int)), (sI (0 : Int)), (sI (0 : Int)), (sI (0 : Int)), (sI (0 : Int)), (sI (0 : Int)), (sI (0 : Int)), Seg.cell (.slice none 0 0) (by rfl)]) rfl ze110 rfl) rfl rfl rfl ?_
 rintro _ w21 ⟨G16, rfl, b17, q18, z19⟩
 have n22 := b5.ne z19
 have z19 := Nat.le_trans fB.size z19
 have b5 := b5.gr q18
 have o12 := o12.gr q18
 have fB := fB.gr q18
 have f24 := off_ty b17 o12 (by decide)
 refine ol_op0 (opv_store (ss' := [(sI a0), (sI (0 : Int)), (sI (0 : Int)), (sI (0 : Int)), (sI (0 : Int)), (sI (0 : Int)), (sI (0 : Int)), (sI (0 : Int)), Seg.cell v10 o12.one]) (xs := cellsOf [(sI a0), (sI (0 : Int)), (sI (0 : Int)), (sI (0 : Int)), (sI (0 : Int)), (sI (0 : Int)), (sI (0 : Int)), (sI (0 : Int)), Seg.cell v10 o12.one]) rfl sz110 rfl rfl rfl (len_cellsOf _) (one_cellsOf _) b17 (Spl.segs _ 0 9 [(sI a0), (sI (0 : Int)), (sI (0 : Int)), (sI (0 : Int)), (sI (0 : Int)), (sI (0 : Int)), (sI (0 : Int)), (sI (0 : Int)), Seg.cell v10 o12.one] rfl rfl)) rfl rfl ?_
 rintro _ w25 ⟨b17, q23⟩
 have b5 := b5.wr q23 n22
 have o12 := o12.wr q23 f24
 have fB := fB.wr q23 z19
 refine ol_nil ?_
 refine cw_seq ?_
 refine cw_region ?_
 refine ol_val (v := aggV [(sI 16), (sI 1), (sI 1)]) (xr_build (vals := [(0, .int .i64 16), (1, .int .i64 1), (2, .int .i64 1)]) rfl ⟨rfl, rfl, ⟨rfl, rfl, ⟨rfl, rfl, trivial⟩⟩⟩ (bl106_0_1_2 16 1 1 _)) rfl rfl rfl ?_
 refine ol_val (v := (pt G16 1)) (xr_fieldAddr (p := 0) (q := 1) rfl fl110_1 rfl) rfl rfl rfl ?_
 refine ol_val (v := (pt G16 1)) (xr_fieldAddr (p := 1) (q := 0) rfl fl108_0 rfl) rfl rfl rfl ?_
 have f27 := off_ty b17 o12 (by decide)
 refine ol_op0 (opv_store (ss' := [(sI a0), (sI 16), (sI 1), (sI 1), (sI (0 : Int)), (sI (0 : Int)), (sI (0 : Int)), (sI (0 : Int)), Seg.cell v10 o12.one]) (xs := cellsOf [(sI 16), (sI 1), (sI 1)]) rfl sz106 rfl rfl rfl (len_cellsOf _) (one_cellsOf _) b17 (Spl.segs _ 1 3 [(sI 16), (sI 1), (sI 1)] rfl rfl)) rfl rfl ?_
 rintro _ w28 ⟨b17, q26⟩
 have b5 := b5.wr q26 n22
 have o12 := o12.wr q26 f27
 have fB := fB.wr q26 z19
 refine ol_nil ?_
 refine cw_seq ?_
 refine cw_region ?_
 refine ol_val (v := aggV [(sI a0), (sI 16), (sI 1), (sI 1), (sI (0 : Int)), (sI (0 : Int)), (sI (0 : Int)), (sI (0 : Int)), Seg.cell v10 o12.one]) (xr_loadS (ss := [(sI a0), (sI 16), (sI 1), (sI 1), (sI (0 : Int)), (sI (0 : Int)), (sI (0 : Int)), (sI (0 : Int)), Seg.cell v10 o12.one]) rfl ag110 sz110 rfl rfl (b17.segs 0 9 rfl)) rfl rfl rfl ?_
 have f30 := off_ty b5 o12 (by decide)
 refine ol_op0 (opv_store (ss' := [(sI a0), (sI 16), (sI 1), (sI 1), (sI (0 : Int)), (sI (0 : Int)), (sI (0 : Int)), (sI (0 : Int)), Seg.cell v10 o12.one]) (xs := cellsOf [(sI a0), (sI 16), (sI 1), (sI 1), (sI (0 : Int)), (sI (0 : Int)), (sI (0 : Int)), (sI (0 : Int)), Seg.cell v10 o12.one]) rfl sz110 rfl rfl rfl (len_cellsOf _) (one_cellsOf _) b5 (Spl.segs _ 0 9 [(sI a0), (sI 16), (sI 1), (sI 1), (sI (0 : Int)), (sI (0 : Int)), (sI (0 : Int)), (sI (0 : Int)), Seg.cell v10 o12.one] rfl rfl)) rfl rfl ?_
 rintro _ w31 ⟨b5, q29⟩
 have o12 := o12.wr q29 f30
 have fB := fB.wr q29 z7
 refine ol_nil ?_
 refine cw_ret ?_
 repeat (first | with_reducible refine thn_r ?_ | with_reducible refine blk_r ?_)
 obtain rfl := Option.some.inj h
 refine fin_cell Try.results112 rfl ag110 sz110 b5 (by rfl) ?_
 exact ⟨_, rfl, v10, o12, rfl, fB⟩
def rickyardlaw16_awake.f (fu : Nat) : Option Bool := ((pmem_New.f fu 2).bind fun t1 => (Option.elim t1.1 (some (false)) (fun m8 => ((rickyardlaw16_least.f fu 4).bind fun t19 => ((root_Lay.f fu m8 0 t19).bind fun t27 => ((rickyardlaw16_least.f fu 5).bind fun t40 => ((root_Lay.f fu t27.2 1 t40).bind fun t48 => ((root_Pick.f fu t48.2).bind fun t61 => some ((if (decide (t27.1 = 0)) = true then (if (decide (t48.1 = 0)) = true then (if t61.2.2 = true then (if (decide (t61.2.1 = 1)) = true then (decide (t61.1.Epoch = 5)) else false) else false) else false) else false))))))))))
theorem rickyardlaw16_awake.ok (fu : Nat) (w : World)  (r : Bool) (h : rickyardlaw16_awake.f fu = some r) :
  Calls Try.prog 69 (([] : List Value).toArray) w (fun e w' => ∃ v, e = .returned v ∧ v = .bool r ∧ Gr w w') := by
 unfold rickyardlaw16_awake.f at h
 have fB : Gr w w := Fr.refl _ _
 refine calls_cw Try.func69 rfl Try.ntmps69 rfl ?_
 refine cw_seq ?_
 refine cw_region ?_
 refine ol_val (v := .bool false) (xr_assign rfl rfl) rfl rfl rfl ?_
 refine ol_nil ?_
 refine cw_seq ?_
 refine cw_region ?_
 obtain ⟨t1, k2, h⟩ := bs h
 refine ol_op (opv_call rfl cal26 (ac rfl an) (pmem_New.ok fu _ 2 _ k2)) rfl rfl rfl ?_
 rintro _ w6 ⟨u3, p4, rfl, q5⟩
 rcases en h with ⟨e7, h⟩ | ⟨m8, e7, h⟩
 ·obtain rfl := p4.1 e7
  have fB := fB.gr q5
  refine ol_val (v := .tuple #[.pointer none, .int .i64 t1.2]) (xr_move rfl rfl) rfl rfl rfl ?_
  refine ol_val (v := .pointer none) (xr_extract rfl rfl rfl) rfl rfl rfl ?_
  refine ol_val (v := .int .i64 t1.2) (xr_extract rfl rfl rfl) rfl rfl rfl ?_
  refine ol_val (v := .pointer none) (xr_assign rfl rfl) rfl rfl rfl ?_
  refine ol_val (v := .int .i64 t1.2) (xr_assign rfl rfl) rfl rfl rfl ?_
  refine ol_nil ?_
  refine cw_seq ?_
  refine cw_seq ?_
  refine cw_region ?_
  refine ol_val (v := .pointer none) (xr_move rfl rfl) rfl rfl rfl ?_
  refine ol_val (v := .bool true) (xr_eqP (b := true) rfl Try.underlying30 rfl rfl (by simp) (by simp)) rfl rfl rfl ?_
  refine ol_nil ?_
  refine cw_condT rfl rfl ?_
  refine cw_seq ?_
  refine cw_region ?_
  refine ol_val (v := .bool false) (xr_assign rfl rfl) rfl rfl rfl ?_
  refine ol_nil ?_
  refine cw_ret ?_
  repeat (first | with_reducible refine thn_r ?_ | with_reducible refine blk_r ?_)
  obtain rfl := Option.some.inj h
  refine fin_ret1 Try.results69 rfl ?_
  exact ⟨_, rfl, rfl, fB⟩
 obtain ⟨G9, u13, u16, o14, o17, rfl, z10, b11⟩ := p4.2 _ e7
 have o14 := Own.base o14 fB.size
 have o17 := Own.base o17 fB.size
 have z10 := Nat.le_trans fB.size z10
 have fB := fB.gr q5
 refine ol_val (v := .tuple #[(pt G9 0), .int .i64 t1.2]) (xr_move rfl rfl) rfl rfl rfl ?_
 refine ol_val (v := (pt G9 0)) (xr_extract rfl rfl rfl) rfl rfl rfl ?_
 refine ol_val (v := .int .i64 t1.2) (xr_extract rfl rfl rfl) rfl rfl rfl ?_
 refine ol_val (v := (pt G9 0)) (xr_assign rfl rfl) rfl rfl rfl ?_
 refine ol_val (v := .int .i64 t1.2) (xr_assign rfl rfl) rfl rfl rfl ?_
 refine ol_nil ?_
 refine cw_seq ?_
 refine cw_seq ?_
 refine cw_region ?_
 refine ol_val (v := (pt G9 0)) (xr_move rfl rfl) rfl rfl rfl ?_
 refine ol_val (v := .bool false) (xr_eqP (b := false) rfl Try.underlying30 rfl rfl (by simp) (by simp)) rfl rfl rfl ?_
 refine ol_nil ?_
 refine cw_condF rfl rfl ?_
 refine cw_skip ?_
 refine cw_seq ?_
 refine cw_region ?_
 refine ol_val (v := (pt G9 0)) (xr_move rfl rfl) rfl rfl rfl ?_
 obtain ⟨t19, k20, h⟩ := bs h
 refine ol_op (opv_call rfl cal112 (ac rfl an) (rickyardlaw16_least.ok fu _ 4 _ k20)) rfl rfl rfl ?_
 rintro _ w25 ⟨u21, o22, rfl, q24⟩
 have a26 := OffV.call o17 o22
 have o22 := Own.base o22 fB.size
 have b11 := b11.gr q24
 have o14 := o14.gr q24
 have o17 := o17.gr q24
 have fB := fB.gr q24
 obtain ⟨t27, k28, h⟩ := bs h
 have c38 : ∀ k, (k = G9 ∨ some k = Value.ownBlock u13 ∨ some k = Value.ownBlock u16) → w.heap.size ≤ k := (cv_or (cv_eq z10) (cv_or (cv_own o14.geO) (cv_own o17.geO)))
 refine ol_op (opv_call rfl cal77 (ac rfl (ac rfl (ac rfl an))) (root_Lay.ok fu _ m8 G9 u13 (Own.base o14 (Nat.zero_le _)) u16 (Own.base o17 (Nat.zero_le _)) b11 0 t19 u21 (o22.rd) (OffR.own o22 (off_ty b11 o22 (by decide))) (OffRV.own o22 (OffV.ty o22 o14 (by decide))) (OffRV.own o22 a26.symm) _ k28)) rfl rfl rfl ?_
 rintro _ w39 ⟨u30, u34, o31, m32, o35, m36, rfl, b11, q29⟩
 have o31 := Own.rebase o31 (fun g hg => (m32 g hg).elim (fun x => Nat.le_trans fB.size x) (c38 g))
 have o35 := Own.rebase o35 (fun g hg => (m36 g hg).elim (fun x => Nat.le_trans fB.size x) (c38 g))
 have fB := fB.call q29 (fun k h => .inl (c38 k h))
 refine ol_val (v := (pt G9 0)) (xr_move rfl rfl) rfl rfl rfl ?_
 obtain ⟨t40, k41, h⟩ := bs h
 refine ol_op (opv_call rfl cal112 (ac rfl an) (rickyardlaw16_least.ok fu _ 5 _ k41)) rfl rfl rfl ?_
 rintro _ w46 ⟨u42, o43, rfl, q45⟩
 have a47 := OffV.call o35 o43
 have o43 := Own.base o43 fB.size
 have b11 := b11.gr q45
 have o31 := o31.gr q45
 have o35 := o35.gr q45
 have fB := fB.gr q45
 obtain ⟨t48, k49, h⟩ := bs h
 have c59 : ∀ k, (k = G9 ∨ some k = Value.ownBlock u30 ∨ some k = Value.ownBlock u34) → w.heap.size ≤ k := (cv_or (cv_eq z10) (cv_or (cv_own o31.geO) (cv_own o35.geO)))
 refine ol_op (opv_call rfl cal77 (ac rfl (ac rfl (ac rfl an))) (root_Lay.ok fu _ t27.2 G9 u30 (Own.base o31 (Nat.zero_le _)) u34 (Own.base o35 (Nat.zero_le _)) b11 1 t40 u42 (o43.rd) (OffR.own o43 (off_ty b11 o43 (by decide))) (OffRV.own o43 (OffV.ty o43 o31 (by decide))) (OffRV.own o43 a47.symm) _ k49)) rfl rfl rfl ?_
 rintro _ w60 ⟨u51, u55, o52, m53, o56, m57, rfl, b11, q50⟩
 have o52 := Own.rebase o52 (fun g hg => (m53 g hg).elim (fun x => Nat.le_trans fB.size x) (c59 g))
 have o56 := Own.rebase o56 (fun g hg => (m57 g hg).elim (fun x => Nat.le_trans fB.size x) (c59 g))
 have fB := fB.call q50 (fun k h => .inl (c59 k h))
 refine ol_val (v := .int .i64 t27.1) (xr_assign rfl rfl) rfl rfl rfl ?_
 refine ol_val (v := .int .i64 t48.1) (xr_assign rfl rfl) rfl rfl rfl ?_
 refine ol_nil ?_
 refine cw_seq ?_
 refine cw_region ?_
 refine ol_val (v := (pt G9 0)) (xr_move rfl rfl) rfl rfl rfl ?_
 obtain ⟨t61, k62, h⟩ := bs h
 refine ol_op (opv_call rfl cal72 (ac rfl an) (root_Pick.ok fu _ t48.2 G9 u51 (o52.rd) u55 (o56.rd) b11 _ k62)) rfl rfl rfl ?_
 rintro _ w67 ⟨u63, o64, rfl, q66⟩
 have o64 := Own.base o64 fB.size
 have fB := fB.gr q66
 refine ol_val (v := .tuple #[aggV [(sI t61.1.Epoch), (sI t61.1.Tickets.Geometry.Blocks), (sI t61.1.Tickets.Geometry.Slots), (sI t61.1.Tickets.Geometry.Gens), (sI t61.1.Tickets.Top), (sI t61.1.Tickets.High), (sI t61.1.Tickets.Free), (sI t61.1.Dir), Seg.cell u63 o64.one], .int .i64 t61.2.1, .bool t61.2.2]) (xr_move rfl rfl) rfl rfl rfl ?_
 refine ol_val (v := aggV [(sI t61.1.Epoch), (sI t61.1.Tickets.Geometry.Blocks), (sI t61.1.Tickets.Geometry.Slots), (sI t61.1.Tickets.Geometry.Gens), (sI t61.1.Tickets.Top), (sI t61.1.Tickets.High), (sI t61.1.Tickets.Free), (sI t61.1.Dir), Seg.cell u63 o64.one]) (xr_extract rfl rfl rfl) rfl rfl rfl ?_
 refine ol_val (v := .int .i64 t61.2.1) (xr_extract rfl rfl rfl) rfl rfl rfl ?_
 refine ol_val (v := .bool t61.2.2) (xr_extract rfl rfl rfl) rfl rfl rfl ?_
 refine ol_op (opv_alloc (ss := [(sI (0 : Int)), (sI (0 : Int)), (sI (0 : Int)), (sI (0 : Int)), (sI (0 : Int)), (sI (0 : Int)), (sI (0 : Int)), (sI (0 : Int)), Seg.cell (.slice none 0 0) (by rfl)]) rfl ze110 rfl) rfl rfl rfl ?_
 rintro _ w73 ⟨G68, rfl, b69, q70, z71⟩
 have z71 := Nat.le_trans fB.size z71
 have o64 := o64.gr q70
 have fB := fB.gr q70
 have f75 := off_ty b69 o64 (by decide)
 refine ol_op0 (opv_store (ss' := [(sI t61.1.Epoch), (sI t61.1.Tickets.Geometry.Blocks), (sI t61.1.Tickets.Geometry.Slots), (sI t61.1.Tickets.Geometry.Gens), (sI t61.1.Tickets.Top), (sI t61.1.Tickets.High), (sI t61.1.Tickets.Free), (sI t61.1.Dir), Seg.cell u63 o64.one]) (xs := cellsOf [(sI t61.1.Epoch), (sI t61.1.Tickets.Geometry.Blocks), (sI t61.1.Tickets.Geometry.Slots), (sI t61.1.Tickets.Geometry.Gens), (sI t61.1.Tickets.Top), (sI t61.1.Tickets.High), (sI t61.1.Tickets.Free), (sI t61.1.Dir), Seg.cell u63 o64.one]) rfl sz110 rfl rfl rfl (len_cellsOf _) (one_cellsOf _) b69 (Spl.segs _ 0 9 [(sI t61.1.Epoch), (sI t61.1.Tickets.Geometry.Blocks), (sI t61.1.Tickets.Geometry.Slots), (sI t61.1.Tickets.Geometry.Gens), (sI t61.1.Tickets.Top), (sI t61.1.Tickets.High), (sI t61.1.Tickets.Free), (sI t61.1.Dir), Seg.cell u63 o64.one] rfl rfl)) rfl rfl ?_
 rintro _ w76 ⟨b69, q74⟩
 have o64 := o64.wr q74 f75
 have fB := fB.wr q74 z71
 refine ol_val (v := .int .i64 t61.2.1) (xr_assign rfl rfl) rfl rfl rfl ?_
 refine ol_val (v := .bool t61.2.2) (xr_assign rfl rfl) rfl rfl rfl ?_
 refine ol_nil ?_
 refine cw_seq ?_
 refine cw_mid (fun ρ' w' => ρ' 0 = .bool (if (decide (t27.1 = 0)) = true then (if (decide (t48.1 = 0)) = true then (if t61.2.2 = true then (if (decide (t61.2.1 = 1)) = true then (decide (t61.1.Epoch = 5)) else false) else false) else false) else false) ∧ w76 = w') ?_ ?_
 ·skip
  refine cw_region ?_
  refine ol_val (v := .int .i64 t27.1) (xr_move rfl rfl) rfl rfl rfl ?_
  refine ol_val (v := .bool (decide (t27.1 = 0))) (xr_eqI rfl Try.underlying31 rfl rfl rfl) rfl rfl rfl ?_
  refine ol_val (v := .bool (decide (t27.1 = 0))) (xr_move rfl rfl) rfl rfl rfl ?_
  rcases bt (decide (t27.1 = 0)) with c77 | c77
  ·skip
   refine ol_gval (v := .int .i64 t48.1) (xr_move rfl rfl) rfl rfl rfl rfl rfl c77 ?_
   refine ol_gval (v := .bool (decide (t48.1 = 0))) (xr_eqI rfl Try.underlying31 rfl rfl rfl) rfl rfl rfl rfl rfl c77 ?_
   refine ol_val (v := .bool (decide (t48.1 = 0))) (xr_pickT rfl rfl c77 rfl) rfl rfl rfl ?_
   refine ol_val (v := .bool (decide (t48.1 = 0))) (xr_move rfl rfl) rfl rfl rfl ?_
   rcases bt (decide (t48.1 = 0)) with c78 | c78
   ·skip
    refine ol_gval (v := .bool t61.2.2) (xr_move rfl rfl) rfl rfl rfl rfl rfl c78 ?_
    refine ol_val (v := .bool t61.2.2) (xr_pickT rfl rfl c78 rfl) rfl rfl rfl ?_
    refine ol_val (v := .bool t61.2.2) (xr_move rfl rfl) rfl rfl rfl ?_
    rcases bt t61.2.2 with c79 | c79
    ·skip
     refine ol_gval (v := .int .i64 t61.2.1) (xr_move rfl rfl) rfl rfl rfl rfl rfl c79 ?_
     refine ol_gval (v := .bool (decide (t61.2.1 = 1))) (xr_eqI rfl Try.underlying3 rfl rfl rfl) rfl rfl rfl rfl rfl c79 ?_
     refine ol_val (v := .bool (decide (t61.2.1 = 1))) (xr_pickT rfl rfl c79 rfl) rfl rfl rfl ?_
     refine ol_val (v := .bool (decide (t61.2.1 = 1))) (xr_move rfl rfl) rfl rfl rfl ?_
     rcases bt (decide (t61.2.1 = 1)) with c80 | c80
     ·skip
      refine ol_gval (v := (pt G68 0)) (xr_fieldAddr (p := 0) (q := 0) rfl fl110_0 rfl) rfl rfl rfl rfl rfl c80 ?_
      refine ol_gval (v := .int .i64 t61.1.Epoch) (xr_load1 (v := .int .i64 t61.1.Epoch) rfl ag3 rfl (b69.seg 0 rfl rfl)) rfl rfl rfl rfl rfl c80 ?_
      refine ol_gval (v := .bool (decide (t61.1.Epoch = 5))) (xr_eqI rfl Try.underlying3 rfl rfl rfl) rfl rfl rfl rfl rfl c80 ?_
      refine ol_val (v := .bool (decide (t61.1.Epoch = 5))) (xr_pickT rfl rfl c80 rfl) rfl rfl rfl ?_
      refine ol_val (v := .bool (decide (t61.1.Epoch = 5))) (xr_assign rfl rfl) rfl rfl rfl ?_
      refine ol_nil ?_
      refine thn_i ?_
      exact ⟨(rfl).trans (congrArg (fun z => (.bool z : Value)) (show (decide (t61.1.Epoch = 5)) = (if (decide (t27.1 = 0)) = true then (if (decide (t48.1 = 0)) = true then (if t61.2.2 = true then (if (decide (t61.2.1 = 1)) = true then (decide (t61.1.Epoch = 5)) else false) else false) else false) else false) from by rw [ite_t c77, ite_t c78, ite_t c79, ite_t c80])), rfl⟩
     refine ol_gskip rfl rfl rfl rfl rfl c80 ?_
     refine ol_gskip rfl rfl rfl rfl rfl c80 ?_
     refine ol_gskip rfl rfl rfl rfl rfl c80 ?_
     refine ol_val (v := .bool false) (xr_pickF rfl rfl c80 rfl) rfl rfl rfl ?_
     refine ol_val (v := .bool false) (xr_assign rfl rfl) rfl rfl rfl ?_
     refine ol_nil ?_
     refine thn_i ?_
     exact ⟨(rfl).trans (congrArg (fun z => (.bool z : Value)) (show false = (if (decide (t27.1 = 0)) = true then (if (decide (t48.1 = 0)) = true then (if t61.2.2 = true then (if (decide (t61.2.1 = 1)) = true then (decide (t61.1.Epoch = 5)) else false) else false) else false) else false) from by rw [ite_t c77, ite_t c78, ite_t c79, ite_f c80])), rfl⟩
    refine ol_gskip rfl rfl rfl rfl rfl c79 ?_
    refine ol_gskip rfl rfl rfl rfl rfl c79 ?_
    refine ol_val (v := .bool false) (xr_pickF rfl rfl c79 rfl) rfl rfl rfl ?_
    refine ol_val (v := .bool false) (xr_move rfl rfl) rfl rfl rfl ?_
    refine ol_gskip rfl rfl rfl rfl rfl rfl ?_
    refine ol_gskip rfl rfl rfl rfl rfl rfl ?_
    refine ol_gskip rfl rfl rfl rfl rfl rfl ?_
    refine ol_val (v := .bool false) (xr_pickF rfl rfl rfl rfl) rfl rfl rfl ?_
    refine ol_val (v := .bool false) (xr_assign rfl rfl) rfl rfl rfl ?_
    refine ol_nil ?_
    refine thn_i ?_
    exact ⟨(rfl).trans (congrArg (fun z => (.bool z : Value)) (show false = (if (decide (t27.1 = 0)) = true then (if (decide (t48.1 = 0)) = true then (if t61.2.2 = true then (if (decide (t61.2.1 = 1)) = true then (decide (t61.1.Epoch = 5)) else false) else false) else false) else false) from by rw [ite_t c77, ite_t c78, ite_f c79])), rfl⟩
   refine ol_gskip rfl rfl rfl rfl rfl c78 ?_
   refine ol_val (v := .bool false) (xr_pickF rfl rfl c78 rfl) rfl rfl rfl ?_
   refine ol_val (v := .bool false) (xr_move rfl rfl) rfl rfl rfl ?_
   refine ol_gskip rfl rfl rfl rfl rfl rfl ?_
   refine ol_gskip rfl rfl rfl rfl rfl rfl ?_
   refine ol_val (v := .bool false) (xr_pickF rfl rfl rfl rfl) rfl rfl rfl ?_
   refine ol_val (v := .bool false) (xr_move rfl rfl) rfl rfl rfl ?_
   refine ol_gskip rfl rfl rfl rfl rfl rfl ?_
   refine ol_gskip rfl rfl rfl rfl rfl rfl ?_
   refine ol_gskip rfl rfl rfl rfl rfl rfl ?_
   refine ol_val (v := .bool false) (xr_pickF rfl rfl rfl rfl) rfl rfl rfl ?_
   refine ol_val (v := .bool false) (xr_assign rfl rfl) rfl rfl rfl ?_
   refine ol_nil ?_
   refine thn_i ?_
   exact ⟨(rfl).trans (congrArg (fun z => (.bool z : Value)) (show false = (if (decide (t27.1 = 0)) = true then (if (decide (t48.1 = 0)) = true then (if t61.2.2 = true then (if (decide (t61.2.1 = 1)) = true then (decide (t61.1.Epoch = 5)) else false) else false) else false) else false) from by rw [ite_t c77, ite_f c78])), rfl⟩
  refine ol_gskip rfl rfl rfl rfl rfl c77 ?_
  refine ol_gskip rfl rfl rfl rfl rfl c77 ?_
  refine ol_val (v := .bool false) (xr_pickF rfl rfl c77 rfl) rfl rfl rfl ?_
  refine ol_val (v := .bool false) (xr_move rfl rfl) rfl rfl rfl ?_
  refine ol_gskip rfl rfl rfl rfl rfl rfl ?_
  refine ol_val (v := .bool false) (xr_pickF rfl rfl rfl rfl) rfl rfl rfl ?_
  refine ol_val (v := .bool false) (xr_move rfl rfl) rfl rfl rfl ?_
  refine ol_gskip rfl rfl rfl rfl rfl rfl ?_
  refine ol_gskip rfl rfl rfl rfl rfl rfl ?_
  refine ol_val (v := .bool false) (xr_pickF rfl rfl rfl rfl) rfl rfl rfl ?_
  refine ol_val (v := .bool false) (xr_move rfl rfl) rfl rfl rfl ?_
  refine ol_gskip rfl rfl rfl rfl rfl rfl ?_
  refine ol_gskip rfl rfl rfl rfl rfl rfl ?_
  refine ol_gskip rfl rfl rfl rfl rfl rfl ?_
  refine ol_val (v := .bool false) (xr_pickF rfl rfl rfl rfl) rfl rfl rfl ?_
  refine ol_val (v := .bool false) (xr_assign rfl rfl) rfl rfl rfl ?_
  refine ol_nil ?_
  refine thn_i ?_
  exact ⟨(rfl).trans (congrArg (fun z => (.bool z : Value)) (show false = (if (decide (t27.1 = 0)) = true then (if (decide (t48.1 = 0)) = true then (if t61.2.2 = true then (if (decide (t61.2.1 = 1)) = true then (decide (t61.1.Epoch = 5)) else false) else false) else false) else false) from by rw [ite_f c77])), rfl⟩
 rintro ρ81 _ ⟨e0, rfl⟩
 refine cw_ret ?_
 repeat (first | with_reducible refine thn_r ?_ | with_reducible refine blk_r ?_)
 obtain rfl := Option.some.inj h
 refine fin_ret1 Try.results69 e0 ?_
 exact ⟨_, rfl, rfl, fB⟩
def rickyardref01_Ints.s0 (fu : Nat) (a0 : List Int) (a1 : List Int) : Int → Option (Sum (Sum Bool Unit) Int) := fun s2 => (if (decide (s2 < (List.length a0 : Int))) = true then (if 0 ≤ s2 ∧ s2 < (List.length a0 : Int) then (if 0 ≤ s2 ∧ s2 < (List.length a1 : Int) then (if (!decide ((ix a0 s2) = (ix a1 s2))) = true then some (Sum.inl (Sum.inl (false))) else some (Sum.inr ((IntKind.i64.wrap (s2 + 1))))) else none) else none) else some (Sum.inl (Sum.inr ())))
def rickyardref01_Ints.f (fu : Nat) (a0 : List Int) (a1 : List Int) : Option Bool := (if (!decide ((List.length a0 : Int) = (List.length a1 : Int))) = true then some (false) else ((loopM (rickyardref01_Ints.s0 fu a0 a1) fu (0)).bind fun e3 => match e3 with | Sum.inl p => some p | Sum.inr x6 => some (true)))
theorem rickyardref01_Ints.ok (fu : Nat) (w : World) (a0 : List Int) (V0_0 : Value) (R0_0 : Rd (kI .i64) w V0_0 a0) (a1 : List Int) (V1_0 : Value) (R1_0 : Rd (kI .i64) w V1_0 a1) (r : Bool) (h : rickyardref01_Ints.f fu a0 a1 = some r) :
  Calls Try.prog 66 (([V0_0, V1_0] : List Value).toArray) w (fun e w' => ∃ v, e = .returned v ∧ v = .bool r ∧ Gr w w') := by
 unfold rickyardref01_Ints.f at h
 have fB : Gr w w := Fr.refl _ _
 refine calls_cw Try.func66 rfl Try.ntmps66 rfl ?_
 refine cw_seq ?_
 refine cw_region ?_
 refine ol_val (v := .bool false) (xr_assign rfl rfl) rfl rfl rfl ?_
 refine ol_nil ?_
 refine cw_seq ?_
 refine cw_seq ?_
 refine cw_region ?_
 refine ol_val (v := V0_0) (xr_move rfl rfl) rfl rfl rfl ?_
 refine ol_val (v := .int .i64 (List.length a0 : Int)) (xr_lenR rfl Try.underlying25 rfl (R0_0.gr fB)) rfl rfl rfl ?_
 refine ol_val (v := V1_0) (xr_move rfl rfl) rfl rfl rfl ?_
 refine ol_val (v := .int .i64 (List.length a1 : Int)) (xr_lenR rfl Try.underlying25 rfl (R1_0.gr fB)) rfl rfl rfl ?_
 refine ol_val (v := .bool (!decide ((List.length a0 : Int) = (List.length a1 : Int)))) (xr_neI rfl Try.underlying3 rfl rfl rfl) rfl rfl rfl ?_
 refine ol_nil ?_
 rcases is h with ⟨c1, h⟩ | ⟨c1, h⟩
 ·refine cw_condT rfl c1 ?_
  refine cw_seq ?_
  refine cw_region ?_
  refine ol_val (v := .bool false) (xr_assign rfl rfl) rfl rfl rfl ?_
  refine ol_nil ?_
  refine cw_ret ?_
  repeat (first | with_reducible refine thn_r ?_ | with_reducible refine blk_r ?_)
  obtain rfl := Option.some.inj h
  refine fin_ret1 Try.results66 rfl ?_
  exact ⟨_, rfl, rfl, fB⟩
 refine cw_condF rfl c1 ?_
 refine cw_skip ?_
 refine cw_seq ?_
 refine cw_seq ?_
 refine cw_region ?_
 refine ol_val (v := .int .i64 0) (xr_assign rfl rfl) rfl rfl rfl ?_
 refine ol_nil ?_
 obtain ⟨e3, l4, h5⟩ := bs h
 refine cw_mid (fun ρ' w' => ∃ x6, e3 = Sum.inr x6 ∧ Gr w w') ?_ ?_
 ·refine cw_block ?_
  refine cw_round (fun (s2 : Int) ρ' w' => ρ' 0 = V0_0 ∧ ρ' 1 = V1_0 ∧ ρ' 5 = .int .i64 s2 ∧ Gr w w') l4 ?_ ?_
  ·skip
   exact ⟨rfl, rfl, rfl, fB⟩
  rintro s2 x9 ρ7 w8 ⟨e0, e1, e5, fB⟩ h
  unfold rickyardref01_Ints.s0 at h
  refine cw_seq ?_
  refine cw_seq ?_
  refine cw_region ?_
  refine ol_val (v := .int .i64 s2) (xr_move rfl e5) rfl rfl rfl ?_
  refine ol_val (v := V0_0) (xr_move rfl e0) rfl rfl rfl ?_
  refine ol_val (v := .int .i64 (List.length a0 : Int)) (xr_lenR rfl Try.underlying25 rfl (R0_0.gr fB)) rfl rfl rfl ?_
  refine ol_val (v := .bool (decide (s2 < (List.length a0 : Int)))) (xr_lss rfl rfl rfl) rfl rfl rfl ?_
  refine ol_nil ?_
  rcases is h with ⟨c10, h⟩ | ⟨c10, h⟩
  ·refine cw_condT rfl c10 ?_
   refine cw_skip ?_
   refine cw_seq ?_
   refine cw_block ?_
   refine cw_seq ?_
   obtain ⟨g11, h⟩ := gs h
   obtain ⟨g12, h⟩ := gs h
   refine cw_drawL 8 [fun vz wz => vz = (V0_0 : Value), fun vz wz => vz = (.int .i64 s2 : Value), fun vz wz => vz = ((pt ((sb V0_0)) (so V0_0 + Int.toNat s2 * 1)) : Value), fun vz wz => vz = (.int .i64 (ix a0 s2) : Value), fun vz wz => vz = (V1_0 : Value), fun vz wz => vz = (.int .i64 s2 : Value), fun vz wz => vz = ((pt ((sb V1_0)) (so V1_0 + Int.toNat s2 * 1)) : Value), fun vz wz => vz = (.int .i64 (ix a1 s2) : Value)] mo rfl ⟨fun _ _ _ h _ => h, fun _ _ _ h _ => h, fun _ _ _ h _ => h, fun _ _ _ h _ => h, fun _ _ _ h _ => h, fun _ _ _ h _ => h, fun _ _ _ h _ => h, fun _ _ _ h _ => h, trivial⟩ ?_ ?_
   ·refine ⟨?_, ?_, ?_, ?_, ?_, ?_, ?_, ?_, trivial⟩
    ·intro ρz wz hz hk hd
     exact sk_val (v := V0_0) (xr_move rfl ((hk 0 rfl).trans e0)) rfl rfl
    ·intro ρz wz hz hk hd
     exact sk_val (v := .int .i64 s2) (xr_move rfl ((hk 5 rfl).trans e5)) rfl rfl
    ·intro ρz wz hz hk hd
     exact sk_val (xr_indexR (K := (kI .i64)) (v := V0_0) rfl Try.underlying25 sz3 (hd 0 rfl 17 rfl) (R0_0.gr (fB.gr hz)) (hd 1 rfl 18 rfl) g11.1 g11.2) rfl rfl
    ·intro ρz wz hz hk hd
     exact sk_val (v := .int .i64 (ix a0 s2)) (xr_load1 (v := .int .i64 (ix a0 s2)) rfl ag3 (hd 2 rfl 19 rfl) ((R0_0.gr (fB.gr hz)).elem g11.1 g11.2)) rfl rfl
    ·intro ρz wz hz hk hd
     exact sk_val (v := V1_0) (xr_move rfl ((hk 1 rfl).trans e1)) rfl rfl
    ·intro ρz wz hz hk hd
     exact sk_val (v := .int .i64 s2) (xr_move rfl ((hk 5 rfl).trans e5)) rfl rfl
    ·intro ρz wz hz hk hd
     exact sk_val (xr_indexR (K := (kI .i64)) (v := V1_0) rfl Try.underlying25 sz3 (hd 4 rfl 21 rfl) (R1_0.gr (fB.gr hz)) (hd 5 rfl 22 rfl) g12.1 g12.2) rfl rfl
    intro ρz wz hz hk hd
    exact sk_val (v := .int .i64 (ix a1 s2)) (xr_load1 (v := .int .i64 (ix a1 s2)) rfl ag3 (hd 6 rfl 23 rfl) ((R1_0.gr (fB.gr hz)).elem g12.1 g12.2)) rfl rfl
   intro ρ13 w14 q15 hk hd
   have e0 := (hk 0 rfl).trans e0
   have e1 := (hk 1 rfl).trans e1
   have e5 := (hk 5 rfl).trans e5
   have e20 := hd 3 rfl 20 rfl
   have e24 := hd 7 rfl 24 rfl
   have fB := fB.gr q15
   refine ol_val (v := .bool (!decide ((ix a0 s2) = (ix a1 s2)))) (xr_neI rfl Try.underlying3 rfl e20 e24) rfl rfl rfl ?_
   refine ol_nil ?_
   rcases is h with ⟨c16, h⟩ | ⟨c16, h⟩
   ·refine cw_condT rfl c16 ?_
    refine cw_seq ?_
    refine cw_region ?_
    refine ol_val (v := .bool false) (xr_assign rfl rfl) rfl rfl rfl ?_
    refine ol_nil ?_
    refine cw_ret ?_
    repeat (first | with_reducible refine thn_r ?_ | with_reducible refine blk_r ?_)
    obtain rfl := Option.some.inj h
    refine lp_ret ?_
    rintro rfl
    repeat (first | with_reducible refine thn_r ?_ | with_reducible refine blk_r ?_)
    have h := h5
    obtain rfl := Option.some.inj h
    refine fin_ret1 Try.results66 rfl ?_
    exact ⟨_, rfl, rfl, fB⟩
   refine cw_condF rfl c16 ?_
   refine cw_skip ?_
   refine blk_i ?_
   refine cw_region ?_
   refine ol_val (v := .int .i64 s2) (xr_move rfl e5) rfl rfl rfl ?_
   refine ol_val (v := .int .i64 (IntKind.i64.wrap (s2 + 1))) (xr_add rfl rfl rfl) rfl rfl rfl ?_
   refine ol_val (v := .int .i64 (IntKind.i64.wrap (s2 + 1))) (xr_assign rfl rfl) rfl rfl rfl ?_
   refine ol_nil ?_
   obtain rfl := Option.some.inj h
   refine lp_in ?_
   exact ⟨e0, e1, rfl, fB⟩
  refine cw_condF rfl c10 ?_
  refine cw_exit ?_
  repeat (first | with_reducible refine thn_e ?_ | with_reducible refine blk_e rfl ?_)
  obtain rfl := Option.some.inj h
  refine lp_exit ?_
  rintro rfl
  refine thn_x ?_
  exact ⟨_, rfl, fB⟩
 rintro ρ17 w18 ⟨x6, rfl, fB⟩
 have h := h5
 refine cw_seq ?_
 refine cw_region ?_
 refine ol_val (v := .bool true) (xr_assign rfl rfl) rfl rfl rfl ?_
 refine ol_nil ?_
 refine cw_ret ?_
 repeat (first | with_reducible refine thn_r ?_ | with_reducible refine blk_r ?_)
 obtain rfl := Option.some.inj h
 refine fin_ret1 Try.results66 rfl ?_
 exact ⟨_, rfl, rfl, fB⟩
end Go.Proofs.Ytklhbaghbmndeaa
