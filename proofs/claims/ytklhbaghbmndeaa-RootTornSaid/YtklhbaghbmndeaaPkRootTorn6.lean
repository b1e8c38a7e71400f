/- RootTorn: texts merged, part 6 of 8. The last part proves that the law RootTorn holds for every input. -/
import Derived.Test.YtklhbaghbmndeaaPkRootTorn5
import Derived.ProofKit
import Derived.OpenShut
import Derived.ChangeOld
import Derived.Below
import Derived.SizedLaws
import Derived.WalkKit
set_option maxRecDepth 100000
set_option maxHeartbeats 4000000
set_option linter.unusedVariables false
set_option linter.unusedSimpArgs false
namespace Go.Proofs.Ytklhbaghbmndeaa
open Go Go.Xw
def rickyardref07_Open.f (fu : Nat) (a0 : List Int) : Option (Int × Int × (List UInt8) × Bool) := (((if (!decide ((List.length a0 : Int) = 64)) = true then some (true) else (if (4 : Int) < (List.length a0 : Int) then (if (decide ((ix a0 4) = 0)) = true then some (true) else (if (4 : Int) < (List.length a0 : Int) then (if (5 : Int) < (List.length a0 : Int) then (if (8 : Int) ≤ (List.length a0 : Int) then ((rickyardref07_Seal.f fu (IntKind.i64.wrap (ix a0 4)) (IntKind.i64.wrap (ix a0 5)) (List.map toB (cut a0 8 (List.length a0 : Int)))).bind fun t18 => some ((!decide (t18 = (List.map toB a0))))) else none) else none) else none)) else none)) : Option Bool).bind fun x1 => (if x1 = true then some (0, 0, [], false) else (if (4 : Int) < (List.length a0 : Int) then (if (5 : Int) < (List.length a0 : Int) then (if (8 : Int) ≤ (List.length a0 : Int) then some ((IntKind.i64.wrap (ix a0 4)), (IntKind.i64.wrap (ix a0 5)), (List.map toB (cut a0 8 (List.length a0 : Int))), true) else none) else none) else none)))
theorem rickyardref07_Open.ok (fu : Nat) (w : World) (a0 : List Int) (V0_0 : Value) (R0_0 : Rd (kI .u8) w V0_0 a0) (r : Int × Int × (List UInt8) × Bool) (h : rickyardref07_Open.f fu a0 = some r) :
  Calls Try.prog 134 (([V0_0] : List Value).toArray) w (fun e w' => ∃ v, e = .returned v ∧ v = .tuple #[.int .i64 r.1, .int .i64 r.2.1, sv r.2.2.1, .bool r.2.2.2] ∧ Gr w w') := by
 unfold rickyardref07_Open.f at h
 have fB : Gr w w := Fr.refl _ _
 refine calls_cw Try.func134 rfl Try.ntmps134 rfl ?_
 refine cw_seq ?_
 refine cw_region ?_
 refine ol_val (v := .int .i64 0) (xr_assign rfl rfl) rfl rfl rfl ?_
 refine ol_val (v := .int .i64 0) (xr_assign rfl rfl) rfl rfl rfl ?_
 refine ol_val (v := sv []) (xr_assign rfl rfl) rfl rfl rfl ?_
 refine ol_val (v := .bool false) (xr_assign rfl rfl) rfl rfl rfl ?_
 refine ol_nil ?_
 refine cw_seq ?_
 refine cw_seq ?_
 obtain ⟨x1, j2, h⟩ := bs h
 refine cw_mid (fun ρ' w' => ρ' 0 = V0_0 ∧ ρ' 31 = .bool x1 ∧ Gr w w') ?_ ?_
 ·skip
  refine rd_region mo ?_
  intro w3 q4
  have fB := fB.gr q4
  refine rd_seq (m := 0) (n := 10) rfl ?_
  refine ol_val (v := V0_0) (xr_move rfl rfl) rfl rfl rfl ?_
  refine ol_val (v := .int .i64 (List.length a0 : Int)) (xr_lenR rfl Try.underlying43 rfl (R0_0.gr fB)) rfl rfl rfl ?_
  refine ol_val (v := .bool (!decide ((List.length a0 : Int) = 64))) (xr_neI rfl Try.underlying3 rfl rfl rfl) rfl rfl rfl ?_
  refine ol_val (v := .bool (!decide ((List.length a0 : Int) = 64))) (xr_move rfl rfl) rfl rfl rfl ?_
  rcases is j2 with ⟨c5, j2⟩ | ⟨c5, j2⟩
  ·skip
   refine ol_gskip rfl rfl rfl rfl rfl c5 ?_
   refine ol_gskip rfl rfl rfl rfl rfl c5 ?_
   refine ol_gskip rfl rfl rfl rfl rfl c5 ?_
   refine ol_gskip rfl rfl rfl rfl rfl c5 ?_
   refine ol_val (v := .bool true) (xr_pickT rfl rfl c5 rfl) rfl rfl rfl ?_
   refine ol_val (v := .bool true) (xr_move rfl rfl) rfl rfl rfl ?_
   refine ol_nilK ?_
   refine rd_drawL 10 24 [fun vz _ => vz = undef, fun vz _ => vz = undef, fun vz _ => vz = undef, fun vz _ => vz = undef, fun vz _ => vz = undef, fun vz _ => vz = undef, fun vz _ => vz = undef, fun vz _ => vz = undef, fun vz _ => vz = undef, fun vz _ => vz = undef, fun vz _ => vz = undef, fun vz _ => vz = undef, fun vz _ => vz = undef, fun vz _ => vz = undef] rfl ⟨fun _ _ _ h _ => h, fun _ _ _ h _ => h, fun _ _ _ h _ => h, fun _ _ _ h _ => h, fun _ _ _ h _ => h, fun _ _ _ h _ => h, fun _ _ _ h _ => h, fun _ _ _ h _ => h, fun _ _ _ h _ => h, fun _ _ _ h _ => h, fun _ _ _ h _ => h, fun _ _ _ h _ => h, fun _ _ _ h _ => h, fun _ _ _ h _ => h, trivial⟩ ?_ ?_
   ·refine ⟨?_, ?_, ?_, ?_, ?_, ?_, ?_, ?_, ?_, ?_, ?_, ?_, ?_, ?_, trivial⟩
    ·intro ρz wz hz hk hd
     exact sk_skip rfl rfl ((hk 15 rfl).trans rfl) rfl rfl
    ·intro ρz wz hz hk hd
     exact sk_skip rfl rfl ((hk 15 rfl).trans rfl) rfl rfl
    ·intro ρz wz hz hk hd
     exact sk_skip rfl rfl ((hk 15 rfl).trans rfl) rfl rfl
    ·intro ρz wz hz hk hd
     exact sk_skip rfl rfl ((hk 15 rfl).trans rfl) rfl rfl
    ·intro ρz wz hz hk hd
     exact sk_skip rfl rfl ((hk 15 rfl).trans rfl) rfl rfl
    ·intro ρz wz hz hk hd
     exact sk_skip rfl rfl ((hk 15 rfl).trans rfl) rfl rfl
    ·intro ρz wz hz hk hd
     exact sk_skip rfl rfl ((hk 15 rfl).trans rfl) rfl rfl
    ·intro ρz wz hz hk hd
     exact sk_skip rfl rfl ((hk 15 rfl).trans rfl) rfl rfl
    ·intro ρz wz hz hk hd
     exact sk_skip rfl rfl ((hk 15 rfl).trans rfl) rfl rfl
    ·intro ρz wz hz hk hd
     exact sk_skip rfl rfl ((hk 15 rfl).trans rfl) rfl rfl
    ·intro ρz wz hz hk hd
     exact sk_skip rfl rfl ((hk 15 rfl).trans rfl) rfl rfl
    ·intro ρz wz hz hk hd
     exact sk_skip rfl rfl ((hk 15 rfl).trans rfl) rfl rfl
    ·intro ρz wz hz hk hd
     exact sk_skip rfl rfl ((hk 15 rfl).trans rfl) rfl rfl
    intro ρz wz hz hk hd
    exact sk_skip rfl rfl ((hk 15 rfl).trans rfl) rfl rfl
   intro ρ6 w7 q8 hk hd
   have e0 := (hk 0 rfl).trans rfl
   have e15 := (hk 15 rfl).trans rfl
   have e27 := hd 21 rfl rfl 27 rfl
   have e29 := hd 23 rfl rfl 29 rfl
   have fB := fB.gr q8
   refine rd_seq (m := 24) (n := 26) rfl ?_
   refine ol_gskip rfl rfl rfl rfl e15 rfl ?_
   refine ol_val (v := .bool true) (xr_pickT rfl e15 rfl rfl) rfl rfl rfl ?_
   refine ol_nilK ?_
   refine rd_end rfl ?_
   obtain rfl := Option.some.inj j2
   refine thn_i ?_
   exact ⟨e0, rfl, (q4.gr q8)⟩
  refine ol_gval (v := V0_0) (xr_move rfl rfl) rfl rfl rfl rfl rfl c5 ?_
  obtain ⟨g9, j2⟩ := gs j2
  refine ol_gval (v := (pt ((sb V0_0)) (so V0_0 + Int.toNat 4 * 1))) (xr_indexR (K := (kI .u8)) (v := V0_0) rfl Try.underlying43 sz5 rfl (R0_0.gr fB) rfl (by decide) g9) rfl rfl rfl rfl rfl c5 ?_
  refine ol_gval (v := .int .u8 (ix a0 4)) (xr_load1 (v := .int .u8 (ix a0 4)) rfl ag5 rfl ((R0_0.gr fB).elem (by decide) g9)) rfl rfl rfl rfl rfl c5 ?_
  refine ol_gval (v := .bool (decide ((ix a0 4) = 0))) (xr_eqI rfl Try.underlying5 rfl rfl rfl) rfl rfl rfl rfl rfl c5 ?_
  refine ol_val (v := .bool (decide ((ix a0 4) = 0))) (xr_pickF rfl rfl c5 rfl) rfl rfl rfl ?_
  refine ol_val (v := .bool (decide ((ix a0 4) = 0))) (xr_move rfl rfl) rfl rfl rfl ?_
  refine ol_nilK ?_
  rcases is j2 with ⟨c10, j2⟩ | ⟨c10, j2⟩
  ·skip
   refine rd_drawL 10 24 [fun vz _ => vz = undef, fun vz _ => vz = undef, fun vz _ => vz = undef, fun vz _ => vz = undef, fun vz _ => vz = undef, fun vz _ => vz = undef, fun vz _ => vz = undef, fun vz _ => vz = undef, fun vz _ => vz = undef, fun vz _ => vz = undef, fun vz _ => vz = undef, fun vz _ => vz = undef, fun vz _ => vz = undef, fun vz _ => vz = undef] rfl ⟨fun _ _ _ h _ => h, fun _ _ _ h _ => h, fun _ _ _ h _ => h, fun _ _ _ h _ => h, fun _ _ _ h _ => h, fun _ _ _ h _ => h, fun _ _ _ h _ => h, fun _ _ _ h _ => h, fun _ _ _ h _ => h, fun _ _ _ h _ => h, fun _ _ _ h _ => h, fun _ _ _ h _ => h, fun _ _ _ h _ => h, fun _ _ _ h _ => h, trivial⟩ ?_ ?_
   ·refine ⟨?_, ?_, ?_, ?_, ?_, ?_, ?_, ?_, ?_, ?_, ?_, ?_, ?_, ?_, trivial⟩
    ·intro ρz wz hz hk hd
     exact sk_skip rfl rfl ((hk 15 rfl).trans rfl) c10 rfl
    ·intro ρz wz hz hk hd
     exact sk_skip rfl rfl ((hk 15 rfl).trans rfl) c10 rfl
    ·intro ρz wz hz hk hd
     exact sk_skip rfl rfl ((hk 15 rfl).trans rfl) c10 rfl
    ·intro ρz wz hz hk hd
     exact sk_skip rfl rfl ((hk 15 rfl).trans rfl) c10 rfl
    ·intro ρz wz hz hk hd
     exact sk_skip rfl rfl ((hk 15 rfl).trans rfl) c10 rfl
    ·intro ρz wz hz hk hd
     exact sk_skip rfl rfl ((hk 15 rfl).trans rfl) c10 rfl
    ·intro ρz wz hz hk hd
     exact sk_skip rfl rfl ((hk 15 rfl).trans rfl) c10 rfl
    ·intro ρz wz hz hk hd
     exact sk_skip rfl rfl ((hk 15 rfl).trans rfl) c10 rfl
    ·intro ρz wz hz hk hd
     exact sk_skip rfl rfl ((hk 15 rfl).trans rfl) c10 rfl
    ·intro ρz wz hz hk hd
     exact sk_skip rfl rfl ((hk 15 rfl).trans rfl) c10 rfl
    ·intro ρz wz hz hk hd
     exact sk_skip rfl rfl ((hk 15 rfl).trans rfl) c10 rfl
    ·intro ρz wz hz hk hd
     exact sk_skip rfl rfl ((hk 15 rfl).trans rfl) c10 rfl
    ·intro ρz wz hz hk hd
     exact sk_skip rfl rfl ((hk 15 rfl).trans rfl) c10 rfl
    intro ρz wz hz hk hd
    exact sk_skip rfl rfl ((hk 15 rfl).trans rfl) c10 rfl
   intro ρ11 w12 q13 hk hd
   have e0 := (hk 0 rfl).trans rfl
   have e15 := (hk 15 rfl).trans rfl
   have e27 := hd 21 rfl rfl 27 rfl
   have e29 := hd 23 rfl rfl 29 rfl
   have fB := fB.gr q13
   refine rd_seq (m := 24) (n := 26) rfl ?_
   refine ol_gskip rfl rfl rfl rfl e15 c10 ?_
   refine ol_val (v := .bool true) (xr_pickT rfl e15 c10 rfl) rfl rfl rfl ?_
   refine ol_nilK ?_
   refine rd_end rfl ?_
   obtain rfl := Option.some.inj j2
   refine thn_i ?_
   exact ⟨e0, rfl, (q4.gr q13)⟩
  obtain ⟨g14, j2⟩ := gs j2
  obtain ⟨g15, j2⟩ := gs j2
  obtain ⟨g17, j2⟩ := gs j2
  obtain ⟨t18, k19, j2⟩ := bs j2
  refine rd_drawL 10 24 [fun vz wz => vz = (V0_0 : Value), fun vz wz => vz = ((pt ((sb V0_0)) (so V0_0 + Int.toNat 4 * 1)) : Value), fun vz wz => vz = (.int .u8 (ix a0 4) : Value), fun vz wz => vz = (.int .i64 (IntKind.i64.wrap (ix a0 4)) : Value), fun vz wz => vz = (V0_0 : Value), fun vz wz => vz = ((pt ((sb V0_0)) (so V0_0 + Int.toNat 5 * 1)) : Value), fun vz wz => vz = (.int .u8 (ix a0 5) : Value), fun vz wz => vz = (.int .i64 (IntKind.i64.wrap (ix a0 5)) : Value), fun vz wz => vz = (V0_0 : Value), fun vz wz => ∃ r16 : Rd (kI .u8) wz (subv 1 V0_0 (Int.toNat 8) (List.length a0)) (cut a0 8 (List.length a0 : Int)), vz = (subv 1 V0_0 (Int.toNat 8) (List.length a0) : Value), fun vz wz => vz = (sv (List.map toB (cut a0 8 (List.length a0 : Int))) : Value), fun vz wz => vz = (sv t18 : Value), fun vz wz => vz = (V0_0 : Value), fun vz wz => vz = (sv (List.map toB a0) : Value)] rfl ⟨fun _ _ _ h _ => h, fun _ _ _ h _ => h, fun _ _ _ h _ => h, fun _ _ _ h _ => h, fun _ _ _ h _ => h, fun _ _ _ h _ => h, fun _ _ _ h _ => h, fun _ _ _ h _ => h, fun _ _ _ h _ => h, fun _ _ _ ⟨r16, h⟩ q => ⟨r16.gr q, h⟩, fun _ _ _ h _ => h, fun _ _ _ h _ => h, fun _ _ _ h _ => h, fun _ _ _ h _ => h, trivial⟩ ?_ ?_
  ·refine ⟨?_, ?_, ?_, ?_, ?_, ?_, ?_, ?_, ?_, ?_, ?_, ?_, ?_, ?_, trivial⟩
   ·intro ρz wz hz hk hd
    exact sk_gval (v := V0_0) (xr_move rfl ((hk 0 rfl).trans rfl)) rfl rfl ((hk 15 rfl).trans rfl) c10 rfl
   ·intro ρz wz hz hk hd
    exact sk_gval (xr_indexR (K := (kI .u8)) (v := V0_0) rfl Try.underlying43 sz5 (hd 10 rfl rfl 16 rfl) (R0_0.gr (fB.gr hz)) rfl (by decide) g14) rfl rfl ((hk 15 rfl).trans rfl) c10 rfl
   ·intro ρz wz hz hk hd
    exact sk_gval (v := .int .u8 (ix a0 4)) (xr_load1 (v := .int .u8 (ix a0 4)) rfl ag5 (hd 11 rfl rfl 17 rfl) ((R0_0.gr (fB.gr hz)).elem (by decide) g14)) rfl rfl ((hk 15 rfl).trans rfl) c10 rfl
   ·intro ρz wz hz hk hd
    exact sk_gval (v := .int .i64 (IntKind.i64.wrap (ix a0 4))) (xr_conv rfl Try.underlying5 Try.underlying3 (hd 12 rfl rfl 18 rfl)) rfl rfl ((hk 15 rfl).trans rfl) c10 rfl
   ·intro ρz wz hz hk hd
    exact sk_gval (v := V0_0) (xr_move rfl ((hk 0 rfl).trans rfl)) rfl rfl ((hk 15 rfl).trans rfl) c10 rfl
   ·intro ρz wz hz hk hd
    exact sk_gval (xr_indexR (K := (kI .u8)) (v := V0_0) rfl Try.underlying43 sz5 (hd 14 rfl rfl 20 rfl) (R0_0.gr (fB.gr hz)) rfl (by decide) g15) rfl rfl ((hk 15 rfl).trans rfl) c10 rfl
   ·intro ρz wz hz hk hd
    exact sk_gval (v := .int .u8 (ix a0 5)) (xr_load1 (v := .int .u8 (ix a0 5)) rfl ag5 (hd 15 rfl rfl 21 rfl) ((R0_0.gr (fB.gr hz)).elem (by decide) g15)) rfl rfl ((hk 15 rfl).trans rfl) c10 rfl
   ·intro ρz wz hz hk hd
    exact sk_gval (v := .int .i64 (IntKind.i64.wrap (ix a0 5))) (xr_conv rfl Try.underlying5 Try.underlying3 (hd 16 rfl rfl 22 rfl)) rfl rfl ((hk 15 rfl).trans rfl) c10 rfl
   ·intro ρz wz hz hk hd
    exact sk_gval (v := V0_0) (xr_move rfl ((hk 0 rfl).trans rfl)) rfl rfl ((hk 15 rfl).trans rfl) c10 rfl
   ·intro ρz wz hz hk hd
    exact sk_gval (xr_slice_l (K := (kI .u8)) (v := V0_0) rfl Try.underlying43 sz5 (hd 18 rfl rfl 24 rfl) (R0_0.gr (fB.gr hz)) rfl (by decide) g17) rfl rfl ((hk 15 rfl).trans rfl) c10 ⟨(R0_0.gr (fB.gr hz)).cut (lo := 8) (hi := (List.length a0 : Int)) (by decide) g17 (Int.le_refl _), rfl⟩
   ·intro ρz wz hz hk hd
    obtain ⟨r16, d25⟩ := hd 19 rfl rfl 25 rfl
    exact sk_gval (v := sv (List.map toB (cut a0 8 (List.length a0 : Int)))) (xr_toStr rfl Try.underlying43 Try.underlying5 Try.underlying9 d25 r16) rfl rfl ((hk 15 rfl).trans rfl) c10 rfl
   ·intro ρz wz hz hk hd
    refine sk_gop (opv_call rfl cal118 (ac (hd 13 rfl rfl 19 rfl) (ac (hd 17 rfl rfl 23 rfl) (ac (hd 20 rfl rfl 26 rfl) an))) (rickyardref07_Seal.ok fu _ (IntKind.i64.wrap (ix a0 4)) (IntKind.i64.wrap (ix a0 5)) (List.map toB (cut a0 8 (List.length a0 : Int))) _ k19)) rfl rfl ((hk 15 rfl).trans rfl) c10 ?_
    rintro _ wy ⟨rfl, q20⟩
    exact ⟨rfl, q20⟩
   ·intro ρz wz hz hk hd
    exact sk_gval (v := V0_0) (xr_move rfl ((hk 0 rfl).trans rfl)) rfl rfl ((hk 15 rfl).trans rfl) c10 rfl
   intro ρz wz hz hk hd
   exact sk_gval (v := sv (List.map toB a0)) (xr_toStr rfl Try.underlying43 Try.underlying5 Try.underlying9 (hd 22 rfl rfl 28 rfl) (R0_0.gr (fB.gr hz))) rfl rfl ((hk 15 rfl).trans rfl) c10 rfl
  intro ρ21 w22 q23 hk hd
  have e0 := (hk 0 rfl).trans rfl
  have e15 := (hk 15 rfl).trans rfl
  have e27 := hd 21 rfl rfl 27 rfl
  have e29 := hd 23 rfl rfl 29 rfl
  have fB := fB.gr q23
  refine rd_seq (m := 24) (n := 26) rfl ?_
  refine ol_gval (v := .bool (!decide (t18 = (List.map toB a0)))) (xr_neStr rfl Try.underlying9 e27 e29) rfl rfl rfl rfl e15 c10 ?_
  refine ol_val (v := .bool (!decide (t18 = (List.map toB a0)))) (xr_pickF rfl e15 c10 rfl) rfl rfl rfl ?_
  refine ol_nilK ?_
  refine rd_end rfl ?_
  obtain rfl := Option.some.inj j2
  refine thn_i ?_
  exact ⟨e0, rfl, (q4.gr q23)⟩
 rintro ρ24 w25 ⟨e0, e31, q26⟩
 have fB := fB.gr q26
 rcases is h with ⟨c27, h⟩ | ⟨c27, h⟩
 ·refine cw_condT e31 c27 ?_
  refine cw_seq ?_
  refine cw_region ?_
  refine ol_val (v := .int .i64 0) (xr_assign rfl rfl) rfl rfl rfl ?_
  refine ol_val (v := .int .i64 0) (xr_assign rfl rfl) rfl rfl rfl ?_
  refine ol_val (v := sv []) (xr_assign rfl rfl) rfl rfl rfl ?_
  refine ol_val (v := .bool false) (xr_assign rfl rfl) rfl rfl rfl ?_
  refine ol_nil ?_
  refine cw_ret ?_
  repeat (first | with_reducible refine thn_r ?_ | with_reducible refine blk_r ?_)
  obtain rfl := Option.some.inj h
  refine fin_ret4 Try.results134 rfl rfl rfl rfl ?_
  exact ⟨_, rfl, rfl, fB⟩
 refine cw_condF e31 c27 ?_
 refine cw_skip ?_
 refine cw_seq ?_
 obtain ⟨g28, h⟩ := gs h
 obtain ⟨g29, h⟩ := gs h
 obtain ⟨g31, h⟩ := gs h
 refine cw_drawL 13 [fun vz wz => vz = (V0_0 : Value), fun vz wz => vz = ((pt ((sb V0_0)) (so V0_0 + Int.toNat 4 * 1)) : Value), fun vz wz => vz = (.int .u8 (ix a0 4) : Value), fun vz wz => vz = (.int .i64 (IntKind.i64.wrap (ix a0 4)) : Value), fun vz wz => vz = (V0_0 : Value), fun vz wz => vz = ((pt ((sb V0_0)) (so V0_0 + Int.toNat 5 * 1)) : Value), fun vz wz => vz = (.int .u8 (ix a0 5) : Value), fun vz wz => vz = (.int .i64 (IntKind.i64.wrap (ix a0 5)) : Value), fun vz wz => vz = (V0_0 : Value), fun vz wz => ∃ r30 : Rd (kI .u8) wz (subv 1 V0_0 (Int.toNat 8) (List.length a0)) (cut a0 8 (List.length a0 : Int)), vz = (subv 1 V0_0 (Int.toNat 8) (List.length a0) : Value), fun vz wz => vz = (sv (List.map toB (cut a0 8 (List.length a0 : Int))) : Value), fun vz wz => vz = (.int .i64 (IntKind.i64.wrap (ix a0 4)) : Value), fun vz wz => vz = (.int .i64 (IntKind.i64.wrap (ix a0 5)) : Value)] mo rfl ⟨fun _ _ _ h _ => h, fun _ _ _ h _ => h, fun _ _ _ h _ => h, fun _ _ _ h _ => h, fun _ _ _ h _ => h, fun _ _ _ h _ => h, fun _ _ _ h _ => h, fun _ _ _ h _ => h, fun _ _ _ h _ => h, fun _ _ _ ⟨r30, h⟩ q => ⟨r30.gr q, h⟩, fun _ _ _ h _ => h, fun _ _ _ h _ => h, fun _ _ _ h _ => h, trivial⟩ ?_ ?_
 ·refine ⟨?_, ?_, ?_, ?_, ?_, ?_, ?_, ?_, ?_, ?_, ?_, ?_, ?_, trivial⟩
  ·intro ρz wz hz hk hd
   exact sk_val (v := V0_0) (xr_move rfl ((hk 0 rfl).trans e0)) rfl rfl
  ·intro ρz wz hz hk hd
   exact sk_val (xr_indexR (K := (kI .u8)) (v := V0_0) rfl Try.underlying43 sz5 (hd 0 rfl 32 rfl) (R0_0.gr (fB.gr hz)) rfl (by decide) g28) rfl rfl
  ·intro ρz wz hz hk hd
   exact sk_val (v := .int .u8 (ix a0 4)) (xr_load1 (v := .int .u8 (ix a0 4)) rfl ag5 (hd 1 rfl 33 rfl) ((R0_0.gr (fB.gr hz)).elem (by decide) g28)) rfl rfl
  ·intro ρz wz hz hk hd
   exact sk_val (v := .int .i64 (IntKind.i64.wrap (ix a0 4))) (xr_conv rfl Try.underlying5 Try.underlying3 (hd 2 rfl 34 rfl)) rfl rfl
  ·intro ρz wz hz hk hd
   exact sk_val (v := V0_0) (xr_move rfl ((hk 0 rfl).trans e0)) rfl rfl
  ·intro ρz wz hz hk hd
   exact sk_val (xr_indexR (K := (kI .u8)) (v := V0_0) rfl Try.underlying43 sz5 (hd 4 rfl 36 rfl) (R0_0.gr (fB.gr hz)) rfl (by decide) g29) rfl rfl
  ·intro ρz wz hz hk hd
   exact sk_val (v := .int .u8 (ix a0 5)) (xr_load1 (v := .int .u8 (ix a0 5)) rfl ag5 (hd 5 rfl 37 rfl) ((R0_0.gr (fB.gr hz)).elem (by decide) g29)) rfl rfl
  ·intro ρz wz hz hk hd
   exact sk_val (v := .int .i64 (IntKind.i64.wrap (ix a0 5))) (xr_conv rfl Try.underlying5 Try.underlying3 (hd 6 rfl 38 rfl)) rfl rfl
  ·intro ρz wz hz hk hd
   exact sk_val (v := V0_0) (xr_move rfl ((hk 0 rfl).trans e0)) rfl rfl
  ·intro ρz wz hz hk hd
   exact sk_val (xr_slice_l (K := (kI .u8)) (v := V0_0) rfl Try.underlying43 sz5 (hd 8 rfl 40 rfl) (R0_0.gr (fB.gr hz)) rfl (by decide) g31) rfl ⟨(R0_0.gr (fB.gr hz)).cut (lo := 8) (hi := (List.length a0 : Int)) (by decide) g31 (Int.le_refl _), rfl⟩
  ·intro ρz wz hz hk hd
   obtain ⟨r30, d41⟩ := hd 9 rfl 41 rfl
   exact sk_val (v := sv (List.map toB (cut a0 8 (List.length a0 : Int)))) (xr_toStr rfl Try.underlying43 Try.underlying5 Try.underlying9 d41 r30) rfl rfl
  ·intro ρz wz hz hk hd
   exact sk_val (v := .int .i64 (IntKind.i64.wrap (ix a0 4))) (xr_assign rfl (hd 3 rfl 35 rfl)) rfl rfl
  intro ρz wz hz hk hd
  exact sk_val (v := .int .i64 (IntKind.i64.wrap (ix a0 5))) (xr_assign rfl (hd 7 rfl 39 rfl)) rfl rfl
 intro ρ32 w33 q34 hk hd
 have e2 := hd 11 rfl 2 rfl
 have e3 := hd 12 rfl 3 rfl
 have e42 := hd 10 rfl 42 rfl
 have fB := fB.gr q34
 refine ol_val (v := sv (List.map toB (cut a0 8 (List.length a0 : Int)))) (xr_assign rfl e42) rfl rfl rfl ?_
 refine ol_val (v := .bool true) (xr_assign rfl rfl) rfl rfl rfl ?_
 refine ol_nil ?_
 refine cw_ret ?_
 repeat (first | with_reducible refine thn_r ?_ | with_reducible refine blk_r ?_)
 obtain rfl := Option.some.inj h
 refine fin_ret4 Try.results134 e2 e3 rfl rfl ?_
 exact ⟨_, rfl, rfl, fB⟩
def rickyardref01_Number.s0 (fu : Nat) (a0 : List UInt8) : (Int × Int) → Option (Sum Int (Int × Int)) := fun s1 => (if (decide (s1.2 ≥ 0)) = true then (((if (decide (s1.2 < 8)) = true then (if 0 ≤ s1.2 ∧ s1.2 < (List.length a0 : Int) then some ((IntKind.u64.wrap ((IntKind.u64.wrap (s1.1 * 256)) + (IntKind.u64.wrap (ofB (List.getD a0 (Int.toNat s1.2) 0)))))) else none) else some (s1.1)) : Option Int).bind fun x9 => some (Sum.inr (x9, (IntKind.i64.wrap (s1.2 - 1))))) else some (Sum.inl (s1.1)))
def rickyardref01_Number.f (fu : Nat) (a0 : List UInt8) : Option Int := ((loopM (rickyardref01_Number.s0 fu a0) fu (0, (IntKind.i64.wrap ((List.length a0 : Int) - 1)))).bind fun e2 => some (e2))
theorem rickyardref01_Number.ok (fu : Nat) (w : World) (a0 : List UInt8) (r : Int) (h : rickyardref01_Number.f fu a0 = some r) :
  Calls Try.prog 41 (([sv a0] : List Value).toArray) w (fun e w' => ∃ v, e = .returned v ∧ v = .int .u64 r ∧ Gr w w') := by
 unfold rickyardref01_Number.f at h
 have fB : Gr w w := Fr.refl _ _
 refine calls_cw Try.func41 rfl Try.ntmps41 rfl ?_
 refine cw_seq ?_
 refine cw_region ?_
 refine ol_val (v := .int .u64 0) (xr_assign rfl rfl) rfl rfl rfl ?_
 refine ol_nil ?_
 refine cw_seq ?_
 refine cw_region ?_
 refine ol_val (v := .int .u64 0) (xr_assign rfl rfl) rfl rfl rfl ?_
 refine ol_nil ?_
 refine cw_seq ?_
 refine cw_seq ?_
 refine cw_region ?_
 refine ol_val (v := sv a0) (xr_move rfl rfl) rfl rfl rfl ?_
 refine ol_val (v := .int .i64 (List.length a0 : Int)) (xr_lenStr rfl Try.underlying9 rfl) rfl rfl rfl ?_
 refine ol_val (v := .int .i64 (IntKind.i64.wrap ((List.length a0 : Int) - 1))) (xr_sub rfl rfl rfl) rfl rfl rfl ?_
 refine ol_val (v := .int .i64 (IntKind.i64.wrap ((List.length a0 : Int) - 1))) (xr_assign rfl rfl) rfl rfl rfl ?_
 refine ol_nil ?_
 obtain ⟨e2, l3, h4⟩ := bs h
 refine cw_mid (fun ρ' w' => ρ' 3 = .int .u64 e2 ∧ Gr w w') ?_ ?_
 ·refine cw_block ?_
  refine cw_round (fun (s1 : Int × Int) ρ' w' => ρ' 0 = sv a0 ∧ ρ' 3 = .int .u64 s1.1 ∧ ρ' 4 = .int .i64 s1.2 ∧ Gr w w') l3 ?_ ?_
  ·skip
   exact ⟨rfl, rfl, rfl, fB⟩
  rintro s1 x7 ρ5 w6 ⟨e0, e3, e4, fB⟩ h
  unfold rickyardref01_Number.s0 at h
  refine cw_seq ?_
  refine cw_seq ?_
  refine cw_region ?_
  refine ol_val (v := .int .i64 s1.2) (xr_move rfl e4) rfl rfl rfl ?_
  refine ol_val (v := .bool (decide (s1.2 ≥ 0))) (xr_geq rfl rfl rfl) rfl rfl rfl ?_
  refine ol_nil ?_
  rcases is h with ⟨c8, h⟩ | ⟨c8, h⟩
  ·refine cw_condT rfl c8 ?_
   refine cw_skip ?_
   refine cw_seq ?_
   refine cw_block ?_
   refine cw_seq ?_
   refine cw_region ?_
   refine ol_val (v := .int .i64 s1.2) (xr_move rfl e4) rfl rfl rfl ?_
   refine ol_val (v := .bool (decide (s1.2 < 8))) (xr_lss rfl rfl rfl) rfl rfl rfl ?_
   refine ol_nil ?_
   obtain ⟨x9, j10, h11⟩ := bs h
   refine cw_mid (fun ρ' w' => ρ' 0 = sv a0 ∧ ρ' 3 = .int .u64 x9 ∧ ρ' 4 = .int .i64 s1.2 ∧ Gr w w') ?_ ?_
   ·have h := j10
    rcases is h with ⟨c12, h⟩ | ⟨c12, h⟩
    ·refine cw_condT rfl c12 ?_
     refine cw_region ?_
     refine ol_val (v := .int .u64 s1.1) (xr_move rfl e3) rfl rfl rfl ?_
     refine ol_val (v := .int .u64 (IntKind.u64.wrap (s1.1 * 256))) (xr_mul rfl rfl rfl) rfl rfl rfl ?_
     refine ol_val (v := sv a0) (xr_move rfl e0) rfl rfl rfl ?_
     refine ol_val (v := .int .i64 s1.2) (xr_move rfl e4) rfl rfl rfl ?_
     obtain ⟨g13, h⟩ := gs h
     refine ol_val (v := .int .u8 (ofB (List.getD a0 (Int.toNat s1.2) 0))) (xr_indexStr rfl Try.underlying9 rfl rfl g13.1 g13.2) rfl rfl rfl ?_
     refine ol_val (v := .int .u64 (IntKind.u64.wrap (ofB (List.getD a0 (Int.toNat s1.2) 0)))) (xr_conv rfl Try.underlying5 Try.underlying22 rfl) rfl rfl rfl ?_
     refine ol_val (v := .int .u64 (IntKind.u64.wrap ((IntKind.u64.wrap (s1.1 * 256)) + (IntKind.u64.wrap (ofB (List.getD a0 (Int.toNat s1.2) 0)))))) (xr_add rfl rfl rfl) rfl rfl rfl ?_
     refine ol_val (v := .int .u64 (IntKind.u64.wrap ((IntKind.u64.wrap (s1.1 * 256)) + (IntKind.u64.wrap (ofB (List.getD a0 (Int.toNat s1.2) 0)))))) (xr_assign rfl rfl) rfl rfl rfl ?_
     refine ol_nil ?_
     obtain rfl := Option.some.inj h
     refine thn_i ?_
     exact ⟨e0, rfl, e4, fB⟩
    refine cw_condF rfl c12 ?_
    refine cw_skip ?_
    obtain rfl := Option.some.inj h
    refine thn_i ?_
    exact ⟨e0, e3, e4, fB⟩
   rintro ρ14 w15 ⟨e0, e3, e4, fB⟩
   have h := h11
   refine blk_i ?_
   refine cw_region ?_
   refine ol_val (v := .int .i64 s1.2) (xr_move rfl e4) rfl rfl rfl ?_
   refine ol_val (v := .int .i64 (IntKind.i64.wrap (s1.2 - 1))) (xr_sub rfl rfl rfl) rfl rfl rfl ?_
   refine ol_val (v := .int .i64 (IntKind.i64.wrap (s1.2 - 1))) (xr_assign rfl rfl) rfl rfl rfl ?_
   refine ol_nil ?_
   obtain rfl := Option.some.inj h
   refine lp_in ?_
   exact ⟨e0, e3, rfl, fB⟩
  refine cw_condF rfl c8 ?_
  refine cw_exit ?_
  repeat (first | with_reducible refine thn_e ?_ | with_reducible refine blk_e rfl ?_)
  obtain rfl := Option.some.inj h
  refine lp_exit ?_
  rintro rfl
  refine thn_x ?_
  exact ⟨e3, fB⟩
 rintro ρ16 w17 ⟨e3, fB⟩
 have h := h4
 refine cw_seq ?_
 refine cw_region ?_
 refine ol_val (v := .int .u64 e2) (xr_move rfl e3) rfl rfl rfl ?_
 refine ol_val (v := .int .u64 e2) (xr_assign rfl rfl) rfl rfl rfl ?_
 refine ol_nil ?_
 refine cw_ret ?_
 repeat (first | with_reducible refine thn_r ?_ | with_reducible refine blk_r ?_)
 obtain rfl := Option.some.inj h
 refine fin_ret1 Try.results41 rfl ?_
 exact ⟨_, rfl, rfl, fB⟩
def rickyardref01_Int.f (fu : Nat) (a0 : List UInt8) : Option Int := ((rickyardref01_Number.f fu a0).bind fun t1 => some ((IntKind.i64.wrap t1)))
theorem rickyardref01_Int.ok (fu : Nat) (w : World) (a0 : List UInt8) (r : Int) (h : rickyardref01_Int.f fu a0 = some r) :
  Calls Try.prog 135 (([sv a0] : List Value).toArray) w (fun e w' => ∃ v, e = .returned v ∧ v = .int .i64 r ∧ Gr w w') := by
 unfold rickyardref01_Int.f at h
 have fB : Gr w w := Fr.refl _ _
 refine calls_cw Try.func135 rfl Try.ntmps135 rfl ?_
 refine cw_seq ?_
 refine cw_region ?_
 refine ol_val (v := .int .i64 0) (xr_assign rfl rfl) rfl rfl rfl ?_
 refine ol_nil ?_
 refine cw_seq ?_
 refine cw_region ?_
 refine ol_val (v := sv a0) (xr_move rfl rfl) rfl rfl rfl ?_
 obtain ⟨t1, k2, h⟩ := bs h
 refine ol_op (opv_call rfl cal41 (ac rfl an) (rickyardref01_Number.ok fu _ a0 _ k2)) rfl rfl rfl ?_
 rintro _ w4 ⟨rfl, q3⟩
 have fB := fB.gr q3
 refine ol_val (v := .int .i64 (IntKind.i64.wrap t1)) (xr_conv rfl Try.underlying22 Try.underlying3 rfl) rfl rfl rfl ?_
 refine ol_val (v := .int .i64 (IntKind.i64.wrap t1)) (xr_assign rfl rfl) rfl rfl rfl ?_
 refine ol_nil ?_
 refine cw_ret ?_
 repeat (first | with_reducible refine thn_r ?_ | with_reducible refine blk_r ?_)
 obtain rfl := Option.some.inj h
 refine fin_ret1 Try.results135 rfl ?_
 exact ⟨_, rfl, rfl, fB⟩
def rickyardref13_Get.s0 (fu : Nat) (t10 : Int × Int × (List UInt8) × Bool) : (Int × (List Int)) → Option (Sum (List Int) (Int × (List Int))) := fun s83 => (if (decide (s83.1 < t10.2.1)) = true then (if (0 : Int) ≤ (IntKind.i64.wrap (32 + (IntKind.i64.wrap (2 * s83.1)))) ∧ (IntKind.i64.wrap (32 + (IntKind.i64.wrap (2 * s83.1)))) ≤ (IntKind.i64.wrap (34 + (IntKind.i64.wrap (2 * s83.1)))) ∧ (IntKind.i64.wrap (34 + (IntKind.i64.wrap (2 * s83.1)))) ≤ (List.length t10.2.2.1 : Int) then ((rickyardref01_Int.f fu (cut t10.2.2.1 (IntKind.i64.wrap (32 + (IntKind.i64.wrap (2 * s83.1)))) (IntKind.i64.wrap (34 + (IntKind.i64.wrap (2 * s83.1)))))).bind fun t98 => (if List.length s83.2 + List.length [t98] ≤ LIM then some (Sum.inr ((IntKind.i64.wrap (s83.1 + 1)), (s83.2 ++ [t98]))) else none)) else none) else some (Sum.inl (s83.2)))
def rickyardref13_Get.f (fu : Nat) (a0 : List Int) : Option (S_api_Super × Bool) := ((rickyardref07_Open.f fu a0).bind fun t10 => (if (if (!t10.2.2.2) = true then true else (if (!decide (t10.1 = 7)) = true then true else (decide (t10.2.1 > 8)))) = true then some ((⟨(0 : Int), (⟨(⟨(0 : Int), (0 : Int), (0 : Int)⟩ : S_api_Geometry), (0 : Int), (0 : Int), (0 : Int)⟩ : S_api_Tickets), (0 : Int), []⟩ : S_api_Super), false) else (if (8 : Int) ≤ (List.length t10.2.2.1 : Int) then ((rickyardref01_Int.f fu (cut t10.2.2.1 0 8)).bind fun t28 => (if (12 : Int) ≤ (List.length t10.2.2.1 : Int) then ((rickyardref01_Int.f fu (cut t10.2.2.1 8 12)).bind fun t35 => (if (16 : Int) ≤ (List.length t10.2.2.1 : Int) then ((rickyardref01_Int.f fu (cut t10.2.2.1 12 16)).bind fun t42 => (if (20 : Int) ≤ (List.length t10.2.2.1 : Int) then ((rickyardref01_Int.f fu (cut t10.2.2.1 16 20)).bind fun t49 => (if (24 : Int) ≤ (List.length t10.2.2.1 : Int) then ((rickyardref01_Int.f fu (cut t10.2.2.1 20 24)).bind fun t56 => (if (28 : Int) ≤ (List.length t10.2.2.1 : Int) then ((rickyardref01_Int.f fu (cut t10.2.2.1 24 28)).bind fun t63 => (if (30 : Int) ≤ (List.length t10.2.2.1 : Int) then ((rickyardref01_Int.f fu (cut t10.2.2.1 28 30)).bind fun t70 => (if (32 : Int) ≤ (List.length t10.2.2.1 : Int) then ((rickyardref01_Int.f fu (cut t10.2.2.1 30 32)).bind fun t77 => ((loopM (rickyardref13_Get.s0 fu t10) fu (0, [])).bind fun e84 => ((((rickyardref13_Right.f fu (⟨t28, (⟨(⟨t35, t42, t49⟩ : S_api_Geometry), t70, t56, t63⟩ : S_api_Tickets), t77, e84⟩ : S_api_Super)).bind fun t131 => (if (!t131) = true then some (true) else ((rickyardref13_Put.f fu (⟨t28, (⟨(⟨t35, t42, t49⟩ : S_api_Geometry), t70, t56, t63⟩ : S_api_Tickets), t77, e84⟩ : S_api_Super)).bind fun t139 => some ((!decide (t139 = (List.map toB a0))))))) : Option Bool).bind fun x127 => (if x127 = true then some ((⟨(0 : Int), (⟨(⟨(0 : Int), (0 : Int), (0 : Int)⟩ : S_api_Geometry), (0 : Int), (0 : Int), (0 : Int)⟩ : S_api_Tickets), (0 : Int), []⟩ : S_api_Super), false) else some ((⟨t28, (⟨(⟨t35, t42, t49⟩ : S_api_Geometry), t70, t56, t63⟩ : S_api_Tickets), t77, e84⟩ : S_api_Super), true))))) else none)) else none)) else none)) else none)) else none)) else none)) else none)) else none)))
theorem rickyardref13_Get.ok (fu : Nat) (w : World) (a0 : List Int) (V0_0 : Value) (R0_0 : Rd (kI .u8) w V0_0 a0) (r : S_api_Super × Bool) (h : rickyardref13_Get.f fu a0 = some r) :
  Calls Try.prog 114 (([V0_0] : List Value).toArray) w (fun e w' => ∃ v, e = .returned v ∧ ∃ u1 : Value, ∃ o2 : Own (kI .i64) 3 w' w.heap.size u1 r.1.Charts, v = .tuple #[aggV [(sI r.1.Epoch), (sI r.1.Tickets.Geometry.Blocks), (sI r.1.Tickets.Geometry.Slots), (sI r.1.Tickets.Geometry.Gens), (sI r.1.Tickets.Top), (sI r.1.Tickets.High), (sI r.1.Tickets.Free), (sI r.1.Dir), Seg.cell u1 o2.one], .bool r.2] ∧ Gr w w') := by
 unfold rickyardref13_Get.f at h
 have fB : Gr w w := Fr.refl _ _
 refine calls_cw Try.func114 rfl Try.ntmps114 rfl ?_
 refine cw_seq ?_
 refine cw_region ?_
 refine ol_op (opv_alloc (ss := [(sI (0 : Int)), (sI (0 : Int)), (sI (0 : Int)), (sI (0 : Int)), (sI (0 : Int)), (sI (0 : Int)), (sI (0 : Int)), (sI (0 : Int)), Seg.cell (.slice none 0 0) (by rfl)]) rfl ze110 rfl) rfl rfl rfl ?_
 rintro _ w9 ⟨G4, rfl, b5, q6, z7⟩
 have z7 := Nat.le_trans fB.size z7
 have fB := fB.gr q6
 refine ol_val (v := .bool false) (xr_assign rfl rfl) rfl rfl rfl ?_
 refine ol_nil ?_
 refine cw_seq ?_
 refine cw_region ?_
 refine ol_val (v := V0_0) (xr_move rfl rfl) rfl rfl rfl ?_
 obtain ⟨t10, k11, h⟩ := bs h
 refine ol_op (opv_call rfl cal134 (ac rfl an) (rickyardref07_Open.ok fu _ a0 V0_0 (R0_0.gr fB) _ k11)) rfl rfl rfl ?_
 rintro _ w13 ⟨rfl, q12⟩
 have b5 := b5.gr q12
 have fB := fB.gr q12
 refine ol_val (v := .tuple #[.int .i64 t10.1, .int .i64 t10.2.1, sv t10.2.2.1, .bool t10.2.2.2]) (xr_move rfl rfl) rfl rfl rfl ?_
 refine ol_val (v := .int .i64 t10.1) (xr_extract rfl rfl rfl) rfl rfl rfl ?_
 refine ol_val (v := .int .i64 t10.2.1) (xr_extract rfl rfl rfl) rfl rfl rfl ?_
 refine ol_val (v := sv t10.2.2.1) (xr_extract rfl rfl rfl) rfl rfl rfl ?_
 refine ol_val (v := .bool t10.2.2.2) (xr_extract rfl rfl rfl) rfl rfl rfl ?_
 refine ol_val (v := .int .i64 t10.1) (xr_assign rfl rfl) rfl rfl rfl ?_
 refine ol_val (v := .int .i64 t10.2.1) (xr_assign rfl rfl) rfl rfl rfl ?_
 refine ol_val (v := sv t10.2.2.1) (xr_assign rfl rfl) rfl rfl rfl ?_
 refine ol_val (v := .bool t10.2.2.2) (xr_assign rfl rfl) rfl rfl rfl ?_
 refine ol_nil ?_
 refine cw_seq ?_
 refine cw_seq ?_
 refine cw_mid (fun ρ' w' => ρ' 0 = V0_0 ∧ ρ' 2 = (pt G4 0) ∧ ρ' 5 = .int .i64 t10.2.1 ∧ ρ' 6 = sv t10.2.2.1 ∧ ρ' 26 = .bool (if (!t10.2.2.2) = true then true else (if (!decide (t10.1 = 7)) = true then true else (decide (t10.2.1 > 8)))) ∧ w13 = w') ?_ ?_
 ·skip
  refine cw_region ?_
  refine ol_val (v := .bool t10.2.2.2) (xr_move rfl rfl) rfl rfl rfl ?_
  refine ol_val (v := .bool (!t10.2.2.2)) (xr_not rfl rfl) rfl rfl rfl ?_
  refine ol_val (v := .bool (!t10.2.2.2)) (xr_move rfl rfl) rfl rfl rfl ?_
  rcases bt (!t10.2.2.2) with c14 | c14
  ·skip
   refine ol_gskip rfl rfl rfl rfl rfl c14 ?_
   refine ol_gskip rfl rfl rfl rfl rfl c14 ?_
   refine ol_val (v := .bool true) (xr_pickT rfl rfl c14 rfl) rfl rfl rfl ?_
   refine ol_val (v := .bool true) (xr_move rfl rfl) rfl rfl rfl ?_
   refine ol_gskip rfl rfl rfl rfl rfl rfl ?_
   refine ol_gskip rfl rfl rfl rfl rfl rfl ?_
   refine ol_val (v := .bool true) (xr_pickT rfl rfl rfl rfl) rfl rfl rfl ?_
   refine ol_nil ?_
   refine thn_i ?_
   exact ⟨rfl, rfl, rfl, rfl, (rfl).trans (congrArg (fun z => (.bool z : Value)) (show true = (if (!t10.2.2.2) = true then true else (if (!decide (t10.1 = 7)) = true then true else (decide (t10.2.1 > 8)))) from by rw [ite_t c14])), rfl⟩
  refine ol_gval (v := .int .i64 t10.1) (xr_move rfl rfl) rfl rfl rfl rfl rfl c14 ?_
  refine ol_gval (v := .bool (!decide (t10.1 = 7))) (xr_neI rfl Try.underlying3 rfl rfl rfl) rfl rfl rfl rfl rfl c14 ?_
  refine ol_val (v := .bool (!decide (t10.1 = 7))) (xr_pickF rfl rfl c14 rfl) rfl rfl rfl ?_
  refine ol_val (v := .bool (!decide (t10.1 = 7))) (xr_move rfl rfl) rfl rfl rfl ?_
  rcases bt (!decide (t10.1 = 7)) with c15 | c15
  ·skip
   refine ol_gskip rfl rfl rfl rfl rfl c15 ?_
   refine ol_gskip rfl rfl rfl rfl rfl c15 ?_
   refine ol_val (v := .bool true) (xr_pickT rfl rfl c15 rfl) rfl rfl rfl ?_
   refine ol_nil ?_
   refine thn_i ?_
   exact ⟨rfl, rfl, rfl, rfl, (rfl).trans (congrArg (fun z => (.bool z : Value)) (show true = (if (!t10.2.2.2) = true then true else (if (!decide (t10.1 = 7)) = true then true else (decide (t10.2.1 > 8)))) from by rw [ite_f c14, ite_t c15])), rfl⟩
  refine ol_gval (v := .int .i64 t10.2.1) (xr_move rfl rfl) rfl rfl rfl rfl rfl c15 ?_
  refine ol_gval (v := .bool (decide (t10.2.1 > 8))) (xr_gtr rfl rfl rfl) rfl rfl rfl rfl rfl c15 ?_
  refine ol_val (v := .bool (decide (t10.2.1 > 8))) (xr_pickF rfl rfl c15 rfl) rfl rfl rfl ?_
  refine ol_nil ?_
  refine thn_i ?_
  exact ⟨rfl, rfl, rfl, rfl, (rfl).trans (congrArg (fun z => (.bool z : Value)) (show (decide (t10.2.1 > 8)) = (if (!t10.2.2.2) = true then true else (if (!decide (t10.1 = 7)) = true then true else (decide (t10.2.1 > 8)))) from by rw [ite_f c14, ite_f c15])), rfl⟩
 rintro ρ16 _ ⟨e0, e2, e5, e6, e26, rfl⟩
 rcases is h with ⟨c17, h⟩ | ⟨c17, h⟩
 ·refine cw_condT e26 c17 ?_
  refine cw_seq ?_
  refine cw_region ?_
  refine ol_val (v := aggV [(sI (0 : Int)), (sI (0 : Int)), (sI (0 : Int)), (sI (0 : Int)), (sI (0 : Int)), (sI (0 : Int)), (sI (0 : Int)), (sI (0 : Int)), Seg.cell (.slice none 0 0) (by rfl)]) (xr_build (vals := []) rfl trivial (bl110_ _)) rfl rfl rfl ?_
  refine ol_op0 (opv_store (ss' := [(sI (0 : Int)), (sI (0 : Int)), (sI (0 : Int)), (sI (0 : Int)), (sI (0 : Int)), (sI (0 : Int)), (sI (0 : Int)), (sI (0 : Int)), Seg.cell (.slice none 0 0) (by rfl)]) (xs := cellsOf [(sI (0 : Int)), (sI (0 : Int)), (sI (0 : Int)), (sI (0 : Int)), (sI (0 : Int)), (sI (0 : Int)), (sI (0 : Int)), (sI (0 : Int)), Seg.cell (.slice none 0 0) (by rfl)]) rfl sz110 e2 rfl rfl (len_cellsOf _) (one_cellsOf _) b5 (Spl.segs _ 0 9 [(sI (0 : Int)), (sI (0 : Int)), (sI (0 : Int)), (sI (0 : Int)), (sI (0 : Int)), (sI (0 : Int)), (sI (0 : Int)), (sI (0 : Int)), Seg.cell (.slice none 0 0) (by rfl)] rfl rfl)) rfl rfl ?_
  rintro _ w19 ⟨b5, q18⟩
  have fB := fB.wr q18 z7
  refine ol_val (v := .bool false) (xr_assign rfl rfl) rfl rfl rfl ?_
  refine ol_nil ?_
  refine cw_ret ?_
  repeat (first | with_reducible refine thn_r ?_ | with_reducible refine blk_r ?_)
  obtain rfl := Option.some.inj h
  refine fin_cell_tmp Try.results114 e2 ag110 sz110 b5 (by rfl) rfl ?_
  exact ⟨_, rfl, (.slice none 0 0), Own.nil _ _ _ _, rfl, fB⟩
 refine cw_condF e26 c17 ?_
 refine cw_skip ?_
 refine cw_seq ?_
 refine cw_region ?_
 refine ol_op (opv_alloc (ss := [(sI (0 : Int)), (sI (0 : Int)), (sI (0 : Int)), (sI (0 : Int)), (sI (0 : Int)), (sI (0 : Int)), (sI (0 : Int)), (sI (0 : Int)), Seg.cell (.slice none 0 0) (by rfl)]) rfl ze110 rfl) rfl rfl rfl ?_
 rintro _ w25 ⟨G20, rfl, b21, q22, z23⟩
 have n26 := b5.ne z23
 have z23 := Nat.le_trans fB.size z23
 have b5 := b5.gr q22
 have fB := fB.gr q22
 refine ol_nil ?_
 refine cw_seq ?_
 refine cw_region ?_
 refine ol_val (v := sv t10.2.2.1) (xr_move rfl e6) rfl rfl rfl ?_
 obtain ⟨g27, h⟩ := gs h
 refine ol_val (v := sv (cut t10.2.2.1 0 8)) (xr_str_h rfl Try.underlying9 rfl rfl (by decide) g27) rfl rfl rfl ?_
 obtain ⟨t28, k29, h⟩ := bs h
 refine ol_op (opv_call rfl cal135 (ac rfl an) (rickyardref01_Int.ok fu _ (cut t10.2.2.1 0 8) _ k29)) rfl rfl rfl ?_
 rintro _ w31 ⟨rfl, q30⟩
 have b5 := b5.gr q30
 have b21 := b21.gr q30
 have fB := fB.gr q30
 refine ol_val (v := (pt G20 0)) (xr_fieldAddr (p := 0) (q := 0) rfl fl110_0 rfl) rfl rfl rfl ?_
 refine ol_op0 (opv_store (ss' := [(sI t28), (sI (0 : Int)), (sI (0 : Int)), (sI (0 : Int)), (sI (0 : Int)), (sI (0 : Int)), (sI (0 : Int)), (sI (0 : Int)), Seg.cell (.slice none 0 0) (by rfl)]) (xs := cellsOf [(sI t28)]) rfl sz3 rfl rfl rfl (len_cellsOf _) (one_cellsOf _) b21 (Spl.segs _ 0 1 [(sI t28)] rfl rfl)) rfl rfl ?_
 rintro _ w33 ⟨b21, q32⟩
 have b5 := b5.wr q32 n26
 have fB := fB.wr q32 z23
 refine ol_nil ?_
 refine cw_seq ?_
 refine cw_region ?_
 refine ol_val (v := sv t10.2.2.1) (xr_move rfl e6) rfl rfl rfl ?_
 obtain ⟨g34, h⟩ := gs h
 refine ol_val (v := sv (cut t10.2.2.1 8 12)) (xr_str_lh rfl Try.underlying9 rfl rfl rfl (by decide) (by decide) g34) rfl rfl rfl ?_
 obtain ⟨t35, k36, h⟩ := bs h
 refine ol_op (opv_call rfl cal135 (ac rfl an) (rickyardref01_Int.ok fu _ (cut t10.2.2.1 8 12) _ k36)) rfl rfl rfl ?_
 rintro _ w38 ⟨rfl, q37⟩
 have b5 := b5.gr q37
 have b21 := b21.gr q37
 have fB := fB.gr q37
 refine ol_val (v := (pt G20 1)) (xr_fieldAddr (p := 0) (q := 1) rfl fl110_1 rfl) rfl rfl rfl ?_
 refine ol_val (v := (pt G20 1)) (xr_fieldAddr (p := 1) (q := 0) rfl fl108_0 rfl) rfl rfl rfl ?_
 refine ol_val (v := (pt G20 1)) (xr_fieldAddr (p := 1) (q := 0) rfl fl106_0 rfl) rfl rfl rfl ?_
 refine ol_op0 (opv_store (ss' := [(sI t28), (sI t35), (sI (0 : Int)), (sI (0 : Int)), (sI (0 : Int)), (sI (0 : Int)), (sI (0 : Int)), (sI (0 : Int)), Seg.cell (.slice none 0 0) (by rfl)]) (xs := cellsOf [(sI t35)]) rfl sz3 rfl rfl rfl (len_cellsOf _) (one_cellsOf _) b21 (Spl.segs _ 1 1 [(sI t35)] rfl rfl)) rfl rfl ?_
 rintro _ w40 ⟨b21, q39⟩
 have b5 := b5.wr q39 n26
 have fB := fB.wr q39 z23
 refine ol_nil ?_
 refine cw_seq ?_
 refine cw_region ?_
 refine ol_val (v := sv t10.2.2.1) (xr_move rfl e6) rfl rfl rfl ?_
 obtain ⟨g41, h⟩ := gs h
 refine ol_val (v := sv (cut t10.2.2.1 12 16)) (xr_str_lh rfl Try.underlying9 rfl rfl rfl (by decide) (by decide) g41) rfl rfl rfl ?_
 obtain ⟨t42, k43, h⟩ := bs h
 refine ol_op (opv_call rfl cal135 (ac rfl an) (rickyardref01_Int.ok fu _ (cut t10.2.2.1 12 16) _ k43)) rfl rfl rfl ?_
 rintro _ w45 ⟨rfl, q44⟩
 have b5 := b5.gr q44
 have b21 := b21.gr q44
 have fB := fB.gr q44
 refine ol_val (v := (pt G20 1)) (xr_fieldAddr (p := 0) (q := 1) rfl fl110_1 rfl) rfl rfl rfl ?_
 refine ol_val (v := (pt G20 1)) (xr_fieldAddr (p := 1) (q := 0) rfl fl108_0 rfl) rfl rfl rfl ?_
 refine ol_val (v := (pt G20 2)) (xr_fieldAddr (p := 1) (q := 1) rfl fl106_1 rfl) rfl rfl rfl ?_
 refine ol_op0 (opv_store (ss' := [(sI t28), (sI t35), (sI t42), (sI (0 : Int)), (sI (0 : Int)), (sI (0 : Int)), (sI (0 : Int)), (sI (0 : Int)), Seg.cell (.slice none 0 0) (by rfl)]) (xs := cellsOf [(sI t42)]) rfl sz3 rfl rfl rfl (len_cellsOf _) (one_cellsOf _) b21 (Spl.segs _ 2 1 [(sI t42)] rfl rfl)) rfl rfl ?_
 rintro _ w47 ⟨b21, q46⟩
 have b5 := b5.wr q46 n26
 have fB := fB.wr q46 z23
 refine ol_nil ?_
 refine cw_seq ?_
 refine cw_region ?_
 refine ol_val (v := sv t10.2.2.1) (xr_move rfl e6) rfl rfl rfl ?_
 obtain ⟨g48, h⟩ := gs h
 refine ol_val (v := sv (cut t10.2.2.1 16 20)) (xr_str_lh rfl Try.underlying9 rfl rfl rfl (by decide) (by decide) g48) rfl rfl rfl ?_
 obtain ⟨t49, k50, h⟩ := bs h
 refine ol_op (opv_call rfl cal135 (ac rfl an) (rickyardref01_Int.ok fu _ (cut t10.2.2.1 16 20) _ k50)) rfl rfl rfl ?_
 rintro _ w52 ⟨rfl, q51⟩
 have b5 := b5.gr q51
 have b21 := b21.gr q51
 have fB := fB.gr q51
 refine ol_val (v := (pt G20 1)) (xr_fieldAddr (p := 0) (q := 1) rfl fl110_1 rfl) rfl rfl rfl ?_
 refine ol_val (v := (pt G20 1)) (xr_fieldAddr (p := 1) (q := 0) rfl fl108_0 rfl) rfl rfl rfl ?_
 refine ol_val (v := (pt G20 3)) (xr_fieldAddr (p := 1) (q := 2) rfl fl106_2 rfl) rfl rfl rfl ?_
 refine ol_op0 (opv_store (ss' := [(sI t28), (sI t35), (sI t42), (sI t49), (sI (0 : Int)), (sI (0 : Int)), (sI (0 : Int)), (sI (0 : Int)), Seg.cell (.slice none 0 0) (by rfl)]) (xs := cellsOf [(sI t49)]) rfl sz3 rfl rfl rfl (len_cellsOf _) (one_cellsOf _) b21 (Spl.segs _ 3 1 [(sI t49)] rfl rfl)) rfl rfl ?_
 rintro _ w54 ⟨b21, q53⟩
 have b5 := b5.wr q53 n26
 have fB := fB.wr q53 z23
 refine ol_nil ?_
 refine cw_seq ?_
 refine cw_region ?_
 refine ol_val (v := sv t10.2.2.1) (xr_move rfl e6) rfl rfl rfl ?_
 obtain ⟨g55, h⟩ := gs h
 refine ol_val (v := sv (cut t10.2.2.1 20 24)) (xr_str_lh rfl Try.underlying9 rfl rfl rfl (by decide) (by decide) g55) rfl rfl rfl ?_
 obtain ⟨t56, k57, h⟩ := bs h
 refine ol_op (opv_call rfl cal135 (ac rfl an) (rickyardref01_Int.ok fu _ (cut t10.2.2.1 20 24) _ k57)) rfl rfl rfl ?_
 rintro _ w59 ⟨rfl, q58⟩
 have b5 := b5.gr q58
 have b21 := b21.gr q58
 have fB := fB.gr q58
 refine ol_val (v := (pt G20 1)) (xr_fieldAddr (p := 0) (q := 1) rfl fl110_1 rfl) rfl rfl rfl ?_
 refine ol_val (v := (pt G20 5)) (xr_fieldAddr (p := 1) (q := 4) rfl fl108_2 rfl) rfl rfl rfl ?_
 refine ol_op0 (opv_store (ss' := [(sI t28), (sI t35), (sI t42), (sI t49), (sI (0 : Int)), (sI t56), (sI (0 : Int)), (sI (0 : Int)), Seg.cell (.slice none 0 0) (by rfl)]) (xs := cellsOf [(sI t56)]) rfl sz3 rfl rfl rfl (len_cellsOf _) (one_cellsOf _) b21 (Spl.segs _ 5 1 [(sI t56)] rfl rfl)) rfl rfl ?_
 rintro _ w61 ⟨b21, q60⟩
 have b5 := b5.wr q60 n26
 have fB := fB.wr q60 z23
 refine ol_nil ?_
 refine cw_seq ?_
 refine cw_region ?_
 refine ol_val (v := sv t10.2.2.1) (xr_move rfl e6) rfl rfl rfl ?_
 obtain ⟨g62, h⟩ := gs h
 refine ol_val (v := sv (cut t10.2.2.1 24 28)) (xr_str_lh rfl Try.underlying9 rfl rfl rfl (by decide) (by decide) g62) rfl rfl rfl ?_
 obtain ⟨t63, k64, h⟩ := bs h
 refine ol_op (opv_call rfl cal135 (ac rfl an) (rickyardref01_Int.ok fu _ (cut t10.2.2.1 24 28) _ k64)) rfl rfl rfl ?_
 rintro _ w66 ⟨rfl, q65⟩
 have b5 := b5.gr q65
 have b21 := b21.gr q65
 have fB := fB.gr q65
 refine ol_val (v := (pt G20 1)) (xr_fieldAddr (p := 0) (q := 1) rfl fl110_1 rfl) rfl rfl rfl ?_
 refine ol_val (v := (pt G20 6)) (xr_fieldAddr (p := 1) (q := 5) rfl fl108_3 rfl) rfl rfl rfl ?_
 refine ol_op0 (opv_store (ss' := [(sI t28), (sI t35), (sI t42), (sI t49), (sI (0 : Int)), (sI t56), (sI t63), (sI (0 : Int)), Seg.cell (.slice none 0 0) (by rfl)]) (xs := cellsOf [(sI t63)]) rfl sz3 rfl rfl rfl (len_cellsOf _) (one_cellsOf _) b21 (Spl.segs _ 6 1 [(sI t63)] rfl rfl)) rfl rfl ?_
 rintro _ w68 ⟨b21, q67⟩
 have b5 := b5.wr q67 n26
 have fB := fB.wr q67 z23
 refine ol_nil ?_
 refine cw_seq ?_
 refine cw_region ?_
 refine ol_val (v := sv t10.2.2.1) (xr_move rfl e6) rfl rfl rfl ?_
 obtain ⟨g69, h⟩ := gs h
 refine ol_val (v := sv (cut t10.2.2.1 28 30)) (xr_str_lh rfl Try.underlying9 rfl rfl rfl (by decide) (by decide) g69) rfl rfl rfl ?_
 obtain ⟨t70, k71, h⟩ := bs h
 refine ol_op (opv_call rfl cal135 (ac rfl an) (rickyardref01_Int.ok fu _ (cut t10.2.2.1 28 30) _ k71)) rfl rfl rfl ?_
 rintro _ w73 ⟨rfl, q72⟩
 have b5 := b5.gr q72
 have b21 := b21.gr q72
 have fB := fB.gr q72
 refine ol_val (v := (pt G20 1)) (xr_fieldAddr (p := 0) (q := 1) rfl fl110_1 rfl) rfl rfl rfl ?_
 refine ol_val (v := (pt G20 4)) (xr_fieldAddr (p := 1) (q := 3) rfl fl108_1 rfl) rfl rfl rfl ?_
 refine ol_op0 (opv_store (ss' := [(sI t28), (sI t35), (sI t42), (sI t49), (sI t70), (sI t56), (sI t63), (sI (0 : Int)), Seg.cell (.slice none 0 0) (by rfl)]) (xs := cellsOf [(sI t70)]) rfl sz3 rfl rfl rfl (len_cellsOf _) (one_cellsOf _) b21 (Spl.segs _ 4 1 [(sI t70)] rfl rfl)) rfl rfl ?_
 rintro _ w75 ⟨b21, q74⟩
 have b5 := b5.wr q74 n26
 have fB := fB.wr q74 z23
 refine ol_nil ?_
 refine cw_seq ?_
 refine cw_region ?_
 refine ol_val (v := sv t10.2.2.1) (xr_move rfl e6) rfl rfl rfl ?_
 obtain ⟨g76, h⟩ := gs h
 refine ol_val (v := sv (cut t10.2.2.1 30 32)) (xr_str_lh rfl Try.underlying9 rfl rfl rfl (by decide) (by decide) g76) rfl rfl rfl ?_
 obtain ⟨t77, k78, h⟩ := bs h
 refine ol_op (opv_call rfl cal135 (ac rfl an) (rickyardref01_Int.ok fu _ (cut t10.2.2.1 30 32) _ k78)) rfl rfl rfl ?_
 rintro _ w80 ⟨rfl, q79⟩
 have b5 := b5.gr q79
 have b21 := b21.gr q79
 have fB := fB.gr q79
 refine ol_val (v := (pt G20 7)) (xr_fieldAddr (p := 0) (q := 7) rfl fl110_2 rfl) rfl rfl rfl ?_
 refine ol_op0 (opv_store (ss' := [(sI t28), (sI t35), (sI t42), (sI t49), (sI t70), (sI t56), (sI t63), (sI t77), Seg.cell (.slice none 0 0) (by rfl)]) (xs := cellsOf [(sI t77)]) rfl sz3 rfl rfl rfl (len_cellsOf _) (one_cellsOf _) b21 (Spl.segs _ 7 1 [(sI t77)] rfl rfl)) rfl rfl ?_
 rintro _ w82 ⟨b21, q81⟩
 have b5 := b5.wr q81 n26
 have fB := fB.wr q81 z23
 refine ol_nil ?_
 refine cw_seq ?_
 refine cw_seq ?_
 refine cw_region ?_
 refine ol_val (v := .int .i64 0) (xr_assign rfl rfl) rfl rfl rfl ?_
 refine ol_nil ?_
 obtain ⟨e84, l85, h86⟩ := bs h
 refine cw_mid (fun ρ' w' => ∃ v87 : Value, ∃ o88 : Own (kI .i64) 3 w' w.heap.size v87 e84, ρ' 0 = V0_0 ∧ ρ' 2 = (pt G4 0) ∧ ρ' 8 = (pt G20 0) ∧ Blk w' G4 110 [(sI (0 : Int)), (sI (0 : Int)), (sI (0 : Int)), (sI (0 : Int)), (sI (0 : Int)), (sI (0 : Int)), (sI (0 : Int)), (sI (0 : Int)), Seg.cell (.slice none 0 0) (by rfl)] ∧ Blk w' G20 110 [(sI t28), (sI t35), (sI t42), (sI t49), (sI t70), (sI t56), (sI t63), (sI t77), Seg.cell v87 o88.one] ∧ Gr w w') ?_ ?_
 ·refine cw_block ?_
  refine cw_round (fun (s83 : Int × (List Int)) ρ' w' => ∃ v90 : Value, ∃ o91 : Own (kI .i64) 3 w' w.heap.size v90 s83.2, ρ' 0 = V0_0 ∧ ρ' 2 = (pt G4 0) ∧ ρ' 5 = .int .i64 t10.2.1 ∧ ρ' 6 = sv t10.2.2.1 ∧ ρ' 8 = (pt G20 0) ∧ ρ' 9 = .int .i64 s83.1 ∧ Blk w' G4 110 [(sI (0 : Int)), (sI (0 : Int)), (sI (0 : Int)), (sI (0 : Int)), (sI (0 : Int)), (sI (0 : Int)), (sI (0 : Int)), (sI (0 : Int)), Seg.cell (.slice none 0 0) (by rfl)] ∧ Blk w' G20 110 [(sI t28), (sI t35), (sI t42), (sI t49), (sI t70), (sI t56), (sI t63), (sI t77), Seg.cell v90 o91.one] ∧ Gr w w') l85 ?_ ?_
  ·skip
   exact ⟨(.slice none 0 0), Own.nil _ _ _ _, e0, e2, e5, e6, rfl, rfl, b5, b21, fB⟩
  rintro s83 x95 ρ93 w94 ⟨v90, o91, e0, e2, e5, e6, e8, e9, b5, b21, fB⟩ h
  unfold rickyardref13_Get.s0 at h
  refine cw_seq ?_
  refine cw_seq ?_
  refine cw_region ?_
  refine ol_val (v := .int .i64 s83.1) (xr_move rfl e9) rfl rfl rfl ?_
  refine ol_val (v := .int .i64 t10.2.1) (xr_move rfl e5) rfl rfl rfl ?_
  refine ol_val (v := .bool (decide (s83.1 < t10.2.1))) (xr_lss rfl rfl rfl) rfl rfl rfl ?_
  refine ol_nil ?_
  rcases is h with ⟨c96, h⟩ | ⟨c96, h⟩
  ·refine cw_condT rfl c96 ?_
   refine cw_skip ?_
   refine cw_seq ?_
   refine cw_block ?_
   obtain ⟨g97, h⟩ := gs h
   obtain ⟨t98, k99, h⟩ := bs h
   refine cw_drawL 12 [fun vz wz => vz = ((pt G20 8) : Value), fun vz wz => vz = (v90 : Value), fun vz wz => vz = (sv t10.2.2.1 : Value), fun vz wz => vz = (.int .i64 s83.1 : Value), fun vz wz => vz = (.int .i64 (IntKind.i64.wrap (2 * s83.1)) : Value), fun vz wz => vz = (.int .i64 (IntKind.i64.wrap (32 + (IntKind.i64.wrap (2 * s83.1)))) : Value), fun vz wz => vz = (.int .i64 s83.1 : Value), fun vz wz => vz = (.int .i64 (IntKind.i64.wrap (2 * s83.1)) : Value), fun vz wz => vz = (.int .i64 (IntKind.i64.wrap (34 + (IntKind.i64.wrap (2 * s83.1)))) : Value), fun vz wz => vz = (sv (cut t10.2.2.1 (IntKind.i64.wrap (32 + (IntKind.i64.wrap (2 * s83.1)))) (IntKind.i64.wrap (34 + (IntKind.i64.wrap (2 * s83.1))))) : Value), fun vz wz => vz = (.int .i64 t98 : Value), fun vz wz => ∃ v101 : Value, ∃ o103 : Own (kI .i64) 3 wz w.heap.size v101 [t98], vz = (v101 : Value)] mo rfl ⟨fun _ _ _ h _ => h, fun _ _ _ h _ => h, fun _ _ _ h _ => h, fun _ _ _ h _ => h, fun _ _ _ h _ => h, fun _ _ _ h _ => h, fun _ _ _ h _ => h, fun _ _ _ h _ => h, fun _ _ _ h _ => h, fun _ _ _ h _ => h, fun _ _ _ h _ => h, fun _ _ _ ⟨v101, o103, h⟩ q => ⟨v101, o103.gr q, h⟩, trivial⟩ ?_ ?_
   ·refine ⟨?_, ?_, ?_, ?_, ?_, ?_, ?_, ?_, ?_, ?_, ?_, ?_, trivial⟩
    ·intro ρz wz hz hk hd
     exact sk_val (v := (pt G20 8)) (xr_fieldAddr (p := 0) (q := 8) rfl fl110_3 ((hk 8 rfl).trans e8)) rfl rfl
    ·intro ρz wz hz hk hd
     exact sk_val (v := v90) (xr_load1 (v := v90) rfl ag25 (hd 0 rfl 74 rfl) ((b21.gr hz).seg 8 rfl rfl)) rfl rfl
    ·intro ρz wz hz hk hd
     exact sk_val (v := sv t10.2.2.1) (xr_move rfl ((hk 6 rfl).trans e6)) rfl rfl
    ·intro ρz wz hz hk hd
     exact sk_val (v := .int .i64 s83.1) (xr_move rfl ((hk 9 rfl).trans e9)) rfl rfl
    ·intro ρz wz hz hk hd
     exact sk_val (v := .int .i64 (IntKind.i64.wrap (2 * s83.1))) (xr_mul rfl rfl (hd 3 rfl 77 rfl)) rfl rfl
    ·intro ρz wz hz hk hd
     exact sk_val (xr_add rfl rfl (hd 4 rfl 78 rfl)) rfl rfl
    ·intro ρz wz hz hk hd
     exact sk_val (v := .int .i64 s83.1) (xr_move rfl ((hk 9 rfl).trans e9)) rfl rfl
    ·intro ρz wz hz hk hd
     exact sk_val (v := .int .i64 (IntKind.i64.wrap (2 * s83.1))) (xr_mul rfl rfl (hd 6 rfl 80 rfl)) rfl rfl
    ·intro ρz wz hz hk hd
     exact sk_val (xr_add rfl rfl (hd 7 rfl 81 rfl)) rfl rfl
    ·intro ρz wz hz hk hd
     exact sk_val (xr_str_lh rfl Try.underlying9 (hd 2 rfl 76 rfl) (hd 5 rfl 79 rfl) (hd 8 rfl 82 rfl) g97.1 g97.2.1 g97.2.2) rfl rfl
    ·intro ρz wz hz hk hd
     refine sk_op (opv_call rfl cal135 (ac (hd 9 rfl 83 rfl) an) (rickyardref01_Int.ok fu _ (cut t10.2.2.1 (IntKind.i64.wrap (32 + (IntKind.i64.wrap (2 * s83.1)))) (IntKind.i64.wrap (34 + (IntKind.i64.wrap (2 * s83.1))))) _ k99)) rfl ?_
     rintro _ wy ⟨rfl, q100⟩
     exact ⟨rfl, q100⟩
    intro ρz wz hz hk hd
    refine sk_op (opv_buildSlice (K := (kI .i64)) (xs := [t98]) (vals := [.int .i64 t98]) rfl Try.underlying25 el3 rfl rfl ⟨rfl, (hd 10 rfl 84 rfl), trivial⟩ rfl rfl rfl (Nat.le_trans fB.size hz.size)) rfl ?_
    rintro v101 wy ⟨o103, q102, z104⟩
    exact ⟨⟨v101, o103, rfl⟩, q102⟩
   intro ρ106 w107 q108 hk hd
   have e0 := (hk 0 rfl).trans e0
   have e2 := (hk 2 rfl).trans e2
   have e5 := (hk 5 rfl).trans e5
   have e6 := (hk 6 rfl).trans e6
   have e8 := (hk 8 rfl).trans e8
   have e9 := (hk 9 rfl).trans e9
   have e75 := hd 1 rfl 75 rfl
   obtain ⟨v109, o110, e85⟩ := hd 11 rfl 85 rfl
   have b5 := b5.gr q108
   have b21 := b21.gr q108
   have o91 := o91.gr q108
   have fB := fB.gr q108
   obtain ⟨g116, h⟩ := gs h
   have f118 := off_ty b5 o91 (by decide)
   have f119 := off_ty b21 o91 (by decide)
   have f120 := o91.geO
   refine ol_op (opv_append (K := (kI .i64)) rfl Try.underlying25 el3 rfl rfl rfl e75 e85 o91 o110.rd g116 fB.size) rfl rfl rfl ?_
   rintro v112 w121 ⟨o113, q114, n115⟩
   have b5 := b5.wrO q114 f118
   have b21 := b21.wrO q114 f119
   have fB := fB.wrO q114 f120
   refine ol_val (v := (pt G20 8)) (xr_fieldAddr (p := 0) (q := 8) rfl fl110_3 e8) rfl rfl rfl ?_
   have f123 := off_ty b21 o113 (by decide)
   refine ol_op0 (opv_store (ss' := [(sI t28), (sI t35), (sI t42), (sI t49), (sI t70), (sI t56), (sI t63), (sI t77), Seg.cell v112 o113.one]) (xs := cellsOf [Seg.cell v112 o113.one]) rfl sz25 rfl rfl (cells_one o113.one) (len_cellsOf _) (one_cellsOf _) b21 (Spl.segs _ 8 1 [Seg.cell v112 o113.one] rfl rfl)) rfl rfl ?_
   rintro _ w124 ⟨b21, q122⟩
   have b5 := b5.wr q122 n26
   have o113 := o113.wr q122 f123
   have fB := fB.wr q122 z23
   refine ol_nil ?_
   refine blk_i ?_
   refine cw_region ?_
   refine ol_val (v := .int .i64 s83.1) (xr_move rfl e9) rfl rfl rfl ?_
   refine ol_val (v := .int .i64 (IntKind.i64.wrap (s83.1 + 1))) (xr_add rfl rfl rfl) rfl rfl rfl ?_
   refine ol_val (v := .int .i64 (IntKind.i64.wrap (s83.1 + 1))) (xr_assign rfl rfl) rfl rfl rfl ?_
   refine ol_nil ?_
   obtain rfl := Option.some.inj h
   refine lp_in ?_
   exact ⟨v112, o113, e0, e2, e5, e6, e8, rfl, b5, b21, fB⟩
  refine cw_condF rfl c96 ?_
  refine cw_exit ?_
  repeat (first | with_reducible refine thn_e ?_ | with_reducible refine blk_e rfl ?_)
  obtain rfl := Option.some.inj h
  refine lp_exit ?_
  rintro rfl
  refine thn_x ?_
  exact ⟨v90, o91, e0, e2, e8, b5, b21, fB⟩
 rintro ρ125 w126 ⟨v87, o88, e0, e2, e8, b5, b21, fB⟩
 have h := h86
 refine cw_seq ?_
 refine cw_seq ?_
 obtain ⟨x127, j128, h⟩ := bs h
 refine cw_mid (fun ρ' w' => ρ' 2 = (pt G4 0) ∧ ρ' 8 = (pt G20 0) ∧ ρ' 97 = .bool x127 ∧ Gr w126 w') ?_ ?_
 ·skip
  refine rd_region mo ?_
  intro w129 q130
  have b5 := b5.gr q130
  have b21 := b21.gr q130
  have o88 := o88.gr q130
  have fB := fB.gr q130
  refine rd_seq (m := 0) (n := 4) rfl ?_
  refine ol_val (v := aggV [(sI t28), (sI t35), (sI t42), (sI t49), (sI t70), (sI t56), (sI t63), (sI t77), Seg.cell v87 o88.one]) (xr_loadS (ss := [(sI t28), (sI t35), (sI t42), (sI t49), (sI t70), (sI t56), (sI t63), (sI t77), Seg.cell v87 o88.one]) rfl ag110 sz110 rfl e8 (b21.segs 0 9 rfl)) rfl rfl rfl ?_
  obtain ⟨t131, k132, j128⟩ := bs j128
  refine ol_op (opv_call rfl cal75 (ac rfl an) (rickyardref13_Right.ok fu _ (⟨t28, (⟨(⟨t35, t42, t49⟩ : S_api_Geometry), t70, t56, t63⟩ : S_api_Tickets), t77, e84⟩ : S_api_Super) v87 (o88.rd) _ k132)) rfl rfl rfl ?_
  rintro _ w134 ⟨rfl, q133⟩
  have b5 := b5.gr q133
  have b21 := b21.gr q133
  have o88 := o88.gr q133
  have fB := fB.gr q133
  refine ol_val (v := .bool (!t131)) (xr_not rfl rfl) rfl rfl rfl ?_
  refine ol_val (v := .bool (!t131)) (xr_move rfl rfl) rfl rfl rfl ?_
  refine ol_nilK ?_
  rcases is j128 with ⟨c135, j128⟩ | ⟨c135, j128⟩
  ·skip
   refine rd_drawL 4 8 [fun vz _ => vz = undef, fun vz _ => vz = undef, fun vz _ => vz = undef, fun vz _ => vz = undef] rfl ⟨fun _ _ _ h _ => h, fun _ _ _ h _ => h, fun _ _ _ h _ => h, fun _ _ _ h _ => h, trivial⟩ ?_ ?_
   ·refine ⟨?_, ?_, ?_, ?_, trivial⟩
    ·intro ρz wz hz hk hd
     exact sk_skip rfl rfl ((hk 91 rfl).trans rfl) c135 rfl
    ·intro ρz wz hz hk hd
     exact sk_skip rfl rfl ((hk 91 rfl).trans rfl) c135 rfl
    ·intro ρz wz hz hk hd
     exact sk_skip rfl rfl ((hk 91 rfl).trans rfl) c135 rfl
    intro ρz wz hz hk hd
    exact sk_skip rfl rfl ((hk 91 rfl).trans rfl) c135 rfl
   intro ρ136 w137 q138 hk hd
   have e2 := (hk 2 rfl).trans e2
   have e8 := (hk 8 rfl).trans e8
   have e91 := (hk 91 rfl).trans rfl
   have e93 := hd 5 rfl rfl 93 rfl
   have e95 := hd 7 rfl rfl 95 rfl
   have b5 := b5.gr q138
   have b21 := b21.gr q138
   have o88 := o88.gr q138
   have fB := fB.gr q138
   refine rd_seq (m := 8) (n := 10) rfl ?_
   refine ol_gskip rfl rfl rfl rfl e91 c135 ?_
   refine ol_val (v := .bool true) (xr_pickT rfl e91 c135 rfl) rfl rfl rfl ?_
   refine ol_nilK ?_
   refine rd_end rfl ?_
   obtain rfl := Option.some.inj j128
   refine thn_i ?_
   exact ⟨e2, e8, rfl, ((q130.gr q133).gr q138)⟩
  obtain ⟨t139, k140, j128⟩ := bs j128
  refine rd_drawL 4 8 [fun vz wz => vz = (aggV [(sI t28), (sI t35), (sI t42), (sI t49), (sI t70), (sI t56), (sI t63), (sI t77), Seg.cell v87 o88.one] : Value), fun vz wz => vz = (sv t139 : Value), fun vz wz => vz = (V0_0 : Value), fun vz wz => vz = (sv (List.map toB a0) : Value)] rfl ⟨fun _ _ _ h _ => h, fun _ _ _ h _ => h, fun _ _ _ h _ => h, fun _ _ _ h _ => h, trivial⟩ ?_ ?_
  ·refine ⟨?_, ?_, ?_, ?_, trivial⟩
   ·intro ρz wz hz hk hd
    exact sk_gval (xr_loadS (ss := [(sI t28), (sI t35), (sI t42), (sI t49), (sI t70), (sI t56), (sI t63), (sI t77), Seg.cell v87 o88.one]) rfl ag110 sz110 rfl ((hk 8 rfl).trans e8) ((b21.gr hz).segs 0 9 rfl)) rfl rfl ((hk 91 rfl).trans rfl) c135 rfl
   ·intro ρz wz hz hk hd
    refine sk_gop (opv_call rfl cal76 (ac (hd 4 rfl rfl 92 rfl) an) (rickyardref13_Put.ok fu _ (⟨t28, (⟨(⟨t35, t42, t49⟩ : S_api_Geometry), t70, t56, t63⟩ : S_api_Tickets), t77, e84⟩ : S_api_Super) v87 (o88.gr hz).rd _ k140)) rfl rfl ((hk 91 rfl).trans rfl) c135 ?_
    rintro _ wy ⟨rfl, q141⟩
    exact ⟨rfl, q141⟩
   ·intro ρz wz hz hk hd
    exact sk_gval (v := V0_0) (xr_move rfl ((hk 0 rfl).trans e0)) rfl rfl ((hk 91 rfl).trans rfl) c135 rfl
   intro ρz wz hz hk hd
   exact sk_gval (v := sv (List.map toB a0)) (xr_toStr rfl Try.underlying43 Try.underlying5 Try.underlying9 (hd 6 rfl rfl 94 rfl) (R0_0.gr (fB.gr hz))) rfl rfl ((hk 91 rfl).trans rfl) c135 rfl
  intro ρ142 w143 q144 hk hd
  have e2 := (hk 2 rfl).trans e2
  have e8 := (hk 8 rfl).trans e8
  have e91 := (hk 91 rfl).trans rfl
  have e93 := hd 5 rfl rfl 93 rfl
  have e95 := hd 7 rfl rfl 95 rfl
  have b5 := b5.gr q144
  have b21 := b21.gr q144
  have o88 := o88.gr q144
  have fB := fB.gr q144
  refine rd_seq (m := 8) (n := 10) rfl ?_
  refine ol_gval (v := .bool (!decide (t139 = (List.map toB a0)))) (xr_neStr rfl Try.underlying9 e93 e95) rfl rfl rfl rfl e91 c135 ?_
  refine ol_val (v := .bool (!decide (t139 = (List.map toB a0)))) (xr_pickF rfl e91 c135 rfl) rfl rfl rfl ?_
  refine ol_nilK ?_
  refine rd_end rfl ?_
  obtain rfl := Option.some.inj j128
  refine thn_i ?_
  exact ⟨e2, e8, rfl, ((q130.gr q133).gr q144)⟩
 rintro ρ145 w146 ⟨e2, e8, e97, q147⟩
 have b5 := b5.gr q147
 have b21 := b21.gr q147
 have o88 := o88.gr q147
 have fB := fB.gr q147
 rcases is h with ⟨c148, h⟩ | ⟨c148, h⟩
 ·refine cw_condT e97 c148 ?_
  refine cw_seq ?_
  refine cw_region ?_
  refine ol_val (v := aggV [(sI (0 : Int)), (sI (0 : Int)), (sI (0 : Int)), (sI (0 : Int)), (sI (0 : Int)), (sI (0 : Int)), (sI (0 : Int)), (sI (0 : Int)), Seg.cell (.slice none 0 0) (by rfl)]) (xr_build (vals := []) rfl trivial (bl110_ _)) rfl rfl rfl ?_
  refine ol_op0 (opv_store (ss' := [(sI (0 : Int)), (sI (0 : Int)), (sI (0 : Int)), (sI (0 : Int)), (sI (0 : Int)), (sI (0 : Int)), (sI (0 : Int)), (sI (0 : Int)), Seg.cell (.slice none 0 0) (by rfl)]) (xs := cellsOf [(sI (0 : Int)), (sI (0 : Int)), (sI (0 : Int)), (sI (0 : Int)), (sI (0 : Int)), (sI (0 : Int)), (sI (0 : Int)), (sI (0 : Int)), Seg.cell (.slice none 0 0) (by rfl)]) rfl sz110 e2 rfl rfl (len_cellsOf _) (one_cellsOf _) b5 (Spl.segs _ 0 9 [(sI (0 : Int)), (sI (0 : Int)), (sI (0 : Int)), (sI (0 : Int)), (sI (0 : Int)), (sI (0 : Int)), (sI (0 : Int)), (sI (0 : Int)), Seg.cell (.slice none 0 0) (by rfl)] rfl rfl)) rfl rfl ?_
  rintro _ w150 ⟨b5, q149⟩
  have fB := fB.wr q149 z7
  refine ol_val (v := .bool false) (xr_assign rfl rfl) rfl rfl rfl ?_
  refine ol_nil ?_
  refine cw_ret ?_
  repeat (first | with_reducible refine thn_r ?_ | with_reducible refine blk_r ?_)
  obtain rfl := Option.some.inj h
  refine fin_cell_tmp Try.results114 e2 ag110 sz110 b5 (by rfl) rfl ?_
  exact ⟨_, rfl, (.slice none 0 0), Own.nil _ _ _ _, rfl, fB⟩
 refine cw_condF e97 c148 ?_
 refine cw_skip ?_
 refine cw_seq ?_
 refine cw_region ?_
 refine ol_val (v := aggV [(sI t28), (sI t35), (sI t42), (sI t49), (sI t70), (sI t56), (sI t63), (sI t77), Seg.cell v87 o88.one]) (xr_loadS (ss := [(sI t28), (sI t35), (sI t42), (sI t49), (sI t70), (sI t56), (sI t63), (sI t77), Seg.cell v87 o88.one]) rfl ag110 sz110 rfl e8 (b21.segs 0 9 rfl)) rfl rfl rfl ?_
 have f152 := off_ty b5 o88 (by decide)
 refine ol_op0 (opv_store (ss' := [(sI t28), (sI t35), (sI t42), (sI t49), (sI t70), (sI t56), (sI t63), (sI t77), Seg.cell v87 o88.one]) (xs := cellsOf [(sI t28), (sI t35), (sI t42), (sI t49), (sI t70), (sI t56), (sI t63), (sI t77), Seg.cell v87 o88.one]) rfl sz110 e2 rfl rfl (len_cellsOf _) (one_cellsOf _) b5 (Spl.segs _ 0 9 [(sI t28), (sI t35), (sI t42), (sI t49), (sI t70), (sI t56), (sI t63), (sI t77), Seg.cell v87 o88.one] rfl rfl)) rfl rfl ?_
 rintro _ w153 ⟨b5, q151⟩
 have o88 := o88.wr q151 f152
 have fB := fB.wr q151 z7
 refine ol_val (v := .bool true) (xr_assign rfl rfl) rfl rfl rfl ?_
 refine ol_nil ?_
 refine cw_ret ?_
 repeat (first | with_reducible refine thn_r ?_ | with_reducible refine blk_r ?_)
 obtain rfl := Option.some.inj h
 refine fin_cell_tmp Try.results114 e2 ag110 sz110 b5 (by rfl) rfl ?_
 exact ⟨_, rfl, v87, o88, rfl, fB⟩
def rickyardref16_At.f (fu : Nat) (a0 : List UInt8) (a1 : Int) : Option (S_api_Super × Bool) := (if (if (decide (a1 < 0)) = true then true else (if (decide (a1 > 1)) = true then true else (decide ((List.length a0 : Int) < (IntKind.i64.wrap ((IntKind.i64.wrap (64 * a1)) + 64)))))) = true then some ((⟨(0 : Int), (⟨(⟨(0 : Int), (0 : Int), (0 : Int)⟩ : S_api_Geometry), (0 : Int), (0 : Int), (0 : Int)⟩ : S_api_Tickets), (0 : Int), []⟩ : S_api_Super), false) else (if (0 : Int) ≤ (IntKind.i64.wrap (64 * a1)) ∧ (IntKind.i64.wrap (64 * a1)) ≤ (IntKind.i64.wrap ((IntKind.i64.wrap (64 * a1)) + 64)) ∧ (IntKind.i64.wrap ((IntKind.i64.wrap (64 * a1)) + 64)) ≤ (List.length a0 : Int) then ((rickyardref13_Get.f fu (List.map ofB (cut a0 (IntKind.i64.wrap (64 * a1)) (IntKind.i64.wrap ((IntKind.i64.wrap (64 * a1)) + 64))))).bind fun t21 => some (t21.1, t21.2)) else none))
theorem rickyardref16_At.ok (fu : Nat) (w : World) (a0 : List UInt8) (a1 : Int) (r : S_api_Super × Bool) (h : rickyardref16_At.f fu a0 a1 = some r) :
  Calls Try.prog 71 (([sv a0, .int .i64 a1] : List Value).toArray) w (fun e w' => ∃ v, e = .returned v ∧ ∃ u1 : Value, ∃ o2 : Own (kI .i64) 3 w' w.heap.size u1 r.1.Charts, v = .tuple #[aggV [(sI r.1.Epoch), (sI r.1.Tickets.Geometry.Blocks), (sI r.1.Tickets.Geometry.Slots), (sI r.1.Tickets.Geometry.Gens), (sI r.1.Tickets.Top), (sI r.1.Tickets.High), (sI r.1.Tickets.Free), (sI r.1.Dir), Seg.cell u1 o2.one], .bool r.2] ∧ Gr w w') := by
 unfold rickyardref16_At.f at h
 have fB : Gr w w := Fr.refl _ _
 refine calls_cw Try.func71 rfl Try.ntmps71 rfl ?_
 refine cw_seq ?_
 refine cw_region ?_
 refine ol_op (opv_alloc (ss := [(sI (0 : Int)), (sI (0 : Int)), (sI (0 : Int)), (sI (0 : Int)), (sI (0 : Int)), (sI (0 : Int)), (sI (0 : Int)), (sI (0 : Int)), Seg.cell (.slice none 0 0) (by rfl)]) rfl ze110 rfl) rfl rfl rfl ?_
 rintro _ w9 ⟨G4, rfl, b5, q6, z7⟩
 have z7 := Nat.le_trans fB.size z7
 have fB := fB.gr q6
 refine ol_val (v := .bool false) (xr_assign rfl rfl) rfl rfl rfl ?_
 refine ol_nil ?_
 refine cw_seq ?_
 refine cw_seq ?_
 refine cw_mid (fun ρ' w' => ρ' 0 = sv a0 ∧ ρ' 1 = .int .i64 a1 ∧ ρ' 4 = (pt G4 0) ∧ ρ' 19 = .bool (if (decide (a1 < 0)) = true then true else (if (decide (a1 > 1)) = true then true else (decide ((List.length a0 : Int) < (IntKind.i64.wrap ((IntKind.i64.wrap (64 * a1)) + 64)))))) ∧ w9 = w') ?_ ?_
 ·skip
  refine cw_region ?_
  refine ol_val (v := .int .i64 a1) (xr_move rfl rfl) rfl rfl rfl ?_
  refine ol_val (v := .bool (decide (a1 < 0))) (xr_lss rfl rfl rfl) rfl rfl rfl ?_
  refine ol_val (v := .bool (decide (a1 < 0))) (xr_move rfl rfl) rfl rfl rfl ?_
  rcases bt (decide (a1 < 0)) with c10 | c10
  ·skip
   refine ol_gskip rfl rfl rfl rfl rfl c10 ?_
   refine ol_gskip rfl rfl rfl rfl rfl c10 ?_
   refine ol_val (v := .bool true) (xr_pickT rfl rfl c10 rfl) rfl rfl rfl ?_
   refine ol_val (v := .bool true) (xr_move rfl rfl) rfl rfl rfl ?_
   refine ol_gskip rfl rfl rfl rfl rfl rfl ?_
   refine ol_gskip rfl rfl rfl rfl rfl rfl ?_
   refine ol_gskip rfl rfl rfl rfl rfl rfl ?_
   refine ol_gskip rfl rfl rfl rfl rfl rfl ?_
   refine ol_gskip rfl rfl rfl rfl rfl rfl ?_
   refine ol_gskip rfl rfl rfl rfl rfl rfl ?_
   refine ol_val (v := .bool true) (xr_pickT rfl rfl rfl rfl) rfl rfl rfl ?_
   refine ol_nil ?_
   refine thn_i ?_
   exact ⟨rfl, rfl, rfl, (rfl).trans (congrArg (fun z => (.bool z : Value)) (show true = (if (decide (a1 < 0)) = true then true else (if (decide (a1 > 1)) = true then true else (decide ((List.length a0 : Int) < (IntKind.i64.wrap ((IntKind.i64.wrap (64 * a1)) + 64)))))) from by rw [ite_t c10])), rfl⟩
  refine ol_gval (v := .int .i64 a1) (xr_move rfl rfl) rfl rfl rfl rfl rfl c10 ?_
  refine ol_gval (v := .bool (decide (a1 > 1))) (xr_gtr rfl rfl rfl) rfl rfl rfl rfl rfl c10 ?_
  refine ol_val (v := .bool (decide (a1 > 1))) (xr_pickF rfl rfl c10 rfl) rfl rfl rfl ?_
  refine ol_val (v := .bool (decide (a1 > 1))) (xr_move rfl rfl) rfl rfl rfl ?_
  rcases bt (decide (a1 > 1)) with c11 | c11
  ·skip
   refine ol_gskip rfl rfl rfl rfl rfl c11 ?_
   refine ol_gskip rfl rfl rfl rfl rfl c11 ?_
   refine ol_gskip rfl rfl rfl rfl rfl c11 ?_
   refine ol_gskip rfl rfl rfl rfl rfl c11 ?_
   refine ol_gskip rfl rfl rfl rfl rfl c11 ?_
   refine ol_gskip rfl rfl rfl rfl rfl c11 ?_
   refine ol_val (v := .bool true) (xr_pickT rfl rfl c11 rfl) rfl rfl rfl ?_
   refine ol_nil ?_
   refine thn_i ?_
   exact ⟨rfl, rfl, rfl, (rfl).trans (congrArg (fun z => (.bool z : Value)) (show true = (if (decide (a1 < 0)) = true then true else (if (decide (a1 > 1)) = true then true else (decide ((List.length a0 : Int) < (IntKind.i64.wrap ((IntKind.i64.wrap (64 * a1)) + 64)))))) from by rw [ite_f c10, ite_t c11])), rfl⟩
  refine ol_gval (v := sv a0) (xr_move rfl rfl) rfl rfl rfl rfl rfl c11 ?_
  refine ol_gval (v := .int .i64 (List.length a0 : Int)) (xr_lenStr rfl Try.underlying9 rfl) rfl rfl rfl rfl rfl c11 ?_
  refine ol_gval (v := .int .i64 a1) (xr_move rfl rfl) rfl rfl rfl rfl rfl c11 ?_
  refine ol_gval (v := .int .i64 (IntKind.i64.wrap (64 * a1))) (xr_mul rfl rfl rfl) rfl rfl rfl rfl rfl c11 ?_
  refine ol_gval (v := .int .i64 (IntKind.i64.wrap ((IntKind.i64.wrap (64 * a1)) + 64))) (xr_add rfl rfl rfl) rfl rfl rfl rfl rfl c11 ?_
  refine ol_gval (v := .bool (decide ((List.length a0 : Int) < (IntKind.i64.wrap ((IntKind.i64.wrap (64 * a1)) + 64))))) (xr_lss rfl rfl rfl) rfl rfl rfl rfl rfl c11 ?_
  refine ol_val (v := .bool (decide ((List.length a0 : Int) < (IntKind.i64.wrap ((IntKind.i64.wrap (64 * a1)) + 64))))) (xr_pickF rfl rfl c11 rfl) rfl rfl rfl ?_
  refine ol_nil ?_
  refine thn_i ?_
  exact ⟨rfl, rfl, rfl, (rfl).trans (congrArg (fun z => (.bool z : Value)) (show (decide ((List.length a0 : Int) < (IntKind.i64.wrap ((IntKind.i64.wrap (64 * a1)) + 64)))) = (if (decide (a1 < 0)) = true then true else (if (decide (a1 > 1)) = true then true else (decide ((List.length a0 : Int) < (IntKind.i64.wrap ((IntKind.i64.wrap (64 * a1)) + 64)))))) from by rw [ite_f c10, ite_f c11])), rfl⟩
 rintro ρ12 _ ⟨e0, e1, e4, e19, rfl⟩
 rcases is h with ⟨c13, h⟩ | ⟨c13, h⟩
 ·refine cw_condT e19 c13 ?_
  refine cw_seq ?_
  refine cw_region ?_
  refine ol_val (v := aggV [(sI (0 : Int)), (sI (0 : Int)), (sI (0 : Int)), (sI (0 : Int)), (sI (0 : Int)), (sI (0 : Int)), (sI (0 : Int)), (sI (0 : Int)), Seg.cell (.slice none 0 0) (by rfl)]) (xr_build (vals := []) rfl trivial (bl110_ _)) rfl rfl rfl ?_
  refine ol_op0 (opv_store (ss' := [(sI (0 : Int)), (sI (0 : Int)), (sI (0 : Int)), (sI (0 : Int)), (sI (0 : Int)), (sI (0 : Int)), (sI (0 : Int)), (sI (0 : Int)), Seg.cell (.slice none 0 0) (by rfl)]) (xs := cellsOf [(sI (0 : Int)), (sI (0 : Int)), (sI (0 : Int)), (sI (0 : Int)), (sI (0 : Int)), (sI (0 : Int)), (sI (0 : Int)), (sI (0 : Int)), Seg.cell (.slice none 0 0) (by rfl)]) rfl sz110 e4 rfl rfl (len_cellsOf _) (one_cellsOf _) b5 (Spl.segs _ 0 9 [(sI (0 : Int)), (sI (0 : Int)), (sI (0 : Int)), (sI (0 : Int)), (sI (0 : Int)), (sI (0 : Int)), (sI (0 : Int)), (sI (0 : Int)), Seg.cell (.slice none 0 0) (by rfl)] rfl rfl)) rfl rfl ?_
  rintro _ w15 ⟨b5, q14⟩
  have fB := fB.wr q14 z7
  refine ol_val (v := .bool false) (xr_assign rfl rfl) rfl rfl rfl ?_
  refine ol_nil ?_
  refine cw_ret ?_
  repeat (first | with_reducible refine thn_r ?_ | with_reducible refine blk_r ?_)
  obtain rfl := Option.some.inj h
  refine fin_cell_tmp Try.results71 e4 ag110 sz110 b5 (by rfl) rfl ?_
  exact ⟨_, rfl, (.slice none 0 0), Own.nil _ _ _ _, rfl, fB⟩
 refine cw_condF e19 c13 ?_
 refine cw_skip ?_
 refine cw_seq ?_
 refine cw_region ?_
 refine ol_val (v := sv a0) (xr_move rfl e0) rfl rfl rfl ?_
 refine ol_val (v := .int .i64 a1) (xr_move rfl e1) rfl rfl rfl ?_
 refine ol_val (v := .int .i64 (IntKind.i64.wrap (64 * a1))) (xr_mul rfl rfl rfl) rfl rfl rfl ?_
 refine ol_val (v := .int .i64 a1) (xr_move rfl e1) rfl rfl rfl ?_
 refine ol_val (v := .int .i64 (IntKind.i64.wrap (64 * a1))) (xr_mul rfl rfl rfl) rfl rfl rfl ?_
 refine ol_val (v := .int .i64 (IntKind.i64.wrap ((IntKind.i64.wrap (64 * a1)) + 64))) (xr_add rfl rfl rfl) rfl rfl rfl ?_
 obtain ⟨g16, h⟩ := gs h
 refine ol_val (v := sv (cut a0 (IntKind.i64.wrap (64 * a1)) (IntKind.i64.wrap ((IntKind.i64.wrap (64 * a1)) + 64)))) (xr_str_lh rfl Try.underlying9 rfl rfl rfl g16.1 g16.2.1 g16.2.2) rfl rfl rfl ?_
 refine ol_op (opv_toBytes rfl Try.underlying9 Try.underlying43 Try.underlying5 rfl) rfl rfl rfl ?_
 rintro v17 w20 ⟨r19, q18⟩
 have b5 := b5.gr q18
 have fB := fB.gr q18
 obtain ⟨t21, k22, h⟩ := bs h
 refine ol_op (opv_call rfl cal114 (ac rfl an) (rickyardref13_Get.ok fu _ (List.map ofB (cut a0 (IntKind.i64.wrap (64 * a1)) (IntKind.i64.wrap ((IntKind.i64.wrap (64 * a1)) + 64)))) v17 (r19) _ k22)) rfl rfl rfl ?_
 rintro _ w27 ⟨u23, o24, rfl, q26⟩
 have o24 := Own.base o24 fB.size
 have b5 := b5.gr q26
 have fB := fB.gr q26
 refine ol_val (v := aggV [(sI t21.1.Epoch), (sI t21.1.Tickets.Geometry.Blocks), (sI t21.1.Tickets.Geometry.Slots), (sI t21.1.Tickets.Geometry.Gens), (sI t21.1.Tickets.Top), (sI t21.1.Tickets.High), (sI t21.1.Tickets.Free), (sI t21.1.Dir), Seg.cell u23 o24.one]) (xr_extract rfl rfl rfl) rfl rfl rfl ?_
 refine ol_val (v := .bool t21.2) (xr_extract rfl rfl rfl) rfl rfl rfl ?_
 have f29 := off_ty b5 o24 (by decide)
 refine ol_op0 (opv_store (ss' := [(sI t21.1.Epoch), (sI t21.1.Tickets.Geometry.Blocks), (sI t21.1.Tickets.Geometry.Slots), (sI t21.1.Tickets.Geometry.Gens), (sI t21.1.Tickets.Top), (sI t21.1.Tickets.High), (sI t21.1.Tickets.Free), (sI t21.1.Dir), Seg.cell u23 o24.one]) (xs := cellsOf [(sI t21.1.Epoch), (sI t21.1.Tickets.Geometry.Blocks), (sI t21.1.Tickets.Geometry.Slots), (sI t21.1.Tickets.Geometry.Gens), (sI t21.1.Tickets.Top), (sI t21.1.Tickets.High), (sI t21.1.Tickets.Free), (sI t21.1.Dir), Seg.cell u23 o24.one]) rfl sz110 e4 rfl rfl (len_cellsOf _) (one_cellsOf _) b5 (Spl.segs _ 0 9 [(sI t21.1.Epoch), (sI t21.1.Tickets.Geometry.Blocks), (sI t21.1.Tickets.Geometry.Slots), (sI t21.1.Tickets.Geometry.Gens), (sI t21.1.Tickets.Top), (sI t21.1.Tickets.High), (sI t21.1.Tickets.Free), (sI t21.1.Dir), Seg.cell u23 o24.one] rfl rfl)) rfl rfl ?_
 rintro _ w30 ⟨b5, q28⟩
 have o24 := o24.wr q28 f29
 have fB := fB.wr q28 z7
 refine ol_val (v := .bool t21.2) (xr_assign rfl rfl) rfl rfl rfl ?_
 refine ol_nil ?_
 refine cw_ret ?_
 repeat (first | with_reducible refine thn_r ?_ | with_reducible refine blk_r ?_)
 obtain rfl := Option.some.inj h
 refine fin_cell_tmp Try.results71 e4 ag110 sz110 b5 (by rfl) rfl ?_
 exact ⟨_, rfl, u23, o24, rfl, fB⟩
def rickyardref01_Ints.s0 (fu : Nat) (a0 : List Int) (a1 : List Int) : Int → Option (Sum (Sum Bool Unit) Int) := fun s2 => (if (decide (s2 < (List.length a0 : Int))) = true then (if 0 ≤ s2 ∧ s2 < (List.length a0 : Int) then (if 0 ≤ s2 ∧ s2 < (List.length a1 : Int) then (if (!decide ((ix a0 s2) = (ix a1 s2))) = true then some (Sum.inl (Sum.inl (false))) else some (Sum.inr ((IntKind.i64.wrap (s2 + 1))))) else none) else none) else some (Sum.inl (Sum.inr ())))
def rickyardref01_Ints.f (fu : Nat) (a0 : List Int) (a1 : List Int) : Option Bool := (if (!decide ((List.length a0 : Int) = (List.length a1 : Int))) = true then some (false) else ((loopM (rickyardref01_Ints.s0 fu a0 a1) fu (0)).bind fun e3 => match e3 with | Sum.inl p => some p | Sum.inr x6 => some (true)))
theorem rickyardref01_Ints.ok (fu : Nat) (w : World) (a0 : List Int) (V0_0 : Value) (R0_0 : Rd (kI .i64) w V0_0 a0) (a1 : List Int) (V1_0 : Value) (R1_0 : Rd (kI .i64) w V1_0 a1) (r : Bool) (h : rickyardref01_Ints.f fu a0 a1 = some r) :
  Calls Try.prog 66 (([V0_0, V1_0] : List Value).toArray) w (fun e w' => ∃ v, e = .returned v ∧ v = .bool r ∧ Gr w w') := by
 unfold rickyardref01_Ints.f at h
 have fB : Gr w w := Fr.refl _ _
 refine calls_cw Try.func66 rfl Try.ntmps66 rfl ?_
 refine cw_seq ?_
 refine cw_region ?_
 refine ol_val (v := .bool false) (xr_assign rfl rfl) rfl rfl rfl ?_
 refine ol_nil ?_
 refine cw_seq ?_
 refine cw_seq ?_
 refine cw_region ?_
 refine ol_val (v := V0_0) (xr_move rfl rfl) rfl rfl rfl ?_
 refine ol_val (v := .int .i64 (List.length a0 : Int)) (xr_lenR rfl Try.underlying25 rfl (R0_0.gr fB)) rfl rfl rfl ?_
 refine ol_val (v := V1_0) (xr_move rfl rfl) rfl rfl rfl ?_
 refine ol_val (v := .int .i64 (List.length a1 : Int)) (xr_lenR rfl Try.underlying25 rfl (R1_0.gr fB)) rfl rfl rfl ?_
 refine ol_val (v := .bool (!decide ((List.length a0 : Int) = (List.length a1 : Int)))) (xr_neI rfl Try.underlying3 rfl rfl rfl) rfl rfl rfl ?_
 refine ol_nil ?_
 rcases is h with ⟨c1, h⟩ | ⟨c1, h⟩
 ·refine cw_condT rfl c1 ?_
  refine cw_seq ?_
  refine cw_region ?_
  refine ol_val (v := .bool false) (xr_assign rfl rfl) rfl rfl rfl ?_
  refine ol_nil ?_
  refine cw_ret ?_
  repeat (first | with_reducible refine thn_r ?_ | with_reducible refine blk_r ?_)
  obtain rfl := Option.some.inj h
  refine fin_ret1 Try.results66 rfl ?_
  exact ⟨_, rfl, rfl, fB⟩
 refine cw_condF rfl c1 ?_
 refine cw_skip ?_
 refine cw_seq ?_
 refine cw_seq ?_
 refine cw_region ?_
 refine ol_val (v := .int .i64 0) (xr_assign rfl rfl) rfl rfl rfl ?_
 refine ol_nil ?_
 obtain ⟨e3, l4, h5⟩ := bs h
 refine cw_mid (fun ρ' w' => ∃ x6, e3 = Sum.inr x6 ∧ Gr w w') ?_ ?_
 ·refine cw_block ?_
  refine cw_round (fun (s2 : Int) ρ' w' => ρ' 0 = V0_0 ∧ ρ' 1 = V1_0 ∧ ρ' 5 = .int .i64 s2 ∧ Gr w w') l4 ?_ ?_
  ·skip
   exact ⟨rfl, rfl, rfl, fB⟩
  rintro s2 x9 ρ7 w8 ⟨e0, e1, e5, fB⟩ h
  unfold rickyardref01_Ints.s0 at h
  refine cw_seq ?_
  refine cw_seq ?_
  refine cw_region ?_
  refine ol_val (v := .int .i64 s2) (xr_move rfl e5) rfl rfl rfl ?_
  refine ol_val (v := V0_0) (xr_move rfl e0) rfl rfl rfl ?_
  refine ol_val (v := .int .i64 (List.length a0 : Int)) (xr_lenR rfl Try.underlying25 rfl (R0_0.gr fB)) rfl rfl rfl ?_
  refine ol_val (v := .bool (decide (s2 < (List.length a0 : Int)))) (xr_lss rfl rfl rfl) rfl rfl rfl ?_
  refine ol_nil ?_
  rcases is h with ⟨c10, h⟩ | ⟨c10, h⟩
  ·refine cw_condT rfl c10 ?_
   refine cw_skip ?_
   refine cw_seq ?_
   refine cw_block ?_
   refine cw_seq ?_
   obtain ⟨g11, h⟩ := gs h
   obtain ⟨g12, h⟩ := gs h
   refine cw_drawL 8 [fun vz wz => vz = (V0_0 : Value), fun vz wz => vz = (.int .i64 s2 : Value), fun vz wz => vz = ((pt ((sb V0_0)) (so V0_0 + Int.toNat s2 * 1)) : Value), fun vz wz => vz = (.int .i64 (ix a0 s2) : Value), fun vz wz => vz = (V1_0 : Value), fun vz wz => vz = (.int .i64 s2 : Value), fun vz wz => vz = ((pt ((sb V1_0)) (so V1_0 + Int.toNat s2 * 1)) : Value), fun vz wz => vz = (.int .i64 (ix a1 s2) : Value)] mo rfl ⟨fun _ _ _ h _ => h, fun _ _ _ h _ => h, fun _ _ _ h _ => h, fun _ _ _ h _ => h, fun _ _ _ h _ => h, fun _ _ _ h _ => h, fun _ _ _ h _ => h, fun _ _ _ h _ => h, trivial⟩ ?_ ?_
   ·refine ⟨?_, ?_, ?_, ?_, ?_, ?_, ?_, ?_, trivial⟩
    ·intro ρz wz hz hk hd
     exact sk_val (v := V0_0) (xr_move rfl ((hk 0 rfl).trans e0)) rfl rfl
    ·intro ρz wz hz hk hd
     exact sk_val (v := .int .i64 s2) (xr_move rfl ((hk 5 rfl).trans e5)) rfl rfl
    ·intro ρz wz hz hk hd
     exact sk_val (xr_indexR (K := (kI .i64)) (v := V0_0) rfl Try.underlying25 sz3 (hd 0 rfl 17 rfl) (R0_0.gr (fB.gr hz)) (hd 1 rfl 18 rfl) g11.1 g11.2) rfl rfl
    ·intro ρz wz hz hk hd
     exact sk_val (v := .int .i64 (ix a0 s2)) (xr_load1 (v := .int .i64 (ix a0 s2)) rfl ag3 (hd 2 rfl 19 rfl) ((R0_0.gr (fB.gr hz)).elem g11.1 g11.2)) rfl rfl
    ·intro ρz wz hz hk hd
     exact sk_val (v := V1_0) (xr_move rfl ((hk 1 rfl).trans e1)) rfl rfl
    ·intro ρz wz hz hk hd
     exact sk_val (v := .int .i64 s2) (xr_move rfl ((hk 5 rfl).trans e5)) rfl rfl
    ·intro ρz wz hz hk hd
     exact sk_val (xr_indexR (K := (kI .i64)) (v := V1_0) rfl Try.underlying25 sz3 (hd 4 rfl 21 rfl) (R1_0.gr (fB.gr hz)) (hd 5 rfl 22 rfl) g12.1 g12.2) rfl rfl
    intro ρz wz hz hk hd
    exact sk_val (v := .int .i64 (ix a1 s2)) (xr_load1 (v := .int .i64 (ix a1 s2)) rfl ag3 (hd 6 rfl 23 rfl) ((R1_0.gr (fB.gr hz)).elem g12.1 g12.2)) rfl rfl
   intro ρ13 w14 q15 hk hd
   have e0 := (hk 0 rfl).trans e0
   have e1 := (hk 1 rfl).trans e1
   have e5 := (hk 5 rfl).trans e5
   have e20 := hd 3 rfl 20 rfl
   have e24 := hd 7 rfl 24 rfl
   have fB := fB.gr q15
   refine ol_val (v := .bool (!decide ((ix a0 s2) = (ix a1 s2)))) (xr_neI rfl Try.underlying3 rfl e20 e24) rfl rfl rfl ?_
   refine ol_nil ?_
   rcases is h with ⟨c16, h⟩ | ⟨c16, h⟩
   ·refine cw_condT rfl c16 ?_
    refine cw_seq ?_
    refine cw_region ?_
    refine ol_val (v := .bool false) (xr_assign rfl rfl) rfl rfl rfl ?_
    refine ol_nil ?_
    refine cw_ret ?_
    repeat (first | with_reducible refine thn_r ?_ | with_reducible refine blk_r ?_)
    obtain rfl := Option.some.inj h
    refine lp_ret ?_
    rintro rfl
    repeat (first | with_reducible refine thn_r ?_ | with_reducible refine blk_r ?_)
    have h := h5
    obtain rfl := Option.some.inj h
    refine fin_ret1 Try.results66 rfl ?_
    exact ⟨_, rfl, rfl, fB⟩
   refine cw_condF rfl c16 ?_
   refine cw_skip ?_
   refine blk_i ?_
   refine cw_region ?_
   refine ol_val (v := .int .i64 s2) (xr_move rfl e5) rfl rfl rfl ?_
   refine ol_val (v := .int .i64 (IntKind.i64.wrap (s2 + 1))) (xr_add rfl rfl rfl) rfl rfl rfl ?_
   refine ol_val (v := .int .i64 (IntKind.i64.wrap (s2 + 1))) (xr_assign rfl rfl) rfl rfl rfl ?_
   refine ol_nil ?_
   obtain rfl := Option.some.inj h
   refine lp_in ?_
   exact ⟨e0, e1, rfl, fB⟩
  refine cw_condF rfl c10 ?_
  refine cw_exit ?_
  repeat (first | with_reducible refine thn_e ?_ | with_reducible refine blk_e rfl ?_)
  obtain rfl := Option.some.inj h
  refine lp_exit ?_
  rintro rfl
  refine thn_x ?_
  exact ⟨_, rfl, fB⟩
 rintro ρ17 w18 ⟨x6, rfl, fB⟩
 have h := h5
 refine cw_seq ?_
 refine cw_region ?_
 refine ol_val (v := .bool true) (xr_assign rfl rfl) rfl rfl rfl ?_
 refine ol_nil ?_
 refine cw_ret ?_
 repeat (first | with_reducible refine thn_r ?_ | with_reducible refine blk_r ?_)
 obtain rfl := Option.some.inj h
 refine fin_ret1 Try.results66 rfl ?_
 exact ⟨_, rfl, rfl, fB⟩
def rickyardref13_Same.f (fu : Nat) (a0 : S_api_Super) (a1 : S_api_Super) : Option Bool := (((if (decide (a0.Epoch = a1.Epoch)) = true then (if (decide (a0.Tickets.Geometry = a1.Tickets.Geometry)) = true then (if (decide (a0.Tickets.High = a1.Tickets.High)) = true then (if (decide (a0.Tickets.Free = a1.Tickets.Free)) = true then (if (decide (a0.Tickets.Top = a1.Tickets.Top)) = true then (if (decide (a0.Dir = a1.Dir)) = true then ((rickyardref01_Ints.f fu a0.Charts a1.Charts).bind fun t22 => some (t22)) else some (false)) else some (false)) else some (false)) else some (false)) else some (false)) else some (false)) : Option Bool).bind fun x14 => some (x14))
theorem rickyardref13_Same.ok (fu : Nat) (w : World) (a0 : S_api_Super) (V0_0 : Value) (R0_0 : Rd (kI .i64) w V0_0 a0.Charts) (a1 : S_api_Super) (V1_0 : Value) (R1_0 : Rd (kI .i64) w V1_0 a1.Charts) (r : Bool) (h : rickyardref13_Same.f fu a0 a1 = some r) :
  Calls Try.prog 74 (([aggV [(sI a0.Epoch), (sI a0.Tickets.Geometry.Blocks), (sI a0.Tickets.Geometry.Slots), (sI a0.Tickets.Geometry.Gens), (sI a0.Tickets.Top), (sI a0.Tickets.High), (sI a0.Tickets.Free), (sI a0.Dir), Seg.cell V0_0 R0_0.one], aggV [(sI a1.Epoch), (sI a1.Tickets.Geometry.Blocks), (sI a1.Tickets.Geometry.Slots), (sI a1.Tickets.Geometry.Gens), (sI a1.Tickets.Top), (sI a1.Tickets.High), (sI a1.Tickets.Free), (sI a1.Dir), Seg.cell V1_0 R1_0.one]] : List Value).toArray) w (fun e w' => ∃ v, e = .returned v ∧ v = .bool r ∧ Gr w w') := by
 unfold rickyardref13_Same.f at h
 have fB : Gr w w := Fr.refl _ _
 refine calls_cw Try.func74 rfl Try.ntmps74 rfl ?_
 refine cw_seq ?_
 refine cw_region ?_
 refine ol_op (opv_box (ss := [(sI a0.Epoch), (sI a0.Tickets.Geometry.Blocks), (sI a0.Tickets.Geometry.Slots), (sI a0.Tickets.Geometry.Gens), (sI a0.Tickets.Top), (sI a0.Tickets.High), (sI a0.Tickets.Free), (sI a0.Dir), Seg.cell V0_0 R0_0.one]) rfl rfl rfl) rfl rfl rfl ?_
 rintro _ w6 ⟨G1, rfl, b2, q3, z4⟩
 have z4 := Nat.le_trans fB.size z4
 have fB := fB.gr q3
 refine ol_op (opv_box (ss := [(sI a1.Epoch), (sI a1.Tickets.Geometry.Blocks), (sI a1.Tickets.Geometry.Slots), (sI a1.Tickets.Geometry.Gens), (sI a1.Tickets.Top), (sI a1.Tickets.High), (sI a1.Tickets.Free), (sI a1.Dir), Seg.cell V1_0 R1_0.one]) rfl rfl rfl) rfl rfl rfl ?_
 rintro _ w12 ⟨G7, rfl, b8, q9, z10⟩
 have n13 := b2.ne z10
 have z10 := Nat.le_trans fB.size z10
 have b2 := b2.gr q9
 have fB := fB.gr q9
 refine ol_val (v := .bool false) (xr_assign rfl rfl) rfl rfl rfl ?_
 refine ol_nil ?_
 refine cw_seq ?_
 obtain ⟨x14, j15, h⟩ := bs h
 refine cw_mid (fun ρ' w' => ρ' 4 = .bool x14 ∧ Gr w12 w') ?_ ?_
 ·skip
  refine cw_region ?_
  refine ol_val (v := (pt G1 0)) (xr_fieldAddr (p := 0) (q := 0) rfl fl110_0 rfl) rfl rfl rfl ?_
  refine ol_val (v := .int .i64 a0.Epoch) (xr_load1 (v := .int .i64 a0.Epoch) rfl ag3 rfl (b2.seg 0 rfl rfl)) rfl rfl rfl ?_
  refine ol_val (v := (pt G7 0)) (xr_fieldAddr (p := 0) (q := 0) rfl fl110_0 rfl) rfl rfl rfl ?_
  refine ol_val (v := .int .i64 a1.Epoch) (xr_load1 (v := .int .i64 a1.Epoch) rfl ag3 rfl (b8.seg 0 rfl rfl)) rfl rfl rfl ?_
  refine ol_val (v := .bool (decide (a0.Epoch = a1.Epoch))) (xr_eqI rfl Try.underlying3 rfl rfl rfl) rfl rfl rfl ?_
  refine ol_val (v := .bool (decide (a0.Epoch = a1.Epoch))) (xr_move rfl rfl) rfl rfl rfl ?_
  rcases is j15 with ⟨c16, j15⟩ | ⟨c16, j15⟩
  ·skip
   refine ol_gval (v := (pt G1 1)) (xr_fieldAddr (p := 0) (q := 1) rfl fl110_1 rfl) rfl rfl rfl rfl rfl c16 ?_
   refine ol_gval (v := (pt G1 1)) (xr_fieldAddr (p := 1) (q := 0) rfl fl108_0 rfl) rfl rfl rfl rfl rfl c16 ?_
   refine ol_gval (v := aggV [(sI a0.Tickets.Geometry.Blocks), (sI a0.Tickets.Geometry.Slots), (sI a0.Tickets.Geometry.Gens)]) (xr_loadS (ss := [(sI a0.Tickets.Geometry.Blocks), (sI a0.Tickets.Geometry.Slots), (sI a0.Tickets.Geometry.Gens)]) rfl ag106 sz106 rfl rfl (b2.segs 1 3 rfl)) rfl rfl rfl rfl rfl c16 ?_
   refine ol_gval (v := (pt G7 1)) (xr_fieldAddr (p := 0) (q := 1) rfl fl110_1 rfl) rfl rfl rfl rfl rfl c16 ?_
   refine ol_gval (v := (pt G7 1)) (xr_fieldAddr (p := 1) (q := 0) rfl fl108_0 rfl) rfl rfl rfl rfl rfl c16 ?_
   refine ol_gval (v := aggV [(sI a1.Tickets.Geometry.Blocks), (sI a1.Tickets.Geometry.Slots), (sI a1.Tickets.Geometry.Gens)]) (xr_loadS (ss := [(sI a1.Tickets.Geometry.Blocks), (sI a1.Tickets.Geometry.Slots), (sI a1.Tickets.Geometry.Gens)]) rfl ag106 sz106 rfl rfl (b8.segs 1 3 rfl)) rfl rfl rfl rfl rfl c16 ?_
   refine ol_gval (v := .bool (decide (a0.Tickets.Geometry = a1.Tickets.Geometry))) (xr_eqA (a := a0.Tickets.Geometry) (b := a1.Tickets.Geometry) rfl eqa106 rfl Try.eqGuardType105 rfl rfl rfl rfl) rfl rfl rfl rfl rfl c16 ?_
   refine ol_val (v := .bool (decide (a0.Tickets.Geometry = a1.Tickets.Geometry))) (xr_pickT rfl rfl c16 rfl) rfl rfl rfl ?_
   refine ol_val (v := .bool (decide (a0.Tickets.Geometry = a1.Tickets.Geometry))) (xr_move rfl rfl) rfl rfl rfl ?_
   rcases is j15 with ⟨c17, j15⟩ | ⟨c17, j15⟩
   ·skip
    refine ol_gval (v := (pt G1 1)) (xr_fieldAddr (p := 0) (q := 1) rfl fl110_1 rfl) rfl rfl rfl rfl rfl c17 ?_
    refine ol_gval (v := (pt G1 5)) (xr_fieldAddr (p := 1) (q := 4) rfl fl108_2 rfl) rfl rfl rfl rfl rfl c17 ?_
    refine ol_gval (v := .int .i64 a0.Tickets.High) (xr_load1 (v := .int .i64 a0.Tickets.High) rfl ag3 rfl (b2.seg 5 rfl rfl)) rfl rfl rfl rfl rfl c17 ?_
    refine ol_gval (v := (pt G7 1)) (xr_fieldAddr (p := 0) (q := 1) rfl fl110_1 rfl) rfl rfl rfl rfl rfl c17 ?_
    refine ol_gval (v := (pt G7 5)) (xr_fieldAddr (p := 1) (q := 4) rfl fl108_2 rfl) rfl rfl rfl rfl rfl c17 ?_
    refine ol_gval (v := .int .i64 a1.Tickets.High) (xr_load1 (v := .int .i64 a1.Tickets.High) rfl ag3 rfl (b8.seg 5 rfl rfl)) rfl rfl rfl rfl rfl c17 ?_
    refine ol_gval (v := .bool (decide (a0.Tickets.High = a1.Tickets.High))) (xr_eqI rfl Try.underlying3 rfl rfl rfl) rfl rfl rfl rfl rfl c17 ?_
    refine ol_val (v := .bool (decide (a0.Tickets.High = a1.Tickets.High))) (xr_pickT rfl rfl c17 rfl) rfl rfl rfl ?_
    refine ol_val (v := .bool (decide (a0.Tickets.High = a1.Tickets.High))) (xr_move rfl rfl) rfl rfl rfl ?_
    rcases is j15 with ⟨c18, j15⟩ | ⟨c18, j15⟩
    ·skip
     refine ol_gval (v := (pt G1 1)) (xr_fieldAddr (p := 0) (q := 1) rfl fl110_1 rfl) rfl rfl rfl rfl rfl c18 ?_
     refine ol_gval (v := (pt G1 6)) (xr_fieldAddr (p := 1) (q := 5) rfl fl108_3 rfl) rfl rfl rfl rfl rfl c18 ?_
     refine ol_gval (v := .int .i64 a0.Tickets.Free) (xr_load1 (v := .int .i64 a0.Tickets.Free) rfl ag3 rfl (b2.seg 6 rfl rfl)) rfl rfl rfl rfl rfl c18 ?_
     refine ol_gval (v := (pt G7 1)) (xr_fieldAddr (p := 0) (q := 1) rfl fl110_1 rfl) rfl rfl rfl rfl rfl c18 ?_
     refine ol_gval (v := (pt G7 6)) (xr_fieldAddr (p := 1) (q := 5) rfl fl108_3 rfl) rfl rfl rfl rfl rfl c18 ?_
     refine ol_gval (v := .int .i64 a1.Tickets.Free) (xr_load1 (v := .int .i64 a1.Tickets.Free) rfl ag3 rfl (b8.seg 6 rfl rfl)) rfl rfl rfl rfl rfl c18 ?_
     refine ol_gval (v := .bool (decide (a0.Tickets.Free = a1.Tickets.Free))) (xr_eqI rfl Try.underlying3 rfl rfl rfl) rfl rfl rfl rfl rfl c18 ?_
     refine ol_val (v := .bool (decide (a0.Tickets.Free = a1.Tickets.Free))) (xr_pickT rfl rfl c18 rfl) rfl rfl rfl ?_
     refine ol_val (v := .bool (decide (a0.Tickets.Free = a1.Tickets.Free))) (xr_move rfl rfl) rfl rfl rfl ?_
     rcases is j15 with ⟨c19, j15⟩ | ⟨c19, j15⟩
     ·skip
      refine ol_gval (v := (pt G1 1)) (xr_fieldAddr (p := 0) (q := 1) rfl fl110_1 rfl) rfl rfl rfl rfl rfl c19 ?_
      refine ol_gval (v := (pt G1 4)) (xr_fieldAddr (p := 1) (q := 3) rfl fl108_1 rfl) rfl rfl rfl rfl rfl c19 ?_
      refine ol_gval (v := .int .i64 a0.Tickets.Top) (xr_load1 (v := .int .i64 a0.Tickets.Top) rfl ag3 rfl (b2.seg 4 rfl rfl)) rfl rfl rfl rfl rfl c19 ?_
      refine ol_gval (v := (pt G7 1)) (xr_fieldAddr (p := 0) (q := 1) rfl fl110_1 rfl) rfl rfl rfl rfl rfl c19 ?_
      refine ol_gval (v := (pt G7 4)) (xr_fieldAddr (p := 1) (q := 3) rfl fl108_1 rfl) rfl rfl rfl rfl rfl c19 ?_
      refine ol_gval (v := .int .i64 a1.Tickets.Top) (xr_load1 (v := .int .i64 a1.Tickets.Top) rfl ag3 rfl (b8.seg 4 rfl rfl)) rfl rfl rfl rfl rfl c19 ?_
      refine ol_gval (v := .bool (decide (a0.Tickets.Top = a1.Tickets.Top))) (xr_eqI rfl Try.underlying3 rfl rfl rfl) rfl rfl rfl rfl rfl c19 ?_
      refine ol_val (v := .bool (decide (a0.Tickets.Top = a1.Tickets.Top))) (xr_pickT rfl rfl c19 rfl) rfl rfl rfl ?_
      refine ol_val (v := .bool (decide (a0.Tickets.Top = a1.Tickets.Top))) (xr_move rfl rfl) rfl rfl rfl ?_
      rcases is j15 with ⟨c20, j15⟩ | ⟨c20, j15⟩
      ·skip
       refine ol_gval (v := (pt G1 7)) (xr_fieldAddr (p := 0) (q := 7) rfl fl110_2 rfl) rfl rfl rfl rfl rfl c20 ?_
       refine ol_gval (v := .int .i64 a0.Dir) (xr_load1 (v := .int .i64 a0.Dir) rfl ag3 rfl (b2.seg 7 rfl rfl)) rfl rfl rfl rfl rfl c20 ?_
       refine ol_gval (v := (pt G7 7)) (xr_fieldAddr (p := 0) (q := 7) rfl fl110_2 rfl) rfl rfl rfl rfl rfl c20 ?_
       refine ol_gval (v := .int .i64 a1.Dir) (xr_load1 (v := .int .i64 a1.Dir) rfl ag3 rfl (b8.seg 7 rfl rfl)) rfl rfl rfl rfl rfl c20 ?_
       refine ol_gval (v := .bool (decide (a0.Dir = a1.Dir))) (xr_eqI rfl Try.underlying3 rfl rfl rfl) rfl rfl rfl rfl rfl c20 ?_
       refine ol_val (v := .bool (decide (a0.Dir = a1.Dir))) (xr_pickT rfl rfl c20 rfl) rfl rfl rfl ?_
       refine ol_val (v := .bool (decide (a0.Dir = a1.Dir))) (xr_move rfl rfl) rfl rfl rfl ?_
       rcases is j15 with ⟨c21, j15⟩ | ⟨c21, j15⟩
       ·skip
        refine ol_gval (v := (pt G1 8)) (xr_fieldAddr (p := 0) (q := 8) rfl fl110_3 rfl) rfl rfl rfl rfl rfl c21 ?_
        refine ol_gval (v := V0_0) (xr_load1 (v := V0_0) rfl ag25 rfl (b2.seg 8 rfl rfl)) rfl rfl rfl rfl rfl c21 ?_
        refine ol_gval (v := (pt G7 8)) (xr_fieldAddr (p := 0) (q := 8) rfl fl110_3 rfl) rfl rfl rfl rfl rfl c21 ?_
        refine ol_gval (v := V1_0) (xr_load1 (v := V1_0) rfl ag25 rfl (b8.seg 8 rfl rfl)) rfl rfl rfl rfl rfl c21 ?_
        obtain ⟨t22, k23, j15⟩ := bs j15
        refine ol_gop (opv_call rfl cal66 (ac rfl (ac rfl an)) (rickyardref01_Ints.ok fu _ a0.Charts V0_0 (R0_0.gr fB) a1.Charts V1_0 (R1_0.gr fB) _ k23)) rfl rfl rfl rfl rfl c21 ?_
        rintro _ w25 ⟨rfl, q24⟩
        have fB := fB.gr q24
        refine ol_val (v := .bool t22) (xr_pickT rfl rfl c21 rfl) rfl rfl rfl ?_
        refine ol_val (v := .bool t22) (xr_assign rfl rfl) rfl rfl rfl ?_
        refine ol_nil ?_
        obtain rfl := Option.some.inj j15
        refine thn_i ?_
        exact ⟨rfl, q24⟩
       refine ol_gskip rfl rfl rfl rfl rfl c21 ?_
       refine ol_gskip rfl rfl rfl rfl rfl c21 ?_
       refine ol_gskip rfl rfl rfl rfl rfl c21 ?_
       refine ol_gskip rfl rfl rfl rfl rfl c21 ?_
       refine ol_gskip rfl rfl rfl rfl rfl c21 ?_
       refine ol_val (v := .bool false) (xr_pickF rfl rfl c21 rfl) rfl rfl rfl ?_
       refine ol_val (v := .bool false) (xr_assign rfl rfl) rfl rfl rfl ?_
       refine ol_nil ?_
       obtain rfl := Option.some.inj j15
       refine thn_i ?_
       exact ⟨rfl, Fr.refl _ _⟩
      refine ol_gskip rfl rfl rfl rfl rfl c20 ?_
      refine ol_gskip rfl rfl rfl rfl rfl c20 ?_
      refine ol_gskip rfl rfl rfl rfl rfl c20 ?_
      refine ol_gskip rfl rfl rfl rfl rfl c20 ?_
      refine ol_gskip rfl rfl rfl rfl rfl c20 ?_
      refine ol_val (v := .bool false) (xr_pickF rfl rfl c20 rfl) rfl rfl rfl ?_
      refine ol_val (v := .bool false) (xr_move rfl rfl) rfl rfl rfl ?_
      refine ol_gskip rfl rfl rfl rfl rfl rfl ?_
      refine ol_gskip rfl rfl rfl rfl rfl rfl ?_
      refine ol_gskip rfl rfl rfl rfl rfl rfl ?_
      refine ol_gskip rfl rfl rfl rfl rfl rfl ?_
      refine ol_gskip rfl rfl rfl rfl rfl rfl ?_
      refine ol_val (v := .bool false) (xr_pickF rfl rfl rfl rfl) rfl rfl rfl ?_
      refine ol_val (v := .bool false) (xr_assign rfl rfl) rfl rfl rfl ?_
      refine ol_nil ?_
      obtain rfl := Option.some.inj j15
      refine thn_i ?_
      exact ⟨rfl, Fr.refl _ _⟩
     refine ol_gskip rfl rfl rfl rfl rfl c19 ?_
     refine ol_gskip rfl rfl rfl rfl rfl c19 ?_
     refine ol_gskip rfl rfl rfl rfl rfl c19 ?_
     refine ol_gskip rfl rfl rfl rfl rfl c19 ?_
     refine ol_gskip rfl rfl rfl rfl rfl c19 ?_
     refine ol_gskip rfl rfl rfl rfl rfl c19 ?_
     refine ol_gskip rfl rfl rfl rfl rfl c19 ?_
     refine ol_val (v := .bool false) (xr_pickF rfl rfl c19 rfl) rfl rfl rfl ?_
     refine ol_val (v := .bool false) (xr_move rfl rfl) rfl rfl rfl ?_
     refine ol_gskip rfl rfl rfl rfl rfl rfl ?_
     refine ol_gskip rfl rfl rfl rfl rfl rfl ?_
     refine ol_gskip rfl rfl rfl rfl rfl rfl ?_
     refine ol_gskip rfl rfl rfl rfl rfl rfl ?_
     refine ol_gskip rfl rfl rfl rfl rfl rfl ?_
     refine ol_val (v := .bool false) (xr_pickF rfl rfl rfl rfl) rfl rfl rfl ?_
     refine ol_val (v := .bool false) (xr_move rfl rfl) rfl rfl rfl ?_
     refine ol_gskip rfl rfl rfl rfl rfl rfl ?_
     refine ol_gskip rfl rfl rfl rfl rfl rfl ?_
     refine ol_gskip rfl rfl rfl rfl rfl rfl ?_
     refine ol_gskip rfl rfl rfl rfl rfl rfl ?_
     refine ol_gskip rfl rfl rfl rfl rfl rfl ?_
     refine ol_val (v := .bool false) (xr_pickF rfl rfl rfl rfl) rfl rfl rfl ?_
     refine ol_val (v := .bool false) (xr_assign rfl rfl) rfl rfl rfl ?_
     refine ol_nil ?_
     obtain rfl := Option.some.inj j15
     refine thn_i ?_
     exact ⟨rfl, Fr.refl _ _⟩
    refine ol_gskip rfl rfl rfl rfl rfl c18 ?_
    refine ol_gskip rfl rfl rfl rfl rfl c18 ?_
    refine ol_gskip rfl rfl rfl rfl rfl c18 ?_
    refine ol_gskip rfl rfl rfl rfl rfl c18 ?_
    refine ol_gskip rfl rfl rfl rfl rfl c18 ?_
    refine ol_gskip rfl rfl rfl rfl rfl c18 ?_
    refine ol_gskip rfl rfl rfl rfl rfl c18 ?_
    refine ol_val (v := .bool false) (xr_pickF rfl rfl c18 rfl) rfl rfl rfl ?_
    refine ol_val (v := .bool false) (xr_move rfl rfl) rfl rfl rfl ?_
    refine ol_gskip rfl rfl rfl rfl rfl rfl ?_
    refine ol_gskip rfl rfl rfl rfl rfl rfl ?_
    refine ol_gskip rfl rfl rfl rfl rfl rfl ?_
    refine ol_gskip rfl rfl rfl rfl rfl rfl ?_
    refine ol_gskip rfl rfl rfl rfl rfl rfl ?_
    refine ol_gskip rfl rfl rfl rfl rfl rfl ?_
    refine ol_gskip rfl rfl rfl rfl rfl rfl ?_
    refine ol_val (v := .bool false) (xr_pickF rfl rfl rfl rfl) rfl rfl rfl ?_
    refine ol_val (v := .bool false) (xr_move rfl rfl) rfl rfl rfl ?_
    refine ol_gskip rfl rfl rfl rfl rfl rfl ?_
    refine ol_gskip rfl rfl rfl rfl rfl rfl ?_
    refine ol_gskip rfl rfl rfl rfl rfl rfl ?_
    refine ol_gskip rfl rfl rfl rfl rfl rfl ?_
    refine ol_gskip rfl rfl rfl rfl rfl rfl ?_
    refine ol_val (v := .bool false) (xr_pickF rfl rfl rfl rfl) rfl rfl rfl ?_
    refine ol_val (v := .bool false) (xr_move rfl rfl) rfl rfl rfl ?_
    refine ol_gskip rfl rfl rfl rfl rfl rfl ?_
    refine ol_gskip rfl rfl rfl rfl rfl rfl ?_
    refine ol_gskip rfl rfl rfl rfl rfl rfl ?_
    refine ol_gskip rfl rfl rfl rfl rfl rfl ?_
    refine ol_gskip rfl rfl rfl rfl rfl rfl ?_
    refine ol_val (v := .bool false) (xr_pickF rfl rfl rfl rfl) rfl rfl rfl ?_
    refine ol_val (v := .bool false) (xr_assign rfl rfl) rfl rfl rfl ?_
    refine ol_nil ?_
    obtain rfl := Option.some.inj j15
    refine thn_i ?_
    exact ⟨rfl, Fr.refl _ _⟩
   refine ol_gskip rfl rfl rfl rfl rfl c17 ?_
   refine ol_gskip rfl rfl rfl rfl rfl c17 ?_
   refine ol_gskip rfl rfl rfl rfl rfl c17 ?_
   refine ol_gskip rfl rfl rfl rfl rfl c17 ?_
   refine ol_gskip rfl rfl rfl rfl rfl c17 ?_
   refine ol_gskip rfl rfl rfl rfl rfl c17 ?_
   refine ol_gskip rfl rfl rfl rfl rfl c17 ?_
   refine ol_val (v := .bool false) (xr_pickF rfl rfl c17 rfl) rfl rfl rfl ?_
   refine ol_val (v := .bool false) (xr_move rfl rfl) rfl rfl rfl ?_
   refine ol_gskip rfl rfl rfl rfl rfl rfl ?_
   refine ol_gskip rfl rfl rfl rfl rfl rfl ?_
   refine ol_gskip rfl rfl rfl rfl rfl rfl ?_
   refine ol_gskip rfl rfl rfl rfl rfl rfl ?_
   refine ol_gskip rfl rfl rfl rfl rfl rfl ?_
   refine ol_gskip rfl rfl rfl rfl rfl rfl ?_
   refine ol_gskip rfl rfl rfl rfl rfl rfl ?_
   refine ol_val (v := .bool false) (xr_pickF rfl rfl rfl rfl) rfl rfl rfl ?_
   refine ol_val (v := .bool false) (xr_move rfl rfl) rfl rfl rfl ?_
   refine ol_gskip rfl rfl rfl rfl rfl rfl ?_
   refine ol_gskip rfl rfl rfl rfl rfl rfl ?_
   refine ol_gskip rfl rfl rfl rfl rfl rfl ?_
   refine ol_gskip rfl rfl rfl rfl rfl rfl ?_
   refine ol_gskip rfl rfl rfl rfl rfl rfl ?_
   refine ol_gskip rfl rfl rfl rfl rfl rfl ?_
   refine ol_gskip rfl rfl rfl rfl rfl rfl ?_
   refine ol_val (v := .bool false) (xr_pickF rfl rfl rfl rfl) rfl rfl rfl ?_
   refine ol_val (v := .bool false) (xr_move rfl rfl) rfl rfl rfl ?_
   refine ol_gskip rfl rfl rfl rfl rfl rfl ?_
   refine ol_gskip rfl rfl rfl rfl rfl rfl ?_
   refine ol_gskip rfl rfl rfl rfl rfl rfl ?_
   refine ol_gskip rfl rfl rfl rfl rfl rfl ?_
   refine ol_gskip rfl rfl rfl rfl rfl rfl ?_
   refine ol_val (v := .bool false) (xr_pickF rfl rfl rfl rfl) rfl rfl rfl ?_
   refine ol_val (v := .bool false) (xr_move rfl rfl) rfl rfl rfl ?_
   refine ol_gskip rfl rfl rfl rfl rfl rfl ?_
   refine ol_gskip rfl rfl rfl rfl rfl rfl ?_
   refine ol_gskip rfl rfl rfl rfl rfl rfl ?_
   refine ol_gskip rfl rfl rfl rfl rfl rfl ?_
   refine ol_gskip rfl rfl rfl rfl rfl rfl ?_
   refine ol_val (v := .bool false) (xr_pickF rfl rfl rfl rfl) rfl rfl rfl ?_
   refine ol_val (v := .bool false) (xr_assign rfl rfl) rfl rfl rfl ?_
   refine ol_nil ?_
   obtain rfl := Option.some.inj j15
   refine thn_i ?_
   exact ⟨rfl, Fr.refl _ _⟩
  refine ol_gskip rfl rfl rfl rfl rfl c16 ?_
  refine ol_gskip rfl rfl rfl rfl rfl c16 ?_
  refine ol_gskip rfl rfl rfl rfl rfl c16 ?_
  refine ol_gskip rfl rfl rfl rfl rfl c16 ?_
  refine ol_gskip rfl rfl rfl rfl rfl c16 ?_
  refine ol_gskip rfl rfl rfl rfl rfl c16 ?_
  refine ol_gskip rfl rfl rfl rfl rfl c16 ?_
  refine ol_val (v := .bool false) (xr_pickF rfl rfl c16 rfl) rfl rfl rfl ?_
  refine ol_val (v := .bool false) (xr_move rfl rfl) rfl rfl rfl ?_
  refine ol_gskip rfl rfl rfl rfl rfl rfl ?_
  refine ol_gskip rfl rfl rfl rfl rfl rfl ?_
  refine ol_gskip rfl rfl rfl rfl rfl rfl ?_
  refine ol_gskip rfl rfl rfl rfl rfl rfl ?_
  refine ol_gskip rfl rfl rfl rfl rfl rfl ?_
  refine ol_gskip rfl rfl rfl rfl rfl rfl ?_
  refine ol_gskip rfl rfl rfl rfl rfl rfl ?_
  refine ol_val (v := .bool false) (xr_pickF rfl rfl rfl rfl) rfl rfl rfl ?_
  refine ol_val (v := .bool false) (xr_move rfl rfl) rfl rfl rfl ?_
  refine ol_gskip rfl rfl rfl rfl rfl rfl ?_
  refine ol_gskip rfl rfl rfl rfl rfl rfl ?_
  refine ol_gskip rfl rfl rfl rfl rfl rfl ?_
  refine ol_gskip rfl rfl rfl rfl rfl rfl ?_
  refine ol_gskip rfl rfl rfl rfl rfl rfl ?_
  refine ol_gskip rfl rfl rfl rfl rfl rfl ?_
  refine ol_gskip rfl rfl rfl rfl rfl rfl ?_
  refine ol_val (v := .bool false) (xr_pickF rfl rfl rfl rfl) rfl rfl rfl ?_
  refine ol_val (v := .bool false) (xr_move rfl rfl) rfl rfl rfl ?_
  refine ol_gskip rfl rfl rfl rfl rfl rfl ?_
  refine ol_gskip rfl rfl rfl rfl rfl rfl ?_
  refine ol_gskip rfl rfl rfl rfl rfl rfl ?_
  refine ol_gskip rfl rfl rfl rfl rfl rfl ?_
  refine ol_gskip rfl rfl rfl rfl rfl rfl ?_
  refine ol_gskip rfl rfl rfl rfl rfl rfl ?_
  refine ol_gskip rfl rfl rfl rfl rfl rfl ?_
  refine ol_val (v := .bool false) (xr_pickF rfl rfl rfl rfl) rfl rfl rfl ?_
  refine ol_val (v := .bool false) (xr_move rfl rfl) rfl rfl rfl ?_
  refine ol_gskip rfl rfl rfl rfl rfl rfl ?_
  refine ol_gskip rfl rfl rfl rfl rfl rfl ?_
  refine ol_gskip rfl rfl rfl rfl rfl rfl ?_
  refine ol_gskip rfl rfl rfl rfl rfl rfl ?_
  refine ol_gskip rfl rfl rfl rfl rfl rfl ?_
  refine ol_val (v := .bool false) (xr_pickF rfl rfl rfl rfl) rfl rfl rfl ?_
  refine ol_val (v := .bool false) (xr_move rfl rfl) rfl rfl rfl ?_
  refine ol_gskip rfl rfl rfl rfl rfl rfl ?_
  refine ol_gskip rfl rfl rfl rfl rfl rfl ?_
  refine ol_gskip rfl rfl rfl rfl rfl rfl ?_
  refine ol_gskip rfl rfl rfl rfl rfl rfl ?_
  refine ol_gskip rfl rfl rfl rfl rfl rfl ?_
  refine ol_val (v := .bool false) (xr_pickF rfl rfl rfl rfl) rfl rfl rfl ?_
  refine ol_val (v := .bool false) (xr_assign rfl rfl) rfl rfl rfl ?_
  refine ol_nil ?_
  obtain rfl := Option.some.inj j15
  refine thn_i ?_
  exact ⟨rfl, Fr.refl _ _⟩
 rintro ρ26 w27 ⟨e4, q28⟩
 have fB := fB.gr q28
 refine cw_ret ?_
 repeat (first | with_reducible refine thn_r ?_ | with_reducible refine blk_r ?_)
 obtain rfl := Option.some.inj h
 refine fin_ret1 Try.results74 e4 ?_
 exact ⟨_, rfl, rfl, fB⟩
def rickyardlaw16_Cut_small.f (fu : Nat) (a0 : S_rickyardlaw16_Cut) : Option Bool := some ((if (decide ((List.length a0.Plan : Int) ≤ 40)) = true then (decide ((List.length a0.L : Int) ≤ 40)) else false))
theorem rickyardlaw16_Cut_small.ok (fu : Nat) (w : World) (a0 : S_rickyardlaw16_Cut) (V0_0 : Value) (R0_0 : Rd (kI .i64) w V0_0 a0.Plan) (V0_1 : Value) (R0_1 : Rd (kI .i64) w V0_1 a0.L) (r : Bool) (h : rickyardlaw16_Cut_small.f fu a0 = some r) :
  Calls Try.prog 80 (([aggV [Seg.cell (.int .u8 a0.Steps), Seg.cell V0_0 R0_0.one, Seg.cell V0_1 R0_1.one]] : List Value).toArray) w (fun e w' => ∃ v, e = .returned v ∧ v = .bool r ∧ Gr w w') := by
 unfold rickyardlaw16_Cut_small.f at h
 have fB : Gr w w := Fr.refl _ _
 refine calls_cw Try.func80 rfl Try.ntmps80 rfl ?_
 refine cw_seq ?_
 refine cw_region ?_
 refine ol_op (opv_box (ss := [Seg.cell (.int .u8 a0.Steps), Seg.cell V0_0 R0_0.one, Seg.cell V0_1 R0_1.one]) rfl rfl rfl) rfl rfl rfl ?_
 rintro _ w6 ⟨G1, rfl, b2, q3, z4⟩
 have z4 := Nat.le_trans fB.size z4
 have fB := fB.gr q3
 refine ol_val (v := .bool false) (xr_assign rfl rfl) rfl rfl rfl ?_
 refine ol_nil ?_
 refine cw_seq ?_
 refine cw_mid (fun ρ' w' => ρ' 2 = .bool (if (decide ((List.length a0.Plan : Int) ≤ 40)) = true then (decide ((List.length a0.L : Int) ≤ 40)) else false) ∧ w6 = w') ?_ ?_
 ·skip
  refine cw_region ?_
  refine ol_val (v := (pt G1 1)) (xr_fieldAddr (p := 0) (q := 1) rfl fl129_1 rfl) rfl rfl rfl ?_
  refine ol_val (v := V0_0) (xr_load1 (v := V0_0) rfl ag25 rfl (b2.seg 1 rfl rfl)) rfl rfl rfl ?_
  refine ol_val (v := .int .i64 (List.length a0.Plan : Int)) (xr_lenR rfl Try.underlying25 rfl (R0_0.gr fB)) rfl rfl rfl ?_
  refine ol_val (v := .bool (decide ((List.length a0.Plan : Int) ≤ 40))) (xr_leq rfl rfl rfl) rfl rfl rfl ?_
  refine ol_val (v := .bool (decide ((List.length a0.Plan : Int) ≤ 40))) (xr_move rfl rfl) rfl rfl rfl ?_
  rcases bt (decide ((List.length a0.Plan : Int) ≤ 40)) with c7 | c7
  ·skip
   refine ol_gval (v := (pt G1 2)) (xr_fieldAddr (p := 0) (q := 2) rfl fl129_2 rfl) rfl rfl rfl rfl rfl c7 ?_
   refine ol_gval (v := V0_1) (xr_load1 (v := V0_1) rfl ag25 rfl (b2.seg 2 rfl rfl)) rfl rfl rfl rfl rfl c7 ?_
   refine ol_gval (v := .int .i64 (List.length a0.L : Int)) (xr_lenR rfl Try.underlying25 rfl (R0_1.gr fB)) rfl rfl rfl rfl rfl c7 ?_
   refine ol_gval (v := .bool (decide ((List.length a0.L : Int) ≤ 40))) (xr_leq rfl rfl rfl) rfl rfl rfl rfl rfl c7 ?_
   refine ol_val (v := .bool (decide ((List.length a0.L : Int) ≤ 40))) (xr_pickT rfl rfl c7 rfl) rfl rfl rfl ?_
   refine ol_val (v := .bool (decide ((List.length a0.L : Int) ≤ 40))) (xr_assign rfl rfl) rfl rfl rfl ?_
   refine ol_nil ?_
   refine thn_i ?_
   exact ⟨(rfl).trans (congrArg (fun z => (.bool z : Value)) (show (decide ((List.length a0.L : Int) ≤ 40)) = (if (decide ((List.length a0.Plan : Int) ≤ 40)) = true then (decide ((List.length a0.L : Int) ≤ 40)) else false) from by rw [ite_t c7])), rfl⟩
  refine ol_gskip rfl rfl rfl rfl rfl c7 ?_
  refine ol_gskip rfl rfl rfl rfl rfl c7 ?_
  refine ol_gskip rfl rfl rfl rfl rfl c7 ?_
  refine ol_gskip rfl rfl rfl rfl rfl c7 ?_
  refine ol_val (v := .bool false) (xr_pickF rfl rfl c7 rfl) rfl rfl rfl ?_
  refine ol_val (v := .bool false) (xr_assign rfl rfl) rfl rfl rfl ?_
  refine ol_nil ?_
  refine thn_i ?_
  exact ⟨(rfl).trans (congrArg (fun z => (.bool z : Value)) (show false = (if (decide ((List.length a0.Plan : Int) ≤ 40)) = true then (decide ((List.length a0.L : Int) ≤ 40)) else false) from by rw [ite_f c7])), rfl⟩
 rintro ρ8 _ ⟨e2, rfl⟩
 refine cw_ret ?_
 repeat (first | with_reducible refine thn_r ?_ | with_reducible refine blk_r ?_)
 obtain rfl := Option.some.inj h
 refine fin_ret1 Try.results80 e2 ?_
 exact ⟨_, rfl, rfl, fB⟩
def rickyardlaw16_RootTorn.f (fu : Nat) (a0 : Arr 128 Int) (a1 : S_api_Super) (a2 : S_rickyardlaw16_Cut) : Option Bool := ((((rickyardlaw16_awake.f fu).bind fun t24 => (if (!t24) = true then some (true) else ((rickyardlaw16_Cut_small.f fu a2).bind fun t29 => (if (!t29) = true then some (true) else (if (decide ((List.length a1.Charts : Int) > 60)) = true then some (true) else ((rickyardref13_Right.f fu a1).bind fun t35 => some ((!t35)))))))) : Option Bool).bind fun x22 => (if x22 = true then ((rickyardlaw16_awake.f fu).bind fun t43 => some (t43)) else ((pmem_From.f fu (Arr.l a0)).bind fun t47 => ((pmem_Device_Plan.f fu t47 a2.Plan).bind fun t66 => ((pmem_Device_Arm.f fu t66 (Int.tmod (IntKind.i64.wrap (Int.tdiv (IntKind.i64.wrap a2.Steps) 2)) 20)).bind fun t82 => ((root_Lay.f fu (⟨t66.cells, (⟨t66.plan.list, t82.plan.at_⟩ : S_pmem_plan), t82.off, t82.armed, t82.left, t82.steps⟩ : S_pmem_Device) (Int.tmod (IntKind.i64.wrap a2.Steps) 2) a1).bind fun t88 => (if (!decide ((decide (t88.1 = 0)) = (decide ((Int.tmod (IntKind.i64.wrap (Int.tdiv (IntKind.i64.wrap a2.Steps) 2)) 20) ≥ 15)))) = true then some (false) else ((pmem_Device_Crash.f fu t88.2 a2.L).bind fun t105 => ((pmem_Device_Image.f fu t105).bind fun t120 => (((if (!decide ((List.length (List.map toB t120) : Int) = 128)) = true then some (true) else (if (0 : Int) ≤ (IntKind.i64.wrap (64 * (IntKind.i64.wrap (1 - (Int.tmod (IntKind.i64.wrap a2.Steps) 2))))) ∧ (IntKind.i64.wrap (64 * (IntKind.i64.wrap (1 - (Int.tmod (IntKind.i64.wrap a2.Steps) 2))))) ≤ (IntKind.i64.wrap (128 - (IntKind.i64.wrap (64 * (Int.tmod (IntKind.i64.wrap a2.Steps) 2))))) ∧ (IntKind.i64.wrap (128 - (IntKind.i64.wrap (64 * (Int.tmod (IntKind.i64.wrap a2.Steps) 2))))) ≤ (List.length (List.map toB t120) : Int) then (if (0 : Int) ≤ (IntKind.i64.wrap (64 * (IntKind.i64.wrap (1 - (Int.tmod (IntKind.i64.wrap a2.Steps) 2))))) ∧ (IntKind.i64.wrap (64 * (IntKind.i64.wrap (1 - (Int.tmod (IntKind.i64.wrap a2.Steps) 2))))) ≤ (IntKind.i64.wrap (128 - (IntKind.i64.wrap (64 * (Int.tmod (IntKind.i64.wrap a2.Steps) 2))))) ∧ (IntKind.i64.wrap (128 - (IntKind.i64.wrap (64 * (Int.tmod (IntKind.i64.wrap a2.Steps) 2))))) ≤ (List.length (List.map toB (Arr.l a0)) : Int) then some ((!decide ((cut (List.map toB t120) (IntKind.i64.wrap (64 * (IntKind.i64.wrap (1 - (Int.tmod (IntKind.i64.wrap a2.Steps) 2))))) (IntKind.i64.wrap (128 - (IntKind.i64.wrap (64 * (Int.tmod (IntKind.i64.wrap a2.Steps) 2)))))) = (cut (List.map toB (Arr.l a0)) (IntKind.i64.wrap (64 * (IntKind.i64.wrap (1 - (Int.tmod (IntKind.i64.wrap a2.Steps) 2))))) (IntKind.i64.wrap (128 - (IntKind.i64.wrap (64 * (Int.tmod (IntKind.i64.wrap a2.Steps) 2))))))))) else none) else none)) : Option Bool).bind fun x127 => (if x127 = true then some (false) else ((root_Read.f fu t105 (Int.tmod (IntKind.i64.wrap a2.Steps) 2)).bind fun t144 => ((rickyardref16_At.f fu (List.map toB (Arr.l a0)) (Int.tmod (IntKind.i64.wrap a2.Steps) 2)).bind fun t161 => (((if (decide (t88.1 = 0)) = true then some (true) else (if t144.2 = true then ((rickyardref13_Same.f fu t144.1 a1).bind fun t185 => some (t185)) else some (false))) : Option Bool).bind fun x181 => (if x181 = true then (((if t144.2 = true then ((rickyardref13_Same.f fu t144.1 a1).bind fun t196 => some (t196)) else some (false)) : Option Bool).bind fun x193 => some (x193)) else (((if (!t144.2) = true then some (true) else (if t161.2 = true then ((rickyardref13_Same.f fu t144.1 t161.1).bind fun t207 => (if t207 = true then some ((decide ((List.map toB t120) = (List.map toB (Arr.l a0))))) else some (false))) else some (false))) : Option Bool).bind fun x203 => some (x203)))))))))))))))))
theorem rickyardlaw16_RootTorn.ok (fu : Nat) (w : World) (a0 : Arr 128 Int) (a1 : S_api_Super) (V1_0 : Value) (R1_0 : Rd (kI .i64) w V1_0 a1.Charts) (a2 : S_rickyardlaw16_Cut) (V2_0 : Value) (R2_0 : Rd (kI .i64) w V2_0 a2.Plan) (V2_1 : Value) (R2_1 : Rd (kI .i64) w V2_1 a2.L) (r : Bool) (h : rickyardlaw16_RootTorn.f fu a0 a1 a2 = some r) :
  Calls Try.prog 22 (([aggV [Kd.seg (kA 128 (kI .u8)) a0], aggV [(sI a1.Epoch), (sI a1.Tickets.Geometry.Blocks), (sI a1.Tickets.Geometry.Slots), (sI a1.Tickets.Geometry.Gens), (sI a1.Tickets.Top), (sI a1.Tickets.High), (sI a1.Tickets.Free), (sI a1.Dir), Seg.cell V1_0 R1_0.one], aggV [Seg.cell (.int .u8 a2.Steps), Seg.cell V2_0 R2_0.one, Seg.cell V2_1 R2_1.one]] : List Value).toArray) w (fun e w' => ∃ v, e = .returned v ∧ v = .bool r ∧ Gr w w') := by
 unfold rickyardlaw16_RootTorn.f at h
 have fB : Gr w w := Fr.refl _ _
 refine calls_cw Try.func22 rfl Try.ntmps22 rfl ?_
 refine cw_seq ?_
 refine cw_region ?_
 refine ol_op (opv_box (ss := [Kd.seg (kA 128 (kI .u8)) a0]) rfl rfl rfl) rfl rfl rfl ?_
 rintro _ w6 ⟨G1, rfl, b2, q3, z4⟩
 have z4 := Nat.le_trans fB.size z4
 have fB := fB.gr q3
 refine ol_op (opv_box (ss := [(sI a1.Epoch), (sI a1.Tickets.Geometry.Blocks), (sI a1.Tickets.Geometry.Slots), (sI a1.Tickets.Geometry.Gens), (sI a1.Tickets.Top), (sI a1.Tickets.High), (sI a1.Tickets.Free), (sI a1.Dir), Seg.cell V1_0 R1_0.one]) rfl rfl rfl) rfl rfl rfl ?_
 rintro _ w12 ⟨G7, rfl, b8, q9, z10⟩
 have n13 := b2.ne z10
 have z10 := Nat.le_trans fB.size z10
 have b2 := b2.gr q9
 have fB := fB.gr q9
 refine ol_op (opv_box (ss := [Seg.cell (.int .u8 a2.Steps), Seg.cell V2_0 R2_0.one, Seg.cell V2_1 R2_1.one]) rfl rfl rfl) rfl rfl rfl ?_
 rintro _ w19 ⟨G14, rfl, b15, q16, z17⟩
 have n20 := b2.ne z17
 have n21 := b8.ne z17
 have z17 := Nat.le_trans fB.size z17
 have b2 := b2.gr q16
 have b8 := b8.gr q16
 have fB := fB.gr q16
 refine ol_val (v := .bool false) (xr_assign rfl rfl) rfl rfl rfl ?_
 refine ol_nil ?_
 refine cw_seq ?_
 refine cw_seq ?_
 obtain ⟨x22, j23, h⟩ := bs h
 refine cw_mid (fun ρ' w' => ρ' 3 = (pt G1 0) ∧ ρ' 4 = (pt G7 0) ∧ ρ' 5 = (pt G14 0) ∧ ρ' 33 = .bool x22 ∧ Gr w19 w') ?_ ?_
 ·skip
  refine cw_region ?_
  obtain ⟨t24, k25, j23⟩ := bs j23
  refine ol_op (opv_call rfl cal69 an (rickyardlaw16_awake.ok fu _ _ k25)) rfl rfl rfl ?_
  rintro _ w27 ⟨rfl, q26⟩
  have b2 := b2.gr q26
  have b8 := b8.gr q26
  have b15 := b15.gr q26
  have fB := fB.gr q26
  refine ol_val (v := .bool (!t24)) (xr_not rfl rfl) rfl rfl rfl ?_
  refine ol_val (v := .bool (!t24)) (xr_move rfl rfl) rfl rfl rfl ?_
  rcases is j23 with ⟨c28, j23⟩ | ⟨c28, j23⟩
  ·skip
   refine ol_gskip rfl rfl rfl rfl rfl c28 ?_
   refine ol_gskip rfl rfl rfl rfl rfl c28 ?_
   refine ol_gskip rfl rfl rfl rfl rfl c28 ?_
   refine ol_val (v := .bool true) (xr_pickT rfl rfl c28 rfl) rfl rfl rfl ?_
   refine ol_val (v := .bool true) (xr_move rfl rfl) rfl rfl rfl ?_
   refine ol_gskip rfl rfl rfl rfl rfl rfl ?_
   refine ol_gskip rfl rfl rfl rfl rfl rfl ?_
   refine ol_gskip rfl rfl rfl rfl rfl rfl ?_
   refine ol_gskip rfl rfl rfl rfl rfl rfl ?_
   refine ol_val (v := .bool true) (xr_pickT rfl rfl rfl rfl) rfl rfl rfl ?_
   refine ol_val (v := .bool true) (xr_move rfl rfl) rfl rfl rfl ?_
   refine ol_gskip rfl rfl rfl rfl rfl rfl ?_
   refine ol_gskip rfl rfl rfl rfl rfl rfl ?_
   refine ol_gskip rfl rfl rfl rfl rfl rfl ?_
   refine ol_val (v := .bool true) (xr_pickT rfl rfl rfl rfl) rfl rfl rfl ?_
   refine ol_nil ?_
   obtain rfl := Option.some.inj j23
   refine thn_i ?_
   exact ⟨rfl, rfl, rfl, rfl, q26⟩
  refine ol_gval (v := aggV [Seg.cell (.int .u8 a2.Steps), Seg.cell V2_0 R2_0.one, Seg.cell V2_1 R2_1.one]) (xr_loadS (ss := [Seg.cell (.int .u8 a2.Steps), Seg.cell V2_0 R2_0.one, Seg.cell V2_1 R2_1.one]) rfl ag129 sz129 rfl rfl (b15.segs 0 3 rfl)) rfl rfl rfl rfl rfl c28 ?_
  obtain ⟨t29, k30, j23⟩ := bs j23
  refine ol_gop (opv_call rfl cal80 (ac rfl an) (rickyardlaw16_Cut_small.ok fu _ a2 V2_0 (R2_0.gr fB) V2_1 (R2_1.gr fB) _ k30)) rfl rfl rfl rfl rfl c28 ?_
  rintro _ w32 ⟨rfl, q31⟩
  have b2 := b2.gr q31
  have b8 := b8.gr q31
  have b15 := b15.gr q31
  have fB := fB.gr q31
  refine ol_gval (v := .bool (!t29)) (xr_not rfl rfl) rfl rfl rfl rfl rfl c28 ?_
  refine ol_val (v := .bool (!t29)) (xr_pickF rfl rfl c28 rfl) rfl rfl rfl ?_
  refine ol_val (v := .bool (!t29)) (xr_move rfl rfl) rfl rfl rfl ?_
  rcases is j23 with ⟨c33, j23⟩ | ⟨c33, j23⟩
  ·skip
   refine ol_gskip rfl rfl rfl rfl rfl c33 ?_
   refine ol_gskip rfl rfl rfl rfl rfl c33 ?_
   refine ol_gskip rfl rfl rfl rfl rfl c33 ?_
   refine ol_gskip rfl rfl rfl rfl rfl c33 ?_
   refine ol_val (v := .bool true) (xr_pickT rfl rfl c33 rfl) rfl rfl rfl ?_
   refine ol_val (v := .bool true) (xr_move rfl rfl) rfl rfl rfl ?_
   refine ol_gskip rfl rfl rfl rfl rfl rfl ?_
   refine ol_gskip rfl rfl rfl rfl rfl rfl ?_
   refine ol_gskip rfl rfl rfl rfl rfl rfl ?_
   refine ol_val (v := .bool true) (xr_pickT rfl rfl rfl rfl) rfl rfl rfl ?_
   refine ol_nil ?_
   obtain rfl := Option.some.inj j23
   refine thn_i ?_
   exact ⟨rfl, rfl, rfl, rfl, (q26.gr q31)⟩
  refine ol_gval (v := (pt G7 8)) (xr_fieldAddr (p := 0) (q := 8) rfl fl110_3 rfl) rfl rfl rfl rfl rfl c33 ?_
  refine ol_gval (v := V1_0) (xr_load1 (v := V1_0) rfl ag25 rfl (b8.seg 8 rfl rfl)) rfl rfl rfl rfl rfl c33 ?_
  refine ol_gval (v := .int .i64 (List.length a1.Charts : Int)) (xr_lenR rfl Try.underlying25 rfl (R1_0.gr fB)) rfl rfl rfl rfl rfl c33 ?_
  refine ol_gval (v := .bool (decide ((List.length a1.Charts : Int) > 60))) (xr_gtr rfl rfl rfl) rfl rfl rfl rfl rfl c33 ?_
  refine ol_val (v := .bool (decide ((List.length a1.Charts : Int) > 60))) (xr_pickF rfl rfl c33 rfl) rfl rfl rfl ?_
  refine ol_val (v := .bool (decide ((List.length a1.Charts : Int) > 60))) (xr_move rfl rfl) rfl rfl rfl ?_
  rcases is j23 with ⟨c34, j23⟩ | ⟨c34, j23⟩
  ·skip
   refine ol_gskip rfl rfl rfl rfl rfl c34 ?_
   refine ol_gskip rfl rfl rfl rfl rfl c34 ?_
   refine ol_gskip rfl rfl rfl rfl rfl c34 ?_
   refine ol_val (v := .bool true) (xr_pickT rfl rfl c34 rfl) rfl rfl rfl ?_
   refine ol_nil ?_
   obtain rfl := Option.some.inj j23
   refine thn_i ?_
   exact ⟨rfl, rfl, rfl, rfl, (q26.gr q31)⟩
  refine ol_gval (v := aggV [(sI a1.Epoch), (sI a1.Tickets.Geometry.Blocks), (sI a1.Tickets.Geometry.Slots), (sI a1.Tickets.Geometry.Gens), (sI a1.Tickets.Top), (sI a1.Tickets.High), (sI a1.Tickets.Free), (sI a1.Dir), Seg.cell V1_0 R1_0.one]) (xr_loadS (ss := [(sI a1.Epoch), (sI a1.Tickets.Geometry.Blocks), (sI a1.Tickets.Geometry.Slots), (sI a1.Tickets.Geometry.Gens), (sI a1.Tickets.Top), (sI a1.Tickets.High), (sI a1.Tickets.Free), (sI a1.Dir), Seg.cell V1_0 R1_0.one]) rfl ag110 sz110 rfl rfl (b8.segs 0 9 rfl)) rfl rfl rfl rfl rfl c34 ?_
  obtain ⟨t35, k36, j23⟩ := bs j23
  refine ol_gop (opv_call rfl cal75 (ac rfl an) (rickyardref13_Right.ok fu _ a1 V1_0 (R1_0.gr fB) _ k36)) rfl rfl rfl rfl rfl c34 ?_
  rintro _ w38 ⟨rfl, q37⟩
  have b2 := b2.gr q37
  have b8 := b8.gr q37
  have b15 := b15.gr q37
  have fB := fB.gr q37
  refine ol_gval (v := .bool (!t35)) (xr_not rfl rfl) rfl rfl rfl rfl rfl c34 ?_
  refine ol_val (v := .bool (!t35)) (xr_pickF rfl rfl c34 rfl) rfl rfl rfl ?_
  refine ol_nil ?_
  obtain rfl := Option.some.inj j23
  refine thn_i ?_
  exact ⟨rfl, rfl, rfl, rfl, ((q26.gr q31).gr q37)⟩
 rintro ρ39 w40 ⟨e3, e4, e5, e33, q41⟩
 have b2 := b2.gr q41
 have b8 := b8.gr q41
 have b15 := b15.gr q41
 have fB := fB.gr q41
 rcases is h with ⟨c42, h⟩ | ⟨c42, h⟩
 ·refine cw_condT e33 c42 ?_
  refine cw_seq ?_
  refine cw_region ?_
  obtain ⟨t43, k44, h⟩ := bs h
  refine ol_op (opv_call rfl cal69 an (rickyardlaw16_awake.ok fu _ _ k44)) rfl rfl rfl ?_
  rintro _ w46 ⟨rfl, q45⟩
  have fB := fB.gr q45
  refine ol_val (v := .bool t43) (xr_assign rfl rfl) rfl rfl rfl ?_
  refine ol_nil ?_
  refine cw_ret ?_
  repeat (first | with_reducible refine thn_r ?_ | with_reducible refine blk_r ?_)
  obtain rfl := Option.some.inj h
  refine fin_ret1 Try.results22 rfl ?_
  exact ⟨_, rfl, rfl, fB⟩
 refine cw_condF e33 c42 ?_
 refine cw_skip ?_
 refine cw_seq ?_
 refine cw_region ?_
 refine ol_val (v := (pt G14 0)) (xr_fieldAddr (p := 0) (q := 0) rfl fl129_0 e5) rfl rfl rfl ?_
 refine ol_val (v := .int .u8 a2.Steps) (xr_load1 (v := .int .u8 a2.Steps) rfl ag5 rfl (b15.seg 0 rfl rfl)) rfl rfl rfl ?_
 refine ol_val (v := .int .i64 (IntKind.i64.wrap a2.Steps)) (xr_conv rfl Try.underlying5 Try.underlying3 rfl) rfl rfl rfl ?_
 refine ol_val (v := .int .i64 (Int.tmod (IntKind.i64.wrap a2.Steps) 2)) (xr_rem rfl rfl rfl (by decide)) rfl rfl rfl ?_
 refine ol_val (v := .int .i64 (Int.tmod (IntKind.i64.wrap a2.Steps) 2)) (xr_assign rfl rfl) rfl rfl rfl ?_
 refine ol_nil ?_
 refine cw_seq ?_
 refine cw_region ?_
 refine ol_val (v := .slice (some ⟨G1, 0, none⟩) 128 128) (xr_sliceArr rfl Try.underlying131 sz5 e3) rfl rfl rfl ?_
 obtain ⟨t47, k48, h⟩ := bs h
 refine ol_op (opv_call rfl cal48 (ac rfl an) (pmem_From.ok fu _ (Arr.l a0) (.slice (some ⟨G1, 0, none⟩) 128 128) (Rd.arr (b2.seg 0 rfl rfl)) _ k48)) rfl rfl rfl ?_
 rintro u49 w52 ⟨_, p50, rfl, q51⟩
 obtain ⟨G53, u57, u60, o58, o61, rfl, z54, b55⟩ := p50
 have o58 := Own.base o58 fB.size
 have o61 := Own.base o61 fB.size
 have n63 := b2.ne z54
 have n64 := b8.ne z54
 have n65 := b15.ne z54
 have z54 := Nat.le_trans fB.size z54
 have b2 := b2.gr q51
 have b8 := b8.gr q51
 have b15 := b15.gr q51
 have fB := fB.gr q51
 refine ol_val (v := (pt G53 0)) (xr_assign rfl rfl) rfl rfl rfl ?_
 refine ol_nil ?_
 refine cw_seq ?_
 refine cw_seq ?_
 refine cw_region ?_
 refine ol_val (v := (pt G53 0)) (xr_move rfl rfl) rfl rfl rfl ?_
 refine ol_val (v := .bool false) (xr_eqP (b := false) rfl Try.underlying30 rfl rfl (by simp) (by simp)) rfl rfl rfl ?_
 refine ol_nil ?_
 refine cw_condF rfl rfl ?_
 refine cw_skip ?_
 refine cw_seq ?_
 refine cw_region ?_
 refine ol_val (v := (pt G53 0)) (xr_move rfl rfl) rfl rfl rfl ?_
 refine ol_val (v := (pt G14 1)) (xr_fieldAddr (p := 0) (q := 1) rfl fl129_1 e5) rfl rfl rfl ?_
 refine ol_val (v := V2_0) (xr_load1 (v := V2_0) rfl ag25 rfl (b15.seg 1 rfl rfl)) rfl rfl rfl ?_
 obtain ⟨t66, k67, h⟩ := bs h
 have f77 := (nb_or n63 (nb_or (nb_off (off_ty b2 o58 (by decide))) (nb_off (off_ty b2 o61 (by decide)))))
 have f78 := (nb_or n64 (nb_or (nb_off (off_ty b8 o58 (by decide))) (nb_off (off_ty b8 o61 (by decide)))))
 have f79 := (nb_or n65 (nb_or (nb_off (off_ty b15 o58 (by decide))) (nb_off (off_ty b15 o61 (by decide)))))
 have c80 : ∀ k, (k = G53 ∨ some k = Value.ownBlock u57 ∨ some k = Value.ownBlock u60) → w.heap.size ≤ k := (cv_or (cv_eq z54) (cv_or (cv_own o58.geO) (cv_own o61.geO)))
 refine ol_op (opv_call rfl cal35 (ac rfl (ac rfl an)) (pmem_Device_Plan.ok fu _ t47 G53 u57 (Own.base o58 (Nat.zero_le _)) u60 (Own.base o61 (Nat.zero_le _)) b55 a2.Plan V2_0 (R2_0.gr fB) (OffR.new R2_0 z54 rfl) (OffRV.call R2_0 o58 rfl) (OffRV.call R2_0 o61 rfl) _ k67)) rfl rfl rfl ?_
 rintro _ w81 ⟨u69, u73, o70, m71, o74, m75, rfl, b55, q68⟩
 have o70 := Own.rebase o70 (fun g hg => (m71 g hg).elim (fun x => Nat.le_trans fB.size x) (c80 g))
 have o74 := Own.rebase o74 (fun g hg => (m75 g hg).elim (fun x => Nat.le_trans fB.size x) (c80 g))
 have b2 := b2.fr q68 f77
 have b8 := b8.fr q68 f78
 have b15 := b15.fr q68 f79
 have fB := fB.call q68 (fun k h => .inl (c80 k h))
 refine ol_nil ?_
 refine cw_seq ?_
 refine cw_region ?_
 refine ol_val (v := (pt G53 0)) (xr_move rfl rfl) rfl rfl rfl ?_
 refine ol_val (v := (pt G14 0)) (xr_fieldAddr (p := 0) (q := 0) rfl fl129_0 e5) rfl rfl rfl ?_
 refine ol_val (v := .int .u8 a2.Steps) (xr_load1 (v := .int .u8 a2.Steps) rfl ag5 rfl (b15.seg 0 rfl rfl)) rfl rfl rfl ?_
 refine ol_val (v := .int .i64 (IntKind.i64.wrap a2.Steps)) (xr_conv rfl Try.underlying5 Try.underlying3 rfl) rfl rfl rfl ?_
 refine ol_val (v := .int .i64 (IntKind.i64.wrap (Int.tdiv (IntKind.i64.wrap a2.Steps) 2))) (xr_quo rfl rfl rfl (by decide)) rfl rfl rfl ?_
 refine ol_val (v := .int .i64 (Int.tmod (IntKind.i64.wrap (Int.tdiv (IntKind.i64.wrap a2.Steps) 2)) 20)) (xr_rem rfl rfl rfl (by decide)) rfl rfl rfl ?_
 obtain ⟨t82, k83, h⟩ := bs h
 have f85 := off_ty b55 o70 (by decide)
 have f86 := off_ty b55 o74 (by decide)
 refine ol_op (opv_call rfl cal38 (ac rfl (ac rfl an)) (pmem_Device_Arm.ok fu _ t66 G53 u69 o70.rd (OffR.own o70 (off_ty b55 o70 (by decide))) u73 o74.rd (OffR.own o74 (off_ty b55 o74 (by decide))) b55 (Int.tmod (IntKind.i64.wrap (Int.tdiv (IntKind.i64.wrap a2.Steps) 2)) 20) _ k83)) rfl rfl rfl ?_
 rintro _ w87 ⟨rfl, b55, q84⟩
 have b2 := b2.wr q84 n63
 have b8 := b8.wr q84 n64
 have b15 := b15.wr q84 n65
 have o70 := o70.wr q84 f85
 have o74 := o74.wr q84 f86
 have fB := fB.wr q84 z54
 refine ol_nil ?_
 refine cw_seq ?_
 refine cw_region ?_
 refine ol_val (v := (pt G53 0)) (xr_move rfl rfl) rfl rfl rfl ?_
 refine ol_val (v := .int .i64 (Int.tmod (IntKind.i64.wrap a2.Steps) 2)) (xr_move rfl rfl) rfl rfl rfl ?_
 refine ol_val (v := aggV [(sI a1.Epoch), (sI a1.Tickets.Geometry.Blocks), (sI a1.Tickets.Geometry.Slots), (sI a1.Tickets.Geometry.Gens), (sI a1.Tickets.Top), (sI a1.Tickets.High), (sI a1.Tickets.Free), (sI a1.Dir), Seg.cell V1_0 R1_0.one]) (xr_loadS (ss := [(sI a1.Epoch), (sI a1.Tickets.Geometry.Blocks), (sI a1.Tickets.Geometry.Slots), (sI a1.Tickets.Geometry.Gens), (sI a1.Tickets.Top), (sI a1.Tickets.High), (sI a1.Tickets.Free), (sI a1.Dir), Seg.cell V1_0 R1_0.one]) rfl ag110 sz110 rfl e4 (b8.segs 0 9 rfl)) rfl rfl rfl ?_
 obtain ⟨t88, k89, h⟩ := bs h
 have f99 := (nb_or n63 (nb_or (nb_off (off_ty b2 o70 (by decide))) (nb_off (off_ty b2 o74 (by decide)))))
 have f100 := (nb_or n64 (nb_or (nb_off (off_ty b8 o70 (by decide))) (nb_off (off_ty b8 o74 (by decide)))))
 have f101 := (nb_or n65 (nb_or (nb_off (off_ty b15 o70 (by decide))) (nb_off (off_ty b15 o74 (by decide)))))
 have c102 : ∀ k, (k = G53 ∨ some k = Value.ownBlock u69 ∨ some k = Value.ownBlock u73) → w.heap.size ≤ k := (cv_or (cv_eq z54) (cv_or (cv_own o70.geO) (cv_own o74.geO)))
 refine ol_op (opv_call rfl cal77 (ac rfl (ac rfl (ac rfl an))) (root_Lay.ok fu _ (⟨t66.cells, (⟨t66.plan.list, t82.plan.at_⟩ : S_pmem_plan), t82.off, t82.armed, t82.left, t82.steps⟩ : S_pmem_Device) G53 u69 (Own.base o70 (Nat.zero_le _)) u73 (Own.base o74 (Nat.zero_le _)) b55 (Int.tmod (IntKind.i64.wrap a2.Steps) 2) a1 V1_0 (R1_0.gr fB) (OffR.new R1_0 z54 rfl) (OffRV.call R1_0 o70 rfl) (OffRV.call R1_0 o74 rfl) _ k89)) rfl rfl rfl ?_
 rintro _ w103 ⟨u91, u95, o92, m93, o96, m97, rfl, b55, q90⟩
 have o92 := Own.rebase o92 (fun g hg => (m93 g hg).elim (fun x => Nat.le_trans fB.size x) (c102 g))
 have o96 := Own.rebase o96 (fun g hg => (m97 g hg).elim (fun x => Nat.le_trans fB.size x) (c102 g))
 have b2 := b2.fr q90 f99
 have b8 := b8.fr q90 f100
 have b15 := b15.fr q90 f101
 have fB := fB.call q90 (fun k h => .inl (c102 k h))
 refine ol_val (v := .int .i64 t88.1) (xr_assign rfl rfl) rfl rfl rfl ?_
 refine ol_nil ?_
 refine cw_seq ?_
 refine cw_seq ?_
 refine cw_region ?_
 refine ol_val (v := .int .i64 t88.1) (xr_move rfl rfl) rfl rfl rfl ?_
 refine ol_val (v := .bool (decide (t88.1 = 0))) (xr_eqI rfl Try.underlying31 rfl rfl rfl) rfl rfl rfl ?_
 refine ol_val (v := (pt G14 0)) (xr_fieldAddr (p := 0) (q := 0) rfl fl129_0 e5) rfl rfl rfl ?_
 refine ol_val (v := .int .u8 a2.Steps) (xr_load1 (v := .int .u8 a2.Steps) rfl ag5 rfl (b15.seg 0 rfl rfl)) rfl rfl rfl ?_
 refine ol_val (v := .int .i64 (IntKind.i64.wrap a2.Steps)) (xr_conv rfl Try.underlying5 Try.underlying3 rfl) rfl rfl rfl ?_
 refine ol_val (v := .int .i64 (IntKind.i64.wrap (Int.tdiv (IntKind.i64.wrap a2.Steps) 2))) (xr_quo rfl rfl rfl (by decide)) rfl rfl rfl ?_
 refine ol_val (v := .int .i64 (Int.tmod (IntKind.i64.wrap (Int.tdiv (IntKind.i64.wrap a2.Steps) 2)) 20)) (xr_rem rfl rfl rfl (by decide)) rfl rfl rfl ?_
 refine ol_val (v := .bool (decide ((Int.tmod (IntKind.i64.wrap (Int.tdiv (IntKind.i64.wrap a2.Steps) 2)) 20) ≥ 15))) (xr_geq rfl rfl rfl) rfl rfl rfl ?_
 refine ol_val (v := .bool (!decide ((decide (t88.1 = 0)) = (decide ((Int.tmod (IntKind.i64.wrap (Int.tdiv (IntKind.i64.wrap a2.Steps) 2)) 20) ≥ 15))))) (xr_neB rfl Try.underlying4 rfl rfl) rfl rfl rfl ?_
 refine ol_nil ?_
 rcases is h with ⟨c104, h⟩ | ⟨c104, h⟩
 ·refine cw_condT rfl c104 ?_
  refine cw_seq ?_
  refine cw_region ?_
  refine ol_val (v := .bool false) (xr_assign rfl rfl) rfl rfl rfl ?_
  refine ol_nil ?_
  refine cw_ret ?_
  repeat (first | with_reducible refine thn_r ?_ | with_reducible refine blk_r ?_)
  obtain rfl := Option.some.inj h
  refine fin_ret1 Try.results22 rfl ?_
  exact ⟨_, rfl, rfl, fB⟩
 refine cw_condF rfl c104 ?_
 refine cw_skip ?_
 refine cw_seq ?_
 refine cw_region ?_
 refine ol_val (v := (pt G53 0)) (xr_move rfl rfl) rfl rfl rfl ?_
 refine ol_val (v := (pt G14 2)) (xr_fieldAddr (p := 0) (q := 2) rfl fl129_2 e5) rfl rfl rfl ?_
 refine ol_val (v := V2_1) (xr_load1 (v := V2_1) rfl ag25 rfl (b15.seg 2 rfl rfl)) rfl rfl rfl ?_
 obtain ⟨t105, k106, h⟩ := bs h
 have f116 := (nb_or n63 (nb_or (nb_off (off_ty b2 o92 (by decide))) (nb_off (off_ty b2 o96 (by decide)))))
 have f117 := (nb_or n64 (nb_or (nb_off (off_ty b8 o92 (by decide))) (nb_off (off_ty b8 o96 (by decide)))))
 have c118 : ∀ k, (k = G53 ∨ some k = Value.ownBlock u91 ∨ some k = Value.ownBlock u95) → w.heap.size ≤ k := (cv_or (cv_eq z54) (cv_or (cv_own o92.geO) (cv_own o96.geO)))
 refine ol_op (opv_call rfl cal32 (ac rfl (ac rfl an)) (pmem_Device_Crash.ok fu _ t88.2 G53 u91 (Own.base o92 (Nat.zero_le _)) u95 (Own.base o96 (Nat.zero_le _)) b55 a2.L V2_1 (R2_1.gr fB) (OffR.new R2_1 z54 rfl) (OffRV.call R2_1 o92 rfl) (OffRV.call R2_1 o96 rfl) _ k106)) rfl rfl rfl ?_
 rintro _ w119 ⟨u108, u112, o109, m110, o113, m114, rfl, b55, q107⟩
 have o109 := Own.rebase o109 (fun g hg => (m110 g hg).elim (fun x => Nat.le_trans fB.size x) (c118 g))
 have o113 := Own.rebase o113 (fun g hg => (m114 g hg).elim (fun x => Nat.le_trans fB.size x) (c118 g))
 have b2 := b2.fr q107 f116
 have b8 := b8.fr q107 f117
 have fB := fB.call q107 (fun k h => .inl (c118 k h))
 refine ol_nil ?_
 refine cw_seq ?_
 refine cw_region ?_
 refine ol_val (v := .slice (some ⟨G1, 0, none⟩) 128 128) (xr_sliceArr rfl Try.underlying131 sz5 e3) rfl rfl rfl ?_
 refine ol_val (v := sv (List.map toB (Arr.l a0))) (xr_toStr rfl Try.underlying43 Try.underlying5 Try.underlying9 rfl (Rd.arr (b2.seg 0 rfl rfl))) rfl rfl rfl ?_
 refine ol_val (v := sv (List.map toB (Arr.l a0))) (xr_assign rfl rfl) rfl rfl rfl ?_
 refine ol_nil ?_
 refine cw_seq ?_
 refine cw_region ?_
 refine ol_val (v := (pt G53 0)) (xr_move rfl rfl) rfl rfl rfl ?_
 obtain ⟨t120, k121, h⟩ := bs h
 refine ol_op (opv_call rfl cal33 (ac rfl an) (pmem_Device_Image.ok fu _ t105 G53 u108 (o109.rd) u112 (o113.rd) b55 _ k121)) rfl rfl rfl ?_
 rintro u122 w126 ⟨_, o123, rfl, q125⟩
 have o123 := Own.base o123 fB.size
 have b8 := b8.gr q125
 have b55 := b55.gr q125
 have o109 := o109.gr q125
 have o113 := o113.gr q125
 have fB := fB.gr q125
 refine ol_val (v := sv (List.map toB t120)) (xr_toStr rfl Try.underlying43 Try.underlying5 Try.underlying9 rfl o123.rd) rfl rfl rfl ?_
 refine ol_val (v := sv (List.map toB t120)) (xr_assign rfl rfl) rfl rfl rfl ?_
 refine ol_nil ?_
 refine cw_seq ?_
 refine cw_seq ?_
 obtain ⟨x127, j128, h⟩ := bs h
 refine cw_mid (fun ρ' w' => ρ' 4 = (pt G7 0) ∧ ρ' 7 = .int .i64 (Int.tmod (IntKind.i64.wrap a2.Steps) 2) ∧ ρ' 8 = (pt G53 0) ∧ ρ' 9 = .int .i64 t88.1 ∧ ρ' 10 = sv (List.map toB (Arr.l a0)) ∧ ρ' 11 = sv (List.map toB t120) ∧ ρ' 97 = .bool x127 ∧ Gr w126 w') ?_ ?_
 ·skip
  refine rd_region mo ?_
  intro w129 q130
  have b8 := b8.gr q130
  have b55 := b55.gr q130
  have o109 := o109.gr q130
  have o113 := o113.gr q130
  have o123 := o123.gr q130
  have fB := fB.gr q130
  refine rd_seq (m := 0) (n := 4) rfl ?_
  refine ol_val (v := sv (List.map toB t120)) (xr_move rfl rfl) rfl rfl rfl ?_
  refine ol_val (v := .int .i64 (List.length (List.map toB t120) : Int)) (xr_lenStr rfl Try.underlying9 rfl) rfl rfl rfl ?_
  refine ol_val (v := .bool (!decide ((List.length (List.map toB t120) : Int) = 128))) (xr_neI rfl Try.underlying3 rfl rfl rfl) rfl rfl rfl ?_
  refine ol_val (v := .bool (!decide ((List.length (List.map toB t120) : Int) = 128))) (xr_move rfl rfl) rfl rfl rfl ?_
  refine ol_nilK ?_
  rcases is j128 with ⟨c131, j128⟩ | ⟨c131, j128⟩
  ·skip
   refine rd_drawL 4 20 [fun vz _ => vz = undef, fun vz _ => vz = undef, fun vz _ => vz = undef, fun vz _ => vz = undef, fun vz _ => vz = undef, fun vz _ => vz = undef, fun vz _ => vz = undef, fun vz _ => vz = undef, fun vz _ => vz = undef, fun vz _ => vz = undef, fun vz _ => vz = undef, fun vz _ => vz = undef, fun vz _ => vz = undef, fun vz _ => vz = undef, fun vz _ => vz = undef, fun vz _ => vz = undef] rfl ⟨fun _ _ _ h _ => h, fun _ _ _ h _ => h, fun _ _ _ h _ => h, fun _ _ _ h _ => h, fun _ _ _ h _ => h, fun _ _ _ h _ => h, fun _ _ _ h _ => h, fun _ _ _ h _ => h, fun _ _ _ h _ => h, fun _ _ _ h _ => h, fun _ _ _ h _ => h, fun _ _ _ h _ => h, fun _ _ _ h _ => h, fun _ _ _ h _ => h, fun _ _ _ h _ => h, fun _ _ _ h _ => h, trivial⟩ ?_ ?_
   ·refine ⟨?_, ?_, ?_, ?_, ?_, ?_, ?_, ?_, ?_, ?_, ?_, ?_, ?_, ?_, ?_, ?_, trivial⟩
    ·intro ρz wz hz hk hd
     exact sk_skip rfl rfl ((hk 79 rfl).trans rfl) c131 rfl
    ·intro ρz wz hz hk hd
     exact sk_skip rfl rfl ((hk 79 rfl).trans rfl) c131 rfl
    ·intro ρz wz hz hk hd
     exact sk_skip rfl rfl ((hk 79 rfl).trans rfl) c131 rfl
    ·intro ρz wz hz hk hd
     exact sk_skip rfl rfl ((hk 79 rfl).trans rfl) c131 rfl
    ·intro ρz wz hz hk hd
     exact sk_skip rfl rfl ((hk 79 rfl).trans rfl) c131 rfl
    ·intro ρz wz hz hk hd
     exact sk_skip rfl rfl ((hk 79 rfl).trans rfl) c131 rfl
    ·intro ρz wz hz hk hd
     exact sk_skip rfl rfl ((hk 79 rfl).trans rfl) c131 rfl
    ·intro ρz wz hz hk hd
     exact sk_skip rfl rfl ((hk 79 rfl).trans rfl) c131 rfl
    ·intro ρz wz hz hk hd
     exact sk_skip rfl rfl ((hk 79 rfl).trans rfl) c131 rfl
    ·intro ρz wz hz hk hd
     exact sk_skip rfl rfl ((hk 79 rfl).trans rfl) c131 rfl
    ·intro ρz wz hz hk hd
     exact sk_skip rfl rfl ((hk 79 rfl).trans rfl) c131 rfl
    ·intro ρz wz hz hk hd
     exact sk_skip rfl rfl ((hk 79 rfl).trans rfl) c131 rfl
    ·intro ρz wz hz hk hd
     exact sk_skip rfl rfl ((hk 79 rfl).trans rfl) c131 rfl
    ·intro ρz wz hz hk hd
     exact sk_skip rfl rfl ((hk 79 rfl).trans rfl) c131 rfl
    ·intro ρz wz hz hk hd
     exact sk_skip rfl rfl ((hk 79 rfl).trans rfl) c131 rfl
    intro ρz wz hz hk hd
    exact sk_skip rfl rfl ((hk 79 rfl).trans rfl) c131 rfl
   intro ρ132 w133 q134 hk hd
   have e4 := (hk 4 rfl).trans e4
   have e7 := (hk 7 rfl).trans rfl
   have e8 := (hk 8 rfl).trans rfl
   have e9 := (hk 9 rfl).trans rfl
   have e10 := (hk 10 rfl).trans rfl
   have e11 := (hk 11 rfl).trans rfl
   have e79 := (hk 79 rfl).trans rfl
   have e87 := hd 11 rfl rfl 87 rfl
   have e95 := hd 19 rfl rfl 95 rfl
   have b8 := b8.gr q134
   have b55 := b55.gr q134
   have o109 := o109.gr q134
   have o113 := o113.gr q134
   have fB := fB.gr q134
   refine rd_seq (m := 20) (n := 22) rfl ?_
   refine ol_gskip rfl rfl rfl rfl e79 c131 ?_
   refine ol_val (v := .bool true) (xr_pickT rfl e79 c131 rfl) rfl rfl rfl ?_
   refine ol_nilK ?_
   refine rd_end rfl ?_
   obtain rfl := Option.some.inj j128
   refine thn_i ?_
   exact ⟨e4, e7, e8, e9, e10, e11, rfl, (q130.gr q134)⟩
  obtain ⟨g135, j128⟩ := gs j128
  obtain ⟨g136, j128⟩ := gs j128
  refine rd_drawL 4 20 [fun vz wz => vz = (sv (List.map toB t120) : Value), fun vz wz => vz = (.int .i64 (Int.tmod (IntKind.i64.wrap a2.Steps) 2) : Value), fun vz wz => vz = (.int .i64 (IntKind.i64.wrap (1 - (Int.tmod (IntKind.i64.wrap a2.Steps) 2))) : Value), fun vz wz => vz = (.int .i64 (IntKind.i64.wrap (64 * (IntKind.i64.wrap (1 - (Int.tmod (IntKind.i64.wrap a2.Steps) 2))))) : Value), fun vz wz => vz = (.int .i64 (Int.tmod (IntKind.i64.wrap a2.Steps) 2) : Value), fun vz wz => vz = (.int .i64 (IntKind.i64.wrap (64 * (Int.tmod (IntKind.i64.wrap a2.Steps) 2))) : Value), fun vz wz => vz = (.int .i64 (IntKind.i64.wrap (128 - (IntKind.i64.wrap (64 * (Int.tmod (IntKind.i64.wrap a2.Steps) 2))))) : Value), fun vz wz => vz = (sv (cut (List.map toB t120) (IntKind.i64.wrap (64 * (IntKind.i64.wrap (1 - (Int.tmod (IntKind.i64.wrap a2.Steps) 2))))) (IntKind.i64.wrap (128 - (IntKind.i64.wrap (64 * (Int.tmod (IntKind.i64.wrap a2.Steps) 2)))))) : Value), fun vz wz => vz = (sv (List.map toB (Arr.l a0)) : Value), fun vz wz => vz = (.int .i64 (Int.tmod (IntKind.i64.wrap a2.Steps) 2) : Value), fun vz wz => vz = (.int .i64 (IntKind.i64.wrap (1 - (Int.tmod (IntKind.i64.wrap a2.Steps) 2))) : Value), fun vz wz => vz = (.int .i64 (IntKind.i64.wrap (64 * (IntKind.i64.wrap (1 - (Int.tmod (IntKind.i64.wrap a2.Steps) 2))))) : Value), fun vz wz => vz = (.int .i64 (Int.tmod (IntKind.i64.wrap a2.Steps) 2) : Value), fun vz wz => vz = (.int .i64 (IntKind.i64.wrap (64 * (Int.tmod (IntKind.i64.wrap a2.Steps) 2))) : Value), fun vz wz => vz = (.int .i64 (IntKind.i64.wrap (128 - (IntKind.i64.wrap (64 * (Int.tmod (IntKind.i64.wrap a2.Steps) 2))))) : Value), fun vz wz => vz = (sv (cut (List.map toB (Arr.l a0)) (IntKind.i64.wrap (64 * (IntKind.i64.wrap (1 - (Int.tmod (IntKind.i64.wrap a2.Steps) 2))))) (IntKind.i64.wrap (128 - (IntKind.i64.wrap (64 * (Int.tmod (IntKind.i64.wrap a2.Steps) 2)))))) : Value)] rfl ⟨fun _ _ _ h _ => h, fun _ _ _ h _ => h, fun _ _ _ h _ => h, fun _ _ _ h _ => h, fun _ _ _ h _ => h, fun _ _ _ h _ => h, fun _ _ _ h _ => h, fun _ _ _ h _ => h, fun _ _ _ h _ => h, fun _ _ _ h _ => h, fun _ _ _ h _ => h, fun _ _ _ h _ => h, fun _ _ _ h _ => h, fun _ _ _ h _ => h, fun _ _ _ h _ => h, fun _ _ _ h _ => h, trivial⟩ ?_ ?_
  ·refine ⟨?_, ?_, ?_, ?_, ?_, ?_, ?_, ?_, ?_, ?_, ?_, ?_, ?_, ?_, ?_, ?_, trivial⟩
   ·intro ρz wz hz hk hd
    exact sk_gval (v := sv (List.map toB t120)) (xr_move rfl ((hk 11 rfl).trans rfl)) rfl rfl ((hk 79 rfl).trans rfl) c131 rfl
   ·intro ρz wz hz hk hd
    exact sk_gval (v := .int .i64 (Int.tmod (IntKind.i64.wrap a2.Steps) 2)) (xr_move rfl ((hk 7 rfl).trans rfl)) rfl rfl ((hk 79 rfl).trans rfl) c131 rfl
   ·intro ρz wz hz hk hd
    exact sk_gval (xr_sub rfl rfl (hd 5 rfl rfl 81 rfl)) rfl rfl ((hk 79 rfl).trans rfl) c131 rfl
   ·intro ρz wz hz hk hd
    exact sk_gval (xr_mul rfl rfl (hd 6 rfl rfl 82 rfl)) rfl rfl ((hk 79 rfl).trans rfl) c131 rfl
   ·intro ρz wz hz hk hd
    exact sk_gval (v := .int .i64 (Int.tmod (IntKind.i64.wrap a2.Steps) 2)) (xr_move rfl ((hk 7 rfl).trans rfl)) rfl rfl ((hk 79 rfl).trans rfl) c131 rfl
   ·intro ρz wz hz hk hd
    exact sk_gval (xr_mul rfl rfl (hd 8 rfl rfl 84 rfl)) rfl rfl ((hk 79 rfl).trans rfl) c131 rfl
   ·intro ρz wz hz hk hd
    exact sk_gval (xr_sub rfl rfl (hd 9 rfl rfl 85 rfl)) rfl rfl ((hk 79 rfl).trans rfl) c131 rfl
   ·intro ρz wz hz hk hd
    exact sk_gval (xr_str_lh rfl Try.underlying9 (hd 4 rfl rfl 80 rfl) (hd 7 rfl rfl 83 rfl) (hd 10 rfl rfl 86 rfl) g135.1 g135.2.1 g135.2.2) rfl rfl ((hk 79 rfl).trans rfl) c131 rfl
   ·intro ρz wz hz hk hd
    exact sk_gval (v := sv (List.map toB (Arr.l a0))) (xr_move rfl ((hk 10 rfl).trans rfl)) rfl rfl ((hk 79 rfl).trans rfl) c131 rfl
   ·intro ρz wz hz hk hd
    exact sk_gval (v := .int .i64 (Int.tmod (IntKind.i64.wrap a2.Steps) 2)) (xr_move rfl ((hk 7 rfl).trans rfl)) rfl rfl ((hk 79 rfl).trans rfl) c131 rfl
   ·intro ρz wz hz hk hd
    exact sk_gval (xr_sub rfl rfl (hd 13 rfl rfl 89 rfl)) rfl rfl ((hk 79 rfl).trans rfl) c131 rfl
   ·intro ρz wz hz hk hd
    exact sk_gval (xr_mul rfl rfl (hd 14 rfl rfl 90 rfl)) rfl rfl ((hk 79 rfl).trans rfl) c131 rfl
   ·intro ρz wz hz hk hd
    exact sk_gval (v := .int .i64 (Int.tmod (IntKind.i64.wrap a2.Steps) 2)) (xr_move rfl ((hk 7 rfl).trans rfl)) rfl rfl ((hk 79 rfl).trans rfl) c131 rfl
   ·intro ρz wz hz hk hd
    exact sk_gval (xr_mul rfl rfl (hd 16 rfl rfl 92 rfl)) rfl rfl ((hk 79 rfl).trans rfl) c131 rfl
   ·intro ρz wz hz hk hd
    exact sk_gval (xr_sub rfl rfl (hd 17 rfl rfl 93 rfl)) rfl rfl ((hk 79 rfl).trans rfl) c131 rfl
   intro ρz wz hz hk hd
   exact sk_gval (xr_str_lh rfl Try.underlying9 (hd 12 rfl rfl 88 rfl) (hd 15 rfl rfl 91 rfl) (hd 18 rfl rfl 94 rfl) g136.1 g136.2.1 g136.2.2) rfl rfl ((hk 79 rfl).trans rfl) c131 rfl
  intro ρ137 w138 q139 hk hd
  have e4 := (hk 4 rfl).trans e4
  have e7 := (hk 7 rfl).trans rfl
  have e8 := (hk 8 rfl).trans rfl
  have e9 := (hk 9 rfl).trans rfl
  have e10 := (hk 10 rfl).trans rfl
  have e11 := (hk 11 rfl).trans rfl
  have e79 := (hk 79 rfl).trans rfl
  have e87 := hd 11 rfl rfl 87 rfl
  have e95 := hd 19 rfl rfl 95 rfl
  have b8 := b8.gr q139
  have b55 := b55.gr q139
  have o109 := o109.gr q139
  have o113 := o113.gr q139
  have fB := fB.gr q139
  refine rd_seq (m := 20) (n := 22) rfl ?_
  refine ol_gval (v := .bool (!decide ((cut (List.map toB t120) (IntKind.i64.wrap (64 * (IntKind.i64.wrap (1 - (Int.tmod (IntKind.i64.wrap a2.Steps) 2))))) (IntKind.i64.wrap (128 - (IntKind.i64.wrap (64 * (Int.tmod (IntKind.i64.wrap a2.Steps) 2)))))) = (cut (List.map toB (Arr.l a0)) (IntKind.i64.wrap (64 * (IntKind.i64.wrap (1 - (Int.tmod (IntKind.i64.wrap a2.Steps) 2))))) (IntKind.i64.wrap (128 - (IntKind.i64.wrap (64 * (Int.tmod (IntKind.i64.wrap a2.Steps) 2))))))))) (xr_neStr rfl Try.underlying9 e87 e95) rfl rfl rfl rfl e79 c131 ?_
  refine ol_val (v := .bool (!decide ((cut (List.map toB t120) (IntKind.i64.wrap (64 * (IntKind.i64.wrap (1 - (Int.tmod (IntKind.i64.wrap a2.Steps) 2))))) (IntKind.i64.wrap (128 - (IntKind.i64.wrap (64 * (Int.tmod (IntKind.i64.wrap a2.Steps) 2)))))) = (cut (List.map toB (Arr.l a0)) (IntKind.i64.wrap (64 * (IntKind.i64.wrap (1 - (Int.tmod (IntKind.i64.wrap a2.Steps) 2))))) (IntKind.i64.wrap (128 - (IntKind.i64.wrap (64 * (Int.tmod (IntKind.i64.wrap a2.Steps) 2))))))))) (xr_pickF rfl e79 c131 rfl) rfl rfl rfl ?_
  refine ol_nilK ?_
  refine rd_end rfl ?_
  obtain rfl := Option.some.inj j128
  refine thn_i ?_
  exact ⟨e4, e7, e8, e9, e10, e11, rfl, (q130.gr q139)⟩
 rintro ρ140 w141 ⟨e4, e7, e8, e9, e10, e11, e97, q142⟩
 have b8 := b8.gr q142
 have b55 := b55.gr q142
 have o109 := o109.gr q142
 have o113 := o113.gr q142
 have fB := fB.gr q142
 rcases is h with ⟨c143, h⟩ | ⟨c143, h⟩
 ·refine cw_condT e97 c143 ?_
  refine cw_seq ?_
  refine cw_region ?_
  refine ol_val (v := .bool false) (xr_assign rfl rfl) rfl rfl rfl ?_
  refine ol_nil ?_
  refine cw_ret ?_
  repeat (first | with_reducible refine thn_r ?_ | with_reducible refine blk_r ?_)
  obtain rfl := Option.some.inj h
  refine fin_ret1 Try.results22 rfl ?_
  exact ⟨_, rfl, rfl, fB⟩
 refine cw_condF e97 c143 ?_
 refine cw_skip ?_
 refine cw_seq ?_
 refine cw_region ?_
 refine ol_val (v := (pt G53 0)) (xr_move rfl e8) rfl rfl rfl ?_
 refine ol_val (v := .int .i64 (Int.tmod (IntKind.i64.wrap a2.Steps) 2)) (xr_move rfl e7) rfl rfl rfl ?_
 obtain ⟨t144, k145, h⟩ := bs h
 refine ol_op (opv_call rfl cal70 (ac rfl (ac rfl an)) (root_Read.ok fu _ t105 G53 u108 (o109.rd) u112 (o113.rd) b55 (Int.tmod (IntKind.i64.wrap a2.Steps) 2) _ k145)) rfl rfl rfl ?_
 rintro _ w150 ⟨u146, o147, rfl, q149⟩
 have o147 := Own.base o147 fB.size
 have b8 := b8.gr q149
 have fB := fB.gr q149
 refine ol_val (v := .tuple #[aggV [(sI t144.1.Epoch), (sI t144.1.Tickets.Geometry.Blocks), (sI t144.1.Tickets.Geometry.Slots), (sI t144.1.Tickets.Geometry.Gens), (sI t144.1.Tickets.Top), (sI t144.1.Tickets.High), (sI t144.1.Tickets.Free), (sI t144.1.Dir), Seg.cell u146 o147.one], .bool t144.2]) (xr_move rfl rfl) rfl rfl rfl ?_
 refine ol_val (v := aggV [(sI t144.1.Epoch), (sI t144.1.Tickets.Geometry.Blocks), (sI t144.1.Tickets.Geometry.Slots), (sI t144.1.Tickets.Geometry.Gens), (sI t144.1.Tickets.Top), (sI t144.1.Tickets.High), (sI t144.1.Tickets.Free), (sI t144.1.Dir), Seg.cell u146 o147.one]) (xr_extract rfl rfl rfl) rfl rfl rfl ?_
 refine ol_val (v := .bool t144.2) (xr_extract rfl rfl rfl) rfl rfl rfl ?_
 refine ol_op (opv_alloc (ss := [(sI (0 : Int)), (sI (0 : Int)), (sI (0 : Int)), (sI (0 : Int)), (sI (0 : Int)), (sI (0 : Int)), (sI (0 : Int)), (sI (0 : Int)), Seg.cell (.slice none 0 0) (by rfl)]) rfl ze110 rfl) rfl rfl rfl ?_
 rintro _ w156 ⟨G151, rfl, b152, q153, z154⟩
 have n157 := b8.ne z154
 have z154 := Nat.le_trans fB.size z154
 have b8 := b8.gr q153
 have o147 := o147.gr q153
 have fB := fB.gr q153
 have f159 := off_ty b152 o147 (by decide)
 refine ol_op0 (opv_store (ss' := [(sI t144.1.Epoch), (sI t144.1.Tickets.Geometry.Blocks), (sI t144.1.Tickets.Geometry.Slots), (sI t144.1.Tickets.Geometry.Gens), (sI t144.1.Tickets.Top), (sI t144.1.Tickets.High), (sI t144.1.Tickets.Free), (sI t144.1.Dir), Seg.cell u146 o147.one]) (xs := cellsOf [(sI t144.1.Epoch), (sI t144.1.Tickets.Geometry.Blocks), (sI t144.1.Tickets.Geometry.Slots), (sI t144.1.Tickets.Geometry.Gens), (sI t144.1.Tickets.Top), (sI t144.1.Tickets.High), (sI t144.1.Tickets.Free), (sI t144.1.Dir), Seg.cell u146 o147.one]) rfl sz110 rfl rfl rfl (len_cellsOf _) (one_cellsOf _) b152 (Spl.segs _ 0 9 [(sI t144.1.Epoch), (sI t144.1.Tickets.Geometry.Blocks), (sI t144.1.Tickets.Geometry.Slots), (sI t144.1.Tickets.Geometry.Gens), (sI t144.1.Tickets.Top), (sI t144.1.Tickets.High), (sI t144.1.Tickets.Free), (sI t144.1.Dir), Seg.cell u146 o147.one] rfl rfl)) rfl rfl ?_
 rintro _ w160 ⟨b152, q158⟩
 have b8 := b8.wr q158 n157
 have o147 := o147.wr q158 f159
 have fB := fB.wr q158 z154
 refine ol_val (v := .bool t144.2) (xr_assign rfl rfl) rfl rfl rfl ?_
 refine ol_nil ?_
 refine cw_seq ?_
 refine cw_region ?_
 refine ol_val (v := sv (List.map toB (Arr.l a0))) (xr_move rfl e10) rfl rfl rfl ?_
 refine ol_val (v := .int .i64 (Int.tmod (IntKind.i64.wrap a2.Steps) 2)) (xr_move rfl e7) rfl rfl rfl ?_
 obtain ⟨t161, k162, h⟩ := bs h
 refine ol_op (opv_call rfl cal71 (ac rfl (ac rfl an)) (rickyardref16_At.ok fu _ (List.map toB (Arr.l a0)) (Int.tmod (IntKind.i64.wrap a2.Steps) 2) _ k162)) rfl rfl rfl ?_
 rintro _ w167 ⟨u163, o164, rfl, q166⟩
 have a168 := OffV.call o147 o164
 have o164 := Own.base o164 fB.size
 have b8 := b8.gr q166
 have b152 := b152.gr q166
 have o147 := o147.gr q166
 have fB := fB.gr q166
 refine ol_val (v := .tuple #[aggV [(sI t161.1.Epoch), (sI t161.1.Tickets.Geometry.Blocks), (sI t161.1.Tickets.Geometry.Slots), (sI t161.1.Tickets.Geometry.Gens), (sI t161.1.Tickets.Top), (sI t161.1.Tickets.High), (sI t161.1.Tickets.Free), (sI t161.1.Dir), Seg.cell u163 o164.one], .bool t161.2]) (xr_move rfl rfl) rfl rfl rfl ?_
 refine ol_val (v := aggV [(sI t161.1.Epoch), (sI t161.1.Tickets.Geometry.Blocks), (sI t161.1.Tickets.Geometry.Slots), (sI t161.1.Tickets.Geometry.Gens), (sI t161.1.Tickets.Top), (sI t161.1.Tickets.High), (sI t161.1.Tickets.Free), (sI t161.1.Dir), Seg.cell u163 o164.one]) (xr_extract rfl rfl rfl) rfl rfl rfl ?_
 refine ol_val (v := .bool t161.2) (xr_extract rfl rfl rfl) rfl rfl rfl ?_
 refine ol_op (opv_alloc (ss := [(sI (0 : Int)), (sI (0 : Int)), (sI (0 : Int)), (sI (0 : Int)), (sI (0 : Int)), (sI (0 : Int)), (sI (0 : Int)), (sI (0 : Int)), Seg.cell (.slice none 0 0) (by rfl)]) rfl ze110 rfl) rfl rfl rfl ?_
 rintro _ w174 ⟨G169, rfl, b170, q171, z172⟩
 have n175 := b8.ne z172
 have n176 := b152.ne z172
 have z172 := Nat.le_trans fB.size z172
 have b8 := b8.gr q171
 have b152 := b152.gr q171
 have o147 := o147.gr q171
 have o164 := o164.gr q171
 have fB := fB.gr q171
 have f178 := off_ty b170 o147 (by decide)
 have f179 := off_ty b170 o164 (by decide)
 refine ol_op0 (opv_store (ss' := [(sI t161.1.Epoch), (sI t161.1.Tickets.Geometry.Blocks), (sI t161.1.Tickets.Geometry.Slots), (sI t161.1.Tickets.Geometry.Gens), (sI t161.1.Tickets.Top), (sI t161.1.Tickets.High), (sI t161.1.Tickets.Free), (sI t161.1.Dir), Seg.cell u163 o164.one]) (xs := cellsOf [(sI t161.1.Epoch), (sI t161.1.Tickets.Geometry.Blocks), (sI t161.1.Tickets.Geometry.Slots), (sI t161.1.Tickets.Geometry.Gens), (sI t161.1.Tickets.Top), (sI t161.1.Tickets.High), (sI t161.1.Tickets.Free), (sI t161.1.Dir), Seg.cell u163 o164.one]) rfl sz110 rfl rfl rfl (len_cellsOf _) (one_cellsOf _) b170 (Spl.segs _ 0 9 [(sI t161.1.Epoch), (sI t161.1.Tickets.Geometry.Blocks), (sI t161.1.Tickets.Geometry.Slots), (sI t161.1.Tickets.Geometry.Gens), (sI t161.1.Tickets.Top), (sI t161.1.Tickets.High), (sI t161.1.Tickets.Free), (sI t161.1.Dir), Seg.cell u163 o164.one] rfl rfl)) rfl rfl ?_
 rintro _ w180 ⟨b170, q177⟩
 have b8 := b8.wr q177 n175
 have b152 := b152.wr q177 n176
 have o147 := o147.wr q177 f178
 have o164 := o164.wr q177 f179
 have fB := fB.wr q177 z172
 refine ol_val (v := .bool t161.2) (xr_assign rfl rfl) rfl rfl rfl ?_
 refine ol_nil ?_
 refine cw_seq ?_
 refine cw_seq ?_
 obtain ⟨x181, j182, h⟩ := bs h
 refine cw_mid (fun ρ' w' => ρ' 4 = (pt G7 0) ∧ ρ' 10 = sv (List.map toB (Arr.l a0)) ∧ ρ' 11 = sv (List.map toB t120) ∧ ρ' 12 = (pt G151 0) ∧ ρ' 13 = .bool t144.2 ∧ ρ' 14 = (pt G169 0) ∧ ρ' 15 = .bool t161.2 ∧ ρ' 119 = .bool x181 ∧ Gr w180 w') ?_ ?_
 ·skip
  refine cw_region ?_
  refine ol_val (v := .int .i64 t88.1) (xr_move rfl e9) rfl rfl rfl ?_
  refine ol_val (v := .bool (decide (t88.1 = 0))) (xr_eqI rfl Try.underlying31 rfl rfl rfl) rfl rfl rfl ?_
  refine ol_val (v := .bool (decide (t88.1 = 0))) (xr_move rfl rfl) rfl rfl rfl ?_
  rcases is j182 with ⟨c183, j182⟩ | ⟨c183, j182⟩
  ·skip
   refine ol_gskip rfl rfl rfl rfl rfl c183 ?_
   refine ol_gskip rfl rfl rfl rfl rfl c183 ?_
   refine ol_uskip rfl rfl rfl rfl rfl ?_
   refine ol_uskip rfl rfl rfl rfl rfl ?_
   refine ol_uskip rfl rfl rfl rfl rfl ?_
   refine ol_gskip rfl rfl rfl rfl rfl c183 ?_
   refine ol_val (v := .bool true) (xr_pickT rfl rfl c183 rfl) rfl rfl rfl ?_
   refine ol_nil ?_
   obtain rfl := Option.some.inj j182
   refine thn_i ?_
   exact ⟨e4, e10, e11, rfl, rfl, rfl, rfl, rfl, Fr.refl _ _⟩
  refine ol_gval (v := .bool t144.2) (xr_move rfl rfl) rfl rfl rfl rfl rfl c183 ?_
  refine ol_gval (v := .bool t144.2) (xr_move rfl rfl) rfl rfl rfl rfl rfl c183 ?_
  rcases is j182 with ⟨c184, j182⟩ | ⟨c184, j182⟩
  ·skip
   refine ol_gval (v := aggV [(sI t144.1.Epoch), (sI t144.1.Tickets.Geometry.Blocks), (sI t144.1.Tickets.Geometry.Slots), (sI t144.1.Tickets.Geometry.Gens), (sI t144.1.Tickets.Top), (sI t144.1.Tickets.High), (sI t144.1.Tickets.Free), (sI t144.1.Dir), Seg.cell u146 o147.one]) (xr_loadS (ss := [(sI t144.1.Epoch), (sI t144.1.Tickets.Geometry.Blocks), (sI t144.1.Tickets.Geometry.Slots), (sI t144.1.Tickets.Geometry.Gens), (sI t144.1.Tickets.Top), (sI t144.1.Tickets.High), (sI t144.1.Tickets.Free), (sI t144.1.Dir), Seg.cell u146 o147.one]) rfl ag110 sz110 rfl rfl (b152.segs 0 9 rfl)) rfl rfl rfl rfl rfl c184 ?_
   refine ol_gval (v := aggV [(sI a1.Epoch), (sI a1.Tickets.Geometry.Blocks), (sI a1.Tickets.Geometry.Slots), (sI a1.Tickets.Geometry.Gens), (sI a1.Tickets.Top), (sI a1.Tickets.High), (sI a1.Tickets.Free), (sI a1.Dir), Seg.cell V1_0 R1_0.one]) (xr_loadS (ss := [(sI a1.Epoch), (sI a1.Tickets.Geometry.Blocks), (sI a1.Tickets.Geometry.Slots), (sI a1.Tickets.Geometry.Gens), (sI a1.Tickets.Top), (sI a1.Tickets.High), (sI a1.Tickets.Free), (sI a1.Dir), Seg.cell V1_0 R1_0.one]) rfl ag110 sz110 rfl e4 (b8.segs 0 9 rfl)) rfl rfl rfl rfl rfl c184 ?_
   obtain ⟨t185, k186, j182⟩ := bs j182
   refine ol_gop (opv_call rfl cal74 (ac rfl (ac rfl an)) (rickyardref13_Same.ok fu _ t144.1 u146 (o147.rd) a1 V1_0 (R1_0.gr fB) _ k186)) rfl rfl rfl rfl rfl c184 ?_
   rintro _ w188 ⟨rfl, q187⟩
   have b8 := b8.gr q187
   have b152 := b152.gr q187
   have b170 := b170.gr q187
   have o147 := o147.gr q187
   have o164 := o164.gr q187
   have fB := fB.gr q187
   refine ol_gval (v := .bool t185) (xr_pickT rfl rfl c184 rfl) rfl rfl rfl rfl rfl c183 ?_
   refine ol_val (v := .bool t185) (xr_pickF rfl rfl c183 rfl) rfl rfl rfl ?_
   refine ol_nil ?_
   obtain rfl := Option.some.inj j182
   refine thn_i ?_
   exact ⟨e4, e10, e11, rfl, rfl, rfl, rfl, rfl, q187⟩
  refine ol_gskip rfl rfl rfl rfl rfl c184 ?_
  refine ol_gskip rfl rfl rfl rfl rfl c184 ?_
  refine ol_gskip rfl rfl rfl rfl rfl c184 ?_
  refine ol_gval (v := .bool false) (xr_pickF rfl rfl c184 rfl) rfl rfl rfl rfl rfl c183 ?_
  refine ol_val (v := .bool false) (xr_pickF rfl rfl c183 rfl) rfl rfl rfl ?_
  refine ol_nil ?_
  obtain rfl := Option.some.inj j182
  refine thn_i ?_
  exact ⟨e4, e10, e11, rfl, rfl, rfl, rfl, rfl, Fr.refl _ _⟩
 rintro ρ189 w190 ⟨e4, e10, e11, e12, e13, e14, e15, e119, q191⟩
 have b8 := b8.gr q191
 have b152 := b152.gr q191
 have b170 := b170.gr q191
 have o147 := o147.gr q191
 have o164 := o164.gr q191
 have fB := fB.gr q191
 rcases is h with ⟨c192, h⟩ | ⟨c192, h⟩
 ·refine cw_condT e119 c192 ?_
  refine cw_seq ?_
  obtain ⟨x193, j194, h⟩ := bs h
  refine cw_mid (fun ρ' w' => ρ' 6 = .bool x193 ∧ Gr w190 w') ?_ ?_
  ·skip
   refine cw_region ?_
   refine ol_val (v := .bool t144.2) (xr_move rfl e13) rfl rfl rfl ?_
   refine ol_val (v := .bool t144.2) (xr_move rfl rfl) rfl rfl rfl ?_
   rcases is j194 with ⟨c195, j194⟩ | ⟨c195, j194⟩
   ·skip
    refine ol_gval (v := aggV [(sI t144.1.Epoch), (sI t144.1.Tickets.Geometry.Blocks), (sI t144.1.Tickets.Geometry.Slots), (sI t144.1.Tickets.Geometry.Gens), (sI t144.1.Tickets.Top), (sI t144.1.Tickets.High), (sI t144.1.Tickets.Free), (sI t144.1.Dir), Seg.cell u146 o147.one]) (xr_loadS (ss := [(sI t144.1.Epoch), (sI t144.1.Tickets.Geometry.Blocks), (sI t144.1.Tickets.Geometry.Slots), (sI t144.1.Tickets.Geometry.Gens), (sI t144.1.Tickets.Top), (sI t144.1.Tickets.High), (sI t144.1.Tickets.Free), (sI t144.1.Dir), Seg.cell u146 o147.one]) rfl ag110 sz110 rfl e12 (b152.segs 0 9 rfl)) rfl rfl rfl rfl rfl c195 ?_
    refine ol_gval (v := aggV [(sI a1.Epoch), (sI a1.Tickets.Geometry.Blocks), (sI a1.Tickets.Geometry.Slots), (sI a1.Tickets.Geometry.Gens), (sI a1.Tickets.Top), (sI a1.Tickets.High), (sI a1.Tickets.Free), (sI a1.Dir), Seg.cell V1_0 R1_0.one]) (xr_loadS (ss := [(sI a1.Epoch), (sI a1.Tickets.Geometry.Blocks), (sI a1.Tickets.Geometry.Slots), (sI a1.Tickets.Geometry.Gens), (sI a1.Tickets.Top), (sI a1.Tickets.High), (sI a1.Tickets.Free), (sI a1.Dir), Seg.cell V1_0 R1_0.one]) rfl ag110 sz110 rfl e4 (b8.segs 0 9 rfl)) rfl rfl rfl rfl rfl c195 ?_
    obtain ⟨t196, k197, j194⟩ := bs j194
    refine ol_gop (opv_call rfl cal74 (ac rfl (ac rfl an)) (rickyardref13_Same.ok fu _ t144.1 u146 (o147.rd) a1 V1_0 (R1_0.gr fB) _ k197)) rfl rfl rfl rfl rfl c195 ?_
    rintro _ w199 ⟨rfl, q198⟩
    have fB := fB.gr q198
    refine ol_val (v := .bool t196) (xr_pickT rfl rfl c195 rfl) rfl rfl rfl ?_
    refine ol_val (v := .bool t196) (xr_assign rfl rfl) rfl rfl rfl ?_
    refine ol_nil ?_
    obtain rfl := Option.some.inj j194
    refine thn_i ?_
    exact ⟨rfl, q198⟩
   refine ol_gskip rfl rfl rfl rfl rfl c195 ?_
   refine ol_gskip rfl rfl rfl rfl rfl c195 ?_
   refine ol_gskip rfl rfl rfl rfl rfl c195 ?_
   refine ol_val (v := .bool false) (xr_pickF rfl rfl c195 rfl) rfl rfl rfl ?_
   refine ol_val (v := .bool false) (xr_assign rfl rfl) rfl rfl rfl ?_
   refine ol_nil ?_
   obtain rfl := Option.some.inj j194
   refine thn_i ?_
   exact ⟨rfl, Fr.refl _ _⟩
  rintro ρ200 w201 ⟨e6, q202⟩
  have fB := fB.gr q202
  refine cw_ret ?_
  repeat (first | with_reducible refine thn_r ?_ | with_reducible refine blk_r ?_)
  obtain rfl := Option.some.inj h
  refine fin_ret1 Try.results22 e6 ?_
  exact ⟨_, rfl, rfl, fB⟩
 refine cw_condF e119 c192 ?_
 refine cw_skip ?_
 refine cw_seq ?_
 obtain ⟨x203, j204, h⟩ := bs h
 refine cw_mid (fun ρ' w' => ρ' 6 = .bool x203 ∧ Gr w190 w') ?_ ?_
 ·skip
  refine cw_region ?_
  refine ol_val (v := .bool t144.2) (xr_move rfl e13) rfl rfl rfl ?_
  refine ol_val (v := .bool (!t144.2)) (xr_not rfl rfl) rfl rfl rfl ?_
  refine ol_val (v := .bool (!t144.2)) (xr_move rfl rfl) rfl rfl rfl ?_
  rcases is j204 with ⟨c205, j204⟩ | ⟨c205, j204⟩
  ·skip
   refine ol_gskip rfl rfl rfl rfl rfl c205 ?_
   refine ol_gskip rfl rfl rfl rfl rfl c205 ?_
   refine ol_uskip rfl rfl rfl rfl rfl ?_
   refine ol_uskip rfl rfl rfl rfl rfl ?_
   refine ol_uskip rfl rfl rfl rfl rfl ?_
   refine ol_gskip rfl rfl rfl rfl rfl c205 ?_
   refine ol_gskip rfl rfl rfl rfl rfl c205 ?_
   refine ol_uskip rfl rfl rfl rfl rfl ?_
   refine ol_uskip rfl rfl rfl rfl rfl ?_
   refine ol_uskip rfl rfl rfl rfl rfl ?_
   refine ol_gskip rfl rfl rfl rfl rfl c205 ?_
   refine ol_val (v := .bool true) (xr_pickT rfl rfl c205 rfl) rfl rfl rfl ?_
   refine ol_val (v := .bool true) (xr_assign rfl rfl) rfl rfl rfl ?_
   refine ol_nil ?_
   obtain rfl := Option.some.inj j204
   refine thn_i ?_
   exact ⟨rfl, Fr.refl _ _⟩
  refine ol_gval (v := .bool t161.2) (xr_move rfl e15) rfl rfl rfl rfl rfl c205 ?_
  refine ol_gval (v := .bool t161.2) (xr_move rfl rfl) rfl rfl rfl rfl rfl c205 ?_
  rcases is j204 with ⟨c206, j204⟩ | ⟨c206, j204⟩
  ·skip
   refine ol_gval (v := aggV [(sI t144.1.Epoch), (sI t144.1.Tickets.Geometry.Blocks), (sI t144.1.Tickets.Geometry.Slots), (sI t144.1.Tickets.Geometry.Gens), (sI t144.1.Tickets.Top), (sI t144.1.Tickets.High), (sI t144.1.Tickets.Free), (sI t144.1.Dir), Seg.cell u146 o147.one]) (xr_loadS (ss := [(sI t144.1.Epoch), (sI t144.1.Tickets.Geometry.Blocks), (sI t144.1.Tickets.Geometry.Slots), (sI t144.1.Tickets.Geometry.Gens), (sI t144.1.Tickets.Top), (sI t144.1.Tickets.High), (sI t144.1.Tickets.Free), (sI t144.1.Dir), Seg.cell u146 o147.one]) rfl ag110 sz110 rfl e12 (b152.segs 0 9 rfl)) rfl rfl rfl rfl rfl c206 ?_
   refine ol_gval (v := aggV [(sI t161.1.Epoch), (sI t161.1.Tickets.Geometry.Blocks), (sI t161.1.Tickets.Geometry.Slots), (sI t161.1.Tickets.Geometry.Gens), (sI t161.1.Tickets.Top), (sI t161.1.Tickets.High), (sI t161.1.Tickets.Free), (sI t161.1.Dir), Seg.cell u163 o164.one]) (xr_loadS (ss := [(sI t161.1.Epoch), (sI t161.1.Tickets.Geometry.Blocks), (sI t161.1.Tickets.Geometry.Slots), (sI t161.1.Tickets.Geometry.Gens), (sI t161.1.Tickets.Top), (sI t161.1.Tickets.High), (sI t161.1.Tickets.Free), (sI t161.1.Dir), Seg.cell u163 o164.one]) rfl ag110 sz110 rfl e14 (b170.segs 0 9 rfl)) rfl rfl rfl rfl rfl c206 ?_
   obtain ⟨t207, k208, j204⟩ := bs j204
   refine ol_gop (opv_call rfl cal74 (ac rfl (ac rfl an)) (rickyardref13_Same.ok fu _ t144.1 u146 (o147.rd) t161.1 u163 (o164.rd) _ k208)) rfl rfl rfl rfl rfl c206 ?_
   rintro _ w210 ⟨rfl, q209⟩
   have fB := fB.gr q209
   refine ol_gval (v := .bool t207) (xr_pickT rfl rfl c206 rfl) rfl rfl rfl rfl rfl c205 ?_
   refine ol_gval (v := .bool t207) (xr_move rfl rfl) rfl rfl rfl rfl rfl c205 ?_
   rcases is j204 with ⟨c211, j204⟩ | ⟨c211, j204⟩
   ·skip
    refine ol_gval (v := sv (List.map toB t120)) (xr_move rfl e11) rfl rfl rfl rfl rfl c211 ?_
    refine ol_gval (v := sv (List.map toB (Arr.l a0))) (xr_move rfl e10) rfl rfl rfl rfl rfl c211 ?_
    refine ol_gval (v := .bool (decide ((List.map toB t120) = (List.map toB (Arr.l a0))))) (xr_eqStr rfl Try.underlying9 rfl rfl) rfl rfl rfl rfl rfl c211 ?_
    refine ol_gval (v := .bool (decide ((List.map toB t120) = (List.map toB (Arr.l a0))))) (xr_pickT rfl rfl c211 rfl) rfl rfl rfl rfl rfl c205 ?_
    refine ol_val (v := .bool (decide ((List.map toB t120) = (List.map toB (Arr.l a0))))) (xr_pickF rfl rfl c205 rfl) rfl rfl rfl ?_
    refine ol_val (v := .bool (decide ((List.map toB t120) = (List.map toB (Arr.l a0))))) (xr_assign rfl rfl) rfl rfl rfl ?_
    refine ol_nil ?_
    obtain rfl := Option.some.inj j204
    refine thn_i ?_
    exact ⟨rfl, q209⟩
   refine ol_gskip rfl rfl rfl rfl rfl c211 ?_
   refine ol_gskip rfl rfl rfl rfl rfl c211 ?_
   refine ol_gskip rfl rfl rfl rfl rfl c211 ?_
   refine ol_gval (v := .bool false) (xr_pickF rfl rfl c211 rfl) rfl rfl rfl rfl rfl c205 ?_
   refine ol_val (v := .bool false) (xr_pickF rfl rfl c205 rfl) rfl rfl rfl ?_
   refine ol_val (v := .bool false) (xr_assign rfl rfl) rfl rfl rfl ?_
   refine ol_nil ?_
   obtain rfl := Option.some.inj j204
   refine thn_i ?_
   exact ⟨rfl, q209⟩
  refine ol_gskip rfl rfl rfl rfl rfl c206 ?_
  refine ol_gskip rfl rfl rfl rfl rfl c206 ?_
  refine ol_gskip rfl rfl rfl rfl rfl c206 ?_
  refine ol_gval (v := .bool false) (xr_pickF rfl rfl c206 rfl) rfl rfl rfl rfl rfl c205 ?_
  refine ol_gval (v := .bool false) (xr_move rfl rfl) rfl rfl rfl rfl rfl c205 ?_
  refine ol_gskip rfl rfl rfl rfl rfl rfl ?_
  refine ol_gskip rfl rfl rfl rfl rfl rfl ?_
  refine ol_gskip rfl rfl rfl rfl rfl rfl ?_
  refine ol_gval (v := .bool false) (xr_pickF rfl rfl rfl rfl) rfl rfl rfl rfl rfl c205 ?_
  refine ol_val (v := .bool false) (xr_pickF rfl rfl c205 rfl) rfl rfl rfl ?_
  refine ol_val (v := .bool false) (xr_assign rfl rfl) rfl rfl rfl ?_
  refine ol_nil ?_
  obtain rfl := Option.some.inj j204
  refine thn_i ?_
  exact ⟨rfl, Fr.refl _ _⟩
 rintro ρ212 w213 ⟨e6, q214⟩
 have fB := fB.gr q214
 refine cw_ret ?_
 repeat (first | with_reducible refine thn_r ?_ | with_reducible refine blk_r ?_)
 obtain rfl := Option.some.inj h
 refine fin_ret1 Try.results22 e6 ?_
 exact ⟨_, rfl, rfl, fB⟩
end Go.Proofs.Ytklhbaghbmndeaa
namespace Go.Xw
open Go
variable {P : Program} {w : World}
def Opn {α : Type} (P : Program) (w : World) (T : TypeId) (K : Kd α) (ok : α → Prop) : Prop :=
  ∀ {H : Type} (enc : TypeId × Value → H) (base : Nat) (sp : Nat → Bool) (held : Bool) (fuel : Nat) (cs : List Value) (x : DataW H × List MemPlace), DataW.trod enc P w base sp held fuel T cs = some x → ∃ a : α, cs = K.enc a ∧ ok a
theorem opn_int {T : TypeId} {k : IntKind} (ht : P.underlying T = some (.int k)) : Opn P w T (kI k) (fun n => (Lit.int k n).wf = true) := by
  intro H enc base sp held fuel cs x h
  obtain ⟨n, rfl, _, hw⟩ := DataW.trod_int ht h
  exact ⟨n, rfl, hw⟩
theorem chunks {α : Type} (K : Kd α) (ok : α → Prop) : ∀ (n : Nat) (cs : List Value), cs.length = n * K.size → (∀ i, i < n → ∃ a, (cs.drop (i * K.size)).take K.size = K.enc a ∧ ok a) → ∃ l : List α, l.length = n ∧ cs = l.flatMap K.enc ∧ ∀ a ∈ l, ok a
  | 0, cs, hl, _ => ⟨[], rfl, by simpa using hl, by simp⟩
  | n + 1, cs, hl, h => by
    obtain ⟨a, ha, hok⟩ := h 0 (by omega)
    rw [Nat.zero_mul, List.drop_zero] at ha
    have hl' : cs.length = n * K.size + K.size := by rw [hl, Nat.succ_mul]
    obtain ⟨l, h1, h2, h3⟩ := chunks K ok n (cs.drop K.size) (by rw [List.length_drop]; omega) (fun i hi => by
      have := h (i + 1) (by omega)
      rw [List.drop_drop, Nat.add_comm, ← Nat.succ_mul]
      exact this)
    refine ⟨a :: l, by simp [h1], ?_, ?_⟩
    · rw [List.flatMap_cons, ← h2, ← ha, List.take_append_drop]
    · intro b hb
      rcases List.mem_cons.1 hb with rfl | hb
      · exact hok
      · exact h3 b hb
theorem ms_len {α β : Type} {f : α → Option β} : ∀ {l : List α} {ys : List β}, l.mapM f = some ys → ys.length = l.length
  | [], ys, h => by simp at h; subst h; rfl
  | a :: l, ys, h => by
    rw [List.mapM_cons] at h
    obtain ⟨b, _, h⟩ := Option.bind_eq_some_iff.1 h
    obtain ⟨bs, hb, h⟩ := Option.bind_eq_some_iff.1 h
    simp at h
    subst h
    simp [ms_len hb]
theorem ms_get {α β : Type} {f : α → Option β} : ∀ {l : List α} {ys : List β}, l.mapM f = some ys → ∀ (i : Nat) (a : α), l[i]? = some a → ∃ y, ys[i]? = some y ∧ f a = some y
  | [], ys, h, i, a, ha => by simp at ha
  | b :: l, ys, h, i, a, ha => by
    rw [List.mapM_cons] at h
    obtain ⟨c, hc, h⟩ := Option.bind_eq_some_iff.1 h
    obtain ⟨bs, hb, h⟩ := Option.bind_eq_some_iff.1 h
    simp at h
    subst h
    cases i with
    | zero =>
      simp at ha
      subst ha
      exact ⟨c, rfl, hc⟩
    | succ i =>
      simp at ha
      obtain ⟨y, h1, h2⟩ := ms_get hb i a ha
      exact ⟨y, by simpa using h1, h2⟩
theorem trod_arr {H : Type} {enc : TypeId × Value → H} {base : Nat} {sp : Nat → Bool} {held : Bool} {fuel : Nat} {T e : TypeId} {n : Nat} {cs : List Value} {x : DataW H × List MemPlace} (ht : P.underlying T = some (.array n e)) (h : DataW.trod enc P w base sp held fuel T cs = some x) :
    cs.length = P.cellsOf T ∧ ∃ m, ∀ i, i < n → ∃ y, DataW.trod enc P w base sp held m e ((cs.drop (i * P.cellsOf e)).take (P.cellsOf e)) = some y := by
  cases fuel with
  | zero => simp [DataW.trod] at h
  | succ m =>
    unfold DataW.trod at h
    rw [ht] at h
    simp only at h
    split at h
    · rename_i hl
      refine ⟨hl, m, fun i hi => ?_⟩
      obtain ⟨xs, hx, _⟩ := Option.map_eq_some_iff.1 h
      obtain ⟨y, _, hy⟩ := ms_get hx i i (by simp [hi])
      exact ⟨y, hy⟩
    · cases h
theorem opn_arr {α : Type} {K : Kd α} {ok : α → Prop} {T e : TypeId} {n : Nat} (ht : P.underlying T = some (.array n e)) (hc : P.cellsOf T = n * P.cellsOf e) (he : P.cellsOf e = K.size) (ho : Opn P w e K ok) : Opn P w T (kA n K) (fun a => ∀ x ∈ a.l, ok x) := by
  intro H enc base sp held fuel cs x h
  obtain ⟨hl, m, hm⟩ := trod_arr ht h
  obtain ⟨l, h1, h2, h3⟩ := chunks K ok n cs (by rw [hl, hc, he]) (fun i hi => by
    obtain ⟨y, hy⟩ := hm i hi
    obtain ⟨a, ha⟩ := ho enc base sp held m _ y hy
    rw [he] at ha
    exact ⟨a, ha⟩)
  exact ⟨⟨l, h1⟩, h2, h3⟩
theorem fld_cons {cs : List Value} {o n : Nat} {c r : List Value} (h : (cs.drop o).take n = c) (hr : cs.drop (o + n) = r) : cs.drop o = c ++ r := by
  rw [← h, ← hr, ← List.drop_drop, List.take_append_drop]
theorem trod_st {H : Type} {enc : TypeId × Value → H} {base : Nat} {sp : Nat → Bool} {held : Bool} {fuel : Nat} {T : TypeId} {fs : Array Field} {cs : List Value} {x : DataW H × List MemPlace} (ht : P.underlying T = some (.struct fs)) (h : DataW.trod enc P w base sp held fuel T cs = some x) :
    cs.length = P.cellsOf T ∧ ∃ m, ∀ (i : Nat) (f : Field), fs[i]? = some f → ∃ y, DataW.trod enc P w base sp held m f.type ((cs.drop f.offset).take (P.cellsOf f.type)) = some y := by
  obtain ⟨xs, m, _, _, hl, hn, hf⟩ := DataW.trod_struct ht h
  refine ⟨hl, m, fun i f hi => ?_⟩
  have hx : i < xs.length := by rw [hn]; exact (Array.getElem?_eq_some_iff.1 hi).1
  exact ⟨xs[i], by rw [hf i f hi, List.getElem?_eq_getElem hx]⟩
def OpnS {α : Type} (P : Program) (w : World) (T : TypeId) (K : Kd α) (ok : α → Prop) : Prop :=
  ∀ {H : Type} (enc : TypeId × Value → H) (base : Nat) (sp : Nat → Bool) (held : Bool) (fuel : Nat) (cs : List Value) (x : DataW H × List MemPlace), DataW.trod enc P w base sp held fuel T cs = some x → ∃ (l : List α) (V : Value), cs = [V] ∧ Rd K w V l ∧ (∀ a ∈ l, ok a) ∧ l.length ≤ maxLen ∧ (sb V < w.heap.size ∨ l = [])
theorem cells_get {base : Nat} {a : Addr} {n : Nat} {cs : List Value} (h : w.cells? base a n = some cs) : cs.length = n ∧ ∀ j, j < n → w.cell? (a.add j) = cs[j]? := by
  unfold World.cells? at h
  split at h
  · refine ⟨by simpa using ms_len h, fun j hj => ?_⟩
    obtain ⟨y, h1, h2⟩ := ms_get h j j (by simp [hj])
    rw [h1, h2]
  · cases h
theorem opn_slice {α : Type} {K : Kd α} {ok : α → Prop} {T e : TypeId} (ht : P.underlying T = some (.slice e)) (he : P.cellsOf e = K.size) (hk : 0 < K.size) (ho : Opn P w e K ok) : OpnS P w T K ok := by
  intro H enc base sp held fuel cs x h
  rcases DataW.trod_slice ht h with ⟨rfl, _⟩ | ⟨a, len, cap, elems, rest, n, rfl, rfl, _, _, hl, hm, hlen, hel, _, _⟩
  · exact ⟨[], _, rfl, Rd.nil K w, by simp, by simp, .inr rfl⟩
  · have hex : ∀ i, i < len → ∃ b, (∀ j z, (K.enc b)[j]? = some z → w.cell? (a.add (i * K.size + j)) = some z) ∧ ok b := by
      intro i hi
      have h1 := hel i hi
      rw [List.getElem?_eq_getElem (by omega)] at h1
      obtain ⟨cs, h2, h3⟩ := Option.bind_eq_some_iff.1 h1
      obtain ⟨b, rfl, hb⟩ := ho enc base sp held n cs _ h3
      obtain ⟨h4, h5⟩ := cells_get h2
      rw [he] at h4 h5
      refine ⟨b, fun j z hz => ?_, hb⟩
      have hj : j < K.size := by rw [← h4]; exact (List.getElem?_eq_some_iff.1 hz).1
      have := h5 j hj
      rw [hz] at this
      rw [← this]
      congr 1
      unfold Addr.add
      by_cases hi0 : i * K.size = 0
      · by_cases hj0 : j = 0
        · simp [hi0, hj0]
        · simp [hi0, hj0]
      · by_cases hj0 : j = 0
        · simp [hi0, hj0]
        · have : i * K.size + j ≠ 0 := by omega
          simp [hi0, hj0, this, Nat.add_assoc]
    have hlist : ∀ m, m ≤ len → ∃ l : List α, l.length = m ∧ (∀ b ∈ l, ok b) ∧ ∀ j z, (l.flatMap K.enc)[j]? = some z → w.cell? (a.add j) = some z := by
      intro m
      induction m with
      | zero => intro _; exact ⟨[], rfl, by simp, by simp⟩
      | succ m ih =>
        intro hm
        obtain ⟨l, h1, h2, h3⟩ := ih (by omega)
        obtain ⟨b, h4, h5⟩ := hex m (by omega)
        refine ⟨l ++ [b], by simp [h1], ?_, ?_⟩
        · intro c hc
          rcases List.mem_append.1 hc with hc | hc
          · exact h2 c hc
          · obtain rfl := List.mem_singleton.1 hc
            exact h5
        · intro j z hz
          have hL : (l.flatMap K.enc).length = m * K.size := by rw [len_flat, h1]
          simp only [List.flatMap_append, List.flatMap_cons, List.flatMap_nil, List.append_nil] at hz
          by_cases hj : j < m * K.size
          · rw [List.getElem?_append_left (by omega)] at hz
            exact h3 j z hz
          · rw [List.getElem?_append_right (by omega), hL] at hz
            have := h4 (j - m * K.size) z hz
            rwa [show m * K.size + (j - m * K.size) = j from by omega] at this
    obtain ⟨l, h1, h2, h3⟩ := hlist len (Nat.le_refl _)
    have hpos : 0 < l.length → ∃ z, w.cell? a = some z := by
      intro hp
      cases l with
      | nil => simp at hp
      | cons b l =>
        have hb : (K.enc b).length = K.size := K.len b
        have : ∃ z, ((b :: l).flatMap K.enc)[0]? = some z := ⟨_, List.getElem?_eq_getElem (by simp [List.flatMap_cons, hb]; omega)⟩
        obtain ⟨z, hz⟩ := this
        have := h3 0 z hz
        exact ⟨z, by simpa [Addr.add] using this⟩
    refine ⟨l, _, rfl, ⟨some a, cap, by rw [h1], by omega, fun hp => ?_⟩, h2, by omega, ?_⟩
    · obtain ⟨z, hz⟩ := hpos hp
      obtain ⟨b, o, s⟩ := a
      have hs : s = none := by
        unfold World.cell? at hz
        split at hz
        · cases s with
          | none => rfl
          | some _ => simp at hz
        · cases hz
      subst hs
      refine ⟨b, o, rfl, fun j v hv => ?_⟩
      have := h3 j v hv
      rwa [Addr.add_lit] at this
    · rcases Nat.eq_zero_or_pos l.length with h0 | hp
      · exact .inr (List.eq_nil_of_length_eq_zero h0)
      · obtain ⟨z, hz⟩ := hpos hp
        refine .inl ?_
        unfold World.cell? at hz
        split at hz
        · rename_i hh
          exact (Array.getElem?_eq_some_iff.1 hh).1
        · cases hz
theorem agg_of {T : TypeId} {v : Value} {cs : List Value} {base : Nat} (h : aggB P T = some true) (hv : Value.okWide P w .any base T v) (hc : v.cells.toList = cs) : v = .agg cs.toArray := by
  unfold aggB at h
  obtain ⟨d, hu, hd⟩ := Option.map_eq_some_iff.1 h
  unfold Value.okWide at hv
  rw [hu] at hv
  cases d <;> simp at hd <;> (obtain ⟨c2, rfl, _⟩ := hv; subst hc; simp [Value.cells])
end Go.Xw
namespace Go.Proofs.Ytklhbaghbmndeaa
open Go Go.Xw
def ok_api_Geometry (a : S_api_Geometry) : Prop := (Lit.int .i64 a.Blocks).wf = true ∧ (Lit.int .i64 a.Slots).wf = true ∧ (Lit.int .i64 a.Gens).wf = true
theorem opn_api_Geometry {w : World} : Opn Try.prog w 106 k_api_Geometry ok_api_Geometry := by
  intro H enc base sp held fuel cs x h
  obtain ⟨hl, m, hf⟩ := trod_st Try.underlying106 h
  obtain ⟨y0, h0⟩ := hf 0 _ rfl
  have c0 : Try.prog.cellsOf 3 = 1 := by kernel_rfl
  obtain ⟨b0, e0, o0⟩ := (opn_int Try.underlying3) enc base sp held m _ y0 h0
  have e0 : (cs.drop 0).take 1 = (kI .i64).enc b0 := (congrArg (fun n => (cs.drop 0).take n) c0).symm.trans e0
  obtain ⟨y1, h1⟩ := hf 1 _ rfl
  have c1 : Try.prog.cellsOf 3 = 1 := by kernel_rfl
  obtain ⟨b1, e1, o1⟩ := (opn_int Try.underlying3) enc base sp held m _ y1 h1
  have e1 : (cs.drop 1).take 1 = (kI .i64).enc b1 := (congrArg (fun n => (cs.drop 1).take n) c1).symm.trans e1
  obtain ⟨y2, h2⟩ := hf 2 _ rfl
  have c2 : Try.prog.cellsOf 3 = 1 := by kernel_rfl
  obtain ⟨b2, e2, o2⟩ := (opn_int Try.underlying3) enc base sp held m _ y2 h2
  have e2 : (cs.drop 2).take 1 = (kI .i64).enc b2 := (congrArg (fun n => (cs.drop 2).take n) c2).symm.trans e2
  have hn : cs.drop 3 = [] := List.drop_eq_nil_of_le (by rw [hl]; exact Nat.le_of_eq (by kernel_rfl))
  have hc : cs = (kI .i64).enc b0 ++ ((kI .i64).enc b1 ++ ((kI .i64).enc b2 ++ [])) := (fld_cons (o := 0) (n := 1) e0 (fld_cons (o := 1) (n := 1) e1 (fld_cons (o := 2) (n := 1) e2 hn)))
  refine ⟨⟨b0, b1, b2⟩, ?_, o0, o1, o2⟩
  rw [hc]
  simp [kA, kI, kB, kS, kT, cellsOf, Seg.cell, Kd.seg, k_api_Geometry, k_api_Tickets, segs_api_Geometry, segs_api_Tickets]
def ok_api_Tickets (a : S_api_Tickets) : Prop := ok_api_Geometry a.Geometry ∧ (Lit.int .i64 a.Top).wf = true ∧ (Lit.int .i64 a.High).wf = true ∧ (Lit.int .i64 a.Free).wf = true
theorem opn_api_Tickets {w : World} : Opn Try.prog w 108 k_api_Tickets ok_api_Tickets := by
  intro H enc base sp held fuel cs x h
  obtain ⟨hl, m, hf⟩ := trod_st Try.underlying108 h
  obtain ⟨y0, h0⟩ := hf 0 _ rfl
  have c0 : Try.prog.cellsOf 106 = 3 := by kernel_rfl
  obtain ⟨b0, e0, o0⟩ := (opn_api_Geometry (w := w)) enc base sp held m _ y0 h0
  have e0 : (cs.drop 0).take 3 = k_api_Geometry.enc b0 := (congrArg (fun n => (cs.drop 0).take n) c0).symm.trans e0
  obtain ⟨y1, h1⟩ := hf 1 _ rfl
  have c1 : Try.prog.cellsOf 3 = 1 := by kernel_rfl
  obtain ⟨b1, e1, o1⟩ := (opn_int Try.underlying3) enc base sp held m _ y1 h1
  have e1 : (cs.drop 3).take 1 = (kI .i64).enc b1 := (congrArg (fun n => (cs.drop 3).take n) c1).symm.trans e1
  obtain ⟨y2, h2⟩ := hf 2 _ rfl
  have c2 : Try.prog.cellsOf 3 = 1 := by kernel_rfl
  obtain ⟨b2, e2, o2⟩ := (opn_int Try.underlying3) enc base sp held m _ y2 h2
  have e2 : (cs.drop 4).take 1 = (kI .i64).enc b2 := (congrArg (fun n => (cs.drop 4).take n) c2).symm.trans e2
  obtain ⟨y3, h3⟩ := hf 3 _ rfl
  have c3 : Try.prog.cellsOf 3 = 1 := by kernel_rfl
  obtain ⟨b3, e3, o3⟩ := (opn_int Try.underlying3) enc base sp held m _ y3 h3
  have e3 : (cs.drop 5).take 1 = (kI .i64).enc b3 := (congrArg (fun n => (cs.drop 5).take n) c3).symm.trans e3
  have hn : cs.drop 6 = [] := List.drop_eq_nil_of_le (by rw [hl]; exact Nat.le_of_eq (by kernel_rfl))
  have hc : cs = k_api_Geometry.enc b0 ++ ((kI .i64).enc b1 ++ ((kI .i64).enc b2 ++ ((kI .i64).enc b3 ++ []))) := (fld_cons (o := 0) (n := 3) e0 (fld_cons (o := 3) (n := 1) e1 (fld_cons (o := 4) (n := 1) e2 (fld_cons (o := 5) (n := 1) e3 hn))))
  refine ⟨⟨b0, b1, b2, b3⟩, ?_, o0, o1, o2, o3⟩
  rw [hc]
  simp [kA, kI, kB, kS, kT, cellsOf, Seg.cell, Kd.seg, k_api_Geometry, k_api_Tickets, segs_api_Geometry, segs_api_Tickets]
def ok_api_Super (a : S_api_Super) : Prop := (Lit.int .i64 a.Epoch).wf = true ∧ ok_api_Tickets a.Tickets ∧ (Lit.int .i64 a.Dir).wf = true ∧ ((∀ x ∈ a.Charts, (Lit.int .i64 x).wf = true) ∧ List.length a.Charts ≤ maxLen)
theorem opn_api_Super {w : World} {H : Type} (enc : TypeId × Value → H) (base : Nat) (sp : Nat → Bool) (held : Bool) (fuel : Nat) (cs : List Value) (x : DataW H × List MemPlace) (h : DataW.trod enc Try.prog w base sp held fuel 110 cs = some x) : ∃ a : S_api_Super, ∃ V0 : Value, ∃ R0 : Rd (kI .i64) w V0 a.Charts, cs = cellsOf [Seg.cell (.int .i64 a.Epoch), Seg.cell (.int .i64 a.Tickets.Geometry.Blocks), Seg.cell (.int .i64 a.Tickets.Geometry.Slots), Seg.cell (.int .i64 a.Tickets.Geometry.Gens), Seg.cell (.int .i64 a.Tickets.Top), Seg.cell (.int .i64 a.Tickets.High), Seg.cell (.int .i64 a.Tickets.Free), Seg.cell (.int .i64 a.Dir), Seg.cell V0 R0.one] ∧ ok_api_Super a := by
  obtain ⟨hl, m, hf⟩ := trod_st Try.underlying110 h
  obtain ⟨y0, h0⟩ := hf 0 _ rfl
  have c0 : Try.prog.cellsOf 3 = 1 := by kernel_rfl
  obtain ⟨b0, e0, o0⟩ := (opn_int Try.underlying3) enc base sp held m _ y0 h0
  have e0 : (cs.drop 0).take 1 = (kI .i64).enc b0 := (congrArg (fun n => (cs.drop 0).take n) c0).symm.trans e0
  obtain ⟨y1, h1⟩ := hf 1 _ rfl
  have c1 : Try.prog.cellsOf 108 = 6 := by kernel_rfl
  obtain ⟨b1, e1, o1⟩ := (opn_api_Tickets (w := w)) enc base sp held m _ y1 h1
  have e1 : (cs.drop 1).take 6 = k_api_Tickets.enc b1 := (congrArg (fun n => (cs.drop 1).take n) c1).symm.trans e1
  obtain ⟨y2, h2⟩ := hf 2 _ rfl
  have c2 : Try.prog.cellsOf 3 = 1 := by kernel_rfl
  obtain ⟨b2, e2, o2⟩ := (opn_int Try.underlying3) enc base sp held m _ y2 h2
  have e2 : (cs.drop 7).take 1 = (kI .i64).enc b2 := (congrArg (fun n => (cs.drop 7).take n) c2).symm.trans e2
  obtain ⟨y3, h3⟩ := hf 3 _ rfl
  have c3 : Try.prog.cellsOf 25 = 1 := by kernel_rfl
  obtain ⟨b3, W3, e3, r3, o3, l3, _⟩ := (opn_slice (K := (kI .i64)) Try.underlying25 (by kernel_rfl) (by decide) (opn_int Try.underlying3)) enc base sp held m _ y3 h3
  have e3 : (cs.drop 8).take 1 = [W3] := (congrArg (fun n => (cs.drop 8).take n) c3).symm.trans e3
  have hn : cs.drop 9 = [] := List.drop_eq_nil_of_le (by rw [hl]; exact Nat.le_of_eq (by kernel_rfl))
  have hc : cs = (kI .i64).enc b0 ++ (k_api_Tickets.enc b1 ++ ((kI .i64).enc b2 ++ ([W3] ++ []))) := (fld_cons (o := 0) (n := 1) e0 (fld_cons (o := 1) (n := 6) e1 (fld_cons (o := 7) (n := 1) e2 (fld_cons (o := 8) (n := 1) e3 hn))))
  refine ⟨⟨b0, b1, b2, b3⟩, W3, r3, ?_, o0, o1, o2, ⟨o3, l3⟩⟩
  rw [hc]
  simp [kA, kI, kB, kS, kT, cellsOf, Seg.cell, Kd.seg, k_api_Geometry, k_api_Tickets, segs_api_Geometry, segs_api_Tickets]
def ok_rickyardlaw16_Cut (a : S_rickyardlaw16_Cut) : Prop := (Lit.int .u8 a.Steps).wf = true ∧ ((∀ x ∈ a.Plan, (Lit.int .i64 x).wf = true) ∧ List.length a.Plan ≤ maxLen) ∧ ((∀ x ∈ a.L, (Lit.int .i64 x).wf = true) ∧ List.length a.L ≤ maxLen)
theorem opn_rickyardlaw16_Cut {w : World} {H : Type} (enc : TypeId × Value → H) (base : Nat) (sp : Nat → Bool) (held : Bool) (fuel : Nat) (cs : List Value) (x : DataW H × List MemPlace) (h : DataW.trod enc Try.prog w base sp held fuel 129 cs = some x) : ∃ a : S_rickyardlaw16_Cut, ∃ V0 : Value, ∃ V1 : Value, ∃ R0 : Rd (kI .i64) w V0 a.Plan, ∃ R1 : Rd (kI .i64) w V1 a.L, cs = cellsOf [Seg.cell (.int .u8 a.Steps), Seg.cell V0 R0.one, Seg.cell V1 R1.one] ∧ ok_rickyardlaw16_Cut a := by
  obtain ⟨hl, m, hf⟩ := trod_st Try.underlying129 h
  obtain ⟨y0, h0⟩ := hf 0 _ rfl
  have c0 : Try.prog.cellsOf 5 = 1 := by kernel_rfl
  obtain ⟨b0, e0, o0⟩ := (opn_int Try.underlying5) enc base sp held m _ y0 h0
  have e0 : (cs.drop 0).take 1 = (kI .u8).enc b0 := (congrArg (fun n => (cs.drop 0).take n) c0).symm.trans e0
  obtain ⟨y1, h1⟩ := hf 1 _ rfl
  have c1 : Try.prog.cellsOf 25 = 1 := by kernel_rfl
  obtain ⟨b1, W1, e1, r1, o1, l1, _⟩ := (opn_slice (K := (kI .i64)) Try.underlying25 (by kernel_rfl) (by decide) (opn_int Try.underlying3)) enc base sp held m _ y1 h1
  have e1 : (cs.drop 1).take 1 = [W1] := (congrArg (fun n => (cs.drop 1).take n) c1).symm.trans e1
  obtain ⟨y2, h2⟩ := hf 2 _ rfl
  have c2 : Try.prog.cellsOf 25 = 1 := by kernel_rfl
  obtain ⟨b2, W2, e2, r2, o2, l2, _⟩ := (opn_slice (K := (kI .i64)) Try.underlying25 (by kernel_rfl) (by decide) (opn_int Try.underlying3)) enc base sp held m _ y2 h2
  have e2 : (cs.drop 2).take 1 = [W2] := (congrArg (fun n => (cs.drop 2).take n) c2).symm.trans e2
  have hn : cs.drop 3 = [] := List.drop_eq_nil_of_le (by rw [hl]; exact Nat.le_of_eq (by kernel_rfl))
  have hc : cs = (kI .u8).enc b0 ++ ([W1] ++ ([W2] ++ [])) := (fld_cons (o := 0) (n := 1) e0 (fld_cons (o := 1) (n := 1) e1 (fld_cons (o := 2) (n := 1) e2 hn)))
  refine ⟨⟨b0, b1, b2⟩, W1, W2, r1, r2, ?_, o0, ⟨o1, l1⟩, ⟨o2, l2⟩⟩
  rw [hc]
  simp [kA, kI, kB, kS, kT, cellsOf, Seg.cell, Kd.seg, k_api_Geometry, k_api_Tickets, segs_api_Geometry, segs_api_Tickets]
end Go.Proofs.Ytklhbaghbmndeaa
namespace Go.Proofs.Ytklhbaghbmndeaa.Pure
open Go Go.Xw
def upd {α : Type} (g : Nat → α → α) (lo j : Nat) (cs : List α) : List α := cs.mapIdx fun i c => if lo ≤ i ∧ i < lo + j then g i c else c
theorem upd_len {α : Type} (g : Nat → α → α) (lo j : Nat) (cs : List α) : (upd g lo j cs).length = cs.length := by simp [upd]
theorem upd_zero {α : Type} (g : Nat → α → α) (lo : Nat) (cs : List α) : upd g lo 0 cs = cs := by
  apply List.ext_getElem (by simp [upd])
  intro i h1 h2
  simp only [upd, List.getElem_mapIdx]
  rw [if_neg (by omega)]
theorem upd_get {α : Type} (g : Nat → α → α) (lo j : Nat) (cs : List α) (i : Nat) (h : i < (upd g lo j cs).length) : (upd g lo j cs)[i] = if lo ≤ i ∧ i < lo + j then g i (cs[i]'(by simpa [upd] using h)) else cs[i]'(by simpa [upd] using h) := by
  simp only [upd, List.getElem_mapIdx]
theorem upd_next {α : Type} (g : Nat → α → α) (lo j : Nat) (cs : List α) (h : lo + j < cs.length) : (upd g lo j cs)[lo + j]'(by rw [upd_len]; exact h) = cs[lo + j] := by
  rw [upd_get, if_neg (by omega)]
theorem upd_set {α : Type} (g : Nat → α → α) (lo j : Nat) (cs : List α) (h : lo + j < cs.length) : (upd g lo j cs).set (lo + j) (g (lo + j) cs[lo + j]) = upd g lo (j + 1) cs := by
  apply List.ext_getElem (by simp [upd])
  intro i h1 h2
  rw [List.getElem_set, upd_get g lo (j + 1)]
  by_cases e : lo + j = i
  · subst e
    rw [if_pos rfl, if_pos (by omega)]
  · rw [if_neg e, upd_get]
    by_cases c : lo ≤ i ∧ i < lo + j
    · rw [if_pos c, if_pos (by omega)]
    · rw [if_neg c, if_neg (by omega)]
theorem upd_same {α : Type} (g : Nat → α → α) (lo j : Nat) (cs : List α) (h : lo + j < cs.length) (e : g (lo + j) cs[lo + j] = cs[lo + j]) : upd g lo j cs = upd g lo (j + 1) cs := by
  apply List.ext_getElem (by simp [upd])
  intro i h1 h2
  rw [upd_get g lo j, upd_get g lo (j + 1)]
  by_cases e' : lo + j = i
  · subst e'
    rw [if_neg (by omega), if_pos (by omega), e]
  · by_cases c : lo ≤ i ∧ i < lo + j
    · rw [if_pos c, if_pos (by omega)]
    · rw [if_neg c, if_neg (by omega)]
theorem upd_all {α : Type} (g : Nat → α → α) (cs : List α) : upd g 0 cs.length cs = cs.mapIdx g := by
  apply List.ext_getElem (by simp [upd])
  intro i h1 h2
  rw [upd_get, if_pos ⟨by omega, by rw [upd_len] at h1; omega⟩, List.getElem_mapIdx]
theorem getD_set {α : Type} (cs : List α) (i k : Nat) (v d : α) (hi : i < cs.length) : (cs.set i v).getD k d = if i = k then v else cs.getD k d := by
  simp only [List.getD_eq_getElem?_getD, List.getElem?_set]
  by_cases h : i = k
  · subst h
    simp [hi]
  · simp [h]
theorem getD_of {α : Type} (cs : List α) (i : Nat) (d : α) (hi : i < cs.length) : cs.getD i d = cs[i] := by
  simp [List.getD_eq_getElem?_getD, List.getElem?_eq_getElem hi]
def I32 (x : BitVec 32) : Int := (x.toNat : Int)
theorem I32_lt (x : BitVec 32) : 0 ≤ I32 x ∧ I32 x ≤ 4294967295 := by
  unfold I32
  have := x.isLt
  omega
theorem ofI (x : BitVec 32) : BitVec.ofInt 32 (I32 x) = x := by
  unfold I32
  rw [BitVec.ofInt_natCast, BitVec.ofNat_toNat, BitVec.setWidth_eq]
theorem I32_of {n : Int} (h0 : 0 ≤ n) (h1 : n ≤ 4294967295) : n = I32 (BitVec.ofNat 32 n.toNat) := by
  unfold I32
  rw [BitVec.toNat_ofNat, Nat.mod_eq_of_lt (by omega)]
  omega
theorem wI32 (x : BitVec 32) : IntKind.u32.wrap (I32 x) = I32 x := wu32 (I32_lt x).1 (I32_lt x).2
theorem bx32 (x y : BitVec 32) : bXor .u32 (I32 x) (I32 y) = I32 (x ^^^ y) := by
  unfold bXor
  show IntKind.u32.wrap (((BitVec.ofInt 32 (I32 x) ^^^ BitVec.ofInt 32 (I32 y)).toNat : Nat) : Int) = _
  rw [ofI, ofI]
  exact wI32 _
theorem ba32 (x y : BitVec 32) : bAnd .u32 (I32 x) (I32 y) = I32 (x &&& y) := by
  unfold bAnd
  show IntKind.u32.wrap (((BitVec.ofInt 32 (I32 x) &&& BitVec.ofInt 32 (I32 y)).toNat : Nat) : Int) = _
  rw [ofI, ofI]
  exact wI32 _
theorem sr32 (x : BitVec 32) (n : Nat) (hn : n ≤ 32) : shR .u32 (I32 x) (n : Int) = I32 (x >>> n) := by
  unfold shR I32
  rw [BitVec.toNat_ushiftRight, Nat.shiftRight_eq_div_pow]
  show Int.fdiv (x.toNat : Int) (2 ^ min ((n : Int).toNat) 32) = _
  rw [Int.toNat_natCast, Nat.min_eq_left hn, Int.fdiv_eq_ediv_of_nonneg _ (Int.le_of_lt (Int.pow_pos (by decide)))]
  simp
def poly : BitVec 32 := 2197175160#32
def stp (x : BitVec 32) : BitVec 32 := (x >>> 1) ^^^ (if x.getLsbD 0 then poly else 0#32)
theorem lsb_and (x : BitVec 32) : (I32 (x &&& 1#32) = 1) ↔ x.getLsbD 0 = true := by
  unfold I32
  rw [BitVec.toNat_and]
  show ((x.toNat &&& 1 : Nat) : Int) = 1 ↔ x.toNat.testBit 0 = true
  rw [Nat.and_one_is_mod, Nat.testBit_zero]
  simp
  omega
theorem rstep_eq (fu : Nat) (x : BitVec 32) : rickyardref02_Step.f fu (I32 x) = some (I32 (stp x)) := by
  unfold rickyardref02_Step.f stp
  have hb := I32_lt x
  have e1 : Int.tmod (I32 x) 2 = I32 (x &&& 1#32) := by
    rw [Int.tmod_eq_emod_of_nonneg hb.1]
    unfold I32
    rw [BitVec.toNat_and]
    show ((x.toNat : Int)) % 2 = ((x.toNat &&& 1 : Nat) : Int)
    rw [Nat.and_one_is_mod]
    omega
  have e2 : Int.tdiv (I32 x) 2 = I32 (x >>> 1) := by
    rw [Int.tdiv_eq_ediv_of_nonneg hb.1]
    unfold I32
    rw [BitVec.toNat_ushiftRight, Nat.shiftRight_eq_div_pow]
    omega
  have e3 : bXor .u32 (I32 (x >>> 1)) 2197175160 = I32 (x >>> 1 ^^^ poly) := bx32 (x >>> 1) poly
  rw [e1, e2, wI32, e3]
  by_cases h : x.getLsbD 0 = true
  · rw [if_pos (by simpa using (lsb_and x).2 h), if_pos h]
  · rw [if_neg (by simpa using fun e => h ((lsb_and x).1 e)), if_neg h]
    simp
theorem xor4 (a b p q : BitVec 32) : (a ^^^ b) ^^^ (p ^^^ q) = (a ^^^ p) ^^^ (b ^^^ q) := by
  rw [BitVec.xor_assoc, ← BitVec.xor_assoc b, BitVec.xor_comm b p, BitVec.xor_assoc p, ← BitVec.xor_assoc]
theorem sel_xor (a b : Bool) (p : BitVec 32) : (if (a ^^ b) = true then p else 0#32) = (if a = true then p else 0#32) ^^^ (if b = true then p else 0#32) := by
  cases a <;> cases b <;> simp
theorem stp_xor (x y : BitVec 32) : stp (x ^^^ y) = stp x ^^^ stp y := by
  unfold stp
  rw [BitVec.ushiftRight_xor_distrib, BitVec.getLsbD_xor, sel_xor, xor4]
def stps : Nat → BitVec 32 → BitVec 32
  | 0, x => x
  | n + 1, x => stps n (stp x)
theorem stps_xor : ∀ (n : Nat) (x y : BitVec 32), stps n (x ^^^ y) = stps n x ^^^ stps n y
  | 0, x, y => rfl
  | n + 1, x, y => by
    unfold stps
    rw [stp_xor, stps_xor n]
theorem stps_add (m : Nat) : ∀ (n : Nat) (x : BitVec 32), stps (n + m) x = stps m (stps n x)
  | 0, x => by simp [stps]
  | n + 1, x => by
    rw [Nat.add_right_comm]
    show stps (n + m) (stp x) = stps m (stps n (stp x))
    exact stps_add m n (stp x)
theorem stps_succ (n : Nat) (x : BitVec 32) : stps (n + 1) x = stp (stps n x) := stps_add 1 n x
theorem stp_even {x : BitVec 32} (h : x.getLsbD 0 = false) : stp x = x >>> 1 := by
  unfold stp
  rw [h]
  simp
theorem stps_high (x : BitVec 32) : ∀ n, (∀ j, j < n → x.getLsbD j = false) → stps n x = x >>> n
  | 0, _ => by simp [stps]
  | n + 1, h => by
    rw [stps_succ, stps_high x n fun j hj => h j (by omega)]
    rw [stp_even (by rw [BitVec.getLsbD_ushiftRight]; exact h (n + 0) (by omega)), ← BitVec.shiftRight_add]
theorem low_bit (n j : Nat) (hj : j < n) (hn : n ≤ 32) : (BitVec.ofNat 32 (2 ^ n - 1)).getLsbD j = true := by
  rw [BitVec.getLsbD_ofNat, Nat.testBit_two_pow_sub_one]
  simp
  omega
theorem high_bit (n j : Nat) (hj : n ≤ j) : (BitVec.ofNat 32 (2 ^ n - 1)).getLsbD j = false := by
  rw [BitVec.getLsbD_ofNat, Nat.testBit_two_pow_sub_one]
  simp
  omega
theorem stps_split (n : Nat) (hn : n ≤ 32) (x : BitVec 32) : stps n x = (x >>> n) ^^^ stps n (x &&& BitVec.ofNat 32 (2 ^ n - 1)) := by
  have e : x = (x &&& ~~~ BitVec.ofNat 32 (2 ^ n - 1)) ^^^ (x &&& BitVec.ofNat 32 (2 ^ n - 1)) := by
    apply BitVec.eq_of_getLsbD_eq
    intro i hi
    rw [BitVec.getLsbD_xor, BitVec.getLsbD_and, BitVec.getLsbD_and, BitVec.getLsbD_not]
    cases x.getLsbD i <;> cases (BitVec.ofNat 32 (2 ^ n - 1)).getLsbD i <;> simp [hi]
  conv => lhs; rw [e]
  rw [stps_xor, stps_high]
  · congr 1
    apply BitVec.eq_of_getLsbD_eq
    intro i hi
    rw [BitVec.getLsbD_ushiftRight, BitVec.getLsbD_ushiftRight, BitVec.getLsbD_and, BitVec.getLsbD_not, high_bit n (n + i) (by omega)]
    by_cases h : n + i < 32
    · simp [h]
    · have : x.getLsbD (n + i) = false := BitVec.getLsbD_of_ge _ _ (by omega)
      simp [this]
  · intro j hj
    rw [BitVec.getLsbD_and, BitVec.getLsbD_not, low_bit n j hj hn]
    simp
def Bytes (l : List Int) : Prop := ∀ x ∈ l, 0 ≤ x ∧ x ≤ 255
def b32 (c : Int) : BitVec 32 := BitVec.ofNat 32 c.toNat
theorem b32_eq {c : Int} (h : 0 ≤ c ∧ c ≤ 255) : IntKind.u32.wrap c = I32 (b32 c) := by
  rw [wu32 h.1 (by omega)]
  exact I32_of h.1 (by omega)
def take8 (x : BitVec 32) (c : Int) : BitVec 32 := stps 8 (x ^^^ b32 c)
def regs (x : BitVec 32) (l : List Int) : BitVec 32 := l.foldl take8 x
def tabL : List Int := (List.range 16).map fun i => I32 (stps 4 (BitVec.ofNat 32 i))
def tabA : Arr 16 Int := ⟨tabL, rfl⟩
theorem table_at (n : Nat) : crc_Table.f (n + 20) = some tabA := by kernel_rfl
theorem table_eq {fu : Nat} (h : 20 ≤ fu) : crc_Table.f fu = some tabA := by
  obtain ⟨n, rfl⟩ : ∃ n, fu = n + 20 := ⟨fu - 20, by omega⟩
  exact table_at n
theorem tab_get : ∀ i : Fin 16, Arr.get tabA ((i : Nat) : Int) = I32 (stps 4 (BitVec.ofNat 32 (i : Nat))) := by decide +kernel
theorem nib (x : BitVec 32) : bXor .u32 (shR .u32 (I32 x) 4) (Arr.get tabA (bAnd .u32 (I32 x) 15)) = I32 (stps 4 x) := by
  have e1 : bAnd .u32 (I32 x) 15 = I32 (x &&& 15#32) := ba32 x 15#32
  have e2 : shR .u32 (I32 x) 4 = I32 (x >>> 4) := sr32 x 4 (by decide)
  have hlt : (x &&& 15#32).toNat < 16 := by
    rw [BitVec.toNat_and]
    exact Nat.lt_of_le_of_lt Nat.and_le_right (by decide)
  have e3 : Arr.get tabA (I32 (x &&& 15#32)) = I32 (stps 4 (x &&& 15#32)) := by
    have := tab_get ⟨(x &&& 15#32).toNat, hlt⟩
    simp only [BitVec.ofNat_toNat, BitVec.setWidth_eq] at this
    exact this
  rw [e1, e2, e3, bx32]
  exact congrArg I32 (stps_split 4 (by decide) x).symm
theorem nib_in (x : BitVec 32) : 0 ≤ bAnd .u32 (I32 x) 15 ∧ bAnd .u32 (I32 x) 15 < 16 := by
  have e1 : bAnd .u32 (I32 x) 15 = I32 (x &&& 15#32) := ba32 x 15#32
  have hlt : (x &&& 15#32).toNat < 16 := by
    rw [BitVec.toNat_and]
    exact Nat.lt_of_le_of_lt Nat.and_le_right (by decide)
  rw [e1]
  unfold I32
  omega
theorem ix_nat {α : Type} [Inhabited α] {l : List α} {j : Nat} (h : j < l.length) : ix l (j : Int) = l[j] := by
  simp [ix, List.getD_eq_getElem?_getD, List.getElem?_eq_getElem h]
theorem take_next {α : Type} {l : List α} {j : Nat} (h : j < l.length) : l.take (j + 1) = l.take j ++ [l[j]] := by
  rw [List.take_add_one, List.getElem?_eq_getElem h]
  rfl
theorem reg_eq {fu : Nat} {x : BitVec 32} {l : List Int} (hb : Bytes l) (hl : l.length ≤ 9000000000000000000) (hf : l.length < fu) : crc_register.f fu tabA (I32 x) l = some (I32 (regs x l)) := by
  unfold crc_register.f
  have : loopM (crc_register.s0 fu tabA l) fu (I32 x, 0) = some (I32 (regs x l)) := by
    refine loopM_run (S := fun j => (I32 (regs x (l.take j)), (j : Int))) l.length (by simp [regs]) ?_ ?_ hf
    · intro j hj
      unfold crc_register.s0
      have h1 : (j : Int) < (l.length : Int) := by omega
      have w3 : IntKind.i64.wrap ((j : Int) + 1) = ((j + 1 : Nat) : Int) := by rw [w64 (by omega) (by omega)]; omega
      have hc := hb _ (List.getElem_mem hj)
      have e1 : bXor .u32 (I32 (regs x (l.take j))) (IntKind.u32.wrap (ix l (j : Int))) = I32 (regs x (l.take j) ^^^ b32 l[j]) := by
        rw [ix_nat hj, b32_eq hc, bx32]
      have e2 : regs x (l.take (j + 1)) = stps 4 (stps 4 (regs x (l.take j) ^^^ b32 l[j])) := by
        rw [take_next hj]
        unfold regs
        rw [List.foldl_append]
        exact stps_add 4 4 _
      simp only [h1, decide_true, if_true, e1, nib, w3, e2]
      rw [if_pos ⟨by omega, trivial⟩, if_pos (nib_in _), if_pos (nib_in _)]
    · unfold crc_register.s0
      simp
  rw [this]
  rfl
def ones : BitVec 32 := 4294967295#32
def crc (l : List Int) : BitVec 32 := regs ones l ^^^ ones
theorem sum_eq {fu : Nat} {l : List Int} (hb : Bytes l) (hl : l.length ≤ 9000000000000000000) (hf : l.length + 20 < fu) : crc_Sum.f fu [l] = some (I32 (crc l)) := by
  unfold crc_Sum.f
  rw [table_eq (by omega)]
  have : loopM (crc_Sum.s0 fu [l] tabA) fu (4294967295, 0) = some (I32 (regs ones l)) := by
    refine loopM_run (S := fun j => (if j = 0 then I32 ones else I32 (regs ones l), (j : Int))) 1 rfl ?_ ?_ (by omega)
    · intro j hj
      obtain rfl : j = 0 := by omega
      unfold crc_Sum.s0
      have e0 : ix [l] ((0 : Nat) : Int) = l := rfl
      have w3 : IntKind.i64.wrap (((0 : Nat) : Int) + 1) = ((0 + 1 : Nat) : Int) := by decide
      simp only [e0, w3, if_true, reg_eq hb hl (by omega : l.length < fu)]
      simp
    · unfold crc_Sum.s0
      simp
  simp only [Option.bind_some]
  rw [this]
  simp only [Option.bind_some]
  exact congrArg some (bx32 _ ones)
theorem rsteps_eq {fu : Nat} {x : BitVec 32} (hf : 8 < fu) : rickyardref02_Steps.f fu (I32 x) 8 = some (I32 (stps 8 x)) := by
  unfold rickyardref02_Steps.f
  have : loopM (rickyardref02_Steps.s0 fu 8) fu (I32 x, 0) = some (I32 (stps 8 x)) := by
    refine loopM_run (S := fun j => (I32 (stps j x), (j : Int))) 8 rfl ?_ ?_ hf
    · intro j hj
      unfold rickyardref02_Steps.s0
      have h1 : (j : Int) < 8 := by omega
      have w3 : IntKind.i64.wrap ((j : Int) + 1) = ((j + 1 : Nat) : Int) := by rw [w64 (by omega) (by omega)]; omega
      simp only [h1, decide_true, if_true, rstep_eq, w3, stps_succ]
      rfl
    · unfold rickyardref02_Steps.s0
      simp
  rw [this]
  rfl
theorem rsum_eq {fu : Nat} {l : List Int} (hb : Bytes l) (hl : l.length ≤ 9000000000000000000) (hf : l.length + 20 < fu) : rickyardref02_Sum.f fu l = some (I32 (crc l)) := by
  unfold rickyardref02_Sum.f
  have : loopM (rickyardref02_Sum.s0 fu l) fu (4294967295, 0) = some (I32 (regs ones l)) := by
    refine loopM_run (S := fun j => (I32 (regs ones (l.take j)), (j : Int))) l.length (by simp [regs]; rfl) ?_ ?_ (by omega)
    · intro j hj
      unfold rickyardref02_Sum.s0
      have h1 : (j : Int) < (l.length : Int) := by omega
      have w3 : IntKind.i64.wrap ((j : Int) + 1) = ((j + 1 : Nat) : Int) := by rw [w64 (by omega) (by omega)]; omega
      have hc := hb _ (List.getElem_mem hj)
      have e1 : bXor .u32 (I32 (regs ones (l.take j))) (IntKind.u32.wrap (ix l (j : Int))) = I32 (regs ones (l.take j) ^^^ b32 l[j]) := by
        rw [ix_nat hj, b32_eq hc, bx32]
      have e2 : regs ones (l.take (j + 1)) = stps 8 (regs ones (l.take j) ^^^ b32 l[j]) := by
        rw [take_next hj]
        unfold regs
        rw [List.foldl_append]
        rfl
      simp only [h1, decide_true, if_true, e1, w3, e2, rsteps_eq (by omega : 8 < fu)]
      rw [if_pos ⟨by omega, trivial⟩]
      rfl
    · unfold rickyardref02_Sum.s0
      simp
  rw [this]
  have e : IntKind.u32.wrap (4294967295 - I32 (regs ones l)) = I32 (crc l) := by
    have hlt := (regs ones l).isLt
    have h2 : (crc l).toNat = 4294967295 - (regs ones l).toNat := by
      unfold crc
      have : regs ones l ^^^ ones = ~~~ (regs ones l) := by
        apply BitVec.eq_of_getLsbD_eq
        intro i hi
        have ho : ones.getLsbD i = true := by
          have := low_bit 32 i hi (by decide)
          exact this
        rw [BitVec.getLsbD_xor, BitVec.getLsbD_not, ho]
        simp [hi]
      rw [this, BitVec.toNat_not]
    unfold I32
    rw [h2, wu32 (by omega) (by omega)]
    omega
  simp only [Option.bind_some, e]
end Go.Proofs.Ytklhbaghbmndeaa.Pure
