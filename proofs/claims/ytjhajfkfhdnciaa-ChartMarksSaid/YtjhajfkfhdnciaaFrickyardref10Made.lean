/- rickyard/rickyardref10.Made: its model, and that the Go function computes it: written by gen.py. -/
import Derived.Test.YtjhajfkfhdnciaaBase
set_option linter.unusedVariables false
namespace Go.Proofs.Ytjhajfkfhdnciaa
open Go Go.Xw
def rickyardref10_Made.s0 (fu : Nat) (a0 : Int) (a1 : List Int) : (Int × S_api_Chart) → Option (Sum S_api_Chart (Int × S_api_Chart)) := fun s16 => (if (decide (s16.1 < (List.length a1 : Int))) = true then (((if 0 ≤ s16.1 ∧ s16.1 < (List.length a1 : Int) then (if (decide ((ix a1 s16.1) ≥ (IntKind.i64.wrap (384 * a0)))) = true then (if 0 ≤ s16.1 ∧ s16.1 < (List.length a1 : Int) then some ((decide ((ix a1 s16.1) < (IntKind.i64.wrap ((IntKind.i64.wrap (384 * a0)) + 384))))) else none) else some (false)) else none) : Option Bool).bind fun x24 => (((if x24 = true then (if 0 ≤ s16.1 ∧ s16.1 < (List.length a1 : Int) then (if 0 ≤ (IntKind.i64.wrap (Int.tdiv (IntKind.i64.wrap ((ix a1 s16.1) - (IntKind.i64.wrap (384 * a0)))) 8)) ∧ (IntKind.i64.wrap (Int.tdiv (IntKind.i64.wrap ((ix a1 s16.1) - (IntKind.i64.wrap (384 * a0)))) 8)) < 48 then (if 0 ≤ (Int.tmod (IntKind.i64.wrap ((ix a1 s16.1) - (IntKind.i64.wrap (384 * a0)))) 8) then (if 0 ≤ (IntKind.i64.wrap (Int.tdiv (IntKind.i64.wrap ((ix a1 s16.1) - (IntKind.i64.wrap (384 * a0)))) 8)) ∧ (IntKind.i64.wrap (Int.tdiv (IntKind.i64.wrap ((ix a1 s16.1) - (IntKind.i64.wrap (384 * a0)))) 8)) < 48 then some ((⟨s16.2.Place, (Arr.set s16.2.Bits (IntKind.i64.wrap (Int.tdiv (IntKind.i64.wrap ((ix a1 s16.1) - (IntKind.i64.wrap (384 * a0)))) 8)) (bOr .u8 (Arr.get s16.2.Bits (IntKind.i64.wrap (Int.tdiv (IntKind.i64.wrap ((ix a1 s16.1) - (IntKind.i64.wrap (384 * a0)))) 8))) (shL .u8 1 (Int.tmod (IntKind.i64.wrap ((ix a1 s16.1) - (IntKind.i64.wrap (384 * a0)))) 8))))⟩ : S_api_Chart)) else none) else none) else none) else none) else some (s16.2)) : Option S_api_Chart).bind fun x30 => some (Sum.inr ((IntKind.i64.wrap (s16.1 + 1)), x30)))) else some (Sum.inl (s16.2)))
def rickyardref10_Made.f (fu : Nat) (a0 : Int) (a1 : List Int) : Option S_api_Chart := ((loopM (rickyardref10_Made.s0 fu a0 a1) fu (0, (⟨a0, (Arr.rep 48 (0 : Int))⟩ : S_api_Chart))).bind fun e17 => some (e17))
set_option maxRecDepth 100000 in
set_option maxHeartbeats 400000 in
theorem rickyardref10_Made.ok (fu : Nat) (w : World) (a0 : Int) (a1 : List Int) (V1_0 : Value) (R1_0 : Rd (kI .i64) w V1_0 a1) (r : S_api_Chart) (h : rickyardref10_Made.f fu a0 a1 = some r) :
    Calls Try.prog 64 (([.int .i64 a0, V1_0] : List Value).toArray) w (fun e w' => ∃ v, e = .returned v ∧ v = aggV [Seg.cell (.int .i64 r.Place), Kd.seg (kA 48 (kI .u8)) r.Bits] ∧ Gr w w') := by
  unfold rickyardref10_Made.f at h
  have fB : Gr w w := Fr.refl _ _
  refine calls_cw Try.func64 rfl Try.ntmps64 rfl ?_
  refine cw_seq ?_
  refine cw_region ?_
  refine ol_op (by exact opv_alloc (ss := [Seg.cell (.int .i64 (0 : Int)), Kd.seg (kA 48 (kI .u8)) (Arr.rep 48 (0 : Int))]) rfl ze81 rfl) rfl rfl rfl ?_
  rintro _ w6 ⟨G1, rfl, b2, q3, z4⟩
  have z4 := Nat.le_trans fB.size z4
  have fB := fB.gr q3
  refine ol_nil ?_
  refine cw_seq ?_
  refine cw_region ?_
  refine ol_val (v := .int .i64 a0) (by exact xr_move rfl rfl) rfl rfl rfl ?_
  refine ol_val (v := aggV [Seg.cell (.int .i64 a0), Kd.seg (kA 48 (kI .u8)) (Arr.rep 48 (0 : Int))]) (by exact xr_build (vals := [(0, .int .i64 a0)]) rfl ⟨rfl, rfl, trivial⟩ (bl81_0 a0 _)) rfl rfl rfl ?_
  refine ol_op (by exact opv_alloc (ss := [Seg.cell (.int .i64 (0 : Int)), Kd.seg (kA 48 (kI .u8)) (Arr.rep 48 (0 : Int))]) rfl ze81 rfl) rfl rfl rfl ?_
  rintro _ w12 ⟨G7, rfl, b8, q9, z10⟩
  have n13 := Blk.ne b2 z10
  have z10 := Nat.le_trans fB.size z10
  have b2 := b2.gr q9
  have fB := fB.gr q9
  refine ol_op0 (by exact opv_store (ss' := [Seg.cell (.int .i64 a0), Kd.seg (kA 48 (kI .u8)) (Arr.rep 48 (0 : Int))]) (xs := cellsOf [Seg.cell (.int .i64 a0), Kd.seg (kA 48 (kI .u8)) (Arr.rep 48 (0 : Int))]) rfl sz81 rfl rfl rfl (len_cellsOf _) (one_cellsOf _) b8 (Spl.segs _ 0 2 [Seg.cell (.int .i64 a0), Kd.seg (kA 48 (kI .u8)) (Arr.rep 48 (0 : Int))] rfl rfl)) rfl rfl ?_
  rintro _ w15 ⟨b8, q14⟩
  have b2 := b2.wr q14 n13
  have fB := fB.wr q14 z10
  refine ol_nil ?_
  refine cw_seq ?_
  refine cw_seq ?_
  refine cw_region ?_
  refine ol_val (v := .int .i64 0) (by exact xr_assign rfl rfl) rfl rfl rfl ?_
  refine ol_nil ?_
  obtain ⟨e17, l18, h19⟩ := bs h
  refine cw_mid (fun ρ' w' => ρ' 4 = .pointer (some ⟨G1, 0, none⟩) ∧ ρ' 5 = .pointer (some ⟨G7, 0, none⟩) ∧ Blk w' G1 81 [Seg.cell (.int .i64 (0 : Int)), Kd.seg (kA 48 (kI .u8)) (Arr.rep 48 (0 : Int))] ∧ Blk w' G7 81 [Seg.cell (.int .i64 e17.Place), Kd.seg (kA 48 (kI .u8)) e17.Bits] ∧ Gr w w') ?_ ?_
  · refine cw_block ?_
    refine cw_round (fun (s16 : Int × S_api_Chart) ρ' w' => ρ' 0 = .int .i64 a0 ∧ ρ' 1 = V1_0 ∧ ρ' 4 = .pointer (some ⟨G1, 0, none⟩) ∧ ρ' 5 = .pointer (some ⟨G7, 0, none⟩) ∧ ρ' 6 = .int .i64 s16.1 ∧ Blk w' G1 81 [Seg.cell (.int .i64 (0 : Int)), Kd.seg (kA 48 (kI .u8)) (Arr.rep 48 (0 : Int))] ∧ Blk w' G7 81 [Seg.cell (.int .i64 s16.2.Place), Kd.seg (kA 48 (kI .u8)) s16.2.Bits] ∧ Gr w w') l18 ?_ ?_
    · skip
      exact ⟨rfl, rfl, rfl, rfl, rfl, b2, b8, fB⟩
    · rintro s16 x22 ρ20 w21 ⟨e0, e1, e4, e5, e6, b2, b8, fB⟩ h
      unfold rickyardref10_Made.s0 at h
      refine cw_seq ?_
      refine cw_seq ?_
      refine cw_region ?_
      refine ol_val (v := .int .i64 s16.1) (by exact xr_move rfl e6) rfl rfl rfl ?_
      refine ol_val (v := V1_0) (by exact xr_move rfl e1) rfl rfl rfl ?_
      refine ol_val (v := .int .i64 (List.length a1 : Int)) (by exact xr_lenR rfl Try.underlying45 rfl (R1_0.gr fB)) rfl rfl rfl ?_
      refine ol_val (v := .bool (decide (s16.1 < (List.length a1 : Int)))) (by exact xr_lss rfl rfl rfl) rfl rfl rfl ?_
      refine ol_nil ?_
      rcases is h with ⟨c23, h⟩ | ⟨c23, h⟩
      · refine cw_condT rfl c23 ?_
        refine cw_skip ?_
        refine cw_seq ?_
        refine cw_block ?_
        refine cw_seq ?_
        obtain ⟨x24, j25, h⟩ := bs h
        refine cw_mid (fun ρ' w' => ρ' 0 = .int .i64 a0 ∧ ρ' 1 = V1_0 ∧ ρ' 4 = .pointer (some ⟨G1, 0, none⟩) ∧ ρ' 5 = .pointer (some ⟨G7, 0, none⟩) ∧ ρ' 6 = .int .i64 s16.1 ∧ ρ' 32 = .bool x24 ∧ w21 = w') ?_ ?_
        · skip
          refine cw_region ?_
          refine ol_val (v := V1_0) (by exact xr_move rfl e1) rfl rfl rfl ?_
          refine ol_val (v := .int .i64 s16.1) (by exact xr_move rfl e6) rfl rfl rfl ?_
          obtain ⟨g26, j25⟩ := gs j25
          refine ol_val (v := .pointer (some ⟨(sb V1_0), so V1_0 + Int.toNat s16.1 * 1, none⟩)) (by exact xr_indexR (K := (kI .i64)) (v := V1_0) rfl Try.underlying45 sz3 rfl (R1_0.gr fB) rfl g26.1 g26.2) rfl rfl rfl ?_
          refine ol_val (v := .int .i64 (ix a1 s16.1)) (by exact xr_load1 (v := .int .i64 (ix a1 s16.1)) rfl ag3 rfl ((R1_0.gr fB).elem g26.1 g26.2)) rfl rfl rfl ?_
          refine ol_val (v := .int .i64 a0) (by exact xr_move rfl e0) rfl rfl rfl ?_
          refine ol_val (v := .int .i64 (IntKind.i64.wrap (384 * a0))) (by exact xr_mul rfl rfl rfl) rfl rfl rfl ?_
          refine ol_val (v := .bool (decide ((ix a1 s16.1) ≥ (IntKind.i64.wrap (384 * a0))))) (by exact xr_geq rfl rfl rfl) rfl rfl rfl ?_
          refine ol_val (v := .bool (decide ((ix a1 s16.1) ≥ (IntKind.i64.wrap (384 * a0))))) (by exact xr_move rfl rfl) rfl rfl rfl ?_
          rcases is j25 with ⟨c27, j25⟩ | ⟨c27, j25⟩
          · skip
            refine ol_gval (v := V1_0) (by exact xr_move rfl e1) rfl rfl rfl rfl rfl c27 ?_
            refine ol_gval (v := .int .i64 s16.1) (by exact xr_move rfl e6) rfl rfl rfl rfl rfl c27 ?_
            obtain ⟨g28, j25⟩ := gs j25
            refine ol_gval (v := .pointer (some ⟨(sb V1_0), so V1_0 + Int.toNat s16.1 * 1, none⟩)) (by exact xr_indexR (K := (kI .i64)) (v := V1_0) rfl Try.underlying45 sz3 rfl (R1_0.gr fB) rfl g28.1 g28.2) rfl rfl rfl rfl rfl c27 ?_
            refine ol_gval (v := .int .i64 (ix a1 s16.1)) (by exact xr_load1 (v := .int .i64 (ix a1 s16.1)) rfl ag3 rfl ((R1_0.gr fB).elem g28.1 g28.2)) rfl rfl rfl rfl rfl c27 ?_
            refine ol_gval (v := .int .i64 a0) (by exact xr_move rfl e0) rfl rfl rfl rfl rfl c27 ?_
            refine ol_gval (v := .int .i64 (IntKind.i64.wrap (384 * a0))) (by exact xr_mul rfl rfl rfl) rfl rfl rfl rfl rfl c27 ?_
            refine ol_gval (v := .int .i64 (IntKind.i64.wrap ((IntKind.i64.wrap (384 * a0)) + 384))) (by exact xr_add rfl rfl rfl) rfl rfl rfl rfl rfl c27 ?_
            refine ol_gval (v := .bool (decide ((ix a1 s16.1) < (IntKind.i64.wrap ((IntKind.i64.wrap (384 * a0)) + 384))))) (by exact xr_lss rfl rfl rfl) rfl rfl rfl rfl rfl c27 ?_
            refine ol_val (v := .bool (decide ((ix a1 s16.1) < (IntKind.i64.wrap ((IntKind.i64.wrap (384 * a0)) + 384))))) (by exact xr_pickT rfl rfl c27 rfl) rfl rfl rfl ?_
            refine ol_nil ?_
            obtain rfl := Option.some.inj j25
            refine thn_i ?_
            exact ⟨e0, e1, e4, e5, e6, rfl, rfl⟩
          · skip
            refine ol_gskip rfl rfl rfl rfl rfl c27 ?_
            refine ol_gskip rfl rfl rfl rfl rfl c27 ?_
            refine ol_gskip rfl rfl rfl rfl rfl c27 ?_
            refine ol_gskip rfl rfl rfl rfl rfl c27 ?_
            refine ol_gskip rfl rfl rfl rfl rfl c27 ?_
            refine ol_gskip rfl rfl rfl rfl rfl c27 ?_
            refine ol_gskip rfl rfl rfl rfl rfl c27 ?_
            refine ol_gskip rfl rfl rfl rfl rfl c27 ?_
            refine ol_val (v := .bool false) (by exact xr_pickF rfl rfl c27 rfl) rfl rfl rfl ?_
            refine ol_nil ?_
            obtain rfl := Option.some.inj j25
            refine thn_i ?_
            exact ⟨e0, e1, e4, e5, e6, rfl, rfl⟩
        · skip
          rintro ρ29 _ ⟨e0, e1, e4, e5, e6, e32, rfl⟩
          obtain ⟨x30, j31, h32⟩ := bs h
          refine cw_mid (fun ρ' w' => ρ' 0 = .int .i64 a0 ∧ ρ' 1 = V1_0 ∧ ρ' 4 = .pointer (some ⟨G1, 0, none⟩) ∧ ρ' 5 = .pointer (some ⟨G7, 0, none⟩) ∧ ρ' 6 = .int .i64 s16.1 ∧ Blk w' G1 81 [Seg.cell (.int .i64 (0 : Int)), Kd.seg (kA 48 (kI .u8)) (Arr.rep 48 (0 : Int))] ∧ Blk w' G7 81 [Seg.cell (.int .i64 x30.Place), Kd.seg (kA 48 (kI .u8)) x30.Bits] ∧ Gr w w') ?_ ?_
          · have h := j31
            rcases is h with ⟨c33, h⟩ | ⟨c33, h⟩
            · refine cw_condT e32 c33 ?_
              refine cw_seq ?_
              refine cw_region ?_
              refine ol_val (v := V1_0) (by exact xr_move rfl e1) rfl rfl rfl ?_
              refine ol_val (v := .int .i64 s16.1) (by exact xr_move rfl e6) rfl rfl rfl ?_
              obtain ⟨g34, h⟩ := gs h
              refine ol_val (v := .pointer (some ⟨(sb V1_0), so V1_0 + Int.toNat s16.1 * 1, none⟩)) (by exact xr_indexR (K := (kI .i64)) (v := V1_0) rfl Try.underlying45 sz3 rfl (R1_0.gr fB) rfl g34.1 g34.2) rfl rfl rfl ?_
              refine ol_val (v := .int .i64 (ix a1 s16.1)) (by exact xr_load1 (v := .int .i64 (ix a1 s16.1)) rfl ag3 rfl ((R1_0.gr fB).elem g34.1 g34.2)) rfl rfl rfl ?_
              refine ol_val (v := .int .i64 a0) (by exact xr_move rfl e0) rfl rfl rfl ?_
              refine ol_val (v := .int .i64 (IntKind.i64.wrap (384 * a0))) (by exact xr_mul rfl rfl rfl) rfl rfl rfl ?_
              refine ol_val (v := .int .i64 (IntKind.i64.wrap ((ix a1 s16.1) - (IntKind.i64.wrap (384 * a0))))) (by exact xr_sub rfl rfl rfl) rfl rfl rfl ?_
              refine ol_val (v := .int .i64 (IntKind.i64.wrap ((ix a1 s16.1) - (IntKind.i64.wrap (384 * a0))))) (by exact xr_assign rfl rfl) rfl rfl rfl ?_
              refine ol_nil ?_
              obtain ⟨g35, h⟩ := gs h
              obtain ⟨g36, h⟩ := gs h
              refine cw_drawL 12 [fun vz wz => vz = (.int .i64 (IntKind.i64.wrap ((ix a1 s16.1) - (IntKind.i64.wrap (384 * a0)))) : Value), fun vz wz => vz = (.int .i64 (IntKind.i64.wrap (Int.tdiv (IntKind.i64.wrap ((ix a1 s16.1) - (IntKind.i64.wrap (384 * a0)))) 8)) : Value), fun vz wz => vz = (.int .i64 (IntKind.i64.wrap ((ix a1 s16.1) - (IntKind.i64.wrap (384 * a0)))) : Value), fun vz wz => vz = (.int .i64 (IntKind.i64.wrap (Int.tdiv (IntKind.i64.wrap ((ix a1 s16.1) - (IntKind.i64.wrap (384 * a0)))) 8)) : Value), fun vz wz => vz = (.pointer (some ⟨G7, 1, none⟩) : Value), fun vz wz => vz = (.pointer (some ⟨G7, 1 + Int.toNat (IntKind.i64.wrap (Int.tdiv (IntKind.i64.wrap ((ix a1 s16.1) - (IntKind.i64.wrap (384 * a0)))) 8)) * 1, none⟩) : Value), fun vz wz => vz = (.int .u8 (Arr.get s16.2.Bits (IntKind.i64.wrap (Int.tdiv (IntKind.i64.wrap ((ix a1 s16.1) - (IntKind.i64.wrap (384 * a0)))) 8))) : Value), fun vz wz => vz = (.int .i64 (IntKind.i64.wrap ((ix a1 s16.1) - (IntKind.i64.wrap (384 * a0)))) : Value), fun vz wz => vz = (.int .i64 (Int.tmod (IntKind.i64.wrap ((ix a1 s16.1) - (IntKind.i64.wrap (384 * a0)))) 8) : Value), fun vz wz => vz = (.int .u8 (shL .u8 1 (Int.tmod (IntKind.i64.wrap ((ix a1 s16.1) - (IntKind.i64.wrap (384 * a0)))) 8)) : Value), fun vz wz => vz = (.int .u8 (bOr .u8 (Arr.get s16.2.Bits (IntKind.i64.wrap (Int.tdiv (IntKind.i64.wrap ((ix a1 s16.1) - (IntKind.i64.wrap (384 * a0)))) 8))) (shL .u8 1 (Int.tmod (IntKind.i64.wrap ((ix a1 s16.1) - (IntKind.i64.wrap (384 * a0)))) 8))) : Value), fun vz wz => vz = (.pointer (some ⟨G7, 1, none⟩) : Value)] mo rfl ⟨fun _ _ _ h _ => h, fun _ _ _ h _ => h, fun _ _ _ h _ => h, fun _ _ _ h _ => h, fun _ _ _ h _ => h, fun _ _ _ h _ => h, fun _ _ _ h _ => h, fun _ _ _ h _ => h, fun _ _ _ h _ => h, fun _ _ _ h _ => h, fun _ _ _ h _ => h, fun _ _ _ h _ => h, trivial⟩ ?_ ?_
              · refine ⟨?_, ?_, ?_, ?_, ?_, ?_, ?_, ?_, ?_, ?_, ?_, ?_, trivial⟩
                · intro ρz wz hz hk hd
                  exact sk_val (by exact xr_move rfl ((hk 7 rfl).trans rfl)) rfl rfl
                · intro ρz wz hz hk hd
                  have d40 := hd 0 rfl 40 rfl
                  exact sk_val (by exact xr_quo rfl d40 rfl (by decide)) rfl rfl
                · intro ρz wz hz hk hd
                  exact sk_val (by exact xr_move rfl ((hk 7 rfl).trans rfl)) rfl rfl
                · intro ρz wz hz hk hd
                  have d42 := hd 2 rfl 42 rfl
                  exact sk_val (by exact xr_quo rfl d42 rfl (by decide)) rfl rfl
                · intro ρz wz hz hk hd
                  exact sk_val (v := .pointer (some ⟨G7, 1, none⟩)) (by exact xr_fieldAddr (p := 0) (q := 1) rfl fl81_1 ((hk 5 rfl).trans e5)) rfl rfl
                · intro ρz wz hz hk hd
                  have d44 := hd 4 rfl 44 rfl
                  have d43 := hd 3 rfl 43 rfl
                  exact sk_val (by exact xr_indexA (p := 1) (s := 1) rfl Try.underlying79 sz5 d44 d43 g35.1 g35.2) rfl rfl
                · intro ρz wz hz hk hd
                  have d45 := hd 5 rfl 45 rfl
                  exact sk_val (by exact xr_load1 (v := .int .u8 (Arr.get s16.2.Bits (IntKind.i64.wrap (Int.tdiv (IntKind.i64.wrap ((ix a1 s16.1) - (IntKind.i64.wrap (384 * a0)))) 8)))) rfl ag5 d45 (At.arr (a := s16.2.Bits) ((b8.gr hz).seg 1 rfl rfl) g35.1 g35.2)) rfl rfl
                · intro ρz wz hz hk hd
                  exact sk_val (by exact xr_move rfl ((hk 7 rfl).trans rfl)) rfl rfl
                · intro ρz wz hz hk hd
                  have d47 := hd 7 rfl 47 rfl
                  exact sk_val (by exact xr_rem rfl d47 rfl (by decide)) rfl rfl
                · intro ρz wz hz hk hd
                  have d48 := hd 8 rfl 48 rfl
                  exact sk_val (by exact xr_shl rfl rfl d48 g36) rfl rfl
                · intro ρz wz hz hk hd
                  have d46 := hd 6 rfl 46 rfl
                  have d49 := hd 9 rfl 49 rfl
                  exact sk_val (by exact xr_or rfl d46 d49) rfl rfl
                · intro ρz wz hz hk hd
                  exact sk_val (v := .pointer (some ⟨G7, 1, none⟩)) (by exact xr_fieldAddr (p := 0) (q := 1) rfl fl81_1 ((hk 5 rfl).trans e5)) rfl rfl
              · intro ρ37 w38 q39 hk hd
                have e0 := (hk 0 rfl).trans e0
                have e1 := (hk 1 rfl).trans e1
                have e4 := (hk 4 rfl).trans e4
                have e5 := (hk 5 rfl).trans e5
                have e6 := (hk 6 rfl).trans e6
                have e41 := hd 1 rfl 41 rfl
                have e50 := hd 10 rfl 50 rfl
                have e51 := hd 11 rfl 51 rfl
                have b2 := b2.gr q39
                have b8 := b8.gr q39
                have fB := fB.gr q39
                obtain ⟨g40, h⟩ := gs h
                refine ol_val (v := .pointer (some ⟨G7, 1 + Int.toNat (IntKind.i64.wrap (Int.tdiv (IntKind.i64.wrap ((ix a1 s16.1) - (IntKind.i64.wrap (384 * a0)))) 8)) * 1, none⟩)) (by exact xr_indexA (p := 1) (s := 1) rfl Try.underlying79 sz5 e51 e41 g40.1 g40.2) rfl rfl rfl ?_
                refine ol_op0 (by exact opv_store (ss' := [Seg.cell (.int .i64 s16.2.Place), Kd.seg (kA 48 (kI .u8)) (Arr.set s16.2.Bits (IntKind.i64.wrap (Int.tdiv (IntKind.i64.wrap ((ix a1 s16.1) - (IntKind.i64.wrap (384 * a0)))) 8)) (bOr .u8 (Arr.get s16.2.Bits (IntKind.i64.wrap (Int.tdiv (IntKind.i64.wrap ((ix a1 s16.1) - (IntKind.i64.wrap (384 * a0)))) 8))) (shL .u8 1 (Int.tmod (IntKind.i64.wrap ((ix a1 s16.1) - (IntKind.i64.wrap (384 * a0)))) 8))))]) (xs := cellsOf [Seg.cell (.int .u8 (bOr .u8 (Arr.get s16.2.Bits (IntKind.i64.wrap (Int.tdiv (IntKind.i64.wrap ((ix a1 s16.1) - (IntKind.i64.wrap (384 * a0)))) 8))) (shL .u8 1 (Int.tmod (IntKind.i64.wrap ((ix a1 s16.1) - (IntKind.i64.wrap (384 * a0)))) 8))))]) rfl sz5 rfl e50 rfl (len_cellsOf _) (one_cellsOf _) b8 (Spl.seg_in _ 1 (Kd.seg (kA 48 (kI .u8)) (Arr.set s16.2.Bits (IntKind.i64.wrap (Int.tdiv (IntKind.i64.wrap ((ix a1 s16.1) - (IntKind.i64.wrap (384 * a0)))) 8)) (bOr .u8 (Arr.get s16.2.Bits (IntKind.i64.wrap (Int.tdiv (IntKind.i64.wrap ((ix a1 s16.1) - (IntKind.i64.wrap (384 * a0)))) 8))) (shL .u8 1 (Int.tmod (IntKind.i64.wrap ((ix a1 s16.1) - (IntKind.i64.wrap (384 * a0)))) 8))))) rfl rfl (Spl.arr s16.2.Bits (IntKind.i64.wrap (Int.tdiv (IntKind.i64.wrap ((ix a1 s16.1) - (IntKind.i64.wrap (384 * a0)))) 8)) (bOr .u8 (Arr.get s16.2.Bits (IntKind.i64.wrap (Int.tdiv (IntKind.i64.wrap ((ix a1 s16.1) - (IntKind.i64.wrap (384 * a0)))) 8))) (shL .u8 1 (Int.tmod (IntKind.i64.wrap ((ix a1 s16.1) - (IntKind.i64.wrap (384 * a0)))) 8))) g40.1 g40.2 (Spl.whole ((Kd.len _ _).trans (Kd.len _ _).symm))))) rfl rfl ?_
                rintro _ w42 ⟨b8, q41⟩
                have b2 := b2.wr q41 n13
                have fB := fB.wr q41 z10
                refine ol_nil ?_
                obtain rfl := Option.some.inj h
                refine thn_i ?_
                exact ⟨e0, e1, e4, e5, e6, b2, b8, fB⟩
            · refine cw_condF e32 c33 ?_
              refine cw_skip ?_
              obtain rfl := Option.some.inj h
              refine thn_i ?_
              exact ⟨e0, e1, e4, e5, e6, b2, b8, fB⟩
          · rintro ρ43 w44 ⟨e0, e1, e4, e5, e6, b2, b8, fB⟩
            have h := h32
            refine blk_i ?_
            refine cw_region ?_
            refine ol_val (v := .int .i64 s16.1) (by exact xr_move rfl e6) rfl rfl rfl ?_
            refine ol_val (v := .int .i64 (IntKind.i64.wrap (s16.1 + 1))) (by exact xr_add rfl rfl rfl) rfl rfl rfl ?_
            refine ol_val (v := .int .i64 (IntKind.i64.wrap (s16.1 + 1))) (by exact xr_assign rfl rfl) rfl rfl rfl ?_
            refine ol_nil ?_
            obtain rfl := Option.some.inj h
            refine lp_in ?_
            exact ⟨e0, e1, e4, e5, rfl, b2, b8, fB⟩
      · refine cw_condF rfl c23 ?_
        refine cw_exit ?_
        repeat (first | with_reducible refine thn_e ?_ | with_reducible refine blk_e rfl ?_)
        obtain rfl := Option.some.inj h
        refine lp_exit ?_
        rintro rfl
        refine thn_x ?_
        exact ⟨e4, e5, b2, b8, fB⟩
  · rintro ρ45 w46 ⟨e4, e5, b2, b8, fB⟩
    have h := h19
    refine cw_seq ?_
    refine cw_region ?_
    refine ol_val (v := aggV [Seg.cell (.int .i64 e17.Place), Kd.seg (kA 48 (kI .u8)) e17.Bits]) (by exact xr_loadS (ss := [Seg.cell (.int .i64 e17.Place), Kd.seg (kA 48 (kI .u8)) e17.Bits]) rfl ag81 sz81 rfl e5 (b8.segs 0 2 rfl)) rfl rfl rfl ?_
    refine ol_op0 (by exact opv_store (ss' := [Seg.cell (.int .i64 e17.Place), Kd.seg (kA 48 (kI .u8)) e17.Bits]) (xs := cellsOf [Seg.cell (.int .i64 e17.Place), Kd.seg (kA 48 (kI .u8)) e17.Bits]) rfl sz81 e4 rfl rfl (len_cellsOf _) (one_cellsOf _) b2 (Spl.segs _ 0 2 [Seg.cell (.int .i64 e17.Place), Kd.seg (kA 48 (kI .u8)) e17.Bits] rfl rfl)) rfl rfl ?_
    rintro _ w48 ⟨b2, q47⟩
    have fB := fB.wr q47 z4
    refine ol_nil ?_
    refine cw_ret ?_
    repeat (first | with_reducible refine thn_r ?_ | with_reducible refine blk_r ?_)
    obtain rfl := Option.some.inj h
    refine fin_cell Try.results64 e4 ag81 sz81 b2 (by rfl) ?_
    exact ⟨_, rfl, rfl, fB⟩
end Go.Proofs.Ytjhajfkfhdnciaa
