/- PressActs: texts merged, part 2 of 8. The last part proves that the law PressActs holds for every input. -/
import Derived.Test.YtklhbaghbmndeaaPkPressActs1
import Derived.Test.YtklhbaghbmndeaaProg
import Derived.KernelRfl
set_option linter.unusedVariables false
set_option linter.unusedSimpArgs false
namespace Go.Proofs.Ytklhbaghbmndeaa
open Go Go.Xw
structure S_rickyardlaw05_Act where
  Kind : Int
  At : Int
  W : Int
  L : List Int
deriving DecidableEq, Inhabited
structure S_rickyardlaw05_Fenced where
  Line : Int
  Ws : Arr 8 Int
  Acts : List S_rickyardlaw05_Act
  L : List Int
deriving DecidableEq, Inhabited
structure S_pmem_cell where
  lasts : Int
  stored : Int
  sent : Int
  flushed : Bool
deriving DecidableEq, Inhabited
def segs_pmem_cell (x : S_pmem_cell) : List Seg := [Seg.cell (.int .u64 x.lasts), Seg.cell (.int .u64 x.stored), Seg.cell (.int .u64 x.sent), Seg.cell (.bool x.flushed)]
def k_pmem_cell : Kd S_pmem_cell := kT segs_pmem_cell 4 (fun _ => rfl)
structure S_pmem_plan where
  list : List Int
  at_ : Int
deriving DecidableEq, Inhabited
structure S_pmem_Device where
  cells : List S_pmem_cell
  plan : S_pmem_plan
  off : Bool
  armed : Bool
  left : Int
  steps : Int
deriving DecidableEq, Inhabited
structure S_api_Fate where
  At : Int
  Lasts : Int
  Flushed : Bool
  Sent : Int
  Stored : Int
deriving DecidableEq, Inhabited
def segs_api_Fate (x : S_api_Fate) : List Seg := [Seg.cell (.int .i64 x.At), Seg.cell (.int .u64 x.Lasts), Seg.cell (.bool x.Flushed), Seg.cell (.int .u64 x.Sent), Seg.cell (.int .u64 x.Stored)]
def k_api_Fate : Kd S_api_Fate := kT segs_api_Fate 5 (fun _ => rfl)
structure S_rickyardref05_Device where
  Lasts : List Int
  Stored : List Int
  Sent : List Int
  Flushed : List Bool
  Plan : List Int
  Since : Int
  Left : Int
  Steps : Int
deriving DecidableEq, Inhabited
structure S_rickyardlaw15_Act where
  Kind : Int
  At : Int
  I : Int
  B : List Int
  A : S_rickyardlaw05_Act
deriving DecidableEq, Inhabited
structure S_api_Geometry where
  Blocks : Int
  Slots : Int
  Gens : Int
deriving DecidableEq, Inhabited
structure S_api_Tickets where
  Geometry : S_api_Geometry
  Top : Int
  High : Int
  Free : Int
deriving DecidableEq, Inhabited
structure S_api_Super where
  Epoch : Int
  Tickets : S_api_Tickets
  Dir : Int
  Charts : List Int
deriving DecidableEq, Inhabited
structure S_super_reader where
  rest : List Int
deriving DecidableEq, Inhabited
structure S_rickyardlaw16_Cut where
  Steps : Int
  Plan : List Int
  L : List Int
deriving DecidableEq, Inhabited
def D_rickyardlaw05_Act (w : World) (cs : List Value) (m : S_rickyardlaw05_Act) : Prop := ∃ V0 : Value, ∃ R0 : Rd (kI .i64) w V0 m.L, cs = cellsOf [Seg.cell (.int .i64 m.Kind), Seg.cell (.int .i64 m.At), Seg.cell (.int .u64 m.W), Seg.cell V0 R0.one]
theorem D_rickyardlaw05_Act.gr {w w' : World} {cs : List Value} {m : S_rickyardlaw05_Act} : D_rickyardlaw05_Act w cs m → Gr w w' → D_rickyardlaw05_Act w' cs m := fun ⟨V0, R0, e⟩ q => ⟨V0, R0.gr q, e⟩
def D_rickyardlaw15_Act (w : World) (cs : List Value) (m : S_rickyardlaw15_Act) : Prop := ∃ V0 : Value, ∃ R0 : Rd (kI .u8) w V0 m.B, ∃ V1 : Value, ∃ R1 : Rd (kI .i64) w V1 m.A.L, cs = cellsOf [Seg.cell (.int .i64 m.Kind), Seg.cell (.int .i64 m.At), Seg.cell (.int .i64 m.I), Seg.cell V0 R0.one, Seg.cell (.int .i64 m.A.Kind), Seg.cell (.int .i64 m.A.At), Seg.cell (.int .u64 m.A.W), Seg.cell V1 R1.one]
theorem D_rickyardlaw15_Act.gr {w w' : World} {cs : List Value} {m : S_rickyardlaw15_Act} : D_rickyardlaw15_Act w cs m → Gr w w' → D_rickyardlaw15_Act w' cs m := fun ⟨V0, R0, V1, R1, e⟩ q => ⟨V0, R0.gr q, V1, R1.gr q, e⟩
theorem N_rickyardlaw15_Act {w : World} {v : Value} {l : List S_rickyardlaw15_Act} (h : RdN 8 D_rickyardlaw15_Act w v l) {i : Int} (h0 : 0 ≤ i) (h1 : i < (l.length : Int)) : At w (sb v) (so v + Int.toNat i * 8) ((Seg.l (Seg.cell (.int .i64 ((ix l i).Kind)))) ++ ((Seg.l (Seg.cell (.int .i64 ((ix l i).At)))) ++ ((Seg.l (Seg.cell (.int .i64 ((ix l i).I)))) ++ ([(cellAt w (sb v) (so v + Int.toNat i * 8 + 3))] ++ ((Seg.l (Seg.cell (.int .i64 ((ix l i).A.Kind)))) ++ ((Seg.l (Seg.cell (.int .i64 ((ix l i).A.At)))) ++ ((Seg.l (Seg.cell (.int .u64 ((ix l i).A.W)))) ++ ([(cellAt w (sb v) (so v + Int.toNat i * 8 + 7))] ++ ([] : List Value))))))))) ∧ Rd (kI .u8) w (cellAt w (sb v) (so v + Int.toNat i * 8 + 3)) ((ix l i).B) ∧ Rd (kI .i64) w (cellAt w (sb v) (so v + Int.toNat i * 8 + 7)) ((ix l i).A.L) := by
  obtain ⟨_, A, V0, R0, V1, R1, rfl⟩ := RdN.at h h0 h1
  have e0 : (cellAt w (sb v) (so v + Int.toNat i * 8 + 3)) = V0 := A.cellAt (j := 3) rfl
  have e1 : (cellAt w (sb v) (so v + Int.toNat i * 8 + 7)) = V1 := A.cellAt (j := 7) rfl
  rw [e0, e1]
  exact ⟨A, R0, R1⟩
theorem ze23 : (Try.prog.info? 23).map (·.zero) = some (some (aggV [Kd.seg (kA 8 (kI .u64)) (Arr.rep 8 (0 : Int))])) := by kernel_rfl
theorem mo : Try.prog.follows .mixedOrders = true := by kernel_rfl
theorem el142 : elB Try.prog 142 = some (some (aggV [Seg.cell (.int .u64 (0 : Int)), Seg.cell (.int .u64 (0 : Int)), Seg.cell (.int .u64 (0 : Int)), Seg.cell (.bool false)]), 4, 32) := by kernel_rfl
theorem pl139 : placesB Try.prog 139 = some [(0, 1), (1, 2), (3, 1), (4, 1), (5, 1), (6, 1)] := by kernel_rfl
theorem ze139 : (Try.prog.info? 139).map (·.zero) = some (some (aggV [Seg.cell (.slice none 0 0) (by rfl), Seg.cell (.slice none 0 0) (by rfl), Seg.cell (.int .i64 (0 : Int)), Seg.cell (.bool false), Seg.cell (.bool false), Seg.cell (.int .i64 (0 : Int)), Seg.cell (.int .i64 (0 : Int))])) := by kernel_rfl
theorem cal26 : calB Try.prog 26 = some true := by kernel_rfl
theorem fl139_0 : fldB Try.prog 139 0 = some 0 := by kernel_rfl
theorem ag135 : aggB Try.prog 135 = some false := by kernel_rfl
theorem fl139_2 : fldB Try.prog 139 2 = some 3 := by kernel_rfl
theorem ag4 : aggB Try.prog 4 = some false := by kernel_rfl
theorem cal83 : calB Try.prog 83 = some true := by kernel_rfl
theorem sz142 : szB Try.prog 142 = some 4 := by kernel_rfl
theorem fl142_1 : fldB Try.prog 142 1 = some 1 := by kernel_rfl
theorem sz22 : szB Try.prog 22 = some 1 := by kernel_rfl
theorem fl139_5 : fldB Try.prog 139 5 = some 6 := by kernel_rfl
theorem ag3 : aggB Try.prog 3 = some false := by kernel_rfl
theorem sz3 : szB Try.prog 3 = some 1 := by kernel_rfl
theorem fl139_1 : fldB Try.prog 139 1 = some 1 := by kernel_rfl
theorem fl137_0 : fldB Try.prog 137 0 = some 0 := by kernel_rfl
theorem ag25 : aggB Try.prog 25 = some false := by kernel_rfl
theorem fl137_1 : fldB Try.prog 137 1 = some 1 := by kernel_rfl
theorem cal123 : calB Try.prog 123 = some true := by kernel_rfl
theorem ag22 : aggB Try.prog 22 = some false := by kernel_rfl
theorem fl142_0 : fldB Try.prog 142 0 = some 0 := by kernel_rfl
theorem fl142_2 : fldB Try.prog 142 2 = some 2 := by kernel_rfl
theorem fl142_3 : fldB Try.prog 142 3 = some 3 := by kernel_rfl
theorem sz4 : szB Try.prog 4 = some 1 := by kernel_rfl
theorem cal85 : calB Try.prog 85 = some true := by kernel_rfl
theorem fl139_3 : fldB Try.prog 139 3 = some 4 := by kernel_rfl
theorem fl139_4 : fldB Try.prog 139 4 = some 5 := by kernel_rfl
theorem cal84 : calB Try.prog 84 = some true := by kernel_rfl
theorem cal28 : calB Try.prog 28 = some true := by kernel_rfl
theorem cal43 : calB Try.prog 43 = some true := by kernel_rfl
theorem cal29 : calB Try.prog 29 = some true := by kernel_rfl
theorem cal30 : calB Try.prog 30 = some true := by kernel_rfl
theorem cal86 : calB Try.prog 86 = some true := by kernel_rfl
theorem cal87 : calB Try.prog 87 = some true := by kernel_rfl
theorem bl137_  (w : World) : (Instr.build 137 ([] : List (Nat × Value)).toArray).run Try.prog w = .ok (aggV [Seg.cell (.slice none 0 0) (by rfl), Seg.cell (.int .i64 (0 : Int))]) w := by kernel_rfl
theorem sz137 : szB Try.prog 137 = some 2 := by kernel_rfl
theorem cal32 : calB Try.prog 32 = some true := by kernel_rfl
theorem cal82 : calB Try.prog 82 = some true := by kernel_rfl
theorem sz39 : szB Try.prog 39 = some 4 := by kernel_rfl
theorem fl39_3 : fldB Try.prog 39 3 = some 3 := by kernel_rfl
theorem cal27 : calB Try.prog 27 = some true := by kernel_rfl
theorem fl39_0 : fldB Try.prog 39 0 = some 0 := by kernel_rfl
theorem fl39_1 : fldB Try.prog 39 1 = some 1 := by kernel_rfl
theorem ag39 : aggB Try.prog 39 = some true := by kernel_rfl
theorem fl39_2 : fldB Try.prog 39 2 = some 2 := by kernel_rfl
theorem cal38 : calB Try.prog 38 = some true := by kernel_rfl
theorem el3 : elB Try.prog 3 = some (some (.int .i64 (0 : Int)), 1, 8) := by kernel_rfl
theorem cal90 : calB Try.prog 90 = some true := by kernel_rfl
theorem pl137 : placesB Try.prog 137 = some [(0, 1), (1, 1)] := by kernel_rfl
theorem ze137 : (Try.prog.info? 137).map (·.zero) = some (some (aggV [Seg.cell (.slice none 0 0) (by rfl), Seg.cell (.int .i64 (0 : Int))])) := by kernel_rfl
theorem cal35 : calB Try.prog 35 = some true := by kernel_rfl
theorem cal31 : calB Try.prog 31 = some true := by kernel_rfl
theorem el22 : elB Try.prog 22 = some (some (.int .u64 (0 : Int)), 1, 8) := by kernel_rfl
theorem cal89 : calB Try.prog 89 = some true := by kernel_rfl
theorem el5 : elB Try.prog 5 = some (some (.int .u8 (0 : Int)), 1, 1) := by kernel_rfl
theorem sz5 : szB Try.prog 5 = some 1 := by kernel_rfl
theorem cal128 : calB Try.prog 128 = some true := by kernel_rfl
theorem cal104 : calB Try.prog 104 = some true := by kernel_rfl
theorem cal88 : calB Try.prog 88 = some true := by kernel_rfl
theorem cal33 : calB Try.prog 33 = some true := by kernel_rfl
theorem cal34 : calB Try.prog 34 = some true := by kernel_rfl
theorem cal91 : calB Try.prog 91 = some true := by kernel_rfl
theorem cal36 : calB Try.prog 36 = some true := by kernel_rfl
theorem cal37 : calB Try.prog 37 = some true := by kernel_rfl
theorem bl55_0_1_2_3_4 (x0 : Int) (x1 : Int) (x2 : Bool) (x3 : Int) (x4 : Int) (w : World) : (Instr.build 55 ([(0, .int .i64 x0), (1, .int .u64 x1), (2, .bool x2), (3, .int .u64 x3), (4, .int .u64 x4)] : List (Nat × Value)).toArray).run Try.prog w = .ok (aggV [Seg.cell (.int .i64 x0), Seg.cell (.int .u64 x1), Seg.cell (.bool x2), Seg.cell (.int .u64 x3), Seg.cell (.int .u64 x4)]) w := by kernel_rfl
theorem el55 : elB Try.prog 55 = some (some (aggV [Seg.cell (.int .i64 (0 : Int)), Seg.cell (.int .u64 (0 : Int)), Seg.cell (.bool false), Seg.cell (.int .u64 (0 : Int)), Seg.cell (.int .u64 (0 : Int))]), 5, 40) := by kernel_rfl
theorem cal40 : calB Try.prog 40 = some true := by kernel_rfl
theorem sz55 : szB Try.prog 55 = some 5 := by kernel_rfl
theorem fl55_0 : fldB Try.prog 55 0 = some 0 := by kernel_rfl
theorem cal41 : calB Try.prog 41 = some true := by kernel_rfl
theorem ag55 : aggB Try.prog 55 = some true := by kernel_rfl
theorem fl55_4 : fldB Try.prog 55 4 = some 4 := by kernel_rfl
theorem fl55_2 : fldB Try.prog 55 2 = some 2 := by kernel_rfl
theorem fl55_3 : fldB Try.prog 55 3 = some 3 := by kernel_rfl
theorem fl55_1 : fldB Try.prog 55 1 = some 1 := by kernel_rfl
theorem cal42 : calB Try.prog 42 = some true := by kernel_rfl
theorem el4 : elB Try.prog 4 = some (some (.bool false), 1, 1) := by kernel_rfl
theorem pl65 : placesB Try.prog 65 = some [(0, 1), (1, 1), (2, 1), (3, 1), (4, 1), (5, 1), (6, 1), (7, 1)] := by kernel_rfl
theorem ze65 : (Try.prog.info? 65).map (·.zero) = some (some (aggV [Seg.cell (.slice none 0 0) (by rfl), Seg.cell (.slice none 0 0) (by rfl), Seg.cell (.slice none 0 0) (by rfl), Seg.cell (.slice none 0 0) (by rfl), Seg.cell (.slice none 0 0) (by rfl), Seg.cell (.int .i64 (0 : Int)), Seg.cell (.int .i64 (0 : Int)), Seg.cell (.int .i64 (0 : Int))])) := by kernel_rfl
theorem cal44 : calB Try.prog 44 = some true := by kernel_rfl
theorem fl65_0 : fldB Try.prog 65 0 = some 0 := by kernel_rfl
theorem ag46 : aggB Try.prog 46 = some false := by kernel_rfl
theorem fl65_6 : fldB Try.prog 65 6 = some 6 := by kernel_rfl
theorem cal124 : calB Try.prog 124 = some true := by kernel_rfl
theorem fl65_1 : fldB Try.prog 65 1 = some 1 := by kernel_rfl
theorem fl65_4 : fldB Try.prog 65 4 = some 4 := by kernel_rfl
theorem fl65_5 : fldB Try.prog 65 5 = some 5 := by kernel_rfl
theorem fl65_2 : fldB Try.prog 65 2 = some 2 := by kernel_rfl
theorem fl65_3 : fldB Try.prog 65 3 = some 3 := by kernel_rfl
theorem ag63 : aggB Try.prog 63 = some false := by kernel_rfl
theorem cal126 : calB Try.prog 126 = some true := by kernel_rfl
theorem fl65_7 : fldB Try.prog 65 7 = some 7 := by kernel_rfl
theorem cal125 : calB Try.prog 125 = some true := by kernel_rfl
theorem cal92 : calB Try.prog 92 = some true := by kernel_rfl
theorem cal93 : calB Try.prog 93 = some true := by kernel_rfl
theorem cal94 : calB Try.prog 94 = some true := by kernel_rfl
theorem cal95 : calB Try.prog 95 = some true := by kernel_rfl
theorem cal96 : calB Try.prog 96 = some true := by kernel_rfl
theorem sz25 : szB Try.prog 25 = some 1 := by kernel_rfl
theorem cal97 : calB Try.prog 97 = some true := by kernel_rfl
theorem cal47 : calB Try.prog 47 = some true := by kernel_rfl
theorem cal98 : calB Try.prog 98 = some true := by kernel_rfl
theorem cal45 : calB Try.prog 45 = some true := by kernel_rfl
theorem eqa55 : EqA Try.prog 55 k_api_Fate 2 := by
  refine eqa_struct Try.underlying55 Try.stoodInHeld55 ?_
  intro d w a b
  have e : decide (a = b) = (decide (a.At = b.At) && (decide (a.Lasts = b.Lasts) && (decide (a.Flushed = b.Flushed) && (decide (a.Sent = b.Sent) && (decide (a.Stored = b.Stored) && true))))) := by
    cases a
    cases b
    rw [Bool.eq_iff_iff]
    simp
  rw [e]
  refine eqf_cons (by decide) (by exact (eqk_int Try.underlying3) (d + 0) w _ _ _ a.At b.At ((chunk_segs (segs_api_Fate a) 0 1 rfl rfl)) ((chunk_segs (segs_api_Fate b) 0 1 rfl rfl))) ?_
  refine eqf_cons (by decide) (by exact (eqk_int Try.underlying22) (d + 0) w _ _ _ a.Lasts b.Lasts ((chunk_segs (segs_api_Fate a) 1 1 rfl rfl)) ((chunk_segs (segs_api_Fate b) 1 1 rfl rfl))) ?_
  refine eqf_cons (by decide) (by exact (eqk_bool Try.underlying4) (d + 0) w _ _ _ a.Flushed b.Flushed ((chunk_segs (segs_api_Fate a) 2 1 rfl rfl)) ((chunk_segs (segs_api_Fate b) 2 1 rfl rfl))) ?_
  refine eqf_cons (by decide) (by exact (eqk_int Try.underlying22) (d + 0) w _ _ _ a.Sent b.Sent ((chunk_segs (segs_api_Fate a) 3 1 rfl rfl)) ((chunk_segs (segs_api_Fate b) 3 1 rfl rfl))) ?_
  refine eqf_cons (by decide) (by exact (eqk_int Try.underlying22) (d + 0) w _ _ _ a.Stored b.Stored ((chunk_segs (segs_api_Fate a) 4 1 rfl rfl)) ((chunk_segs (segs_api_Fate b) 4 1 rfl rfl))) ?_
  exact eqf_nil
theorem cal46 : calB Try.prog 46 = some true := by kernel_rfl
theorem ag5 : aggB Try.prog 5 = some false := by kernel_rfl
theorem cal109 : calB Try.prog 109 = some true := by kernel_rfl
theorem cal99 : calB Try.prog 99 = some true := by kernel_rfl
theorem cal101 : calB Try.prog 101 = some true := by kernel_rfl
theorem cal102 : calB Try.prog 102 = some true := by kernel_rfl
theorem cal103 : calB Try.prog 103 = some true := by kernel_rfl
theorem cal53 : calB Try.prog 53 = some true := by kernel_rfl
theorem cal54 : calB Try.prog 54 = some true := by kernel_rfl
theorem cal55 : calB Try.prog 55 = some true := by kernel_rfl
theorem cal52 : calB Try.prog 52 = some true := by kernel_rfl
theorem cal56 : calB Try.prog 56 = some true := by kernel_rfl
theorem cal57 : calB Try.prog 57 = some true := by kernel_rfl
theorem sz85 : szB Try.prog 85 = some 8 := by kernel_rfl
theorem fl85_3 : fldB Try.prog 85 3 = some 3 := by kernel_rfl
theorem ag43 : aggB Try.prog 43 = some false := by kernel_rfl
theorem fl85_4 : fldB Try.prog 85 4 = some 4 := by kernel_rfl
theorem cal58 : calB Try.prog 58 = some true := by kernel_rfl
theorem ag85 : aggB Try.prog 85 = some true := by kernel_rfl
theorem fl85_0 : fldB Try.prog 85 0 = some 0 := by kernel_rfl
theorem fl85_1 : fldB Try.prog 85 1 = some 1 := by kernel_rfl
theorem cal129 : calB Try.prog 129 = some true := by kernel_rfl
theorem cal105 : calB Try.prog 105 = some true := by kernel_rfl
theorem fl85_2 : fldB Try.prog 85 2 = some 2 := by kernel_rfl
theorem cal106 : calB Try.prog 106 = some true := by kernel_rfl
theorem cal137 : calB Try.prog 137 = some true := by kernel_rfl
theorem cal117 : calB Try.prog 117 = some true := by kernel_rfl
theorem cal107 : calB Try.prog 107 = some true := by kernel_rfl
theorem cal59 : calB Try.prog 59 = some true := by kernel_rfl
def pmem_New.f (fu : Nat) (a0 : Int) : Option ((Option S_pmem_Device) × Int) := (if (if (decide (a0 < 0)) = true then true else (decide (a0 > 4096))) = true then some (none, 2) else (if 0 ≤ (IntKind.i64.wrap (a0 * 8)) ∧ Int.toNat (IntKind.i64.wrap (a0 * 8)) ≤ LIM then some ((some (⟨(List.replicate (Int.toNat (IntKind.i64.wrap (a0 * 8))) (⟨(0 : Int), (0 : Int), (0 : Int), false⟩ : S_pmem_cell)), (⟨[], (0 : Int)⟩ : S_pmem_plan), false, false, (0 : Int), (0 : Int)⟩ : S_pmem_Device)), 0) else none))
set_option maxRecDepth 100000 in
set_option maxHeartbeats 400000 in
theorem pmem_New.ok (fu : Nat) (w : World) (a0 : Int) (r : (Option S_pmem_Device) × Int) (h : pmem_New.f fu a0 = some r) :
  Calls Try.prog 26 (([.int .i64 a0] : List Value).toArray) w (fun e w' => ∃ v, e = .returned v ∧ ∃ u1 : Value, ∃ p2 : (r.1 = none → u1 = .pointer none) ∧ ∀ m9, r.1 = some m9 → ∃ G9 : Nat, ∃ U0 : Value, ∃ U1 : Value, ∃ O0 : Own k_pmem_cell 142 w' w.heap.size U0 m9.cells, ∃ O1 : Own (kI .i64) 3 w' w.heap.size U1 m9.plan.list, u1 = .pointer (some ⟨G9, 0, none⟩) ∧ w.heap.size ≤ G9 ∧ Blk w' G9 139 [Seg.cell U0 O0.one, Seg.cell U1 O1.one, Seg.cell (.int .i64 m9.plan.at_), Seg.cell (.bool m9.off), Seg.cell (.bool m9.armed), Seg.cell (.int .i64 m9.left), Seg.cell (.int .i64 m9.steps)], v = .tuple #[u1, .int .i64 r.2] ∧ Gr w w') := by
 unfold pmem_New.f at h
 have fB : Gr w w := Fr.refl _ _
 refine calls_cw Try.func26 rfl Try.ntmps26 rfl ?_
 refine cw_seq ?_
 refine cw_region ?_
 refine ol_val (v := .pointer none) (by exact xr_assign rfl rfl) rfl rfl rfl ?_
 refine ol_val (v := .int .i64 0) (by exact xr_assign rfl rfl) rfl rfl rfl ?_
 refine ol_nil ?_
 refine cw_seq ?_
 refine cw_seq ?_
 refine cw_mid (fun ρ' w' => ρ' 0 = .int .i64 a0 ∧ ρ' 9 = .bool (if (decide (a0 < 0)) = true then true else (decide (a0 > 4096))) ∧ w = w') ?_ ?_
 ·skip
  refine cw_region ?_
  refine ol_val (v := .int .i64 a0) (by exact xr_move rfl rfl) rfl rfl rfl ?_
  refine ol_val (v := .bool (decide (a0 < 0))) (by exact xr_lss rfl rfl rfl) rfl rfl rfl ?_
  refine ol_val (v := .bool (decide (a0 < 0))) (by exact xr_move rfl rfl) rfl rfl rfl ?_
  rcases bt (decide (a0 < 0)) with c3 | c3
  ·skip
   refine ol_gskip rfl rfl rfl rfl rfl c3 ?_
   refine ol_gskip rfl rfl rfl rfl rfl c3 ?_
   refine ol_val (v := .bool true) (by exact xr_pickT rfl rfl c3 rfl) rfl rfl rfl ?_
   refine ol_nil ?_
   refine thn_i ?_
   exact ⟨rfl, (rfl).trans (congrArg (fun z => (.bool z : Value)) (show true = (if (decide (a0 < 0)) = true then true else (decide (a0 > 4096))) from by rw [ite_t c3])), rfl⟩
  refine ol_gval (v := .int .i64 a0) (by exact xr_move rfl rfl) rfl rfl rfl rfl rfl c3 ?_
  refine ol_gval (v := .bool (decide (a0 > 4096))) (by exact xr_gtr rfl rfl rfl) rfl rfl rfl rfl rfl c3 ?_
  refine ol_val (v := .bool (decide (a0 > 4096))) (by exact xr_pickF rfl rfl c3 rfl) rfl rfl rfl ?_
  refine ol_nil ?_
  refine thn_i ?_
  exact ⟨rfl, (rfl).trans (congrArg (fun z => (.bool z : Value)) (show (decide (a0 > 4096)) = (if (decide (a0 < 0)) = true then true else (decide (a0 > 4096))) from by rw [ite_f c3])), rfl⟩
 rintro ρ4 _ ⟨e0, e9, rfl⟩
 rcases is h with ⟨c5, h⟩ | ⟨c5, h⟩
 ·refine cw_condT e9 c5 ?_
  refine cw_seq ?_
  refine cw_region ?_
  refine ol_val (v := .pointer none) (by exact xr_assign rfl rfl) rfl rfl rfl ?_
  refine ol_val (v := .int .i64 2) (by exact xr_assign rfl rfl) rfl rfl rfl ?_
  refine ol_nil ?_
  refine cw_ret ?_
  repeat (first | with_reducible refine thn_r ?_ | with_reducible refine blk_r ?_)
  obtain rfl := Option.some.inj h
  refine fin_ret2 Try.results26 rfl rfl ?_
  exact ⟨_, rfl, (.pointer none), ⟨(fun _ => rfl), (fun _ e => by cases e)⟩, rfl, fB⟩
 refine cw_condF e9 c5 ?_
 refine cw_skip ?_
 refine cw_seq ?_
 refine cw_region ?_
 refine ol_val (v := .int .i64 a0) (by exact xr_move rfl e0) rfl rfl rfl ?_
 refine ol_val (v := .int .i64 (IntKind.i64.wrap (a0 * 8))) (by exact xr_mul rfl rfl rfl) rfl rfl rfl ?_
 obtain ⟨g6, h⟩ := gs h
 refine ol_op (by exact opv_make (K := k_pmem_cell) (z := (⟨(0 : Int), (0 : Int), (0 : Int), false⟩ : S_pmem_cell)) rfl Try.underlying135 el142 rfl rfl rfl g6.1 g6.2 rfl fB.size) rfl rfl rfl ?_
 rintro v7 w12 ⟨o9, q8, z10⟩
 have fB := fB.gr q8
 refine ol_val (v := aggV [Seg.cell v7 o9.one, Seg.cell (.slice none 0 0) (by rfl), Seg.cell (.int .i64 (0 : Int)), Seg.cell (.bool false), Seg.cell (.bool false), Seg.cell (.int .i64 (0 : Int)), Seg.cell (.int .i64 (0 : Int))]) (by exact xr_buildS (vals := [(0, v7)]) (res := [Seg.cell v7 o9.one, Seg.cell (.slice none 0 0) (by rfl), Seg.cell (.int .i64 (0 : Int)), Seg.cell (.bool false), Seg.cell (.bool false), Seg.cell (.int .i64 (0 : Int)), Seg.cell (.int .i64 (0 : Int))]) rfl ⟨rfl, rfl, trivial⟩ Try.underlying139 ze139 pl139 (fl_cons (xs := cellsOf [Seg.cell v7 o9.one]) (cs' := cellsOf [Seg.cell v7 o9.one, Seg.cell (.slice none 0 0) (by rfl), Seg.cell (.int .i64 (0 : Int)), Seg.cell (.bool false), Seg.cell (.bool false), Seg.cell (.int .i64 (0 : Int)), Seg.cell (.int .i64 (0 : Int))]) rfl (cells_one o9.one) (len_cellsOf _) (Spl.segs [Seg.cell (.slice none 0 0) (by rfl), Seg.cell (.slice none 0 0) (by rfl), Seg.cell (.int .i64 (0 : Int)), Seg.cell (.bool false), Seg.cell (.bool false), Seg.cell (.int .i64 (0 : Int)), Seg.cell (.int .i64 (0 : Int))] 0 1 [Seg.cell v7 o9.one] rfl rfl) fl_nil)) rfl rfl rfl ?_
 refine ol_op (by exact opv_box (ss := [Seg.cell v7 o9.one, Seg.cell (.slice none 0 0) (by rfl), Seg.cell (.int .i64 (0 : Int)), Seg.cell (.bool false), Seg.cell (.bool false), Seg.cell (.int .i64 (0 : Int)), Seg.cell (.int .i64 (0 : Int))]) rfl rfl rfl) rfl rfl rfl ?_
 rintro _ w18 ⟨G13, rfl, b14, q15, z16⟩
 have z16 := Nat.le_trans fB.size z16
 have o9 := o9.gr q15
 have fB := fB.gr q15
 refine ol_val (v := .pointer (some ⟨G13, 0, none⟩)) (by exact xr_assign rfl rfl) rfl rfl rfl ?_
 refine ol_val (v := .int .i64 0) (by exact xr_assign rfl rfl) rfl rfl rfl ?_
 refine ol_nil ?_
 refine cw_ret ?_
 repeat (first | with_reducible refine thn_r ?_ | with_reducible refine blk_r ?_)
 obtain rfl := Option.some.inj h
 refine fin_ret2 Try.results26 rfl rfl ?_
 exact ⟨_, rfl, (.pointer (some ⟨G13, 0, none⟩)), ⟨(fun e => by cases e), (fun _ e => by obtain rfl := Option.some.inj e; exact ⟨G13, v7, (.slice none 0 0), o9, Own.nil _ _ _ _, rfl, z16, b14⟩)⟩, rfl, fB⟩
def pmem_Device_Image_1__r0.f (fu : Nat) (a0 : S_pmem_cell) : Option Int := some (a0.lasts)
set_option maxRecDepth 100000 in
set_option maxHeartbeats 400000 in
theorem pmem_Device_Image_1__r0.ok (fu : Nat) (w : World) (a0 : S_pmem_cell) (G_0 p_0 : Nat) (A_0 : At w G_0 p_0 (cellsOf [Seg.cell (.int .u64 a0.lasts), Seg.cell (.int .u64 a0.stored), Seg.cell (.int .u64 a0.sent), Seg.cell (.bool a0.flushed)])) (r : Int) (h : pmem_Device_Image_1__r0.f fu a0 = some r) :
  Calls Try.prog 89 (([.pointer (some ⟨G_0, p_0, none⟩)] : List Value).toArray) w (fun e w' => ∃ v, e = .returned v ∧ v = .int .u64 r ∧ Gr w w') := by
 unfold pmem_Device_Image_1__r0.f at h
 have fB : Gr w w := Fr.refl _ _
 refine calls_cw Try.func89 rfl Try.ntmps89 rfl ?_
 refine cw_seq ?_
 refine cw_region ?_
 refine ol_val (v := .int .u64 0) (by exact xr_assign rfl rfl) rfl rfl rfl ?_
 refine ol_nil ?_
 refine cw_seq ?_
 refine cw_region ?_
 refine ol_val (v := .pointer (some ⟨G_0, p_0, none⟩)) (by exact xr_move rfl rfl) rfl rfl rfl ?_
 refine ol_val (v := .pointer (some ⟨G_0, p_0, none⟩)) (by exact xr_nilCheck rfl rfl) rfl rfl rfl ?_
 refine ol_val (v := .pointer (some ⟨G_0, p_0 + 0, none⟩)) (by exact xr_fieldAddr (p := p_0) (q := 0) rfl fl142_0 rfl) rfl rfl rfl ?_
 refine ol_val (v := .int .u64 a0.lasts) (by exact xr_load1 (v := .int .u64 a0.lasts) rfl ag22 rfl (At.segs (ss := [Seg.cell (.int .u64 a0.lasts), Seg.cell (.int .u64 a0.stored), Seg.cell (.int .u64 a0.sent), Seg.cell (.bool a0.flushed)]) (At.gr A_0 fB) 0 1 rfl)) rfl rfl rfl ?_
 refine ol_val (v := .int .u64 a0.lasts) (by exact xr_assign rfl rfl) rfl rfl rfl ?_
 refine ol_nil ?_
 refine cw_ret ?_
 repeat (first | with_reducible refine thn_r ?_ | with_reducible refine blk_r ?_)
 obtain rfl := Option.some.inj h
 refine fin_ret1 Try.results89 rfl ?_
 exact ⟨_, rfl, rfl, fB⟩
def octet_Lay.s0 (fu : Nat) (a1 : Int) : (Int × Int × (List Int)) → Option (Sum (List Int) (Int × Int × (List Int))) := fun s14 => (if (decide (s14.2.1 < (List.length (List.replicate (Int.toNat a1) (0 : Int)) : Int))) = true then (if 0 ≤ s14.2.1 ∧ s14.2.1 < (List.length s14.2.2 : Int) then some (Sum.inr ((shR .u64 s14.1 8), (IntKind.i64.wrap (s14.2.1 + 1)), (List.set s14.2.2 (Int.toNat s14.2.1) (IntKind.u8.wrap s14.1)))) else none) else some (Sum.inl (s14.2.2)))
def octet_Lay.f (fu : Nat) (a0 : Int) (a1 : Int) : Option (List Int) := (if (if (decide (a1 < 0)) = true then true else (decide (a1 > 8))) = true then some ([]) else (if 0 ≤ a1 ∧ Int.toNat a1 ≤ LIM then ((loopM (octet_Lay.s0 fu a1) fu (a0, 0, (List.replicate (Int.toNat a1) (0 : Int)))).bind fun e15 => some (e15)) else none))
set_option maxRecDepth 100000 in
set_option maxHeartbeats 400000 in
theorem octet_Lay.ok (fu : Nat) (w : World) (a0 : Int) (a1 : Int) (r : (List Int)) (h : octet_Lay.f fu a0 a1 = some r) :
  Calls Try.prog 128 (([.int .u64 a0, .int .i64 a1] : List Value).toArray) w (fun e w' => ∃ v, e = .returned v ∧ ∃ u1 : Value, ∃ o2 : Own (kI .u8) 5 w' w.heap.size u1 r, v = u1 ∧ Gr w w') := by
 unfold octet_Lay.f at h
 have fB : Gr w w := Fr.refl _ _
 refine calls_cw Try.func128 rfl Try.ntmps128 rfl ?_
 refine cw_seq ?_
 refine cw_region ?_
 refine ol_val (v := .slice none 0 0) (by exact xr_assign rfl rfl) rfl rfl rfl ?_
 refine ol_nil ?_
 refine cw_seq ?_
 refine cw_seq ?_
 refine cw_mid (fun ρ' w' => ρ' 0 = .int .u64 a0 ∧ ρ' 1 = .int .i64 a1 ∧ ρ' 12 = .bool (if (decide (a1 < 0)) = true then true else (decide (a1 > 8))) ∧ w = w') ?_ ?_
 ·skip
  refine cw_region ?_
  refine ol_val (v := .int .i64 a1) (by exact xr_move rfl rfl) rfl rfl rfl ?_
  refine ol_val (v := .bool (decide (a1 < 0))) (by exact xr_lss rfl rfl rfl) rfl rfl rfl ?_
  refine ol_val (v := .bool (decide (a1 < 0))) (by exact xr_move rfl rfl) rfl rfl rfl ?_
  rcases bt (decide (a1 < 0)) with c4 | c4
  ·skip
   refine ol_gskip rfl rfl rfl rfl rfl c4 ?_
   refine ol_gskip rfl rfl rfl rfl rfl c4 ?_
   refine ol_val (v := .bool true) (by exact xr_pickT rfl rfl c4 rfl) rfl rfl rfl ?_
   refine ol_nil ?_
   refine thn_i ?_
   exact ⟨rfl, rfl, (rfl).trans (congrArg (fun z => (.bool z : Value)) (show true = (if (decide (a1 < 0)) = true then true else (decide (a1 > 8))) from by rw [ite_t c4])), rfl⟩
  refine ol_gval (v := .int .i64 a1) (by exact xr_move rfl rfl) rfl rfl rfl rfl rfl c4 ?_
  refine ol_gval (v := .bool (decide (a1 > 8))) (by exact xr_gtr rfl rfl rfl) rfl rfl rfl rfl rfl c4 ?_
  refine ol_val (v := .bool (decide (a1 > 8))) (by exact xr_pickF rfl rfl c4 rfl) rfl rfl rfl ?_
  refine ol_nil ?_
  refine thn_i ?_
  exact ⟨rfl, rfl, (rfl).trans (congrArg (fun z => (.bool z : Value)) (show (decide (a1 > 8)) = (if (decide (a1 < 0)) = true then true else (decide (a1 > 8))) from by rw [ite_f c4])), rfl⟩
 rintro ρ5 _ ⟨e0, e1, e12, rfl⟩
 rcases is h with ⟨c6, h⟩ | ⟨c6, h⟩
 ·refine cw_condT e12 c6 ?_
  refine cw_seq ?_
  refine cw_region ?_
  refine ol_val (v := .slice none 0 0) (by exact xr_assign rfl rfl) rfl rfl rfl ?_
  refine ol_nil ?_
  refine cw_ret ?_
  repeat (first | with_reducible refine thn_r ?_ | with_reducible refine blk_r ?_)
  obtain rfl := Option.some.inj h
  refine fin_ret1 Try.results128 rfl ?_
  exact ⟨_, rfl, (.slice none 0 0), Own.nil _ _ _ _, rfl, fB⟩
 refine cw_condF e12 c6 ?_
 refine cw_skip ?_
 refine cw_seq ?_
 refine cw_region ?_
 refine ol_val (v := .int .i64 a1) (by exact xr_move rfl e1) rfl rfl rfl ?_
 obtain ⟨g7, h⟩ := gs h
 refine ol_op (by exact opv_make (K := (kI .u8)) (z := (0 : Int)) rfl Try.underlying43 el5 rfl rfl rfl g7.1 g7.2 rfl fB.size) rfl rfl rfl ?_
 rintro v8 w13 ⟨o10, q9, z11⟩
 have fB := fB.gr q9
 refine ol_val (v := v8) (by exact xr_assign rfl rfl) rfl rfl rfl ?_
 refine ol_nil ?_
 refine cw_seq ?_
 refine cw_seq ?_
 refine cw_region ?_
 refine ol_val (v := v8) (by exact xr_move rfl rfl) rfl rfl rfl ?_
 refine ol_val (v := .int .i64 (List.length (List.replicate (Int.toNat a1) (0 : Int)) : Int)) (by exact xr_lenR rfl Try.underlying43 rfl o10.rd) rfl rfl rfl ?_
 refine ol_val (v := .int .i64 0) (by exact xr_move rfl rfl) rfl rfl rfl ?_
 refine ol_nil ?_
 obtain ⟨e15, l16, h17⟩ := bs h
 refine cw_mid (fun ρ' w' => ∃ o10 : Own (kI .u8) 5 w' w.heap.size v8 e15, ρ' 5 = v8 ∧ Gr w w') ?_ ?_
 ·refine cw_block ?_
  refine cw_round (fun (s14 : Int × Int × (List Int)) ρ' w' => ∃ o10 : Own (kI .u8) 5 w' w.heap.size v8 s14.2.2, ρ' 0 = .int .u64 s14.1 ∧ ρ' 5 = v8 ∧ ρ' 16 = .int .i64 (List.length (List.replicate (Int.toNat a1) (0 : Int)) : Int) ∧ ρ' 17 = .int .i64 s14.2.1 ∧ Gr w w') l16 ?_ ?_
  ·skip
   exact ⟨o10, e0, rfl, rfl, rfl, fB⟩
  rintro s14 x20 ρ18 w19 ⟨o10, e0, e5, e16, e17, fB⟩ h
  unfold octet_Lay.s0 at h
  refine cw_seq ?_
  refine cw_region ?_
  refine ol_val (v := .bool (decide (s14.2.1 < (List.length (List.replicate (Int.toNat a1) (0 : Int)) : Int)))) (by exact xr_lss rfl e17 e16) rfl rfl rfl ?_
  refine ol_nil ?_
  refine cw_seq ?_
  rcases is h with ⟨c21, h⟩ | ⟨c21, h⟩
  ·refine cw_condT rfl c21 ?_
   refine cw_skip ?_
   refine cw_seq ?_
   refine cw_block ?_
   refine cw_seq ?_
   refine cw_region ?_
   refine ol_val (v := .int .i64 s14.2.1) (by exact xr_move rfl e17) rfl rfl rfl ?_
   refine ol_val (v := .int .i64 s14.2.1) (by exact xr_assign rfl rfl) rfl rfl rfl ?_
   refine ol_nil ?_
   refine cw_seq ?_
   refine cw_region ?_
   refine ol_val (v := v8) (by exact xr_move rfl e5) rfl rfl rfl ?_
   refine ol_val (v := .int .i64 s14.2.1) (by exact xr_move rfl rfl) rfl rfl rfl ?_
   refine ol_val (v := .int .u64 s14.1) (by exact xr_move rfl e0) rfl rfl rfl ?_
   refine ol_val (v := .int .u8 (IntKind.u8.wrap s14.1)) (by exact xr_conv rfl Try.underlying22 Try.underlying5 rfl) rfl rfl rfl ?_
   obtain ⟨g22, h⟩ := gs h
   refine ol_val (v := .pointer (some ⟨(sb v8), so v8 + Int.toNat s14.2.1 * 1, none⟩)) (by exact xr_indexR (K := (kI .u8)) (v := v8) rfl Try.underlying43 sz5 rfl o10.rd rfl g22.1 g22.2) rfl rfl rfl ?_
   have f24 := o10.geO
   refine ol_op0 (by exact opv_storeRow (z := (IntKind.u8.wrap s14.1)) (xs := cellsOf [Seg.cell (.int .u8 (IntKind.u8.wrap s14.1))]) rfl sz5 rfl rfl rfl (len_cellsOf _) (one_cellsOf _) o10 g22.1 g22.2 (Spl.whole ((Kd.len _ _).trans (Kd.len _ _).symm)) rfl) rfl rfl ?_
   rintro _ w25 ⟨o10, q23⟩
   have fB := fB.wrO q23 f24
   refine ol_nil ?_
   refine cw_region ?_
   refine ol_val (v := .int .u64 s14.1) (by exact xr_move rfl e0) rfl rfl rfl ?_
   refine ol_val (v := .int .u64 (shR .u64 s14.1 8)) (by exact xr_shr rfl rfl rfl (by decide)) rfl rfl rfl ?_
   refine ol_val (v := .int .u64 (shR .u64 s14.1 8)) (by exact xr_assign rfl rfl) rfl rfl rfl ?_
   refine ol_nil ?_
   refine blk_i ?_
   refine cw_region ?_
   refine ol_val (v := .int .i64 (IntKind.i64.wrap (s14.2.1 + 1))) (by exact xr_add rfl e17 rfl) rfl rfl rfl ?_
   refine ol_val (v := .int .i64 (IntKind.i64.wrap (s14.2.1 + 1))) (by exact xr_move rfl rfl) rfl rfl rfl ?_
   refine ol_nil ?_
   obtain rfl := Option.some.inj h
   refine lp_in ?_
   exact ⟨o10, rfl, e5, e16, rfl, fB⟩
  refine cw_condF rfl c21 ?_
  refine cw_exit ?_
  repeat (first | with_reducible refine thn_e ?_ | with_reducible refine blk_e rfl ?_)
  obtain rfl := Option.some.inj h
  refine lp_exit ?_
  rintro rfl
  refine thn_x ?_
  exact ⟨o10, e5, fB⟩
 rintro ρ26 w27 ⟨o10, e5, fB⟩
 have h := h17
 refine cw_seq ?_
 refine cw_region ?_
 refine ol_val (v := v8) (by exact xr_move rfl e5) rfl rfl rfl ?_
 refine ol_val (v := v8) (by exact xr_assign rfl rfl) rfl rfl rfl ?_
 refine ol_nil ?_
 refine cw_ret ?_
 repeat (first | with_reducible refine thn_r ?_ | with_reducible refine blk_r ?_)
 obtain rfl := Option.some.inj h
 refine fin_ret1 Try.results128 rfl ?_
 exact ⟨_, rfl, v8, o10, rfl, fB⟩
def octet_Octets.s0 (fu : Nat) (a0 : List Int) : ((List Int) × Int) → Option (Sum (List Int) ((List Int) × Int)) := fun s4 => (if (decide (s4.2 < (List.length a0 : Int))) = true then (if 0 ≤ s4.2 ∧ s4.2 < (List.length a0 : Int) then ((octet_Lay.f fu (ix a0 s4.2) 8 : Option (List Int)).bind fun t19 => (if List.length s4.1 + List.length t19 ≤ LIM then some (Sum.inr ((s4.1 ++ t19), (IntKind.i64.wrap (s4.2 + 1)))) else none)) else none) else some (Sum.inl (s4.1)))
def octet_Octets.f (fu : Nat) (a0 : List Int) : Option (List Int) := ((loopM (octet_Octets.s0 fu a0) fu ([], 0)).bind fun e5 => some (e5))
set_option maxRecDepth 100000 in
set_option maxHeartbeats 400000 in
theorem octet_Octets.ok (fu : Nat) (w : World) (a0 : List Int) (V0_0 : Value) (R0_0 : Rd (kI .u64) w V0_0 a0) (r : (List Int)) (h : octet_Octets.f fu a0 = some r) :
  Calls Try.prog 104 (([V0_0] : List Value).toArray) w (fun e w' => ∃ v, e = .returned v ∧ ∃ u1 : Value, ∃ o2 : Own (kI .u8) 5 w' w.heap.size u1 r, v = u1 ∧ Gr w w') := by
 unfold octet_Octets.f at h
 have fB : Gr w w := Fr.refl _ _
 refine calls_cw Try.func104 rfl Try.ntmps104 rfl ?_
 refine cw_seq ?_
 refine cw_region ?_
 refine ol_val (v := .slice none 0 0) (by exact xr_assign rfl rfl) rfl rfl rfl ?_
 refine ol_nil ?_
 refine cw_seq ?_
 refine cw_region ?_
 refine ol_val (v := .slice none 0 0) (by exact xr_assign rfl rfl) rfl rfl rfl ?_
 refine ol_nil ?_
 refine cw_seq ?_
 refine cw_seq ?_
 refine cw_region ?_
 refine ol_val (v := V0_0) (by exact xr_move rfl rfl) rfl rfl rfl ?_
 refine ol_val (v := .int .i64 (List.length a0 : Int)) (by exact xr_lenR rfl Try.underlying46 rfl (R0_0.gr fB)) rfl rfl rfl ?_
 refine ol_val (v := .int .i64 0) (by exact xr_move rfl rfl) rfl rfl rfl ?_
 refine ol_nil ?_
 obtain ⟨e5, l6, h7⟩ := bs h
 refine cw_mid (fun ρ' w' => ∃ v8 : Value, ∃ o9 : Own (kI .u8) 5 w' w.heap.size v8 e5, ρ' 3 = v8 ∧ Gr w w') ?_ ?_
 ·refine cw_block ?_
  refine cw_round (fun (s4 : (List Int) × Int) ρ' w' => ∃ v11 : Value, ∃ o12 : Own (kI .u8) 5 w' w.heap.size v11 s4.1, ρ' 3 = v11 ∧ ρ' 6 = V0_0 ∧ ρ' 7 = .int .i64 (List.length a0 : Int) ∧ ρ' 8 = .int .i64 s4.2 ∧ Gr w w') l6 ?_ ?_
  ·skip
   exact ⟨(.slice none 0 0), Own.nil _ _ _ _, rfl, rfl, rfl, rfl, fB⟩
  rintro s4 x16 ρ14 w15 ⟨v11, o12, e3, e6, e7, e8, fB⟩ h
  unfold octet_Octets.s0 at h
  refine cw_seq ?_
  refine cw_region ?_
  refine ol_val (v := .bool (decide (s4.2 < (List.length a0 : Int)))) (by exact xr_lss rfl e8 e7) rfl rfl rfl ?_
  refine ol_nil ?_
  refine cw_seq ?_
  rcases is h with ⟨c17, h⟩ | ⟨c17, h⟩
  ·refine cw_condT rfl c17 ?_
   refine cw_skip ?_
   refine cw_seq ?_
   refine cw_block ?_
   refine cw_seq ?_
   refine cw_region ?_
   obtain ⟨g18, h⟩ := gs h
   refine ol_val (v := .pointer (some ⟨(sb V0_0), so V0_0 + Int.toNat s4.2 * 1, none⟩)) (by exact xr_indexR (K := (kI .u64)) (v := V0_0) rfl Try.underlying46 sz22 e6 (R0_0.gr fB) e8 g18.1 g18.2) rfl rfl rfl ?_
   refine ol_val (v := .int .u64 (ix a0 s4.2)) (by exact xr_load1 (v := .int .u64 (ix a0 s4.2)) rfl ag22 rfl ((R0_0.gr fB).elem g18.1 g18.2)) rfl rfl rfl ?_
   refine ol_val (v := .int .u64 (ix a0 s4.2)) (by exact xr_assign rfl rfl) rfl rfl rfl ?_
   refine ol_nil ?_
   refine cw_region ?_
   refine ol_val (v := v11) (by exact xr_move rfl e3) rfl rfl rfl ?_
   refine ol_val (v := .int .u64 (ix a0 s4.2)) (by exact xr_move rfl rfl) rfl rfl rfl ?_
   obtain ⟨t19, k20, h⟩ := bs h
   refine ol_op (by exact opv_call rfl cal128 (ac rfl (ac rfl an)) (octet_Lay.ok fu _ (ix a0 s4.2) 8 _ k20)) rfl rfl rfl ?_
   rintro u21 w25 ⟨_, o22, rfl, q24⟩
   have a26 := OffV.call o12 o22
   have o22 := Own.base o22 fB.size
   have o12 := o12.gr q24
   have fB := fB.gr q24
   obtain ⟨g31, h⟩ := gs h
   have f33 := o12.geO
   refine ol_op (by exact opv_append (K := (kI .u8)) rfl Try.underlying43 el5 rfl rfl rfl rfl rfl o12 o22.rd g31 fB.size) rfl rfl rfl ?_
   rintro v27 w34 ⟨o28, q29, n30⟩
   have fB := fB.wrO q29 f33
   refine ol_val (v := v27) (by exact xr_assign rfl rfl) rfl rfl rfl ?_
   refine ol_nil ?_
   refine blk_i ?_
   refine cw_region ?_
   refine ol_val (v := .int .i64 (IntKind.i64.wrap (s4.2 + 1))) (by exact xr_add rfl e8 rfl) rfl rfl rfl ?_
   refine ol_val (v := .int .i64 (IntKind.i64.wrap (s4.2 + 1))) (by exact xr_move rfl rfl) rfl rfl rfl ?_
   refine ol_nil ?_
   obtain rfl := Option.some.inj h
   refine lp_in ?_
   exact ⟨v27, o28, rfl, e6, e7, rfl, fB⟩
  refine cw_condF rfl c17 ?_
  refine cw_exit ?_
  repeat (first | with_reducible refine thn_e ?_ | with_reducible refine blk_e rfl ?_)
  obtain rfl := Option.some.inj h
  refine lp_exit ?_
  rintro rfl
  refine thn_x ?_
  exact ⟨v11, o12, e3, fB⟩
 rintro ρ35 w36 ⟨v8, o9, e3, fB⟩
 have h := h7
 refine cw_seq ?_
 refine cw_region ?_
 refine ol_val (v := v8) (by exact xr_move rfl e3) rfl rfl rfl ?_
 refine ol_val (v := v8) (by exact xr_assign rfl rfl) rfl rfl rfl ?_
 refine ol_nil ?_
 refine cw_ret ?_
 repeat (first | with_reducible refine thn_r ?_ | with_reducible refine blk_r ?_)
 obtain rfl := Option.some.inj h
 refine fin_ret1 Try.results104 rfl ?_
 exact ⟨_, rfl, v8, o9, rfl, fB⟩
def pmem_Device_octets__pmem_Device_Image_1.s0 (fu : Nat) (a0 : S_pmem_Device) : (Int × (List Int)) → Option (Sum (List Int) (Int × (List Int))) := fun s11 => (if (decide (s11.1 < (List.length a0.cells : Int))) = true then (if 0 ≤ s11.1 ∧ s11.1 < (List.length a0.cells : Int) then ((pmem_Device_Image_1__r0.f fu (ix a0.cells s11.1) : Option Int).bind fun t20 => (if 0 ≤ s11.1 ∧ s11.1 < (List.length s11.2 : Int) then some (Sum.inr ((IntKind.i64.wrap (s11.1 + 1)), (List.set s11.2 (Int.toNat s11.1) t20))) else none)) else none) else some (Sum.inl (s11.2)))
def pmem_Device_octets__pmem_Device_Image_1.f (fu : Nat) (a0 : S_pmem_Device) : Option (List Int) := (if 0 ≤ (List.length a0.cells : Int) ∧ Int.toNat (List.length a0.cells : Int) ≤ LIM then ((loopM (pmem_Device_octets__pmem_Device_Image_1.s0 fu a0) fu (0, (List.replicate (Int.toNat (List.length a0.cells : Int)) (0 : Int)))).bind fun e12 => ((octet_Octets.f fu e12 : Option (List Int)).bind fun t31 => some (t31))) else none)
set_option maxRecDepth 100000 in
set_option maxHeartbeats 400000 in
theorem pmem_Device_octets__pmem_Device_Image_1.ok (fu : Nat) (w : World) (a0 : S_pmem_Device) (G_0 : Nat) (V0_0 : Value) (R0_0 : Rd k_pmem_cell w V0_0 a0.cells) (V0_1 : Value) (R0_1 : Rd (kI .i64) w V0_1 a0.plan.list) (b_0 : Blk w G_0 139 [Seg.cell V0_0 R0_0.one, Seg.cell V0_1 R0_1.one, Seg.cell (.int .i64 a0.plan.at_), Seg.cell (.bool a0.off), Seg.cell (.bool a0.armed), Seg.cell (.int .i64 a0.left), Seg.cell (.int .i64 a0.steps)]) (r : (List Int)) (h : pmem_Device_octets__pmem_Device_Image_1.f fu a0 = some r) :
  Calls Try.prog 88 (([.pointer (some ⟨G_0, 0, none⟩), Value.func (.func 89) #[] #[]] : List Value).toArray) w (fun e w' => ∃ v, e = .returned v ∧ ∃ u1 : Value, ∃ o2 : Own (kI .u8) 5 w' w.heap.size u1 r, v = u1 ∧ Gr w w') := by
 unfold pmem_Device_octets__pmem_Device_Image_1.f at h
 have fB : Gr w w := Fr.refl _ _
 refine calls_cw Try.func88 rfl Try.ntmps88 rfl ?_
 refine cw_seq ?_
 refine cw_region ?_
 refine ol_val (v := .slice none 0 0) (by exact xr_assign rfl rfl) rfl rfl rfl ?_
 refine ol_nil ?_
 refine cw_seq ?_
 refine cw_region ?_
 refine ol_val (v := .pointer (some ⟨G_0, 0, none⟩)) (by exact xr_move rfl rfl) rfl rfl rfl ?_
 refine ol_val (v := .pointer (some ⟨G_0, 0, none⟩)) (by exact xr_nilCheck rfl rfl) rfl rfl rfl ?_
 refine ol_val (v := .pointer (some ⟨G_0, 0, none⟩)) (by exact xr_fieldAddr (p := 0) (q := 0) rfl fl139_0 rfl) rfl rfl rfl ?_
 refine ol_val (v := V0_0) (by exact xr_load1 (v := V0_0) rfl ag135 rfl (b_0.seg 0 rfl rfl)) rfl rfl rfl ?_
 refine ol_val (v := .int .i64 (List.length a0.cells : Int)) (by exact xr_lenR rfl Try.underlying135 rfl (R0_0.gr fB)) rfl rfl rfl ?_
 obtain ⟨g4, h⟩ := gs h
 refine ol_op (by exact opv_make (K := (kI .u64)) (z := (0 : Int)) rfl Try.underlying46 el22 rfl rfl rfl g4.1 g4.2 rfl fB.size) rfl rfl rfl ?_
 rintro v5 w10 ⟨o7, q6, z8⟩
 have b_0 := b_0.gr q6
 have fB := fB.gr q6
 refine ol_val (v := v5) (by exact xr_assign rfl rfl) rfl rfl rfl ?_
 refine ol_nil ?_
 refine cw_seq ?_
 refine cw_seq ?_
 refine cw_region ?_
 refine ol_val (v := .pointer (some ⟨G_0, 0, none⟩)) (by exact xr_move rfl rfl) rfl rfl rfl ?_
 refine ol_val (v := .pointer (some ⟨G_0, 0, none⟩)) (by exact xr_nilCheck rfl rfl) rfl rfl rfl ?_
 refine ol_val (v := .pointer (some ⟨G_0, 0, none⟩)) (by exact xr_fieldAddr (p := 0) (q := 0) rfl fl139_0 rfl) rfl rfl rfl ?_
 refine ol_val (v := V0_0) (by exact xr_load1 (v := V0_0) rfl ag135 rfl (b_0.seg 0 rfl rfl)) rfl rfl rfl ?_
 refine ol_val (v := .int .i64 (List.length a0.cells : Int)) (by exact xr_lenR rfl Try.underlying135 rfl (R0_0.gr fB)) rfl rfl rfl ?_
 refine ol_val (v := .int .i64 0) (by exact xr_move rfl rfl) rfl rfl rfl ?_
 refine ol_nil ?_
 obtain ⟨e12, l13, h14⟩ := bs h
 refine cw_mid (fun ρ' w' => ∃ o7 : Own (kI .u64) 22 w' w.heap.size v5 e12, ρ' 5 = v5 ∧ Blk w' G_0 139 [Seg.cell V0_0 R0_0.one, Seg.cell V0_1 R0_1.one, Seg.cell (.int .i64 a0.plan.at_), Seg.cell (.bool a0.off), Seg.cell (.bool a0.armed), Seg.cell (.int .i64 a0.left), Seg.cell (.int .i64 a0.steps)] ∧ Gr w w') ?_ ?_
 ·refine cw_block ?_
  refine cw_round (fun (s11 : Int × (List Int)) ρ' w' => ∃ o7 : Own (kI .u64) 22 w' w.heap.size v5 s11.2, ρ' 0 = .pointer (some ⟨G_0, 0, none⟩) ∧ ρ' 1 = Value.func (.func 89) #[] #[] ∧ ρ' 5 = v5 ∧ ρ' 17 = .int .i64 (List.length a0.cells : Int) ∧ ρ' 18 = .int .i64 s11.1 ∧ Blk w' G_0 139 [Seg.cell V0_0 R0_0.one, Seg.cell V0_1 R0_1.one, Seg.cell (.int .i64 a0.plan.at_), Seg.cell (.bool a0.off), Seg.cell (.bool a0.armed), Seg.cell (.int .i64 a0.left), Seg.cell (.int .i64 a0.steps)] ∧ Gr w w') l13 ?_ ?_
  ·skip
   exact ⟨o7, rfl, rfl, rfl, rfl, rfl, b_0, fB⟩
  rintro s11 x17 ρ15 w16 ⟨o7, e0, e1, e5, e17, e18, b_0, fB⟩ h
  unfold pmem_Device_octets__pmem_Device_Image_1.s0 at h
  refine cw_seq ?_
  refine cw_region ?_
  refine ol_val (v := .bool (decide (s11.1 < (List.length a0.cells : Int)))) (by exact xr_lss rfl e18 e17) rfl rfl rfl ?_
  refine ol_nil ?_
  refine cw_seq ?_
  rcases is h with ⟨c18, h⟩ | ⟨c18, h⟩
  ·refine cw_condT rfl c18 ?_
   refine cw_skip ?_
   refine cw_seq ?_
   refine cw_block ?_
   refine cw_seq ?_
   refine cw_region ?_
   refine ol_val (v := .int .i64 s11.1) (by exact xr_move rfl e18) rfl rfl rfl ?_
   refine ol_val (v := .int .i64 s11.1) (by exact xr_assign rfl rfl) rfl rfl rfl ?_
   refine ol_nil ?_
   refine cw_region ?_
   refine ol_val (v := v5) (by exact xr_move rfl e5) rfl rfl rfl ?_
   refine ol_val (v := .int .i64 s11.1) (by exact xr_move rfl rfl) rfl rfl rfl ?_
   refine ol_val (v := Value.func (.func 89) #[] #[]) (by exact xr_move rfl e1) rfl rfl rfl ?_
   refine ol_val (v := .pointer (some ⟨G_0, 0, none⟩)) (by exact xr_move rfl e0) rfl rfl rfl ?_
   refine ol_val (v := .pointer (some ⟨G_0, 0, none⟩)) (by exact xr_nilCheck rfl rfl) rfl rfl rfl ?_
   refine ol_val (v := .pointer (some ⟨G_0, 0, none⟩)) (by exact xr_fieldAddr (p := 0) (q := 0) rfl fl139_0 rfl) rfl rfl rfl ?_
   refine ol_val (v := V0_0) (by exact xr_load1 (v := V0_0) rfl ag135 rfl (b_0.seg 0 rfl rfl)) rfl rfl rfl ?_
   refine ol_val (v := .int .i64 s11.1) (by exact xr_move rfl rfl) rfl rfl rfl ?_
   obtain ⟨g19, h⟩ := gs h
   refine ol_val (v := .pointer (some ⟨(sb V0_0), so V0_0 + Int.toNat s11.1 * 4, none⟩)) (by exact xr_indexR (K := k_pmem_cell) (v := V0_0) rfl Try.underlying135 sz142 rfl (R0_0.gr fB) rfl g19.1 g19.2) rfl rfl rfl ?_
   obtain ⟨t20, k21, h⟩ := bs h
   refine ol_op (by exact opv_callV (C := []) rfl rfl cal89 (ac rfl an) (pmem_Device_Image_1__r0.ok fu _ (ix a0.cells s11.1) (sb V0_0) (so V0_0 + Int.toNat s11.1 * 4) (show At _ _ _ (cellsOf [Seg.cell (.int .u64 ((ix a0.cells s11.1).lasts)), Seg.cell (.int .u64 ((ix a0.cells s11.1).stored)), Seg.cell (.int .u64 ((ix a0.cells s11.1).sent)), Seg.cell (.bool ((ix a0.cells s11.1).flushed))]) from ((R0_0.gr fB).elem g19.1 g19.2)) _ k21)) rfl rfl rfl ?_
   rintro _ w23 ⟨rfl, q22⟩
   have b_0 := b_0.gr q22
   have o7 := o7.gr q22
   have fB := fB.gr q22
   obtain ⟨g24, h⟩ := gs h
   refine ol_val (v := .pointer (some ⟨(sb v5), so v5 + Int.toNat s11.1 * 1, none⟩)) (by exact xr_indexR (K := (kI .u64)) (v := v5) rfl Try.underlying46 sz22 rfl o7.rd rfl g24.1 g24.2) rfl rfl rfl ?_
   have f26 := off_ty b_0 o7 (by decide)
   have f27 := o7.geO
   refine ol_op0 (by exact opv_storeRow (z := t20) (xs := cellsOf [Seg.cell (.int .u64 t20)]) rfl sz22 rfl rfl rfl (len_cellsOf _) (one_cellsOf _) o7 g24.1 g24.2 (Spl.whole ((Kd.len _ _).trans (Kd.len _ _).symm)) rfl) rfl rfl ?_
   rintro _ w28 ⟨o7, q25⟩
   have b_0 := b_0.wrO q25 f26
   have fB := fB.wrO q25 f27
   refine ol_nil ?_
   refine blk_i ?_
   refine cw_region ?_
   refine ol_val (v := .int .i64 (IntKind.i64.wrap (s11.1 + 1))) (by exact xr_add rfl e18 rfl) rfl rfl rfl ?_
   refine ol_val (v := .int .i64 (IntKind.i64.wrap (s11.1 + 1))) (by exact xr_move rfl rfl) rfl rfl rfl ?_
   refine ol_nil ?_
   obtain rfl := Option.some.inj h
   refine lp_in ?_
   exact ⟨o7, e0, e1, e5, e17, rfl, b_0, fB⟩
  refine cw_condF rfl c18 ?_
  refine cw_exit ?_
  repeat (first | with_reducible refine thn_e ?_ | with_reducible refine blk_e rfl ?_)
  obtain rfl := Option.some.inj h
  refine lp_exit ?_
  rintro rfl
  refine thn_x ?_
  exact ⟨o7, e5, b_0, fB⟩
 rintro ρ29 w30 ⟨o7, e5, b_0, fB⟩
 have h := h14
 refine cw_seq ?_
 refine cw_region ?_
 refine ol_val (v := v5) (by exact xr_move rfl e5) rfl rfl rfl ?_
 obtain ⟨t31, k32, h⟩ := bs h
 refine ol_op (by exact opv_call rfl cal104 (ac rfl an) (octet_Octets.ok fu _ e12 v5 (o7.rd) _ k32)) rfl rfl rfl ?_
 rintro u33 w37 ⟨_, o34, rfl, q36⟩
 have o34 := Own.base o34 fB.size
 have b_0 := b_0.gr q36
 have fB := fB.gr q36
 refine ol_val (v := u33) (by exact xr_assign rfl rfl) rfl rfl rfl ?_
 refine ol_nil ?_
 refine cw_ret ?_
 repeat (first | with_reducible refine thn_r ?_ | with_reducible refine blk_r ?_)
 obtain rfl := Option.some.inj h
 refine fin_ret1 Try.results88 rfl ?_
 exact ⟨_, rfl, u33, o34, rfl, fB⟩
def pmem_Device_Image.f (fu : Nat) (a0 : S_pmem_Device) : Option (List Int) := ((pmem_Device_octets__pmem_Device_Image_1.f fu a0 : Option (List Int)).bind fun t4 => some (t4))
set_option maxRecDepth 100000 in
set_option maxHeartbeats 400000 in
theorem pmem_Device_Image.ok (fu : Nat) (w : World) (a0 : S_pmem_Device) (G_0 : Nat) (V0_0 : Value) (R0_0 : Rd k_pmem_cell w V0_0 a0.cells) (V0_1 : Value) (R0_1 : Rd (kI .i64) w V0_1 a0.plan.list) (b_0 : Blk w G_0 139 [Seg.cell V0_0 R0_0.one, Seg.cell V0_1 R0_1.one, Seg.cell (.int .i64 a0.plan.at_), Seg.cell (.bool a0.off), Seg.cell (.bool a0.armed), Seg.cell (.int .i64 a0.left), Seg.cell (.int .i64 a0.steps)]) (r : (List Int)) (h : pmem_Device_Image.f fu a0 = some r) :
  Calls Try.prog 33 (([.pointer (some ⟨G_0, 0, none⟩)] : List Value).toArray) w (fun e w' => ∃ v, e = .returned v ∧ ∃ u1 : Value, ∃ o2 : Own (kI .u8) 5 w' w.heap.size u1 r, v = u1 ∧ Gr w w') := by
 unfold pmem_Device_Image.f at h
 have fB : Gr w w := Fr.refl _ _
 refine calls_cw Try.func33 rfl Try.ntmps33 rfl ?_
 refine cw_seq ?_
 refine cw_region ?_
 refine ol_val (v := .slice none 0 0) (by exact xr_assign rfl rfl) rfl rfl rfl ?_
 refine ol_nil ?_
 refine cw_seq ?_
 refine cw_region ?_
 refine ol_val (v := .pointer (some ⟨G_0, 0, none⟩)) (by exact xr_move rfl rfl) rfl rfl rfl ?_
 obtain ⟨t4, k5, h⟩ := bs h
 refine ol_op (by exact opv_call rfl cal88 (ac rfl (ac rfl an)) (pmem_Device_octets__pmem_Device_Image_1.ok fu _ a0 G_0 V0_0 (R0_0.gr fB) V0_1 (R0_1.gr fB) b_0 _ k5)) rfl rfl rfl ?_
 rintro u6 w10 ⟨_, o7, rfl, q9⟩
 have o7 := Own.base o7 fB.size
 have b_0 := b_0.gr q9
 have fB := fB.gr q9
 refine ol_val (v := u6) (by exact xr_assign rfl rfl) rfl rfl rfl ?_
 refine ol_nil ?_
 refine cw_ret ?_
 repeat (first | with_reducible refine thn_r ?_ | with_reducible refine blk_r ?_)
 obtain rfl := Option.some.inj h
 refine fin_ret1 Try.results33 rfl ?_
 exact ⟨_, rfl, u6, o7, rfl, fB⟩
def rickyardref05_Text.s2 (fu : Nat) (a0 : List Int) (s1 : (List Int) × Int) : ((List Int) × Int) → Option (Sum (List Int) ((List Int) × Int)) := fun s15 => (if (decide (s15.2 < 8)) = true then (if 0 ≤ s1.2 ∧ s1.2 < (List.length a0 : Int) then (if 0 ≤ (IntKind.i64.wrap (8 * s15.2)) then (if List.length s15.1 + List.length [(IntKind.u8.wrap (shR .u64 (ix a0 s1.2) (IntKind.i64.wrap (8 * s15.2))))] ≤ LIM then some (Sum.inr ((s15.1 ++ [(IntKind.u8.wrap (shR .u64 (ix a0 s1.2) (IntKind.i64.wrap (8 * s15.2))))]), (IntKind.i64.wrap (s15.2 + 1)))) else none) else none) else none) else some (Sum.inl (s15.1)))
def rickyardref05_Text.s1 (fu : Nat) (a0 : List Int) : ((List Int) × Int) → Option (Sum (List Int) ((List Int) × Int)) := fun s1 => (if (decide (s1.2 < (List.length a0 : Int))) = true then ((loopM (rickyardref05_Text.s2 fu a0 s1) fu (s1.1, 0)).bind fun e16 => some (Sum.inr (e16, (IntKind.i64.wrap (s1.2 + 1))))) else some (Sum.inl (s1.1)))
def rickyardref05_Text.f (fu : Nat) (a0 : List Int) : Option (List UInt8) := ((loopM (rickyardref05_Text.s1 fu a0) fu ([], 0)).bind fun e2 => some ((List.map toB e2)))
set_option maxRecDepth 100000 in
set_option maxHeartbeats 400000 in
theorem rickyardref05_Text.ok (fu : Nat) (w : World) (a0 : List Int) (V0_0 : Value) (R0_0 : Rd (kI .u64) w V0_0 a0) (r : (List UInt8)) (h : rickyardref05_Text.f fu a0 = some r) :
  Calls Try.prog 34 (([V0_0] : List Value).toArray) w (fun e w' => ∃ v, e = .returned v ∧ v = sv r ∧ Gr w w') := by
 unfold rickyardref05_Text.f at h
 have fB : Gr w w := Fr.refl _ _
 refine calls_cw Try.func34 rfl Try.ntmps34 rfl ?_
 refine cw_seq ?_
 refine cw_region ?_
 refine ol_val (v := sv []) (by exact xr_assign rfl rfl) rfl rfl rfl ?_
 refine ol_nil ?_
 refine cw_seq ?_
 refine cw_region ?_
 refine ol_val (v := .slice none 0 0) (by exact xr_assign rfl rfl) rfl rfl rfl ?_
 refine ol_nil ?_
 refine cw_seq ?_
 refine cw_seq ?_
 refine cw_region ?_
 refine ol_val (v := .int .i64 0) (by exact xr_assign rfl rfl) rfl rfl rfl ?_
 refine ol_nil ?_
 obtain ⟨e2, l3, h4⟩ := bs h
 refine cw_mid (fun ρ' w' => ∃ v5 : Value, ∃ o6 : Own (kI .u8) 5 w' w.heap.size v5 e2, ρ' 3 = v5 ∧ Gr w w') ?_ ?_
 ·refine cw_block ?_
  refine cw_round (fun (s1 : (List Int) × Int) ρ' w' => ∃ v8 : Value, ∃ o9 : Own (kI .u8) 5 w' w.heap.size v8 s1.1, ρ' 0 = V0_0 ∧ ρ' 3 = v8 ∧ ρ' 4 = .int .i64 s1.2 ∧ Gr w w') l3 ?_ ?_
  ·skip
   exact ⟨(.slice none 0 0), Own.nil _ _ _ _, rfl, rfl, rfl, fB⟩
  rintro s1 x13 ρ11 w12 ⟨v8, o9, e0, e3, e4, fB⟩ h
  unfold rickyardref05_Text.s1 at h
  refine cw_seq ?_
  refine cw_seq ?_
  refine cw_region ?_
  refine ol_val (v := .int .i64 s1.2) (by exact xr_move rfl e4) rfl rfl rfl ?_
  refine ol_val (v := V0_0) (by exact xr_move rfl e0) rfl rfl rfl ?_
  refine ol_val (v := .int .i64 (List.length a0 : Int)) (by exact xr_lenR rfl Try.underlying46 rfl (R0_0.gr fB)) rfl rfl rfl ?_
  refine ol_val (v := .bool (decide (s1.2 < (List.length a0 : Int)))) (by exact xr_lss rfl rfl rfl) rfl rfl rfl ?_
  refine ol_nil ?_
  rcases is h with ⟨c14, h⟩ | ⟨c14, h⟩
  ·refine cw_condT rfl c14 ?_
   refine cw_skip ?_
   refine cw_seq ?_
   refine cw_block ?_
   refine cw_seq ?_
   refine cw_region ?_
   refine ol_val (v := .int .i64 0) (by exact xr_assign rfl rfl) rfl rfl rfl ?_
   refine ol_nil ?_
   obtain ⟨e16, l17, h18⟩ := bs h
   refine cw_mid (fun ρ' w' => ∃ v19 : Value, ∃ o20 : Own (kI .u8) 5 w' w.heap.size v19 e16, ρ' 0 = V0_0 ∧ ρ' 3 = v19 ∧ ρ' 4 = .int .i64 s1.2 ∧ Gr w w') ?_ ?_
   ·refine cw_block ?_
    refine cw_round (fun (s15 : (List Int) × Int) ρ' w' => ∃ v22 : Value, ∃ o23 : Own (kI .u8) 5 w' w.heap.size v22 s15.1, ρ' 0 = V0_0 ∧ ρ' 3 = v22 ∧ ρ' 4 = .int .i64 s1.2 ∧ ρ' 5 = .int .i64 s15.2 ∧ Gr w w') l17 ?_ ?_
    ·skip
     exact ⟨v8, o9, e0, e3, e4, rfl, fB⟩
    rintro s15 x27 ρ25 w26 ⟨v22, o23, e0, e3, e4, e5, fB⟩ h
    unfold rickyardref05_Text.s2 at h
    refine cw_seq ?_
    refine cw_seq ?_
    refine cw_region ?_
    refine ol_val (v := .int .i64 s15.2) (by exact xr_move rfl e5) rfl rfl rfl ?_
    refine ol_val (v := .bool (decide (s15.2 < 8))) (by exact xr_lss rfl rfl rfl) rfl rfl rfl ?_
    refine ol_nil ?_
    rcases is h with ⟨c28, h⟩ | ⟨c28, h⟩
    ·refine cw_condT rfl c28 ?_
     refine cw_skip ?_
     refine cw_seq ?_
     refine cw_block ?_
     refine cw_region ?_
     refine ol_val (v := v22) (by exact xr_move rfl e3) rfl rfl rfl ?_
     refine ol_val (v := V0_0) (by exact xr_move rfl e0) rfl rfl rfl ?_
     refine ol_val (v := .int .i64 s1.2) (by exact xr_move rfl e4) rfl rfl rfl ?_
     obtain ⟨g29, h⟩ := gs h
     refine ol_val (v := .pointer (some ⟨(sb V0_0), so V0_0 + Int.toNat s1.2 * 1, none⟩)) (by exact xr_indexR (K := (kI .u64)) (v := V0_0) rfl Try.underlying46 sz22 rfl (R0_0.gr fB) rfl g29.1 g29.2) rfl rfl rfl ?_
     refine ol_val (v := .int .u64 (ix a0 s1.2)) (by exact xr_load1 (v := .int .u64 (ix a0 s1.2)) rfl ag22 rfl ((R0_0.gr fB).elem g29.1 g29.2)) rfl rfl rfl ?_
     refine ol_val (v := .int .i64 s15.2) (by exact xr_move rfl e5) rfl rfl rfl ?_
     refine ol_val (v := .int .i64 (IntKind.i64.wrap (8 * s15.2))) (by exact xr_mul rfl rfl rfl) rfl rfl rfl ?_
     obtain ⟨g30, h⟩ := gs h
     refine ol_val (v := .int .u64 (shR .u64 (ix a0 s1.2) (IntKind.i64.wrap (8 * s15.2)))) (by exact xr_shr rfl rfl rfl g30) rfl rfl rfl ?_
     refine ol_val (v := .int .u8 (IntKind.u8.wrap (shR .u64 (ix a0 s1.2) (IntKind.i64.wrap (8 * s15.2))))) (by exact xr_conv rfl Try.underlying22 Try.underlying5 rfl) rfl rfl rfl ?_
     refine ol_op (by exact opv_buildSlice (K := (kI .u8)) (xs := [(IntKind.u8.wrap (shR .u64 (ix a0 s1.2) (IntKind.i64.wrap (8 * s15.2))))]) (vals := [.int .u8 (IntKind.u8.wrap (shR .u64 (ix a0 s1.2) (IntKind.i64.wrap (8 * s15.2))))]) rfl Try.underlying43 el5 rfl rfl ⟨rfl, rfl, trivial⟩ rfl rfl rfl fB.size) rfl rfl rfl ?_
     rintro v31 w36 ⟨o33, q32, z34⟩
     have a37 := OffV.new o23 z34
     have o23 := o23.gr q32
     have fB := fB.gr q32
     obtain ⟨g42, h⟩ := gs h
     have f44 := o23.geO
     refine ol_op (by exact opv_append (K := (kI .u8)) rfl Try.underlying43 el5 rfl rfl rfl rfl rfl o23 o33.rd g42 fB.size) rfl rfl rfl ?_
     rintro v38 w45 ⟨o39, q40, n41⟩
     have fB := fB.wrO q40 f44
     refine ol_val (v := v38) (by exact xr_assign rfl rfl) rfl rfl rfl ?_
     refine ol_nil ?_
     refine blk_i ?_
     refine cw_region ?_
     refine ol_val (v := .int .i64 s15.2) (by exact xr_move rfl e5) rfl rfl rfl ?_
     refine ol_val (v := .int .i64 (IntKind.i64.wrap (s15.2 + 1))) (by exact xr_add rfl rfl rfl) rfl rfl rfl ?_
     refine ol_val (v := .int .i64 (IntKind.i64.wrap (s15.2 + 1))) (by exact xr_assign rfl rfl) rfl rfl rfl ?_
     refine ol_nil ?_
     obtain rfl := Option.some.inj h
     refine lp_in ?_
     exact ⟨v38, o39, e0, rfl, e4, rfl, fB⟩
    refine cw_condF rfl c28 ?_
    refine cw_exit ?_
    repeat (first | with_reducible refine thn_e ?_ | with_reducible refine blk_e rfl ?_)
    obtain rfl := Option.some.inj h
    refine lp_exit ?_
    rintro rfl
    refine thn_x ?_
    exact ⟨v22, o23, e0, e3, e4, fB⟩
   rintro ρ46 w47 ⟨v19, o20, e0, e3, e4, fB⟩
   have h := h18
   refine blk_i ?_
   refine cw_region ?_
   refine ol_val (v := .int .i64 s1.2) (by exact xr_move rfl e4) rfl rfl rfl ?_
   refine ol_val (v := .int .i64 (IntKind.i64.wrap (s1.2 + 1))) (by exact xr_add rfl rfl rfl) rfl rfl rfl ?_
   refine ol_val (v := .int .i64 (IntKind.i64.wrap (s1.2 + 1))) (by exact xr_assign rfl rfl) rfl rfl rfl ?_
   refine ol_nil ?_
   obtain rfl := Option.some.inj h
   refine lp_in ?_
   exact ⟨v19, o20, e0, e3, rfl, fB⟩
  refine cw_condF rfl c14 ?_
  refine cw_exit ?_
  repeat (first | with_reducible refine thn_e ?_ | with_reducible refine blk_e rfl ?_)
  obtain rfl := Option.some.inj h
  refine lp_exit ?_
  rintro rfl
  refine thn_x ?_
  exact ⟨v8, o9, e3, fB⟩
 rintro ρ48 w49 ⟨v5, o6, e3, fB⟩
 have h := h4
 refine cw_seq ?_
 refine cw_region ?_
 refine ol_val (v := v5) (by exact xr_move rfl e3) rfl rfl rfl ?_
 refine ol_val (v := sv (List.map toB e2)) (by exact xr_toStr rfl Try.underlying43 Try.underlying5 Try.underlying9 rfl o6.rd) rfl rfl rfl ?_
 refine ol_val (v := sv (List.map toB e2)) (by exact xr_assign rfl rfl) rfl rfl rfl ?_
 refine ol_nil ?_
 refine cw_ret ?_
 repeat (first | with_reducible refine thn_r ?_ | with_reducible refine blk_r ?_)
 obtain rfl := Option.some.inj h
 refine fin_ret1 Try.results34 rfl ?_
 exact ⟨_, rfl, rfl, fB⟩
def pmem_Device_View_1__r0.f (fu : Nat) (a0 : S_pmem_cell) : Option Int := some (a0.stored)
set_option maxRecDepth 100000 in
set_option maxHeartbeats 400000 in
theorem pmem_Device_View_1__r0.ok (fu : Nat) (w : World) (a0 : S_pmem_cell) (G_0 p_0 : Nat) (A_0 : At w G_0 p_0 (cellsOf [Seg.cell (.int .u64 a0.lasts), Seg.cell (.int .u64 a0.stored), Seg.cell (.int .u64 a0.sent), Seg.cell (.bool a0.flushed)])) (r : Int) (h : pmem_Device_View_1__r0.f fu a0 = some r) :
  Calls Try.prog 91 (([.pointer (some ⟨G_0, p_0, none⟩)] : List Value).toArray) w (fun e w' => ∃ v, e = .returned v ∧ v = .int .u64 r ∧ Gr w w') := by
 unfold pmem_Device_View_1__r0.f at h
 have fB : Gr w w := Fr.refl _ _
 refine calls_cw Try.func91 rfl Try.ntmps91 rfl ?_
 refine cw_seq ?_
 refine cw_region ?_
 refine ol_val (v := .int .u64 0) (by exact xr_assign rfl rfl) rfl rfl rfl ?_
 refine ol_nil ?_
 refine cw_seq ?_
 refine cw_region ?_
 refine ol_val (v := .pointer (some ⟨G_0, p_0, none⟩)) (by exact xr_move rfl rfl) rfl rfl rfl ?_
 refine ol_val (v := .pointer (some ⟨G_0, p_0, none⟩)) (by exact xr_nilCheck rfl rfl) rfl rfl rfl ?_
 refine ol_val (v := .pointer (some ⟨G_0, p_0 + 1, none⟩)) (by exact xr_fieldAddr (p := p_0) (q := 1) rfl fl142_1 rfl) rfl rfl rfl ?_
 refine ol_val (v := .int .u64 a0.stored) (by exact xr_load1 (v := .int .u64 a0.stored) rfl ag22 rfl (At.segs (ss := [Seg.cell (.int .u64 a0.lasts), Seg.cell (.int .u64 a0.stored), Seg.cell (.int .u64 a0.sent), Seg.cell (.bool a0.flushed)]) (At.gr A_0 fB) 1 1 rfl)) rfl rfl rfl ?_
 refine ol_val (v := .int .u64 a0.stored) (by exact xr_assign rfl rfl) rfl rfl rfl ?_
 refine ol_nil ?_
 refine cw_ret ?_
 repeat (first | with_reducible refine thn_r ?_ | with_reducible refine blk_r ?_)
 obtain rfl := Option.some.inj h
 refine fin_ret1 Try.results91 rfl ?_
 exact ⟨_, rfl, rfl, fB⟩
def pmem_Device_octets__pmem_Device_View_1.s0 (fu : Nat) (a0 : S_pmem_Device) : (Int × (List Int)) → Option (Sum (List Int) (Int × (List Int))) := fun s11 => (if (decide (s11.1 < (List.length a0.cells : Int))) = true then (if 0 ≤ s11.1 ∧ s11.1 < (List.length a0.cells : Int) then ((pmem_Device_View_1__r0.f fu (ix a0.cells s11.1) : Option Int).bind fun t20 => (if 0 ≤ s11.1 ∧ s11.1 < (List.length s11.2 : Int) then some (Sum.inr ((IntKind.i64.wrap (s11.1 + 1)), (List.set s11.2 (Int.toNat s11.1) t20))) else none)) else none) else some (Sum.inl (s11.2)))
def pmem_Device_octets__pmem_Device_View_1.f (fu : Nat) (a0 : S_pmem_Device) : Option (List Int) := (if 0 ≤ (List.length a0.cells : Int) ∧ Int.toNat (List.length a0.cells : Int) ≤ LIM then ((loopM (pmem_Device_octets__pmem_Device_View_1.s0 fu a0) fu (0, (List.replicate (Int.toNat (List.length a0.cells : Int)) (0 : Int)))).bind fun e12 => ((octet_Octets.f fu e12 : Option (List Int)).bind fun t31 => some (t31))) else none)
set_option maxRecDepth 100000 in
set_option maxHeartbeats 400000 in
theorem pmem_Device_octets__pmem_Device_View_1.ok (fu : Nat) (w : World) (a0 : S_pmem_Device) (G_0 : Nat) (V0_0 : Value) (R0_0 : Rd k_pmem_cell w V0_0 a0.cells) (V0_1 : Value) (R0_1 : Rd (kI .i64) w V0_1 a0.plan.list) (b_0 : Blk w G_0 139 [Seg.cell V0_0 R0_0.one, Seg.cell V0_1 R0_1.one, Seg.cell (.int .i64 a0.plan.at_), Seg.cell (.bool a0.off), Seg.cell (.bool a0.armed), Seg.cell (.int .i64 a0.left), Seg.cell (.int .i64 a0.steps)]) (r : (List Int)) (h : pmem_Device_octets__pmem_Device_View_1.f fu a0 = some r) :
  Calls Try.prog 88 (([.pointer (some ⟨G_0, 0, none⟩), Value.func (.func 91) #[] #[]] : List Value).toArray) w (fun e w' => ∃ v, e = .returned v ∧ ∃ u1 : Value, ∃ o2 : Own (kI .u8) 5 w' w.heap.size u1 r, v = u1 ∧ Gr w w') := by
 unfold pmem_Device_octets__pmem_Device_View_1.f at h
 have fB : Gr w w := Fr.refl _ _
 refine calls_cw Try.func88 rfl Try.ntmps88 rfl ?_
 refine cw_seq ?_
 refine cw_region ?_
 refine ol_val (v := .slice none 0 0) (by exact xr_assign rfl rfl) rfl rfl rfl ?_
 refine ol_nil ?_
 refine cw_seq ?_
 refine cw_region ?_
 refine ol_val (v := .pointer (some ⟨G_0, 0, none⟩)) (by exact xr_move rfl rfl) rfl rfl rfl ?_
 refine ol_val (v := .pointer (some ⟨G_0, 0, none⟩)) (by exact xr_nilCheck rfl rfl) rfl rfl rfl ?_
 refine ol_val (v := .pointer (some ⟨G_0, 0, none⟩)) (by exact xr_fieldAddr (p := 0) (q := 0) rfl fl139_0 rfl) rfl rfl rfl ?_
 refine ol_val (v := V0_0) (by exact xr_load1 (v := V0_0) rfl ag135 rfl (b_0.seg 0 rfl rfl)) rfl rfl rfl ?_
 refine ol_val (v := .int .i64 (List.length a0.cells : Int)) (by exact xr_lenR rfl Try.underlying135 rfl (R0_0.gr fB)) rfl rfl rfl ?_
 obtain ⟨g4, h⟩ := gs h
 refine ol_op (by exact opv_make (K := (kI .u64)) (z := (0 : Int)) rfl Try.underlying46 el22 rfl rfl rfl g4.1 g4.2 rfl fB.size) rfl rfl rfl ?_
 rintro v5 w10 ⟨o7, q6, z8⟩
 have b_0 := b_0.gr q6
 have fB := fB.gr q6
 refine ol_val (v := v5) (by exact xr_assign rfl rfl) rfl rfl rfl ?_
 refine ol_nil ?_
 refine cw_seq ?_
 refine cw_seq ?_
 refine cw_region ?_
 refine ol_val (v := .pointer (some ⟨G_0, 0, none⟩)) (by exact xr_move rfl rfl) rfl rfl rfl ?_
 refine ol_val (v := .pointer (some ⟨G_0, 0, none⟩)) (by exact xr_nilCheck rfl rfl) rfl rfl rfl ?_
 refine ol_val (v := .pointer (some ⟨G_0, 0, none⟩)) (by exact xr_fieldAddr (p := 0) (q := 0) rfl fl139_0 rfl) rfl rfl rfl ?_
 refine ol_val (v := V0_0) (by exact xr_load1 (v := V0_0) rfl ag135 rfl (b_0.seg 0 rfl rfl)) rfl rfl rfl ?_
 refine ol_val (v := .int .i64 (List.length a0.cells : Int)) (by exact xr_lenR rfl Try.underlying135 rfl (R0_0.gr fB)) rfl rfl rfl ?_
 refine ol_val (v := .int .i64 0) (by exact xr_move rfl rfl) rfl rfl rfl ?_
 refine ol_nil ?_
 obtain ⟨e12, l13, h14⟩ := bs h
 refine cw_mid (fun ρ' w' => ∃ o7 : Own (kI .u64) 22 w' w.heap.size v5 e12, ρ' 5 = v5 ∧ Blk w' G_0 139 [Seg.cell V0_0 R0_0.one, Seg.cell V0_1 R0_1.one, Seg.cell (.int .i64 a0.plan.at_), Seg.cell (.bool a0.off), Seg.cell (.bool a0.armed), Seg.cell (.int .i64 a0.left), Seg.cell (.int .i64 a0.steps)] ∧ Gr w w') ?_ ?_
 ·refine cw_block ?_
  refine cw_round (fun (s11 : Int × (List Int)) ρ' w' => ∃ o7 : Own (kI .u64) 22 w' w.heap.size v5 s11.2, ρ' 0 = .pointer (some ⟨G_0, 0, none⟩) ∧ ρ' 1 = Value.func (.func 91) #[] #[] ∧ ρ' 5 = v5 ∧ ρ' 17 = .int .i64 (List.length a0.cells : Int) ∧ ρ' 18 = .int .i64 s11.1 ∧ Blk w' G_0 139 [Seg.cell V0_0 R0_0.one, Seg.cell V0_1 R0_1.one, Seg.cell (.int .i64 a0.plan.at_), Seg.cell (.bool a0.off), Seg.cell (.bool a0.armed), Seg.cell (.int .i64 a0.left), Seg.cell (.int .i64 a0.steps)] ∧ Gr w w') l13 ?_ ?_
  ·skip
   exact ⟨o7, rfl, rfl, rfl, rfl, rfl, b_0, fB⟩
  rintro s11 x17 ρ15 w16 ⟨o7, e0, e1, e5, e17, e18, b_0, fB⟩ h
  unfold pmem_Device_octets__pmem_Device_View_1.s0 at h
  refine cw_seq ?_
  refine cw_region ?_
  refine ol_val (v := .bool (decide (s11.1 < (List.length a0.cells : Int)))) (by exact xr_lss rfl e18 e17) rfl rfl rfl ?_
  refine ol_nil ?_
  refine cw_seq ?_
  rcases is h with ⟨c18, h⟩ | ⟨c18, h⟩
  ·refine cw_condT rfl c18 ?_
   refine cw_skip ?_
   refine cw_seq ?_
   refine cw_block ?_
   refine cw_seq ?_
   refine cw_region ?_
   refine ol_val (v := .int .i64 s11.1) (by exact xr_move rfl e18) rfl rfl rfl ?_
   refine ol_val (v := .int .i64 s11.1) (by exact xr_assign rfl rfl) rfl rfl rfl ?_
   refine ol_nil ?_
   refine cw_region ?_
   refine ol_val (v := v5) (by exact xr_move rfl e5) rfl rfl rfl ?_
   refine ol_val (v := .int .i64 s11.1) (by exact xr_move rfl rfl) rfl rfl rfl ?_
   refine ol_val (v := Value.func (.func 91) #[] #[]) (by exact xr_move rfl e1) rfl rfl rfl ?_
   refine ol_val (v := .pointer (some ⟨G_0, 0, none⟩)) (by exact xr_move rfl e0) rfl rfl rfl ?_
   refine ol_val (v := .pointer (some ⟨G_0, 0, none⟩)) (by exact xr_nilCheck rfl rfl) rfl rfl rfl ?_
   refine ol_val (v := .pointer (some ⟨G_0, 0, none⟩)) (by exact xr_fieldAddr (p := 0) (q := 0) rfl fl139_0 rfl) rfl rfl rfl ?_
   refine ol_val (v := V0_0) (by exact xr_load1 (v := V0_0) rfl ag135 rfl (b_0.seg 0 rfl rfl)) rfl rfl rfl ?_
   refine ol_val (v := .int .i64 s11.1) (by exact xr_move rfl rfl) rfl rfl rfl ?_
   obtain ⟨g19, h⟩ := gs h
   refine ol_val (v := .pointer (some ⟨(sb V0_0), so V0_0 + Int.toNat s11.1 * 4, none⟩)) (by exact xr_indexR (K := k_pmem_cell) (v := V0_0) rfl Try.underlying135 sz142 rfl (R0_0.gr fB) rfl g19.1 g19.2) rfl rfl rfl ?_
   obtain ⟨t20, k21, h⟩ := bs h
   refine ol_op (by exact opv_callV (C := []) rfl rfl cal91 (ac rfl an) (pmem_Device_View_1__r0.ok fu _ (ix a0.cells s11.1) (sb V0_0) (so V0_0 + Int.toNat s11.1 * 4) (show At _ _ _ (cellsOf [Seg.cell (.int .u64 ((ix a0.cells s11.1).lasts)), Seg.cell (.int .u64 ((ix a0.cells s11.1).stored)), Seg.cell (.int .u64 ((ix a0.cells s11.1).sent)), Seg.cell (.bool ((ix a0.cells s11.1).flushed))]) from ((R0_0.gr fB).elem g19.1 g19.2)) _ k21)) rfl rfl rfl ?_
   rintro _ w23 ⟨rfl, q22⟩
   have b_0 := b_0.gr q22
   have o7 := o7.gr q22
   have fB := fB.gr q22
   obtain ⟨g24, h⟩ := gs h
   refine ol_val (v := .pointer (some ⟨(sb v5), so v5 + Int.toNat s11.1 * 1, none⟩)) (by exact xr_indexR (K := (kI .u64)) (v := v5) rfl Try.underlying46 sz22 rfl o7.rd rfl g24.1 g24.2) rfl rfl rfl ?_
   have f26 := off_ty b_0 o7 (by decide)
   have f27 := o7.geO
   refine ol_op0 (by exact opv_storeRow (z := t20) (xs := cellsOf [Seg.cell (.int .u64 t20)]) rfl sz22 rfl rfl rfl (len_cellsOf _) (one_cellsOf _) o7 g24.1 g24.2 (Spl.whole ((Kd.len _ _).trans (Kd.len _ _).symm)) rfl) rfl rfl ?_
   rintro _ w28 ⟨o7, q25⟩
   have b_0 := b_0.wrO q25 f26
   have fB := fB.wrO q25 f27
   refine ol_nil ?_
   refine blk_i ?_
   refine cw_region ?_
   refine ol_val (v := .int .i64 (IntKind.i64.wrap (s11.1 + 1))) (by exact xr_add rfl e18 rfl) rfl rfl rfl ?_
   refine ol_val (v := .int .i64 (IntKind.i64.wrap (s11.1 + 1))) (by exact xr_move rfl rfl) rfl rfl rfl ?_
   refine ol_nil ?_
   obtain rfl := Option.some.inj h
   refine lp_in ?_
   exact ⟨o7, e0, e1, e5, e17, rfl, b_0, fB⟩
  refine cw_condF rfl c18 ?_
  refine cw_exit ?_
  repeat (first | with_reducible refine thn_e ?_ | with_reducible refine blk_e rfl ?_)
  obtain rfl := Option.some.inj h
  refine lp_exit ?_
  rintro rfl
  refine thn_x ?_
  exact ⟨o7, e5, b_0, fB⟩
 rintro ρ29 w30 ⟨o7, e5, b_0, fB⟩
 have h := h14
 refine cw_seq ?_
 refine cw_region ?_
 refine ol_val (v := v5) (by exact xr_move rfl e5) rfl rfl rfl ?_
 obtain ⟨t31, k32, h⟩ := bs h
 refine ol_op (by exact opv_call rfl cal104 (ac rfl an) (octet_Octets.ok fu _ e12 v5 (o7.rd) _ k32)) rfl rfl rfl ?_
 rintro u33 w37 ⟨_, o34, rfl, q36⟩
 have o34 := Own.base o34 fB.size
 have b_0 := b_0.gr q36
 have fB := fB.gr q36
 refine ol_val (v := u33) (by exact xr_assign rfl rfl) rfl rfl rfl ?_
 refine ol_nil ?_
 refine cw_ret ?_
 repeat (first | with_reducible refine thn_r ?_ | with_reducible refine blk_r ?_)
 obtain rfl := Option.some.inj h
 refine fin_ret1 Try.results88 rfl ?_
 exact ⟨_, rfl, u33, o34, rfl, fB⟩
def pmem_Device_View.f (fu : Nat) (a0 : S_pmem_Device) : Option (List Int) := ((pmem_Device_octets__pmem_Device_View_1.f fu a0 : Option (List Int)).bind fun t4 => some (t4))
set_option maxRecDepth 100000 in
set_option maxHeartbeats 400000 in
theorem pmem_Device_View.ok (fu : Nat) (w : World) (a0 : S_pmem_Device) (G_0 : Nat) (V0_0 : Value) (R0_0 : Rd k_pmem_cell w V0_0 a0.cells) (V0_1 : Value) (R0_1 : Rd (kI .i64) w V0_1 a0.plan.list) (b_0 : Blk w G_0 139 [Seg.cell V0_0 R0_0.one, Seg.cell V0_1 R0_1.one, Seg.cell (.int .i64 a0.plan.at_), Seg.cell (.bool a0.off), Seg.cell (.bool a0.armed), Seg.cell (.int .i64 a0.left), Seg.cell (.int .i64 a0.steps)]) (r : (List Int)) (h : pmem_Device_View.f fu a0 = some r) :
  Calls Try.prog 36 (([.pointer (some ⟨G_0, 0, none⟩)] : List Value).toArray) w (fun e w' => ∃ v, e = .returned v ∧ ∃ u1 : Value, ∃ o2 : Own (kI .u8) 5 w' w.heap.size u1 r, v = u1 ∧ Gr w w') := by
 unfold pmem_Device_View.f at h
 have fB : Gr w w := Fr.refl _ _
 refine calls_cw Try.func36 rfl Try.ntmps36 rfl ?_
 refine cw_seq ?_
 refine cw_region ?_
 refine ol_val (v := .slice none 0 0) (by exact xr_assign rfl rfl) rfl rfl rfl ?_
 refine ol_nil ?_
 refine cw_seq ?_
 refine cw_region ?_
 refine ol_val (v := .pointer (some ⟨G_0, 0, none⟩)) (by exact xr_move rfl rfl) rfl rfl rfl ?_
 obtain ⟨t4, k5, h⟩ := bs h
 refine ol_op (by exact opv_call rfl cal88 (ac rfl (ac rfl an)) (pmem_Device_octets__pmem_Device_View_1.ok fu _ a0 G_0 V0_0 (R0_0.gr fB) V0_1 (R0_1.gr fB) b_0 _ k5)) rfl rfl rfl ?_
 rintro u6 w10 ⟨_, o7, rfl, q9⟩
 have o7 := Own.base o7 fB.size
 have b_0 := b_0.gr q9
 have fB := fB.gr q9
 refine ol_val (v := u6) (by exact xr_assign rfl rfl) rfl rfl rfl ?_
 refine ol_nil ?_
 refine cw_ret ?_
 repeat (first | with_reducible refine thn_r ?_ | with_reducible refine blk_r ?_)
 obtain rfl := Option.some.inj h
 refine fin_ret1 Try.results36 rfl ?_
 exact ⟨_, rfl, u6, o7, rfl, fB⟩
def pmem_Device_Steps.f (fu : Nat) (a0 : S_pmem_Device) : Option Int := some (a0.steps)
set_option maxRecDepth 100000 in
set_option maxHeartbeats 400000 in
theorem pmem_Device_Steps.ok (fu : Nat) (w : World) (a0 : S_pmem_Device) (G_0 : Nat) (V0_0 : Value) (R0_0 : Rd k_pmem_cell w V0_0 a0.cells) (V0_1 : Value) (R0_1 : Rd (kI .i64) w V0_1 a0.plan.list) (b_0 : Blk w G_0 139 [Seg.cell V0_0 R0_0.one, Seg.cell V0_1 R0_1.one, Seg.cell (.int .i64 a0.plan.at_), Seg.cell (.bool a0.off), Seg.cell (.bool a0.armed), Seg.cell (.int .i64 a0.left), Seg.cell (.int .i64 a0.steps)]) (r : Int) (h : pmem_Device_Steps.f fu a0 = some r) :
  Calls Try.prog 37 (([.pointer (some ⟨G_0, 0, none⟩)] : List Value).toArray) w (fun e w' => ∃ v, e = .returned v ∧ v = .int .i64 r ∧ Gr w w') := by
 unfold pmem_Device_Steps.f at h
 have fB : Gr w w := Fr.refl _ _
 refine calls_cw Try.func37 rfl Try.ntmps37 rfl ?_
 refine cw_seq ?_
 refine cw_region ?_
 refine ol_val (v := .int .i64 0) (by exact xr_assign rfl rfl) rfl rfl rfl ?_
 refine ol_nil ?_
 refine cw_seq ?_
 refine cw_region ?_
 refine ol_val (v := .pointer (some ⟨G_0, 0, none⟩)) (by exact xr_move rfl rfl) rfl rfl rfl ?_
 refine ol_val (v := .pointer (some ⟨G_0, 0, none⟩)) (by exact xr_nilCheck rfl rfl) rfl rfl rfl ?_
 refine ol_val (v := .pointer (some ⟨G_0, 6, none⟩)) (by exact xr_fieldAddr (p := 0) (q := 6) rfl fl139_5 rfl) rfl rfl rfl ?_
 refine ol_val (v := .int .i64 a0.steps) (by exact xr_load1 (v := .int .i64 a0.steps) rfl ag3 rfl (b_0.seg 6 rfl rfl)) rfl rfl rfl ?_
 refine ol_val (v := .int .i64 a0.steps) (by exact xr_assign rfl rfl) rfl rfl rfl ?_
 refine ol_nil ?_
 refine cw_ret ?_
 repeat (first | with_reducible refine thn_r ?_ | with_reducible refine blk_r ?_)
 obtain rfl := Option.some.inj h
 refine fin_ret1 Try.results37 rfl ?_
 exact ⟨_, rfl, rfl, fB⟩
def pmem_cell_open__r0.f (fu : Nat) (a0 : S_pmem_cell) : Option Bool := some ((if a0.flushed = true then true else (!decide (a0.stored = a0.lasts))))
set_option maxRecDepth 100000 in
set_option maxHeartbeats 400000 in
theorem pmem_cell_open__r0.ok (fu : Nat) (w : World) (a0 : S_pmem_cell) (G_0 p_0 : Nat) (A_0 : At w G_0 p_0 (cellsOf [Seg.cell (.int .u64 a0.lasts), Seg.cell (.int .u64 a0.stored), Seg.cell (.int .u64 a0.sent), Seg.cell (.bool a0.flushed)])) (r : Bool) (h : pmem_cell_open__r0.f fu a0 = some r) :
  Calls Try.prog 86 (([.pointer (some ⟨G_0, p_0, none⟩)] : List Value).toArray) w (fun e w' => ∃ v, e = .returned v ∧ v = .bool r ∧ Gr w w') := by
 unfold pmem_cell_open__r0.f at h
 have fB : Gr w w := Fr.refl _ _
 refine calls_cw Try.func86 rfl Try.ntmps86 rfl ?_
 refine cw_seq ?_
 refine cw_region ?_
 refine ol_val (v := .bool false) (by exact xr_assign rfl rfl) rfl rfl rfl ?_
 refine ol_nil ?_
 refine cw_seq ?_
 refine cw_mid (fun ρ' w' => ρ' 2 = .bool (if a0.flushed = true then true else (!decide (a0.stored = a0.lasts))) ∧ Gr w w') ?_ ?_
 ·skip
  rcases bt a0.flushed with c1 | c1
  ·skip
   refine cw_drawL 14 [fun vz wz => vz = (.pointer (some ⟨G_0, p_0, none⟩) : Value), fun vz wz => vz = (.pointer (some ⟨G_0, p_0, none⟩) : Value), fun vz wz => vz = (.pointer (some ⟨G_0, p_0 + 3, none⟩) : Value), fun vz wz => vz = (.bool a0.flushed : Value), fun vz wz => vz = (.bool a0.flushed : Value), fun vz _ => vz = undef, fun vz _ => vz = undef, fun vz _ => vz = undef, fun vz _ => vz = undef, fun vz _ => vz = undef, fun vz _ => vz = undef, fun vz _ => vz = undef, fun vz _ => vz = undef, fun vz _ => vz = undef] mo rfl ⟨fun _ _ _ h _ => h, fun _ _ _ h _ => h, fun _ _ _ h _ => h, fun _ _ _ h _ => h, fun _ _ _ h _ => h, fun _ _ _ h _ => h, fun _ _ _ h _ => h, fun _ _ _ h _ => h, fun _ _ _ h _ => h, fun _ _ _ h _ => h, fun _ _ _ h _ => h, fun _ _ _ h _ => h, fun _ _ _ h _ => h, fun _ _ _ h _ => h, trivial⟩ ?_ ?_
   ·refine ⟨?_, ?_, ?_, ?_, ?_, ?_, ?_, ?_, ?_, ?_, ?_, ?_, ?_, ?_, trivial⟩
    ·intro ρz wz hz hk hd
     exact sk_val (v := .pointer (some ⟨G_0, p_0, none⟩)) (by exact xr_move rfl ((hk 0 rfl).trans rfl)) rfl rfl
    ·intro ρz wz hz hk hd
     have d3 := hd 0 rfl 3 rfl
     exact sk_val (v := .pointer (some ⟨G_0, p_0, none⟩)) (by exact xr_nilCheck rfl d3) rfl rfl
    ·intro ρz wz hz hk hd
     have d4 := hd 1 rfl 4 rfl
     exact sk_val (v := .pointer (some ⟨G_0, p_0 + 3, none⟩)) (by exact xr_fieldAddr (p := p_0) (q := 3) rfl fl142_3 d4) rfl rfl
    ·intro ρz wz hz hk hd
     have d5 := hd 2 rfl 5 rfl
     exact sk_val (v := .bool a0.flushed) (by exact xr_load1 (v := .bool a0.flushed) rfl ag4 d5 (At.segs (ss := [Seg.cell (.int .u64 a0.lasts), Seg.cell (.int .u64 a0.stored), Seg.cell (.int .u64 a0.sent), Seg.cell (.bool a0.flushed)]) (At.gr A_0 (fB.gr hz)) 3 1 rfl)) rfl rfl
    ·intro ρz wz hz hk hd
     have d6 := hd 3 rfl 6 rfl
     exact sk_val (v := .bool a0.flushed) (by exact xr_move rfl d6) rfl rfl
    ·intro ρz wz hz hk hd
     have d7 := hd 4 rfl 7 rfl
     exact sk_skip rfl rfl d7 c1 rfl
    ·intro ρz wz hz hk hd
     have d7 := hd 4 rfl 7 rfl
     exact sk_skip rfl rfl d7 c1 rfl
    ·intro ρz wz hz hk hd
     have d7 := hd 4 rfl 7 rfl
     exact sk_skip rfl rfl d7 c1 rfl
    ·intro ρz wz hz hk hd
     have d7 := hd 4 rfl 7 rfl
     exact sk_skip rfl rfl d7 c1 rfl
    ·intro ρz wz hz hk hd
     have d7 := hd 4 rfl 7 rfl
     exact sk_skip rfl rfl d7 c1 rfl
    ·intro ρz wz hz hk hd
     have d7 := hd 4 rfl 7 rfl
     exact sk_skip rfl rfl d7 c1 rfl
    ·intro ρz wz hz hk hd
     have d7 := hd 4 rfl 7 rfl
     exact sk_skip rfl rfl d7 c1 rfl
    ·intro ρz wz hz hk hd
     have d7 := hd 4 rfl 7 rfl
     exact sk_skip rfl rfl d7 c1 rfl
    intro ρz wz hz hk hd
    have d7 := hd 4 rfl 7 rfl
    exact sk_skip rfl rfl d7 c1 rfl
   intro ρ2 w3 q4 hk hd
   have e7 := hd 4 rfl 7 rfl
   have fB := fB.gr q4
   refine ol_val (v := .bool true) (by exact xr_pickT rfl e7 c1 rfl) rfl rfl rfl ?_
   refine ol_val (v := .bool true) (by exact xr_assign rfl rfl) rfl rfl rfl ?_
   refine ol_nil ?_
   refine thn_i ?_
   exact ⟨(rfl).trans (congrArg (fun z => (.bool z : Value)) (show true = (if a0.flushed = true then true else (!decide (a0.stored = a0.lasts))) from by rw [ite_t c1])), q4⟩
  refine cw_drawL 14 [fun vz wz => vz = (.pointer (some ⟨G_0, p_0, none⟩) : Value), fun vz wz => vz = (.pointer (some ⟨G_0, p_0, none⟩) : Value), fun vz wz => vz = (.pointer (some ⟨G_0, p_0 + 3, none⟩) : Value), fun vz wz => vz = (.bool a0.flushed : Value), fun vz wz => vz = (.bool a0.flushed : Value), fun vz wz => vz = (.pointer (some ⟨G_0, p_0, none⟩) : Value), fun vz wz => vz = (.pointer (some ⟨G_0, p_0, none⟩) : Value), fun vz wz => vz = (.pointer (some ⟨G_0, p_0 + 1, none⟩) : Value), fun vz wz => vz = (.int .u64 a0.stored : Value), fun vz wz => vz = (.pointer (some ⟨G_0, p_0, none⟩) : Value), fun vz wz => vz = (.pointer (some ⟨G_0, p_0, none⟩) : Value), fun vz wz => vz = (.pointer (some ⟨G_0, p_0 + 0, none⟩) : Value), fun vz wz => vz = (.int .u64 a0.lasts : Value), fun vz wz => vz = (.bool (!decide (a0.stored = a0.lasts)) : Value)] mo rfl ⟨fun _ _ _ h _ => h, fun _ _ _ h _ => h, fun _ _ _ h _ => h, fun _ _ _ h _ => h, fun _ _ _ h _ => h, fun _ _ _ h _ => h, fun _ _ _ h _ => h, fun _ _ _ h _ => h, fun _ _ _ h _ => h, fun _ _ _ h _ => h, fun _ _ _ h _ => h, fun _ _ _ h _ => h, fun _ _ _ h _ => h, fun _ _ _ h _ => h, trivial⟩ ?_ ?_
  ·refine ⟨?_, ?_, ?_, ?_, ?_, ?_, ?_, ?_, ?_, ?_, ?_, ?_, ?_, ?_, trivial⟩
   ·intro ρz wz hz hk hd
    exact sk_val (v := .pointer (some ⟨G_0, p_0, none⟩)) (by exact xr_move rfl ((hk 0 rfl).trans rfl)) rfl rfl
   ·intro ρz wz hz hk hd
    have d3 := hd 0 rfl 3 rfl
    exact sk_val (v := .pointer (some ⟨G_0, p_0, none⟩)) (by exact xr_nilCheck rfl d3) rfl rfl
   ·intro ρz wz hz hk hd
    have d4 := hd 1 rfl 4 rfl
    exact sk_val (v := .pointer (some ⟨G_0, p_0 + 3, none⟩)) (by exact xr_fieldAddr (p := p_0) (q := 3) rfl fl142_3 d4) rfl rfl
   ·intro ρz wz hz hk hd
    have d5 := hd 2 rfl 5 rfl
    exact sk_val (v := .bool a0.flushed) (by exact xr_load1 (v := .bool a0.flushed) rfl ag4 d5 (At.segs (ss := [Seg.cell (.int .u64 a0.lasts), Seg.cell (.int .u64 a0.stored), Seg.cell (.int .u64 a0.sent), Seg.cell (.bool a0.flushed)]) (At.gr A_0 (fB.gr hz)) 3 1 rfl)) rfl rfl
   ·intro ρz wz hz hk hd
    have d6 := hd 3 rfl 6 rfl
    exact sk_val (v := .bool a0.flushed) (by exact xr_move rfl d6) rfl rfl
   ·intro ρz wz hz hk hd
    have d7 := hd 4 rfl 7 rfl
    exact sk_gval (v := .pointer (some ⟨G_0, p_0, none⟩)) (by exact xr_move rfl ((hk 0 rfl).trans rfl)) rfl rfl d7 c1 rfl
   ·intro ρz wz hz hk hd
    have d8 := hd 5 rfl 8 rfl
    have d7 := hd 4 rfl 7 rfl
    exact sk_gval (v := .pointer (some ⟨G_0, p_0, none⟩)) (by exact xr_nilCheck rfl d8) rfl rfl d7 c1 rfl
   ·intro ρz wz hz hk hd
    have d9 := hd 6 rfl 9 rfl
    have d7 := hd 4 rfl 7 rfl
    exact sk_gval (v := .pointer (some ⟨G_0, p_0 + 1, none⟩)) (by exact xr_fieldAddr (p := p_0) (q := 1) rfl fl142_1 d9) rfl rfl d7 c1 rfl
   ·intro ρz wz hz hk hd
    have d10 := hd 7 rfl 10 rfl
    have d7 := hd 4 rfl 7 rfl
    exact sk_gval (v := .int .u64 a0.stored) (by exact xr_load1 (v := .int .u64 a0.stored) rfl ag22 d10 (At.segs (ss := [Seg.cell (.int .u64 a0.lasts), Seg.cell (.int .u64 a0.stored), Seg.cell (.int .u64 a0.sent), Seg.cell (.bool a0.flushed)]) (At.gr A_0 (fB.gr hz)) 1 1 rfl)) rfl rfl d7 c1 rfl
   ·intro ρz wz hz hk hd
    have d7 := hd 4 rfl 7 rfl
    exact sk_gval (v := .pointer (some ⟨G_0, p_0, none⟩)) (by exact xr_move rfl ((hk 0 rfl).trans rfl)) rfl rfl d7 c1 rfl
   ·intro ρz wz hz hk hd
    have d12 := hd 9 rfl 12 rfl
    have d7 := hd 4 rfl 7 rfl
    exact sk_gval (v := .pointer (some ⟨G_0, p_0, none⟩)) (by exact xr_nilCheck rfl d12) rfl rfl d7 c1 rfl
   ·intro ρz wz hz hk hd
    have d13 := hd 10 rfl 13 rfl
    have d7 := hd 4 rfl 7 rfl
    exact sk_gval (v := .pointer (some ⟨G_0, p_0 + 0, none⟩)) (by exact xr_fieldAddr (p := p_0) (q := 0) rfl fl142_0 d13) rfl rfl d7 c1 rfl
   ·intro ρz wz hz hk hd
    have d14 := hd 11 rfl 14 rfl
    have d7 := hd 4 rfl 7 rfl
    exact sk_gval (v := .int .u64 a0.lasts) (by exact xr_load1 (v := .int .u64 a0.lasts) rfl ag22 d14 (At.segs (ss := [Seg.cell (.int .u64 a0.lasts), Seg.cell (.int .u64 a0.stored), Seg.cell (.int .u64 a0.sent), Seg.cell (.bool a0.flushed)]) (At.gr A_0 (fB.gr hz)) 0 1 rfl)) rfl rfl d7 c1 rfl
   intro ρz wz hz hk hd
   have d11 := hd 8 rfl 11 rfl
   have d15 := hd 12 rfl 15 rfl
   have d7 := hd 4 rfl 7 rfl
   exact sk_gval (v := .bool (!decide (a0.stored = a0.lasts))) (by exact xr_neI rfl Try.underlying22 rfl d11 d15) rfl rfl d7 c1 rfl
  intro ρ5 w6 q7 hk hd
  have e7 := hd 4 rfl 7 rfl
  have e16 := hd 13 rfl 16 rfl
  have fB := fB.gr q7
  refine ol_val (v := .bool (!decide (a0.stored = a0.lasts))) (by exact xr_pickF rfl e7 c1 e16) rfl rfl rfl ?_
  refine ol_val (v := .bool (!decide (a0.stored = a0.lasts))) (by exact xr_assign rfl rfl) rfl rfl rfl ?_
  refine ol_nil ?_
  refine thn_i ?_
  exact ⟨(rfl).trans (congrArg (fun z => (.bool z : Value)) (show (!decide (a0.stored = a0.lasts)) = (if a0.flushed = true then true else (!decide (a0.stored = a0.lasts))) from by rw [ite_f c1])), q7⟩
 rintro ρ8 w9 ⟨e2, q10⟩
 have fB := fB.gr q10
 refine cw_ret ?_
 repeat (first | with_reducible refine thn_r ?_ | with_reducible refine blk_r ?_)
 obtain rfl := Option.some.inj h
 refine fin_ret1 Try.results86 e2 ?_
 exact ⟨_, rfl, rfl, fB⟩
def pmem_Device_Fates.s0 (fu : Nat) (a0 : S_pmem_Device) : ((List S_api_Fate) × Int) → Option (Sum (List S_api_Fate) ((List S_api_Fate) × Int)) := fun s4 => (if (decide (s4.2 < (List.length a0.cells : Int))) = true then (if 0 ≤ s4.2 ∧ s4.2 < (List.length a0.cells : Int) then ((pmem_cell_open__r0.f fu (ix a0.cells s4.2) : Option Bool).bind fun t19 => (((if t19 = true then (if List.length s4.1 + List.length [(⟨s4.2, (ix a0.cells s4.2).lasts, (ix a0.cells s4.2).flushed, (ix a0.cells s4.2).sent, (ix a0.cells s4.2).stored⟩ : S_api_Fate)] ≤ LIM then some ((s4.1 ++ [(⟨s4.2, (ix a0.cells s4.2).lasts, (ix a0.cells s4.2).flushed, (ix a0.cells s4.2).sent, (ix a0.cells s4.2).stored⟩ : S_api_Fate)])) else none) else some (s4.1)) : Option (List S_api_Fate)).bind fun x23 => some (Sum.inr (x23, (IntKind.i64.wrap (s4.2 + 1)))))) else none) else some (Sum.inl (s4.1)))
def pmem_Device_Fates.f (fu : Nat) (a0 : S_pmem_Device) : Option (List S_api_Fate) := ((loopM (pmem_Device_Fates.s0 fu a0) fu ([], 0)).bind fun e5 => some (e5))
set_option maxRecDepth 100000 in
set_option maxHeartbeats 400000 in
theorem pmem_Device_Fates.ok (fu : Nat) (w : World) (a0 : S_pmem_Device) (G_0 : Nat) (V0_0 : Value) (R0_0 : Rd k_pmem_cell w V0_0 a0.cells) (V0_1 : Value) (R0_1 : Rd (kI .i64) w V0_1 a0.plan.list) (b_0 : Blk w G_0 139 [Seg.cell V0_0 R0_0.one, Seg.cell V0_1 R0_1.one, Seg.cell (.int .i64 a0.plan.at_), Seg.cell (.bool a0.off), Seg.cell (.bool a0.armed), Seg.cell (.int .i64 a0.left), Seg.cell (.int .i64 a0.steps)]) (r : (List S_api_Fate)) (h : pmem_Device_Fates.f fu a0 = some r) :
  Calls Try.prog 40 (([.pointer (some ⟨G_0, 0, none⟩)] : List Value).toArray) w (fun e w' => ∃ v, e = .returned v ∧ ∃ u1 : Value, ∃ o2 : Own k_api_Fate 55 w' w.heap.size u1 r, v = u1 ∧ Gr w w') := by
 unfold pmem_Device_Fates.f at h
 have fB : Gr w w := Fr.refl _ _
 refine calls_cw Try.func40 rfl Try.ntmps40 rfl ?_
 refine cw_seq ?_
 refine cw_region ?_
 refine ol_val (v := .slice none 0 0) (by exact xr_assign rfl rfl) rfl rfl rfl ?_
 refine ol_nil ?_
 refine cw_seq ?_
 refine cw_region ?_
 refine ol_val (v := .slice none 0 0) (by exact xr_assign rfl rfl) rfl rfl rfl ?_
 refine ol_nil ?_
 refine cw_seq ?_
 refine cw_seq ?_
 refine cw_region ?_
 refine ol_val (v := .pointer (some ⟨G_0, 0, none⟩)) (by exact xr_move rfl rfl) rfl rfl rfl ?_
 refine ol_val (v := .pointer (some ⟨G_0, 0, none⟩)) (by exact xr_nilCheck rfl rfl) rfl rfl rfl ?_
 refine ol_val (v := .pointer (some ⟨G_0, 0, none⟩)) (by exact xr_fieldAddr (p := 0) (q := 0) rfl fl139_0 rfl) rfl rfl rfl ?_
 refine ol_val (v := V0_0) (by exact xr_load1 (v := V0_0) rfl ag135 rfl (b_0.seg 0 rfl rfl)) rfl rfl rfl ?_
 refine ol_val (v := .int .i64 (List.length a0.cells : Int)) (by exact xr_lenR rfl Try.underlying135 rfl (R0_0.gr fB)) rfl rfl rfl ?_
 refine ol_val (v := .int .i64 0) (by exact xr_move rfl rfl) rfl rfl rfl ?_
 refine ol_nil ?_
 obtain ⟨e5, l6, h7⟩ := bs h
 refine cw_mid (fun ρ' w' => ∃ v8 : Value, ∃ o9 : Own k_api_Fate 55 w' w.heap.size v8 e5, ρ' 3 = v8 ∧ Blk w' G_0 139 [Seg.cell V0_0 R0_0.one, Seg.cell V0_1 R0_1.one, Seg.cell (.int .i64 a0.plan.at_), Seg.cell (.bool a0.off), Seg.cell (.bool a0.armed), Seg.cell (.int .i64 a0.left), Seg.cell (.int .i64 a0.steps)] ∧ Gr w w') ?_ ?_
 ·refine cw_block ?_
  refine cw_round (fun (s4 : (List S_api_Fate) × Int) ρ' w' => ∃ v11 : Value, ∃ o12 : Own k_api_Fate 55 w' w.heap.size v11 s4.1, ρ' 0 = .pointer (some ⟨G_0, 0, none⟩) ∧ ρ' 3 = v11 ∧ ρ' 10 = .int .i64 (List.length a0.cells : Int) ∧ ρ' 11 = .int .i64 s4.2 ∧ Blk w' G_0 139 [Seg.cell V0_0 R0_0.one, Seg.cell V0_1 R0_1.one, Seg.cell (.int .i64 a0.plan.at_), Seg.cell (.bool a0.off), Seg.cell (.bool a0.armed), Seg.cell (.int .i64 a0.left), Seg.cell (.int .i64 a0.steps)] ∧ Gr w w') l6 ?_ ?_
  ·skip
   exact ⟨(.slice none 0 0), Own.nil _ _ _ _, rfl, rfl, rfl, rfl, b_0, fB⟩
  rintro s4 x16 ρ14 w15 ⟨v11, o12, e0, e3, e10, e11, b_0, fB⟩ h
  unfold pmem_Device_Fates.s0 at h
  refine cw_seq ?_
  refine cw_region ?_
  refine ol_val (v := .bool (decide (s4.2 < (List.length a0.cells : Int)))) (by exact xr_lss rfl e11 e10) rfl rfl rfl ?_
  refine ol_nil ?_
  refine cw_seq ?_
  rcases is h with ⟨c17, h⟩ | ⟨c17, h⟩
  ·refine cw_condT rfl c17 ?_
   refine cw_skip ?_
   refine cw_seq ?_
   refine cw_block ?_
   refine cw_seq ?_
   refine cw_region ?_
   refine ol_val (v := .int .i64 s4.2) (by exact xr_move rfl e11) rfl rfl rfl ?_
   refine ol_val (v := .int .i64 s4.2) (by exact xr_assign rfl rfl) rfl rfl rfl ?_
   refine ol_nil ?_
   refine cw_seq ?_
   refine cw_region ?_
   refine ol_val (v := .pointer (some ⟨G_0, 0, none⟩)) (by exact xr_move rfl e0) rfl rfl rfl ?_
   refine ol_val (v := .pointer (some ⟨G_0, 0, none⟩)) (by exact xr_nilCheck rfl rfl) rfl rfl rfl ?_
   refine ol_val (v := .pointer (some ⟨G_0, 0, none⟩)) (by exact xr_fieldAddr (p := 0) (q := 0) rfl fl139_0 rfl) rfl rfl rfl ?_
   refine ol_val (v := V0_0) (by exact xr_load1 (v := V0_0) rfl ag135 rfl (b_0.seg 0 rfl rfl)) rfl rfl rfl ?_
   refine ol_val (v := .int .i64 s4.2) (by exact xr_move rfl rfl) rfl rfl rfl ?_
   obtain ⟨g18, h⟩ := gs h
   refine ol_val (v := .pointer (some ⟨(sb V0_0), so V0_0 + Int.toNat s4.2 * 4, none⟩)) (by exact xr_indexR (K := k_pmem_cell) (v := V0_0) rfl Try.underlying135 sz142 rfl (R0_0.gr fB) rfl g18.1 g18.2) rfl rfl rfl ?_
   refine ol_val (v := .pointer (some ⟨(sb V0_0), so V0_0 + Int.toNat s4.2 * 4, none⟩)) (by exact xr_assign rfl rfl) rfl rfl rfl ?_
   refine ol_nil ?_
   refine cw_seq ?_
   refine cw_region ?_
   refine ol_val (v := .pointer (some ⟨(sb V0_0), so V0_0 + Int.toNat s4.2 * 4, none⟩)) (by exact xr_move rfl rfl) rfl rfl rfl ?_
   obtain ⟨t19, k20, h⟩ := bs h
   refine ol_op (by exact opv_call rfl cal86 (ac rfl an) (pmem_cell_open__r0.ok fu _ (ix a0.cells s4.2) (sb V0_0) (so V0_0 + Int.toNat s4.2 * 4) (show At _ _ _ (cellsOf [Seg.cell (.int .u64 ((ix a0.cells s4.2).lasts)), Seg.cell (.int .u64 ((ix a0.cells s4.2).stored)), Seg.cell (.int .u64 ((ix a0.cells s4.2).sent)), Seg.cell (.bool ((ix a0.cells s4.2).flushed))]) from ((R0_0.gr fB).elem g18.1 g18.2)) _ k20)) rfl rfl rfl ?_
   rintro _ w22 ⟨rfl, q21⟩
   have b_0 := b_0.gr q21
   have o12 := o12.gr q21
   have fB := fB.gr q21
   refine ol_nil ?_
   obtain ⟨x23, j24, h25⟩ := bs h
   refine cw_mid (fun ρ' w' => ∃ v26 : Value, ∃ o27 : Own k_api_Fate 55 w' w.heap.size v26 x23, ρ' 0 = .pointer (some ⟨G_0, 0, none⟩) ∧ ρ' 3 = v26 ∧ ρ' 10 = .int .i64 (List.length a0.cells : Int) ∧ ρ' 11 = .int .i64 s4.2 ∧ Blk w' G_0 139 [Seg.cell V0_0 R0_0.one, Seg.cell V0_1 R0_1.one, Seg.cell (.int .i64 a0.plan.at_), Seg.cell (.bool a0.off), Seg.cell (.bool a0.armed), Seg.cell (.int .i64 a0.left), Seg.cell (.int .i64 a0.steps)] ∧ Gr w w') ?_ ?_
   ·have h := j24
    rcases is h with ⟨c29, h⟩ | ⟨c29, h⟩
    ·refine cw_condT rfl c29 ?_
     refine cw_drawL 20 [fun vz wz => vz = (v11 : Value), fun vz wz => vz = (.int .i64 s4.2 : Value), fun vz wz => vz = (.pointer (some ⟨(sb V0_0), so V0_0 + Int.toNat s4.2 * 4, none⟩) : Value), fun vz wz => vz = (.pointer (some ⟨(sb V0_0), so V0_0 + Int.toNat s4.2 * 4, none⟩) : Value), fun vz wz => vz = (.pointer (some ⟨(sb V0_0), so V0_0 + Int.toNat s4.2 * 4 + 0, none⟩) : Value), fun vz wz => vz = (.int .u64 ((ix a0.cells s4.2).lasts) : Value), fun vz wz => vz = (.pointer (some ⟨(sb V0_0), so V0_0 + Int.toNat s4.2 * 4, none⟩) : Value), fun vz wz => vz = (.pointer (some ⟨(sb V0_0), so V0_0 + Int.toNat s4.2 * 4, none⟩) : Value), fun vz wz => vz = (.pointer (some ⟨(sb V0_0), so V0_0 + Int.toNat s4.2 * 4 + 3, none⟩) : Value), fun vz wz => vz = (.bool ((ix a0.cells s4.2).flushed) : Value), fun vz wz => vz = (.pointer (some ⟨(sb V0_0), so V0_0 + Int.toNat s4.2 * 4, none⟩) : Value), fun vz wz => vz = (.pointer (some ⟨(sb V0_0), so V0_0 + Int.toNat s4.2 * 4, none⟩) : Value), fun vz wz => vz = (.pointer (some ⟨(sb V0_0), so V0_0 + Int.toNat s4.2 * 4 + 2, none⟩) : Value), fun vz wz => vz = (.int .u64 ((ix a0.cells s4.2).sent) : Value), fun vz wz => vz = (.pointer (some ⟨(sb V0_0), so V0_0 + Int.toNat s4.2 * 4, none⟩) : Value), fun vz wz => vz = (.pointer (some ⟨(sb V0_0), so V0_0 + Int.toNat s4.2 * 4, none⟩) : Value), fun vz wz => vz = (.pointer (some ⟨(sb V0_0), so V0_0 + Int.toNat s4.2 * 4 + 1, none⟩) : Value), fun vz wz => vz = (.int .u64 ((ix a0.cells s4.2).stored) : Value), fun vz wz => vz = (aggV [Seg.cell (.int .i64 s4.2), Seg.cell (.int .u64 ((ix a0.cells s4.2).lasts)), Seg.cell (.bool ((ix a0.cells s4.2).flushed)), Seg.cell (.int .u64 ((ix a0.cells s4.2).sent)), Seg.cell (.int .u64 ((ix a0.cells s4.2).stored))] : Value), fun vz wz => ∃ v30 : Value, ∃ o32 : Own k_api_Fate 55 wz w.heap.size v30 [(⟨s4.2, (ix a0.cells s4.2).lasts, (ix a0.cells s4.2).flushed, (ix a0.cells s4.2).sent, (ix a0.cells s4.2).stored⟩ : S_api_Fate)], vz = (v30 : Value)] mo rfl ⟨fun _ _ _ h _ => h, fun _ _ _ h _ => h, fun _ _ _ h _ => h, fun _ _ _ h _ => h, fun _ _ _ h _ => h, fun _ _ _ h _ => h, fun _ _ _ h _ => h, fun _ _ _ h _ => h, fun _ _ _ h _ => h, fun _ _ _ h _ => h, fun _ _ _ h _ => h, fun _ _ _ h _ => h, fun _ _ _ h _ => h, fun _ _ _ h _ => h, fun _ _ _ h _ => h, fun _ _ _ h _ => h, fun _ _ _ h _ => h, fun _ _ _ h _ => h, fun _ _ _ h _ => h, fun _ _ _ ⟨v30, o32, h⟩ q => ⟨v30, o32.gr q, h⟩, trivial⟩ ?_ ?_
     ·refine ⟨?_, ?_, ?_, ?_, ?_, ?_, ?_, ?_, ?_, ?_, ?_, ?_, ?_, ?_, ?_, ?_, ?_, ?_, ?_, ?_, trivial⟩
      ·intro ρz wz hz hk hd
       exact sk_val (v := v11) (by exact xr_move rfl ((hk 3 rfl).trans e3)) rfl rfl
      ·intro ρz wz hz hk hd
       exact sk_val (v := .int .i64 s4.2) (by exact xr_move rfl ((hk 4 rfl).trans rfl)) rfl rfl
      ·intro ρz wz hz hk hd
       exact sk_val (by exact xr_move rfl ((hk 5 rfl).trans rfl)) rfl rfl
      ·intro ρz wz hz hk hd
       have d24 := hd 2 rfl 24 rfl
       exact sk_val (by exact xr_nilCheck rfl d24) rfl rfl
      ·intro ρz wz hz hk hd
       have d25 := hd 3 rfl 25 rfl
       exact sk_val (by exact xr_fieldAddr (p := so V0_0 + Int.toNat s4.2 * 4) (q := 0) rfl fl142_0 d25) rfl rfl
      ·intro ρz wz hz hk hd
       have d26 := hd 4 rfl 26 rfl
       exact sk_val (v := .int .u64 ((ix a0.cells s4.2).lasts)) (by exact xr_load1 (v := .int .u64 ((ix a0.cells s4.2).lasts)) rfl ag22 d26 (At.segs (ss := segs_pmem_cell (ix a0.cells s4.2)) ((R0_0.gr (fB.gr hz)).elem g18.1 g18.2) 0 1 rfl)) rfl rfl
      ·intro ρz wz hz hk hd
       exact sk_val (by exact xr_move rfl ((hk 5 rfl).trans rfl)) rfl rfl
      ·intro ρz wz hz hk hd
       have d28 := hd 6 rfl 28 rfl
       exact sk_val (by exact xr_nilCheck rfl d28) rfl rfl
      ·intro ρz wz hz hk hd
       have d29 := hd 7 rfl 29 rfl
       exact sk_val (by exact xr_fieldAddr (p := so V0_0 + Int.toNat s4.2 * 4) (q := 3) rfl fl142_3 d29) rfl rfl
      ·intro ρz wz hz hk hd
       have d30 := hd 8 rfl 30 rfl
       exact sk_val (v := .bool ((ix a0.cells s4.2).flushed)) (by exact xr_load1 (v := .bool ((ix a0.cells s4.2).flushed)) rfl ag4 d30 (At.segs (ss := segs_pmem_cell (ix a0.cells s4.2)) ((R0_0.gr (fB.gr hz)).elem g18.1 g18.2) 3 1 rfl)) rfl rfl
      ·intro ρz wz hz hk hd
       exact sk_val (by exact xr_move rfl ((hk 5 rfl).trans rfl)) rfl rfl
      ·intro ρz wz hz hk hd
       have d32 := hd 10 rfl 32 rfl
       exact sk_val (by exact xr_nilCheck rfl d32) rfl rfl
      ·intro ρz wz hz hk hd
       have d33 := hd 11 rfl 33 rfl
       exact sk_val (by exact xr_fieldAddr (p := so V0_0 + Int.toNat s4.2 * 4) (q := 2) rfl fl142_2 d33) rfl rfl
      ·intro ρz wz hz hk hd
       have d34 := hd 12 rfl 34 rfl
       exact sk_val (v := .int .u64 ((ix a0.cells s4.2).sent)) (by exact xr_load1 (v := .int .u64 ((ix a0.cells s4.2).sent)) rfl ag22 d34 (At.segs (ss := segs_pmem_cell (ix a0.cells s4.2)) ((R0_0.gr (fB.gr hz)).elem g18.1 g18.2) 2 1 rfl)) rfl rfl
      ·intro ρz wz hz hk hd
       exact sk_val (by exact xr_move rfl ((hk 5 rfl).trans rfl)) rfl rfl
      ·intro ρz wz hz hk hd
       have d36 := hd 14 rfl 36 rfl
       exact sk_val (by exact xr_nilCheck rfl d36) rfl rfl
      ·intro ρz wz hz hk hd
       have d37 := hd 15 rfl 37 rfl
       exact sk_val (by exact xr_fieldAddr (p := so V0_0 + Int.toNat s4.2 * 4) (q := 1) rfl fl142_1 d37) rfl rfl
      ·intro ρz wz hz hk hd
       have d38 := hd 16 rfl 38 rfl
       exact sk_val (v := .int .u64 ((ix a0.cells s4.2).stored)) (by exact xr_load1 (v := .int .u64 ((ix a0.cells s4.2).stored)) rfl ag22 d38 (At.segs (ss := segs_pmem_cell (ix a0.cells s4.2)) ((R0_0.gr (fB.gr hz)).elem g18.1 g18.2) 1 1 rfl)) rfl rfl
      ·intro ρz wz hz hk hd
       have d23 := hd 1 rfl 23 rfl
       have d27 := hd 5 rfl 27 rfl
       have d31 := hd 9 rfl 31 rfl
       have d35 := hd 13 rfl 35 rfl
       have d39 := hd 17 rfl 39 rfl
       exact sk_val (by exact xr_build (vals := [(0, .int .i64 s4.2), (1, .int .u64 ((ix a0.cells s4.2).lasts)), (2, .bool ((ix a0.cells s4.2).flushed)), (3, .int .u64 ((ix a0.cells s4.2).sent)), (4, .int .u64 ((ix a0.cells s4.2).stored))]) rfl ⟨rfl, d23, ⟨rfl, d27, ⟨rfl, d31, ⟨rfl, d35, ⟨rfl, d39, trivial⟩⟩⟩⟩⟩ (bl55_0_1_2_3_4 s4.2 ((ix a0.cells s4.2).lasts) ((ix a0.cells s4.2).flushed) ((ix a0.cells s4.2).sent) ((ix a0.cells s4.2).stored) _)) rfl rfl
      intro ρz wz hz hk hd
      have d40 := hd 18 rfl 40 rfl
      refine sk_op (by exact opv_buildRec (K := k_api_Fate) (z := (⟨s4.2, (ix a0.cells s4.2).lasts, (ix a0.cells s4.2).flushed, (ix a0.cells s4.2).sent, (ix a0.cells s4.2).stored⟩ : S_api_Fate)) rfl Try.underlying52 el55 rfl rfl d40 rfl (Nat.le_trans fB.size hz.size)) rfl ?_
      rintro v30 wy ⟨o32, q31, z33⟩
      exact ⟨⟨v30, o32, rfl⟩, q31⟩
     intro ρ35 w36 q37 hk hd
     have e0 := (hk 0 rfl).trans e0
     have e10 := (hk 10 rfl).trans e10
     have e11 := (hk 11 rfl).trans e11
     have e22 := hd 0 rfl 22 rfl
     obtain ⟨v38, o39, e41⟩ := hd 19 rfl 41 rfl
     have b_0 := b_0.gr q37
     have o12 := o12.gr q37
     have fB := fB.gr q37
     obtain ⟨g45, h⟩ := gs h
     have f47 := off_ty b_0 o12 (by decide)
     have f48 := o12.geO
     refine ol_op (by exact opv_append (K := k_api_Fate) rfl Try.underlying52 el55 rfl rfl rfl e22 e41 o12 o39.rd g45 fB.size) rfl rfl rfl ?_
     rintro v41 w49 ⟨o42, q43, n44⟩
     have b_0 := b_0.wrO q43 f47
     have fB := fB.wrO q43 f48
     refine ol_val (v := v41) (by exact xr_assign rfl rfl) rfl rfl rfl ?_
     refine ol_nil ?_
     obtain rfl := Option.some.inj h
     refine thn_i ?_
     exact ⟨v41, o42, e0, rfl, e10, e11, b_0, fB⟩
    refine cw_condF rfl c29 ?_
    refine cw_skip ?_
    obtain rfl := Option.some.inj h
    refine thn_i ?_
    exact ⟨v11, o12, e0, e3, e10, e11, b_0, fB⟩
   rintro ρ50 w51 ⟨v26, o27, e0, e3, e10, e11, b_0, fB⟩
   have h := h25
   refine blk_i ?_
   refine cw_region ?_
   refine ol_val (v := .int .i64 (IntKind.i64.wrap (s4.2 + 1))) (by exact xr_add rfl e11 rfl) rfl rfl rfl ?_
   refine ol_val (v := .int .i64 (IntKind.i64.wrap (s4.2 + 1))) (by exact xr_move rfl rfl) rfl rfl rfl ?_
   refine ol_nil ?_
   obtain rfl := Option.some.inj h
   refine lp_in ?_
   exact ⟨v26, o27, e0, e3, e10, rfl, b_0, fB⟩
  refine cw_condF rfl c17 ?_
  refine cw_exit ?_
  repeat (first | with_reducible refine thn_e ?_ | with_reducible refine blk_e rfl ?_)
  obtain rfl := Option.some.inj h
  refine lp_exit ?_
  rintro rfl
  refine thn_x ?_
  exact ⟨v11, o12, e3, b_0, fB⟩
 rintro ρ52 w53 ⟨v8, o9, e3, b_0, fB⟩
 have h := h7
 refine cw_seq ?_
 refine cw_region ?_
 refine ol_val (v := v8) (by exact xr_move rfl e3) rfl rfl rfl ?_
 refine ol_val (v := v8) (by exact xr_assign rfl rfl) rfl rfl rfl ?_
 refine ol_nil ?_
 refine cw_ret ?_
 repeat (first | with_reducible refine thn_r ?_ | with_reducible refine blk_r ?_)
 obtain rfl := Option.some.inj h
 refine fin_ret1 Try.results40 rfl ?_
 exact ⟨_, rfl, v8, o9, rfl, fB⟩
def rickyardref05_New.f (fu : Nat) (a0 : Int) : Option S_rickyardref05_Device := (if 0 ≤ (IntKind.i64.wrap (8 * a0)) ∧ Int.toNat (IntKind.i64.wrap (8 * a0)) ≤ LIM then (if 0 ≤ (IntKind.i64.wrap (8 * a0)) ∧ Int.toNat (IntKind.i64.wrap (8 * a0)) ≤ LIM then (if 0 ≤ (IntKind.i64.wrap (8 * a0)) ∧ Int.toNat (IntKind.i64.wrap (8 * a0)) ≤ LIM then (if 0 ≤ (IntKind.i64.wrap (8 * a0)) ∧ Int.toNat (IntKind.i64.wrap (8 * a0)) ≤ LIM then some ((⟨(List.replicate (Int.toNat (IntKind.i64.wrap (8 * a0))) (0 : Int)), (List.replicate (Int.toNat (IntKind.i64.wrap (8 * a0))) (0 : Int)), (List.replicate (Int.toNat (IntKind.i64.wrap (8 * a0))) (0 : Int)), (List.replicate (Int.toNat (IntKind.i64.wrap (8 * a0))) false), [], (0 : Int), (-1), (0 : Int)⟩ : S_rickyardref05_Device)) else none) else none) else none) else none)
set_option maxRecDepth 100000 in
set_option maxHeartbeats 400000 in
theorem rickyardref05_New.ok (fu : Nat) (w : World) (a0 : Int) (r : S_rickyardref05_Device) (h : rickyardref05_New.f fu a0 = some r) :
  Calls Try.prog 44 (([.int .i64 a0] : List Value).toArray) w (fun e w' => ∃ v, e = .returned v ∧ ∃ u1 : Value, ∃ p2 : ∃ G9 : Nat, ∃ U0 : Value, ∃ U1 : Value, ∃ U2 : Value, ∃ U3 : Value, ∃ U4 : Value, ∃ O0 : Own (kI .u64) 22 w' w.heap.size U0 r.Lasts, ∃ O1 : Own (kI .u64) 22 w' w.heap.size U1 r.Stored, ∃ O2 : Own (kI .u64) 22 w' w.heap.size U2 r.Sent, ∃ O3 : Own kB 4 w' w.heap.size U3 r.Flushed, ∃ O4 : Own (kI .i64) 3 w' w.heap.size U4 r.Plan, ∃ A0_1 : OffV U0 U1, ∃ A0_2 : OffV U0 U2, ∃ A1_2 : OffV U1 U2, u1 = .pointer (some ⟨G9, 0, none⟩) ∧ w.heap.size ≤ G9 ∧ Blk w' G9 65 [Seg.cell U0 O0.one, Seg.cell U1 O1.one, Seg.cell U2 O2.one, Seg.cell U3 O3.one, Seg.cell U4 O4.one, Seg.cell (.int .i64 r.Since), Seg.cell (.int .i64 r.Left), Seg.cell (.int .i64 r.Steps)], v = u1 ∧ Gr w w') := by
 unfold rickyardref05_New.f at h
 have fB : Gr w w := Fr.refl _ _
 refine calls_cw Try.func44 rfl Try.ntmps44 rfl ?_
 refine cw_seq ?_
 refine cw_region ?_
 refine ol_val (v := .pointer none) (by exact xr_assign rfl rfl) rfl rfl rfl ?_
 refine ol_nil ?_
 refine cw_seq ?_
 refine cw_region ?_
 refine ol_val (v := .int .i64 a0) (by exact xr_move rfl rfl) rfl rfl rfl ?_
 refine ol_val (v := .int .i64 (IntKind.i64.wrap (8 * a0))) (by exact xr_mul rfl rfl rfl) rfl rfl rfl ?_
 refine ol_val (v := .int .i64 (IntKind.i64.wrap (8 * a0))) (by exact xr_assign rfl rfl) rfl rfl rfl ?_
 refine ol_nil ?_
 refine cw_seq ?_
 obtain ⟨g3, h⟩ := gs h
 obtain ⟨g9, h⟩ := gs h
 obtain ⟨g15, h⟩ := gs h
 obtain ⟨g21, h⟩ := gs h
 refine cw_drawP 8 [fun vz wz => vz = (.int .i64 (IntKind.i64.wrap (8 * a0)) : Value), fun vz wz => ∃ v4 : Value, ∃ o6 : Own (kI .u64) 22 wz w.heap.size v4 (List.replicate (Int.toNat (IntKind.i64.wrap (8 * a0))) (0 : Int)), vz = (v4 : Value), fun vz wz => vz = (.int .i64 (IntKind.i64.wrap (8 * a0)) : Value), fun vz wz => ∃ v10 : Value, ∃ o12 : Own (kI .u64) 22 wz w.heap.size v10 (List.replicate (Int.toNat (IntKind.i64.wrap (8 * a0))) (0 : Int)), vz = (v10 : Value), fun vz wz => vz = (.int .i64 (IntKind.i64.wrap (8 * a0)) : Value), fun vz wz => ∃ v16 : Value, ∃ o18 : Own (kI .u64) 22 wz w.heap.size v16 (List.replicate (Int.toNat (IntKind.i64.wrap (8 * a0))) (0 : Int)), vz = (v16 : Value), fun vz wz => vz = (.int .i64 (IntKind.i64.wrap (8 * a0)) : Value), fun vz wz => ∃ v22 : Value, ∃ o24 : Own kB 4 wz w.heap.size v22 (List.replicate (Int.toNat (IntKind.i64.wrap (8 * a0))) false), vz = (v22 : Value)] [false, true, false, true, false, true, false, true] mo rfl rfl ⟨fun _ _ _ h _ => h, fun _ _ _ ⟨v4, o6, h⟩ q => ⟨v4, o6.gr q, h⟩, fun _ _ _ h _ => h, fun _ _ _ ⟨v10, o12, h⟩ q => ⟨v10, o12.gr q, h⟩, fun _ _ _ h _ => h, fun _ _ _ ⟨v16, o18, h⟩ q => ⟨v16, o18.gr q, h⟩, fun _ _ _ h _ => h, fun _ _ _ ⟨v22, o24, h⟩ q => ⟨v22, o24.gr q, h⟩, trivial⟩ ⟨(fun e => by cases e), (fun _ v w ⟨v4, o6, e⟩ k hk => Own.lt o6 (by rw [← e]; exact hk)), (fun e => by cases e), (fun _ v w ⟨v10, o12, e⟩ k hk => Own.lt o12 (by rw [← e]; exact hk)), (fun e => by cases e), (fun _ v w ⟨v16, o18, e⟩ k hk => Own.lt o18 (by rw [← e]; exact hk)), (fun e => by cases e), (fun _ v w ⟨v22, o24, e⟩ k hk => Own.lt o24 (by rw [← e]; exact hk)), trivial⟩ ?_ ?_
 ·refine ⟨?_, ?_, ?_, ?_, ?_, ?_, ?_, ?_, trivial⟩
  ·intro ρz wz hz hk hd
   refine sk_nal rfl ?_
   exact sk_val (v := .int .i64 (IntKind.i64.wrap (8 * a0))) (by exact xr_move rfl ((hk 3 rfl).trans rfl)) rfl rfl
  ·intro ρz wz hz hk hd
   have d6 := hd 0 rfl 6 rfl
   refine sk_alloc (by exact opv_make (K := (kI .u64)) (z := (0 : Int)) rfl Try.underlying46 el22 rfl d6 d6 g3.1 g3.2 rfl (Nat.le_trans fB.size hz.size)) rfl ?_
   rintro v4 wy ⟨o6, q5, z7⟩
   exact ⟨⟨⟨v4, o6, rfl⟩, q5⟩, z7⟩
  ·intro ρz wz hz hk hd
   refine sk_nal rfl ?_
   exact sk_val (v := .int .i64 (IntKind.i64.wrap (8 * a0))) (by exact xr_move rfl ((hk 3 rfl).trans rfl)) rfl rfl
  ·intro ρz wz hz hk hd
   have d8 := hd 2 rfl 8 rfl
   refine sk_alloc (by exact opv_make (K := (kI .u64)) (z := (0 : Int)) rfl Try.underlying46 el22 rfl d8 d8 g9.1 g9.2 rfl (Nat.le_trans fB.size hz.size)) rfl ?_
   rintro v10 wy ⟨o12, q11, z13⟩
   exact ⟨⟨⟨v10, o12, rfl⟩, q11⟩, z13⟩
  ·intro ρz wz hz hk hd
   refine sk_nal rfl ?_
   exact sk_val (v := .int .i64 (IntKind.i64.wrap (8 * a0))) (by exact xr_move rfl ((hk 3 rfl).trans rfl)) rfl rfl
  ·intro ρz wz hz hk hd
   have d10 := hd 4 rfl 10 rfl
   refine sk_alloc (by exact opv_make (K := (kI .u64)) (z := (0 : Int)) rfl Try.underlying46 el22 rfl d10 d10 g15.1 g15.2 rfl (Nat.le_trans fB.size hz.size)) rfl ?_
   rintro v16 wy ⟨o18, q17, z19⟩
   exact ⟨⟨⟨v16, o18, rfl⟩, q17⟩, z19⟩
  ·intro ρz wz hz hk hd
   refine sk_nal rfl ?_
   exact sk_val (v := .int .i64 (IntKind.i64.wrap (8 * a0))) (by exact xr_move rfl ((hk 3 rfl).trans rfl)) rfl rfl
  intro ρz wz hz hk hd
  have d12 := hd 6 rfl 12 rfl
  refine sk_alloc (by exact opv_make (K := kB) (z := false) rfl Try.underlying63 el4 rfl d12 d12 g21.1 g21.2 rfl (Nat.le_trans fB.size hz.size)) rfl ?_
  rintro v22 wy ⟨o24, q23, z25⟩
  exact ⟨⟨⟨v22, o24, rfl⟩, q23⟩, z25⟩
 intro ρ27 w28 q29 hk hd hp
 obtain ⟨v30, o31, e7⟩ := hd 1 rfl 7 rfl
 obtain ⟨v32, o33, e9⟩ := hd 3 rfl 9 rfl
 obtain ⟨v34, o35, e11⟩ := hd 5 rfl 11 rfl
 obtain ⟨v36, o37, e13⟩ := hd 7 rfl 13 rfl
 have fB := fB.gr q29
 have a42 : OffV v30 v32 := by have h9 := hp 1 3 rfl rfl rfl rfl rfl 7 9 rfl rfl; rwa [e7, e9] at h9
 have a43 : OffV v30 v34 := by have h9 := hp 1 5 rfl rfl rfl rfl rfl 7 11 rfl rfl; rwa [e7, e11] at h9
 have a44 : OffV v32 v34 := by have h9 := hp 3 5 rfl rfl rfl rfl rfl 9 11 rfl rfl; rwa [e9, e11] at h9
 refine ol_val (v := aggV [Seg.cell v30 o31.one, Seg.cell v32 o33.one, Seg.cell v34 o35.one, Seg.cell v36 o37.one, Seg.cell (.slice none 0 0) (by rfl), Seg.cell (.int .i64 (0 : Int)), Seg.cell (.int .i64 (-1)), Seg.cell (.int .i64 (0 : Int))]) (by exact xr_buildS (vals := [(0, v30), (1, v32), (2, v34), (3, v36), (6, .int .i64 (-1))]) (res := [Seg.cell v30 o31.one, Seg.cell v32 o33.one, Seg.cell v34 o35.one, Seg.cell v36 o37.one, Seg.cell (.slice none 0 0) (by rfl), Seg.cell (.int .i64 (0 : Int)), Seg.cell (.int .i64 (-1)), Seg.cell (.int .i64 (0 : Int))]) rfl ⟨rfl, e7, ⟨rfl, e9, ⟨rfl, e11, ⟨rfl, e13, ⟨rfl, rfl, trivial⟩⟩⟩⟩⟩ Try.underlying65 ze65 pl65 (fl_cons (xs := cellsOf [Seg.cell v30 o31.one]) (cs' := cellsOf [Seg.cell v30 o31.one, Seg.cell (.slice none 0 0) (by rfl), Seg.cell (.slice none 0 0) (by rfl), Seg.cell (.slice none 0 0) (by rfl), Seg.cell (.slice none 0 0) (by rfl), Seg.cell (.int .i64 (0 : Int)), Seg.cell (.int .i64 (0 : Int)), Seg.cell (.int .i64 (0 : Int))]) rfl (cells_one o31.one) (len_cellsOf _) (Spl.segs [Seg.cell (.slice none 0 0) (by rfl), Seg.cell (.slice none 0 0) (by rfl), Seg.cell (.slice none 0 0) (by rfl), Seg.cell (.slice none 0 0) (by rfl), Seg.cell (.slice none 0 0) (by rfl), Seg.cell (.int .i64 (0 : Int)), Seg.cell (.int .i64 (0 : Int)), Seg.cell (.int .i64 (0 : Int))] 0 1 [Seg.cell v30 o31.one] rfl rfl) (fl_cons (xs := cellsOf [Seg.cell v32 o33.one]) (cs' := cellsOf [Seg.cell v30 o31.one, Seg.cell v32 o33.one, Seg.cell (.slice none 0 0) (by rfl), Seg.cell (.slice none 0 0) (by rfl), Seg.cell (.slice none 0 0) (by rfl), Seg.cell (.int .i64 (0 : Int)), Seg.cell (.int .i64 (0 : Int)), Seg.cell (.int .i64 (0 : Int))]) rfl (cells_one o33.one) (len_cellsOf _) (Spl.segs [Seg.cell v30 o31.one, Seg.cell (.slice none 0 0) (by rfl), Seg.cell (.slice none 0 0) (by rfl), Seg.cell (.slice none 0 0) (by rfl), Seg.cell (.slice none 0 0) (by rfl), Seg.cell (.int .i64 (0 : Int)), Seg.cell (.int .i64 (0 : Int)), Seg.cell (.int .i64 (0 : Int))] 1 1 [Seg.cell v32 o33.one] rfl rfl) (fl_cons (xs := cellsOf [Seg.cell v34 o35.one]) (cs' := cellsOf [Seg.cell v30 o31.one, Seg.cell v32 o33.one, Seg.cell v34 o35.one, Seg.cell (.slice none 0 0) (by rfl), Seg.cell (.slice none 0 0) (by rfl), Seg.cell (.int .i64 (0 : Int)), Seg.cell (.int .i64 (0 : Int)), Seg.cell (.int .i64 (0 : Int))]) rfl (cells_one o35.one) (len_cellsOf _) (Spl.segs [Seg.cell v30 o31.one, Seg.cell v32 o33.one, Seg.cell (.slice none 0 0) (by rfl), Seg.cell (.slice none 0 0) (by rfl), Seg.cell (.slice none 0 0) (by rfl), Seg.cell (.int .i64 (0 : Int)), Seg.cell (.int .i64 (0 : Int)), Seg.cell (.int .i64 (0 : Int))] 2 1 [Seg.cell v34 o35.one] rfl rfl) (fl_cons (xs := cellsOf [Seg.cell v36 o37.one]) (cs' := cellsOf [Seg.cell v30 o31.one, Seg.cell v32 o33.one, Seg.cell v34 o35.one, Seg.cell v36 o37.one, Seg.cell (.slice none 0 0) (by rfl), Seg.cell (.int .i64 (0 : Int)), Seg.cell (.int .i64 (0 : Int)), Seg.cell (.int .i64 (0 : Int))]) rfl (cells_one o37.one) (len_cellsOf _) (Spl.segs [Seg.cell v30 o31.one, Seg.cell v32 o33.one, Seg.cell v34 o35.one, Seg.cell (.slice none 0 0) (by rfl), Seg.cell (.slice none 0 0) (by rfl), Seg.cell (.int .i64 (0 : Int)), Seg.cell (.int .i64 (0 : Int)), Seg.cell (.int .i64 (0 : Int))] 3 1 [Seg.cell v36 o37.one] rfl rfl) (fl_cons (xs := cellsOf [Seg.cell (.int .i64 (-1))]) (cs' := cellsOf [Seg.cell v30 o31.one, Seg.cell v32 o33.one, Seg.cell v34 o35.one, Seg.cell v36 o37.one, Seg.cell (.slice none 0 0) (by rfl), Seg.cell (.int .i64 (0 : Int)), Seg.cell (.int .i64 (-1)), Seg.cell (.int .i64 (0 : Int))]) rfl rfl (len_cellsOf _) (Spl.segs [Seg.cell v30 o31.one, Seg.cell v32 o33.one, Seg.cell v34 o35.one, Seg.cell v36 o37.one, Seg.cell (.slice none 0 0) (by rfl), Seg.cell (.int .i64 (0 : Int)), Seg.cell (.int .i64 (0 : Int)), Seg.cell (.int .i64 (0 : Int))] 6 1 [Seg.cell (.int .i64 (-1))] rfl rfl) fl_nil)))))) rfl rfl rfl ?_
 refine ol_op (by exact opv_box (ss := [Seg.cell v30 o31.one, Seg.cell v32 o33.one, Seg.cell v34 o35.one, Seg.cell v36 o37.one, Seg.cell (.slice none 0 0) (by rfl), Seg.cell (.int .i64 (0 : Int)), Seg.cell (.int .i64 (-1)), Seg.cell (.int .i64 (0 : Int))]) rfl rfl rfl) rfl rfl rfl ?_
 rintro _ w50 ⟨G45, rfl, b46, q47, z48⟩
 have z48 := Nat.le_trans fB.size z48
 have o31 := o31.gr q47
 have o33 := o33.gr q47
 have o35 := o35.gr q47
 have o37 := o37.gr q47
 have fB := fB.gr q47
 refine ol_val (v := .pointer (some ⟨G45, 0, none⟩)) (by exact xr_assign rfl rfl) rfl rfl rfl ?_
 refine ol_nil ?_
 refine cw_ret ?_
 repeat (first | with_reducible refine thn_r ?_ | with_reducible refine blk_r ?_)
 obtain rfl := Option.some.inj h
 refine fin_ret1 Try.results44 rfl ?_
 exact ⟨_, rfl, (.pointer (some ⟨G45, 0, none⟩)), ⟨G45, v30, v32, v34, v36, (.slice none 0 0), o31, o33, o35, o37, Own.nil _ _ _ _, a42, a43, a44, rfl, z48, b46⟩, rfl, fB⟩
def rickyardref05_Same.s0 (fu : Nat) (a0 : List S_api_Fate) (a1 : List S_api_Fate) : Int → Option (Sum (Sum Bool Unit) Int) := fun s2 => (if (decide (s2 < (List.length a0 : Int))) = true then (if 0 ≤ s2 ∧ s2 < (List.length a0 : Int) then (if 0 ≤ s2 ∧ s2 < (List.length a1 : Int) then (if (!decide ((ix a0 s2) = (ix a1 s2))) = true then some (Sum.inl (Sum.inl (false))) else some (Sum.inr ((IntKind.i64.wrap (s2 + 1))))) else none) else none) else some (Sum.inl (Sum.inr ())))
def rickyardref05_Same.f (fu : Nat) (a0 : List S_api_Fate) (a1 : List S_api_Fate) : Option Bool := (if (!decide ((List.length a0 : Int) = (List.length a1 : Int))) = true then some (false) else ((loopM (rickyardref05_Same.s0 fu a0 a1) fu (0)).bind fun e3 => match e3 with | Sum.inl p => some p | Sum.inr x6 => some (true)))
set_option maxRecDepth 100000 in
set_option maxHeartbeats 400000 in
theorem rickyardref05_Same.ok (fu : Nat) (w : World) (a0 : List S_api_Fate) (V0_0 : Value) (R0_0 : Rd k_api_Fate w V0_0 a0) (a1 : List S_api_Fate) (V1_0 : Value) (R1_0 : Rd k_api_Fate w V1_0 a1) (r : Bool) (h : rickyardref05_Same.f fu a0 a1 = some r) :
  Calls Try.prog 46 (([V0_0, V1_0] : List Value).toArray) w (fun e w' => ∃ v, e = .returned v ∧ v = .bool r ∧ Gr w w') := by
 unfold rickyardref05_Same.f at h
 have fB : Gr w w := Fr.refl _ _
 refine calls_cw Try.func46 rfl Try.ntmps46 rfl ?_
 refine cw_seq ?_
 refine cw_region ?_
 refine ol_val (v := .bool false) (by exact xr_assign rfl rfl) rfl rfl rfl ?_
 refine ol_nil ?_
 refine cw_seq ?_
 refine cw_seq ?_
 refine cw_region ?_
 refine ol_val (v := V0_0) (by exact xr_move rfl rfl) rfl rfl rfl ?_
 refine ol_val (v := .int .i64 (List.length a0 : Int)) (by exact xr_lenR rfl Try.underlying52 rfl (R0_0.gr fB)) rfl rfl rfl ?_
 refine ol_val (v := V1_0) (by exact xr_move rfl rfl) rfl rfl rfl ?_
 refine ol_val (v := .int .i64 (List.length a1 : Int)) (by exact xr_lenR rfl Try.underlying52 rfl (R1_0.gr fB)) rfl rfl rfl ?_
 refine ol_val (v := .bool (!decide ((List.length a0 : Int) = (List.length a1 : Int)))) (by exact xr_neI rfl Try.underlying3 rfl rfl rfl) rfl rfl rfl ?_
 refine ol_nil ?_
 rcases is h with ⟨c1, h⟩ | ⟨c1, h⟩
 ·refine cw_condT rfl c1 ?_
  refine cw_seq ?_
  refine cw_region ?_
  refine ol_val (v := .bool false) (by exact xr_assign rfl rfl) rfl rfl rfl ?_
  refine ol_nil ?_
  refine cw_ret ?_
  repeat (first | with_reducible refine thn_r ?_ | with_reducible refine blk_r ?_)
  obtain rfl := Option.some.inj h
  refine fin_ret1 Try.results46 rfl ?_
  exact ⟨_, rfl, rfl, fB⟩
 refine cw_condF rfl c1 ?_
 refine cw_skip ?_
 refine cw_seq ?_
 refine cw_seq ?_
 refine cw_region ?_
 refine ol_val (v := .int .i64 0) (by exact xr_assign rfl rfl) rfl rfl rfl ?_
 refine ol_nil ?_
 obtain ⟨e3, l4, h5⟩ := bs h
 refine cw_mid (fun ρ' w' => ∃ x6, e3 = Sum.inr x6 ∧ Gr w w') ?_ ?_
 ·refine cw_block ?_
  refine cw_round (fun (s2 : Int) ρ' w' => ρ' 0 = V0_0 ∧ ρ' 1 = V1_0 ∧ ρ' 5 = .int .i64 s2 ∧ Gr w w') l4 ?_ ?_
  ·skip
   exact ⟨rfl, rfl, rfl, fB⟩
  rintro s2 x9 ρ7 w8 ⟨e0, e1, e5, fB⟩ h
  unfold rickyardref05_Same.s0 at h
  refine cw_seq ?_
  refine cw_seq ?_
  refine cw_region ?_
  refine ol_val (v := .int .i64 s2) (by exact xr_move rfl e5) rfl rfl rfl ?_
  refine ol_val (v := V0_0) (by exact xr_move rfl e0) rfl rfl rfl ?_
  refine ol_val (v := .int .i64 (List.length a0 : Int)) (by exact xr_lenR rfl Try.underlying52 rfl (R0_0.gr fB)) rfl rfl rfl ?_
  refine ol_val (v := .bool (decide (s2 < (List.length a0 : Int)))) (by exact xr_lss rfl rfl rfl) rfl rfl rfl ?_
  refine ol_nil ?_
  rcases is h with ⟨c10, h⟩ | ⟨c10, h⟩
  ·refine cw_condT rfl c10 ?_
   refine cw_skip ?_
   refine cw_seq ?_
   refine cw_block ?_
   refine cw_seq ?_
   obtain ⟨g11, h⟩ := gs h
   obtain ⟨g12, h⟩ := gs h
   refine cw_drawL 8 [fun vz wz => vz = (V0_0 : Value), fun vz wz => vz = (.int .i64 s2 : Value), fun vz wz => vz = (.pointer (some ⟨(sb V0_0), so V0_0 + Int.toNat s2 * 5, none⟩) : Value), fun vz wz => vz = (aggV [Seg.cell (.int .i64 ((ix a0 s2).At)), Seg.cell (.int .u64 ((ix a0 s2).Lasts)), Seg.cell (.bool ((ix a0 s2).Flushed)), Seg.cell (.int .u64 ((ix a0 s2).Sent)), Seg.cell (.int .u64 ((ix a0 s2).Stored))] : Value), fun vz wz => vz = (V1_0 : Value), fun vz wz => vz = (.int .i64 s2 : Value), fun vz wz => vz = (.pointer (some ⟨(sb V1_0), so V1_0 + Int.toNat s2 * 5, none⟩) : Value), fun vz wz => vz = (aggV [Seg.cell (.int .i64 ((ix a1 s2).At)), Seg.cell (.int .u64 ((ix a1 s2).Lasts)), Seg.cell (.bool ((ix a1 s2).Flushed)), Seg.cell (.int .u64 ((ix a1 s2).Sent)), Seg.cell (.int .u64 ((ix a1 s2).Stored))] : Value)] mo rfl ⟨fun _ _ _ h _ => h, fun _ _ _ h _ => h, fun _ _ _ h _ => h, fun _ _ _ h _ => h, fun _ _ _ h _ => h, fun _ _ _ h _ => h, fun _ _ _ h _ => h, fun _ _ _ h _ => h, trivial⟩ ?_ ?_
   ·refine ⟨?_, ?_, ?_, ?_, ?_, ?_, ?_, ?_, trivial⟩
    ·intro ρz wz hz hk hd
     exact sk_val (v := V0_0) (by exact xr_move rfl ((hk 0 rfl).trans e0)) rfl rfl
    ·intro ρz wz hz hk hd
     exact sk_val (v := .int .i64 s2) (by exact xr_move rfl ((hk 5 rfl).trans e5)) rfl rfl
    ·intro ρz wz hz hk hd
     have d17 := hd 0 rfl 17 rfl
     have d18 := hd 1 rfl 18 rfl
     exact sk_val (by exact xr_indexR (K := k_api_Fate) (v := V0_0) rfl Try.underlying52 sz55 d17 (R0_0.gr (fB.gr hz)) d18 g11.1 g11.2) rfl rfl
    ·intro ρz wz hz hk hd
     have d19 := hd 2 rfl 19 rfl
     exact sk_val (by exact xr_loadS (ss := [Seg.cell (.int .i64 ((ix a0 s2).At)), Seg.cell (.int .u64 ((ix a0 s2).Lasts)), Seg.cell (.bool ((ix a0 s2).Flushed)), Seg.cell (.int .u64 ((ix a0 s2).Sent)), Seg.cell (.int .u64 ((ix a0 s2).Stored))]) rfl ag55 sz55 rfl d19 ((R0_0.gr (fB.gr hz)).elem g11.1 g11.2)) rfl rfl
    ·intro ρz wz hz hk hd
     exact sk_val (v := V1_0) (by exact xr_move rfl ((hk 1 rfl).trans e1)) rfl rfl
    ·intro ρz wz hz hk hd
     exact sk_val (v := .int .i64 s2) (by exact xr_move rfl ((hk 5 rfl).trans e5)) rfl rfl
    ·intro ρz wz hz hk hd
     have d21 := hd 4 rfl 21 rfl
     have d22 := hd 5 rfl 22 rfl
     exact sk_val (by exact xr_indexR (K := k_api_Fate) (v := V1_0) rfl Try.underlying52 sz55 d21 (R1_0.gr (fB.gr hz)) d22 g12.1 g12.2) rfl rfl
    intro ρz wz hz hk hd
    have d23 := hd 6 rfl 23 rfl
    exact sk_val (by exact xr_loadS (ss := [Seg.cell (.int .i64 ((ix a1 s2).At)), Seg.cell (.int .u64 ((ix a1 s2).Lasts)), Seg.cell (.bool ((ix a1 s2).Flushed)), Seg.cell (.int .u64 ((ix a1 s2).Sent)), Seg.cell (.int .u64 ((ix a1 s2).Stored))]) rfl ag55 sz55 rfl d23 ((R1_0.gr (fB.gr hz)).elem g12.1 g12.2)) rfl rfl
   intro ρ13 w14 q15 hk hd
   have e0 := (hk 0 rfl).trans e0
   have e1 := (hk 1 rfl).trans e1
   have e5 := (hk 5 rfl).trans e5
   have e20 := hd 3 rfl 20 rfl
   have e24 := hd 7 rfl 24 rfl
   have fB := fB.gr q15
   refine ol_val (v := .bool (!decide ((ix a0 s2) = (ix a1 s2)))) (by exact xr_neA (a := (ix a0 s2)) (b := (ix a1 s2)) rfl eqa55 rfl Try.eqGuardType54 e20 e24 rfl rfl) rfl rfl rfl ?_
   refine ol_nil ?_
   rcases is h with ⟨c16, h⟩ | ⟨c16, h⟩
   ·refine cw_condT rfl c16 ?_
    refine cw_seq ?_
    refine cw_region ?_
    refine ol_val (v := .bool false) (by exact xr_assign rfl rfl) rfl rfl rfl ?_
    refine ol_nil ?_
    refine cw_ret ?_
    repeat (first | with_reducible refine thn_r ?_ | with_reducible refine blk_r ?_)
    obtain rfl := Option.some.inj h
    refine lp_ret ?_
    rintro rfl
    repeat (first | with_reducible refine thn_r ?_ | with_reducible refine blk_r ?_)
    have h := h5
    obtain rfl := Option.some.inj h
    refine fin_ret1 Try.results46 rfl ?_
    exact ⟨_, rfl, rfl, fB⟩
   refine cw_condF rfl c16 ?_
   refine cw_skip ?_
   refine blk_i ?_
   refine cw_region ?_
   refine ol_val (v := .int .i64 s2) (by exact xr_move rfl e5) rfl rfl rfl ?_
   refine ol_val (v := .int .i64 (IntKind.i64.wrap (s2 + 1))) (by exact xr_add rfl rfl rfl) rfl rfl rfl ?_
   refine ol_val (v := .int .i64 (IntKind.i64.wrap (s2 + 1))) (by exact xr_assign rfl rfl) rfl rfl rfl ?_
   refine ol_nil ?_
   obtain rfl := Option.some.inj h
   refine lp_in ?_
   exact ⟨e0, e1, rfl, fB⟩
  refine cw_condF rfl c10 ?_
  refine cw_exit ?_
  repeat (first | with_reducible refine thn_e ?_ | with_reducible refine blk_e rfl ?_)
  obtain rfl := Option.some.inj h
  refine lp_exit ?_
  rintro rfl
  refine thn_x ?_
  exact ⟨_, rfl, fB⟩
 rintro ρ17 w18 ⟨x6, rfl, fB⟩
 have h := h5
 refine cw_seq ?_
 refine cw_region ?_
 refine ol_val (v := .bool true) (by exact xr_assign rfl rfl) rfl rfl rfl ?_
 refine ol_nil ?_
 refine cw_ret ?_
 repeat (first | with_reducible refine thn_r ?_ | with_reducible refine blk_r ?_)
 obtain rfl := Option.some.inj h
 refine fin_ret1 Try.results46 rfl ?_
 exact ⟨_, rfl, rfl, fB⟩
def rickyardref05_Device_Fates.s0 (fu : Nat) (a0 : S_rickyardref05_Device) : ((List S_api_Fate) × Int) → Option (Sum (List S_api_Fate) ((List S_api_Fate) × Int)) := fun s4 => (if (decide (s4.2 < (List.length a0.Lasts : Int))) = true then (((if 0 ≤ s4.2 ∧ s4.2 < (List.length a0.Flushed : Int) then (if (ix a0.Flushed s4.2) = true then some (true) else (if 0 ≤ s4.2 ∧ s4.2 < (List.length a0.Stored : Int) then (if 0 ≤ s4.2 ∧ s4.2 < (List.length a0.Lasts : Int) then some ((!decide ((ix a0.Stored s4.2) = (ix a0.Lasts s4.2)))) else none) else none)) else none) : Option Bool).bind fun x18 => (((if x18 = true then (if 0 ≤ s4.2 ∧ s4.2 < (List.length a0.Lasts : Int) then (if 0 ≤ s4.2 ∧ s4.2 < (List.length a0.Flushed : Int) then (if 0 ≤ s4.2 ∧ s4.2 < (List.length a0.Sent : Int) then (if 0 ≤ s4.2 ∧ s4.2 < (List.length a0.Stored : Int) then (if List.length s4.1 + List.length [(⟨s4.2, (ix a0.Lasts s4.2), (ix a0.Flushed s4.2), (ix a0.Sent s4.2), (ix a0.Stored s4.2)⟩ : S_api_Fate)] ≤ LIM then some ((s4.1 ++ [(⟨s4.2, (ix a0.Lasts s4.2), (ix a0.Flushed s4.2), (ix a0.Sent s4.2), (ix a0.Stored s4.2)⟩ : S_api_Fate)])) else none) else none) else none) else none) else none) else some (s4.1)) : Option (List S_api_Fate)).bind fun x33 => some (Sum.inr (x33, (IntKind.i64.wrap (s4.2 + 1)))))) else some (Sum.inl (s4.1)))
def rickyardref05_Device_Fates.f (fu : Nat) (a0 : S_rickyardref05_Device) : Option (List S_api_Fate) := ((loopM (rickyardref05_Device_Fates.s0 fu a0) fu ([], 0)).bind fun e5 => some (e5))
set_option maxRecDepth 100000 in
set_option maxHeartbeats 400000 in
theorem rickyardref05_Device_Fates.ok (fu : Nat) (w : World) (a0 : S_rickyardref05_Device) (G_0 : Nat) (V0_0 : Value) (R0_0 : Rd (kI .u64) w V0_0 a0.Lasts) (V0_1 : Value) (R0_1 : Rd (kI .u64) w V0_1 a0.Stored) (V0_2 : Value) (R0_2 : Rd (kI .u64) w V0_2 a0.Sent) (V0_3 : Value) (R0_3 : Rd kB w V0_3 a0.Flushed) (V0_4 : Value) (R0_4 : Rd (kI .i64) w V0_4 a0.Plan) (b_0 : Blk w G_0 65 [Seg.cell V0_0 R0_0.one, Seg.cell V0_1 R0_1.one, Seg.cell V0_2 R0_2.one, Seg.cell V0_3 R0_3.one, Seg.cell V0_4 R0_4.one, Seg.cell (.int .i64 a0.Since), Seg.cell (.int .i64 a0.Left), Seg.cell (.int .i64 a0.Steps)]) (r : (List S_api_Fate)) (h : rickyardref05_Device_Fates.f fu a0 = some r) :
  Calls Try.prog 47 (([.pointer (some ⟨G_0, 0, none⟩)] : List Value).toArray) w (fun e w' => ∃ v, e = .returned v ∧ ∃ u1 : Value, ∃ o2 : Own k_api_Fate 55 w' w.heap.size u1 r, v = u1 ∧ Gr w w') := by
 unfold rickyardref05_Device_Fates.f at h
 have fB : Gr w w := Fr.refl _ _
 refine calls_cw Try.func47 rfl Try.ntmps47 rfl ?_
 refine cw_seq ?_
 refine cw_region ?_
 refine ol_val (v := .slice none 0 0) (by exact xr_assign rfl rfl) rfl rfl rfl ?_
 refine ol_nil ?_
 refine cw_seq ?_
 refine cw_region ?_
 refine ol_val (v := .slice none 0 0) (by exact xr_assign rfl rfl) rfl rfl rfl ?_
 refine ol_nil ?_
 refine cw_seq ?_
 refine cw_seq ?_
 refine cw_region ?_
 refine ol_val (v := .int .i64 0) (by exact xr_assign rfl rfl) rfl rfl rfl ?_
 refine ol_nil ?_
 obtain ⟨e5, l6, h7⟩ := bs h
 refine cw_mid (fun ρ' w' => ∃ v8 : Value, ∃ o9 : Own k_api_Fate 55 w' w.heap.size v8 e5, ρ' 3 = v8 ∧ Blk w' G_0 65 [Seg.cell V0_0 R0_0.one, Seg.cell V0_1 R0_1.one, Seg.cell V0_2 R0_2.one, Seg.cell V0_3 R0_3.one, Seg.cell V0_4 R0_4.one, Seg.cell (.int .i64 a0.Since), Seg.cell (.int .i64 a0.Left), Seg.cell (.int .i64 a0.Steps)] ∧ Gr w w') ?_ ?_
 ·refine cw_block ?_
  refine cw_round (fun (s4 : (List S_api_Fate) × Int) ρ' w' => ∃ v11 : Value, ∃ o12 : Own k_api_Fate 55 w' w.heap.size v11 s4.1, ρ' 0 = .pointer (some ⟨G_0, 0, none⟩) ∧ ρ' 3 = v11 ∧ ρ' 4 = .int .i64 s4.2 ∧ Blk w' G_0 65 [Seg.cell V0_0 R0_0.one, Seg.cell V0_1 R0_1.one, Seg.cell V0_2 R0_2.one, Seg.cell V0_3 R0_3.one, Seg.cell V0_4 R0_4.one, Seg.cell (.int .i64 a0.Since), Seg.cell (.int .i64 a0.Left), Seg.cell (.int .i64 a0.Steps)] ∧ Gr w w') l6 ?_ ?_
  ·skip
   exact ⟨(.slice none 0 0), Own.nil _ _ _ _, rfl, rfl, rfl, b_0, fB⟩
  rintro s4 x16 ρ14 w15 ⟨v11, o12, e0, e3, e4, b_0, fB⟩ h
  unfold rickyardref05_Device_Fates.s0 at h
  refine cw_seq ?_
  refine cw_seq ?_
  refine cw_region ?_
  refine ol_val (v := .int .i64 s4.2) (by exact xr_move rfl e4) rfl rfl rfl ?_
  refine ol_val (v := .pointer (some ⟨G_0, 0, none⟩)) (by exact xr_move rfl e0) rfl rfl rfl ?_
  refine ol_val (v := .pointer (some ⟨G_0, 0, none⟩)) (by exact xr_nilCheck rfl rfl) rfl rfl rfl ?_
  refine ol_val (v := .pointer (some ⟨G_0, 0, none⟩)) (by exact xr_fieldAddr (p := 0) (q := 0) rfl fl65_0 rfl) rfl rfl rfl ?_
  refine ol_val (v := V0_0) (by exact xr_load1 (v := V0_0) rfl ag46 rfl (b_0.seg 0 rfl rfl)) rfl rfl rfl ?_
  refine ol_val (v := .int .i64 (List.length a0.Lasts : Int)) (by exact xr_lenR rfl Try.underlying46 rfl (R0_0.gr fB)) rfl rfl rfl ?_
  refine ol_val (v := .bool (decide (s4.2 < (List.length a0.Lasts : Int)))) (by exact xr_lss rfl rfl rfl) rfl rfl rfl ?_
  refine ol_nil ?_
  rcases is h with ⟨c17, h⟩ | ⟨c17, h⟩
  ·refine cw_condT rfl c17 ?_
   refine cw_skip ?_
   refine cw_seq ?_
   refine cw_block ?_
   refine cw_seq ?_
   obtain ⟨x18, j19, h⟩ := bs h
   refine cw_mid (fun ρ' w' => ρ' 0 = .pointer (some ⟨G_0, 0, none⟩) ∧ ρ' 3 = v11 ∧ ρ' 4 = .int .i64 s4.2 ∧ ρ' 37 = .bool x18 ∧ Gr w15 w') ?_ ?_
   ·skip
    obtain ⟨g20, j19⟩ := gs j19
    rcases is j19 with ⟨c21, j19⟩ | ⟨c21, j19⟩
    ·skip
     refine cw_drawL 23 [fun vz wz => vz = (.pointer (some ⟨G_0, 0, none⟩) : Value), fun vz wz => vz = (.pointer (some ⟨G_0, 0, none⟩) : Value), fun vz wz => vz = (.pointer (some ⟨G_0, 3, none⟩) : Value), fun vz wz => vz = (V0_3 : Value), fun vz wz => vz = (.int .i64 s4.2 : Value), fun vz wz => vz = (.pointer (some ⟨(sb V0_3), so V0_3 + Int.toNat s4.2 * 1, none⟩) : Value), fun vz wz => vz = (.bool (ix a0.Flushed s4.2) : Value), fun vz wz => vz = (.bool (ix a0.Flushed s4.2) : Value), fun vz _ => vz = undef, fun vz _ => vz = undef, fun vz _ => vz = undef, fun vz _ => vz = undef, fun vz _ => vz = undef, fun vz _ => vz = undef, fun vz _ => vz = undef, fun vz _ => vz = undef, fun vz _ => vz = undef, fun vz _ => vz = undef, fun vz _ => vz = undef, fun vz _ => vz = undef, fun vz _ => vz = undef, fun vz _ => vz = undef, fun vz _ => vz = undef] mo rfl ⟨fun _ _ _ h _ => h, fun _ _ _ h _ => h, fun _ _ _ h _ => h, fun _ _ _ h _ => h, fun _ _ _ h _ => h, fun _ _ _ h _ => h, fun _ _ _ h _ => h, fun _ _ _ h _ => h, fun _ _ _ h _ => h, fun _ _ _ h _ => h, fun _ _ _ h _ => h, fun _ _ _ h _ => h, fun _ _ _ h _ => h, fun _ _ _ h _ => h, fun _ _ _ h _ => h, fun _ _ _ h _ => h, fun _ _ _ h _ => h, fun _ _ _ h _ => h, fun _ _ _ h _ => h, fun _ _ _ h _ => h, fun _ _ _ h _ => h, fun _ _ _ h _ => h, fun _ _ _ h _ => h, trivial⟩ ?_ ?_
     ·refine ⟨?_, ?_, ?_, ?_, ?_, ?_, ?_, ?_, ?_, ?_, ?_, ?_, ?_, ?_, ?_, ?_, ?_, ?_, ?_, ?_, ?_, ?_, ?_, trivial⟩
      ·intro ρz wz hz hk hd
       exact sk_val (v := .pointer (some ⟨G_0, 0, none⟩)) (by exact xr_move rfl ((hk 0 rfl).trans e0)) rfl rfl
      ·intro ρz wz hz hk hd
       have d14 := hd 0 rfl 14 rfl
       exact sk_val (v := .pointer (some ⟨G_0, 0, none⟩)) (by exact xr_nilCheck rfl d14) rfl rfl
      ·intro ρz wz hz hk hd
       have d15 := hd 1 rfl 15 rfl
       exact sk_val (v := .pointer (some ⟨G_0, 3, none⟩)) (by exact xr_fieldAddr (p := 0) (q := 3) rfl fl65_3 d15) rfl rfl
      ·intro ρz wz hz hk hd
       have d16 := hd 2 rfl 16 rfl
       exact sk_val (v := V0_3) (by exact xr_load1 (v := V0_3) rfl ag63 d16 ((b_0.gr hz).seg 3 rfl rfl)) rfl rfl
      ·intro ρz wz hz hk hd
       exact sk_val (v := .int .i64 s4.2) (by exact xr_move rfl ((hk 4 rfl).trans e4)) rfl rfl
      ·intro ρz wz hz hk hd
       have d17 := hd 3 rfl 17 rfl
       have d18 := hd 4 rfl 18 rfl
       exact sk_val (by exact xr_indexR (K := kB) (v := V0_3) rfl Try.underlying63 sz4 d17 (R0_3.gr (fB.gr hz)) d18 g20.1 g20.2) rfl rfl
      ·intro ρz wz hz hk hd
       have d19 := hd 5 rfl 19 rfl
       exact sk_val (v := .bool (ix a0.Flushed s4.2)) (by exact xr_load1 (v := .bool (ix a0.Flushed s4.2)) rfl ag4 d19 ((R0_3.gr (fB.gr hz)).elem g20.1 g20.2)) rfl rfl
      ·intro ρz wz hz hk hd
       have d20 := hd 6 rfl 20 rfl
       exact sk_val (v := .bool (ix a0.Flushed s4.2)) (by exact xr_move rfl d20) rfl rfl
      ·intro ρz wz hz hk hd
       have d21 := hd 7 rfl 21 rfl
       exact sk_skip rfl rfl d21 c21 rfl
      ·intro ρz wz hz hk hd
       have d21 := hd 7 rfl 21 rfl
       exact sk_skip rfl rfl d21 c21 rfl
      ·intro ρz wz hz hk hd
       have d21 := hd 7 rfl 21 rfl
       exact sk_skip rfl rfl d21 c21 rfl
      ·intro ρz wz hz hk hd
       have d21 := hd 7 rfl 21 rfl
       exact sk_skip rfl rfl d21 c21 rfl
      ·intro ρz wz hz hk hd
       have d21 := hd 7 rfl 21 rfl
       exact sk_skip rfl rfl d21 c21 rfl
      ·intro ρz wz hz hk hd
       have d21 := hd 7 rfl 21 rfl
       exact sk_skip rfl rfl d21 c21 rfl
      ·intro ρz wz hz hk hd
       have d21 := hd 7 rfl 21 rfl
       exact sk_skip rfl rfl d21 c21 rfl
      ·intro ρz wz hz hk hd
       have d21 := hd 7 rfl 21 rfl
       exact sk_skip rfl rfl d21 c21 rfl
      ·intro ρz wz hz hk hd
       have d21 := hd 7 rfl 21 rfl
       exact sk_skip rfl rfl d21 c21 rfl
      ·intro ρz wz hz hk hd
       have d21 := hd 7 rfl 21 rfl
       exact sk_skip rfl rfl d21 c21 rfl
      ·intro ρz wz hz hk hd
       have d21 := hd 7 rfl 21 rfl
       exact sk_skip rfl rfl d21 c21 rfl
      ·intro ρz wz hz hk hd
       have d21 := hd 7 rfl 21 rfl
       exact sk_skip rfl rfl d21 c21 rfl
      ·intro ρz wz hz hk hd
       have d21 := hd 7 rfl 21 rfl
       exact sk_skip rfl rfl d21 c21 rfl
      ·intro ρz wz hz hk hd
       have d21 := hd 7 rfl 21 rfl
       exact sk_skip rfl rfl d21 c21 rfl
      intro ρz wz hz hk hd
      have d21 := hd 7 rfl 21 rfl
      exact sk_skip rfl rfl d21 c21 rfl
     intro ρ22 w23 q24 hk hd
     have e0 := (hk 0 rfl).trans e0
     have e3 := (hk 3 rfl).trans e3
     have e4 := (hk 4 rfl).trans e4
     have e21 := hd 7 rfl 21 rfl
     have b_0 := b_0.gr q24
     have o12 := o12.gr q24
     have fB := fB.gr q24
     refine ol_val (v := .bool true) (by exact xr_pickT rfl e21 c21 rfl) rfl rfl rfl ?_
     refine ol_nil ?_
     obtain rfl := Option.some.inj j19
     refine thn_i ?_
     exact ⟨e0, e3, e4, rfl, q24⟩
    obtain ⟨g25, j19⟩ := gs j19
    obtain ⟨g26, j19⟩ := gs j19
    refine cw_drawL 23 [fun vz wz => vz = (.pointer (some ⟨G_0, 0, none⟩) : Value), fun vz wz => vz = (.pointer (some ⟨G_0, 0, none⟩) : Value), fun vz wz => vz = (.pointer (some ⟨G_0, 3, none⟩) : Value), fun vz wz => vz = (V0_3 : Value), fun vz wz => vz = (.int .i64 s4.2 : Value), fun vz wz => vz = (.pointer (some ⟨(sb V0_3), so V0_3 + Int.toNat s4.2 * 1, none⟩) : Value), fun vz wz => vz = (.bool (ix a0.Flushed s4.2) : Value), fun vz wz => vz = (.bool (ix a0.Flushed s4.2) : Value), fun vz wz => vz = (.pointer (some ⟨G_0, 0, none⟩) : Value), fun vz wz => vz = (.pointer (some ⟨G_0, 0, none⟩) : Value), fun vz wz => vz = (.pointer (some ⟨G_0, 1, none⟩) : Value), fun vz wz => vz = (V0_1 : Value), fun vz wz => vz = (.int .i64 s4.2 : Value), fun vz wz => vz = (.pointer (some ⟨(sb V0_1), so V0_1 + Int.toNat s4.2 * 1, none⟩) : Value), fun vz wz => vz = (.int .u64 (ix a0.Stored s4.2) : Value), fun vz wz => vz = (.pointer (some ⟨G_0, 0, none⟩) : Value), fun vz wz => vz = (.pointer (some ⟨G_0, 0, none⟩) : Value), fun vz wz => vz = (.pointer (some ⟨G_0, 0, none⟩) : Value), fun vz wz => vz = (V0_0 : Value), fun vz wz => vz = (.int .i64 s4.2 : Value), fun vz wz => vz = (.pointer (some ⟨(sb V0_0), so V0_0 + Int.toNat s4.2 * 1, none⟩) : Value), fun vz wz => vz = (.int .u64 (ix a0.Lasts s4.2) : Value), fun vz wz => vz = (.bool (!decide ((ix a0.Stored s4.2) = (ix a0.Lasts s4.2))) : Value)] mo rfl ⟨fun _ _ _ h _ => h, fun _ _ _ h _ => h, fun _ _ _ h _ => h, fun _ _ _ h _ => h, fun _ _ _ h _ => h, fun _ _ _ h _ => h, fun _ _ _ h _ => h, fun _ _ _ h _ => h, fun _ _ _ h _ => h, fun _ _ _ h _ => h, fun _ _ _ h _ => h, fun _ _ _ h _ => h, fun _ _ _ h _ => h, fun _ _ _ h _ => h, fun _ _ _ h _ => h, fun _ _ _ h _ => h, fun _ _ _ h _ => h, fun _ _ _ h _ => h, fun _ _ _ h _ => h, fun _ _ _ h _ => h, fun _ _ _ h _ => h, fun _ _ _ h _ => h, fun _ _ _ h _ => h, trivial⟩ ?_ ?_
    ·refine ⟨?_, ?_, ?_, ?_, ?_, ?_, ?_, ?_, ?_, ?_, ?_, ?_, ?_, ?_, ?_, ?_, ?_, ?_, ?_, ?_, ?_, ?_, ?_, trivial⟩
     ·intro ρz wz hz hk hd
      exact sk_val (v := .pointer (some ⟨G_0, 0, none⟩)) (by exact xr_move rfl ((hk 0 rfl).trans e0)) rfl rfl
     ·intro ρz wz hz hk hd
      have d14 := hd 0 rfl 14 rfl
      exact sk_val (v := .pointer (some ⟨G_0, 0, none⟩)) (by exact xr_nilCheck rfl d14) rfl rfl
     ·intro ρz wz hz hk hd
      have d15 := hd 1 rfl 15 rfl
      exact sk_val (v := .pointer (some ⟨G_0, 3, none⟩)) (by exact xr_fieldAddr (p := 0) (q := 3) rfl fl65_3 d15) rfl rfl
     ·intro ρz wz hz hk hd
      have d16 := hd 2 rfl 16 rfl
      exact sk_val (v := V0_3) (by exact xr_load1 (v := V0_3) rfl ag63 d16 ((b_0.gr hz).seg 3 rfl rfl)) rfl rfl
     ·intro ρz wz hz hk hd
      exact sk_val (v := .int .i64 s4.2) (by exact xr_move rfl ((hk 4 rfl).trans e4)) rfl rfl
     ·intro ρz wz hz hk hd
      have d17 := hd 3 rfl 17 rfl
      have d18 := hd 4 rfl 18 rfl
      exact sk_val (by exact xr_indexR (K := kB) (v := V0_3) rfl Try.underlying63 sz4 d17 (R0_3.gr (fB.gr hz)) d18 g20.1 g20.2) rfl rfl
     ·intro ρz wz hz hk hd
      have d19 := hd 5 rfl 19 rfl
      exact sk_val (v := .bool (ix a0.Flushed s4.2)) (by exact xr_load1 (v := .bool (ix a0.Flushed s4.2)) rfl ag4 d19 ((R0_3.gr (fB.gr hz)).elem g20.1 g20.2)) rfl rfl
     ·intro ρz wz hz hk hd
      have d20 := hd 6 rfl 20 rfl
      exact sk_val (v := .bool (ix a0.Flushed s4.2)) (by exact xr_move rfl d20) rfl rfl
     ·intro ρz wz hz hk hd
      have d21 := hd 7 rfl 21 rfl
      exact sk_gval (v := .pointer (some ⟨G_0, 0, none⟩)) (by exact xr_move rfl ((hk 0 rfl).trans e0)) rfl rfl d21 c21 rfl
     ·intro ρz wz hz hk hd
      have d22 := hd 8 rfl 22 rfl
      have d21 := hd 7 rfl 21 rfl
      exact sk_gval (v := .pointer (some ⟨G_0, 0, none⟩)) (by exact xr_nilCheck rfl d22) rfl rfl d21 c21 rfl
     ·intro ρz wz hz hk hd
      have d23 := hd 9 rfl 23 rfl
      have d21 := hd 7 rfl 21 rfl
      exact sk_gval (v := .pointer (some ⟨G_0, 1, none⟩)) (by exact xr_fieldAddr (p := 0) (q := 1) rfl fl65_1 d23) rfl rfl d21 c21 rfl
     ·intro ρz wz hz hk hd
      have d24 := hd 10 rfl 24 rfl
      have d21 := hd 7 rfl 21 rfl
      exact sk_gval (v := V0_1) (by exact xr_load1 (v := V0_1) rfl ag46 d24 ((b_0.gr hz).seg 1 rfl rfl)) rfl rfl d21 c21 rfl
     ·intro ρz wz hz hk hd
      have d21 := hd 7 rfl 21 rfl
      exact sk_gval (v := .int .i64 s4.2) (by exact xr_move rfl ((hk 4 rfl).trans e4)) rfl rfl d21 c21 rfl
     ·intro ρz wz hz hk hd
      have d25 := hd 11 rfl 25 rfl
      have d26 := hd 12 rfl 26 rfl
      have d21 := hd 7 rfl 21 rfl
      exact sk_gval (by exact xr_indexR (K := (kI .u64)) (v := V0_1) rfl Try.underlying46 sz22 d25 (R0_1.gr (fB.gr hz)) d26 g25.1 g25.2) rfl rfl d21 c21 rfl
     ·intro ρz wz hz hk hd
      have d27 := hd 13 rfl 27 rfl
      have d21 := hd 7 rfl 21 rfl
      exact sk_gval (v := .int .u64 (ix a0.Stored s4.2)) (by exact xr_load1 (v := .int .u64 (ix a0.Stored s4.2)) rfl ag22 d27 ((R0_1.gr (fB.gr hz)).elem g25.1 g25.2)) rfl rfl d21 c21 rfl
     ·intro ρz wz hz hk hd
      have d21 := hd 7 rfl 21 rfl
      exact sk_gval (v := .pointer (some ⟨G_0, 0, none⟩)) (by exact xr_move rfl ((hk 0 rfl).trans e0)) rfl rfl d21 c21 rfl
     ·intro ρz wz hz hk hd
      have d29 := hd 15 rfl 29 rfl
      have d21 := hd 7 rfl 21 rfl
      exact sk_gval (v := .pointer (some ⟨G_0, 0, none⟩)) (by exact xr_nilCheck rfl d29) rfl rfl d21 c21 rfl
     ·intro ρz wz hz hk hd
      have d30 := hd 16 rfl 30 rfl
      have d21 := hd 7 rfl 21 rfl
      exact sk_gval (v := .pointer (some ⟨G_0, 0, none⟩)) (by exact xr_fieldAddr (p := 0) (q := 0) rfl fl65_0 d30) rfl rfl d21 c21 rfl
     ·intro ρz wz hz hk hd
      have d31 := hd 17 rfl 31 rfl
      have d21 := hd 7 rfl 21 rfl
      exact sk_gval (v := V0_0) (by exact xr_load1 (v := V0_0) rfl ag46 d31 ((b_0.gr hz).seg 0 rfl rfl)) rfl rfl d21 c21 rfl
     ·intro ρz wz hz hk hd
      have d21 := hd 7 rfl 21 rfl
      exact sk_gval (v := .int .i64 s4.2) (by exact xr_move rfl ((hk 4 rfl).trans e4)) rfl rfl d21 c21 rfl
     ·intro ρz wz hz hk hd
      have d32 := hd 18 rfl 32 rfl
      have d33 := hd 19 rfl 33 rfl
      have d21 := hd 7 rfl 21 rfl
      exact sk_gval (by exact xr_indexR (K := (kI .u64)) (v := V0_0) rfl Try.underlying46 sz22 d32 (R0_0.gr (fB.gr hz)) d33 g26.1 g26.2) rfl rfl d21 c21 rfl
     ·intro ρz wz hz hk hd
      have d34 := hd 20 rfl 34 rfl
      have d21 := hd 7 rfl 21 rfl
      exact sk_gval (v := .int .u64 (ix a0.Lasts s4.2)) (by exact xr_load1 (v := .int .u64 (ix a0.Lasts s4.2)) rfl ag22 d34 ((R0_0.gr (fB.gr hz)).elem g26.1 g26.2)) rfl rfl d21 c21 rfl
     intro ρz wz hz hk hd
     have d28 := hd 14 rfl 28 rfl
     have d35 := hd 21 rfl 35 rfl
     have d21 := hd 7 rfl 21 rfl
     exact sk_gval (v := .bool (!decide ((ix a0.Stored s4.2) = (ix a0.Lasts s4.2)))) (by exact xr_neI rfl Try.underlying22 rfl d28 d35) rfl rfl d21 c21 rfl
    intro ρ27 w28 q29 hk hd
    have e0 := (hk 0 rfl).trans e0
    have e3 := (hk 3 rfl).trans e3
    have e4 := (hk 4 rfl).trans e4
    have e21 := hd 7 rfl 21 rfl
    have e22 := hd 8 rfl 22 rfl
    have e23 := hd 9 rfl 23 rfl
    have e24 := hd 10 rfl 24 rfl
    have e25 := hd 11 rfl 25 rfl
    have e26 := hd 12 rfl 26 rfl
    have e27 := hd 13 rfl 27 rfl
    have e28 := hd 14 rfl 28 rfl
    have e29 := hd 15 rfl 29 rfl
    have e30 := hd 16 rfl 30 rfl
    have e31 := hd 17 rfl 31 rfl
    have e32 := hd 18 rfl 32 rfl
    have e33 := hd 19 rfl 33 rfl
    have e34 := hd 20 rfl 34 rfl
    have e35 := hd 21 rfl 35 rfl
    have e36 := hd 22 rfl 36 rfl
    have b_0 := b_0.gr q29
    have o12 := o12.gr q29
    have fB := fB.gr q29
    refine ol_val (v := .bool (!decide ((ix a0.Stored s4.2) = (ix a0.Lasts s4.2)))) (by exact xr_pickF rfl e21 c21 e36) rfl rfl rfl ?_
    refine ol_nil ?_
    obtain rfl := Option.some.inj j19
    refine thn_i ?_
    exact ⟨e0, e3, e4, rfl, q29⟩
   rintro ρ30 w31 ⟨e0, e3, e4, e37, q32⟩
   have b_0 := b_0.gr q32
   have o12 := o12.gr q32
   have fB := fB.gr q32
   obtain ⟨x33, j34, h35⟩ := bs h
   refine cw_mid (fun ρ' w' => ∃ v36 : Value, ∃ o37 : Own k_api_Fate 55 w' w.heap.size v36 x33, ρ' 0 = .pointer (some ⟨G_0, 0, none⟩) ∧ ρ' 3 = v36 ∧ ρ' 4 = .int .i64 s4.2 ∧ Blk w' G_0 65 [Seg.cell V0_0 R0_0.one, Seg.cell V0_1 R0_1.one, Seg.cell V0_2 R0_2.one, Seg.cell V0_3 R0_3.one, Seg.cell V0_4 R0_4.one, Seg.cell (.int .i64 a0.Since), Seg.cell (.int .i64 a0.Left), Seg.cell (.int .i64 a0.Steps)] ∧ Gr w w') ?_ ?_
   ·have h := j34
    rcases is h with ⟨c39, h⟩ | ⟨c39, h⟩
    ·refine cw_condT e37 c39 ?_
     obtain ⟨g40, h⟩ := gs h
     obtain ⟨g41, h⟩ := gs h
     obtain ⟨g42, h⟩ := gs h
     obtain ⟨g43, h⟩ := gs h
     refine cw_drawL 32 [fun vz wz => vz = (v11 : Value), fun vz wz => vz = (.int .i64 s4.2 : Value), fun vz wz => vz = (.pointer (some ⟨G_0, 0, none⟩) : Value), fun vz wz => vz = (.pointer (some ⟨G_0, 0, none⟩) : Value), fun vz wz => vz = (.pointer (some ⟨G_0, 0, none⟩) : Value), fun vz wz => vz = (V0_0 : Value), fun vz wz => vz = (.int .i64 s4.2 : Value), fun vz wz => vz = (.pointer (some ⟨(sb V0_0), so V0_0 + Int.toNat s4.2 * 1, none⟩) : Value), fun vz wz => vz = (.int .u64 (ix a0.Lasts s4.2) : Value), fun vz wz => vz = (.pointer (some ⟨G_0, 0, none⟩) : Value), fun vz wz => vz = (.pointer (some ⟨G_0, 0, none⟩) : Value), fun vz wz => vz = (.pointer (some ⟨G_0, 3, none⟩) : Value), fun vz wz => vz = (V0_3 : Value), fun vz wz => vz = (.int .i64 s4.2 : Value), fun vz wz => vz = (.pointer (some ⟨(sb V0_3), so V0_3 + Int.toNat s4.2 * 1, none⟩) : Value), fun vz wz => vz = (.bool (ix a0.Flushed s4.2) : Value), fun vz wz => vz = (.pointer (some ⟨G_0, 0, none⟩) : Value), fun vz wz => vz = (.pointer (some ⟨G_0, 0, none⟩) : Value), fun vz wz => vz = (.pointer (some ⟨G_0, 2, none⟩) : Value), fun vz wz => vz = (V0_2 : Value), fun vz wz => vz = (.int .i64 s4.2 : Value), fun vz wz => vz = (.pointer (some ⟨(sb V0_2), so V0_2 + Int.toNat s4.2 * 1, none⟩) : Value), fun vz wz => vz = (.int .u64 (ix a0.Sent s4.2) : Value), fun vz wz => vz = (.pointer (some ⟨G_0, 0, none⟩) : Value), fun vz wz => vz = (.pointer (some ⟨G_0, 0, none⟩) : Value), fun vz wz => vz = (.pointer (some ⟨G_0, 1, none⟩) : Value), fun vz wz => vz = (V0_1 : Value), fun vz wz => vz = (.int .i64 s4.2 : Value), fun vz wz => vz = (.pointer (some ⟨(sb V0_1), so V0_1 + Int.toNat s4.2 * 1, none⟩) : Value), fun vz wz => vz = (.int .u64 (ix a0.Stored s4.2) : Value), fun vz wz => vz = (aggV [Seg.cell (.int .i64 s4.2), Seg.cell (.int .u64 (ix a0.Lasts s4.2)), Seg.cell (.bool (ix a0.Flushed s4.2)), Seg.cell (.int .u64 (ix a0.Sent s4.2)), Seg.cell (.int .u64 (ix a0.Stored s4.2))] : Value), fun vz wz => ∃ v44 : Value, ∃ o46 : Own k_api_Fate 55 wz w.heap.size v44 [(⟨s4.2, (ix a0.Lasts s4.2), (ix a0.Flushed s4.2), (ix a0.Sent s4.2), (ix a0.Stored s4.2)⟩ : S_api_Fate)], vz = (v44 : Value)] mo rfl ⟨fun _ _ _ h _ => h, fun _ _ _ h _ => h, fun _ _ _ h _ => h, fun _ _ _ h _ => h, fun _ _ _ h _ => h, fun _ _ _ h _ => h, fun _ _ _ h _ => h, fun _ _ _ h _ => h, fun _ _ _ h _ => h, fun _ _ _ h _ => h, fun _ _ _ h _ => h, fun _ _ _ h _ => h, fun _ _ _ h _ => h, fun _ _ _ h _ => h, fun _ _ _ h _ => h, fun _ _ _ h _ => h, fun _ _ _ h _ => h, fun _ _ _ h _ => h, fun _ _ _ h _ => h, fun _ _ _ h _ => h, fun _ _ _ h _ => h, fun _ _ _ h _ => h, fun _ _ _ h _ => h, fun _ _ _ h _ => h, fun _ _ _ h _ => h, fun _ _ _ h _ => h, fun _ _ _ h _ => h, fun _ _ _ h _ => h, fun _ _ _ h _ => h, fun _ _ _ h _ => h, fun _ _ _ h _ => h, fun _ _ _ ⟨v44, o46, h⟩ q => ⟨v44, o46.gr q, h⟩, trivial⟩ ?_ ?_
     ·refine ⟨?_, ?_, ?_, ?_, ?_, ?_, ?_, ?_, ?_, ?_, ?_, ?_, ?_, ?_, ?_, ?_, ?_, ?_, ?_, ?_, ?_, ?_, ?_, ?_, ?_, ?_, ?_, ?_, ?_, ?_, ?_, ?_, trivial⟩
      ·intro ρz wz hz hk hd
       exact sk_val (v := v11) (by exact xr_move rfl ((hk 3 rfl).trans e3)) rfl rfl
      ·intro ρz wz hz hk hd
       exact sk_val (v := .int .i64 s4.2) (by exact xr_move rfl ((hk 4 rfl).trans e4)) rfl rfl
      ·intro ρz wz hz hk hd
       exact sk_val (v := .pointer (some ⟨G_0, 0, none⟩)) (by exact xr_move rfl ((hk 0 rfl).trans e0)) rfl rfl
      ·intro ρz wz hz hk hd
       have d40 := hd 2 rfl 40 rfl
       exact sk_val (v := .pointer (some ⟨G_0, 0, none⟩)) (by exact xr_nilCheck rfl d40) rfl rfl
      ·intro ρz wz hz hk hd
       have d41 := hd 3 rfl 41 rfl
       exact sk_val (v := .pointer (some ⟨G_0, 0, none⟩)) (by exact xr_fieldAddr (p := 0) (q := 0) rfl fl65_0 d41) rfl rfl
      ·intro ρz wz hz hk hd
       have d42 := hd 4 rfl 42 rfl
       exact sk_val (v := V0_0) (by exact xr_load1 (v := V0_0) rfl ag46 d42 ((b_0.gr hz).seg 0 rfl rfl)) rfl rfl
      ·intro ρz wz hz hk hd
       exact sk_val (v := .int .i64 s4.2) (by exact xr_move rfl ((hk 4 rfl).trans e4)) rfl rfl
      ·intro ρz wz hz hk hd
       have d43 := hd 5 rfl 43 rfl
       have d44 := hd 6 rfl 44 rfl
       exact sk_val (by exact xr_indexR (K := (kI .u64)) (v := V0_0) rfl Try.underlying46 sz22 d43 (R0_0.gr (fB.gr hz)) d44 g40.1 g40.2) rfl rfl
      ·intro ρz wz hz hk hd
       have d45 := hd 7 rfl 45 rfl
       exact sk_val (v := .int .u64 (ix a0.Lasts s4.2)) (by exact xr_load1 (v := .int .u64 (ix a0.Lasts s4.2)) rfl ag22 d45 ((R0_0.gr (fB.gr hz)).elem g40.1 g40.2)) rfl rfl
      ·intro ρz wz hz hk hd
       exact sk_val (v := .pointer (some ⟨G_0, 0, none⟩)) (by exact xr_move rfl ((hk 0 rfl).trans e0)) rfl rfl
      ·intro ρz wz hz hk hd
       have d47 := hd 9 rfl 47 rfl
       exact sk_val (v := .pointer (some ⟨G_0, 0, none⟩)) (by exact xr_nilCheck rfl d47) rfl rfl
      ·intro ρz wz hz hk hd
       have d48 := hd 10 rfl 48 rfl
       exact sk_val (v := .pointer (some ⟨G_0, 3, none⟩)) (by exact xr_fieldAddr (p := 0) (q := 3) rfl fl65_3 d48) rfl rfl
      ·intro ρz wz hz hk hd
       have d49 := hd 11 rfl 49 rfl
       exact sk_val (v := V0_3) (by exact xr_load1 (v := V0_3) rfl ag63 d49 ((b_0.gr hz).seg 3 rfl rfl)) rfl rfl
      ·intro ρz wz hz hk hd
       exact sk_val (v := .int .i64 s4.2) (by exact xr_move rfl ((hk 4 rfl).trans e4)) rfl rfl
      ·intro ρz wz hz hk hd
       have d50 := hd 12 rfl 50 rfl
       have d51 := hd 13 rfl 51 rfl
       exact sk_val (by exact xr_indexR (K := kB) (v := V0_3) rfl Try.underlying63 sz4 d50 (R0_3.gr (fB.gr hz)) d51 g41.1 g41.2) rfl rfl
      ·intro ρz wz hz hk hd
       have d52 := hd 14 rfl 52 rfl
       exact sk_val (v := .bool (ix a0.Flushed s4.2)) (by exact xr_load1 (v := .bool (ix a0.Flushed s4.2)) rfl ag4 d52 ((R0_3.gr (fB.gr hz)).elem g41.1 g41.2)) rfl rfl
      ·intro ρz wz hz hk hd
       exact sk_val (v := .pointer (some ⟨G_0, 0, none⟩)) (by exact xr_move rfl ((hk 0 rfl).trans e0)) rfl rfl
      ·intro ρz wz hz hk hd
       have d54 := hd 16 rfl 54 rfl
       exact sk_val (v := .pointer (some ⟨G_0, 0, none⟩)) (by exact xr_nilCheck rfl d54) rfl rfl
      ·intro ρz wz hz hk hd
       have d55 := hd 17 rfl 55 rfl
       exact sk_val (v := .pointer (some ⟨G_0, 2, none⟩)) (by exact xr_fieldAddr (p := 0) (q := 2) rfl fl65_2 d55) rfl rfl
      ·intro ρz wz hz hk hd
       have d56 := hd 18 rfl 56 rfl
       exact sk_val (v := V0_2) (by exact xr_load1 (v := V0_2) rfl ag46 d56 ((b_0.gr hz).seg 2 rfl rfl)) rfl rfl
      ·intro ρz wz hz hk hd
       exact sk_val (v := .int .i64 s4.2) (by exact xr_move rfl ((hk 4 rfl).trans e4)) rfl rfl
      ·intro ρz wz hz hk hd
       have d57 := hd 19 rfl 57 rfl
       have d58 := hd 20 rfl 58 rfl
       exact sk_val (by exact xr_indexR (K := (kI .u64)) (v := V0_2) rfl Try.underlying46 sz22 d57 (R0_2.gr (fB.gr hz)) d58 g42.1 g42.2) rfl rfl
      ·intro ρz wz hz hk hd
       have d59 := hd 21 rfl 59 rfl
       exact sk_val (v := .int .u64 (ix a0.Sent s4.2)) (by exact xr_load1 (v := .int .u64 (ix a0.Sent s4.2)) rfl ag22 d59 ((R0_2.gr (fB.gr hz)).elem g42.1 g42.2)) rfl rfl
      ·intro ρz wz hz hk hd
       exact sk_val (v := .pointer (some ⟨G_0, 0, none⟩)) (by exact xr_move rfl ((hk 0 rfl).trans e0)) rfl rfl
      ·intro ρz wz hz hk hd
       have d61 := hd 23 rfl 61 rfl
       exact sk_val (v := .pointer (some ⟨G_0, 0, none⟩)) (by exact xr_nilCheck rfl d61) rfl rfl
      ·intro ρz wz hz hk hd
       have d62 := hd 24 rfl 62 rfl
       exact sk_val (v := .pointer (some ⟨G_0, 1, none⟩)) (by exact xr_fieldAddr (p := 0) (q := 1) rfl fl65_1 d62) rfl rfl
      ·intro ρz wz hz hk hd
       have d63 := hd 25 rfl 63 rfl
       exact sk_val (v := V0_1) (by exact xr_load1 (v := V0_1) rfl ag46 d63 ((b_0.gr hz).seg 1 rfl rfl)) rfl rfl
      ·intro ρz wz hz hk hd
       exact sk_val (v := .int .i64 s4.2) (by exact xr_move rfl ((hk 4 rfl).trans e4)) rfl rfl
      ·intro ρz wz hz hk hd
       have d64 := hd 26 rfl 64 rfl
       have d65 := hd 27 rfl 65 rfl
       exact sk_val (by exact xr_indexR (K := (kI .u64)) (v := V0_1) rfl Try.underlying46 sz22 d64 (R0_1.gr (fB.gr hz)) d65 g43.1 g43.2) rfl rfl
      ·intro ρz wz hz hk hd
       have d66 := hd 28 rfl 66 rfl
       exact sk_val (v := .int .u64 (ix a0.Stored s4.2)) (by exact xr_load1 (v := .int .u64 (ix a0.Stored s4.2)) rfl ag22 d66 ((R0_1.gr (fB.gr hz)).elem g43.1 g43.2)) rfl rfl
      ·intro ρz wz hz hk hd
       have d39 := hd 1 rfl 39 rfl
       have d46 := hd 8 rfl 46 rfl
       have d53 := hd 15 rfl 53 rfl
       have d60 := hd 22 rfl 60 rfl
       have d67 := hd 29 rfl 67 rfl
       exact sk_val (by exact xr_build (vals := [(0, .int .i64 s4.2), (1, .int .u64 (ix a0.Lasts s4.2)), (2, .bool (ix a0.Flushed s4.2)), (3, .int .u64 (ix a0.Sent s4.2)), (4, .int .u64 (ix a0.Stored s4.2))]) rfl ⟨rfl, d39, ⟨rfl, d46, ⟨rfl, d53, ⟨rfl, d60, ⟨rfl, d67, trivial⟩⟩⟩⟩⟩ (bl55_0_1_2_3_4 s4.2 (ix a0.Lasts s4.2) (ix a0.Flushed s4.2) (ix a0.Sent s4.2) (ix a0.Stored s4.2) _)) rfl rfl
      intro ρz wz hz hk hd
      have d68 := hd 30 rfl 68 rfl
      refine sk_op (by exact opv_buildRec (K := k_api_Fate) (z := (⟨s4.2, (ix a0.Lasts s4.2), (ix a0.Flushed s4.2), (ix a0.Sent s4.2), (ix a0.Stored s4.2)⟩ : S_api_Fate)) rfl Try.underlying52 el55 rfl rfl d68 rfl (Nat.le_trans fB.size hz.size)) rfl ?_
      rintro v44 wy ⟨o46, q45, z47⟩
      exact ⟨⟨v44, o46, rfl⟩, q45⟩
     intro ρ49 w50 q51 hk hd
     have e0 := (hk 0 rfl).trans e0
     have e4 := (hk 4 rfl).trans e4
     have e38 := hd 0 rfl 38 rfl
     obtain ⟨v52, o53, e69⟩ := hd 31 rfl 69 rfl
     have b_0 := b_0.gr q51
     have o12 := o12.gr q51
     have fB := fB.gr q51
     obtain ⟨g59, h⟩ := gs h
     have f61 := off_ty b_0 o12 (by decide)
     have f62 := o12.geO
     refine ol_op (by exact opv_append (K := k_api_Fate) rfl Try.underlying52 el55 rfl rfl rfl e38 e69 o12 o53.rd g59 fB.size) rfl rfl rfl ?_
     rintro v55 w63 ⟨o56, q57, n58⟩
     have b_0 := b_0.wrO q57 f61
     have fB := fB.wrO q57 f62
     refine ol_val (v := v55) (by exact xr_assign rfl rfl) rfl rfl rfl ?_
     refine ol_nil ?_
     obtain rfl := Option.some.inj h
     refine thn_i ?_
     exact ⟨v55, o56, e0, rfl, e4, b_0, fB⟩
    refine cw_condF e37 c39 ?_
    refine cw_skip ?_
    obtain rfl := Option.some.inj h
    refine thn_i ?_
    exact ⟨v11, o12, e0, e3, e4, b_0, fB⟩
   rintro ρ64 w65 ⟨v36, o37, e0, e3, e4, b_0, fB⟩
   have h := h35
   refine blk_i ?_
   refine cw_region ?_
   refine ol_val (v := .int .i64 s4.2) (by exact xr_move rfl e4) rfl rfl rfl ?_
   refine ol_val (v := .int .i64 (IntKind.i64.wrap (s4.2 + 1))) (by exact xr_add rfl rfl rfl) rfl rfl rfl ?_
   refine ol_val (v := .int .i64 (IntKind.i64.wrap (s4.2 + 1))) (by exact xr_assign rfl rfl) rfl rfl rfl ?_
   refine ol_nil ?_
   obtain rfl := Option.some.inj h
   refine lp_in ?_
   exact ⟨v36, o37, e0, e3, rfl, b_0, fB⟩
  refine cw_condF rfl c17 ?_
  refine cw_exit ?_
  repeat (first | with_reducible refine thn_e ?_ | with_reducible refine blk_e rfl ?_)
  obtain rfl := Option.some.inj h
  refine lp_exit ?_
  rintro rfl
  refine thn_x ?_
  exact ⟨v11, o12, e3, b_0, fB⟩
 rintro ρ66 w67 ⟨v8, o9, e3, b_0, fB⟩
 have h := h7
 refine cw_seq ?_
 refine cw_region ?_
 refine ol_val (v := v8) (by exact xr_move rfl e3) rfl rfl rfl ?_
 refine ol_val (v := v8) (by exact xr_assign rfl rfl) rfl rfl rfl ?_
 refine ol_nil ?_
 refine cw_ret ?_
 repeat (first | with_reducible refine thn_r ?_ | with_reducible refine blk_r ?_)
 obtain rfl := Option.some.inj h
 refine fin_ret1 Try.results47 rfl ?_
 exact ⟨_, rfl, v8, o9, rfl, fB⟩
def pmem_cell_keep__i0.f (fu : Nat) (a0 : S_pmem_cell) (a1 : Int) : Option S_pmem_cell := some ((⟨a1, a0.stored, 0, false⟩ : S_pmem_cell))
set_option maxRecDepth 100000 in
set_option maxHeartbeats 400000 in
theorem pmem_cell_keep__i0.ok (fu : Nat) (w : World) (a0 : S_pmem_cell) (G_0 : Nat) (T_0 : TypeId) (X_0 Y_0 : List Value) (b_0 : SubB w G_0 T_0 X_0 [Seg.cell (.int .u64 a0.lasts), Seg.cell (.int .u64 a0.stored), Seg.cell (.int .u64 a0.sent), Seg.cell (.bool a0.flushed)] Y_0) (a1 : Int) (r : S_pmem_cell) (h : pmem_cell_keep__i0.f fu a0 a1 = some r) :
  Calls Try.prog 85 (([.pointer (some ⟨G_0, List.length X_0, none⟩), .int .u64 a1] : List Value).toArray) w (fun e w' => ∃ v, e = .returned v ∧ v = .tuple #[] ∧ SubB w' G_0 T_0 X_0 [Seg.cell (.int .u64 r.lasts), Seg.cell (.int .u64 r.stored), Seg.cell (.int .u64 r.sent), Seg.cell (.bool r.flushed)] Y_0 ∧ Fr (fun j => j = G_0) w w') := by
 unfold pmem_cell_keep__i0.f at h
 have fB : Fr (fun j => j = G_0) w w := Fr.refl _ _
 refine calls_cw Try.func85 rfl Try.ntmps85 rfl ?_
 refine cw_seq ?_
 refine cw_region ?_
 refine ol_val (v := .pointer (some ⟨G_0, List.length X_0, none⟩)) (by exact xr_move rfl rfl) rfl rfl rfl ?_
 refine ol_val (v := .int .u64 a1) (by exact xr_move rfl rfl) rfl rfl rfl ?_
 refine ol_val (v := .pointer (some ⟨G_0, List.length X_0, none⟩)) (by exact xr_nilCheck rfl rfl) rfl rfl rfl ?_
 refine ol_val (v := .pointer (some ⟨G_0, List.length X_0 + 0, none⟩)) (by exact xr_fieldAddr (p := List.length X_0) (q := 0) rfl fl142_0 rfl) rfl rfl rfl ?_
 refine ol_op0 (by exact opv_storeSub (ss' := [Seg.cell (.int .u64 a1), Seg.cell (.int .u64 a0.stored), Seg.cell (.int .u64 a0.sent), Seg.cell (.bool a0.flushed)]) (xs := cellsOf [Seg.cell (.int .u64 a1)]) rfl sz22 rfl rfl rfl (len_cellsOf _) (one_cellsOf _) b_0 (Spl.segs _ 0 1 [Seg.cell (.int .u64 a1)] rfl rfl)) rfl rfl ?_
 rintro _ w2 ⟨b_0, q1⟩
 have fB := fB.wrS q1 rfl
 refine ol_nil ?_
 refine cw_region ?_
 refine ol_val (v := .pointer (some ⟨G_0, List.length X_0, none⟩)) (by exact xr_move rfl rfl) rfl rfl rfl ?_
 refine ol_val (v := .pointer (some ⟨G_0, List.length X_0, none⟩)) (by exact xr_move rfl rfl) rfl rfl rfl ?_
 refine ol_val (v := .pointer (some ⟨G_0, List.length X_0, none⟩)) (by exact xr_nilCheck rfl rfl) rfl rfl rfl ?_
 refine ol_val (v := .pointer (some ⟨G_0, List.length X_0 + 2, none⟩)) (by exact xr_fieldAddr (p := List.length X_0) (q := 2) rfl fl142_2 rfl) rfl rfl rfl ?_
 refine ol_op0 (by exact opv_storeSub (ss' := [Seg.cell (.int .u64 a1), Seg.cell (.int .u64 a0.stored), Seg.cell (.int .u64 0), Seg.cell (.bool a0.flushed)]) (xs := cellsOf [Seg.cell (.int .u64 0)]) rfl sz22 rfl rfl rfl (len_cellsOf _) (one_cellsOf _) b_0 (Spl.segs _ 2 1 [Seg.cell (.int .u64 0)] rfl rfl)) rfl rfl ?_
 rintro _ w4 ⟨b_0, q3⟩
 have fB := fB.wrS q3 rfl
 refine ol_val (v := .pointer (some ⟨G_0, List.length X_0, none⟩)) (by exact xr_nilCheck rfl rfl) rfl rfl rfl ?_
 refine ol_val (v := .pointer (some ⟨G_0, List.length X_0 + 3, none⟩)) (by exact xr_fieldAddr (p := List.length X_0) (q := 3) rfl fl142_3 rfl) rfl rfl rfl ?_
 refine ol_op0 (by exact opv_storeSub (ss' := [Seg.cell (.int .u64 a1), Seg.cell (.int .u64 a0.stored), Seg.cell (.int .u64 0), Seg.cell (.bool false)]) (xs := cellsOf [Seg.cell (.bool false)]) rfl sz4 rfl rfl rfl (len_cellsOf _) (one_cellsOf _) b_0 (Spl.segs _ 3 1 [Seg.cell (.bool false)] rfl rfl)) rfl rfl ?_
 rintro _ w6 ⟨b_0, q5⟩
 have fB := fB.wrS q5 rfl
 refine ol_nil ?_
 obtain rfl := Option.some.inj h
 refine fin_end0 Try.results85 ?_
 exact ⟨_, rfl, rfl, b_0, fB⟩
def pmem_cell_fate__r0.f (fu : Nat) (a0 : S_pmem_cell) (a1 : Int) : Option Int := (((if (decide ((Int.tmod a1 3) = 1)) = true then some ((decide ((Int.tmod a1 3) = 1))) else some ((decide ((Int.tmod a1 3) = (-2))))) : Option Bool).bind fun x1 => (((if x1 = true then (if a0.flushed = true then some (Sum.inl (a0.sent)) else some (Sum.inr ())) else (((if (decide ((Int.tmod a1 3) = 2)) = true then some ((decide ((Int.tmod a1 3) = 2))) else some ((decide ((Int.tmod a1 3) = (-1))))) : Option Bool).bind fun x13 => (if x13 = true then some (Sum.inl (a0.stored)) else some (Sum.inr ())))) : Option (Sum Int Unit)).bind fun x7 => match x7 with | Sum.inl p => some p | Sum.inr x10 => some (a0.lasts)))
set_option maxRecDepth 100000 in
set_option maxHeartbeats 400000 in
theorem pmem_cell_fate__r0.ok (fu : Nat) (w : World) (a0 : S_pmem_cell) (G_0 p_0 : Nat) (A_0 : At w G_0 p_0 (cellsOf [Seg.cell (.int .u64 a0.lasts), Seg.cell (.int .u64 a0.stored), Seg.cell (.int .u64 a0.sent), Seg.cell (.bool a0.flushed)])) (a1 : Int) (r : Int) (h : pmem_cell_fate__r0.f fu a0 a1 = some r) :
  Calls Try.prog 87 (([.pointer (some ⟨G_0, p_0, none⟩), .int .i64 a1] : List Value).toArray) w (fun e w' => ∃ v, e = .returned v ∧ v = .int .u64 r ∧ Gr w w') := by
 unfold pmem_cell_fate__r0.f at h
 have fB : Gr w w := Fr.refl _ _
 refine calls_cw Try.func87 rfl Try.ntmps87 rfl ?_
 refine cw_seq ?_
 refine cw_region ?_
 refine ol_val (v := .int .u64 0) (by exact xr_assign rfl rfl) rfl rfl rfl ?_
 refine ol_nil ?_
 refine cw_seq ?_
 refine cw_seq ?_
 refine cw_region ?_
 refine ol_val (v := .int .i64 a1) (by exact xr_move rfl rfl) rfl rfl rfl ?_
 refine ol_val (v := .int .i64 (Int.tmod a1 3)) (by exact xr_rem rfl rfl rfl (by decide)) rfl rfl rfl ?_
 refine ol_nil ?_
 refine cw_block ?_
 refine cw_seq ?_
 refine cw_seq ?_
 refine cw_region ?_
 refine ol_val (v := .bool (decide ((Int.tmod a1 3) = 1))) (by exact xr_eqI rfl Try.underlying3 rfl rfl rfl) rfl rfl rfl ?_
 refine ol_val (v := .bool (decide ((Int.tmod a1 3) = 1))) (by exact xr_assign rfl rfl) rfl rfl rfl ?_
 refine ol_nil ?_
 obtain ⟨x1, j2, h3⟩ := bs h
 refine cw_mid (fun ρ' w' => ρ' 0 = .pointer (some ⟨G_0, p_0, none⟩) ∧ ρ' 6 = .int .i64 (Int.tmod a1 3) ∧ ρ' 7 = .bool x1 ∧ Gr w w') ?_ ?_
 ·have h := j2
  rcases is h with ⟨c4, h⟩ | ⟨c4, h⟩
  ·refine cw_condT rfl c4 ?_
   refine cw_skip ?_
   obtain rfl := Option.some.inj h
   refine thn_i ?_
   exact ⟨rfl, rfl, rfl, fB⟩
  refine cw_condF rfl c4 ?_
  refine cw_region ?_
  refine ol_val (v := .bool (decide ((Int.tmod a1 3) = (-2)))) (by exact xr_eqI rfl Try.underlying3 rfl rfl rfl) rfl rfl rfl ?_
  refine ol_val (v := .bool (decide ((Int.tmod a1 3) = (-2)))) (by exact xr_assign rfl rfl) rfl rfl rfl ?_
  refine ol_nil ?_
  obtain rfl := Option.some.inj h
  refine thn_i ?_
  exact ⟨rfl, rfl, rfl, fB⟩
 rintro ρ5 w6 ⟨e0, e6, e7, fB⟩
 have h := h3
 obtain ⟨x7, j8, h9⟩ := bs h
 refine cw_mid (fun ρ' w' => ∃ x10, x7 = Sum.inr x10 ∧ ρ' 0 = .pointer (some ⟨G_0, p_0, none⟩) ∧ Gr w w') ?_ ?_
 ·have h := j8
  rcases is h with ⟨c11, h⟩ | ⟨c11, h⟩
  ·refine cw_condT e7 c11 ?_
   refine cw_seq ?_
   refine cw_region ?_
   refine ol_val (v := .pointer (some ⟨G_0, p_0, none⟩)) (by exact xr_move rfl e0) rfl rfl rfl ?_
   refine ol_val (v := .pointer (some ⟨G_0, p_0, none⟩)) (by exact xr_nilCheck rfl rfl) rfl rfl rfl ?_
   refine ol_val (v := .pointer (some ⟨G_0, p_0 + 3, none⟩)) (by exact xr_fieldAddr (p := p_0) (q := 3) rfl fl142_3 rfl) rfl rfl rfl ?_
   refine ol_val (v := .bool a0.flushed) (by exact xr_load1 (v := .bool a0.flushed) rfl ag4 rfl (At.segs (ss := [Seg.cell (.int .u64 a0.lasts), Seg.cell (.int .u64 a0.stored), Seg.cell (.int .u64 a0.sent), Seg.cell (.bool a0.flushed)]) (At.gr A_0 fB) 3 1 rfl)) rfl rfl rfl ?_
   refine ol_nil ?_
   rcases is h with ⟨c12, h⟩ | ⟨c12, h⟩
   ·refine cw_condT rfl c12 ?_
    refine cw_seq ?_
    refine cw_region ?_
    refine ol_val (v := .pointer (some ⟨G_0, p_0, none⟩)) (by exact xr_move rfl e0) rfl rfl rfl ?_
    refine ol_val (v := .pointer (some ⟨G_0, p_0, none⟩)) (by exact xr_nilCheck rfl rfl) rfl rfl rfl ?_
    refine ol_val (v := .pointer (some ⟨G_0, p_0 + 2, none⟩)) (by exact xr_fieldAddr (p := p_0) (q := 2) rfl fl142_2 rfl) rfl rfl rfl ?_
    refine ol_val (v := .int .u64 a0.sent) (by exact xr_load1 (v := .int .u64 a0.sent) rfl ag22 rfl (At.segs (ss := [Seg.cell (.int .u64 a0.lasts), Seg.cell (.int .u64 a0.stored), Seg.cell (.int .u64 a0.sent), Seg.cell (.bool a0.flushed)]) (At.gr A_0 fB) 2 1 rfl)) rfl rfl rfl ?_
    refine ol_val (v := .int .u64 a0.sent) (by exact xr_assign rfl rfl) rfl rfl rfl ?_
    refine ol_nil ?_
    refine cw_ret ?_
    repeat (first | with_reducible refine thn_r ?_ | with_reducible refine blk_r ?_)
    obtain rfl := Option.some.inj h
    have h := h9
    obtain rfl := Option.some.inj h
    refine fin_ret1 Try.results87 rfl ?_
    exact ⟨_, rfl, rfl, fB⟩
   refine cw_condF rfl c12 ?_
   refine cw_skip ?_
   obtain rfl := Option.some.inj h
   refine thn_i ?_
   exact ⟨_, rfl, e0, fB⟩
  refine cw_condF e7 c11 ?_
  refine cw_seq ?_
  refine cw_seq ?_
  refine cw_region ?_
  refine ol_val (v := .bool (decide ((Int.tmod a1 3) = 2))) (by exact xr_eqI rfl Try.underlying3 rfl e6 rfl) rfl rfl rfl ?_
  refine ol_val (v := .bool (decide ((Int.tmod a1 3) = 2))) (by exact xr_assign rfl rfl) rfl rfl rfl ?_
  refine ol_nil ?_
  obtain ⟨x13, j14, h15⟩ := bs h
  refine cw_mid (fun ρ' w' => ρ' 0 = .pointer (some ⟨G_0, p_0, none⟩) ∧ ρ' 18 = .bool x13 ∧ Gr w w') ?_ ?_
  ·have h := j14
   rcases is h with ⟨c16, h⟩ | ⟨c16, h⟩
   ·refine cw_condT rfl c16 ?_
    refine cw_skip ?_
    obtain rfl := Option.some.inj h
    refine thn_i ?_
    exact ⟨e0, rfl, fB⟩
   refine cw_condF rfl c16 ?_
   refine cw_region ?_
   refine ol_val (v := .bool (decide ((Int.tmod a1 3) = (-1)))) (by exact xr_eqI rfl Try.underlying3 rfl e6 rfl) rfl rfl rfl ?_
   refine ol_val (v := .bool (decide ((Int.tmod a1 3) = (-1)))) (by exact xr_assign rfl rfl) rfl rfl rfl ?_
   refine ol_nil ?_
   obtain rfl := Option.some.inj h
   refine thn_i ?_
   exact ⟨e0, rfl, fB⟩
  rintro ρ17 w18 ⟨e0, e18, fB⟩
  have h := h15
  rcases is h with ⟨c19, h⟩ | ⟨c19, h⟩
  ·refine cw_condT e18 c19 ?_
   refine cw_seq ?_
   refine cw_region ?_
   refine ol_val (v := .pointer (some ⟨G_0, p_0, none⟩)) (by exact xr_move rfl e0) rfl rfl rfl ?_
   refine ol_val (v := .pointer (some ⟨G_0, p_0, none⟩)) (by exact xr_nilCheck rfl rfl) rfl rfl rfl ?_
   refine ol_val (v := .pointer (some ⟨G_0, p_0 + 1, none⟩)) (by exact xr_fieldAddr (p := p_0) (q := 1) rfl fl142_1 rfl) rfl rfl rfl ?_
   refine ol_val (v := .int .u64 a0.stored) (by exact xr_load1 (v := .int .u64 a0.stored) rfl ag22 rfl (At.segs (ss := [Seg.cell (.int .u64 a0.lasts), Seg.cell (.int .u64 a0.stored), Seg.cell (.int .u64 a0.sent), Seg.cell (.bool a0.flushed)]) (At.gr A_0 fB) 1 1 rfl)) rfl rfl rfl ?_
   refine ol_val (v := .int .u64 a0.stored) (by exact xr_assign rfl rfl) rfl rfl rfl ?_
   refine ol_nil ?_
   refine cw_ret ?_
   repeat (first | with_reducible refine thn_r ?_ | with_reducible refine blk_r ?_)
   obtain rfl := Option.some.inj h
   have h := h9
   obtain rfl := Option.some.inj h
   refine fin_ret1 Try.results87 rfl ?_
   exact ⟨_, rfl, rfl, fB⟩
  refine cw_condF e18 c19 ?_
  refine cw_skip ?_
  obtain rfl := Option.some.inj h
  refine thn_i ?_
  exact ⟨_, rfl, e0, fB⟩
 rintro ρ20 w21 ⟨x10, rfl, e0, fB⟩
 have h := h9
 refine blk_i ?_
 refine cw_seq ?_
 refine cw_region ?_
 refine ol_val (v := .pointer (some ⟨G_0, p_0, none⟩)) (by exact xr_move rfl e0) rfl rfl rfl ?_
 refine ol_val (v := .pointer (some ⟨G_0, p_0, none⟩)) (by exact xr_nilCheck rfl rfl) rfl rfl rfl ?_
 refine ol_val (v := .pointer (some ⟨G_0, p_0 + 0, none⟩)) (by exact xr_fieldAddr (p := p_0) (q := 0) rfl fl142_0 rfl) rfl rfl rfl ?_
 refine ol_val (v := .int .u64 a0.lasts) (by exact xr_load1 (v := .int .u64 a0.lasts) rfl ag22 rfl (At.segs (ss := [Seg.cell (.int .u64 a0.lasts), Seg.cell (.int .u64 a0.stored), Seg.cell (.int .u64 a0.sent), Seg.cell (.bool a0.flushed)]) (At.gr A_0 fB) 0 1 rfl)) rfl rfl rfl ?_
 refine ol_val (v := .int .u64 a0.lasts) (by exact xr_assign rfl rfl) rfl rfl rfl ?_
 refine ol_nil ?_
 refine cw_ret ?_
 repeat (first | with_reducible refine thn_r ?_ | with_reducible refine blk_r ?_)
 obtain rfl := Option.some.inj h
 refine fin_ret1 Try.results87 rfl ?_
 exact ⟨_, rfl, rfl, fB⟩
def pmem_Device_Crash.s0 (fu : Nat) (a0 : S_pmem_Device) : ((List Int) × Int × (List S_pmem_cell)) → Option (Sum (List S_pmem_cell) ((List Int) × Int × (List S_pmem_cell))) := fun s7 => (if (decide (s7.2.1 < (List.length a0.cells : Int))) = true then (if 0 ≤ s7.2.1 ∧ s7.2.1 < (List.length s7.2.2 : Int) then ((pmem_cell_open__r0.f fu (ix s7.2.2 s7.2.1) : Option Bool).bind fun t21 => (((if t21 = true then (((if (decide ((List.length s7.1 : Int) > 0)) = true then (if (0 : Int) < (List.length s7.1 : Int) then (if (1 : Int) ≤ (List.length s7.1 : Int) then some ((cut s7.1 1 (List.length s7.1 : Int)), (ix s7.1 0)) else none) else none) else some (s7.1, 0)) : Option ((List Int) × Int)).bind fun x34 => ((pmem_cell_fate__r0.f fu (ix s7.2.2 s7.2.1) x34.2 : Option Int).bind fun t52 => ((pmem_cell_keep__i0.f fu (ix s7.2.2 s7.2.1) t52 : Option S_pmem_cell).bind fun t62 => some (x34.1, (List.set s7.2.2 (Int.toNat s7.2.1) t62))))) else some (s7.1, s7.2.2)) : Option ((List Int) × (List S_pmem_cell))).bind fun x25 => (if s7.2.1 < (List.length x25.2 : Int) then (if s7.2.1 < (List.length x25.2 : Int) then some (Sum.inr (x25.1, (IntKind.i64.wrap (s7.2.1 + 1)), (List.set x25.2 (Int.toNat s7.2.1) (⟨(ix x25.2 s7.2.1).lasts, (ix x25.2 s7.2.1).lasts, (ix x25.2 s7.2.1).sent, (ix x25.2 s7.2.1).flushed⟩ : S_pmem_cell)))) else none) else none))) else none) else some (Sum.inl (s7.2.2)))
def pmem_Device_Crash.f (fu : Nat) (a0 : S_pmem_Device) (a1 : List Int) : Option S_pmem_Device := ((loopM (pmem_Device_Crash.s0 fu a0) fu (a1, 0, a0.cells)).bind fun e8 => some ((⟨e8, (⟨[], (0 : Int)⟩ : S_pmem_plan), false, false, 0, a0.steps⟩ : S_pmem_Device)))
set_option maxRecDepth 100000 in
set_option maxHeartbeats 400000 in
theorem pmem_Device_Crash.ok (fu : Nat) (w : World) (a0 : S_pmem_Device) (G_0 : Nat) (V0_0 : Value) (O0_0 : Own k_pmem_cell 142 w 0 V0_0 a0.cells) (V0_1 : Value) (O0_1 : Own (kI .i64) 3 w 0 V0_1 a0.plan.list) (b_0 : Blk w G_0 139 [Seg.cell V0_0 O0_0.one, Seg.cell V0_1 O0_1.one, Seg.cell (.int .i64 a0.plan.at_), Seg.cell (.bool a0.off), Seg.cell (.bool a0.armed), Seg.cell (.int .i64 a0.left), Seg.cell (.int .i64 a0.steps)]) (a1 : List Int) (V1_0 : Value) (R1_0 : Rd (kI .i64) w V1_0 a1) (NR1_0_P0 : OffR V1_0 a1 G_0) (NR1_0_R0_0 : OffRV V1_0 a1 V0_0) (NR1_0_R0_1 : OffRV V1_0 a1 V0_1) (r : S_pmem_Device) (h : pmem_Device_Crash.f fu a0 a1 = some r) :
  Calls Try.prog 32 (([.pointer (some ⟨G_0, 0, none⟩), V1_0] : List Value).toArray) w (fun e w' => ∃ v, e = .returned v ∧ ∃ u1 : Value, ∃ u4 : Value, ∃ o2 : Own k_pmem_cell 142 w' 0 u1 r.cells, ∃ m3 : ∀ g, Value.ownBlock u1 = some g → w.heap.size ≤ g ∨ (g = G_0 ∨ some g = Value.ownBlock V0_0 ∨ some g = Value.ownBlock V0_1), ∃ o5 : Own (kI .i64) 3 w' 0 u4 r.plan.list, ∃ m6 : ∀ g, Value.ownBlock u4 = some g → w.heap.size ≤ g ∨ (g = G_0 ∨ some g = Value.ownBlock V0_0 ∨ some g = Value.ownBlock V0_1), v = .tuple #[] ∧ Blk w' G_0 139 [Seg.cell u1 o2.one, Seg.cell u4 o5.one, Seg.cell (.int .i64 r.plan.at_), Seg.cell (.bool r.off), Seg.cell (.bool r.armed), Seg.cell (.int .i64 r.left), Seg.cell (.int .i64 r.steps)] ∧ Fr (fun j => j = G_0 ∨ some j = Value.ownBlock V0_0 ∨ some j = Value.ownBlock V0_1) w w') := by
 unfold pmem_Device_Crash.f at h
 have fB : Fr (fun j => j = G_0 ∨ some j = Value.ownBlock V0_0 ∨ some j = Value.ownBlock V0_1) w w := Fr.refl _ _
 have M0_0 : ∀ g, Value.ownBlock V0_0 = some g → w.heap.size ≤ g ∨ (g = G_0 ∨ some g = Value.ownBlock V0_0 ∨ some g = Value.ownBlock V0_1) := fun g hg => .inr (.inr (.inl hg.symm))
 have M0_1 : ∀ g, Value.ownBlock V0_1 = some g → w.heap.size ≤ g ∨ (g = G_0 ∨ some g = Value.ownBlock V0_0 ∨ some g = Value.ownBlock V0_1) := fun g hg => .inr (.inr (.inr hg.symm))
 refine calls_cw Try.func32 rfl Try.ntmps32 rfl ?_
 refine cw_seq ?_
 refine cw_seq ?_
 refine cw_region ?_
 refine ol_val (v := .pointer (some ⟨G_0, 0, none⟩)) (by exact xr_move rfl rfl) rfl rfl rfl ?_
 refine ol_val (v := .pointer (some ⟨G_0, 0, none⟩)) (by exact xr_nilCheck rfl rfl) rfl rfl rfl ?_
 refine ol_val (v := .pointer (some ⟨G_0, 0, none⟩)) (by exact xr_fieldAddr (p := 0) (q := 0) rfl fl139_0 rfl) rfl rfl rfl ?_
 refine ol_val (v := V0_0) (by exact xr_load1 (v := V0_0) rfl ag135 rfl (b_0.seg 0 rfl rfl)) rfl rfl rfl ?_
 refine ol_val (v := .int .i64 (List.length a0.cells : Int)) (by exact xr_lenR rfl Try.underlying135 rfl O0_0.rd) rfl rfl rfl ?_
 refine ol_val (v := .int .i64 0) (by exact xr_move rfl rfl) rfl rfl rfl ?_
 refine ol_nil ?_
 obtain ⟨e8, l9, h10⟩ := bs h
 refine cw_mid (fun ρ' w' => ∃ O0_0 : Own k_pmem_cell 142 w' 0 V0_0 e8, ∃ O0_1 : Own (kI .i64) 3 w' 0 V0_1 a0.plan.list, ρ' 0 = .pointer (some ⟨G_0, 0, none⟩) ∧ Blk w' G_0 139 [Seg.cell V0_0 O0_0.one, Seg.cell V0_1 O0_1.one, Seg.cell (.int .i64 a0.plan.at_), Seg.cell (.bool a0.off), Seg.cell (.bool a0.armed), Seg.cell (.int .i64 a0.left), Seg.cell (.int .i64 a0.steps)] ∧ Fr (fun j => j = G_0 ∨ some j = Value.ownBlock V0_0 ∨ some j = Value.ownBlock V0_1) w w') ?_ ?_
 ·refine cw_block ?_
  refine cw_round (fun (s7 : (List Int) × Int × (List S_pmem_cell)) ρ' w' => ∃ v11 : Value, ∃ O0_0 : Own k_pmem_cell 142 w' 0 V0_0 s7.2.2, ∃ O0_1 : Own (kI .i64) 3 w' 0 V0_1 a0.plan.list, ∃ r12 : Rd (kI .i64) w' v11 s7.1, OffR v11 s7.1 G_0 ∧ OffRV v11 s7.1 V0_0 ∧ OffRV v11 s7.1 V0_1 ∧ ρ' 0 = .pointer (some ⟨G_0, 0, none⟩) ∧ ρ' 1 = v11 ∧ ρ' 11 = .int .i64 (List.length a0.cells : Int) ∧ ρ' 12 = .int .i64 s7.2.1 ∧ Blk w' G_0 139 [Seg.cell V0_0 O0_0.one, Seg.cell V0_1 O0_1.one, Seg.cell (.int .i64 a0.plan.at_), Seg.cell (.bool a0.off), Seg.cell (.bool a0.armed), Seg.cell (.int .i64 a0.left), Seg.cell (.int .i64 a0.steps)] ∧ Fr (fun j => j = G_0 ∨ some j = Value.ownBlock V0_0 ∨ some j = Value.ownBlock V0_1) w w') l9 ?_ ?_
  ·skip
   exact ⟨V1_0, O0_0, O0_1, R1_0, NR1_0_P0, NR1_0_R0_0, NR1_0_R0_1, rfl, rfl, rfl, rfl, b_0, fB⟩
  rintro s7 x18 ρ16 w17 ⟨v11, O0_0, O0_1, r12, a13, a14, a15, e0, e1, e11, e12, b_0, fB⟩ h
  unfold pmem_Device_Crash.s0 at h
  refine cw_seq ?_
  refine cw_region ?_
  refine ol_val (v := .bool (decide (s7.2.1 < (List.length a0.cells : Int)))) (by exact xr_lss rfl e12 e11) rfl rfl rfl ?_
  refine ol_nil ?_
  refine cw_seq ?_
  rcases is h with ⟨c19, h⟩ | ⟨c19, h⟩
  ·refine cw_condT rfl c19 ?_
   refine cw_skip ?_
   refine cw_seq ?_
   refine cw_block ?_
   refine cw_seq ?_
   refine cw_region ?_
   refine ol_val (v := .int .i64 s7.2.1) (by exact xr_move rfl e12) rfl rfl rfl ?_
   refine ol_val (v := .int .i64 s7.2.1) (by exact xr_assign rfl rfl) rfl rfl rfl ?_
   refine ol_nil ?_
   refine cw_seq ?_
   refine cw_region ?_
   refine ol_val (v := .pointer (some ⟨G_0, 0, none⟩)) (by exact xr_move rfl e0) rfl rfl rfl ?_
   refine ol_val (v := .pointer (some ⟨G_0, 0, none⟩)) (by exact xr_nilCheck rfl rfl) rfl rfl rfl ?_
   refine ol_val (v := .pointer (some ⟨G_0, 0, none⟩)) (by exact xr_fieldAddr (p := 0) (q := 0) rfl fl139_0 rfl) rfl rfl rfl ?_
   refine ol_val (v := V0_0) (by exact xr_load1 (v := V0_0) rfl ag135 rfl (b_0.seg 0 rfl rfl)) rfl rfl rfl ?_
   refine ol_val (v := .int .i64 s7.2.1) (by exact xr_move rfl rfl) rfl rfl rfl ?_
   obtain ⟨g20, h⟩ := gs h
   refine ol_val (v := .pointer (some ⟨(sb V0_0), so V0_0 + Int.toNat s7.2.1 * 4, none⟩)) (by exact xr_indexR (K := k_pmem_cell) (v := V0_0) rfl Try.underlying135 sz142 rfl O0_0.rd rfl g20.1 g20.2) rfl rfl rfl ?_
   refine ol_val (v := .pointer (some ⟨(sb V0_0), so V0_0 + Int.toNat s7.2.1 * 4, none⟩)) (by exact xr_assign rfl rfl) rfl rfl rfl ?_
   refine ol_nil ?_
   refine cw_seq ?_
   refine cw_seq ?_
   refine cw_region ?_
   refine ol_val (v := .pointer (some ⟨(sb V0_0), so V0_0 + Int.toNat s7.2.1 * 4, none⟩)) (by exact xr_move rfl rfl) rfl rfl rfl ?_
   obtain ⟨t21, k22, h⟩ := bs h
   refine ol_op (by exact opv_call rfl cal86 (ac rfl an) (pmem_cell_open__r0.ok fu _ (ix s7.2.2 s7.2.1) (sb V0_0) (so V0_0 + Int.toNat s7.2.1 * 4) (show At _ _ _ (cellsOf [Seg.cell (.int .u64 ((ix s7.2.2 s7.2.1).lasts)), Seg.cell (.int .u64 ((ix s7.2.2 s7.2.1).stored)), Seg.cell (.int .u64 ((ix s7.2.2 s7.2.1).sent)), Seg.cell (.bool ((ix s7.2.2 s7.2.1).flushed))]) from (O0_0.rd.elem g20.1 g20.2)) _ k22)) rfl rfl rfl ?_
   rintro _ w24 ⟨rfl, q23⟩
   have b_0 := b_0.gr q23
   have O0_0 := O0_0.gr q23
   have O0_1 := O0_1.gr q23
   have r12 := r12.gr q23
   have fB := fB.gr q23
   refine ol_nil ?_
   obtain ⟨x25, j26, h27⟩ := bs h
   refine cw_mid (fun ρ' w' => ∃ v28 : Value, ∃ O0_0 : Own k_pmem_cell 142 w' 0 V0_0 x25.2, ∃ O0_1 : Own (kI .i64) 3 w' 0 V0_1 a0.plan.list, ∃ r29 : Rd (kI .i64) w' v28 x25.1, OffR v28 x25.1 G_0 ∧ OffRV v28 x25.1 V0_0 ∧ OffRV v28 x25.1 V0_1 ∧ ρ' 0 = .pointer (some ⟨G_0, 0, none⟩) ∧ ρ' 1 = v28 ∧ ρ' 5 = .pointer (some ⟨(sb V0_0), so V0_0 + Int.toNat s7.2.1 * 4, none⟩) ∧ ρ' 11 = .int .i64 (List.length a0.cells : Int) ∧ ρ' 12 = .int .i64 s7.2.1 ∧ Blk w' G_0 139 [Seg.cell V0_0 O0_0.one, Seg.cell V0_1 O0_1.one, Seg.cell (.int .i64 a0.plan.at_), Seg.cell (.bool a0.off), Seg.cell (.bool a0.armed), Seg.cell (.int .i64 a0.left), Seg.cell (.int .i64 a0.steps)] ∧ Fr (fun j => j = G_0 ∨ some j = Value.ownBlock V0_0 ∨ some j = Value.ownBlock V0_1) w w') ?_ ?_
   ·have h := j26
    rcases is h with ⟨c33, h⟩ | ⟨c33, h⟩
    ·refine cw_condT rfl c33 ?_
     refine cw_seq ?_
     refine cw_region ?_
     refine ol_val (v := .int .i64 0) (by exact xr_assign rfl rfl) rfl rfl rfl ?_
     refine ol_nil ?_
     refine cw_seq ?_
     refine cw_seq ?_
     refine cw_region ?_
     refine ol_val (v := v11) (by exact xr_move rfl e1) rfl rfl rfl ?_
     refine ol_val (v := .int .i64 (List.length s7.1 : Int)) (by exact xr_lenR rfl Try.underlying25 rfl r12) rfl rfl rfl ?_
     refine ol_val (v := .bool (decide ((List.length s7.1 : Int) > 0))) (by exact xr_gtr rfl rfl rfl) rfl rfl rfl ?_
     refine ol_nil ?_
     obtain ⟨x34, j35, h36⟩ := bs h
     refine cw_mid (fun ρ' w' => ∃ v37 : Value, ∃ O0_0 : Own k_pmem_cell 142 w' 0 V0_0 s7.2.2, ∃ O0_1 : Own (kI .i64) 3 w' 0 V0_1 a0.plan.list, ∃ r38 : Rd (kI .i64) w' v37 x34.1, OffR v37 x34.1 G_0 ∧ OffRV v37 x34.1 V0_0 ∧ OffRV v37 x34.1 V0_1 ∧ ρ' 0 = .pointer (some ⟨G_0, 0, none⟩) ∧ ρ' 1 = v37 ∧ ρ' 5 = .pointer (some ⟨(sb V0_0), so V0_0 + Int.toNat s7.2.1 * 4, none⟩) ∧ ρ' 6 = .int .i64 x34.2 ∧ ρ' 11 = .int .i64 (List.length a0.cells : Int) ∧ ρ' 12 = .int .i64 s7.2.1 ∧ Blk w' G_0 139 [Seg.cell V0_0 O0_0.one, Seg.cell V0_1 O0_1.one, Seg.cell (.int .i64 a0.plan.at_), Seg.cell (.bool a0.off), Seg.cell (.bool a0.armed), Seg.cell (.int .i64 a0.left), Seg.cell (.int .i64 a0.steps)] ∧ Fr (fun j => j = G_0 ∨ some j = Value.ownBlock V0_0 ∨ some j = Value.ownBlock V0_1) w w') ?_ ?_
     ·have h := j35
      rcases is h with ⟨c42, h⟩ | ⟨c42, h⟩
      ·refine cw_condT rfl c42 ?_
       obtain ⟨g43, h⟩ := gs h
       obtain ⟨g45, h⟩ := gs h
       refine cw_drawL 6 [fun vz wz => vz = (v11 : Value), fun vz wz => vz = (.pointer (some ⟨(sb v11), so v11 + Int.toNat 0 * 1, none⟩) : Value), fun vz wz => vz = (.int .i64 (ix s7.1 0) : Value), fun vz wz => vz = (v11 : Value), fun vz wz => ∃ r44 : Rd (kI .i64) wz (subv 1 v11 (Int.toNat 1) (List.length s7.1)) (cut s7.1 1 (List.length s7.1 : Int)), vz = (subv 1 v11 (Int.toNat 1) (List.length s7.1) : Value), fun vz wz => vz = (.int .i64 (ix s7.1 0) : Value)] mo rfl ⟨fun _ _ _ h _ => h, fun _ _ _ h _ => h, fun _ _ _ h _ => h, fun _ _ _ h _ => h, fun _ _ _ ⟨r44, h⟩ q => ⟨r44.gr q, h⟩, fun _ _ _ h _ => h, trivial⟩ ?_ ?_
       ·refine ⟨?_, ?_, ?_, ?_, ?_, ?_, trivial⟩
        ·intro ρz wz hz hk hd
         exact sk_val (v := v11) (by exact xr_move rfl ((hk 1 rfl).trans e1)) rfl rfl
        ·intro ρz wz hz hk hd
         have d26 := hd 0 rfl 26 rfl
         exact sk_val (v := .pointer (some ⟨(sb v11), so v11 + Int.toNat 0 * 1, none⟩)) (by exact xr_indexR (K := (kI .i64)) (v := v11) rfl Try.underlying25 sz3 d26 (r12.gr hz) rfl (by decide) g43) rfl rfl
        ·intro ρz wz hz hk hd
         have d27 := hd 1 rfl 27 rfl
         exact sk_val (v := .int .i64 (ix s7.1 0)) (by exact xr_load1 (v := .int .i64 (ix s7.1 0)) rfl ag3 d27 ((r12.gr hz).elem (by decide) g43)) rfl rfl
        ·intro ρz wz hz hk hd
         exact sk_val (v := v11) (by exact xr_move rfl ((hk 1 rfl).trans e1)) rfl rfl
        ·intro ρz wz hz hk hd
         have d29 := hd 3 rfl 29 rfl
         exact sk_val (by exact xr_slice_l (K := (kI .i64)) (v := v11) rfl Try.underlying25 sz3 d29 (r12.gr hz) rfl (by decide) g45) rfl ⟨(r12.gr hz).cut (lo := 1) (hi := (List.length s7.1 : Int)) (by decide) g45 (Int.le_refl _), rfl⟩
        intro ρz wz hz hk hd
        have d28 := hd 2 rfl 28 rfl
        exact sk_val (v := .int .i64 (ix s7.1 0)) (by exact xr_assign rfl d28) rfl rfl
       intro ρ46 w47 q48 hk hd
       have e0 := (hk 0 rfl).trans e0
       have e5 := (hk 5 rfl).trans rfl
       have e6 := hd 5 rfl 6 rfl
       have e11 := (hk 11 rfl).trans e11
       have e12 := (hk 12 rfl).trans e12
       obtain ⟨r49, e30⟩ := hd 4 rfl 30 rfl
       have b_0 := b_0.gr q48
       have O0_0 := O0_0.gr q48
       have O0_1 := O0_1.gr q48
       have fB := fB.gr q48
       refine ol_val (v := subv 1 v11 (Int.toNat 1) (List.length s7.1)) (by exact xr_assign rfl e30) rfl rfl rfl ?_
       refine ol_nil ?_
       obtain rfl := Option.some.inj h
       refine thn_i ?_
       exact ⟨(subv 1 v11 (Int.toNat 1) (List.length s7.1)), O0_0, O0_1, r49, (OffR.cut a13), (OffRV.cut a14), (OffRV.cut a15), e0, rfl, e5, e6, e11, e12, b_0, fB⟩
      refine cw_condF rfl c42 ?_
      refine cw_skip ?_
      obtain rfl := Option.some.inj h
      refine thn_i ?_
      exact ⟨v11, O0_0, O0_1, r12, a13, a14, a15, e0, e1, rfl, rfl, e11, e12, b_0, fB⟩
     rintro ρ50 w51 ⟨v37, O0_0, O0_1, r38, a39, a40, a41, e0, e1, e5, e6, e11, e12, b_0, fB⟩
     have h := h36
     refine cw_region ?_
     refine ol_val (v := .pointer (some ⟨(sb V0_0), so V0_0 + Int.toNat s7.2.1 * 4, none⟩)) (by exact xr_move rfl e5) rfl rfl rfl ?_
     refine ol_val (v := .pointer (some ⟨(sb V0_0), so V0_0 + Int.toNat s7.2.1 * 4, none⟩)) (by exact xr_move rfl e5) rfl rfl rfl ?_
     refine ol_val (v := .int .i64 x34.2) (by exact xr_move rfl e6) rfl rfl rfl ?_
     obtain ⟨t52, k53, h⟩ := bs h
     refine ol_op (by exact opv_call rfl cal87 (ac rfl (ac rfl an)) (pmem_cell_fate__r0.ok fu _ (ix s7.2.2 s7.2.1) (sb V0_0) (so V0_0 + Int.toNat s7.2.1 * 4) (show At _ _ _ (cellsOf [Seg.cell (.int .u64 ((ix s7.2.2 s7.2.1).lasts)), Seg.cell (.int .u64 ((ix s7.2.2 s7.2.1).stored)), Seg.cell (.int .u64 ((ix s7.2.2 s7.2.1).sent)), Seg.cell (.bool ((ix s7.2.2 s7.2.1).flushed))]) from (O0_0.rd.elem g20.1 g20.2)) x34.2 _ k53)) rfl rfl rfl ?_
     rintro _ w55 ⟨rfl, q54⟩
     have b_0 := b_0.gr q54
     have O0_0 := O0_0.gr q54
     have O0_1 := O0_1.gr q54
     have r38 := r38.gr q54
     have fB := fB.gr q54
     obtain ⟨t62, k63, h⟩ := bs h
     have f66 := off_ty b_0 O0_0 (by decide)
     have f67 := OffV.ty O0_1 O0_0 (by decide)
     obtain ⟨X56, Y57, h58, h59, b60, k61⟩ := Own.sub (K := k_pmem_cell) (i := s7.2.1) (ss := [Seg.cell (.int .u64 ((ix s7.2.2 s7.2.1).lasts)), Seg.cell (.int .u64 ((ix s7.2.2 s7.2.1).stored)), Seg.cell (.int .u64 ((ix s7.2.2 s7.2.1).sent)), Seg.cell (.bool ((ix s7.2.2 s7.2.1).flushed))]) O0_0 g20.1 g20.2 rfl
     refine ol_op (by exact opv_call rfl cal85 (ac (ptrE (q := List.length X56) rfl h58) (ac rfl an)) (pmem_cell_keep__i0.ok fu _ (ix s7.2.2 s7.2.1) (sb V0_0) 142 X56 Y57 b60 t52 _ k63)) rfl rfl rfl ?_
     rintro _ w69 ⟨rfl, b65, q64⟩
     have O0_0 := k61 _ t62 [Seg.cell (.int .u64 t62.lasts), Seg.cell (.int .u64 t62.stored), Seg.cell (.int .u64 t62.sent), Seg.cell (.bool t62.flushed)] rfl b65
     have q64 := fr_own q64 h59
     have b_0 := b_0.wrO q64 f66
     have O0_1 := O0_1.wrV q64 f67
     have fB := fB.wrM q64 M0_0
     have r38 := r38.wrV q64 a40
     refine ol_nil ?_
     obtain rfl := Option.some.inj h
     refine thn_i ?_
     exact ⟨v37, O0_0, O0_1, r38, a39, a40, a41, e0, e1, e5, e11, e12, b_0, fB⟩
    refine cw_condF rfl c33 ?_
    refine cw_skip ?_
    obtain rfl := Option.some.inj h
    refine thn_i ?_
    exact ⟨v11, O0_0, O0_1, r12, a13, a14, a15, e0, e1, rfl, e11, e12, b_0, fB⟩
   rintro ρ70 w71 ⟨v28, O0_0, O0_1, r29, a30, a31, a32, e0, e1, e5, e11, e12, b_0, fB⟩
   have h := h27
   refine cw_region ?_
   refine ol_val (v := .pointer (some ⟨(sb V0_0), so V0_0 + Int.toNat s7.2.1 * 4, none⟩)) (by exact xr_move rfl e5) rfl rfl rfl ?_
   refine ol_val (v := .pointer (some ⟨(sb V0_0), so V0_0 + Int.toNat s7.2.1 * 4, none⟩)) (by exact xr_move rfl e5) rfl rfl rfl ?_
   refine ol_val (v := .pointer (some ⟨(sb V0_0), so V0_0 + Int.toNat s7.2.1 * 4, none⟩)) (by exact xr_nilCheck rfl rfl) rfl rfl rfl ?_
   refine ol_val (v := .pointer (some ⟨(sb V0_0), so V0_0 + Int.toNat s7.2.1 * 4 + 0, none⟩)) (by exact xr_fieldAddr (p := so V0_0 + Int.toNat s7.2.1 * 4) (q := 0) rfl fl142_0 rfl) rfl rfl rfl ?_
   obtain ⟨g72, h⟩ := gs h
   refine ol_val (v := .int .u64 ((ix x25.2 s7.2.1).lasts)) (by exact xr_load1 (v := .int .u64 ((ix x25.2 s7.2.1).lasts)) rfl ag22 rfl (At.segs (ss := segs_pmem_cell (ix x25.2 s7.2.1)) (O0_0.rd.elem g20.1 g72) 0 1 rfl)) rfl rfl rfl ?_
   refine ol_val (v := .pointer (some ⟨(sb V0_0), so V0_0 + Int.toNat s7.2.1 * 4, none⟩)) (by exact xr_nilCheck rfl rfl) rfl rfl rfl ?_
   refine ol_val (v := .pointer (some ⟨(sb V0_0), so V0_0 + Int.toNat s7.2.1 * 4 + 1, none⟩)) (by exact xr_fieldAddr (p := so V0_0 + Int.toNat s7.2.1 * 4) (q := 1) rfl fl142_1 rfl) rfl rfl rfl ?_
   obtain ⟨g74, h⟩ := gs h
   have f75 := off_ty b_0 O0_0 (by decide)
   have f76 := OffV.ty O0_1 O0_0 (by decide)
   refine ol_op0 (by exact opv_storeRow (z := (⟨(ix x25.2 s7.2.1).lasts, (ix x25.2 s7.2.1).lasts, (ix x25.2 s7.2.1).sent, (ix x25.2 s7.2.1).flushed⟩ : S_pmem_cell)) (xs := cellsOf [Seg.cell (.int .u64 ((ix x25.2 s7.2.1).lasts))]) rfl sz22 rfl rfl rfl (len_cellsOf _) (one_cellsOf _) O0_0 g20.1 g74 (Spl.segs (segs_pmem_cell (ix x25.2 s7.2.1)) 1 1 [Seg.cell (.int .u64 ((ix x25.2 s7.2.1).lasts))] rfl rfl) rfl) rfl rfl ?_
   rintro _ w78 ⟨O0_0, q73⟩
   have b_0 := b_0.wrO q73 f75
   have O0_1 := O0_1.wrV q73 f76
   have fB := fB.wrM q73 M0_0
   have r29 := r29.wrV q73 a31
   refine ol_nil ?_
   refine blk_i ?_
   refine cw_region ?_
   refine ol_val (v := .int .i64 (IntKind.i64.wrap (s7.2.1 + 1))) (by exact xr_add rfl e12 rfl) rfl rfl rfl ?_
   refine ol_val (v := .int .i64 (IntKind.i64.wrap (s7.2.1 + 1))) (by exact xr_move rfl rfl) rfl rfl rfl ?_
   refine ol_nil ?_
   obtain rfl := Option.some.inj h
   refine lp_in ?_
   exact ⟨v28, O0_0, O0_1, r29, a30, a31, a32, e0, e1, e11, rfl, b_0, fB⟩
  refine cw_condF rfl c19 ?_
  refine cw_exit ?_
  repeat (first | with_reducible refine thn_e ?_ | with_reducible refine blk_e rfl ?_)
  obtain rfl := Option.some.inj h
  refine lp_exit ?_
  rintro rfl
  refine thn_x ?_
  exact ⟨O0_0, O0_1, e0, b_0, fB⟩
 rintro ρ79 w80 ⟨O0_0, O0_1, e0, b_0, fB⟩
 have h := h10
 refine cw_seq ?_
 refine cw_region ?_
 refine ol_val (v := .pointer (some ⟨G_0, 0, none⟩)) (by exact xr_move rfl e0) rfl rfl rfl ?_
 refine ol_val (v := aggV [Seg.cell (.slice none 0 0) (by rfl), Seg.cell (.int .i64 (0 : Int))]) (by exact xr_build (vals := []) rfl trivial (bl137_ _)) rfl rfl rfl ?_
 refine ol_val (v := .pointer (some ⟨G_0, 0, none⟩)) (by exact xr_nilCheck rfl rfl) rfl rfl rfl ?_
 refine ol_val (v := .pointer (some ⟨G_0, 1, none⟩)) (by exact xr_fieldAddr (p := 0) (q := 1) rfl fl139_1 rfl) rfl rfl rfl ?_
 have f82 := off_ty b_0 O0_0 (by decide)
 refine ol_op0 (by exact opv_store (ss' := [Seg.cell V0_0 O0_0.one, Seg.cell (.slice none 0 0) (by rfl), Seg.cell (.int .i64 (0 : Int)), Seg.cell (.bool a0.off), Seg.cell (.bool a0.armed), Seg.cell (.int .i64 a0.left), Seg.cell (.int .i64 a0.steps)]) (xs := cellsOf [Seg.cell (.slice none 0 0) (by rfl), Seg.cell (.int .i64 (0 : Int))]) rfl sz137 rfl rfl rfl (len_cellsOf _) (one_cellsOf _) b_0 (Spl.segs _ 1 2 [Seg.cell (.slice none 0 0) (by rfl), Seg.cell (.int .i64 (0 : Int))] rfl rfl)) rfl rfl ?_
 rintro _ w83 ⟨b_0, q81⟩
 have O0_0 := O0_0.wr q81 f82
 have fB := fB.wrS q81 (.inl rfl)
 refine ol_nil ?_
 refine cw_region ?_
 refine ol_val (v := .pointer (some ⟨G_0, 0, none⟩)) (by exact xr_move rfl e0) rfl rfl rfl ?_
 refine ol_val (v := .pointer (some ⟨G_0, 0, none⟩)) (by exact xr_move rfl e0) rfl rfl rfl ?_
 refine ol_val (v := .pointer (some ⟨G_0, 0, none⟩)) (by exact xr_move rfl e0) rfl rfl rfl ?_
 refine ol_val (v := .pointer (some ⟨G_0, 0, none⟩)) (by exact xr_nilCheck rfl rfl) rfl rfl rfl ?_
 refine ol_val (v := .pointer (some ⟨G_0, 3, none⟩)) (by exact xr_fieldAddr (p := 0) (q := 3) rfl fl139_2 rfl) rfl rfl rfl ?_
 have f85 := off_ty b_0 O0_0 (by decide)
 refine ol_op0 (by exact opv_store (ss' := [Seg.cell V0_0 O0_0.one, Seg.cell (.slice none 0 0) (by rfl), Seg.cell (.int .i64 (0 : Int)), Seg.cell (.bool false), Seg.cell (.bool a0.armed), Seg.cell (.int .i64 a0.left), Seg.cell (.int .i64 a0.steps)]) (xs := cellsOf [Seg.cell (.bool false)]) rfl sz4 rfl rfl rfl (len_cellsOf _) (one_cellsOf _) b_0 (Spl.segs _ 3 1 [Seg.cell (.bool false)] rfl rfl)) rfl rfl ?_
 rintro _ w86 ⟨b_0, q84⟩
 have O0_0 := O0_0.wr q84 f85
 have fB := fB.wrS q84 (.inl rfl)
 refine ol_val (v := .pointer (some ⟨G_0, 0, none⟩)) (by exact xr_nilCheck rfl rfl) rfl rfl rfl ?_
 refine ol_val (v := .pointer (some ⟨G_0, 4, none⟩)) (by exact xr_fieldAddr (p := 0) (q := 4) rfl fl139_3 rfl) rfl rfl rfl ?_
 have f88 := off_ty b_0 O0_0 (by decide)
 refine ol_op0 (by exact opv_store (ss' := [Seg.cell V0_0 O0_0.one, Seg.cell (.slice none 0 0) (by rfl), Seg.cell (.int .i64 (0 : Int)), Seg.cell (.bool false), Seg.cell (.bool false), Seg.cell (.int .i64 a0.left), Seg.cell (.int .i64 a0.steps)]) (xs := cellsOf [Seg.cell (.bool false)]) rfl sz4 rfl rfl rfl (len_cellsOf _) (one_cellsOf _) b_0 (Spl.segs _ 4 1 [Seg.cell (.bool false)] rfl rfl)) rfl rfl ?_
 rintro _ w89 ⟨b_0, q87⟩
 have O0_0 := O0_0.wr q87 f88
 have fB := fB.wrS q87 (.inl rfl)
 refine ol_val (v := .pointer (some ⟨G_0, 0, none⟩)) (by exact xr_nilCheck rfl rfl) rfl rfl rfl ?_
 refine ol_val (v := .pointer (some ⟨G_0, 5, none⟩)) (by exact xr_fieldAddr (p := 0) (q := 5) rfl fl139_4 rfl) rfl rfl rfl ?_
 have f91 := off_ty b_0 O0_0 (by decide)
 refine ol_op0 (by exact opv_store (ss' := [Seg.cell V0_0 O0_0.one, Seg.cell (.slice none 0 0) (by rfl), Seg.cell (.int .i64 (0 : Int)), Seg.cell (.bool false), Seg.cell (.bool false), Seg.cell (.int .i64 0), Seg.cell (.int .i64 a0.steps)]) (xs := cellsOf [Seg.cell (.int .i64 0)]) rfl sz3 rfl rfl rfl (len_cellsOf _) (one_cellsOf _) b_0 (Spl.segs _ 5 1 [Seg.cell (.int .i64 0)] rfl rfl)) rfl rfl ?_
 rintro _ w92 ⟨b_0, q90⟩
 have O0_0 := O0_0.wr q90 f91
 have fB := fB.wrS q90 (.inl rfl)
 refine ol_nil ?_
 obtain rfl := Option.some.inj h
 refine fin_end0 Try.results32 ?_
 exact ⟨_, rfl, V0_0, (.slice none 0 0), O0_0, M0_0, Own.nil _ _ _ _, ms_nil, rfl, b_0, fB⟩
def octet_Read.s0 (fu : Nat) (a0 : List Int) : (Int × Int) → Option (Sum Int (Int × Int)) := fun s3 => (if (decide (s3.2 < (List.length (cut a0 0 (mnI (List.length a0 : Int) 8)) : Int))) = true then (if 0 ≤ s3.2 ∧ s3.2 < (List.length (cut a0 0 (mnI (List.length a0 : Int) 8)) : Int) then (if 0 ≤ (IntKind.i64.wrap (8 * s3.2)) then some (Sum.inr ((bOr .u64 s3.1 (shL .u64 (IntKind.u64.wrap (ix (cut a0 0 (mnI (List.length a0 : Int) 8)) s3.2)) (IntKind.i64.wrap (8 * s3.2)))), (IntKind.i64.wrap (s3.2 + 1)))) else none) else none) else some (Sum.inl (s3.1)))
def octet_Read.f (fu : Nat) (a0 : List Int) : Option Int := (if 0 ≤ (mnI (List.length a0 : Int) 8) ∧ (mnI (List.length a0 : Int) 8) ≤ (List.length a0 : Int) then ((loopM (octet_Read.s0 fu a0) fu (0, 0)).bind fun e4 => some (e4)) else none)
set_option maxRecDepth 100000 in
set_option maxHeartbeats 400000 in
theorem octet_Read.ok (fu : Nat) (w : World) (a0 : List Int) (V0_0 : Value) (R0_0 : Rd (kI .u8) w V0_0 a0) (r : Int) (h : octet_Read.f fu a0 = some r) :
  Calls Try.prog 109 (([V0_0] : List Value).toArray) w (fun e w' => ∃ v, e = .returned v ∧ v = .int .u64 r ∧ Gr w w') := by
 unfold octet_Read.f at h
 have fB : Gr w w := Fr.refl _ _
 refine calls_cw Try.func109 rfl Try.ntmps109 rfl ?_
 refine cw_seq ?_
 refine cw_region ?_
 refine ol_val (v := .int .u64 0) (by exact xr_assign rfl rfl) rfl rfl rfl ?_
 refine ol_nil ?_
 refine cw_seq ?_
 refine cw_region ?_
 refine ol_val (v := .int .u64 0) (by exact xr_assign rfl rfl) rfl rfl rfl ?_
 refine ol_nil ?_
 refine cw_seq ?_
 refine cw_seq ?_
 refine cw_region ?_
 refine ol_val (v := V0_0) (by exact xr_move rfl rfl) rfl rfl rfl ?_
 refine ol_val (v := V0_0) (by exact xr_move rfl rfl) rfl rfl rfl ?_
 refine ol_val (v := .int .i64 (List.length a0 : Int)) (by exact xr_lenR rfl Try.underlying43 rfl (R0_0.gr fB)) rfl rfl rfl ?_
 refine ol_val (v := .int .i64 (mnI (List.length a0 : Int) 8)) (by exact xr_min2 rfl rfl rfl) rfl rfl rfl ?_
 obtain ⟨g2, h⟩ := gs h
 refine ol_val (v := subv 1 V0_0 0 (Int.toNat (mnI (List.length a0 : Int) 8))) (by exact xr_slice_h (K := (kI .u8)) (v := V0_0) rfl Try.underlying43 sz5 rfl (R0_0.gr fB) rfl g2.1 g2.2) rfl rfl rfl ?_
 have r1 : Rd (kI .u8) w (subv 1 V0_0 0 (Int.toNat (mnI (List.length a0 : Int) 8))) (cut a0 0 (mnI (List.length a0 : Int) 8)) := (R0_0.gr fB).cut (lo := 0) (hi := (mnI (List.length a0 : Int) 8)) (by decide) g2.1 g2.2
 refine ol_val (v := .int .i64 (List.length (cut a0 0 (mnI (List.length a0 : Int) 8)) : Int)) (by exact xr_lenR rfl Try.underlying43 rfl r1) rfl rfl rfl ?_
 refine ol_val (v := .int .i64 0) (by exact xr_move rfl rfl) rfl rfl rfl ?_
 refine ol_nil ?_
 obtain ⟨e4, l5, h6⟩ := bs h
 refine cw_mid (fun ρ' w' => ρ' 3 = .int .u64 e4 ∧ Gr w w') ?_ ?_
 ·refine cw_block ?_
  refine cw_round (fun (s3 : Int × Int) ρ' w' => ∃ r1 : Rd (kI .u8) w' (subv 1 V0_0 0 (Int.toNat (mnI (List.length a0 : Int) 8))) (cut a0 0 (mnI (List.length a0 : Int) 8)), ρ' 3 = .int .u64 s3.1 ∧ ρ' 10 = subv 1 V0_0 0 (Int.toNat (mnI (List.length a0 : Int) 8)) ∧ ρ' 11 = .int .i64 (List.length (cut a0 0 (mnI (List.length a0 : Int) 8)) : Int) ∧ ρ' 12 = .int .i64 s3.2 ∧ Gr w w') l5 ?_ ?_
  ·skip
   exact ⟨r1, rfl, rfl, rfl, rfl, fB⟩
  rintro s3 x9 ρ7 w8 ⟨r1, e3, e10, e11, e12, fB⟩ h
  unfold octet_Read.s0 at h
  refine cw_seq ?_
  refine cw_region ?_
  refine ol_val (v := .bool (decide (s3.2 < (List.length (cut a0 0 (mnI (List.length a0 : Int) 8)) : Int)))) (by exact xr_lss rfl e12 e11) rfl rfl rfl ?_
  refine ol_nil ?_
  refine cw_seq ?_
  rcases is h with ⟨c10, h⟩ | ⟨c10, h⟩
  ·refine cw_condT rfl c10 ?_
   refine cw_skip ?_
   refine cw_seq ?_
   refine cw_block ?_
   refine cw_seq ?_
   refine cw_region ?_
   refine ol_val (v := .int .i64 s3.2) (by exact xr_move rfl e12) rfl rfl rfl ?_
   obtain ⟨g11, h⟩ := gs h
   refine ol_val (v := .pointer (some ⟨(sb (subv 1 V0_0 0 (Int.toNat (mnI (List.length a0 : Int) 8)))), so (subv 1 V0_0 0 (Int.toNat (mnI (List.length a0 : Int) 8))) + Int.toNat s3.2 * 1, none⟩)) (by exact xr_indexR (K := (kI .u8)) (v := subv 1 V0_0 0 (Int.toNat (mnI (List.length a0 : Int) 8))) rfl Try.underlying43 sz5 e10 r1 e12 g11.1 g11.2) rfl rfl rfl ?_
   refine ol_val (v := .int .u8 (ix (cut a0 0 (mnI (List.length a0 : Int) 8)) s3.2)) (by exact xr_load1 (v := .int .u8 (ix (cut a0 0 (mnI (List.length a0 : Int) 8)) s3.2)) rfl ag5 rfl (r1.elem g11.1 g11.2)) rfl rfl rfl ?_
   refine ol_val (v := .int .i64 s3.2) (by exact xr_assign rfl rfl) rfl rfl rfl ?_
   refine ol_val (v := .int .u8 (ix (cut a0 0 (mnI (List.length a0 : Int) 8)) s3.2)) (by exact xr_assign rfl rfl) rfl rfl rfl ?_
   refine ol_nil ?_
   refine cw_region ?_
   refine ol_val (v := .int .u64 s3.1) (by exact xr_move rfl e3) rfl rfl rfl ?_
   refine ol_val (v := .int .u8 (ix (cut a0 0 (mnI (List.length a0 : Int) 8)) s3.2)) (by exact xr_move rfl rfl) rfl rfl rfl ?_
   refine ol_val (v := .int .u64 (IntKind.u64.wrap (ix (cut a0 0 (mnI (List.length a0 : Int) 8)) s3.2))) (by exact xr_conv rfl Try.underlying5 Try.underlying22 rfl) rfl rfl rfl ?_
   refine ol_val (v := .int .i64 s3.2) (by exact xr_move rfl rfl) rfl rfl rfl ?_
   refine ol_val (v := .int .i64 (IntKind.i64.wrap (8 * s3.2))) (by exact xr_mul rfl rfl rfl) rfl rfl rfl ?_
   obtain ⟨g12, h⟩ := gs h
   refine ol_val (v := .int .u64 (shL .u64 (IntKind.u64.wrap (ix (cut a0 0 (mnI (List.length a0 : Int) 8)) s3.2)) (IntKind.i64.wrap (8 * s3.2)))) (by exact xr_shl rfl rfl rfl g12) rfl rfl rfl ?_
   refine ol_val (v := .int .u64 (bOr .u64 s3.1 (shL .u64 (IntKind.u64.wrap (ix (cut a0 0 (mnI (List.length a0 : Int) 8)) s3.2)) (IntKind.i64.wrap (8 * s3.2))))) (by exact xr_or rfl rfl rfl) rfl rfl rfl ?_
   refine ol_val (v := .int .u64 (bOr .u64 s3.1 (shL .u64 (IntKind.u64.wrap (ix (cut a0 0 (mnI (List.length a0 : Int) 8)) s3.2)) (IntKind.i64.wrap (8 * s3.2))))) (by exact xr_assign rfl rfl) rfl rfl rfl ?_
   refine ol_nil ?_
   refine blk_i ?_
   refine cw_region ?_
   refine ol_val (v := .int .i64 (IntKind.i64.wrap (s3.2 + 1))) (by exact xr_add rfl e12 rfl) rfl rfl rfl ?_
   refine ol_val (v := .int .i64 (IntKind.i64.wrap (s3.2 + 1))) (by exact xr_move rfl rfl) rfl rfl rfl ?_
   refine ol_nil ?_
   obtain rfl := Option.some.inj h
   refine lp_in ?_
   exact ⟨r1, rfl, e10, e11, rfl, fB⟩
  refine cw_condF rfl c10 ?_
  refine cw_exit ?_
  repeat (first | with_reducible refine thn_e ?_ | with_reducible refine blk_e rfl ?_)
  obtain rfl := Option.some.inj h
  refine lp_exit ?_
  rintro rfl
  refine thn_x ?_
  exact ⟨e3, fB⟩
 rintro ρ13 w14 ⟨e3, fB⟩
 have h := h6
 refine cw_seq ?_
 refine cw_region ?_
 refine ol_val (v := .int .u64 e4) (by exact xr_move rfl e3) rfl rfl rfl ?_
 refine ol_val (v := .int .u64 e4) (by exact xr_assign rfl rfl) rfl rfl rfl ?_
 refine ol_nil ?_
 refine cw_ret ?_
 repeat (first | with_reducible refine thn_r ?_ | with_reducible refine blk_r ?_)
 obtain rfl := Option.some.inj h
 refine fin_ret1 Try.results109 rfl ?_
 exact ⟨_, rfl, rfl, fB⟩
def octet_Words.s0 (fu : Nat) : ((List Int) × (List Int)) → Option (Sum (List Int) ((List Int) × (List Int))) := fun s4 => (if (decide ((List.length s4.1 : Int) ≥ 8)) = true then ((octet_Read.f fu s4.1 : Option Int).bind fun t21 => (if List.length s4.2 + List.length [t21] ≤ LIM then (if (8 : Int) ≤ (List.length s4.1 : Int) then some (Sum.inr ((cut s4.1 8 (List.length s4.1 : Int)), (s4.2 ++ [t21]))) else none) else none)) else some (Sum.inl (s4.2)))
def octet_Words.f (fu : Nat) (a0 : List Int) : Option (List Int) := ((loopM (octet_Words.s0 fu) fu (a0, [])).bind fun e5 => some (e5))
set_option maxRecDepth 100000 in
set_option maxHeartbeats 400000 in
theorem octet_Words.ok (fu : Nat) (w : World) (a0 : List Int) (V0_0 : Value) (R0_0 : Rd (kI .u8) w V0_0 a0) (r : (List Int)) (h : octet_Words.f fu a0 = some r) :
  Calls Try.prog 99 (([V0_0] : List Value).toArray) w (fun e w' => ∃ v, e = .returned v ∧ ∃ u1 : Value, ∃ o2 : Own (kI .u64) 22 w' w.heap.size u1 r, v = u1 ∧ Gr w w') := by
 unfold octet_Words.f at h
 have fB : Gr w w := Fr.refl _ _
 refine calls_cw Try.func99 rfl Try.ntmps99 rfl ?_
 refine cw_seq ?_
 refine cw_region ?_
 refine ol_val (v := .slice none 0 0) (by exact xr_assign rfl rfl) rfl rfl rfl ?_
 refine ol_nil ?_
 refine cw_seq ?_
 refine cw_region ?_
 refine ol_val (v := .slice none 0 0) (by exact xr_assign rfl rfl) rfl rfl rfl ?_
 refine ol_nil ?_
 refine cw_seq ?_
 obtain ⟨e5, l6, h7⟩ := bs h
 refine cw_mid (fun ρ' w' => ∃ v8 : Value, ∃ o9 : Own (kI .u64) 22 w' w.heap.size v8 e5, ρ' 3 = v8 ∧ Gr w w') ?_ ?_
 ·refine cw_block ?_
  refine cw_round (fun (s4 : (List Int) × (List Int)) ρ' w' => ∃ v11 : Value, ∃ v13 : Value, ∃ o14 : Own (kI .u64) 22 w' w.heap.size v13 s4.2, ∃ r12 : Rd (kI .u8) w' v11 s4.1, OffRV v11 s4.1 v13 ∧ ρ' 0 = v11 ∧ ρ' 3 = v13 ∧ Gr w w') l6 ?_ ?_
  ·skip
   exact ⟨V0_0, (.slice none 0 0), Own.nil _ _ _ _, (R0_0.gr fB), (OffRV.nil _ _), rfl, rfl, fB⟩
  rintro s4 x19 ρ17 w18 ⟨v11, v13, o14, r12, a16, e0, e3, fB⟩ h
  unfold octet_Words.s0 at h
  refine cw_seq ?_
  refine cw_seq ?_
  refine cw_region ?_
  refine ol_val (v := v11) (by exact xr_move rfl e0) rfl rfl rfl ?_
  refine ol_val (v := .int .i64 (List.length s4.1 : Int)) (by exact xr_lenR rfl Try.underlying43 rfl r12) rfl rfl rfl ?_
  refine ol_val (v := .bool (decide ((List.length s4.1 : Int) ≥ 8))) (by exact xr_geq rfl rfl rfl) rfl rfl rfl ?_
  refine ol_nil ?_
  rcases is h with ⟨c20, h⟩ | ⟨c20, h⟩
  ·refine cw_condT rfl c20 ?_
   refine cw_skip ?_
   refine cw_block ?_
   refine cw_seq ?_
   refine cw_region ?_
   refine ol_val (v := v13) (by exact xr_move rfl e3) rfl rfl rfl ?_
   refine ol_val (v := v11) (by exact xr_move rfl e0) rfl rfl rfl ?_
   obtain ⟨t21, k22, h⟩ := bs h
   refine ol_op (by exact opv_call rfl cal109 (ac rfl an) (octet_Read.ok fu _ s4.1 v11 (r12) _ k22)) rfl rfl rfl ?_
   rintro _ w24 ⟨rfl, q23⟩
   have o14 := o14.gr q23
   have r12 := r12.gr q23
   have fB := fB.gr q23
   refine ol_op (by exact opv_buildSlice (K := (kI .u64)) (xs := [t21]) (vals := [.int .u64 t21]) rfl Try.underlying46 el22 rfl rfl ⟨rfl, rfl, trivial⟩ rfl rfl rfl fB.size) rfl rfl rfl ?_
   rintro v25 w30 ⟨o27, q26, z28⟩
   have a31 := OffV.new o14 z28
   have a32 := OffRV.new r12 z28 rfl
   have o14 := o14.gr q26
   have r12 := r12.gr q26
   have fB := fB.gr q26
   obtain ⟨g37, h⟩ := gs h
   have f39 := o14.geO
   refine ol_op (by exact opv_append (K := (kI .u64)) rfl Try.underlying46 el22 rfl rfl rfl rfl rfl o14 o27.rd g37 fB.size) rfl rfl rfl ?_
   rintro v33 w40 ⟨o34, q35, n36⟩
   have a41 := OffRV.app r12 a16 n36 rfl
   have fB := fB.wrO q35 f39
   have r12 := r12.wrV q35 a16
   refine ol_val (v := v33) (by exact xr_assign rfl rfl) rfl rfl rfl ?_
   refine ol_nil ?_
   refine cw_region ?_
   refine ol_val (v := v11) (by exact xr_move rfl e0) rfl rfl rfl ?_
   obtain ⟨g43, h⟩ := gs h
   refine ol_val (v := subv 1 v11 (Int.toNat 8) (List.length s4.1)) (by exact xr_slice_l (K := (kI .u8)) (v := v11) rfl Try.underlying43 sz5 rfl r12 rfl (by decide) g43) rfl rfl rfl ?_
   have r42 : Rd (kI .u8) w40 (subv 1 v11 (Int.toNat 8) (List.length s4.1)) (cut s4.1 8 (List.length s4.1 : Int)) := r12.cut (lo := 8) (hi := (List.length s4.1 : Int)) (by decide) g43 (Int.le_refl _)
   refine ol_val (v := subv 1 v11 (Int.toNat 8) (List.length s4.1)) (by exact xr_assign rfl rfl) rfl rfl rfl ?_
   refine ol_nil ?_
   refine blk_i ?_
   obtain rfl := Option.some.inj h
   refine lp_in ?_
   exact ⟨(subv 1 v11 (Int.toNat 8) (List.length s4.1)), v33, o34, r42, (OffRV.cut a41), rfl, rfl, fB⟩
  refine cw_condF rfl c20 ?_
  refine cw_exit ?_
  repeat (first | with_reducible refine thn_e ?_ | with_reducible refine blk_e rfl ?_)
  obtain rfl := Option.some.inj h
  refine lp_exit ?_
  rintro rfl
  refine thn_x ?_
  exact ⟨v13, o14, e3, fB⟩
 rintro ρ44 w45 ⟨v8, o9, e3, fB⟩
 have h := h7
 refine cw_seq ?_
 refine cw_region ?_
 refine ol_val (v := v8) (by exact xr_move rfl e3) rfl rfl rfl ?_
 refine ol_val (v := v8) (by exact xr_assign rfl rfl) rfl rfl rfl ?_
 refine ol_nil ?_
 refine cw_ret ?_
 repeat (first | with_reducible refine thn_r ?_ | with_reducible refine blk_r ?_)
 obtain rfl := Option.some.inj h
 refine fin_ret1 Try.results99 rfl ?_
 exact ⟨_, rfl, v8, o9, rfl, fB⟩
end Go.Proofs.Ytklhbaghbmndeaa
