/- PressSure: texts merged, part 2 of 8. The last part proves that the law PressSure holds for every input. -/
import Derived.Test.YtklhbaghbmndeaaPkPressSure1
import Derived.Test.YtklhbaghbmndeaaProg
import Derived.KernelRfl
/- Records, their cells, closed facts on the program: written by gen.py. -/
set_option linter.unusedVariables false
namespace Go.Proofs.Ytklhbaghbmndeaa
open Go Go.Xw
structure S_rickyardlaw05_Act where
  Kind : Int
  At : Int
  W : Int
  L : List Int
deriving DecidableEq, Inhabited
structure S_rickyardlaw05_Fenced where
  Line : Int
  Ws : Arr 8 Int
  Acts : List S_rickyardlaw05_Act
  L : List Int
deriving DecidableEq, Inhabited
structure S_pmem_cell where
  lasts : Int
  stored : Int
  sent : Int
  flushed : Bool
deriving DecidableEq, Inhabited
def segs_pmem_cell (x : S_pmem_cell) : List Seg := [Seg.cell (.int .u64 x.lasts), Seg.cell (.int .u64 x.stored), Seg.cell (.int .u64 x.sent), Seg.cell (.bool x.flushed)]
def k_pmem_cell : Kd S_pmem_cell := kT segs_pmem_cell 4 (fun _ => rfl)
structure S_pmem_plan where
  list : List Int
  at_ : Int
deriving DecidableEq, Inhabited
structure S_pmem_Device where
  cells : List S_pmem_cell
  plan : S_pmem_plan
  off : Bool
  armed : Bool
  left : Int
  steps : Int
deriving DecidableEq, Inhabited
structure S_api_Fate where
  At : Int
  Lasts : Int
  Flushed : Bool
  Sent : Int
  Stored : Int
deriving DecidableEq, Inhabited
def segs_api_Fate (x : S_api_Fate) : List Seg := [Seg.cell (.int .i64 x.At), Seg.cell (.int .u64 x.Lasts), Seg.cell (.bool x.Flushed), Seg.cell (.int .u64 x.Sent), Seg.cell (.int .u64 x.Stored)]
def k_api_Fate : Kd S_api_Fate := kT segs_api_Fate 5 (fun _ => rfl)
structure S_rickyardref05_Device where
  Lasts : List Int
  Stored : List Int
  Sent : List Int
  Flushed : List Bool
  Plan : List Int
  Since : Int
  Left : Int
  Steps : Int
deriving DecidableEq, Inhabited
structure S_rickyardlaw15_Act where
  Kind : Int
  At : Int
  I : Int
  B : List Int
  A : S_rickyardlaw05_Act
deriving DecidableEq, Inhabited
structure S_api_Geometry where
  Blocks : Int
  Slots : Int
  Gens : Int
deriving DecidableEq, Inhabited
structure S_api_Tickets where
  Geometry : S_api_Geometry
  Top : Int
  High : Int
  Free : Int
deriving DecidableEq, Inhabited
structure S_api_Super where
  Epoch : Int
  Tickets : S_api_Tickets
  Dir : Int
  Charts : List Int
deriving DecidableEq, Inhabited
structure S_super_reader where
  rest : List Int
deriving DecidableEq, Inhabited
structure S_rickyardlaw16_Cut where
  Steps : Int
  Plan : List Int
  L : List Int
deriving DecidableEq, Inhabited
def D_rickyardlaw05_Act (w : World) (cs : List Value) (m : S_rickyardlaw05_Act) : Prop := ∃ V0 : Value, ∃ R0 : Rd (kI .i64) w V0 m.L, cs = cellsOf [Seg.cell (.int .i64 m.Kind), Seg.cell (.int .i64 m.At), Seg.cell (.int .u64 m.W), Seg.cell V0 R0.one]
theorem D_rickyardlaw05_Act.gr {w w' : World} {cs : List Value} {m : S_rickyardlaw05_Act} : D_rickyardlaw05_Act w cs m → Gr w w' → D_rickyardlaw05_Act w' cs m := fun ⟨V0, R0, e⟩ q => ⟨V0, R0.gr q, e⟩
theorem N_rickyardlaw05_Act {w : World} {v : Value} {l : List S_rickyardlaw05_Act} (h : RdN 4 D_rickyardlaw05_Act w v l) {i : Int} (h0 : 0 ≤ i) (h1 : i < (l.length : Int)) : At w (sb v) (so v + Int.toNat i * 4) ((Seg.l (Seg.cell (.int .i64 ((ix l i).Kind)))) ++ ((Seg.l (Seg.cell (.int .i64 ((ix l i).At)))) ++ ((Seg.l (Seg.cell (.int .u64 ((ix l i).W)))) ++ ([(cellAt w (sb v) (so v + Int.toNat i * 4 + 3))] ++ ([] : List Value))))) ∧ Rd (kI .i64) w (cellAt w (sb v) (so v + Int.toNat i * 4 + 3)) ((ix l i).L) := by
  obtain ⟨_, A, V0, R0, rfl⟩ := RdN.at h h0 h1
  have e0 : (cellAt w (sb v) (so v + Int.toNat i * 4 + 3)) = V0 := A.cellAt (j := 3) rfl
  rw [e0]
  exact ⟨A, R0⟩
def D_rickyardlaw15_Act (w : World) (cs : List Value) (m : S_rickyardlaw15_Act) : Prop := ∃ V0 : Value, ∃ R0 : Rd (kI .u8) w V0 m.B, ∃ V1 : Value, ∃ R1 : Rd (kI .i64) w V1 m.A.L, cs = cellsOf [Seg.cell (.int .i64 m.Kind), Seg.cell (.int .i64 m.At), Seg.cell (.int .i64 m.I), Seg.cell V0 R0.one, Seg.cell (.int .i64 m.A.Kind), Seg.cell (.int .i64 m.A.At), Seg.cell (.int .u64 m.A.W), Seg.cell V1 R1.one]
theorem D_rickyardlaw15_Act.gr {w w' : World} {cs : List Value} {m : S_rickyardlaw15_Act} : D_rickyardlaw15_Act w cs m → Gr w w' → D_rickyardlaw15_Act w' cs m := fun ⟨V0, R0, V1, R1, e⟩ q => ⟨V0, R0.gr q, V1, R1.gr q, e⟩
theorem N_rickyardlaw15_Act {w : World} {v : Value} {l : List S_rickyardlaw15_Act} (h : RdN 8 D_rickyardlaw15_Act w v l) {i : Int} (h0 : 0 ≤ i) (h1 : i < (l.length : Int)) : At w (sb v) (so v + Int.toNat i * 8) ((Seg.l (Seg.cell (.int .i64 ((ix l i).Kind)))) ++ ((Seg.l (Seg.cell (.int .i64 ((ix l i).At)))) ++ ((Seg.l (Seg.cell (.int .i64 ((ix l i).I)))) ++ ([(cellAt w (sb v) (so v + Int.toNat i * 8 + 3))] ++ ((Seg.l (Seg.cell (.int .i64 ((ix l i).A.Kind)))) ++ ((Seg.l (Seg.cell (.int .i64 ((ix l i).A.At)))) ++ ((Seg.l (Seg.cell (.int .u64 ((ix l i).A.W)))) ++ ([(cellAt w (sb v) (so v + Int.toNat i * 8 + 7))] ++ ([] : List Value))))))))) ∧ Rd (kI .u8) w (cellAt w (sb v) (so v + Int.toNat i * 8 + 3)) ((ix l i).B) ∧ Rd (kI .i64) w (cellAt w (sb v) (so v + Int.toNat i * 8 + 7)) ((ix l i).A.L) := by
  obtain ⟨_, A, V0, R0, V1, R1, rfl⟩ := RdN.at h h0 h1
  have e0 : (cellAt w (sb v) (so v + Int.toNat i * 8 + 3)) = V0 := A.cellAt (j := 3) rfl
  have e1 : (cellAt w (sb v) (so v + Int.toNat i * 8 + 7)) = V1 := A.cellAt (j := 7) rfl
  rw [e0, e1]
  exact ⟨A, R0, R1⟩
theorem ze23 : (Try.prog.info? 23).map (·.zero) = some (some (aggV [Kd.seg (kA 8 (kI .u64)) (Arr.rep 8 (0 : Int))])) := by kernel_rfl
theorem mo : Try.prog.follows .mixedOrders = true := by kernel_rfl
theorem el142 : elB Try.prog 142 = some (some (aggV [Seg.cell (.int .u64 (0 : Int)), Seg.cell (.int .u64 (0 : Int)), Seg.cell (.int .u64 (0 : Int)), Seg.cell (.bool false)]), 4, 32) := by kernel_rfl
theorem pl139 : placesB Try.prog 139 = some [(0, 1), (1, 2), (3, 1), (4, 1), (5, 1), (6, 1)] := by kernel_rfl
theorem ze139 : (Try.prog.info? 139).map (·.zero) = some (some (aggV [Seg.cell (.slice none 0 0) (by rfl), Seg.cell (.slice none 0 0) (by rfl), Seg.cell (.int .i64 (0 : Int)), Seg.cell (.bool false), Seg.cell (.bool false), Seg.cell (.int .i64 (0 : Int)), Seg.cell (.int .i64 (0 : Int))])) := by kernel_rfl
theorem cal26 : calB Try.prog 26 = some true := by kernel_rfl
theorem fl139_0 : fldB Try.prog 139 0 = some 0 := by kernel_rfl
theorem ag135 : aggB Try.prog 135 = some false := by kernel_rfl
theorem fl139_2 : fldB Try.prog 139 2 = some 3 := by kernel_rfl
theorem ag4 : aggB Try.prog 4 = some false := by kernel_rfl
theorem cal83 : calB Try.prog 83 = some true := by kernel_rfl
theorem sz142 : szB Try.prog 142 = some 4 := by kernel_rfl
theorem fl142_1 : fldB Try.prog 142 1 = some 1 := by kernel_rfl
theorem sz22 : szB Try.prog 22 = some 1 := by kernel_rfl
theorem fl139_5 : fldB Try.prog 139 5 = some 6 := by kernel_rfl
theorem ag3 : aggB Try.prog 3 = some false := by kernel_rfl
theorem sz3 : szB Try.prog 3 = some 1 := by kernel_rfl
theorem fl139_1 : fldB Try.prog 139 1 = some 1 := by kernel_rfl
theorem fl137_0 : fldB Try.prog 137 0 = some 0 := by kernel_rfl
theorem ag25 : aggB Try.prog 25 = some false := by kernel_rfl
theorem fl137_1 : fldB Try.prog 137 1 = some 1 := by kernel_rfl
theorem cal123 : calB Try.prog 123 = some true := by kernel_rfl
theorem ag22 : aggB Try.prog 22 = some false := by kernel_rfl
theorem fl142_0 : fldB Try.prog 142 0 = some 0 := by kernel_rfl
theorem fl142_2 : fldB Try.prog 142 2 = some 2 := by kernel_rfl
theorem fl142_3 : fldB Try.prog 142 3 = some 3 := by kernel_rfl
theorem sz4 : szB Try.prog 4 = some 1 := by kernel_rfl
theorem cal85 : calB Try.prog 85 = some true := by kernel_rfl
theorem fl139_3 : fldB Try.prog 139 3 = some 4 := by kernel_rfl
theorem fl139_4 : fldB Try.prog 139 4 = some 5 := by kernel_rfl
theorem cal84 : calB Try.prog 84 = some true := by kernel_rfl
theorem cal28 : calB Try.prog 28 = some true := by kernel_rfl
theorem cal43 : calB Try.prog 43 = some true := by kernel_rfl
theorem cal29 : calB Try.prog 29 = some true := by kernel_rfl
theorem cal30 : calB Try.prog 30 = some true := by kernel_rfl
theorem cal86 : calB Try.prog 86 = some true := by kernel_rfl
theorem cal87 : calB Try.prog 87 = some true := by kernel_rfl
theorem bl137_  (w : World) : (Instr.build 137 ([] : List (Nat × Value)).toArray).run Try.prog w = .ok (aggV [Seg.cell (.slice none 0 0) (by rfl), Seg.cell (.int .i64 (0 : Int))]) w := by kernel_rfl
theorem sz137 : szB Try.prog 137 = some 2 := by kernel_rfl
theorem cal32 : calB Try.prog 32 = some true := by kernel_rfl
theorem cal82 : calB Try.prog 82 = some true := by kernel_rfl
theorem sz39 : szB Try.prog 39 = some 4 := by kernel_rfl
theorem fl39_3 : fldB Try.prog 39 3 = some 3 := by kernel_rfl
theorem cal27 : calB Try.prog 27 = some true := by kernel_rfl
theorem fl39_0 : fldB Try.prog 39 0 = some 0 := by kernel_rfl
theorem fl39_1 : fldB Try.prog 39 1 = some 1 := by kernel_rfl
theorem ag39 : aggB Try.prog 39 = some true := by kernel_rfl
theorem fl39_2 : fldB Try.prog 39 2 = some 2 := by kernel_rfl
theorem cal38 : calB Try.prog 38 = some true := by kernel_rfl
theorem el3 : elB Try.prog 3 = some (some (.int .i64 (0 : Int)), 1, 8) := by kernel_rfl
theorem cal90 : calB Try.prog 90 = some true := by kernel_rfl
theorem pl137 : placesB Try.prog 137 = some [(0, 1), (1, 1)] := by kernel_rfl
theorem ze137 : (Try.prog.info? 137).map (·.zero) = some (some (aggV [Seg.cell (.slice none 0 0) (by rfl), Seg.cell (.int .i64 (0 : Int))])) := by kernel_rfl
theorem cal35 : calB Try.prog 35 = some true := by kernel_rfl
theorem cal31 : calB Try.prog 31 = some true := by kernel_rfl
theorem el22 : elB Try.prog 22 = some (some (.int .u64 (0 : Int)), 1, 8) := by kernel_rfl
theorem cal89 : calB Try.prog 89 = some true := by kernel_rfl
theorem el5 : elB Try.prog 5 = some (some (.int .u8 (0 : Int)), 1, 1) := by kernel_rfl
theorem sz5 : szB Try.prog 5 = some 1 := by kernel_rfl
theorem cal128 : calB Try.prog 128 = some true := by kernel_rfl
theorem cal104 : calB Try.prog 104 = some true := by kernel_rfl
theorem cal88 : calB Try.prog 88 = some true := by kernel_rfl
theorem cal33 : calB Try.prog 33 = some true := by kernel_rfl
theorem cal91 : calB Try.prog 91 = some true := by kernel_rfl
theorem cal37 : calB Try.prog 37 = some true := by kernel_rfl
theorem bl55_0_1_2_3_4 (x0 : Int) (x1 : Int) (x2 : Bool) (x3 : Int) (x4 : Int) (w : World) : (Instr.build 55 ([(0, .int .i64 x0), (1, .int .u64 x1), (2, .bool x2), (3, .int .u64 x3), (4, .int .u64 x4)] : List (Nat × Value)).toArray).run Try.prog w = .ok (aggV [Seg.cell (.int .i64 x0), Seg.cell (.int .u64 x1), Seg.cell (.bool x2), Seg.cell (.int .u64 x3), Seg.cell (.int .u64 x4)]) w := by kernel_rfl
theorem el55 : elB Try.prog 55 = some (some (aggV [Seg.cell (.int .i64 (0 : Int)), Seg.cell (.int .u64 (0 : Int)), Seg.cell (.bool false), Seg.cell (.int .u64 (0 : Int)), Seg.cell (.int .u64 (0 : Int))]), 5, 40) := by kernel_rfl
theorem sz55 : szB Try.prog 55 = some 5 := by kernel_rfl
theorem fl55_0 : fldB Try.prog 55 0 = some 0 := by kernel_rfl
theorem cal41 : calB Try.prog 41 = some true := by kernel_rfl
theorem ag55 : aggB Try.prog 55 = some true := by kernel_rfl
theorem fl55_4 : fldB Try.prog 55 4 = some 4 := by kernel_rfl
theorem fl55_2 : fldB Try.prog 55 2 = some 2 := by kernel_rfl
theorem fl55_3 : fldB Try.prog 55 3 = some 3 := by kernel_rfl
theorem fl55_1 : fldB Try.prog 55 1 = some 1 := by kernel_rfl
theorem cal42 : calB Try.prog 42 = some true := by kernel_rfl
theorem el4 : elB Try.prog 4 = some (some (.bool false), 1, 1) := by kernel_rfl
theorem pl65 : placesB Try.prog 65 = some [(0, 1), (1, 1), (2, 1), (3, 1), (4, 1), (5, 1), (6, 1), (7, 1)] := by kernel_rfl
theorem ze65 : (Try.prog.info? 65).map (·.zero) = some (some (aggV [Seg.cell (.slice none 0 0) (by rfl), Seg.cell (.slice none 0 0) (by rfl), Seg.cell (.slice none 0 0) (by rfl), Seg.cell (.slice none 0 0) (by rfl), Seg.cell (.slice none 0 0) (by rfl), Seg.cell (.int .i64 (0 : Int)), Seg.cell (.int .i64 (0 : Int)), Seg.cell (.int .i64 (0 : Int))])) := by kernel_rfl
theorem cal44 : calB Try.prog 44 = some true := by kernel_rfl
theorem fl65_0 : fldB Try.prog 65 0 = some 0 := by kernel_rfl
theorem ag46 : aggB Try.prog 46 = some false := by kernel_rfl
theorem fl65_6 : fldB Try.prog 65 6 = some 6 := by kernel_rfl
theorem cal124 : calB Try.prog 124 = some true := by kernel_rfl
theorem fl65_1 : fldB Try.prog 65 1 = some 1 := by kernel_rfl
theorem fl65_4 : fldB Try.prog 65 4 = some 4 := by kernel_rfl
theorem fl65_5 : fldB Try.prog 65 5 = some 5 := by kernel_rfl
theorem fl65_2 : fldB Try.prog 65 2 = some 2 := by kernel_rfl
theorem fl65_3 : fldB Try.prog 65 3 = some 3 := by kernel_rfl
theorem ag63 : aggB Try.prog 63 = some false := by kernel_rfl
theorem cal126 : calB Try.prog 126 = some true := by kernel_rfl
theorem fl65_7 : fldB Try.prog 65 7 = some 7 := by kernel_rfl
theorem cal125 : calB Try.prog 125 = some true := by kernel_rfl
theorem cal92 : calB Try.prog 92 = some true := by kernel_rfl
theorem cal93 : calB Try.prog 93 = some true := by kernel_rfl
theorem cal94 : calB Try.prog 94 = some true := by kernel_rfl
theorem cal95 : calB Try.prog 95 = some true := by kernel_rfl
theorem cal96 : calB Try.prog 96 = some true := by kernel_rfl
theorem sz25 : szB Try.prog 25 = some 1 := by kernel_rfl
theorem cal97 : calB Try.prog 97 = some true := by kernel_rfl
theorem cal47 : calB Try.prog 47 = some true := by kernel_rfl
theorem cal98 : calB Try.prog 98 = some true := by kernel_rfl
theorem cal45 : calB Try.prog 45 = some true := by kernel_rfl
theorem eqa55 : EqA Try.prog 55 k_api_Fate 2 := by
  refine eqa_struct Try.underlying55 Try.stoodInHeld55 ?_
  intro d w a b
  have e : decide (a = b) = (decide (a.At = b.At) && (decide (a.Lasts = b.Lasts) && (decide (a.Flushed = b.Flushed) && (decide (a.Sent = b.Sent) && (decide (a.Stored = b.Stored) && true))))) := by
    cases a
    cases b
    rw [Bool.eq_iff_iff]
    simp
  rw [e]
  refine eqf_cons (by decide) (by exact (eqk_int Try.underlying3) (d + 0) w _ _ _ a.At b.At ((chunk_segs (segs_api_Fate a) 0 1 rfl rfl)) ((chunk_segs (segs_api_Fate b) 0 1 rfl rfl))) ?_
  refine eqf_cons (by decide) (by exact (eqk_int Try.underlying22) (d + 0) w _ _ _ a.Lasts b.Lasts ((chunk_segs (segs_api_Fate a) 1 1 rfl rfl)) ((chunk_segs (segs_api_Fate b) 1 1 rfl rfl))) ?_
  refine eqf_cons (by decide) (by exact (eqk_bool Try.underlying4) (d + 0) w _ _ _ a.Flushed b.Flushed ((chunk_segs (segs_api_Fate a) 2 1 rfl rfl)) ((chunk_segs (segs_api_Fate b) 2 1 rfl rfl))) ?_
  refine eqf_cons (by decide) (by exact (eqk_int Try.underlying22) (d + 0) w _ _ _ a.Sent b.Sent ((chunk_segs (segs_api_Fate a) 3 1 rfl rfl)) ((chunk_segs (segs_api_Fate b) 3 1 rfl rfl))) ?_
  refine eqf_cons (by decide) (by exact (eqk_int Try.underlying22) (d + 0) w _ _ _ a.Stored b.Stored ((chunk_segs (segs_api_Fate a) 4 1 rfl rfl)) ((chunk_segs (segs_api_Fate b) 4 1 rfl rfl))) ?_
  exact eqf_nil
theorem bl139_  (w : World) : (Instr.build 139 ([] : List (Nat × Value)).toArray).run Try.prog w = .ok (aggV [Seg.cell (.slice none 0 0) (by rfl), Seg.cell (.slice none 0 0) (by rfl), Seg.cell (.int .i64 (0 : Int)), Seg.cell (.bool false), Seg.cell (.bool false), Seg.cell (.int .i64 (0 : Int)), Seg.cell (.int .i64 (0 : Int))]) w := by kernel_rfl
theorem ag5 : aggB Try.prog 5 = some false := by kernel_rfl
theorem cal109 : calB Try.prog 109 = some true := by kernel_rfl
theorem cal99 : calB Try.prog 99 = some true := by kernel_rfl
theorem bl142_0_1 (x0 : Int) (x1 : Int) (w : World) : (Instr.build 142 ([(0, .int .u64 x0), (1, .int .u64 x1)] : List (Nat × Value)).toArray).run Try.prog w = .ok (aggV [Seg.cell (.int .u64 x0), Seg.cell (.int .u64 x1), Seg.cell (.int .u64 (0 : Int)), Seg.cell (.bool false)]) w := by kernel_rfl
theorem sz135 : szB Try.prog 135 = some 1 := by kernel_rfl
theorem cal101 : calB Try.prog 101 = some true := by kernel_rfl
theorem cal102 : calB Try.prog 102 = some true := by kernel_rfl
theorem cal103 : calB Try.prog 103 = some true := by kernel_rfl
theorem cal53 : calB Try.prog 53 = some true := by kernel_rfl
theorem cal54 : calB Try.prog 54 = some true := by kernel_rfl
theorem cal55 : calB Try.prog 55 = some true := by kernel_rfl
theorem cal52 : calB Try.prog 52 = some true := by kernel_rfl
theorem cal56 : calB Try.prog 56 = some true := by kernel_rfl
theorem cal57 : calB Try.prog 57 = some true := by kernel_rfl
theorem sz85 : szB Try.prog 85 = some 8 := by kernel_rfl
theorem fl85_3 : fldB Try.prog 85 3 = some 3 := by kernel_rfl
theorem ag43 : aggB Try.prog 43 = some false := by kernel_rfl
theorem fl85_4 : fldB Try.prog 85 4 = some 4 := by kernel_rfl
theorem cal58 : calB Try.prog 58 = some true := by kernel_rfl
theorem ag85 : aggB Try.prog 85 = some true := by kernel_rfl
theorem ze85 : (Try.prog.info? 85).map (·.zero) = some (some (aggV [Seg.cell (.int .i64 (0 : Int)), Seg.cell (.int .i64 (0 : Int)), Seg.cell (.int .i64 (0 : Int)), Seg.cell (.slice none 0 0) (by rfl), Seg.cell (.int .i64 (0 : Int)), Seg.cell (.int .i64 (0 : Int)), Seg.cell (.int .u64 (0 : Int)), Seg.cell (.slice none 0 0) (by rfl)])) := by kernel_rfl
theorem fl85_0 : fldB Try.prog 85 0 = some 0 := by kernel_rfl
theorem fl85_1 : fldB Try.prog 85 1 = some 1 := by kernel_rfl
theorem cal129 : calB Try.prog 129 = some true := by kernel_rfl
theorem cal105 : calB Try.prog 105 = some true := by kernel_rfl
theorem fl85_2 : fldB Try.prog 85 2 = some 2 := by kernel_rfl
theorem cal106 : calB Try.prog 106 = some true := by kernel_rfl
theorem cal137 : calB Try.prog 137 = some true := by kernel_rfl
theorem cal117 : calB Try.prog 117 = some true := by kernel_rfl
theorem cal107 : calB Try.prog 107 = some true := by kernel_rfl
theorem cal59 : calB Try.prog 59 = some true := by kernel_rfl
theorem sz43 : szB Try.prog 43 = some 1 := by kernel_rfl
theorem ze205 : (Try.prog.info? 205).map (·.zero) = some (some (aggV [Kd.seg (kA 16 (kI .u32)) (Arr.rep 16 (0 : Int))])) := by kernel_rfl
theorem cal156 : calB Try.prog 156 = some true := by kernel_rfl
theorem sz191 : szB Try.prog 191 = some 1 := by kernel_rfl
theorem ag205 : aggB Try.prog 205 = some true := by kernel_rfl
theorem sz205 : szB Try.prog 205 = some 16 := by kernel_rfl
theorem cal154 : calB Try.prog 154 = some true := by kernel_rfl
theorem ag191 : aggB Try.prog 191 = some false := by kernel_rfl
theorem cal155 : calB Try.prog 155 = some true := by kernel_rfl
theorem cal147 : calB Try.prog 147 = some true := by kernel_rfl
theorem cal153 : calB Try.prog 153 = some true := by kernel_rfl
theorem cal148 : calB Try.prog 148 = some true := by kernel_rfl
end Go.Proofs.Ytklhbaghbmndeaa

/- rickyard/pmem.New: its model, and that the Go function computes it: written by gen.py. -/
set_option linter.unusedVariables false
namespace Go.Proofs.Ytklhbaghbmndeaa
open Go Go.Xw
def pmem_New.f (fu : Nat) (a0 : Int) : Option ((Option S_pmem_Device) × Int) := (if (if (decide (a0 < 0)) = true then true else (decide (a0 > 4096))) = true then some (none, 2) else (if 0 ≤ (IntKind.i64.wrap (a0 * 8)) ∧ Int.toNat (IntKind.i64.wrap (a0 * 8)) ≤ LIM then some ((some (⟨(List.replicate (Int.toNat (IntKind.i64.wrap (a0 * 8))) (⟨(0 : Int), (0 : Int), (0 : Int), false⟩ : S_pmem_cell)), (⟨[], (0 : Int)⟩ : S_pmem_plan), false, false, (0 : Int), (0 : Int)⟩ : S_pmem_Device)), 0) else none))
set_option maxRecDepth 100000 in
set_option maxHeartbeats 400000 in
theorem pmem_New.ok (fu : Nat) (w : World) (a0 : Int) (r : (Option S_pmem_Device) × Int) (h : pmem_New.f fu a0 = some r) :
  Calls Try.prog 26 (([.int .i64 a0] : List Value).toArray) w (fun e w' => ∃ v, e = .returned v ∧ ∃ u1 : Value, ∃ p2 : (r.1 = none → u1 = .pointer none) ∧ ∀ m9, r.1 = some m9 → ∃ G9 : Nat, ∃ U0 : Value, ∃ U1 : Value, ∃ O0 : Own k_pmem_cell 142 w' w.heap.size U0 m9.cells, ∃ O1 : Own (kI .i64) 3 w' w.heap.size U1 m9.plan.list, u1 = .pointer (some ⟨G9, 0, none⟩) ∧ w.heap.size ≤ G9 ∧ Blk w' G9 139 [Seg.cell U0 O0.one, Seg.cell U1 O1.one, Seg.cell (.int .i64 m9.plan.at_), Seg.cell (.bool m9.off), Seg.cell (.bool m9.armed), Seg.cell (.int .i64 m9.left), Seg.cell (.int .i64 m9.steps)], v = .tuple #[u1, .int .i64 r.2] ∧ Gr w w') := by
 unfold pmem_New.f at h
 have fB : Gr w w := Fr.refl _ _
 refine calls_cw Try.func26 rfl Try.ntmps26 rfl ?_
 refine cw_seq ?_
 refine cw_region ?_
 refine ol_val (v := .pointer none) (by exact xr_assign rfl rfl) rfl rfl rfl ?_
 refine ol_val (v := .int .i64 0) (by exact xr_assign rfl rfl) rfl rfl rfl ?_
 refine ol_nil ?_
 refine cw_seq ?_
 refine cw_seq ?_
 refine cw_mid (fun ρ' w' => ρ' 0 = .int .i64 a0 ∧ ρ' 9 = .bool (if (decide (a0 < 0)) = true then true else (decide (a0 > 4096))) ∧ w = w') ?_ ?_
 ·skip
  refine cw_region ?_
  refine ol_val (v := .int .i64 a0) (by exact xr_move rfl rfl) rfl rfl rfl ?_
  refine ol_val (v := .bool (decide (a0 < 0))) (by exact xr_lss rfl rfl rfl) rfl rfl rfl ?_
  refine ol_val (v := .bool (decide (a0 < 0))) (by exact xr_move rfl rfl) rfl rfl rfl ?_
  rcases bt (decide (a0 < 0)) with c3 | c3
  ·skip
   refine ol_gskip rfl rfl rfl rfl rfl c3 ?_
   refine ol_gskip rfl rfl rfl rfl rfl c3 ?_
   refine ol_val (v := .bool true) (by exact xr_pickT rfl rfl c3 rfl) rfl rfl rfl ?_
   refine ol_nil ?_
   refine thn_i ?_
   exact ⟨rfl, (rfl).trans (congrArg (fun z => (.bool z : Value)) (show true = (if (decide (a0 < 0)) = true then true else (decide (a0 > 4096))) from by rw [ite_t c3])), rfl⟩
  refine ol_gval (v := .int .i64 a0) (by exact xr_move rfl rfl) rfl rfl rfl rfl rfl c3 ?_
  refine ol_gval (v := .bool (decide (a0 > 4096))) (by exact xr_gtr rfl rfl rfl) rfl rfl rfl rfl rfl c3 ?_
  refine ol_val (v := .bool (decide (a0 > 4096))) (by exact xr_pickF rfl rfl c3 rfl) rfl rfl rfl ?_
  refine ol_nil ?_
  refine thn_i ?_
  exact ⟨rfl, (rfl).trans (congrArg (fun z => (.bool z : Value)) (show (decide (a0 > 4096)) = (if (decide (a0 < 0)) = true then true else (decide (a0 > 4096))) from by rw [ite_f c3])), rfl⟩
 rintro ρ4 _ ⟨e0, e9, rfl⟩
 rcases is h with ⟨c5, h⟩ | ⟨c5, h⟩
 ·refine cw_condT e9 c5 ?_
  refine cw_seq ?_
  refine cw_region ?_
  refine ol_val (v := .pointer none) (by exact xr_assign rfl rfl) rfl rfl rfl ?_
  refine ol_val (v := .int .i64 2) (by exact xr_assign rfl rfl) rfl rfl rfl ?_
  refine ol_nil ?_
  refine cw_ret ?_
  repeat (first | with_reducible refine thn_r ?_ | with_reducible refine blk_r ?_)
  obtain rfl := Option.some.inj h
  refine fin_ret2 Try.results26 rfl rfl ?_
  exact ⟨_, rfl, (.pointer none), ⟨(fun _ => rfl), (fun _ e => by cases e)⟩, rfl, fB⟩
 refine cw_condF e9 c5 ?_
 refine cw_skip ?_
 refine cw_seq ?_
 refine cw_region ?_
 refine ol_val (v := .int .i64 a0) (by exact xr_move rfl e0) rfl rfl rfl ?_
 refine ol_val (v := .int .i64 (IntKind.i64.wrap (a0 * 8))) (by exact xr_mul rfl rfl rfl) rfl rfl rfl ?_
 obtain ⟨g6, h⟩ := gs h
 refine ol_op (by exact opv_make (K := k_pmem_cell) (z := (⟨(0 : Int), (0 : Int), (0 : Int), false⟩ : S_pmem_cell)) rfl Try.underlying135 el142 rfl rfl rfl g6.1 g6.2 rfl fB.size) rfl rfl rfl ?_
 rintro v7 w12 ⟨o9, q8, z10⟩
 have fB := fB.gr q8
 refine ol_val (v := aggV [Seg.cell v7 o9.one, Seg.cell (.slice none 0 0) (by rfl), Seg.cell (.int .i64 (0 : Int)), Seg.cell (.bool false), Seg.cell (.bool false), Seg.cell (.int .i64 (0 : Int)), Seg.cell (.int .i64 (0 : Int))]) (by exact xr_buildS (vals := [(0, v7)]) (res := [Seg.cell v7 o9.one, Seg.cell (.slice none 0 0) (by rfl), Seg.cell (.int .i64 (0 : Int)), Seg.cell (.bool false), Seg.cell (.bool false), Seg.cell (.int .i64 (0 : Int)), Seg.cell (.int .i64 (0 : Int))]) rfl ⟨rfl, rfl, trivial⟩ Try.underlying139 ze139 pl139 (fl_cons (xs := cellsOf [Seg.cell v7 o9.one]) (cs' := cellsOf [Seg.cell v7 o9.one, Seg.cell (.slice none 0 0) (by rfl), Seg.cell (.int .i64 (0 : Int)), Seg.cell (.bool false), Seg.cell (.bool false), Seg.cell (.int .i64 (0 : Int)), Seg.cell (.int .i64 (0 : Int))]) rfl (cells_one o9.one) (len_cellsOf _) (Spl.segs [Seg.cell (.slice none 0 0) (by rfl), Seg.cell (.slice none 0 0) (by rfl), Seg.cell (.int .i64 (0 : Int)), Seg.cell (.bool false), Seg.cell (.bool false), Seg.cell (.int .i64 (0 : Int)), Seg.cell (.int .i64 (0 : Int))] 0 1 [Seg.cell v7 o9.one] rfl rfl) fl_nil)) rfl rfl rfl ?_
 refine ol_op (by exact opv_box (ss := [Seg.cell v7 o9.one, Seg.cell (.slice none 0 0) (by rfl), Seg.cell (.int .i64 (0 : Int)), Seg.cell (.bool false), Seg.cell (.bool false), Seg.cell (.int .i64 (0 : Int)), Seg.cell (.int .i64 (0 : Int))]) rfl rfl rfl) rfl rfl rfl ?_
 rintro _ w18 ⟨G13, rfl, b14, q15, z16⟩
 have z16 := Nat.le_trans fB.size z16
 have o9 := o9.gr q15
 have fB := fB.gr q15
 refine ol_val (v := .pointer (some ⟨G13, 0, none⟩)) (by exact xr_assign rfl rfl) rfl rfl rfl ?_
 refine ol_val (v := .int .i64 0) (by exact xr_assign rfl rfl) rfl rfl rfl ?_
 refine ol_nil ?_
 refine cw_ret ?_
 repeat (first | with_reducible refine thn_r ?_ | with_reducible refine blk_r ?_)
 obtain rfl := Option.some.inj h
 refine fin_ret2 Try.results26 rfl rfl ?_
 exact ⟨_, rfl, (.pointer (some ⟨G13, 0, none⟩)), ⟨(fun e => by cases e), (fun _ e => by obtain rfl := Option.some.inj e; exact ⟨G13, v7, (.slice none 0 0), o9, Own.nil _ _ _ _, rfl, z16, b14⟩)⟩, rfl, fB⟩
end Go.Proofs.Ytklhbaghbmndeaa

/- rickyard/rickyardref01.Rest: its model, and that the Go function computes it: written by gen.py. -/
set_option linter.unusedVariables false
namespace Go.Proofs.Ytklhbaghbmndeaa
open Go Go.Xw
def rickyardref01_Rest.f (fu : Nat) (a0 : Int) (a1 : Int) : Option Int := (if a1 ≠ 0 then (if a1 ≠ 0 then some ((Int.tmod (IntKind.i64.wrap ((Int.tmod a0 a1) + a1)) a1)) else none) else none)
set_option maxRecDepth 100000 in
set_option maxHeartbeats 400000 in
theorem rickyardref01_Rest.ok (fu : Nat) (w : World) (a0 : Int) (a1 : Int) (r : Int) (h : rickyardref01_Rest.f fu a0 a1 = some r) :
  Calls Try.prog 27 (([.int .i64 a0, .int .i64 a1] : List Value).toArray) w (fun e w' => ∃ v, e = .returned v ∧ v = .int .i64 r ∧ Gr w w') := by
 unfold rickyardref01_Rest.f at h
 have fB : Gr w w := Fr.refl _ _
 refine calls_cw Try.func27 rfl Try.ntmps27 rfl ?_
 refine cw_seq ?_
 refine cw_region ?_
 refine ol_val (v := .int .i64 0) (by exact xr_assign rfl rfl) rfl rfl rfl ?_
 refine ol_nil ?_
 refine cw_seq ?_
 refine cw_region ?_
 refine ol_val (v := .int .i64 a0) (by exact xr_move rfl rfl) rfl rfl rfl ?_
 refine ol_val (v := .int .i64 a1) (by exact xr_move rfl rfl) rfl rfl rfl ?_
 obtain ⟨g1, h⟩ := gs h
 refine ol_val (v := .int .i64 (Int.tmod a0 a1)) (by exact xr_rem rfl rfl rfl g1) rfl rfl rfl ?_
 refine ol_val (v := .int .i64 a1) (by exact xr_move rfl rfl) rfl rfl rfl ?_
 refine ol_val (v := .int .i64 (IntKind.i64.wrap ((Int.tmod a0 a1) + a1))) (by exact xr_add rfl rfl rfl) rfl rfl rfl ?_
 refine ol_val (v := .int .i64 a1) (by exact xr_move rfl rfl) rfl rfl rfl ?_
 obtain ⟨g2, h⟩ := gs h
 refine ol_val (v := .int .i64 (Int.tmod (IntKind.i64.wrap ((Int.tmod a0 a1) + a1)) a1)) (by exact xr_rem rfl rfl rfl g2) rfl rfl rfl ?_
 refine ol_val (v := .int .i64 (Int.tmod (IntKind.i64.wrap ((Int.tmod a0 a1) + a1)) a1)) (by exact xr_assign rfl rfl) rfl rfl rfl ?_
 refine ol_nil ?_
 refine cw_ret ?_
 repeat (first | with_reducible refine thn_r ?_ | with_reducible refine blk_r ?_)
 obtain rfl := Option.some.inj h
 refine fin_ret1 Try.results27 rfl ?_
 exact ⟨_, rfl, rfl, fB⟩
end Go.Proofs.Ytklhbaghbmndeaa

/- (*rickyard/pmem.cell).keep: its model, and that the Go function computes it: written by gen.py. -/
set_option linter.unusedVariables false
namespace Go.Proofs.Ytklhbaghbmndeaa
open Go Go.Xw
def pmem_cell_keep__i0.f (fu : Nat) (a0 : S_pmem_cell) (a1 : Int) : Option S_pmem_cell := some ((⟨a1, a0.stored, 0, false⟩ : S_pmem_cell))
set_option maxRecDepth 100000 in
set_option maxHeartbeats 400000 in
theorem pmem_cell_keep__i0.ok (fu : Nat) (w : World) (a0 : S_pmem_cell) (G_0 : Nat) (T_0 : TypeId) (X_0 Y_0 : List Value) (b_0 : SubB w G_0 T_0 X_0 [Seg.cell (.int .u64 a0.lasts), Seg.cell (.int .u64 a0.stored), Seg.cell (.int .u64 a0.sent), Seg.cell (.bool a0.flushed)] Y_0) (a1 : Int) (r : S_pmem_cell) (h : pmem_cell_keep__i0.f fu a0 a1 = some r) :
  Calls Try.prog 85 (([.pointer (some ⟨G_0, List.length X_0, none⟩), .int .u64 a1] : List Value).toArray) w (fun e w' => ∃ v, e = .returned v ∧ v = .tuple #[] ∧ SubB w' G_0 T_0 X_0 [Seg.cell (.int .u64 r.lasts), Seg.cell (.int .u64 r.stored), Seg.cell (.int .u64 r.sent), Seg.cell (.bool r.flushed)] Y_0 ∧ Fr (fun j => j = G_0) w w') := by
 unfold pmem_cell_keep__i0.f at h
 have fB : Fr (fun j => j = G_0) w w := Fr.refl _ _
 refine calls_cw Try.func85 rfl Try.ntmps85 rfl ?_
 refine cw_seq ?_
 refine cw_region ?_
 refine ol_val (v := .pointer (some ⟨G_0, List.length X_0, none⟩)) (by exact xr_move rfl rfl) rfl rfl rfl ?_
 refine ol_val (v := .int .u64 a1) (by exact xr_move rfl rfl) rfl rfl rfl ?_
 refine ol_val (v := .pointer (some ⟨G_0, List.length X_0, none⟩)) (by exact xr_nilCheck rfl rfl) rfl rfl rfl ?_
 refine ol_val (v := .pointer (some ⟨G_0, List.length X_0 + 0, none⟩)) (by exact xr_fieldAddr (p := List.length X_0) (q := 0) rfl fl142_0 rfl) rfl rfl rfl ?_
 refine ol_op0 (by exact opv_storeSub (ss' := [Seg.cell (.int .u64 a1), Seg.cell (.int .u64 a0.stored), Seg.cell (.int .u64 a0.sent), Seg.cell (.bool a0.flushed)]) (xs := cellsOf [Seg.cell (.int .u64 a1)]) rfl sz22 rfl rfl rfl (len_cellsOf _) (one_cellsOf _) b_0 (Spl.segs _ 0 1 [Seg.cell (.int .u64 a1)] rfl rfl)) rfl rfl ?_
 rintro _ w2 ⟨b_0, q1⟩
 have fB := fB.wrS q1 rfl
 refine ol_nil ?_
 refine cw_region ?_
 refine ol_val (v := .pointer (some ⟨G_0, List.length X_0, none⟩)) (by exact xr_move rfl rfl) rfl rfl rfl ?_
 refine ol_val (v := .pointer (some ⟨G_0, List.length X_0, none⟩)) (by exact xr_move rfl rfl) rfl rfl rfl ?_
 refine ol_val (v := .pointer (some ⟨G_0, List.length X_0, none⟩)) (by exact xr_nilCheck rfl rfl) rfl rfl rfl ?_
 refine ol_val (v := .pointer (some ⟨G_0, List.length X_0 + 2, none⟩)) (by exact xr_fieldAddr (p := List.length X_0) (q := 2) rfl fl142_2 rfl) rfl rfl rfl ?_
 refine ol_op0 (by exact opv_storeSub (ss' := [Seg.cell (.int .u64 a1), Seg.cell (.int .u64 a0.stored), Seg.cell (.int .u64 0), Seg.cell (.bool a0.flushed)]) (xs := cellsOf [Seg.cell (.int .u64 0)]) rfl sz22 rfl rfl rfl (len_cellsOf _) (one_cellsOf _) b_0 (Spl.segs _ 2 1 [Seg.cell (.int .u64 0)] rfl rfl)) rfl rfl ?_
 rintro _ w4 ⟨b_0, q3⟩
 have fB := fB.wrS q3 rfl
 refine ol_val (v := .pointer (some ⟨G_0, List.length X_0, none⟩)) (by exact xr_nilCheck rfl rfl) rfl rfl rfl ?_
 refine ol_val (v := .pointer (some ⟨G_0, List.length X_0 + 3, none⟩)) (by exact xr_fieldAddr (p := List.length X_0) (q := 3) rfl fl142_3 rfl) rfl rfl rfl ?_
 refine ol_op0 (by exact opv_storeSub (ss' := [Seg.cell (.int .u64 a1), Seg.cell (.int .u64 a0.stored), Seg.cell (.int .u64 0), Seg.cell (.bool false)]) (xs := cellsOf [Seg.cell (.bool false)]) rfl sz4 rfl rfl rfl (len_cellsOf _) (one_cellsOf _) b_0 (Spl.segs _ 3 1 [Seg.cell (.bool false)] rfl rfl)) rfl rfl ?_
 rintro _ w6 ⟨b_0, q5⟩
 have fB := fB.wrS q5 rfl
 refine ol_nil ?_
 obtain rfl := Option.some.inj h
 refine fin_end0 Try.results85 ?_
 exact ⟨_, rfl, rfl, b_0, fB⟩
end Go.Proofs.Ytklhbaghbmndeaa

/- (*rickyard/pmem.cell).open: its model, and that the Go function computes it: written by gen.py. -/
set_option linter.unusedVariables false
namespace Go.Proofs.Ytklhbaghbmndeaa
open Go Go.Xw
def pmem_cell_open__r0.f (fu : Nat) (a0 : S_pmem_cell) : Option Bool := some ((if a0.flushed = true then true else (!decide (a0.stored = a0.lasts))))
set_option maxRecDepth 100000 in
set_option maxHeartbeats 400000 in
theorem pmem_cell_open__r0.ok (fu : Nat) (w : World) (a0 : S_pmem_cell) (G_0 p_0 : Nat) (A_0 : At w G_0 p_0 (cellsOf [Seg.cell (.int .u64 a0.lasts), Seg.cell (.int .u64 a0.stored), Seg.cell (.int .u64 a0.sent), Seg.cell (.bool a0.flushed)])) (r : Bool) (h : pmem_cell_open__r0.f fu a0 = some r) :
  Calls Try.prog 86 (([.pointer (some ⟨G_0, p_0, none⟩)] : List Value).toArray) w (fun e w' => ∃ v, e = .returned v ∧ v = .bool r ∧ Gr w w') := by
 unfold pmem_cell_open__r0.f at h
 have fB : Gr w w := Fr.refl _ _
 refine calls_cw Try.func86 rfl Try.ntmps86 rfl ?_
 refine cw_seq ?_
 refine cw_region ?_
 refine ol_val (v := .bool false) (by exact xr_assign rfl rfl) rfl rfl rfl ?_
 refine ol_nil ?_
 refine cw_seq ?_
 refine cw_mid (fun ρ' w' => ρ' 2 = .bool (if a0.flushed = true then true else (!decide (a0.stored = a0.lasts))) ∧ Gr w w') ?_ ?_
 ·skip
  rcases bt a0.flushed with c1 | c1
  ·skip
   refine cw_drawL 14 [fun vz wz => vz = (.pointer (some ⟨G_0, p_0, none⟩) : Value), fun vz wz => vz = (.pointer (some ⟨G_0, p_0, none⟩) : Value), fun vz wz => vz = (.pointer (some ⟨G_0, p_0 + 3, none⟩) : Value), fun vz wz => vz = (.bool a0.flushed : Value), fun vz wz => vz = (.bool a0.flushed : Value), fun vz _ => vz = undef, fun vz _ => vz = undef, fun vz _ => vz = undef, fun vz _ => vz = undef, fun vz _ => vz = undef, fun vz _ => vz = undef, fun vz _ => vz = undef, fun vz _ => vz = undef, fun vz _ => vz = undef] mo rfl ⟨fun _ _ _ h _ => h, fun _ _ _ h _ => h, fun _ _ _ h _ => h, fun _ _ _ h _ => h, fun _ _ _ h _ => h, fun _ _ _ h _ => h, fun _ _ _ h _ => h, fun _ _ _ h _ => h, fun _ _ _ h _ => h, fun _ _ _ h _ => h, fun _ _ _ h _ => h, fun _ _ _ h _ => h, fun _ _ _ h _ => h, fun _ _ _ h _ => h, trivial⟩ ?_ ?_
   ·refine ⟨?_, ?_, ?_, ?_, ?_, ?_, ?_, ?_, ?_, ?_, ?_, ?_, ?_, ?_, trivial⟩
    ·intro ρz wz hz hk hd
     exact sk_val (v := .pointer (some ⟨G_0, p_0, none⟩)) (by exact xr_move rfl ((hk 0 rfl).trans rfl)) rfl rfl
    ·intro ρz wz hz hk hd
     have d3 := hd 0 rfl 3 rfl
     exact sk_val (v := .pointer (some ⟨G_0, p_0, none⟩)) (by exact xr_nilCheck rfl d3) rfl rfl
    ·intro ρz wz hz hk hd
     have d4 := hd 1 rfl 4 rfl
     exact sk_val (v := .pointer (some ⟨G_0, p_0 + 3, none⟩)) (by exact xr_fieldAddr (p := p_0) (q := 3) rfl fl142_3 d4) rfl rfl
    ·intro ρz wz hz hk hd
     have d5 := hd 2 rfl 5 rfl
     exact sk_val (v := .bool a0.flushed) (by exact xr_load1 (v := .bool a0.flushed) rfl ag4 d5 (At.segs (ss := [Seg.cell (.int .u64 a0.lasts), Seg.cell (.int .u64 a0.stored), Seg.cell (.int .u64 a0.sent), Seg.cell (.bool a0.flushed)]) (At.gr A_0 (fB.gr hz)) 3 1 rfl)) rfl rfl
    ·intro ρz wz hz hk hd
     have d6 := hd 3 rfl 6 rfl
     exact sk_val (v := .bool a0.flushed) (by exact xr_move rfl d6) rfl rfl
    ·intro ρz wz hz hk hd
     have d7 := hd 4 rfl 7 rfl
     exact sk_skip rfl rfl d7 c1 rfl
    ·intro ρz wz hz hk hd
     have d7 := hd 4 rfl 7 rfl
     exact sk_skip rfl rfl d7 c1 rfl
    ·intro ρz wz hz hk hd
     have d7 := hd 4 rfl 7 rfl
     exact sk_skip rfl rfl d7 c1 rfl
    ·intro ρz wz hz hk hd
     have d7 := hd 4 rfl 7 rfl
     exact sk_skip rfl rfl d7 c1 rfl
    ·intro ρz wz hz hk hd
     have d7 := hd 4 rfl 7 rfl
     exact sk_skip rfl rfl d7 c1 rfl
    ·intro ρz wz hz hk hd
     have d7 := hd 4 rfl 7 rfl
     exact sk_skip rfl rfl d7 c1 rfl
    ·intro ρz wz hz hk hd
     have d7 := hd 4 rfl 7 rfl
     exact sk_skip rfl rfl d7 c1 rfl
    ·intro ρz wz hz hk hd
     have d7 := hd 4 rfl 7 rfl
     exact sk_skip rfl rfl d7 c1 rfl
    intro ρz wz hz hk hd
    have d7 := hd 4 rfl 7 rfl
    exact sk_skip rfl rfl d7 c1 rfl
   intro ρ2 w3 q4 hk hd
   have e7 := hd 4 rfl 7 rfl
   have fB := fB.gr q4
   refine ol_val (v := .bool true) (by exact xr_pickT rfl e7 c1 rfl) rfl rfl rfl ?_
   refine ol_val (v := .bool true) (by exact xr_assign rfl rfl) rfl rfl rfl ?_
   refine ol_nil ?_
   refine thn_i ?_
   exact ⟨(rfl).trans (congrArg (fun z => (.bool z : Value)) (show true = (if a0.flushed = true then true else (!decide (a0.stored = a0.lasts))) from by rw [ite_t c1])), q4⟩
  refine cw_drawL 14 [fun vz wz => vz = (.pointer (some ⟨G_0, p_0, none⟩) : Value), fun vz wz => vz = (.pointer (some ⟨G_0, p_0, none⟩) : Value), fun vz wz => vz = (.pointer (some ⟨G_0, p_0 + 3, none⟩) : Value), fun vz wz => vz = (.bool a0.flushed : Value), fun vz wz => vz = (.bool a0.flushed : Value), fun vz wz => vz = (.pointer (some ⟨G_0, p_0, none⟩) : Value), fun vz wz => vz = (.pointer (some ⟨G_0, p_0, none⟩) : Value), fun vz wz => vz = (.pointer (some ⟨G_0, p_0 + 1, none⟩) : Value), fun vz wz => vz = (.int .u64 a0.stored : Value), fun vz wz => vz = (.pointer (some ⟨G_0, p_0, none⟩) : Value), fun vz wz => vz = (.pointer (some ⟨G_0, p_0, none⟩) : Value), fun vz wz => vz = (.pointer (some ⟨G_0, p_0 + 0, none⟩) : Value), fun vz wz => vz = (.int .u64 a0.lasts : Value), fun vz wz => vz = (.bool (!decide (a0.stored = a0.lasts)) : Value)] mo rfl ⟨fun _ _ _ h _ => h, fun _ _ _ h _ => h, fun _ _ _ h _ => h, fun _ _ _ h _ => h, fun _ _ _ h _ => h, fun _ _ _ h _ => h, fun _ _ _ h _ => h, fun _ _ _ h _ => h, fun _ _ _ h _ => h, fun _ _ _ h _ => h, fun _ _ _ h _ => h, fun _ _ _ h _ => h, fun _ _ _ h _ => h, fun _ _ _ h _ => h, trivial⟩ ?_ ?_
  ·refine ⟨?_, ?_, ?_, ?_, ?_, ?_, ?_, ?_, ?_, ?_, ?_, ?_, ?_, ?_, trivial⟩
   ·intro ρz wz hz hk hd
    exact sk_val (v := .pointer (some ⟨G_0, p_0, none⟩)) (by exact xr_move rfl ((hk 0 rfl).trans rfl)) rfl rfl
   ·intro ρz wz hz hk hd
    have d3 := hd 0 rfl 3 rfl
    exact sk_val (v := .pointer (some ⟨G_0, p_0, none⟩)) (by exact xr_nilCheck rfl d3) rfl rfl
   ·intro ρz wz hz hk hd
    have d4 := hd 1 rfl 4 rfl
    exact sk_val (v := .pointer (some ⟨G_0, p_0 + 3, none⟩)) (by exact xr_fieldAddr (p := p_0) (q := 3) rfl fl142_3 d4) rfl rfl
   ·intro ρz wz hz hk hd
    have d5 := hd 2 rfl 5 rfl
    exact sk_val (v := .bool a0.flushed) (by exact xr_load1 (v := .bool a0.flushed) rfl ag4 d5 (At.segs (ss := [Seg.cell (.int .u64 a0.lasts), Seg.cell (.int .u64 a0.stored), Seg.cell (.int .u64 a0.sent), Seg.cell (.bool a0.flushed)]) (At.gr A_0 (fB.gr hz)) 3 1 rfl)) rfl rfl
   ·intro ρz wz hz hk hd
    have d6 := hd 3 rfl 6 rfl
    exact sk_val (v := .bool a0.flushed) (by exact xr_move rfl d6) rfl rfl
   ·intro ρz wz hz hk hd
    have d7 := hd 4 rfl 7 rfl
    exact sk_gval (v := .pointer (some ⟨G_0, p_0, none⟩)) (by exact xr_move rfl ((hk 0 rfl).trans rfl)) rfl rfl d7 c1 rfl
   ·intro ρz wz hz hk hd
    have d8 := hd 5 rfl 8 rfl
    have d7 := hd 4 rfl 7 rfl
    exact sk_gval (v := .pointer (some ⟨G_0, p_0, none⟩)) (by exact xr_nilCheck rfl d8) rfl rfl d7 c1 rfl
   ·intro ρz wz hz hk hd
    have d9 := hd 6 rfl 9 rfl
    have d7 := hd 4 rfl 7 rfl
    exact sk_gval (v := .pointer (some ⟨G_0, p_0 + 1, none⟩)) (by exact xr_fieldAddr (p := p_0) (q := 1) rfl fl142_1 d9) rfl rfl d7 c1 rfl
   ·intro ρz wz hz hk hd
    have d10 := hd 7 rfl 10 rfl
    have d7 := hd 4 rfl 7 rfl
    exact sk_gval (v := .int .u64 a0.stored) (by exact xr_load1 (v := .int .u64 a0.stored) rfl ag22 d10 (At.segs (ss := [Seg.cell (.int .u64 a0.lasts), Seg.cell (.int .u64 a0.stored), Seg.cell (.int .u64 a0.sent), Seg.cell (.bool a0.flushed)]) (At.gr A_0 (fB.gr hz)) 1 1 rfl)) rfl rfl d7 c1 rfl
   ·intro ρz wz hz hk hd
    have d7 := hd 4 rfl 7 rfl
    exact sk_gval (v := .pointer (some ⟨G_0, p_0, none⟩)) (by exact xr_move rfl ((hk 0 rfl).trans rfl)) rfl rfl d7 c1 rfl
   ·intro ρz wz hz hk hd
    have d12 := hd 9 rfl 12 rfl
    have d7 := hd 4 rfl 7 rfl
    exact sk_gval (v := .pointer (some ⟨G_0, p_0, none⟩)) (by exact xr_nilCheck rfl d12) rfl rfl d7 c1 rfl
   ·intro ρz wz hz hk hd
    have d13 := hd 10 rfl 13 rfl
    have d7 := hd 4 rfl 7 rfl
    exact sk_gval (v := .pointer (some ⟨G_0, p_0 + 0, none⟩)) (by exact xr_fieldAddr (p := p_0) (q := 0) rfl fl142_0 d13) rfl rfl d7 c1 rfl
   ·intro ρz wz hz hk hd
    have d14 := hd 11 rfl 14 rfl
    have d7 := hd 4 rfl 7 rfl
    exact sk_gval (v := .int .u64 a0.lasts) (by exact xr_load1 (v := .int .u64 a0.lasts) rfl ag22 d14 (At.segs (ss := [Seg.cell (.int .u64 a0.lasts), Seg.cell (.int .u64 a0.stored), Seg.cell (.int .u64 a0.sent), Seg.cell (.bool a0.flushed)]) (At.gr A_0 (fB.gr hz)) 0 1 rfl)) rfl rfl d7 c1 rfl
   intro ρz wz hz hk hd
   have d11 := hd 8 rfl 11 rfl
   have d15 := hd 12 rfl 15 rfl
   have d7 := hd 4 rfl 7 rfl
   exact sk_gval (v := .bool (!decide (a0.stored = a0.lasts))) (by exact xr_neI rfl Try.underlying22 rfl d11 d15) rfl rfl d7 c1 rfl
  intro ρ5 w6 q7 hk hd
  have e7 := hd 4 rfl 7 rfl
  have e16 := hd 13 rfl 16 rfl
  have fB := fB.gr q7
  refine ol_val (v := .bool (!decide (a0.stored = a0.lasts))) (by exact xr_pickF rfl e7 c1 e16) rfl rfl rfl ?_
  refine ol_val (v := .bool (!decide (a0.stored = a0.lasts))) (by exact xr_assign rfl rfl) rfl rfl rfl ?_
  refine ol_nil ?_
  refine thn_i ?_
  exact ⟨(rfl).trans (congrArg (fun z => (.bool z : Value)) (show (!decide (a0.stored = a0.lasts)) = (if a0.flushed = true then true else (!decide (a0.stored = a0.lasts))) from by rw [ite_f c1])), q7⟩
 rintro ρ8 w9 ⟨e2, q10⟩
 have fB := fB.gr q10
 refine cw_ret ?_
 repeat (first | with_reducible refine thn_r ?_ | with_reducible refine blk_r ?_)
 obtain rfl := Option.some.inj h
 refine fin_ret1 Try.results86 e2 ?_
 exact ⟨_, rfl, rfl, fB⟩
end Go.Proofs.Ytklhbaghbmndeaa

/- (*rickyard/pmem.cell).fate: its model, and that the Go function computes it: written by gen.py. -/
set_option linter.unusedVariables false
namespace Go.Proofs.Ytklhbaghbmndeaa
open Go Go.Xw
def pmem_cell_fate__r0.f (fu : Nat) (a0 : S_pmem_cell) (a1 : Int) : Option Int := (((if (decide ((Int.tmod a1 3) = 1)) = true then some ((decide ((Int.tmod a1 3) = 1))) else some ((decide ((Int.tmod a1 3) = (-2))))) : Option Bool).bind fun x1 => (((if x1 = true then (if a0.flushed = true then some (Sum.inl (a0.sent)) else some (Sum.inr ())) else (((if (decide ((Int.tmod a1 3) = 2)) = true then some ((decide ((Int.tmod a1 3) = 2))) else some ((decide ((Int.tmod a1 3) = (-1))))) : Option Bool).bind fun x13 => (if x13 = true then some (Sum.inl (a0.stored)) else some (Sum.inr ())))) : Option (Sum Int Unit)).bind fun x7 => match x7 with | Sum.inl p => some p | Sum.inr x10 => some (a0.lasts)))
set_option maxRecDepth 100000 in
set_option maxHeartbeats 400000 in
theorem pmem_cell_fate__r0.ok (fu : Nat) (w : World) (a0 : S_pmem_cell) (G_0 p_0 : Nat) (A_0 : At w G_0 p_0 (cellsOf [Seg.cell (.int .u64 a0.lasts), Seg.cell (.int .u64 a0.stored), Seg.cell (.int .u64 a0.sent), Seg.cell (.bool a0.flushed)])) (a1 : Int) (r : Int) (h : pmem_cell_fate__r0.f fu a0 a1 = some r) :
  Calls Try.prog 87 (([.pointer (some ⟨G_0, p_0, none⟩), .int .i64 a1] : List Value).toArray) w (fun e w' => ∃ v, e = .returned v ∧ v = .int .u64 r ∧ Gr w w') := by
 unfold pmem_cell_fate__r0.f at h
 have fB : Gr w w := Fr.refl _ _
 refine calls_cw Try.func87 rfl Try.ntmps87 rfl ?_
 refine cw_seq ?_
 refine cw_region ?_
 refine ol_val (v := .int .u64 0) (by exact xr_assign rfl rfl) rfl rfl rfl ?_
 refine ol_nil ?_
 refine cw_seq ?_
 refine cw_seq ?_
 refine cw_region ?_
 refine ol_val (v := .int .i64 a1) (by exact xr_move rfl rfl) rfl rfl rfl ?_
 refine ol_val (v := .int .i64 (Int.tmod a1 3)) (by exact xr_rem rfl rfl rfl (by decide)) rfl rfl rfl ?_
 refine ol_nil ?_
 refine cw_block ?_
 refine cw_seq ?_
 refine cw_seq ?_
 refine cw_region ?_
 refine ol_val (v := .bool (decide ((Int.tmod a1 3) = 1))) (by exact xr_eqI rfl Try.underlying3 rfl rfl rfl) rfl rfl rfl ?_
 refine ol_val (v := .bool (decide ((Int.tmod a1 3) = 1))) (by exact xr_assign rfl rfl) rfl rfl rfl ?_
 refine ol_nil ?_
 obtain ⟨x1, j2, h3⟩ := bs h
 refine cw_mid (fun ρ' w' => ρ' 0 = .pointer (some ⟨G_0, p_0, none⟩) ∧ ρ' 6 = .int .i64 (Int.tmod a1 3) ∧ ρ' 7 = .bool x1 ∧ Gr w w') ?_ ?_
 ·have h := j2
  rcases is h with ⟨c4, h⟩ | ⟨c4, h⟩
  ·refine cw_condT rfl c4 ?_
   refine cw_skip ?_
   obtain rfl := Option.some.inj h
   refine thn_i ?_
   exact ⟨rfl, rfl, rfl, fB⟩
  refine cw_condF rfl c4 ?_
  refine cw_region ?_
  refine ol_val (v := .bool (decide ((Int.tmod a1 3) = (-2)))) (by exact xr_eqI rfl Try.underlying3 rfl rfl rfl) rfl rfl rfl ?_
  refine ol_val (v := .bool (decide ((Int.tmod a1 3) = (-2)))) (by exact xr_assign rfl rfl) rfl rfl rfl ?_
  refine ol_nil ?_
  obtain rfl := Option.some.inj h
  refine thn_i ?_
  exact ⟨rfl, rfl, rfl, fB⟩
 rintro ρ5 w6 ⟨e0, e6, e7, fB⟩
 have h := h3
 obtain ⟨x7, j8, h9⟩ := bs h
 refine cw_mid (fun ρ' w' => ∃ x10, x7 = Sum.inr x10 ∧ ρ' 0 = .pointer (some ⟨G_0, p_0, none⟩) ∧ Gr w w') ?_ ?_
 ·have h := j8
  rcases is h with ⟨c11, h⟩ | ⟨c11, h⟩
  ·refine cw_condT e7 c11 ?_
   refine cw_seq ?_
   refine cw_region ?_
   refine ol_val (v := .pointer (some ⟨G_0, p_0, none⟩)) (by exact xr_move rfl e0) rfl rfl rfl ?_
   refine ol_val (v := .pointer (some ⟨G_0, p_0, none⟩)) (by exact xr_nilCheck rfl rfl) rfl rfl rfl ?_
   refine ol_val (v := .pointer (some ⟨G_0, p_0 + 3, none⟩)) (by exact xr_fieldAddr (p := p_0) (q := 3) rfl fl142_3 rfl) rfl rfl rfl ?_
   refine ol_val (v := .bool a0.flushed) (by exact xr_load1 (v := .bool a0.flushed) rfl ag4 rfl (At.segs (ss := [Seg.cell (.int .u64 a0.lasts), Seg.cell (.int .u64 a0.stored), Seg.cell (.int .u64 a0.sent), Seg.cell (.bool a0.flushed)]) (At.gr A_0 fB) 3 1 rfl)) rfl rfl rfl ?_
   refine ol_nil ?_
   rcases is h with ⟨c12, h⟩ | ⟨c12, h⟩
   ·refine cw_condT rfl c12 ?_
    refine cw_seq ?_
    refine cw_region ?_
    refine ol_val (v := .pointer (some ⟨G_0, p_0, none⟩)) (by exact xr_move rfl e0) rfl rfl rfl ?_
    refine ol_val (v := .pointer (some ⟨G_0, p_0, none⟩)) (by exact xr_nilCheck rfl rfl) rfl rfl rfl ?_
    refine ol_val (v := .pointer (some ⟨G_0, p_0 + 2, none⟩)) (by exact xr_fieldAddr (p := p_0) (q := 2) rfl fl142_2 rfl) rfl rfl rfl ?_
    refine ol_val (v := .int .u64 a0.sent) (by exact xr_load1 (v := .int .u64 a0.sent) rfl ag22 rfl (At.segs (ss := [Seg.cell (.int .u64 a0.lasts), Seg.cell (.int .u64 a0.stored), Seg.cell (.int .u64 a0.sent), Seg.cell (.bool a0.flushed)]) (At.gr A_0 fB) 2 1 rfl)) rfl rfl rfl ?_
    refine ol_val (v := .int .u64 a0.sent) (by exact xr_assign rfl rfl) rfl rfl rfl ?_
    refine ol_nil ?_
    refine cw_ret ?_
    repeat (first | with_reducible refine thn_r ?_ | with_reducible refine blk_r ?_)
    obtain rfl := Option.some.inj h
    have h := h9
    obtain rfl := Option.some.inj h
    refine fin_ret1 Try.results87 rfl ?_
    exact ⟨_, rfl, rfl, fB⟩
   refine cw_condF rfl c12 ?_
   refine cw_skip ?_
   obtain rfl := Option.some.inj h
   refine thn_i ?_
   exact ⟨_, rfl, e0, fB⟩
  refine cw_condF e7 c11 ?_
  refine cw_seq ?_
  refine cw_seq ?_
  refine cw_region ?_
  refine ol_val (v := .bool (decide ((Int.tmod a1 3) = 2))) (by exact xr_eqI rfl Try.underlying3 rfl e6 rfl) rfl rfl rfl ?_
  refine ol_val (v := .bool (decide ((Int.tmod a1 3) = 2))) (by exact xr_assign rfl rfl) rfl rfl rfl ?_
  refine ol_nil ?_
  obtain ⟨x13, j14, h15⟩ := bs h
  refine cw_mid (fun ρ' w' => ρ' 0 = .pointer (some ⟨G_0, p_0, none⟩) ∧ ρ' 18 = .bool x13 ∧ Gr w w') ?_ ?_
  ·have h := j14
   rcases is h with ⟨c16, h⟩ | ⟨c16, h⟩
   ·refine cw_condT rfl c16 ?_
    refine cw_skip ?_
    obtain rfl := Option.some.inj h
    refine thn_i ?_
    exact ⟨e0, rfl, fB⟩
   refine cw_condF rfl c16 ?_
   refine cw_region ?_
   refine ol_val (v := .bool (decide ((Int.tmod a1 3) = (-1)))) (by exact xr_eqI rfl Try.underlying3 rfl e6 rfl) rfl rfl rfl ?_
   refine ol_val (v := .bool (decide ((Int.tmod a1 3) = (-1)))) (by exact xr_assign rfl rfl) rfl rfl rfl ?_
   refine ol_nil ?_
   obtain rfl := Option.some.inj h
   refine thn_i ?_
   exact ⟨e0, rfl, fB⟩
  rintro ρ17 w18 ⟨e0, e18, fB⟩
  have h := h15
  rcases is h with ⟨c19, h⟩ | ⟨c19, h⟩
  ·refine cw_condT e18 c19 ?_
   refine cw_seq ?_
   refine cw_region ?_
   refine ol_val (v := .pointer (some ⟨G_0, p_0, none⟩)) (by exact xr_move rfl e0) rfl rfl rfl ?_
   refine ol_val (v := .pointer (some ⟨G_0, p_0, none⟩)) (by exact xr_nilCheck rfl rfl) rfl rfl rfl ?_
   refine ol_val (v := .pointer (some ⟨G_0, p_0 + 1, none⟩)) (by exact xr_fieldAddr (p := p_0) (q := 1) rfl fl142_1 rfl) rfl rfl rfl ?_
   refine ol_val (v := .int .u64 a0.stored) (by exact xr_load1 (v := .int .u64 a0.stored) rfl ag22 rfl (At.segs (ss := [Seg.cell (.int .u64 a0.lasts), Seg.cell (.int .u64 a0.stored), Seg.cell (.int .u64 a0.sent), Seg.cell (.bool a0.flushed)]) (At.gr A_0 fB) 1 1 rfl)) rfl rfl rfl ?_
   refine ol_val (v := .int .u64 a0.stored) (by exact xr_assign rfl rfl) rfl rfl rfl ?_
   refine ol_nil ?_
   refine cw_ret ?_
   repeat (first | with_reducible refine thn_r ?_ | with_reducible refine blk_r ?_)
   obtain rfl := Option.some.inj h
   have h := h9
   obtain rfl := Option.some.inj h
   refine fin_ret1 Try.results87 rfl ?_
   exact ⟨_, rfl, rfl, fB⟩
  refine cw_condF e18 c19 ?_
  refine cw_skip ?_
  obtain rfl := Option.some.inj h
  refine thn_i ?_
  exact ⟨_, rfl, e0, fB⟩
 rintro ρ20 w21 ⟨x10, rfl, e0, fB⟩
 have h := h9
 refine blk_i ?_
 refine cw_seq ?_
 refine cw_region ?_
 refine ol_val (v := .pointer (some ⟨G_0, p_0, none⟩)) (by exact xr_move rfl e0) rfl rfl rfl ?_
 refine ol_val (v := .pointer (some ⟨G_0, p_0, none⟩)) (by exact xr_nilCheck rfl rfl) rfl rfl rfl ?_
 refine ol_val (v := .pointer (some ⟨G_0, p_0 + 0, none⟩)) (by exact xr_fieldAddr (p := p_0) (q := 0) rfl fl142_0 rfl) rfl rfl rfl ?_
 refine ol_val (v := .int .u64 a0.lasts) (by exact xr_load1 (v := .int .u64 a0.lasts) rfl ag22 rfl (At.segs (ss := [Seg.cell (.int .u64 a0.lasts), Seg.cell (.int .u64 a0.stored), Seg.cell (.int .u64 a0.sent), Seg.cell (.bool a0.flushed)]) (At.gr A_0 fB) 0 1 rfl)) rfl rfl rfl ?_
 refine ol_val (v := .int .u64 a0.lasts) (by exact xr_assign rfl rfl) rfl rfl rfl ?_
 refine ol_nil ?_
 refine cw_ret ?_
 repeat (first | with_reducible refine thn_r ?_ | with_reducible refine blk_r ?_)
 obtain rfl := Option.some.inj h
 refine fin_ret1 Try.results87 rfl ?_
 exact ⟨_, rfl, rfl, fB⟩
end Go.Proofs.Ytklhbaghbmndeaa

/- (*rickyard/pmem.Device).Crash: its model, and that the Go function computes it: written by gen.py. -/
set_option linter.unusedVariables false
namespace Go.Proofs.Ytklhbaghbmndeaa
open Go Go.Xw
def pmem_Device_Crash.s0 (fu : Nat) (a0 : S_pmem_Device) : ((List Int) × Int × (List S_pmem_cell)) → Option (Sum (List S_pmem_cell) ((List Int) × Int × (List S_pmem_cell))) := fun s7 => (if (decide (s7.2.1 < (List.length a0.cells : Int))) = true then (if 0 ≤ s7.2.1 ∧ s7.2.1 < (List.length s7.2.2 : Int) then ((pmem_cell_open__r0.f fu (ix s7.2.2 s7.2.1) : Option Bool).bind fun t21 => (((if t21 = true then (((if (decide ((List.length s7.1 : Int) > 0)) = true then (if (0 : Int) < (List.length s7.1 : Int) then (if (1 : Int) ≤ (List.length s7.1 : Int) then some ((cut s7.1 1 (List.length s7.1 : Int)), (ix s7.1 0)) else none) else none) else some (s7.1, 0)) : Option ((List Int) × Int)).bind fun x34 => ((pmem_cell_fate__r0.f fu (ix s7.2.2 s7.2.1) x34.2 : Option Int).bind fun t52 => ((pmem_cell_keep__i0.f fu (ix s7.2.2 s7.2.1) t52 : Option S_pmem_cell).bind fun t62 => some (x34.1, (List.set s7.2.2 (Int.toNat s7.2.1) t62))))) else some (s7.1, s7.2.2)) : Option ((List Int) × (List S_pmem_cell))).bind fun x25 => (if s7.2.1 < (List.length x25.2 : Int) then (if s7.2.1 < (List.length x25.2 : Int) then some (Sum.inr (x25.1, (IntKind.i64.wrap (s7.2.1 + 1)), (List.set x25.2 (Int.toNat s7.2.1) (⟨(ix x25.2 s7.2.1).lasts, (ix x25.2 s7.2.1).lasts, (ix x25.2 s7.2.1).sent, (ix x25.2 s7.2.1).flushed⟩ : S_pmem_cell)))) else none) else none))) else none) else some (Sum.inl (s7.2.2)))
def pmem_Device_Crash.f (fu : Nat) (a0 : S_pmem_Device) (a1 : List Int) : Option S_pmem_Device := ((loopM (pmem_Device_Crash.s0 fu a0) fu (a1, 0, a0.cells)).bind fun e8 => some ((⟨e8, (⟨[], (0 : Int)⟩ : S_pmem_plan), false, false, 0, a0.steps⟩ : S_pmem_Device)))
set_option maxRecDepth 100000 in
set_option maxHeartbeats 400000 in
theorem pmem_Device_Crash.ok (fu : Nat) (w : World) (a0 : S_pmem_Device) (G_0 : Nat) (V0_0 : Value) (O0_0 : Own k_pmem_cell 142 w 0 V0_0 a0.cells) (V0_1 : Value) (O0_1 : Own (kI .i64) 3 w 0 V0_1 a0.plan.list) (b_0 : Blk w G_0 139 [Seg.cell V0_0 O0_0.one, Seg.cell V0_1 O0_1.one, Seg.cell (.int .i64 a0.plan.at_), Seg.cell (.bool a0.off), Seg.cell (.bool a0.armed), Seg.cell (.int .i64 a0.left), Seg.cell (.int .i64 a0.steps)]) (a1 : List Int) (V1_0 : Value) (R1_0 : Rd (kI .i64) w V1_0 a1) (NR1_0_P0 : OffR V1_0 a1 G_0) (NR1_0_R0_0 : OffRV V1_0 a1 V0_0) (NR1_0_R0_1 : OffRV V1_0 a1 V0_1) (r : S_pmem_Device) (h : pmem_Device_Crash.f fu a0 a1 = some r) :
  Calls Try.prog 32 (([.pointer (some ⟨G_0, 0, none⟩), V1_0] : List Value).toArray) w (fun e w' => ∃ v, e = .returned v ∧ ∃ u1 : Value, ∃ u4 : Value, ∃ o2 : Own k_pmem_cell 142 w' 0 u1 r.cells, ∃ m3 : ∀ g, Value.ownBlock u1 = some g → w.heap.size ≤ g ∨ (g = G_0 ∨ some g = Value.ownBlock V0_0 ∨ some g = Value.ownBlock V0_1), ∃ o5 : Own (kI .i64) 3 w' 0 u4 r.plan.list, ∃ m6 : ∀ g, Value.ownBlock u4 = some g → w.heap.size ≤ g ∨ (g = G_0 ∨ some g = Value.ownBlock V0_0 ∨ some g = Value.ownBlock V0_1), v = .tuple #[] ∧ Blk w' G_0 139 [Seg.cell u1 o2.one, Seg.cell u4 o5.one, Seg.cell (.int .i64 r.plan.at_), Seg.cell (.bool r.off), Seg.cell (.bool r.armed), Seg.cell (.int .i64 r.left), Seg.cell (.int .i64 r.steps)] ∧ Fr (fun j => j = G_0 ∨ some j = Value.ownBlock V0_0 ∨ some j = Value.ownBlock V0_1) w w') := by
 unfold pmem_Device_Crash.f at h
 have fB : Fr (fun j => j = G_0 ∨ some j = Value.ownBlock V0_0 ∨ some j = Value.ownBlock V0_1) w w := Fr.refl _ _
 have M0_0 : ∀ g, Value.ownBlock V0_0 = some g → w.heap.size ≤ g ∨ (g = G_0 ∨ some g = Value.ownBlock V0_0 ∨ some g = Value.ownBlock V0_1) := fun g hg => .inr (.inr (.inl hg.symm))
 have M0_1 : ∀ g, Value.ownBlock V0_1 = some g → w.heap.size ≤ g ∨ (g = G_0 ∨ some g = Value.ownBlock V0_0 ∨ some g = Value.ownBlock V0_1) := fun g hg => .inr (.inr (.inr hg.symm))
 refine calls_cw Try.func32 rfl Try.ntmps32 rfl ?_
 refine cw_seq ?_
 refine cw_seq ?_
 refine cw_region ?_
 refine ol_val (v := .pointer (some ⟨G_0, 0, none⟩)) (by exact xr_move rfl rfl) rfl rfl rfl ?_
 refine ol_val (v := .pointer (some ⟨G_0, 0, none⟩)) (by exact xr_nilCheck rfl rfl) rfl rfl rfl ?_
 refine ol_val (v := .pointer (some ⟨G_0, 0, none⟩)) (by exact xr_fieldAddr (p := 0) (q := 0) rfl fl139_0 rfl) rfl rfl rfl ?_
 refine ol_val (v := V0_0) (by exact xr_load1 (v := V0_0) rfl ag135 rfl (b_0.seg 0 rfl rfl)) rfl rfl rfl ?_
 refine ol_val (v := .int .i64 (List.length a0.cells : Int)) (by exact xr_lenR rfl Try.underlying135 rfl O0_0.rd) rfl rfl rfl ?_
 refine ol_val (v := .int .i64 0) (by exact xr_move rfl rfl) rfl rfl rfl ?_
 refine ol_nil ?_
 obtain ⟨e8, l9, h10⟩ := bs h
 refine cw_mid (fun ρ' w' => ∃ O0_0 : Own k_pmem_cell 142 w' 0 V0_0 e8, ∃ O0_1 : Own (kI .i64) 3 w' 0 V0_1 a0.plan.list, ρ' 0 = .pointer (some ⟨G_0, 0, none⟩) ∧ Blk w' G_0 139 [Seg.cell V0_0 O0_0.one, Seg.cell V0_1 O0_1.one, Seg.cell (.int .i64 a0.plan.at_), Seg.cell (.bool a0.off), Seg.cell (.bool a0.armed), Seg.cell (.int .i64 a0.left), Seg.cell (.int .i64 a0.steps)] ∧ Fr (fun j => j = G_0 ∨ some j = Value.ownBlock V0_0 ∨ some j = Value.ownBlock V0_1) w w') ?_ ?_
 ·refine cw_block ?_
  refine cw_round (fun (s7 : (List Int) × Int × (List S_pmem_cell)) ρ' w' => ∃ v11 : Value, ∃ O0_0 : Own k_pmem_cell 142 w' 0 V0_0 s7.2.2, ∃ O0_1 : Own (kI .i64) 3 w' 0 V0_1 a0.plan.list, ∃ r12 : Rd (kI .i64) w' v11 s7.1, OffR v11 s7.1 G_0 ∧ OffRV v11 s7.1 V0_0 ∧ OffRV v11 s7.1 V0_1 ∧ ρ' 0 = .pointer (some ⟨G_0, 0, none⟩) ∧ ρ' 1 = v11 ∧ ρ' 11 = .int .i64 (List.length a0.cells : Int) ∧ ρ' 12 = .int .i64 s7.2.1 ∧ Blk w' G_0 139 [Seg.cell V0_0 O0_0.one, Seg.cell V0_1 O0_1.one, Seg.cell (.int .i64 a0.plan.at_), Seg.cell (.bool a0.off), Seg.cell (.bool a0.armed), Seg.cell (.int .i64 a0.left), Seg.cell (.int .i64 a0.steps)] ∧ Fr (fun j => j = G_0 ∨ some j = Value.ownBlock V0_0 ∨ some j = Value.ownBlock V0_1) w w') l9 ?_ ?_
  ·skip
   exact ⟨V1_0, O0_0, O0_1, R1_0, NR1_0_P0, NR1_0_R0_0, NR1_0_R0_1, rfl, rfl, rfl, rfl, b_0, fB⟩
  rintro s7 x18 ρ16 w17 ⟨v11, O0_0, O0_1, r12, a13, a14, a15, e0, e1, e11, e12, b_0, fB⟩ h
  unfold pmem_Device_Crash.s0 at h
  refine cw_seq ?_
  refine cw_region ?_
  refine ol_val (v := .bool (decide (s7.2.1 < (List.length a0.cells : Int)))) (by exact xr_lss rfl e12 e11) rfl rfl rfl ?_
  refine ol_nil ?_
  refine cw_seq ?_
  rcases is h with ⟨c19, h⟩ | ⟨c19, h⟩
  ·refine cw_condT rfl c19 ?_
   refine cw_skip ?_
   refine cw_seq ?_
   refine cw_block ?_
   refine cw_seq ?_
   refine cw_region ?_
   refine ol_val (v := .int .i64 s7.2.1) (by exact xr_move rfl e12) rfl rfl rfl ?_
   refine ol_val (v := .int .i64 s7.2.1) (by exact xr_assign rfl rfl) rfl rfl rfl ?_
   refine ol_nil ?_
   refine cw_seq ?_
   refine cw_region ?_
   refine ol_val (v := .pointer (some ⟨G_0, 0, none⟩)) (by exact xr_move rfl e0) rfl rfl rfl ?_
   refine ol_val (v := .pointer (some ⟨G_0, 0, none⟩)) (by exact xr_nilCheck rfl rfl) rfl rfl rfl ?_
   refine ol_val (v := .pointer (some ⟨G_0, 0, none⟩)) (by exact xr_fieldAddr (p := 0) (q := 0) rfl fl139_0 rfl) rfl rfl rfl ?_
   refine ol_val (v := V0_0) (by exact xr_load1 (v := V0_0) rfl ag135 rfl (b_0.seg 0 rfl rfl)) rfl rfl rfl ?_
   refine ol_val (v := .int .i64 s7.2.1) (by exact xr_move rfl rfl) rfl rfl rfl ?_
   obtain ⟨g20, h⟩ := gs h
   refine ol_val (v := .pointer (some ⟨(sb V0_0), so V0_0 + Int.toNat s7.2.1 * 4, none⟩)) (by exact xr_indexR (K := k_pmem_cell) (v := V0_0) rfl Try.underlying135 sz142 rfl O0_0.rd rfl g20.1 g20.2) rfl rfl rfl ?_
   refine ol_val (v := .pointer (some ⟨(sb V0_0), so V0_0 + Int.toNat s7.2.1 * 4, none⟩)) (by exact xr_assign rfl rfl) rfl rfl rfl ?_
   refine ol_nil ?_
   refine cw_seq ?_
   refine cw_seq ?_
   refine cw_region ?_
   refine ol_val (v := .pointer (some ⟨(sb V0_0), so V0_0 + Int.toNat s7.2.1 * 4, none⟩)) (by exact xr_move rfl rfl) rfl rfl rfl ?_
   obtain ⟨t21, k22, h⟩ := bs h
   refine ol_op (by exact opv_call rfl cal86 (ac rfl an) (pmem_cell_open__r0.ok fu _ (ix s7.2.2 s7.2.1) (sb V0_0) (so V0_0 + Int.toNat s7.2.1 * 4) (show At _ _ _ (cellsOf [Seg.cell (.int .u64 ((ix s7.2.2 s7.2.1).lasts)), Seg.cell (.int .u64 ((ix s7.2.2 s7.2.1).stored)), Seg.cell (.int .u64 ((ix s7.2.2 s7.2.1).sent)), Seg.cell (.bool ((ix s7.2.2 s7.2.1).flushed))]) from (O0_0.rd.elem g20.1 g20.2)) _ k22)) rfl rfl rfl ?_
   rintro _ w24 ⟨rfl, q23⟩
   have b_0 := b_0.gr q23
   have O0_0 := O0_0.gr q23
   have O0_1 := O0_1.gr q23
   have r12 := r12.gr q23
   have fB := fB.gr q23
   refine ol_nil ?_
   obtain ⟨x25, j26, h27⟩ := bs h
   refine cw_mid (fun ρ' w' => ∃ v28 : Value, ∃ O0_0 : Own k_pmem_cell 142 w' 0 V0_0 x25.2, ∃ O0_1 : Own (kI .i64) 3 w' 0 V0_1 a0.plan.list, ∃ r29 : Rd (kI .i64) w' v28 x25.1, OffR v28 x25.1 G_0 ∧ OffRV v28 x25.1 V0_0 ∧ OffRV v28 x25.1 V0_1 ∧ ρ' 0 = .pointer (some ⟨G_0, 0, none⟩) ∧ ρ' 1 = v28 ∧ ρ' 5 = .pointer (some ⟨(sb V0_0), so V0_0 + Int.toNat s7.2.1 * 4, none⟩) ∧ ρ' 11 = .int .i64 (List.length a0.cells : Int) ∧ ρ' 12 = .int .i64 s7.2.1 ∧ Blk w' G_0 139 [Seg.cell V0_0 O0_0.one, Seg.cell V0_1 O0_1.one, Seg.cell (.int .i64 a0.plan.at_), Seg.cell (.bool a0.off), Seg.cell (.bool a0.armed), Seg.cell (.int .i64 a0.left), Seg.cell (.int .i64 a0.steps)] ∧ Fr (fun j => j = G_0 ∨ some j = Value.ownBlock V0_0 ∨ some j = Value.ownBlock V0_1) w w') ?_ ?_
   ·have h := j26
    rcases is h with ⟨c33, h⟩ | ⟨c33, h⟩
    ·refine cw_condT rfl c33 ?_
     refine cw_seq ?_
     refine cw_region ?_
     refine ol_val (v := .int .i64 0) (by exact xr_assign rfl rfl) rfl rfl rfl ?_
     refine ol_nil ?_
     refine cw_seq ?_
     refine cw_seq ?_
     refine cw_region ?_
     refine ol_val (v := v11) (by exact xr_move rfl e1) rfl rfl rfl ?_
     refine ol_val (v := .int .i64 (List.length s7.1 : Int)) (by exact xr_lenR rfl Try.underlying25 rfl r12) rfl rfl rfl ?_
     refine ol_val (v := .bool (decide ((List.length s7.1 : Int) > 0))) (by exact xr_gtr rfl rfl rfl) rfl rfl rfl ?_
     refine ol_nil ?_
     obtain ⟨x34, j35, h36⟩ := bs h
     refine cw_mid (fun ρ' w' => ∃ v37 : Value, ∃ O0_0 : Own k_pmem_cell 142 w' 0 V0_0 s7.2.2, ∃ O0_1 : Own (kI .i64) 3 w' 0 V0_1 a0.plan.list, ∃ r38 : Rd (kI .i64) w' v37 x34.1, OffR v37 x34.1 G_0 ∧ OffRV v37 x34.1 V0_0 ∧ OffRV v37 x34.1 V0_1 ∧ ρ' 0 = .pointer (some ⟨G_0, 0, none⟩) ∧ ρ' 1 = v37 ∧ ρ' 5 = .pointer (some ⟨(sb V0_0), so V0_0 + Int.toNat s7.2.1 * 4, none⟩) ∧ ρ' 6 = .int .i64 x34.2 ∧ ρ' 11 = .int .i64 (List.length a0.cells : Int) ∧ ρ' 12 = .int .i64 s7.2.1 ∧ Blk w' G_0 139 [Seg.cell V0_0 O0_0.one, Seg.cell V0_1 O0_1.one, Seg.cell (.int .i64 a0.plan.at_), Seg.cell (.bool a0.off), Seg.cell (.bool a0.armed), Seg.cell (.int .i64 a0.left), Seg.cell (.int .i64 a0.steps)] ∧ Fr (fun j => j = G_0 ∨ some j = Value.ownBlock V0_0 ∨ some j = Value.ownBlock V0_1) w w') ?_ ?_
     ·have h := j35
      rcases is h with ⟨c42, h⟩ | ⟨c42, h⟩
      ·refine cw_condT rfl c42 ?_
       obtain ⟨g43, h⟩ := gs h
       obtain ⟨g45, h⟩ := gs h
       refine cw_drawL 6 [fun vz wz => vz = (v11 : Value), fun vz wz => vz = (.pointer (some ⟨(sb v11), so v11 + Int.toNat 0 * 1, none⟩) : Value), fun vz wz => vz = (.int .i64 (ix s7.1 0) : Value), fun vz wz => vz = (v11 : Value), fun vz wz => ∃ r44 : Rd (kI .i64) wz (subv 1 v11 (Int.toNat 1) (List.length s7.1)) (cut s7.1 1 (List.length s7.1 : Int)), vz = (subv 1 v11 (Int.toNat 1) (List.length s7.1) : Value), fun vz wz => vz = (.int .i64 (ix s7.1 0) : Value)] mo rfl ⟨fun _ _ _ h _ => h, fun _ _ _ h _ => h, fun _ _ _ h _ => h, fun _ _ _ h _ => h, fun _ _ _ ⟨r44, h⟩ q => ⟨r44.gr q, h⟩, fun _ _ _ h _ => h, trivial⟩ ?_ ?_
       ·refine ⟨?_, ?_, ?_, ?_, ?_, ?_, trivial⟩
        ·intro ρz wz hz hk hd
         exact sk_val (v := v11) (by exact xr_move rfl ((hk 1 rfl).trans e1)) rfl rfl
        ·intro ρz wz hz hk hd
         have d26 := hd 0 rfl 26 rfl
         exact sk_val (v := .pointer (some ⟨(sb v11), so v11 + Int.toNat 0 * 1, none⟩)) (by exact xr_indexR (K := (kI .i64)) (v := v11) rfl Try.underlying25 sz3 d26 (r12.gr hz) rfl (by decide) g43) rfl rfl
        ·intro ρz wz hz hk hd
         have d27 := hd 1 rfl 27 rfl
         exact sk_val (v := .int .i64 (ix s7.1 0)) (by exact xr_load1 (v := .int .i64 (ix s7.1 0)) rfl ag3 d27 ((r12.gr hz).elem (by decide) g43)) rfl rfl
        ·intro ρz wz hz hk hd
         exact sk_val (v := v11) (by exact xr_move rfl ((hk 1 rfl).trans e1)) rfl rfl
        ·intro ρz wz hz hk hd
         have d29 := hd 3 rfl 29 rfl
         exact sk_val (by exact xr_slice_l (K := (kI .i64)) (v := v11) rfl Try.underlying25 sz3 d29 (r12.gr hz) rfl (by decide) g45) rfl ⟨(r12.gr hz).cut (lo := 1) (hi := (List.length s7.1 : Int)) (by decide) g45 (Int.le_refl _), rfl⟩
        intro ρz wz hz hk hd
        have d28 := hd 2 rfl 28 rfl
        exact sk_val (v := .int .i64 (ix s7.1 0)) (by exact xr_assign rfl d28) rfl rfl
       intro ρ46 w47 q48 hk hd
       have e0 := (hk 0 rfl).trans e0
       have e5 := (hk 5 rfl).trans rfl
       have e6 := hd 5 rfl 6 rfl
       have e11 := (hk 11 rfl).trans e11
       have e12 := (hk 12 rfl).trans e12
       obtain ⟨r49, e30⟩ := hd 4 rfl 30 rfl
       have b_0 := b_0.gr q48
       have O0_0 := O0_0.gr q48
       have O0_1 := O0_1.gr q48
       have fB := fB.gr q48
       refine ol_val (v := subv 1 v11 (Int.toNat 1) (List.length s7.1)) (by exact xr_assign rfl e30) rfl rfl rfl ?_
       refine ol_nil ?_
       obtain rfl := Option.some.inj h
       refine thn_i ?_
       exact ⟨(subv 1 v11 (Int.toNat 1) (List.length s7.1)), O0_0, O0_1, r49, (OffR.cut a13), (OffRV.cut a14), (OffRV.cut a15), e0, rfl, e5, e6, e11, e12, b_0, fB⟩
      refine cw_condF rfl c42 ?_
      refine cw_skip ?_
      obtain rfl := Option.some.inj h
      refine thn_i ?_
      exact ⟨v11, O0_0, O0_1, r12, a13, a14, a15, e0, e1, rfl, rfl, e11, e12, b_0, fB⟩
     rintro ρ50 w51 ⟨v37, O0_0, O0_1, r38, a39, a40, a41, e0, e1, e5, e6, e11, e12, b_0, fB⟩
     have h := h36
     refine cw_region ?_
     refine ol_val (v := .pointer (some ⟨(sb V0_0), so V0_0 + Int.toNat s7.2.1 * 4, none⟩)) (by exact xr_move rfl e5) rfl rfl rfl ?_
     refine ol_val (v := .pointer (some ⟨(sb V0_0), so V0_0 + Int.toNat s7.2.1 * 4, none⟩)) (by exact xr_move rfl e5) rfl rfl rfl ?_
     refine ol_val (v := .int .i64 x34.2) (by exact xr_move rfl e6) rfl rfl rfl ?_
     obtain ⟨t52, k53, h⟩ := bs h
     refine ol_op (by exact opv_call rfl cal87 (ac rfl (ac rfl an)) (pmem_cell_fate__r0.ok fu _ (ix s7.2.2 s7.2.1) (sb V0_0) (so V0_0 + Int.toNat s7.2.1 * 4) (show At _ _ _ (cellsOf [Seg.cell (.int .u64 ((ix s7.2.2 s7.2.1).lasts)), Seg.cell (.int .u64 ((ix s7.2.2 s7.2.1).stored)), Seg.cell (.int .u64 ((ix s7.2.2 s7.2.1).sent)), Seg.cell (.bool ((ix s7.2.2 s7.2.1).flushed))]) from (O0_0.rd.elem g20.1 g20.2)) x34.2 _ k53)) rfl rfl rfl ?_
     rintro _ w55 ⟨rfl, q54⟩
     have b_0 := b_0.gr q54
     have O0_0 := O0_0.gr q54
     have O0_1 := O0_1.gr q54
     have r38 := r38.gr q54
     have fB := fB.gr q54
     obtain ⟨t62, k63, h⟩ := bs h
     have f66 := off_ty b_0 O0_0 (by decide)
     have f67 := OffV.ty O0_1 O0_0 (by decide)
     obtain ⟨X56, Y57, h58, h59, b60, k61⟩ := Own.sub (K := k_pmem_cell) (i := s7.2.1) (ss := [Seg.cell (.int .u64 ((ix s7.2.2 s7.2.1).lasts)), Seg.cell (.int .u64 ((ix s7.2.2 s7.2.1).stored)), Seg.cell (.int .u64 ((ix s7.2.2 s7.2.1).sent)), Seg.cell (.bool ((ix s7.2.2 s7.2.1).flushed))]) O0_0 g20.1 g20.2 rfl
     refine ol_op (by exact opv_call rfl cal85 (ac (ptrE (q := List.length X56) rfl h58) (ac rfl an)) (pmem_cell_keep__i0.ok fu _ (ix s7.2.2 s7.2.1) (sb V0_0) 142 X56 Y57 b60 t52 _ k63)) rfl rfl rfl ?_
     rintro _ w69 ⟨rfl, b65, q64⟩
     have O0_0 := k61 _ t62 [Seg.cell (.int .u64 t62.lasts), Seg.cell (.int .u64 t62.stored), Seg.cell (.int .u64 t62.sent), Seg.cell (.bool t62.flushed)] rfl b65
     have q64 := fr_own q64 h59
     have b_0 := b_0.wrO q64 f66
     have O0_1 := O0_1.wrV q64 f67
     have fB := fB.wrM q64 M0_0
     have r38 := r38.wrV q64 a40
     refine ol_nil ?_
     obtain rfl := Option.some.inj h
     refine thn_i ?_
     exact ⟨v37, O0_0, O0_1, r38, a39, a40, a41, e0, e1, e5, e11, e12, b_0, fB⟩
    refine cw_condF rfl c33 ?_
    refine cw_skip ?_
    obtain rfl := Option.some.inj h
    refine thn_i ?_
    exact ⟨v11, O0_0, O0_1, r12, a13, a14, a15, e0, e1, rfl, e11, e12, b_0, fB⟩
   rintro ρ70 w71 ⟨v28, O0_0, O0_1, r29, a30, a31, a32, e0, e1, e5, e11, e12, b_0, fB⟩
   have h := h27
   refine cw_region ?_
   refine ol_val (v := .pointer (some ⟨(sb V0_0), so V0_0 + Int.toNat s7.2.1 * 4, none⟩)) (by exact xr_move rfl e5) rfl rfl rfl ?_
   refine ol_val (v := .pointer (some ⟨(sb V0_0), so V0_0 + Int.toNat s7.2.1 * 4, none⟩)) (by exact xr_move rfl e5) rfl rfl rfl ?_
   refine ol_val (v := .pointer (some ⟨(sb V0_0), so V0_0 + Int.toNat s7.2.1 * 4, none⟩)) (by exact xr_nilCheck rfl rfl) rfl rfl rfl ?_
   refine ol_val (v := .pointer (some ⟨(sb V0_0), so V0_0 + Int.toNat s7.2.1 * 4 + 0, none⟩)) (by exact xr_fieldAddr (p := so V0_0 + Int.toNat s7.2.1 * 4) (q := 0) rfl fl142_0 rfl) rfl rfl rfl ?_
   obtain ⟨g72, h⟩ := gs h
   refine ol_val (v := .int .u64 ((ix x25.2 s7.2.1).lasts)) (by exact xr_load1 (v := .int .u64 ((ix x25.2 s7.2.1).lasts)) rfl ag22 rfl (At.segs (ss := segs_pmem_cell (ix x25.2 s7.2.1)) (O0_0.rd.elem g20.1 g72) 0 1 rfl)) rfl rfl rfl ?_
   refine ol_val (v := .pointer (some ⟨(sb V0_0), so V0_0 + Int.toNat s7.2.1 * 4, none⟩)) (by exact xr_nilCheck rfl rfl) rfl rfl rfl ?_
   refine ol_val (v := .pointer (some ⟨(sb V0_0), so V0_0 + Int.toNat s7.2.1 * 4 + 1, none⟩)) (by exact xr_fieldAddr (p := so V0_0 + Int.toNat s7.2.1 * 4) (q := 1) rfl fl142_1 rfl) rfl rfl rfl ?_
   obtain ⟨g74, h⟩ := gs h
   have f75 := off_ty b_0 O0_0 (by decide)
   have f76 := OffV.ty O0_1 O0_0 (by decide)
   refine ol_op0 (by exact opv_storeRow (z := (⟨(ix x25.2 s7.2.1).lasts, (ix x25.2 s7.2.1).lasts, (ix x25.2 s7.2.1).sent, (ix x25.2 s7.2.1).flushed⟩ : S_pmem_cell)) (xs := cellsOf [Seg.cell (.int .u64 ((ix x25.2 s7.2.1).lasts))]) rfl sz22 rfl rfl rfl (len_cellsOf _) (one_cellsOf _) O0_0 g20.1 g74 (Spl.segs (segs_pmem_cell (ix x25.2 s7.2.1)) 1 1 [Seg.cell (.int .u64 ((ix x25.2 s7.2.1).lasts))] rfl rfl) rfl) rfl rfl ?_
   rintro _ w78 ⟨O0_0, q73⟩
   have b_0 := b_0.wrO q73 f75
   have O0_1 := O0_1.wrV q73 f76
   have fB := fB.wrM q73 M0_0
   have r29 := r29.wrV q73 a31
   refine ol_nil ?_
   refine blk_i ?_
   refine cw_region ?_
   refine ol_val (v := .int .i64 (IntKind.i64.wrap (s7.2.1 + 1))) (by exact xr_add rfl e12 rfl) rfl rfl rfl ?_
   refine ol_val (v := .int .i64 (IntKind.i64.wrap (s7.2.1 + 1))) (by exact xr_move rfl rfl) rfl rfl rfl ?_
   refine ol_nil ?_
   obtain rfl := Option.some.inj h
   refine lp_in ?_
   exact ⟨v28, O0_0, O0_1, r29, a30, a31, a32, e0, e1, e11, rfl, b_0, fB⟩
  refine cw_condF rfl c19 ?_
  refine cw_exit ?_
  repeat (first | with_reducible refine thn_e ?_ | with_reducible refine blk_e rfl ?_)
  obtain rfl := Option.some.inj h
  refine lp_exit ?_
  rintro rfl
  refine thn_x ?_
  exact ⟨O0_0, O0_1, e0, b_0, fB⟩
 rintro ρ79 w80 ⟨O0_0, O0_1, e0, b_0, fB⟩
 have h := h10
 refine cw_seq ?_
 refine cw_region ?_
 refine ol_val (v := .pointer (some ⟨G_0, 0, none⟩)) (by exact xr_move rfl e0) rfl rfl rfl ?_
 refine ol_val (v := aggV [Seg.cell (.slice none 0 0) (by rfl), Seg.cell (.int .i64 (0 : Int))]) (by exact xr_build (vals := []) rfl trivial (bl137_ _)) rfl rfl rfl ?_
 refine ol_val (v := .pointer (some ⟨G_0, 0, none⟩)) (by exact xr_nilCheck rfl rfl) rfl rfl rfl ?_
 refine ol_val (v := .pointer (some ⟨G_0, 1, none⟩)) (by exact xr_fieldAddr (p := 0) (q := 1) rfl fl139_1 rfl) rfl rfl rfl ?_
 have f82 := off_ty b_0 O0_0 (by decide)
 refine ol_op0 (by exact opv_store (ss' := [Seg.cell V0_0 O0_0.one, Seg.cell (.slice none 0 0) (by rfl), Seg.cell (.int .i64 (0 : Int)), Seg.cell (.bool a0.off), Seg.cell (.bool a0.armed), Seg.cell (.int .i64 a0.left), Seg.cell (.int .i64 a0.steps)]) (xs := cellsOf [Seg.cell (.slice none 0 0) (by rfl), Seg.cell (.int .i64 (0 : Int))]) rfl sz137 rfl rfl rfl (len_cellsOf _) (one_cellsOf _) b_0 (Spl.segs _ 1 2 [Seg.cell (.slice none 0 0) (by rfl), Seg.cell (.int .i64 (0 : Int))] rfl rfl)) rfl rfl ?_
 rintro _ w83 ⟨b_0, q81⟩
 have O0_0 := O0_0.wr q81 f82
 have fB := fB.wrS q81 (.inl rfl)
 refine ol_nil ?_
 refine cw_region ?_
 refine ol_val (v := .pointer (some ⟨G_0, 0, none⟩)) (by exact xr_move rfl e0) rfl rfl rfl ?_
 refine ol_val (v := .pointer (some ⟨G_0, 0, none⟩)) (by exact xr_move rfl e0) rfl rfl rfl ?_
 refine ol_val (v := .pointer (some ⟨G_0, 0, none⟩)) (by exact xr_move rfl e0) rfl rfl rfl ?_
 refine ol_val (v := .pointer (some ⟨G_0, 0, none⟩)) (by exact xr_nilCheck rfl rfl) rfl rfl rfl ?_
 refine ol_val (v := .pointer (some ⟨G_0, 3, none⟩)) (by exact xr_fieldAddr (p := 0) (q := 3) rfl fl139_2 rfl) rfl rfl rfl ?_
 have f85 := off_ty b_0 O0_0 (by decide)
 refine ol_op0 (by exact opv_store (ss' := [Seg.cell V0_0 O0_0.one, Seg.cell (.slice none 0 0) (by rfl), Seg.cell (.int .i64 (0 : Int)), Seg.cell (.bool false), Seg.cell (.bool a0.armed), Seg.cell (.int .i64 a0.left), Seg.cell (.int .i64 a0.steps)]) (xs := cellsOf [Seg.cell (.bool false)]) rfl sz4 rfl rfl rfl (len_cellsOf _) (one_cellsOf _) b_0 (Spl.segs _ 3 1 [Seg.cell (.bool false)] rfl rfl)) rfl rfl ?_
 rintro _ w86 ⟨b_0, q84⟩
 have O0_0 := O0_0.wr q84 f85
 have fB := fB.wrS q84 (.inl rfl)
 refine ol_val (v := .pointer (some ⟨G_0, 0, none⟩)) (by exact xr_nilCheck rfl rfl) rfl rfl rfl ?_
 refine ol_val (v := .pointer (some ⟨G_0, 4, none⟩)) (by exact xr_fieldAddr (p := 0) (q := 4) rfl fl139_3 rfl) rfl rfl rfl ?_
 have f88 := off_ty b_0 O0_0 (by decide)
 refine ol_op0 (by exact opv_store (ss' := [Seg.cell V0_0 O0_0.one, Seg.cell (.slice none 0 0) (by rfl), Seg.cell (.int .i64 (0 : Int)), Seg.cell (.bool false), Seg.cell (.bool false), Seg.cell (.int .i64 a0.left), Seg.cell (.int .i64 a0.steps)]) (xs := cellsOf [Seg.cell (.bool false)]) rfl sz4 rfl rfl rfl (len_cellsOf _) (one_cellsOf _) b_0 (Spl.segs _ 4 1 [Seg.cell (.bool false)] rfl rfl)) rfl rfl ?_
 rintro _ w89 ⟨b_0, q87⟩
 have O0_0 := O0_0.wr q87 f88
 have fB := fB.wrS q87 (.inl rfl)
 refine ol_val (v := .pointer (some ⟨G_0, 0, none⟩)) (by exact xr_nilCheck rfl rfl) rfl rfl rfl ?_
 refine ol_val (v := .pointer (some ⟨G_0, 5, none⟩)) (by exact xr_fieldAddr (p := 0) (q := 5) rfl fl139_4 rfl) rfl rfl rfl ?_
 have f91 := off_ty b_0 O0_0 (by decide)
 refine ol_op0 (by exact opv_store (ss' := [Seg.cell V0_0 O0_0.one, Seg.cell (.slice none 0 0) (by rfl), Seg.cell (.int .i64 (0 : Int)), Seg.cell (.bool false), Seg.cell (.bool false), Seg.cell (.int .i64 0), Seg.cell (.int .i64 a0.steps)]) (xs := cellsOf [Seg.cell (.int .i64 0)]) rfl sz3 rfl rfl rfl (len_cellsOf _) (one_cellsOf _) b_0 (Spl.segs _ 5 1 [Seg.cell (.int .i64 0)] rfl rfl)) rfl rfl ?_
 rintro _ w92 ⟨b_0, q90⟩
 have O0_0 := O0_0.wr q90 f91
 have fB := fB.wrS q90 (.inl rfl)
 refine ol_nil ?_
 obtain rfl := Option.some.inj h
 refine fin_end0 Try.results32 ?_
 exact ⟨_, rfl, V0_0, (.slice none 0 0), O0_0, M0_0, Own.nil _ _ _ _, ms_nil, rfl, b_0, fB⟩
end Go.Proofs.Ytklhbaghbmndeaa

/- (*rickyard/pmem.Device).Steps: its model, and that the Go function computes it: written by gen.py. -/
set_option linter.unusedVariables false
namespace Go.Proofs.Ytklhbaghbmndeaa
open Go Go.Xw
def pmem_Device_Steps.f (fu : Nat) (a0 : S_pmem_Device) : Option Int := some (a0.steps)
set_option maxRecDepth 100000 in
set_option maxHeartbeats 400000 in
theorem pmem_Device_Steps.ok (fu : Nat) (w : World) (a0 : S_pmem_Device) (G_0 : Nat) (V0_0 : Value) (R0_0 : Rd k_pmem_cell w V0_0 a0.cells) (V0_1 : Value) (R0_1 : Rd (kI .i64) w V0_1 a0.plan.list) (b_0 : Blk w G_0 139 [Seg.cell V0_0 R0_0.one, Seg.cell V0_1 R0_1.one, Seg.cell (.int .i64 a0.plan.at_), Seg.cell (.bool a0.off), Seg.cell (.bool a0.armed), Seg.cell (.int .i64 a0.left), Seg.cell (.int .i64 a0.steps)]) (r : Int) (h : pmem_Device_Steps.f fu a0 = some r) :
  Calls Try.prog 37 (([.pointer (some ⟨G_0, 0, none⟩)] : List Value).toArray) w (fun e w' => ∃ v, e = .returned v ∧ v = .int .i64 r ∧ Gr w w') := by
 unfold pmem_Device_Steps.f at h
 have fB : Gr w w := Fr.refl _ _
 refine calls_cw Try.func37 rfl Try.ntmps37 rfl ?_
 refine cw_seq ?_
 refine cw_region ?_
 refine ol_val (v := .int .i64 0) (by exact xr_assign rfl rfl) rfl rfl rfl ?_
 refine ol_nil ?_
 refine cw_seq ?_
 refine cw_region ?_
 refine ol_val (v := .pointer (some ⟨G_0, 0, none⟩)) (by exact xr_move rfl rfl) rfl rfl rfl ?_
 refine ol_val (v := .pointer (some ⟨G_0, 0, none⟩)) (by exact xr_nilCheck rfl rfl) rfl rfl rfl ?_
 refine ol_val (v := .pointer (some ⟨G_0, 6, none⟩)) (by exact xr_fieldAddr (p := 0) (q := 6) rfl fl139_5 rfl) rfl rfl rfl ?_
 refine ol_val (v := .int .i64 a0.steps) (by exact xr_load1 (v := .int .i64 a0.steps) rfl ag3 rfl (b_0.seg 6 rfl rfl)) rfl rfl rfl ?_
 refine ol_val (v := .int .i64 a0.steps) (by exact xr_assign rfl rfl) rfl rfl rfl ?_
 refine ol_nil ?_
 refine cw_ret ?_
 repeat (first | with_reducible refine thn_r ?_ | with_reducible refine blk_r ?_)
 obtain rfl := Option.some.inj h
 refine fin_ret1 Try.results37 rfl ?_
 exact ⟨_, rfl, rfl, fB⟩
end Go.Proofs.Ytklhbaghbmndeaa

/- rickyard/rickyardref05.New: its model, and that the Go function computes it: written by gen.py. -/
set_option linter.unusedVariables false
namespace Go.Proofs.Ytklhbaghbmndeaa
open Go Go.Xw
def rickyardref05_New.f (fu : Nat) (a0 : Int) : Option S_rickyardref05_Device := (if 0 ≤ (IntKind.i64.wrap (8 * a0)) ∧ Int.toNat (IntKind.i64.wrap (8 * a0)) ≤ LIM then (if 0 ≤ (IntKind.i64.wrap (8 * a0)) ∧ Int.toNat (IntKind.i64.wrap (8 * a0)) ≤ LIM then (if 0 ≤ (IntKind.i64.wrap (8 * a0)) ∧ Int.toNat (IntKind.i64.wrap (8 * a0)) ≤ LIM then (if 0 ≤ (IntKind.i64.wrap (8 * a0)) ∧ Int.toNat (IntKind.i64.wrap (8 * a0)) ≤ LIM then some ((⟨(List.replicate (Int.toNat (IntKind.i64.wrap (8 * a0))) (0 : Int)), (List.replicate (Int.toNat (IntKind.i64.wrap (8 * a0))) (0 : Int)), (List.replicate (Int.toNat (IntKind.i64.wrap (8 * a0))) (0 : Int)), (List.replicate (Int.toNat (IntKind.i64.wrap (8 * a0))) false), [], (0 : Int), (-1), (0 : Int)⟩ : S_rickyardref05_Device)) else none) else none) else none) else none)
set_option maxRecDepth 100000 in
set_option maxHeartbeats 400000 in
theorem rickyardref05_New.ok (fu : Nat) (w : World) (a0 : Int) (r : S_rickyardref05_Device) (h : rickyardref05_New.f fu a0 = some r) :
  Calls Try.prog 44 (([.int .i64 a0] : List Value).toArray) w (fun e w' => ∃ v, e = .returned v ∧ ∃ u1 : Value, ∃ p2 : ∃ G9 : Nat, ∃ U0 : Value, ∃ U1 : Value, ∃ U2 : Value, ∃ U3 : Value, ∃ U4 : Value, ∃ O0 : Own (kI .u64) 22 w' w.heap.size U0 r.Lasts, ∃ O1 : Own (kI .u64) 22 w' w.heap.size U1 r.Stored, ∃ O2 : Own (kI .u64) 22 w' w.heap.size U2 r.Sent, ∃ O3 : Own kB 4 w' w.heap.size U3 r.Flushed, ∃ O4 : Own (kI .i64) 3 w' w.heap.size U4 r.Plan, ∃ A0_1 : OffV U0 U1, ∃ A0_2 : OffV U0 U2, ∃ A1_2 : OffV U1 U2, u1 = .pointer (some ⟨G9, 0, none⟩) ∧ w.heap.size ≤ G9 ∧ Blk w' G9 65 [Seg.cell U0 O0.one, Seg.cell U1 O1.one, Seg.cell U2 O2.one, Seg.cell U3 O3.one, Seg.cell U4 O4.one, Seg.cell (.int .i64 r.Since), Seg.cell (.int .i64 r.Left), Seg.cell (.int .i64 r.Steps)], v = u1 ∧ Gr w w') := by
 unfold rickyardref05_New.f at h
 have fB : Gr w w := Fr.refl _ _
 refine calls_cw Try.func44 rfl Try.ntmps44 rfl ?_
 refine cw_seq ?_
 refine cw_region ?_
 refine ol_val (v := .pointer none) (by exact xr_assign rfl rfl) rfl rfl rfl ?_
 refine ol_nil ?_
 refine cw_seq ?_
 refine cw_region ?_
 refine ol_val (v := .int .i64 a0) (by exact xr_move rfl rfl) rfl rfl rfl ?_
 refine ol_val (v := .int .i64 (IntKind.i64.wrap (8 * a0))) (by exact xr_mul rfl rfl rfl) rfl rfl rfl ?_
 refine ol_val (v := .int .i64 (IntKind.i64.wrap (8 * a0))) (by exact xr_assign rfl rfl) rfl rfl rfl ?_
 refine ol_nil ?_
 refine cw_seq ?_
 obtain ⟨g3, h⟩ := gs h
 obtain ⟨g9, h⟩ := gs h
 obtain ⟨g15, h⟩ := gs h
 obtain ⟨g21, h⟩ := gs h
 refine cw_drawP 8 [fun vz wz => vz = (.int .i64 (IntKind.i64.wrap (8 * a0)) : Value), fun vz wz => ∃ v4 : Value, ∃ o6 : Own (kI .u64) 22 wz w.heap.size v4 (List.replicate (Int.toNat (IntKind.i64.wrap (8 * a0))) (0 : Int)), vz = (v4 : Value), fun vz wz => vz = (.int .i64 (IntKind.i64.wrap (8 * a0)) : Value), fun vz wz => ∃ v10 : Value, ∃ o12 : Own (kI .u64) 22 wz w.heap.size v10 (List.replicate (Int.toNat (IntKind.i64.wrap (8 * a0))) (0 : Int)), vz = (v10 : Value), fun vz wz => vz = (.int .i64 (IntKind.i64.wrap (8 * a0)) : Value), fun vz wz => ∃ v16 : Value, ∃ o18 : Own (kI .u64) 22 wz w.heap.size v16 (List.replicate (Int.toNat (IntKind.i64.wrap (8 * a0))) (0 : Int)), vz = (v16 : Value), fun vz wz => vz = (.int .i64 (IntKind.i64.wrap (8 * a0)) : Value), fun vz wz => ∃ v22 : Value, ∃ o24 : Own kB 4 wz w.heap.size v22 (List.replicate (Int.toNat (IntKind.i64.wrap (8 * a0))) false), vz = (v22 : Value)] [false, true, false, true, false, true, false, true] mo rfl rfl ⟨fun _ _ _ h _ => h, fun _ _ _ ⟨v4, o6, h⟩ q => ⟨v4, o6.gr q, h⟩, fun _ _ _ h _ => h, fun _ _ _ ⟨v10, o12, h⟩ q => ⟨v10, o12.gr q, h⟩, fun _ _ _ h _ => h, fun _ _ _ ⟨v16, o18, h⟩ q => ⟨v16, o18.gr q, h⟩, fun _ _ _ h _ => h, fun _ _ _ ⟨v22, o24, h⟩ q => ⟨v22, o24.gr q, h⟩, trivial⟩ ⟨(fun e => by cases e), (fun _ v w ⟨v4, o6, e⟩ k hk => Own.lt o6 (by rw [← e]; exact hk)), (fun e => by cases e), (fun _ v w ⟨v10, o12, e⟩ k hk => Own.lt o12 (by rw [← e]; exact hk)), (fun e => by cases e), (fun _ v w ⟨v16, o18, e⟩ k hk => Own.lt o18 (by rw [← e]; exact hk)), (fun e => by cases e), (fun _ v w ⟨v22, o24, e⟩ k hk => Own.lt o24 (by rw [← e]; exact hk)), trivial⟩ ?_ ?_
 ·refine ⟨?_, ?_, ?_, ?_, ?_, ?_, ?_, ?_, trivial⟩
  ·intro ρz wz hz hk hd
   refine sk_nal rfl ?_
   exact sk_val (v := .int .i64 (IntKind.i64.wrap (8 * a0))) (by exact xr_move rfl ((hk 3 rfl).trans rfl)) rfl rfl
  ·intro ρz wz hz hk hd
   have d6 := hd 0 rfl 6 rfl
   refine sk_alloc (by exact opv_make (K := (kI .u64)) (z := (0 : Int)) rfl Try.underlying46 el22 rfl d6 d6 g3.1 g3.2 rfl (Nat.le_trans fB.size hz.size)) rfl ?_
   rintro v4 wy ⟨o6, q5, z7⟩
   exact ⟨⟨⟨v4, o6, rfl⟩, q5⟩, z7⟩
  ·intro ρz wz hz hk hd
   refine sk_nal rfl ?_
   exact sk_val (v := .int .i64 (IntKind.i64.wrap (8 * a0))) (by exact xr_move rfl ((hk 3 rfl).trans rfl)) rfl rfl
  ·intro ρz wz hz hk hd
   have d8 := hd 2 rfl 8 rfl
   refine sk_alloc (by exact opv_make (K := (kI .u64)) (z := (0 : Int)) rfl Try.underlying46 el22 rfl d8 d8 g9.1 g9.2 rfl (Nat.le_trans fB.size hz.size)) rfl ?_
   rintro v10 wy ⟨o12, q11, z13⟩
   exact ⟨⟨⟨v10, o12, rfl⟩, q11⟩, z13⟩
  ·intro ρz wz hz hk hd
   refine sk_nal rfl ?_
   exact sk_val (v := .int .i64 (IntKind.i64.wrap (8 * a0))) (by exact xr_move rfl ((hk 3 rfl).trans rfl)) rfl rfl
  ·intro ρz wz hz hk hd
   have d10 := hd 4 rfl 10 rfl
   refine sk_alloc (by exact opv_make (K := (kI .u64)) (z := (0 : Int)) rfl Try.underlying46 el22 rfl d10 d10 g15.1 g15.2 rfl (Nat.le_trans fB.size hz.size)) rfl ?_
   rintro v16 wy ⟨o18, q17, z19⟩
   exact ⟨⟨⟨v16, o18, rfl⟩, q17⟩, z19⟩
  ·intro ρz wz hz hk hd
   refine sk_nal rfl ?_
   exact sk_val (v := .int .i64 (IntKind.i64.wrap (8 * a0))) (by exact xr_move rfl ((hk 3 rfl).trans rfl)) rfl rfl
  intro ρz wz hz hk hd
  have d12 := hd 6 rfl 12 rfl
  refine sk_alloc (by exact opv_make (K := kB) (z := false) rfl Try.underlying63 el4 rfl d12 d12 g21.1 g21.2 rfl (Nat.le_trans fB.size hz.size)) rfl ?_
  rintro v22 wy ⟨o24, q23, z25⟩
  exact ⟨⟨⟨v22, o24, rfl⟩, q23⟩, z25⟩
 intro ρ27 w28 q29 hk hd hp
 obtain ⟨v30, o31, e7⟩ := hd 1 rfl 7 rfl
 obtain ⟨v32, o33, e9⟩ := hd 3 rfl 9 rfl
 obtain ⟨v34, o35, e11⟩ := hd 5 rfl 11 rfl
 obtain ⟨v36, o37, e13⟩ := hd 7 rfl 13 rfl
 have fB := fB.gr q29
 have a42 : OffV v30 v32 := by have h9 := hp 1 3 rfl rfl rfl rfl rfl 7 9 rfl rfl; rwa [e7, e9] at h9
 have a43 : OffV v30 v34 := by have h9 := hp 1 5 rfl rfl rfl rfl rfl 7 11 rfl rfl; rwa [e7, e11] at h9
 have a44 : OffV v32 v34 := by have h9 := hp 3 5 rfl rfl rfl rfl rfl 9 11 rfl rfl; rwa [e9, e11] at h9
 refine ol_val (v := aggV [Seg.cell v30 o31.one, Seg.cell v32 o33.one, Seg.cell v34 o35.one, Seg.cell v36 o37.one, Seg.cell (.slice none 0 0) (by rfl), Seg.cell (.int .i64 (0 : Int)), Seg.cell (.int .i64 (-1)), Seg.cell (.int .i64 (0 : Int))]) (by exact xr_buildS (vals := [(0, v30), (1, v32), (2, v34), (3, v36), (6, .int .i64 (-1))]) (res := [Seg.cell v30 o31.one, Seg.cell v32 o33.one, Seg.cell v34 o35.one, Seg.cell v36 o37.one, Seg.cell (.slice none 0 0) (by rfl), Seg.cell (.int .i64 (0 : Int)), Seg.cell (.int .i64 (-1)), Seg.cell (.int .i64 (0 : Int))]) rfl ⟨rfl, e7, ⟨rfl, e9, ⟨rfl, e11, ⟨rfl, e13, ⟨rfl, rfl, trivial⟩⟩⟩⟩⟩ Try.underlying65 ze65 pl65 (fl_cons (xs := cellsOf [Seg.cell v30 o31.one]) (cs' := cellsOf [Seg.cell v30 o31.one, Seg.cell (.slice none 0 0) (by rfl), Seg.cell (.slice none 0 0) (by rfl), Seg.cell (.slice none 0 0) (by rfl), Seg.cell (.slice none 0 0) (by rfl), Seg.cell (.int .i64 (0 : Int)), Seg.cell (.int .i64 (0 : Int)), Seg.cell (.int .i64 (0 : Int))]) rfl (cells_one o31.one) (len_cellsOf _) (Spl.segs [Seg.cell (.slice none 0 0) (by rfl), Seg.cell (.slice none 0 0) (by rfl), Seg.cell (.slice none 0 0) (by rfl), Seg.cell (.slice none 0 0) (by rfl), Seg.cell (.slice none 0 0) (by rfl), Seg.cell (.int .i64 (0 : Int)), Seg.cell (.int .i64 (0 : Int)), Seg.cell (.int .i64 (0 : Int))] 0 1 [Seg.cell v30 o31.one] rfl rfl) (fl_cons (xs := cellsOf [Seg.cell v32 o33.one]) (cs' := cellsOf [Seg.cell v30 o31.one, Seg.cell v32 o33.one, Seg.cell (.slice none 0 0) (by rfl), Seg.cell (.slice none 0 0) (by rfl), Seg.cell (.slice none 0 0) (by rfl), Seg.cell (.int .i64 (0 : Int)), Seg.cell (.int .i64 (0 : Int)), Seg.cell (.int .i64 (0 : Int))]) rfl (cells_one o33.one) (len_cellsOf _) (Spl.segs [Seg.cell v30 o31.one, Seg.cell (.slice none 0 0) (by rfl), Seg.cell (.slice none 0 0) (by rfl), Seg.cell (.slice none 0 0) (by rfl), Seg.cell (.slice none 0 0) (by rfl), Seg.cell (.int .i64 (0 : Int)), Seg.cell (.int .i64 (0 : Int)), Seg.cell (.int .i64 (0 : Int))] 1 1 [Seg.cell v32 o33.one] rfl rfl) (fl_cons (xs := cellsOf [Seg.cell v34 o35.one]) (cs' := cellsOf [Seg.cell v30 o31.one, Seg.cell v32 o33.one, Seg.cell v34 o35.one, Seg.cell (.slice none 0 0) (by rfl), Seg.cell (.slice none 0 0) (by rfl), Seg.cell (.int .i64 (0 : Int)), Seg.cell (.int .i64 (0 : Int)), Seg.cell (.int .i64 (0 : Int))]) rfl (cells_one o35.one) (len_cellsOf _) (Spl.segs [Seg.cell v30 o31.one, Seg.cell v32 o33.one, Seg.cell (.slice none 0 0) (by rfl), Seg.cell (.slice none 0 0) (by rfl), Seg.cell (.slice none 0 0) (by rfl), Seg.cell (.int .i64 (0 : Int)), Seg.cell (.int .i64 (0 : Int)), Seg.cell (.int .i64 (0 : Int))] 2 1 [Seg.cell v34 o35.one] rfl rfl) (fl_cons (xs := cellsOf [Seg.cell v36 o37.one]) (cs' := cellsOf [Seg.cell v30 o31.one, Seg.cell v32 o33.one, Seg.cell v34 o35.one, Seg.cell v36 o37.one, Seg.cell (.slice none 0 0) (by rfl), Seg.cell (.int .i64 (0 : Int)), Seg.cell (.int .i64 (0 : Int)), Seg.cell (.int .i64 (0 : Int))]) rfl (cells_one o37.one) (len_cellsOf _) (Spl.segs [Seg.cell v30 o31.one, Seg.cell v32 o33.one, Seg.cell v34 o35.one, Seg.cell (.slice none 0 0) (by rfl), Seg.cell (.slice none 0 0) (by rfl), Seg.cell (.int .i64 (0 : Int)), Seg.cell (.int .i64 (0 : Int)), Seg.cell (.int .i64 (0 : Int))] 3 1 [Seg.cell v36 o37.one] rfl rfl) (fl_cons (xs := cellsOf [Seg.cell (.int .i64 (-1))]) (cs' := cellsOf [Seg.cell v30 o31.one, Seg.cell v32 o33.one, Seg.cell v34 o35.one, Seg.cell v36 o37.one, Seg.cell (.slice none 0 0) (by rfl), Seg.cell (.int .i64 (0 : Int)), Seg.cell (.int .i64 (-1)), Seg.cell (.int .i64 (0 : Int))]) rfl rfl (len_cellsOf _) (Spl.segs [Seg.cell v30 o31.one, Seg.cell v32 o33.one, Seg.cell v34 o35.one, Seg.cell v36 o37.one, Seg.cell (.slice none 0 0) (by rfl), Seg.cell (.int .i64 (0 : Int)), Seg.cell (.int .i64 (0 : Int)), Seg.cell (.int .i64 (0 : Int))] 6 1 [Seg.cell (.int .i64 (-1))] rfl rfl) fl_nil)))))) rfl rfl rfl ?_
 refine ol_op (by exact opv_box (ss := [Seg.cell v30 o31.one, Seg.cell v32 o33.one, Seg.cell v34 o35.one, Seg.cell v36 o37.one, Seg.cell (.slice none 0 0) (by rfl), Seg.cell (.int .i64 (0 : Int)), Seg.cell (.int .i64 (-1)), Seg.cell (.int .i64 (0 : Int))]) rfl rfl rfl) rfl rfl rfl ?_
 rintro _ w50 ⟨G45, rfl, b46, q47, z48⟩
 have z48 := Nat.le_trans fB.size z48
 have o31 := o31.gr q47
 have o33 := o33.gr q47
 have o35 := o35.gr q47
 have o37 := o37.gr q47
 have fB := fB.gr q47
 refine ol_val (v := .pointer (some ⟨G45, 0, none⟩)) (by exact xr_assign rfl rfl) rfl rfl rfl ?_
 refine ol_nil ?_
 refine cw_ret ?_
 repeat (first | with_reducible refine thn_r ?_ | with_reducible refine blk_r ?_)
 obtain rfl := Option.some.inj h
 refine fin_ret1 Try.results44 rfl ?_
 exact ⟨_, rfl, (.pointer (some ⟨G45, 0, none⟩)), ⟨G45, v30, v32, v34, v36, (.slice none 0 0), o31, o33, o35, o37, Own.nil _ _ _ _, a42, a43, a44, rfl, z48, b46⟩, rfl, fB⟩
end Go.Proofs.Ytklhbaghbmndeaa

/- rickyard/octet.Read: its model, and that the Go function computes it: written by gen.py. -/
set_option linter.unusedVariables false
namespace Go.Proofs.Ytklhbaghbmndeaa
open Go Go.Xw
def octet_Read.s0 (fu : Nat) (a0 : List Int) : (Int × Int) → Option (Sum Int (Int × Int)) := fun s3 => (if (decide (s3.2 < (List.length (cut a0 0 (mnI (List.length a0 : Int) 8)) : Int))) = true then (if 0 ≤ s3.2 ∧ s3.2 < (List.length (cut a0 0 (mnI (List.length a0 : Int) 8)) : Int) then (if 0 ≤ (IntKind.i64.wrap (8 * s3.2)) then some (Sum.inr ((bOr .u64 s3.1 (shL .u64 (IntKind.u64.wrap (ix (cut a0 0 (mnI (List.length a0 : Int) 8)) s3.2)) (IntKind.i64.wrap (8 * s3.2)))), (IntKind.i64.wrap (s3.2 + 1)))) else none) else none) else some (Sum.inl (s3.1)))
def octet_Read.f (fu : Nat) (a0 : List Int) : Option Int := (if 0 ≤ (mnI (List.length a0 : Int) 8) ∧ (mnI (List.length a0 : Int) 8) ≤ (List.length a0 : Int) then ((loopM (octet_Read.s0 fu a0) fu (0, 0)).bind fun e4 => some (e4)) else none)
set_option maxRecDepth 100000 in
set_option maxHeartbeats 400000 in
theorem octet_Read.ok (fu : Nat) (w : World) (a0 : List Int) (V0_0 : Value) (R0_0 : Rd (kI .u8) w V0_0 a0) (r : Int) (h : octet_Read.f fu a0 = some r) :
  Calls Try.prog 109 (([V0_0] : List Value).toArray) w (fun e w' => ∃ v, e = .returned v ∧ v = .int .u64 r ∧ Gr w w') := by
 unfold octet_Read.f at h
 have fB : Gr w w := Fr.refl _ _
 refine calls_cw Try.func109 rfl Try.ntmps109 rfl ?_
 refine cw_seq ?_
 refine cw_region ?_
 refine ol_val (v := .int .u64 0) (by exact xr_assign rfl rfl) rfl rfl rfl ?_
 refine ol_nil ?_
 refine cw_seq ?_
 refine cw_region ?_
 refine ol_val (v := .int .u64 0) (by exact xr_assign rfl rfl) rfl rfl rfl ?_
 refine ol_nil ?_
 refine cw_seq ?_
 refine cw_seq ?_
 refine cw_region ?_
 refine ol_val (v := V0_0) (by exact xr_move rfl rfl) rfl rfl rfl ?_
 refine ol_val (v := V0_0) (by exact xr_move rfl rfl) rfl rfl rfl ?_
 refine ol_val (v := .int .i64 (List.length a0 : Int)) (by exact xr_lenR rfl Try.underlying43 rfl (R0_0.gr fB)) rfl rfl rfl ?_
 refine ol_val (v := .int .i64 (mnI (List.length a0 : Int) 8)) (by exact xr_min2 rfl rfl rfl) rfl rfl rfl ?_
 obtain ⟨g2, h⟩ := gs h
 refine ol_val (v := subv 1 V0_0 0 (Int.toNat (mnI (List.length a0 : Int) 8))) (by exact xr_slice_h (K := (kI .u8)) (v := V0_0) rfl Try.underlying43 sz5 rfl (R0_0.gr fB) rfl g2.1 g2.2) rfl rfl rfl ?_
 have r1 : Rd (kI .u8) w (subv 1 V0_0 0 (Int.toNat (mnI (List.length a0 : Int) 8))) (cut a0 0 (mnI (List.length a0 : Int) 8)) := (R0_0.gr fB).cut (lo := 0) (hi := (mnI (List.length a0 : Int) 8)) (by decide) g2.1 g2.2
 refine ol_val (v := .int .i64 (List.length (cut a0 0 (mnI (List.length a0 : Int) 8)) : Int)) (by exact xr_lenR rfl Try.underlying43 rfl r1) rfl rfl rfl ?_
 refine ol_val (v := .int .i64 0) (by exact xr_move rfl rfl) rfl rfl rfl ?_
 refine ol_nil ?_
 obtain ⟨e4, l5, h6⟩ := bs h
 refine cw_mid (fun ρ' w' => ρ' 3 = .int .u64 e4 ∧ Gr w w') ?_ ?_
 ·refine cw_block ?_
  refine cw_round (fun (s3 : Int × Int) ρ' w' => ∃ r1 : Rd (kI .u8) w' (subv 1 V0_0 0 (Int.toNat (mnI (List.length a0 : Int) 8))) (cut a0 0 (mnI (List.length a0 : Int) 8)), ρ' 3 = .int .u64 s3.1 ∧ ρ' 10 = subv 1 V0_0 0 (Int.toNat (mnI (List.length a0 : Int) 8)) ∧ ρ' 11 = .int .i64 (List.length (cut a0 0 (mnI (List.length a0 : Int) 8)) : Int) ∧ ρ' 12 = .int .i64 s3.2 ∧ Gr w w') l5 ?_ ?_
  ·skip
   exact ⟨r1, rfl, rfl, rfl, rfl, fB⟩
  rintro s3 x9 ρ7 w8 ⟨r1, e3, e10, e11, e12, fB⟩ h
  unfold octet_Read.s0 at h
  refine cw_seq ?_
  refine cw_region ?_
  refine ol_val (v := .bool (decide (s3.2 < (List.length (cut a0 0 (mnI (List.length a0 : Int) 8)) : Int)))) (by exact xr_lss rfl e12 e11) rfl rfl rfl ?_
  refine ol_nil ?_
  refine cw_seq ?_
  rcases is h with ⟨c10, h⟩ | ⟨c10, h⟩
  ·refine cw_condT rfl c10 ?_
   refine cw_skip ?_
   refine cw_seq ?_
   refine cw_block ?_
   refine cw_seq ?_
   refine cw_region ?_
   refine ol_val (v := .int .i64 s3.2) (by exact xr_move rfl e12) rfl rfl rfl ?_
   obtain ⟨g11, h⟩ := gs h
   refine ol_val (v := .pointer (some ⟨(sb (subv 1 V0_0 0 (Int.toNat (mnI (List.length a0 : Int) 8)))), so (subv 1 V0_0 0 (Int.toNat (mnI (List.length a0 : Int) 8))) + Int.toNat s3.2 * 1, none⟩)) (by exact xr_indexR (K := (kI .u8)) (v := subv 1 V0_0 0 (Int.toNat (mnI (List.length a0 : Int) 8))) rfl Try.underlying43 sz5 e10 r1 e12 g11.1 g11.2) rfl rfl rfl ?_
   refine ol_val (v := .int .u8 (ix (cut a0 0 (mnI (List.length a0 : Int) 8)) s3.2)) (by exact xr_load1 (v := .int .u8 (ix (cut a0 0 (mnI (List.length a0 : Int) 8)) s3.2)) rfl ag5 rfl (r1.elem g11.1 g11.2)) rfl rfl rfl ?_
   refine ol_val (v := .int .i64 s3.2) (by exact xr_assign rfl rfl) rfl rfl rfl ?_
   refine ol_val (v := .int .u8 (ix (cut a0 0 (mnI (List.length a0 : Int) 8)) s3.2)) (by exact xr_assign rfl rfl) rfl rfl rfl ?_
   refine ol_nil ?_
   refine cw_region ?_
   refine ol_val (v := .int .u64 s3.1) (by exact xr_move rfl e3) rfl rfl rfl ?_
   refine ol_val (v := .int .u8 (ix (cut a0 0 (mnI (List.length a0 : Int) 8)) s3.2)) (by exact xr_move rfl rfl) rfl rfl rfl ?_
   refine ol_val (v := .int .u64 (IntKind.u64.wrap (ix (cut a0 0 (mnI (List.length a0 : Int) 8)) s3.2))) (by exact xr_conv rfl Try.underlying5 Try.underlying22 rfl) rfl rfl rfl ?_
   refine ol_val (v := .int .i64 s3.2) (by exact xr_move rfl rfl) rfl rfl rfl ?_
   refine ol_val (v := .int .i64 (IntKind.i64.wrap (8 * s3.2))) (by exact xr_mul rfl rfl rfl) rfl rfl rfl ?_
   obtain ⟨g12, h⟩ := gs h
   refine ol_val (v := .int .u64 (shL .u64 (IntKind.u64.wrap (ix (cut a0 0 (mnI (List.length a0 : Int) 8)) s3.2)) (IntKind.i64.wrap (8 * s3.2)))) (by exact xr_shl rfl rfl rfl g12) rfl rfl rfl ?_
   refine ol_val (v := .int .u64 (bOr .u64 s3.1 (shL .u64 (IntKind.u64.wrap (ix (cut a0 0 (mnI (List.length a0 : Int) 8)) s3.2)) (IntKind.i64.wrap (8 * s3.2))))) (by exact xr_or rfl rfl rfl) rfl rfl rfl ?_
   refine ol_val (v := .int .u64 (bOr .u64 s3.1 (shL .u64 (IntKind.u64.wrap (ix (cut a0 0 (mnI (List.length a0 : Int) 8)) s3.2)) (IntKind.i64.wrap (8 * s3.2))))) (by exact xr_assign rfl rfl) rfl rfl rfl ?_
   refine ol_nil ?_
   refine blk_i ?_
   refine cw_region ?_
   refine ol_val (v := .int .i64 (IntKind.i64.wrap (s3.2 + 1))) (by exact xr_add rfl e12 rfl) rfl rfl rfl ?_
   refine ol_val (v := .int .i64 (IntKind.i64.wrap (s3.2 + 1))) (by exact xr_move rfl rfl) rfl rfl rfl ?_
   refine ol_nil ?_
   obtain rfl := Option.some.inj h
   refine lp_in ?_
   exact ⟨r1, rfl, e10, e11, rfl, fB⟩
  refine cw_condF rfl c10 ?_
  refine cw_exit ?_
  repeat (first | with_reducible refine thn_e ?_ | with_reducible refine blk_e rfl ?_)
  obtain rfl := Option.some.inj h
  refine lp_exit ?_
  rintro rfl
  refine thn_x ?_
  exact ⟨e3, fB⟩
 rintro ρ13 w14 ⟨e3, fB⟩
 have h := h6
 refine cw_seq ?_
 refine cw_region ?_
 refine ol_val (v := .int .u64 e4) (by exact xr_move rfl e3) rfl rfl rfl ?_
 refine ol_val (v := .int .u64 e4) (by exact xr_assign rfl rfl) rfl rfl rfl ?_
 refine ol_nil ?_
 refine cw_ret ?_
 repeat (first | with_reducible refine thn_r ?_ | with_reducible refine blk_r ?_)
 obtain rfl := Option.some.inj h
 refine fin_ret1 Try.results109 rfl ?_
 exact ⟨_, rfl, rfl, fB⟩
end Go.Proofs.Ytklhbaghbmndeaa

/- rickyard/octet.Words: its model, and that the Go function computes it: written by gen.py. -/
set_option linter.unusedVariables false
namespace Go.Proofs.Ytklhbaghbmndeaa
open Go Go.Xw
def octet_Words.s0 (fu : Nat) : ((List Int) × (List Int)) → Option (Sum (List Int) ((List Int) × (List Int))) := fun s4 => (if (decide ((List.length s4.1 : Int) ≥ 8)) = true then ((octet_Read.f fu s4.1 : Option Int).bind fun t21 => (if List.length s4.2 + List.length [t21] ≤ LIM then (if (8 : Int) ≤ (List.length s4.1 : Int) then some (Sum.inr ((cut s4.1 8 (List.length s4.1 : Int)), (s4.2 ++ [t21]))) else none) else none)) else some (Sum.inl (s4.2)))
def octet_Words.f (fu : Nat) (a0 : List Int) : Option (List Int) := ((loopM (octet_Words.s0 fu) fu (a0, [])).bind fun e5 => some (e5))
set_option maxRecDepth 100000 in
set_option maxHeartbeats 400000 in
theorem octet_Words.ok (fu : Nat) (w : World) (a0 : List Int) (V0_0 : Value) (R0_0 : Rd (kI .u8) w V0_0 a0) (r : (List Int)) (h : octet_Words.f fu a0 = some r) :
  Calls Try.prog 99 (([V0_0] : List Value).toArray) w (fun e w' => ∃ v, e = .returned v ∧ ∃ u1 : Value, ∃ o2 : Own (kI .u64) 22 w' w.heap.size u1 r, v = u1 ∧ Gr w w') := by
 unfold octet_Words.f at h
 have fB : Gr w w := Fr.refl _ _
 refine calls_cw Try.func99 rfl Try.ntmps99 rfl ?_
 refine cw_seq ?_
 refine cw_region ?_
 refine ol_val (v := .slice none 0 0) (by exact xr_assign rfl rfl) rfl rfl rfl ?_
 refine ol_nil ?_
 refine cw_seq ?_
 refine cw_region ?_
 refine ol_val (v := .slice none 0 0) (by exact xr_assign rfl rfl) rfl rfl rfl ?_
 refine ol_nil ?_
 refine cw_seq ?_
 obtain ⟨e5, l6, h7⟩ := bs h
 refine cw_mid (fun ρ' w' => ∃ v8 : Value, ∃ o9 : Own (kI .u64) 22 w' w.heap.size v8 e5, ρ' 3 = v8 ∧ Gr w w') ?_ ?_
 ·refine cw_block ?_
  refine cw_round (fun (s4 : (List Int) × (List Int)) ρ' w' => ∃ v11 : Value, ∃ v13 : Value, ∃ o14 : Own (kI .u64) 22 w' w.heap.size v13 s4.2, ∃ r12 : Rd (kI .u8) w' v11 s4.1, OffRV v11 s4.1 v13 ∧ ρ' 0 = v11 ∧ ρ' 3 = v13 ∧ Gr w w') l6 ?_ ?_
  ·skip
   exact ⟨V0_0, (.slice none 0 0), Own.nil _ _ _ _, (R0_0.gr fB), (OffRV.nil _ _), rfl, rfl, fB⟩
  rintro s4 x19 ρ17 w18 ⟨v11, v13, o14, r12, a16, e0, e3, fB⟩ h
  unfold octet_Words.s0 at h
  refine cw_seq ?_
  refine cw_seq ?_
  refine cw_region ?_
  refine ol_val (v := v11) (by exact xr_move rfl e0) rfl rfl rfl ?_
  refine ol_val (v := .int .i64 (List.length s4.1 : Int)) (by exact xr_lenR rfl Try.underlying43 rfl r12) rfl rfl rfl ?_
  refine ol_val (v := .bool (decide ((List.length s4.1 : Int) ≥ 8))) (by exact xr_geq rfl rfl rfl) rfl rfl rfl ?_
  refine ol_nil ?_
  rcases is h with ⟨c20, h⟩ | ⟨c20, h⟩
  ·refine cw_condT rfl c20 ?_
   refine cw_skip ?_
   refine cw_block ?_
   refine cw_seq ?_
   refine cw_region ?_
   refine ol_val (v := v13) (by exact xr_move rfl e3) rfl rfl rfl ?_
   refine ol_val (v := v11) (by exact xr_move rfl e0) rfl rfl rfl ?_
   obtain ⟨t21, k22, h⟩ := bs h
   refine ol_op (by exact opv_call rfl cal109 (ac rfl an) (octet_Read.ok fu _ s4.1 v11 (r12) _ k22)) rfl rfl rfl ?_
   rintro _ w24 ⟨rfl, q23⟩
   have o14 := o14.gr q23
   have r12 := r12.gr q23
   have fB := fB.gr q23
   refine ol_op (by exact opv_buildSlice (K := (kI .u64)) (xs := [t21]) (vals := [.int .u64 t21]) rfl Try.underlying46 el22 rfl rfl ⟨rfl, rfl, trivial⟩ rfl rfl rfl fB.size) rfl rfl rfl ?_
   rintro v25 w30 ⟨o27, q26, z28⟩
   have a31 := OffV.new o14 z28
   have a32 := OffRV.new r12 z28 rfl
   have o14 := o14.gr q26
   have r12 := r12.gr q26
   have fB := fB.gr q26
   obtain ⟨g37, h⟩ := gs h
   have f39 := o14.geO
   refine ol_op (by exact opv_append (K := (kI .u64)) rfl Try.underlying46 el22 rfl rfl rfl rfl rfl o14 o27.rd g37 fB.size) rfl rfl rfl ?_
   rintro v33 w40 ⟨o34, q35, n36⟩
   have a41 := OffRV.app r12 a16 n36 rfl
   have fB := fB.wrO q35 f39
   have r12 := r12.wrV q35 a16
   refine ol_val (v := v33) (by exact xr_assign rfl rfl) rfl rfl rfl ?_
   refine ol_nil ?_
   refine cw_region ?_
   refine ol_val (v := v11) (by exact xr_move rfl e0) rfl rfl rfl ?_
   obtain ⟨g43, h⟩ := gs h
   refine ol_val (v := subv 1 v11 (Int.toNat 8) (List.length s4.1)) (by exact xr_slice_l (K := (kI .u8)) (v := v11) rfl Try.underlying43 sz5 rfl r12 rfl (by decide) g43) rfl rfl rfl ?_
   have r42 : Rd (kI .u8) w40 (subv 1 v11 (Int.toNat 8) (List.length s4.1)) (cut s4.1 8 (List.length s4.1 : Int)) := r12.cut (lo := 8) (hi := (List.length s4.1 : Int)) (by decide) g43 (Int.le_refl _)
   refine ol_val (v := subv 1 v11 (Int.toNat 8) (List.length s4.1)) (by exact xr_assign rfl rfl) rfl rfl rfl ?_
   refine ol_nil ?_
   refine blk_i ?_
   obtain rfl := Option.some.inj h
   refine lp_in ?_
   exact ⟨(subv 1 v11 (Int.toNat 8) (List.length s4.1)), v33, o34, r42, (OffRV.cut a41), rfl, rfl, fB⟩
  refine cw_condF rfl c20 ?_
  refine cw_exit ?_
  repeat (first | with_reducible refine thn_e ?_ | with_reducible refine blk_e rfl ?_)
  obtain rfl := Option.some.inj h
  refine lp_exit ?_
  rintro rfl
  refine thn_x ?_
  exact ⟨v13, o14, e3, fB⟩
 rintro ρ44 w45 ⟨v8, o9, e3, fB⟩
 have h := h7
 refine cw_seq ?_
 refine cw_region ?_
 refine ol_val (v := v8) (by exact xr_move rfl e3) rfl rfl rfl ?_
 refine ol_val (v := v8) (by exact xr_assign rfl rfl) rfl rfl rfl ?_
 refine ol_nil ?_
 refine cw_ret ?_
 repeat (first | with_reducible refine thn_r ?_ | with_reducible refine blk_r ?_)
 obtain rfl := Option.some.inj h
 refine fin_ret1 Try.results99 rfl ?_
 exact ⟨_, rfl, v8, o9, rfl, fB⟩
end Go.Proofs.Ytklhbaghbmndeaa

/- (*rickyard/pmem.Device).Lines: its model, and that the Go function computes it: written by gen.py. -/
set_option linter.unusedVariables false
namespace Go.Proofs.Ytklhbaghbmndeaa
open Go Go.Xw
def pmem_Device_Lines.f (fu : Nat) (a0 : S_pmem_Device) : Option Int := some ((IntKind.i64.wrap (Int.tdiv (List.length a0.cells : Int) 8)))
set_option maxRecDepth 100000 in
set_option maxHeartbeats 400000 in
theorem pmem_Device_Lines.ok (fu : Nat) (w : World) (a0 : S_pmem_Device) (G_0 : Nat) (V0_0 : Value) (R0_0 : Rd k_pmem_cell w V0_0 a0.cells) (V0_1 : Value) (R0_1 : Rd (kI .i64) w V0_1 a0.plan.list) (b_0 : Blk w G_0 139 [Seg.cell V0_0 R0_0.one, Seg.cell V0_1 R0_1.one, Seg.cell (.int .i64 a0.plan.at_), Seg.cell (.bool a0.off), Seg.cell (.bool a0.armed), Seg.cell (.int .i64 a0.left), Seg.cell (.int .i64 a0.steps)]) (r : Int) (h : pmem_Device_Lines.f fu a0 = some r) :
  Calls Try.prog 43 (([.pointer (some ⟨G_0, 0, none⟩)] : List Value).toArray) w (fun e w' => ∃ v, e = .returned v ∧ v = .int .i64 r ∧ Gr w w') := by
 unfold pmem_Device_Lines.f at h
 have fB : Gr w w := Fr.refl _ _
 refine calls_cw Try.func43 rfl Try.ntmps43 rfl ?_
 refine cw_seq ?_
 refine cw_region ?_
 refine ol_val (v := .int .i64 0) (by exact xr_assign rfl rfl) rfl rfl rfl ?_
 refine ol_nil ?_
 refine cw_seq ?_
 refine cw_region ?_
 refine ol_val (v := .pointer (some ⟨G_0, 0, none⟩)) (by exact xr_move rfl rfl) rfl rfl rfl ?_
 refine ol_val (v := .pointer (some ⟨G_0, 0, none⟩)) (by exact xr_nilCheck rfl rfl) rfl rfl rfl ?_
 refine ol_val (v := .pointer (some ⟨G_0, 0, none⟩)) (by exact xr_fieldAddr (p := 0) (q := 0) rfl fl139_0 rfl) rfl rfl rfl ?_
 refine ol_val (v := V0_0) (by exact xr_load1 (v := V0_0) rfl ag135 rfl (b_0.seg 0 rfl rfl)) rfl rfl rfl ?_
 refine ol_val (v := .int .i64 (List.length a0.cells : Int)) (by exact xr_lenR rfl Try.underlying135 rfl (R0_0.gr fB)) rfl rfl rfl ?_
 refine ol_val (v := .int .i64 (IntKind.i64.wrap (Int.tdiv (List.length a0.cells : Int) 8))) (by exact xr_quo rfl rfl rfl (by decide)) rfl rfl rfl ?_
 refine ol_val (v := .int .i64 (IntKind.i64.wrap (Int.tdiv (List.length a0.cells : Int) 8))) (by exact xr_assign rfl rfl) rfl rfl rfl ?_
 refine ol_nil ?_
 refine cw_ret ?_
 repeat (first | with_reducible refine thn_r ?_ | with_reducible refine blk_r ?_)
 obtain rfl := Option.some.inj h
 refine fin_ret1 Try.results43 rfl ?_
 exact ⟨_, rfl, rfl, fB⟩
end Go.Proofs.Ytklhbaghbmndeaa

/- rickyard/press.may: its model, and that the Go function computes it: written by gen.py. -/
set_option linter.unusedVariables false
namespace Go.Proofs.Ytklhbaghbmndeaa
open Go Go.Xw
def press_may.f (fu : Nat) (a0 : S_pmem_Device) (a1 : Int) : Option Int := (((if (decide (a1 < 0)) = true then some (true) else ((pmem_Device_Lines.f fu a0 : Option Int).bind fun t4 => some ((decide (a1 ≥ t4))))) : Option Bool).bind fun x1 => (if x1 = true then some (2) else some (0)))
set_option maxRecDepth 100000 in
set_option maxHeartbeats 400000 in
theorem press_may.ok (fu : Nat) (w : World) (a0 : S_pmem_Device) (G_0 : Nat) (V0_0 : Value) (R0_0 : Rd k_pmem_cell w V0_0 a0.cells) (V0_1 : Value) (R0_1 : Rd (kI .i64) w V0_1 a0.plan.list) (b_0 : Blk w G_0 139 [Seg.cell V0_0 R0_0.one, Seg.cell V0_1 R0_1.one, Seg.cell (.int .i64 a0.plan.at_), Seg.cell (.bool a0.off), Seg.cell (.bool a0.armed), Seg.cell (.int .i64 a0.left), Seg.cell (.int .i64 a0.steps)]) (a1 : Int) (r : Int) (h : press_may.f fu a0 a1 = some r) :
  Calls Try.prog 102 (([.pointer (some ⟨G_0, 0, none⟩), .int .i64 a1] : List Value).toArray) w (fun e w' => ∃ v, e = .returned v ∧ v = .int .i64 r ∧ Gr w w') := by
 unfold press_may.f at h
 have fB : Gr w w := Fr.refl _ _
 refine calls_cw Try.func102 rfl Try.ntmps102 rfl ?_
 refine cw_seq ?_
 refine cw_region ?_
 refine ol_val (v := .int .i64 0) (by exact xr_assign rfl rfl) rfl rfl rfl ?_
 refine ol_nil ?_
 refine cw_seq ?_
 refine cw_block ?_
 refine cw_seq ?_
 refine cw_region ?_
 refine ol_val (v := .pointer (some ⟨G_0, 0, none⟩)) (by exact xr_move rfl rfl) rfl rfl rfl ?_
 refine ol_val (v := .bool false) (by exact xr_eqP (b := false) rfl Try.underlying30 rfl rfl (by simp) (by simp)) rfl rfl rfl ?_
 refine ol_val (v := .bool false) (by exact xr_assign rfl rfl) rfl rfl rfl ?_
 refine ol_nil ?_
 refine cw_condF rfl rfl ?_
 refine cw_seq ?_
 obtain ⟨x1, j2, h⟩ := bs h
 refine cw_mid (fun ρ' w' => ρ' 8 = .bool x1 ∧ Gr w w') ?_ ?_
 ·skip
  refine cw_region ?_
  refine ol_val (v := .int .i64 a1) (by exact xr_move rfl rfl) rfl rfl rfl ?_
  refine ol_val (v := .bool (decide (a1 < 0))) (by exact xr_lss rfl rfl rfl) rfl rfl rfl ?_
  refine ol_val (v := .bool (decide (a1 < 0))) (by exact xr_move rfl rfl) rfl rfl rfl ?_
  rcases is j2 with ⟨c3, j2⟩ | ⟨c3, j2⟩
  ·skip
   refine ol_gskip rfl rfl rfl rfl rfl c3 ?_
   refine ol_gskip rfl rfl rfl rfl rfl c3 ?_
   refine ol_gskip rfl rfl rfl rfl rfl c3 ?_
   refine ol_gskip rfl rfl rfl rfl rfl c3 ?_
   refine ol_val (v := .bool true) (by exact xr_pickT rfl rfl c3 rfl) rfl rfl rfl ?_
   refine ol_val (v := .bool true) (by exact xr_assign rfl rfl) rfl rfl rfl ?_
   refine ol_nil ?_
   obtain rfl := Option.some.inj j2
   refine thn_i ?_
   exact ⟨rfl, Fr.refl _ _⟩
  refine ol_gval (v := .int .i64 a1) (by exact xr_move rfl rfl) rfl rfl rfl rfl rfl c3 ?_
  refine ol_gval (v := .pointer (some ⟨G_0, 0, none⟩)) (by exact xr_move rfl rfl) rfl rfl rfl rfl rfl c3 ?_
  obtain ⟨t4, k5, j2⟩ := bs j2
  refine ol_gop (by exact opv_call rfl cal43 (ac rfl an) (pmem_Device_Lines.ok fu _ a0 G_0 V0_0 (R0_0.gr fB) V0_1 (R0_1.gr fB) b_0 _ k5)) rfl rfl rfl rfl rfl c3 ?_
  rintro _ w7 ⟨rfl, q6⟩
  have b_0 := b_0.gr q6
  have fB := fB.gr q6
  refine ol_gval (v := .bool (decide (a1 ≥ t4))) (by exact xr_geq rfl rfl rfl) rfl rfl rfl rfl rfl c3 ?_
  refine ol_val (v := .bool (decide (a1 ≥ t4))) (by exact xr_pickF rfl rfl c3 rfl) rfl rfl rfl ?_
  refine ol_val (v := .bool (decide (a1 ≥ t4))) (by exact xr_assign rfl rfl) rfl rfl rfl ?_
  refine ol_nil ?_
  obtain rfl := Option.some.inj j2
  refine thn_i ?_
  exact ⟨rfl, q6⟩
 rintro ρ8 w9 ⟨e8, q10⟩
 have b_0 := b_0.gr q10
 have fB := fB.gr q10
 rcases is h with ⟨c11, h⟩ | ⟨c11, h⟩
 ·refine cw_condT e8 c11 ?_
  refine cw_seq ?_
  refine cw_region ?_
  refine ol_val (v := .int .i64 2) (by exact xr_assign rfl rfl) rfl rfl rfl ?_
  refine ol_nil ?_
  refine cw_ret ?_
  repeat (first | with_reducible refine thn_r ?_ | with_reducible refine blk_r ?_)
  obtain rfl := Option.some.inj h
  refine fin_ret1 Try.results102 rfl ?_
  exact ⟨_, rfl, rfl, fB⟩
 refine cw_condF e8 c11 ?_
 refine cw_skip ?_
 refine blk_i ?_
 refine cw_seq ?_
 refine cw_region ?_
 refine ol_val (v := .int .i64 0) (by exact xr_assign rfl rfl) rfl rfl rfl ?_
 refine ol_nil ?_
 refine cw_ret ?_
 repeat (first | with_reducible refine thn_r ?_ | with_reducible refine blk_r ?_)
 obtain rfl := Option.some.inj h
 refine fin_ret1 Try.results102 rfl ?_
 exact ⟨_, rfl, rfl, fB⟩
end Go.Proofs.Ytklhbaghbmndeaa

/- (*rickyard/pmem.Device).may: its model, and that the Go function computes it: written by gen.py. -/
set_option linter.unusedVariables false
namespace Go.Proofs.Ytklhbaghbmndeaa
open Go Go.Xw
def pmem_Device_may.f (fu : Nat) (a0 : S_pmem_Device) (a1 : Int) (a2 : Int) : Option Int := (if a0.off = true then some (3) else (if (if (decide (a1 < 0)) = true then true else (decide (a1 ≥ a2))) = true then some (2) else some (0)))
set_option maxRecDepth 100000 in
set_option maxHeartbeats 400000 in
theorem pmem_Device_may.ok (fu : Nat) (w : World) (a0 : S_pmem_Device) (G_0 : Nat) (V0_0 : Value) (R0_0 : Rd k_pmem_cell w V0_0 a0.cells) (V0_1 : Value) (R0_1 : Rd (kI .i64) w V0_1 a0.plan.list) (b_0 : Blk w G_0 139 [Seg.cell V0_0 R0_0.one, Seg.cell V0_1 R0_1.one, Seg.cell (.int .i64 a0.plan.at_), Seg.cell (.bool a0.off), Seg.cell (.bool a0.armed), Seg.cell (.int .i64 a0.left), Seg.cell (.int .i64 a0.steps)]) (a1 : Int) (a2 : Int) (r : Int) (h : pmem_Device_may.f fu a0 a1 a2 = some r) :
  Calls Try.prog 83 (([.pointer (some ⟨G_0, 0, none⟩), .int .i64 a1, .int .i64 a2] : List Value).toArray) w (fun e w' => ∃ v, e = .returned v ∧ v = .int .i64 r ∧ Gr w w') := by
 unfold pmem_Device_may.f at h
 have fB : Gr w w := Fr.refl _ _
 refine calls_cw Try.func83 rfl Try.ntmps83 rfl ?_
 refine cw_seq ?_
 refine cw_region ?_
 refine ol_val (v := .int .i64 0) (by exact xr_assign rfl rfl) rfl rfl rfl ?_
 refine ol_nil ?_
 refine cw_seq ?_
 refine cw_block ?_
 refine cw_seq ?_
 refine cw_region ?_
 refine ol_val (v := .pointer (some ⟨G_0, 0, none⟩)) (by exact xr_move rfl rfl) rfl rfl rfl ?_
 refine ol_val (v := .pointer (some ⟨G_0, 0, none⟩)) (by exact xr_nilCheck rfl rfl) rfl rfl rfl ?_
 refine ol_val (v := .pointer (some ⟨G_0, 3, none⟩)) (by exact xr_fieldAddr (p := 0) (q := 3) rfl fl139_2 rfl) rfl rfl rfl ?_
 refine ol_val (v := .bool a0.off) (by exact xr_load1 (v := .bool a0.off) rfl ag4 rfl (b_0.seg 3 rfl rfl)) rfl rfl rfl ?_
 refine ol_val (v := .bool a0.off) (by exact xr_assign rfl rfl) rfl rfl rfl ?_
 refine ol_nil ?_
 rcases is h with ⟨c1, h⟩ | ⟨c1, h⟩
 ·refine cw_condT rfl c1 ?_
  refine cw_seq ?_
  refine cw_region ?_
  refine ol_val (v := .int .i64 3) (by exact xr_assign rfl rfl) rfl rfl rfl ?_
  refine ol_nil ?_
  refine cw_ret ?_
  repeat (first | with_reducible refine thn_r ?_ | with_reducible refine blk_r ?_)
  obtain rfl := Option.some.inj h
  refine fin_ret1 Try.results83 rfl ?_
  exact ⟨_, rfl, rfl, fB⟩
 refine cw_condF rfl c1 ?_
 refine cw_seq ?_
 refine cw_mid (fun ρ' w' => ρ' 12 = .bool (if (decide (a1 < 0)) = true then true else (decide (a1 ≥ a2))) ∧ w = w') ?_ ?_
 ·skip
  refine cw_region ?_
  refine ol_val (v := .int .i64 a1) (by exact xr_move rfl rfl) rfl rfl rfl ?_
  refine ol_val (v := .bool (decide (a1 < 0))) (by exact xr_lss rfl rfl rfl) rfl rfl rfl ?_
  refine ol_val (v := .bool (decide (a1 < 0))) (by exact xr_move rfl rfl) rfl rfl rfl ?_
  rcases bt (decide (a1 < 0)) with c2 | c2
  ·skip
   refine ol_gskip rfl rfl rfl rfl rfl c2 ?_
   refine ol_gskip rfl rfl rfl rfl rfl c2 ?_
   refine ol_gskip rfl rfl rfl rfl rfl c2 ?_
   refine ol_val (v := .bool true) (by exact xr_pickT rfl rfl c2 rfl) rfl rfl rfl ?_
   refine ol_val (v := .bool true) (by exact xr_assign rfl rfl) rfl rfl rfl ?_
   refine ol_nil ?_
   refine thn_i ?_
   exact ⟨(rfl).trans (congrArg (fun z => (.bool z : Value)) (show true = (if (decide (a1 < 0)) = true then true else (decide (a1 ≥ a2))) from by rw [ite_t c2])), rfl⟩
  refine ol_gval (v := .int .i64 a1) (by exact xr_move rfl rfl) rfl rfl rfl rfl rfl c2 ?_
  refine ol_gval (v := .int .i64 a2) (by exact xr_move rfl rfl) rfl rfl rfl rfl rfl c2 ?_
  refine ol_gval (v := .bool (decide (a1 ≥ a2))) (by exact xr_geq rfl rfl rfl) rfl rfl rfl rfl rfl c2 ?_
  refine ol_val (v := .bool (decide (a1 ≥ a2))) (by exact xr_pickF rfl rfl c2 rfl) rfl rfl rfl ?_
  refine ol_val (v := .bool (decide (a1 ≥ a2))) (by exact xr_assign rfl rfl) rfl rfl rfl ?_
  refine ol_nil ?_
  refine thn_i ?_
  exact ⟨(rfl).trans (congrArg (fun z => (.bool z : Value)) (show (decide (a1 ≥ a2)) = (if (decide (a1 < 0)) = true then true else (decide (a1 ≥ a2))) from by rw [ite_f c2])), rfl⟩
 rintro ρ3 _ ⟨e12, rfl⟩
 rcases is h with ⟨c4, h⟩ | ⟨c4, h⟩
 ·refine cw_condT e12 c4 ?_
  refine cw_seq ?_
  refine cw_region ?_
  refine ol_val (v := .int .i64 2) (by exact xr_assign rfl rfl) rfl rfl rfl ?_
  refine ol_nil ?_
  refine cw_ret ?_
  repeat (first | with_reducible refine thn_r ?_ | with_reducible refine blk_r ?_)
  obtain rfl := Option.some.inj h
  refine fin_ret1 Try.results83 rfl ?_
  exact ⟨_, rfl, rfl, fB⟩
 refine cw_condF e12 c4 ?_
 refine cw_skip ?_
 refine blk_i ?_
 refine cw_seq ?_
 refine cw_region ?_
 refine ol_val (v := .int .i64 0) (by exact xr_assign rfl rfl) rfl rfl rfl ?_
 refine ol_nil ?_
 refine cw_ret ?_
 repeat (first | with_reducible refine thn_r ?_ | with_reducible refine blk_r ?_)
 obtain rfl := Option.some.inj h
 refine fin_ret1 Try.results83 rfl ?_
 exact ⟨_, rfl, rfl, fB⟩
end Go.Proofs.Ytklhbaghbmndeaa

/- (*rickyard/pmem.plan).next: its model, and that the Go function computes it: written by gen.py. -/
set_option linter.unusedVariables false
namespace Go.Proofs.Ytklhbaghbmndeaa
open Go Go.Xw
def pmem_plan_next__i0.f (fu : Nat) (a0 : S_pmem_plan) : Option (Int × S_pmem_plan) := (if (decide ((List.length a0.list : Int) = 0)) = true then some ((-1), a0) else (if 0 ≤ a0.at_ ∧ a0.at_ < (List.length a0.list : Int) then (if (List.length a0.list : Int) ≠ 0 then some ((ix a0.list a0.at_), (⟨a0.list, (Int.tmod (IntKind.i64.wrap (a0.at_ + 1)) (List.length a0.list : Int))⟩ : S_pmem_plan)) else none) else none))
set_option maxRecDepth 100000 in
set_option maxHeartbeats 400000 in
theorem pmem_plan_next__i0.ok (fu : Nat) (w : World) (a0 : S_pmem_plan) (G_0 : Nat) (T_0 : TypeId) (X_0 Y_0 : List Value) (V0_0 : Value) (R0_0 : Rd (kI .i64) w V0_0 a0.list) (N0_0 : OffR V0_0 a0.list G_0) (b_0 : SubB w G_0 T_0 X_0 [Seg.cell V0_0 R0_0.one, Seg.cell (.int .i64 a0.at_)] Y_0) (r : Int × S_pmem_plan) (h : pmem_plan_next__i0.f fu a0 = some r) :
  Calls Try.prog 123 (([.pointer (some ⟨G_0, List.length X_0, none⟩)] : List Value).toArray) w (fun e w' => ∃ v, e = .returned v ∧ v = .int .i64 r.1 ∧ SubB w' G_0 T_0 X_0 [Seg.cell V0_0 R0_0.one, Seg.cell (.int .i64 r.2.at_)] Y_0 ∧ Fr (fun j => j = G_0) w w') := by
 unfold pmem_plan_next__i0.f at h
 have fB : Fr (fun j => j = G_0) w w := Fr.refl _ _
 refine calls_cw Try.func123 rfl Try.ntmps123 rfl ?_
 refine cw_seq ?_
 refine cw_region ?_
 refine ol_val (v := .int .i64 0) (by exact xr_assign rfl rfl) rfl rfl rfl ?_
 refine ol_nil ?_
 refine cw_seq ?_
 refine cw_seq ?_
 refine cw_region ?_
 refine ol_val (v := .pointer (some ⟨G_0, List.length X_0, none⟩)) (by exact xr_move rfl rfl) rfl rfl rfl ?_
 refine ol_val (v := .pointer (some ⟨G_0, List.length X_0, none⟩)) (by exact xr_nilCheck rfl rfl) rfl rfl rfl ?_
 refine ol_val (v := .pointer (some ⟨G_0, List.length X_0 + 0, none⟩)) (by exact xr_fieldAddr (p := List.length X_0) (q := 0) rfl fl137_0 rfl) rfl rfl rfl ?_
 refine ol_val (v := V0_0) (by exact xr_load1 (v := V0_0) rfl ag25 rfl (b_0.seg 0 rfl rfl)) rfl rfl rfl ?_
 refine ol_val (v := .int .i64 (List.length a0.list : Int)) (by exact xr_lenR rfl Try.underlying25 rfl R0_0) rfl rfl rfl ?_
 refine ol_val (v := .bool (decide ((List.length a0.list : Int) = 0))) (by exact xr_eqI rfl Try.underlying3 rfl rfl rfl) rfl rfl rfl ?_
 refine ol_nil ?_
 rcases is h with ⟨c1, h⟩ | ⟨c1, h⟩
 ·refine cw_condT rfl c1 ?_
  refine cw_seq ?_
  refine cw_region ?_
  refine ol_val (v := .int .i64 (-1)) (by exact xr_assign rfl rfl) rfl rfl rfl ?_
  refine ol_nil ?_
  refine cw_ret ?_
  repeat (first | with_reducible refine thn_r ?_ | with_reducible refine blk_r ?_)
  obtain rfl := Option.some.inj h
  refine fin_ret1 Try.results123 rfl ?_
  exact ⟨_, rfl, rfl, b_0, fB⟩
 refine cw_condF rfl c1 ?_
 refine cw_skip ?_
 refine cw_seq ?_
 refine cw_drawL 8 [fun vz wz => vz = (.pointer (some ⟨G_0, List.length X_0, none⟩) : Value), fun vz wz => vz = (.pointer (some ⟨G_0, List.length X_0, none⟩) : Value), fun vz wz => vz = (.pointer (some ⟨G_0, List.length X_0 + 0, none⟩) : Value), fun vz wz => vz = (V0_0 : Value), fun vz wz => vz = (.pointer (some ⟨G_0, List.length X_0, none⟩) : Value), fun vz wz => vz = (.pointer (some ⟨G_0, List.length X_0, none⟩) : Value), fun vz wz => vz = (.pointer (some ⟨G_0, List.length X_0 + 1, none⟩) : Value), fun vz wz => vz = (.int .i64 a0.at_ : Value)] mo rfl ⟨fun _ _ _ h _ => h, fun _ _ _ h _ => h, fun _ _ _ h _ => h, fun _ _ _ h _ => h, fun _ _ _ h _ => h, fun _ _ _ h _ => h, fun _ _ _ h _ => h, fun _ _ _ h _ => h, trivial⟩ ?_ ?_
 ·refine ⟨?_, ?_, ?_, ?_, ?_, ?_, ?_, ?_, trivial⟩
  ·intro ρz wz hz hk hd
   exact sk_val (v := .pointer (some ⟨G_0, List.length X_0, none⟩)) (by exact xr_move rfl ((hk 0 rfl).trans rfl)) rfl rfl
  ·intro ρz wz hz hk hd
   have d10 := hd 0 rfl 10 rfl
   exact sk_val (v := .pointer (some ⟨G_0, List.length X_0, none⟩)) (by exact xr_nilCheck rfl d10) rfl rfl
  ·intro ρz wz hz hk hd
   have d11 := hd 1 rfl 11 rfl
   exact sk_val (v := .pointer (some ⟨G_0, List.length X_0 + 0, none⟩)) (by exact xr_fieldAddr (p := List.length X_0) (q := 0) rfl fl137_0 d11) rfl rfl
  ·intro ρz wz hz hk hd
   have d12 := hd 2 rfl 12 rfl
   exact sk_val (v := V0_0) (by exact xr_load1 (v := V0_0) rfl ag25 d12 ((b_0.gr hz).seg 0 rfl rfl)) rfl rfl
  ·intro ρz wz hz hk hd
   exact sk_val (v := .pointer (some ⟨G_0, List.length X_0, none⟩)) (by exact xr_move rfl ((hk 0 rfl).trans rfl)) rfl rfl
  ·intro ρz wz hz hk hd
   have d14 := hd 4 rfl 14 rfl
   exact sk_val (v := .pointer (some ⟨G_0, List.length X_0, none⟩)) (by exact xr_nilCheck rfl d14) rfl rfl
  ·intro ρz wz hz hk hd
   have d15 := hd 5 rfl 15 rfl
   exact sk_val (v := .pointer (some ⟨G_0, List.length X_0 + 1, none⟩)) (by exact xr_fieldAddr (p := List.length X_0) (q := 1) rfl fl137_1 d15) rfl rfl
  intro ρz wz hz hk hd
  have d16 := hd 6 rfl 16 rfl
  exact sk_val (v := .int .i64 a0.at_) (by exact xr_load1 (v := .int .i64 a0.at_) rfl ag3 d16 ((b_0.gr hz).seg 1 rfl rfl)) rfl rfl
 intro ρ2 w3 q4 hk hd
 have e0 := (hk 0 rfl).trans rfl
 have e13 := hd 3 rfl 13 rfl
 have e17 := hd 7 rfl 17 rfl
 have b_0 := b_0.gr q4
 have R0_0 := R0_0.gr q4
 have fB := fB.gr q4
 obtain ⟨g5, h⟩ := gs h
 refine ol_val (v := .pointer (some ⟨(sb V0_0), so V0_0 + Int.toNat a0.at_ * 1, none⟩)) (by exact xr_indexR (K := (kI .i64)) (v := V0_0) rfl Try.underlying25 sz3 e13 R0_0 e17 g5.1 g5.2) rfl rfl rfl ?_
 refine ol_val (v := .int .i64 (ix a0.list a0.at_)) (by exact xr_load1 (v := .int .i64 (ix a0.list a0.at_)) rfl ag3 rfl (R0_0.elem g5.1 g5.2)) rfl rfl rfl ?_
 refine ol_val (v := .int .i64 (ix a0.list a0.at_)) (by exact xr_assign rfl rfl) rfl rfl rfl ?_
 refine ol_nil ?_
 refine cw_seq ?_
 obtain ⟨g6, h⟩ := gs h
 refine cw_drawL 12 [fun vz wz => vz = (.pointer (some ⟨G_0, List.length X_0, none⟩) : Value), fun vz wz => vz = (.pointer (some ⟨G_0, List.length X_0, none⟩) : Value), fun vz wz => vz = (.pointer (some ⟨G_0, List.length X_0, none⟩) : Value), fun vz wz => vz = (.pointer (some ⟨G_0, List.length X_0 + 1, none⟩) : Value), fun vz wz => vz = (.int .i64 a0.at_ : Value), fun vz wz => vz = (.int .i64 (IntKind.i64.wrap (a0.at_ + 1)) : Value), fun vz wz => vz = (.pointer (some ⟨G_0, List.length X_0, none⟩) : Value), fun vz wz => vz = (.pointer (some ⟨G_0, List.length X_0, none⟩) : Value), fun vz wz => vz = (.pointer (some ⟨G_0, List.length X_0 + 0, none⟩) : Value), fun vz wz => vz = (V0_0 : Value), fun vz wz => vz = (.int .i64 (List.length a0.list : Int) : Value), fun vz wz => vz = (.int .i64 (Int.tmod (IntKind.i64.wrap (a0.at_ + 1)) (List.length a0.list : Int)) : Value)] mo rfl ⟨fun _ _ _ h _ => h, fun _ _ _ h _ => h, fun _ _ _ h _ => h, fun _ _ _ h _ => h, fun _ _ _ h _ => h, fun _ _ _ h _ => h, fun _ _ _ h _ => h, fun _ _ _ h _ => h, fun _ _ _ h _ => h, fun _ _ _ h _ => h, fun _ _ _ h _ => h, fun _ _ _ h _ => h, trivial⟩ ?_ ?_
 ·refine ⟨?_, ?_, ?_, ?_, ?_, ?_, ?_, ?_, ?_, ?_, ?_, ?_, trivial⟩
  ·intro ρz wz hz hk hd
   exact sk_val (v := .pointer (some ⟨G_0, List.length X_0, none⟩)) (by exact xr_move rfl ((hk 0 rfl).trans e0)) rfl rfl
  ·intro ρz wz hz hk hd
   exact sk_val (v := .pointer (some ⟨G_0, List.length X_0, none⟩)) (by exact xr_move rfl ((hk 0 rfl).trans e0)) rfl rfl
  ·intro ρz wz hz hk hd
   have d21 := hd 1 rfl 21 rfl
   exact sk_val (v := .pointer (some ⟨G_0, List.length X_0, none⟩)) (by exact xr_nilCheck rfl d21) rfl rfl
  ·intro ρz wz hz hk hd
   have d22 := hd 2 rfl 22 rfl
   exact sk_val (v := .pointer (some ⟨G_0, List.length X_0 + 1, none⟩)) (by exact xr_fieldAddr (p := List.length X_0) (q := 1) rfl fl137_1 d22) rfl rfl
  ·intro ρz wz hz hk hd
   have d23 := hd 3 rfl 23 rfl
   exact sk_val (v := .int .i64 a0.at_) (by exact xr_load1 (v := .int .i64 a0.at_) rfl ag3 d23 ((b_0.gr hz).seg 1 rfl rfl)) rfl rfl
  ·intro ρz wz hz hk hd
   have d24 := hd 4 rfl 24 rfl
   exact sk_val (v := .int .i64 (IntKind.i64.wrap (a0.at_ + 1))) (by exact xr_add rfl d24 rfl) rfl rfl
  ·intro ρz wz hz hk hd
   exact sk_val (v := .pointer (some ⟨G_0, List.length X_0, none⟩)) (by exact xr_move rfl ((hk 0 rfl).trans e0)) rfl rfl
  ·intro ρz wz hz hk hd
   have d26 := hd 6 rfl 26 rfl
   exact sk_val (v := .pointer (some ⟨G_0, List.length X_0, none⟩)) (by exact xr_nilCheck rfl d26) rfl rfl
  ·intro ρz wz hz hk hd
   have d27 := hd 7 rfl 27 rfl
   exact sk_val (v := .pointer (some ⟨G_0, List.length X_0 + 0, none⟩)) (by exact xr_fieldAddr (p := List.length X_0) (q := 0) rfl fl137_0 d27) rfl rfl
  ·intro ρz wz hz hk hd
   have d28 := hd 8 rfl 28 rfl
   exact sk_val (v := V0_0) (by exact xr_load1 (v := V0_0) rfl ag25 d28 ((b_0.gr hz).seg 0 rfl rfl)) rfl rfl
  ·intro ρz wz hz hk hd
   have d29 := hd 9 rfl 29 rfl
   exact sk_val (v := .int .i64 (List.length a0.list : Int)) (by exact xr_lenR rfl Try.underlying25 d29 (R0_0.gr hz)) rfl rfl
  intro ρz wz hz hk hd
  have d25 := hd 5 rfl 25 rfl
  have d30 := hd 10 rfl 30 rfl
  exact sk_val (by exact xr_rem rfl d25 d30 g6) rfl rfl
 intro ρ7 w8 q9 hk hd
 have e3 := (hk 3 rfl).trans rfl
 have e20 := hd 0 rfl 20 rfl
 have e31 := hd 11 rfl 31 rfl
 have b_0 := b_0.gr q9
 have R0_0 := R0_0.gr q9
 have fB := fB.gr q9
 refine ol_val (v := .pointer (some ⟨G_0, List.length X_0, none⟩)) (by exact xr_nilCheck rfl e20) rfl rfl rfl ?_
 refine ol_val (v := .pointer (some ⟨G_0, List.length X_0 + 1, none⟩)) (by exact xr_fieldAddr (p := List.length X_0) (q := 1) rfl fl137_1 rfl) rfl rfl rfl ?_
 refine ol_op0 (by exact opv_storeSub (ss' := [Seg.cell V0_0 R0_0.one, Seg.cell (.int .i64 (Int.tmod (IntKind.i64.wrap (a0.at_ + 1)) (List.length a0.list : Int)))]) (xs := cellsOf [Seg.cell (.int .i64 (Int.tmod (IntKind.i64.wrap (a0.at_ + 1)) (List.length a0.list : Int)))]) rfl sz3 rfl e31 rfl (len_cellsOf _) (one_cellsOf _) b_0 (Spl.segs _ 1 1 [Seg.cell (.int .i64 (Int.tmod (IntKind.i64.wrap (a0.at_ + 1)) (List.length a0.list : Int)))] rfl rfl)) rfl rfl ?_
 rintro _ w11 ⟨b_0, q10⟩
 have R0_0 := R0_0.wr q10 N0_0
 have fB := fB.wrS q10 rfl
 refine ol_nil ?_
 refine cw_seq ?_
 refine cw_region ?_
 refine ol_val (v := .int .i64 (ix a0.list a0.at_)) (by exact xr_move rfl e3) rfl rfl rfl ?_
 refine ol_val (v := .int .i64 (ix a0.list a0.at_)) (by exact xr_assign rfl rfl) rfl rfl rfl ?_
 refine ol_nil ?_
 refine cw_ret ?_
 repeat (first | with_reducible refine thn_r ?_ | with_reducible refine blk_r ?_)
 obtain rfl := Option.some.inj h
 refine fin_ret1 Try.results123 rfl ?_
 exact ⟨_, rfl, rfl, b_0, fB⟩
end Go.Proofs.Ytklhbaghbmndeaa

/- (*rickyard/pmem.Device).step: its model, and that the Go function computes it: written by gen.py. -/
set_option linter.unusedVariables false
namespace Go.Proofs.Ytklhbaghbmndeaa
open Go Go.Xw
def pmem_Device_step.f (fu : Nat) (a0 : S_pmem_Device) : Option S_pmem_Device := ((pmem_plan_next__i0.f fu a0.plan : Option (Int × S_pmem_plan)).bind fun t11 => (((if (if (decide (t11.1 ≥ 0)) = true then (decide ((List.length a0.cells : Int) > 0)) else false) = true then (if (List.length a0.cells : Int) ≠ 0 then (if 0 ≤ (Int.tmod t11.1 (List.length a0.cells : Int)) ∧ (Int.tmod t11.1 (List.length a0.cells : Int)) < (List.length a0.cells : Int) then ((pmem_cell_keep__i0.f fu (ix a0.cells (Int.tmod t11.1 (List.length a0.cells : Int))) ((ix a0.cells (Int.tmod t11.1 (List.length a0.cells : Int))).stored) : Option S_pmem_cell).bind fun t35 => some ((List.set a0.cells (Int.toNat (Int.tmod t11.1 (List.length a0.cells : Int))) t35))) else none) else none) else some (a0.cells)) : Option (List S_pmem_cell)).bind fun x20 => (((if a0.armed = true then some ((decide ((IntKind.i64.wrap (a0.left - 1)) = 0)), (IntKind.i64.wrap (a0.left - 1))) else some (a0.off, a0.left)) : Option (Bool × Int)).bind fun x45 => some ((⟨x20, (⟨a0.plan.list, t11.2.at_⟩ : S_pmem_plan), x45.1, a0.armed, x45.2, (IntKind.i64.wrap (a0.steps + 1))⟩ : S_pmem_Device)))))
set_option maxRecDepth 100000 in
set_option maxHeartbeats 400000 in
theorem pmem_Device_step.ok (fu : Nat) (w : World) (a0 : S_pmem_Device) (G_0 : Nat) (V0_0 : Value) (O0_0 : Own k_pmem_cell 142 w 0 V0_0 a0.cells) (V0_1 : Value) (O0_1 : Own (kI .i64) 3 w 0 V0_1 a0.plan.list) (b_0 : Blk w G_0 139 [Seg.cell V0_0 O0_0.one, Seg.cell V0_1 O0_1.one, Seg.cell (.int .i64 a0.plan.at_), Seg.cell (.bool a0.off), Seg.cell (.bool a0.armed), Seg.cell (.int .i64 a0.left), Seg.cell (.int .i64 a0.steps)]) (r : S_pmem_Device) (h : pmem_Device_step.f fu a0 = some r) :
  Calls Try.prog 84 (([.pointer (some ⟨G_0, 0, none⟩)] : List Value).toArray) w (fun e w' => ∃ v, e = .returned v ∧ ∃ u1 : Value, ∃ u4 : Value, ∃ o2 : Own k_pmem_cell 142 w' 0 u1 r.cells, ∃ m3 : ∀ g, Value.ownBlock u1 = some g → w.heap.size ≤ g ∨ (g = G_0 ∨ some g = Value.ownBlock V0_0 ∨ some g = Value.ownBlock V0_1), ∃ o5 : Own (kI .i64) 3 w' 0 u4 r.plan.list, ∃ m6 : ∀ g, Value.ownBlock u4 = some g → w.heap.size ≤ g ∨ (g = G_0 ∨ some g = Value.ownBlock V0_0 ∨ some g = Value.ownBlock V0_1), v = .tuple #[] ∧ Blk w' G_0 139 [Seg.cell u1 o2.one, Seg.cell u4 o5.one, Seg.cell (.int .i64 r.plan.at_), Seg.cell (.bool r.off), Seg.cell (.bool r.armed), Seg.cell (.int .i64 r.left), Seg.cell (.int .i64 r.steps)] ∧ Fr (fun j => j = G_0 ∨ some j = Value.ownBlock V0_0 ∨ some j = Value.ownBlock V0_1) w w') := by
 unfold pmem_Device_step.f at h
 have fB : Fr (fun j => j = G_0 ∨ some j = Value.ownBlock V0_0 ∨ some j = Value.ownBlock V0_1) w w := Fr.refl _ _
 have M0_0 : ∀ g, Value.ownBlock V0_0 = some g → w.heap.size ≤ g ∨ (g = G_0 ∨ some g = Value.ownBlock V0_0 ∨ some g = Value.ownBlock V0_1) := fun g hg => .inr (.inr (.inl hg.symm))
 have M0_1 : ∀ g, Value.ownBlock V0_1 = some g → w.heap.size ≤ g ∨ (g = G_0 ∨ some g = Value.ownBlock V0_0 ∨ some g = Value.ownBlock V0_1) := fun g hg => .inr (.inr (.inr hg.symm))
 refine calls_cw Try.func84 rfl Try.ntmps84 rfl ?_
 refine cw_seq ?_
 refine cw_region ?_
 refine ol_val (v := .pointer (some ⟨G_0, 0, none⟩)) (by exact xr_move rfl rfl) rfl rfl rfl ?_
 refine ol_val (v := .pointer (some ⟨G_0, 0, none⟩)) (by exact xr_nilCheck rfl rfl) rfl rfl rfl ?_
 refine ol_val (v := .pointer (some ⟨G_0, 6, none⟩)) (by exact xr_fieldAddr (p := 0) (q := 6) rfl fl139_5 rfl) rfl rfl rfl ?_
 refine ol_val (v := .int .i64 a0.steps) (by exact xr_load1 (v := .int .i64 a0.steps) rfl ag3 rfl (b_0.seg 6 rfl rfl)) rfl rfl rfl ?_
 refine ol_val (v := .int .i64 (IntKind.i64.wrap (a0.steps + 1))) (by exact xr_add rfl rfl rfl) rfl rfl rfl ?_
 refine ol_val (v := .pointer (some ⟨G_0, 0, none⟩)) (by exact xr_nilCheck rfl rfl) rfl rfl rfl ?_
 refine ol_val (v := .pointer (some ⟨G_0, 6, none⟩)) (by exact xr_fieldAddr (p := 0) (q := 6) rfl fl139_5 rfl) rfl rfl rfl ?_
 have f8 := off_ty b_0 O0_0 (by decide)
 have f9 := off_ty b_0 O0_1 (by decide)
 refine ol_op0 (by exact opv_store (ss' := [Seg.cell V0_0 O0_0.one, Seg.cell V0_1 O0_1.one, Seg.cell (.int .i64 a0.plan.at_), Seg.cell (.bool a0.off), Seg.cell (.bool a0.armed), Seg.cell (.int .i64 a0.left), Seg.cell (.int .i64 (IntKind.i64.wrap (a0.steps + 1)))]) (xs := cellsOf [Seg.cell (.int .i64 (IntKind.i64.wrap (a0.steps + 1)))]) rfl sz3 rfl rfl rfl (len_cellsOf _) (one_cellsOf _) b_0 (Spl.segs _ 6 1 [Seg.cell (.int .i64 (IntKind.i64.wrap (a0.steps + 1)))] rfl rfl)) rfl rfl ?_
 rintro _ w10 ⟨b_0, q7⟩
 have O0_0 := O0_0.wr q7 f8
 have O0_1 := O0_1.wr q7 f9
 have fB := fB.wrS q7 (.inl rfl)
 refine ol_nil ?_
 refine cw_seq ?_
 refine cw_seq ?_
 refine cw_region ?_
 refine ol_val (v := .pointer (some ⟨G_0, 0, none⟩)) (by exact xr_move rfl rfl) rfl rfl rfl ?_
 refine ol_val (v := .pointer (some ⟨G_0, 0, none⟩)) (by exact xr_nilCheck rfl rfl) rfl rfl rfl ?_
 refine ol_val (v := .pointer (some ⟨G_0, 1, none⟩)) (by exact xr_fieldAddr (p := 0) (q := 1) rfl fl139_1 rfl) rfl rfl rfl ?_
 obtain ⟨t11, k12, h⟩ := bs h
 have f15 := off_ty b_0 O0_0 (by decide)
 have f16 := off_ty b_0 O0_1 (by decide)
 refine ol_op (by exact opv_call rfl cal123 (ac (ptrE (q := List.length (cellsOf [Seg.cell V0_0 O0_0.one])) rfl (len_cellsOf _)) an) (pmem_plan_next__i0.ok fu _ a0.plan G_0 139 (cellsOf [Seg.cell V0_0 O0_0.one]) _ V0_1 O0_1.rd (OffR.own O0_1 (off_ty b_0 O0_1 (by decide))) (b_0.sub 1 2) _ k12)) rfl rfl rfl ?_
 rintro _ w17 ⟨rfl, b14, q13⟩
 have b_0 : Blk w17 G_0 139 [Seg.cell V0_0 O0_0.one, Seg.cell V0_1 O0_1.one, Seg.cell (.int .i64 t11.2.at_), Seg.cell (.bool a0.off), Seg.cell (.bool a0.armed), Seg.cell (.int .i64 a0.left), Seg.cell (.int .i64 (IntKind.i64.wrap (a0.steps + 1)))] := Blk.unsub (pre := [Seg.cell V0_0 O0_0.one]) (mid := [Seg.cell V0_1 O0_1.one, Seg.cell (.int .i64 t11.2.at_)]) (post := [Seg.cell (.bool a0.off), Seg.cell (.bool a0.armed), Seg.cell (.int .i64 a0.left), Seg.cell (.int .i64 (IntKind.i64.wrap (a0.steps + 1)))]) b14
 have O0_0 := O0_0.wr q13 f15
 have O0_1 := O0_1.wr q13 f16
 have fB := fB.wrS q13 (.inl rfl)
 refine ol_val (v := .int .i64 t11.1) (by exact xr_assign rfl rfl) rfl rfl rfl ?_
 refine ol_nil ?_
 refine cw_seq ?_
 refine cw_mid (fun ρ' w' => ρ' 0 = .pointer (some ⟨G_0, 0, none⟩) ∧ ρ' 2 = .int .i64 t11.1 ∧ ρ' 24 = .bool (if (decide (t11.1 ≥ 0)) = true then (decide ((List.length a0.cells : Int) > 0)) else false) ∧ w17 = w') ?_ ?_
 ·skip
  refine cw_region ?_
  refine ol_val (v := .int .i64 t11.1) (by exact xr_move rfl rfl) rfl rfl rfl ?_
  refine ol_val (v := .bool (decide (t11.1 ≥ 0))) (by exact xr_geq rfl rfl rfl) rfl rfl rfl ?_
  refine ol_val (v := .bool (decide (t11.1 ≥ 0))) (by exact xr_move rfl rfl) rfl rfl rfl ?_
  rcases bt (decide (t11.1 ≥ 0)) with c18 | c18
  ·skip
   refine ol_gval (v := .pointer (some ⟨G_0, 0, none⟩)) (by exact xr_move rfl rfl) rfl rfl rfl rfl rfl c18 ?_
   refine ol_gval (v := .pointer (some ⟨G_0, 0, none⟩)) (by exact xr_nilCheck rfl rfl) rfl rfl rfl rfl rfl c18 ?_
   refine ol_gval (v := .pointer (some ⟨G_0, 0, none⟩)) (by exact xr_fieldAddr (p := 0) (q := 0) rfl fl139_0 rfl) rfl rfl rfl rfl rfl c18 ?_
   refine ol_gval (v := V0_0) (by exact xr_load1 (v := V0_0) rfl ag135 rfl (b_0.seg 0 rfl rfl)) rfl rfl rfl rfl rfl c18 ?_
   refine ol_gval (v := .int .i64 (List.length a0.cells : Int)) (by exact xr_lenR rfl Try.underlying135 rfl O0_0.rd) rfl rfl rfl rfl rfl c18 ?_
   refine ol_gval (v := .bool (decide ((List.length a0.cells : Int) > 0))) (by exact xr_gtr rfl rfl rfl) rfl rfl rfl rfl rfl c18 ?_
   refine ol_val (v := .bool (decide ((List.length a0.cells : Int) > 0))) (by exact xr_pickT rfl rfl c18 rfl) rfl rfl rfl ?_
   refine ol_nil ?_
   refine thn_i ?_
   exact ⟨rfl, rfl, (rfl).trans (congrArg (fun z => (.bool z : Value)) (show (decide ((List.length a0.cells : Int) > 0)) = (if (decide (t11.1 ≥ 0)) = true then (decide ((List.length a0.cells : Int) > 0)) else false) from by rw [ite_t c18])), rfl⟩
  refine ol_gskip rfl rfl rfl rfl rfl c18 ?_
  refine ol_gskip rfl rfl rfl rfl rfl c18 ?_
  refine ol_gskip rfl rfl rfl rfl rfl c18 ?_
  refine ol_gskip rfl rfl rfl rfl rfl c18 ?_
  refine ol_gskip rfl rfl rfl rfl rfl c18 ?_
  refine ol_gskip rfl rfl rfl rfl rfl c18 ?_
  refine ol_val (v := .bool false) (by exact xr_pickF rfl rfl c18 rfl) rfl rfl rfl ?_
  refine ol_nil ?_
  refine thn_i ?_
  exact ⟨rfl, rfl, (rfl).trans (congrArg (fun z => (.bool z : Value)) (show false = (if (decide (t11.1 ≥ 0)) = true then (decide ((List.length a0.cells : Int) > 0)) else false) from by rw [ite_f c18])), rfl⟩
 rintro ρ19 _ ⟨e0, e2, e24, rfl⟩
 obtain ⟨x20, j21, h22⟩ := bs h
 refine cw_mid (fun ρ' w' => ∃ O0_0 : Own k_pmem_cell 142 w' 0 V0_0 x20, ∃ O0_1 : Own (kI .i64) 3 w' 0 V0_1 a0.plan.list, ρ' 0 = .pointer (some ⟨G_0, 0, none⟩) ∧ Blk w' G_0 139 [Seg.cell V0_0 O0_0.one, Seg.cell V0_1 O0_1.one, Seg.cell (.int .i64 t11.2.at_), Seg.cell (.bool a0.off), Seg.cell (.bool a0.armed), Seg.cell (.int .i64 a0.left), Seg.cell (.int .i64 (IntKind.i64.wrap (a0.steps + 1)))] ∧ Fr (fun j => j = G_0 ∨ some j = Value.ownBlock V0_0 ∨ some j = Value.ownBlock V0_1) w w') ?_ ?_
 ·have h := j21
  rcases is h with ⟨c23, h⟩ | ⟨c23, h⟩
  ·refine cw_condT e24 c23 ?_
   refine cw_seq ?_
   obtain ⟨g24, h⟩ := gs h
   refine cw_drawL 11 [fun vz wz => vz = (.pointer (some ⟨G_0, 0, none⟩) : Value), fun vz wz => vz = (.pointer (some ⟨G_0, 0, none⟩) : Value), fun vz wz => vz = (.pointer (some ⟨G_0, 0, none⟩) : Value), fun vz wz => vz = (V0_0 : Value), fun vz wz => vz = (.int .i64 t11.1 : Value), fun vz wz => vz = (.pointer (some ⟨G_0, 0, none⟩) : Value), fun vz wz => vz = (.pointer (some ⟨G_0, 0, none⟩) : Value), fun vz wz => vz = (.pointer (some ⟨G_0, 0, none⟩) : Value), fun vz wz => vz = (V0_0 : Value), fun vz wz => vz = (.int .i64 (List.length a0.cells : Int) : Value), fun vz wz => vz = (.int .i64 (Int.tmod t11.1 (List.length a0.cells : Int)) : Value)] mo rfl ⟨fun _ _ _ h _ => h, fun _ _ _ h _ => h, fun _ _ _ h _ => h, fun _ _ _ h _ => h, fun _ _ _ h _ => h, fun _ _ _ h _ => h, fun _ _ _ h _ => h, fun _ _ _ h _ => h, fun _ _ _ h _ => h, fun _ _ _ h _ => h, fun _ _ _ h _ => h, trivial⟩ ?_ ?_
   ·refine ⟨?_, ?_, ?_, ?_, ?_, ?_, ?_, ?_, ?_, ?_, ?_, trivial⟩
    ·intro ρz wz hz hk hd
     exact sk_val (v := .pointer (some ⟨G_0, 0, none⟩)) (by exact xr_move rfl ((hk 0 rfl).trans e0)) rfl rfl
    ·intro ρz wz hz hk hd
     have d25 := hd 0 rfl 25 rfl
     exact sk_val (v := .pointer (some ⟨G_0, 0, none⟩)) (by exact xr_nilCheck rfl d25) rfl rfl
    ·intro ρz wz hz hk hd
     have d26 := hd 1 rfl 26 rfl
     exact sk_val (v := .pointer (some ⟨G_0, 0, none⟩)) (by exact xr_fieldAddr (p := 0) (q := 0) rfl fl139_0 d26) rfl rfl
    ·intro ρz wz hz hk hd
     have d27 := hd 2 rfl 27 rfl
     exact sk_val (v := V0_0) (by exact xr_load1 (v := V0_0) rfl ag135 d27 ((b_0.gr hz).seg 0 rfl rfl)) rfl rfl
    ·intro ρz wz hz hk hd
     exact sk_val (v := .int .i64 t11.1) (by exact xr_move rfl ((hk 2 rfl).trans e2)) rfl rfl
    ·intro ρz wz hz hk hd
     exact sk_val (v := .pointer (some ⟨G_0, 0, none⟩)) (by exact xr_move rfl ((hk 0 rfl).trans e0)) rfl rfl
    ·intro ρz wz hz hk hd
     have d30 := hd 5 rfl 30 rfl
     exact sk_val (v := .pointer (some ⟨G_0, 0, none⟩)) (by exact xr_nilCheck rfl d30) rfl rfl
    ·intro ρz wz hz hk hd
     have d31 := hd 6 rfl 31 rfl
     exact sk_val (v := .pointer (some ⟨G_0, 0, none⟩)) (by exact xr_fieldAddr (p := 0) (q := 0) rfl fl139_0 d31) rfl rfl
    ·intro ρz wz hz hk hd
     have d32 := hd 7 rfl 32 rfl
     exact sk_val (v := V0_0) (by exact xr_load1 (v := V0_0) rfl ag135 d32 ((b_0.gr hz).seg 0 rfl rfl)) rfl rfl
    ·intro ρz wz hz hk hd
     have d33 := hd 8 rfl 33 rfl
     exact sk_val (v := .int .i64 (List.length a0.cells : Int)) (by exact xr_lenR rfl Try.underlying135 d33 (O0_0.gr hz).rd) rfl rfl
    intro ρz wz hz hk hd
    have d29 := hd 4 rfl 29 rfl
    have d34 := hd 9 rfl 34 rfl
    exact sk_val (v := .int .i64 (Int.tmod t11.1 (List.length a0.cells : Int))) (by exact xr_rem rfl d29 d34 g24) rfl rfl
   intro ρ25 w26 q27 hk hd
   have e0 := (hk 0 rfl).trans e0
   have e28 := hd 3 rfl 28 rfl
   have e35 := hd 10 rfl 35 rfl
   have b_0 := b_0.gr q27
   have O0_0 := O0_0.gr q27
   have O0_1 := O0_1.gr q27
   have fB := fB.gr q27
   obtain ⟨g28, h⟩ := gs h
   refine ol_val (v := .pointer (some ⟨(sb V0_0), so V0_0 + Int.toNat (Int.tmod t11.1 (List.length a0.cells : Int)) * 4, none⟩)) (by exact xr_indexR (K := k_pmem_cell) (v := V0_0) rfl Try.underlying135 sz142 e28 O0_0.rd e35 g28.1 g28.2) rfl rfl rfl ?_
   refine ol_val (v := .pointer (some ⟨(sb V0_0), so V0_0 + Int.toNat (Int.tmod t11.1 (List.length a0.cells : Int)) * 4, none⟩)) (by exact xr_assign rfl rfl) rfl rfl rfl ?_
   refine ol_nil ?_
   refine cw_region ?_
   refine ol_val (v := .pointer (some ⟨(sb V0_0), so V0_0 + Int.toNat (Int.tmod t11.1 (List.length a0.cells : Int)) * 4, none⟩)) (by exact xr_move rfl rfl) rfl rfl rfl ?_
   refine ol_val (v := .pointer (some ⟨(sb V0_0), so V0_0 + Int.toNat (Int.tmod t11.1 (List.length a0.cells : Int)) * 4, none⟩)) (by exact xr_move rfl rfl) rfl rfl rfl ?_
   refine ol_val (v := .pointer (some ⟨(sb V0_0), so V0_0 + Int.toNat (Int.tmod t11.1 (List.length a0.cells : Int)) * 4, none⟩)) (by exact xr_nilCheck rfl rfl) rfl rfl rfl ?_
   refine ol_val (v := .pointer (some ⟨(sb V0_0), so V0_0 + Int.toNat (Int.tmod t11.1 (List.length a0.cells : Int)) * 4 + 1, none⟩)) (by exact xr_fieldAddr (p := so V0_0 + Int.toNat (Int.tmod t11.1 (List.length a0.cells : Int)) * 4) (q := 1) rfl fl142_1 rfl) rfl rfl rfl ?_
   refine ol_val (v := .int .u64 ((ix a0.cells (Int.tmod t11.1 (List.length a0.cells : Int))).stored)) (by exact xr_load1 (v := .int .u64 ((ix a0.cells (Int.tmod t11.1 (List.length a0.cells : Int))).stored)) rfl ag22 rfl (At.segs (ss := segs_pmem_cell (ix a0.cells (Int.tmod t11.1 (List.length a0.cells : Int)))) (O0_0.rd.elem g28.1 g28.2) 1 1 rfl)) rfl rfl rfl ?_
   obtain ⟨t35, k36, h⟩ := bs h
   have f39 := off_ty b_0 O0_0 (by decide)
   have f40 := OffV.ty O0_1 O0_0 (by decide)
   obtain ⟨X29, Y30, h31, h32, b33, k34⟩ := Own.sub (K := k_pmem_cell) (i := (Int.tmod t11.1 (List.length a0.cells : Int))) (ss := [Seg.cell (.int .u64 ((ix a0.cells (Int.tmod t11.1 (List.length a0.cells : Int))).lasts)), Seg.cell (.int .u64 ((ix a0.cells (Int.tmod t11.1 (List.length a0.cells : Int))).stored)), Seg.cell (.int .u64 ((ix a0.cells (Int.tmod t11.1 (List.length a0.cells : Int))).sent)), Seg.cell (.bool ((ix a0.cells (Int.tmod t11.1 (List.length a0.cells : Int))).flushed))]) O0_0 g28.1 g28.2 rfl
   refine ol_op (by exact opv_call rfl cal85 (ac (ptrE (q := List.length X29) rfl h31) (ac rfl an)) (pmem_cell_keep__i0.ok fu _ (ix a0.cells (Int.tmod t11.1 (List.length a0.cells : Int))) (sb V0_0) 142 X29 Y30 b33 ((ix a0.cells (Int.tmod t11.1 (List.length a0.cells : Int))).stored) _ k36)) rfl rfl rfl ?_
   rintro _ w42 ⟨rfl, b38, q37⟩
   have O0_0 := k34 _ t35 [Seg.cell (.int .u64 t35.lasts), Seg.cell (.int .u64 t35.stored), Seg.cell (.int .u64 t35.sent), Seg.cell (.bool t35.flushed)] rfl b38
   have q37 := fr_own q37 h32
   have b_0 := b_0.wrO q37 f39
   have O0_1 := O0_1.wrV q37 f40
   have fB := fB.wrM q37 M0_0
   refine ol_nil ?_
   obtain rfl := Option.some.inj h
   refine thn_i ?_
   exact ⟨O0_0, O0_1, e0, b_0, fB⟩
  refine cw_condF e24 c23 ?_
  refine cw_skip ?_
  obtain rfl := Option.some.inj h
  refine thn_i ?_
  exact ⟨O0_0, O0_1, e0, b_0, fB⟩
 rintro ρ43 w44 ⟨O0_0, O0_1, e0, b_0, fB⟩
 have h := h22
 refine cw_seq ?_
 refine cw_region ?_
 refine ol_val (v := .pointer (some ⟨G_0, 0, none⟩)) (by exact xr_move rfl e0) rfl rfl rfl ?_
 refine ol_val (v := .pointer (some ⟨G_0, 0, none⟩)) (by exact xr_nilCheck rfl rfl) rfl rfl rfl ?_
 refine ol_val (v := .pointer (some ⟨G_0, 4, none⟩)) (by exact xr_fieldAddr (p := 0) (q := 4) rfl fl139_3 rfl) rfl rfl rfl ?_
 refine ol_val (v := .bool a0.armed) (by exact xr_load1 (v := .bool a0.armed) rfl ag4 rfl (b_0.seg 4 rfl rfl)) rfl rfl rfl ?_
 refine ol_nil ?_
 obtain ⟨x45, j46, h47⟩ := bs h
 refine cw_mid (fun ρ' w' => ∃ O0_0 : Own k_pmem_cell 142 w' 0 V0_0 x20, ∃ O0_1 : Own (kI .i64) 3 w' 0 V0_1 a0.plan.list, Blk w' G_0 139 [Seg.cell V0_0 O0_0.one, Seg.cell V0_1 O0_1.one, Seg.cell (.int .i64 t11.2.at_), Seg.cell (.bool x45.1), Seg.cell (.bool a0.armed), Seg.cell (.int .i64 x45.2), Seg.cell (.int .i64 (IntKind.i64.wrap (a0.steps + 1)))] ∧ Fr (fun j => j = G_0 ∨ some j = Value.ownBlock V0_0 ∨ some j = Value.ownBlock V0_1) w w') ?_ ?_
 ·have h := j46
  rcases is h with ⟨c48, h⟩ | ⟨c48, h⟩
  ·refine cw_condT rfl c48 ?_
   refine cw_seq ?_
   refine cw_region ?_
   refine ol_val (v := .pointer (some ⟨G_0, 0, none⟩)) (by exact xr_move rfl e0) rfl rfl rfl ?_
   refine ol_val (v := .pointer (some ⟨G_0, 0, none⟩)) (by exact xr_nilCheck rfl rfl) rfl rfl rfl ?_
   refine ol_val (v := .pointer (some ⟨G_0, 5, none⟩)) (by exact xr_fieldAddr (p := 0) (q := 5) rfl fl139_4 rfl) rfl rfl rfl ?_
   refine ol_val (v := .int .i64 a0.left) (by exact xr_load1 (v := .int .i64 a0.left) rfl ag3 rfl (b_0.seg 5 rfl rfl)) rfl rfl rfl ?_
   refine ol_val (v := .int .i64 (IntKind.i64.wrap (a0.left - 1))) (by exact xr_sub rfl rfl rfl) rfl rfl rfl ?_
   refine ol_val (v := .pointer (some ⟨G_0, 0, none⟩)) (by exact xr_nilCheck rfl rfl) rfl rfl rfl ?_
   refine ol_val (v := .pointer (some ⟨G_0, 5, none⟩)) (by exact xr_fieldAddr (p := 0) (q := 5) rfl fl139_4 rfl) rfl rfl rfl ?_
   have f50 := off_ty b_0 O0_0 (by decide)
   have f51 := off_ty b_0 O0_1 (by decide)
   refine ol_op0 (by exact opv_store (ss' := [Seg.cell V0_0 O0_0.one, Seg.cell V0_1 O0_1.one, Seg.cell (.int .i64 t11.2.at_), Seg.cell (.bool a0.off), Seg.cell (.bool a0.armed), Seg.cell (.int .i64 (IntKind.i64.wrap (a0.left - 1))), Seg.cell (.int .i64 (IntKind.i64.wrap (a0.steps + 1)))]) (xs := cellsOf [Seg.cell (.int .i64 (IntKind.i64.wrap (a0.left - 1)))]) rfl sz3 rfl rfl rfl (len_cellsOf _) (one_cellsOf _) b_0 (Spl.segs _ 5 1 [Seg.cell (.int .i64 (IntKind.i64.wrap (a0.left - 1)))] rfl rfl)) rfl rfl ?_
   rintro _ w52 ⟨b_0, q49⟩
   have O0_0 := O0_0.wr q49 f50
   have O0_1 := O0_1.wr q49 f51
   have fB := fB.wrS q49 (.inl rfl)
   refine ol_nil ?_
   refine cw_region ?_
   refine ol_val (v := .pointer (some ⟨G_0, 0, none⟩)) (by exact xr_move rfl e0) rfl rfl rfl ?_
   refine ol_val (v := .pointer (some ⟨G_0, 0, none⟩)) (by exact xr_move rfl e0) rfl rfl rfl ?_
   refine ol_val (v := .pointer (some ⟨G_0, 0, none⟩)) (by exact xr_nilCheck rfl rfl) rfl rfl rfl ?_
   refine ol_val (v := .pointer (some ⟨G_0, 5, none⟩)) (by exact xr_fieldAddr (p := 0) (q := 5) rfl fl139_4 rfl) rfl rfl rfl ?_
   refine ol_val (v := .int .i64 (IntKind.i64.wrap (a0.left - 1))) (by exact xr_load1 (v := .int .i64 (IntKind.i64.wrap (a0.left - 1))) rfl ag3 rfl (b_0.seg 5 rfl rfl)) rfl rfl rfl ?_
   refine ol_val (v := .bool (decide ((IntKind.i64.wrap (a0.left - 1)) = 0))) (by exact xr_eqI rfl Try.underlying3 rfl rfl rfl) rfl rfl rfl ?_
   refine ol_val (v := .pointer (some ⟨G_0, 0, none⟩)) (by exact xr_nilCheck rfl rfl) rfl rfl rfl ?_
   refine ol_val (v := .pointer (some ⟨G_0, 3, none⟩)) (by exact xr_fieldAddr (p := 0) (q := 3) rfl fl139_2 rfl) rfl rfl rfl ?_
   have f54 := off_ty b_0 O0_0 (by decide)
   have f55 := off_ty b_0 O0_1 (by decide)
   refine ol_op0 (by exact opv_store (ss' := [Seg.cell V0_0 O0_0.one, Seg.cell V0_1 O0_1.one, Seg.cell (.int .i64 t11.2.at_), Seg.cell (.bool (decide ((IntKind.i64.wrap (a0.left - 1)) = 0))), Seg.cell (.bool a0.armed), Seg.cell (.int .i64 (IntKind.i64.wrap (a0.left - 1))), Seg.cell (.int .i64 (IntKind.i64.wrap (a0.steps + 1)))]) (xs := cellsOf [Seg.cell (.bool (decide ((IntKind.i64.wrap (a0.left - 1)) = 0)))]) rfl sz4 rfl rfl rfl (len_cellsOf _) (one_cellsOf _) b_0 (Spl.segs _ 3 1 [Seg.cell (.bool (decide ((IntKind.i64.wrap (a0.left - 1)) = 0)))] rfl rfl)) rfl rfl ?_
   rintro _ w56 ⟨b_0, q53⟩
   have O0_0 := O0_0.wr q53 f54
   have O0_1 := O0_1.wr q53 f55
   have fB := fB.wrS q53 (.inl rfl)
   refine ol_nil ?_
   obtain rfl := Option.some.inj h
   refine thn_i ?_
   exact ⟨O0_0, O0_1, b_0, fB⟩
  refine cw_condF rfl c48 ?_
  refine cw_skip ?_
  obtain rfl := Option.some.inj h
  refine thn_i ?_
  exact ⟨O0_0, O0_1, b_0, fB⟩
 rintro ρ57 w58 ⟨O0_0, O0_1, b_0, fB⟩
 have h := h47
 obtain rfl := Option.some.inj h
 refine fin_end0 Try.results84 ?_
 exact ⟨_, rfl, V0_0, V0_1, O0_0, M0_0, O0_1, M0_1, rfl, b_0, fB⟩
end Go.Proofs.Ytklhbaghbmndeaa

/- (*rickyard/pmem.Device).Store: its model, and that the Go function computes it: written by gen.py. -/
set_option linter.unusedVariables false
namespace Go.Proofs.Ytklhbaghbmndeaa
open Go Go.Xw
def pmem_Device_Store.f (fu : Nat) (a0 : S_pmem_Device) (a1 : Int) (a2 : Int) : Option (Int × S_pmem_Device) := ((pmem_Device_may.f fu a0 a1 (List.length a0.cells : Int) : Option Int).bind fun t7 => (if (!decide (t7 = 0)) = true then some (t7, a0) else (if 0 ≤ a1 ∧ a1 < (List.length a0.cells : Int) then ((pmem_Device_step.f fu (⟨(List.set a0.cells (Int.toNat a1) (⟨(ix a0.cells a1).lasts, a2, (ix a0.cells a1).sent, (ix a0.cells a1).flushed⟩ : S_pmem_cell)), a0.plan, a0.off, a0.armed, a0.left, a0.steps⟩ : S_pmem_Device) : Option S_pmem_Device).bind fun t18 => some (0, t18)) else none)))
set_option maxRecDepth 100000 in
set_option maxHeartbeats 400000 in
theorem pmem_Device_Store.ok (fu : Nat) (w : World) (a0 : S_pmem_Device) (G_0 : Nat) (V0_0 : Value) (O0_0 : Own k_pmem_cell 142 w 0 V0_0 a0.cells) (V0_1 : Value) (O0_1 : Own (kI .i64) 3 w 0 V0_1 a0.plan.list) (b_0 : Blk w G_0 139 [Seg.cell V0_0 O0_0.one, Seg.cell V0_1 O0_1.one, Seg.cell (.int .i64 a0.plan.at_), Seg.cell (.bool a0.off), Seg.cell (.bool a0.armed), Seg.cell (.int .i64 a0.left), Seg.cell (.int .i64 a0.steps)]) (a1 : Int) (a2 : Int) (r : Int × S_pmem_Device) (h : pmem_Device_Store.f fu a0 a1 a2 = some r) :
  Calls Try.prog 28 (([.pointer (some ⟨G_0, 0, none⟩), .int .i64 a1, .int .u64 a2] : List Value).toArray) w (fun e w' => ∃ v, e = .returned v ∧ ∃ u1 : Value, ∃ u4 : Value, ∃ o2 : Own k_pmem_cell 142 w' 0 u1 r.2.cells, ∃ m3 : ∀ g, Value.ownBlock u1 = some g → w.heap.size ≤ g ∨ (g = G_0 ∨ some g = Value.ownBlock V0_0 ∨ some g = Value.ownBlock V0_1), ∃ o5 : Own (kI .i64) 3 w' 0 u4 r.2.plan.list, ∃ m6 : ∀ g, Value.ownBlock u4 = some g → w.heap.size ≤ g ∨ (g = G_0 ∨ some g = Value.ownBlock V0_0 ∨ some g = Value.ownBlock V0_1), v = .int .i64 r.1 ∧ Blk w' G_0 139 [Seg.cell u1 o2.one, Seg.cell u4 o5.one, Seg.cell (.int .i64 r.2.plan.at_), Seg.cell (.bool r.2.off), Seg.cell (.bool r.2.armed), Seg.cell (.int .i64 r.2.left), Seg.cell (.int .i64 r.2.steps)] ∧ Fr (fun j => j = G_0 ∨ some j = Value.ownBlock V0_0 ∨ some j = Value.ownBlock V0_1) w w') := by
 unfold pmem_Device_Store.f at h
 have fB : Fr (fun j => j = G_0 ∨ some j = Value.ownBlock V0_0 ∨ some j = Value.ownBlock V0_1) w w := Fr.refl _ _
 have M0_0 : ∀ g, Value.ownBlock V0_0 = some g → w.heap.size ≤ g ∨ (g = G_0 ∨ some g = Value.ownBlock V0_0 ∨ some g = Value.ownBlock V0_1) := fun g hg => .inr (.inr (.inl hg.symm))
 have M0_1 : ∀ g, Value.ownBlock V0_1 = some g → w.heap.size ≤ g ∨ (g = G_0 ∨ some g = Value.ownBlock V0_0 ∨ some g = Value.ownBlock V0_1) := fun g hg => .inr (.inr (.inr hg.symm))
 refine calls_cw Try.func28 rfl Try.ntmps28 rfl ?_
 refine cw_seq ?_
 refine cw_region ?_
 refine ol_val (v := .int .i64 0) (by exact xr_assign rfl rfl) rfl rfl rfl ?_
 refine ol_nil ?_
 refine cw_seq ?_
 refine cw_seq ?_
 refine cw_region ?_
 refine ol_val (v := .pointer (some ⟨G_0, 0, none⟩)) (by exact xr_move rfl rfl) rfl rfl rfl ?_
 refine ol_val (v := .int .i64 a1) (by exact xr_move rfl rfl) rfl rfl rfl ?_
 refine ol_val (v := .pointer (some ⟨G_0, 0, none⟩)) (by exact xr_move rfl rfl) rfl rfl rfl ?_
 refine ol_val (v := .pointer (some ⟨G_0, 0, none⟩)) (by exact xr_nilCheck rfl rfl) rfl rfl rfl ?_
 refine ol_val (v := .pointer (some ⟨G_0, 0, none⟩)) (by exact xr_fieldAddr (p := 0) (q := 0) rfl fl139_0 rfl) rfl rfl rfl ?_
 refine ol_val (v := V0_0) (by exact xr_load1 (v := V0_0) rfl ag135 rfl (b_0.seg 0 rfl rfl)) rfl rfl rfl ?_
 refine ol_val (v := .int .i64 (List.length a0.cells : Int)) (by exact xr_lenR rfl Try.underlying135 rfl O0_0.rd) rfl rfl rfl ?_
 obtain ⟨t7, k8, h⟩ := bs h
 refine ol_op (by exact opv_call rfl cal83 (ac rfl (ac rfl (ac rfl an))) (pmem_Device_may.ok fu _ a0 G_0 V0_0 (O0_0.rd) V0_1 (O0_1.rd) b_0 a1 (List.length a0.cells : Int) _ k8)) rfl rfl rfl ?_
 rintro _ w10 ⟨rfl, q9⟩
 have b_0 := b_0.gr q9
 have O0_0 := O0_0.gr q9
 have O0_1 := O0_1.gr q9
 have fB := fB.gr q9
 refine ol_val (v := .int .i64 t7) (by exact xr_assign rfl rfl) rfl rfl rfl ?_
 refine ol_nil ?_
 refine cw_seq ?_
 refine cw_region ?_
 refine ol_val (v := .int .i64 t7) (by exact xr_move rfl rfl) rfl rfl rfl ?_
 refine ol_val (v := .bool (!decide (t7 = 0))) (by exact xr_neI rfl Try.underlying31 rfl rfl rfl) rfl rfl rfl ?_
 refine ol_nil ?_
 rcases is h with ⟨c11, h⟩ | ⟨c11, h⟩
 ·refine cw_condT rfl c11 ?_
  refine cw_seq ?_
  refine cw_region ?_
  refine ol_val (v := .int .i64 t7) (by exact xr_move rfl rfl) rfl rfl rfl ?_
  refine ol_val (v := .int .i64 t7) (by exact xr_assign rfl rfl) rfl rfl rfl ?_
  refine ol_nil ?_
  refine cw_ret ?_
  repeat (first | with_reducible refine thn_r ?_ | with_reducible refine blk_r ?_)
  obtain rfl := Option.some.inj h
  refine fin_ret1 Try.results28 rfl ?_
  exact ⟨_, rfl, V0_0, V0_1, O0_0, M0_0, O0_1, M0_1, rfl, b_0, fB⟩
 refine cw_condF rfl c11 ?_
 refine cw_skip ?_
 refine cw_seq ?_
 refine cw_region ?_
 refine ol_val (v := .pointer (some ⟨G_0, 0, none⟩)) (by exact xr_move rfl rfl) rfl rfl rfl ?_
 refine ol_val (v := .pointer (some ⟨G_0, 0, none⟩)) (by exact xr_nilCheck rfl rfl) rfl rfl rfl ?_
 refine ol_val (v := .pointer (some ⟨G_0, 0, none⟩)) (by exact xr_fieldAddr (p := 0) (q := 0) rfl fl139_0 rfl) rfl rfl rfl ?_
 refine ol_val (v := V0_0) (by exact xr_load1 (v := V0_0) rfl ag135 rfl (b_0.seg 0 rfl rfl)) rfl rfl rfl ?_
 refine ol_val (v := .int .i64 a1) (by exact xr_move rfl rfl) rfl rfl rfl ?_
 refine ol_val (v := .int .u64 a2) (by exact xr_move rfl rfl) rfl rfl rfl ?_
 obtain ⟨g12, h⟩ := gs h
 refine ol_val (v := .pointer (some ⟨(sb V0_0), so V0_0 + Int.toNat a1 * 4, none⟩)) (by exact xr_indexR (K := k_pmem_cell) (v := V0_0) rfl Try.underlying135 sz142 rfl O0_0.rd rfl g12.1 g12.2) rfl rfl rfl ?_
 refine ol_val (v := .pointer (some ⟨(sb V0_0), so V0_0 + Int.toNat a1 * 4 + 1, none⟩)) (by exact xr_fieldAddr (p := so V0_0 + Int.toNat a1 * 4) (q := 1) rfl fl142_1 rfl) rfl rfl rfl ?_
 have f14 := off_ty b_0 O0_0 (by decide)
 have f15 := OffV.ty O0_1 O0_0 (by decide)
 refine ol_op0 (by exact opv_storeRow (z := (⟨(ix a0.cells a1).lasts, a2, (ix a0.cells a1).sent, (ix a0.cells a1).flushed⟩ : S_pmem_cell)) (xs := cellsOf [Seg.cell (.int .u64 a2)]) rfl sz22 rfl rfl rfl (len_cellsOf _) (one_cellsOf _) O0_0 g12.1 g12.2 (Spl.segs (segs_pmem_cell (ix a0.cells a1)) 1 1 [Seg.cell (.int .u64 a2)] rfl rfl) rfl) rfl rfl ?_
 rintro _ w17 ⟨O0_0, q13⟩
 have b_0 := b_0.wrO q13 f14
 have O0_1 := O0_1.wrV q13 f15
 have fB := fB.wrM q13 M0_0
 refine ol_nil ?_
 refine cw_seq ?_
 refine cw_region ?_
 refine ol_val (v := .pointer (some ⟨G_0, 0, none⟩)) (by exact xr_move rfl rfl) rfl rfl rfl ?_
 obtain ⟨t18, k19, h⟩ := bs h
 have c29 : ∀ k, (k = G_0 ∨ some k = Value.ownBlock V0_0 ∨ some k = Value.ownBlock V0_1) → (w.heap.size ≤ k ∨ (k = G_0 ∨ some k = Value.ownBlock V0_0 ∨ some k = Value.ownBlock V0_1)) := (cv_or (cv_eq (.inr (.inl rfl))) (cv_or (cv_own M0_0) (cv_own M0_1)))
 refine ol_op (by exact opv_call rfl cal84 (ac rfl an) (pmem_Device_step.ok fu _ (⟨(List.set a0.cells (Int.toNat a1) (⟨(ix a0.cells a1).lasts, a2, (ix a0.cells a1).sent, (ix a0.cells a1).flushed⟩ : S_pmem_cell)), a0.plan, a0.off, a0.armed, a0.left, a0.steps⟩ : S_pmem_Device) G_0 V0_0 (Own.base O0_0 (Nat.zero_le _)) V0_1 (Own.base O0_1 (Nat.zero_le _)) b_0 _ k19)) rfl rfl rfl ?_
 rintro _ w30 ⟨u21, u25, o22, m23, o26, m27, rfl, b_0, q20⟩
 have m23 : ∀ g, Value.ownBlock u21 = some g → w.heap.size ≤ g ∨ (g = G_0 ∨ some g = Value.ownBlock V0_0 ∨ some g = Value.ownBlock V0_1) := fun g hg => (m23 g hg).elim (fun x => .inl (Nat.le_trans fB.size x)) (c29 g)
 have m27 : ∀ g, Value.ownBlock u25 = some g → w.heap.size ≤ g ∨ (g = G_0 ∨ some g = Value.ownBlock V0_0 ∨ some g = Value.ownBlock V0_1) := fun g hg => (m27 g hg).elim (fun x => .inl (Nat.le_trans fB.size x)) (c29 g)
 have fB := fB.call q20 c29
 refine ol_nil ?_
 refine cw_seq ?_
 refine cw_region ?_
 refine ol_val (v := .int .i64 0) (by exact xr_assign rfl rfl) rfl rfl rfl ?_
 refine ol_nil ?_
 refine cw_ret ?_
 repeat (first | with_reducible refine thn_r ?_ | with_reducible refine blk_r ?_)
 obtain rfl := Option.some.inj h
 refine fin_ret1 Try.results28 rfl ?_
 exact ⟨_, rfl, u21, u25, o22, m23, o26, m27, rfl, b_0, fB⟩
end Go.Proofs.Ytklhbaghbmndeaa

/- (*rickyard/pmem.Device).Flush: its model, and that the Go function computes it: written by gen.py. -/
set_option linter.unusedVariables false
namespace Go.Proofs.Ytklhbaghbmndeaa
open Go Go.Xw
def pmem_Device_Flush.s0 (fu : Nat) (a1 : Int) : (Int × (List S_pmem_cell)) → Option (Sum (List S_pmem_cell) (Int × (List S_pmem_cell))) := fun s16 => (if (decide (s16.1 < 8)) = true then (if 0 ≤ (IntKind.i64.wrap ((IntKind.i64.wrap (a1 * 8)) + s16.1)) ∧ (IntKind.i64.wrap ((IntKind.i64.wrap (a1 * 8)) + s16.1)) < (List.length s16.2 : Int) then some (Sum.inr ((IntKind.i64.wrap (s16.1 + 1)), (List.set (List.set s16.2 (Int.toNat (IntKind.i64.wrap ((IntKind.i64.wrap (a1 * 8)) + s16.1))) (⟨(ix s16.2 (IntKind.i64.wrap ((IntKind.i64.wrap (a1 * 8)) + s16.1))).lasts, (ix s16.2 (IntKind.i64.wrap ((IntKind.i64.wrap (a1 * 8)) + s16.1))).stored, (ix s16.2 (IntKind.i64.wrap ((IntKind.i64.wrap (a1 * 8)) + s16.1))).stored, (ix s16.2 (IntKind.i64.wrap ((IntKind.i64.wrap (a1 * 8)) + s16.1))).flushed⟩ : S_pmem_cell)) (Int.toNat (IntKind.i64.wrap ((IntKind.i64.wrap (a1 * 8)) + s16.1))) (⟨(ix (List.set s16.2 (Int.toNat (IntKind.i64.wrap ((IntKind.i64.wrap (a1 * 8)) + s16.1))) (⟨(ix s16.2 (IntKind.i64.wrap ((IntKind.i64.wrap (a1 * 8)) + s16.1))).lasts, (ix s16.2 (IntKind.i64.wrap ((IntKind.i64.wrap (a1 * 8)) + s16.1))).stored, (ix s16.2 (IntKind.i64.wrap ((IntKind.i64.wrap (a1 * 8)) + s16.1))).stored, (ix s16.2 (IntKind.i64.wrap ((IntKind.i64.wrap (a1 * 8)) + s16.1))).flushed⟩ : S_pmem_cell)) (IntKind.i64.wrap ((IntKind.i64.wrap (a1 * 8)) + s16.1))).lasts, (ix (List.set s16.2 (Int.toNat (IntKind.i64.wrap ((IntKind.i64.wrap (a1 * 8)) + s16.1))) (⟨(ix s16.2 (IntKind.i64.wrap ((IntKind.i64.wrap (a1 * 8)) + s16.1))).lasts, (ix s16.2 (IntKind.i64.wrap ((IntKind.i64.wrap (a1 * 8)) + s16.1))).stored, (ix s16.2 (IntKind.i64.wrap ((IntKind.i64.wrap (a1 * 8)) + s16.1))).stored, (ix s16.2 (IntKind.i64.wrap ((IntKind.i64.wrap (a1 * 8)) + s16.1))).flushed⟩ : S_pmem_cell)) (IntKind.i64.wrap ((IntKind.i64.wrap (a1 * 8)) + s16.1))).stored, (ix (List.set s16.2 (Int.toNat (IntKind.i64.wrap ((IntKind.i64.wrap (a1 * 8)) + s16.1))) (⟨(ix s16.2 (IntKind.i64.wrap ((IntKind.i64.wrap (a1 * 8)) + s16.1))).lasts, (ix s16.2 (IntKind.i64.wrap ((IntKind.i64.wrap (a1 * 8)) + s16.1))).stored, (ix s16.2 (IntKind.i64.wrap ((IntKind.i64.wrap (a1 * 8)) + s16.1))).stored, (ix s16.2 (IntKind.i64.wrap ((IntKind.i64.wrap (a1 * 8)) + s16.1))).flushed⟩ : S_pmem_cell)) (IntKind.i64.wrap ((IntKind.i64.wrap (a1 * 8)) + s16.1))).sent, true⟩ : S_pmem_cell)))) else none) else some (Sum.inl (s16.2)))
def pmem_Device_Flush.f (fu : Nat) (a0 : S_pmem_Device) (a1 : Int) : Option (Int × S_pmem_Device) := ((pmem_Device_Lines.f fu a0 : Option Int).bind fun t7 => ((pmem_Device_may.f fu a0 a1 t7 : Option Int).bind fun t11 => (if (!decide (t11 = 0)) = true then some (t11, a0) else ((loopM (pmem_Device_Flush.s0 fu a1) fu (0, a0.cells)).bind fun e17 => ((pmem_Device_step.f fu (⟨e17, a0.plan, a0.off, a0.armed, a0.left, a0.steps⟩ : S_pmem_Device) : Option S_pmem_Device).bind fun t37 => some (0, t37))))))
set_option maxRecDepth 100000 in
set_option maxHeartbeats 400000 in
theorem pmem_Device_Flush.ok (fu : Nat) (w : World) (a0 : S_pmem_Device) (G_0 : Nat) (V0_0 : Value) (O0_0 : Own k_pmem_cell 142 w 0 V0_0 a0.cells) (V0_1 : Value) (O0_1 : Own (kI .i64) 3 w 0 V0_1 a0.plan.list) (b_0 : Blk w G_0 139 [Seg.cell V0_0 O0_0.one, Seg.cell V0_1 O0_1.one, Seg.cell (.int .i64 a0.plan.at_), Seg.cell (.bool a0.off), Seg.cell (.bool a0.armed), Seg.cell (.int .i64 a0.left), Seg.cell (.int .i64 a0.steps)]) (a1 : Int) (r : Int × S_pmem_Device) (h : pmem_Device_Flush.f fu a0 a1 = some r) :
  Calls Try.prog 29 (([.pointer (some ⟨G_0, 0, none⟩), .int .i64 a1] : List Value).toArray) w (fun e w' => ∃ v, e = .returned v ∧ ∃ u1 : Value, ∃ u4 : Value, ∃ o2 : Own k_pmem_cell 142 w' 0 u1 r.2.cells, ∃ m3 : ∀ g, Value.ownBlock u1 = some g → w.heap.size ≤ g ∨ (g = G_0 ∨ some g = Value.ownBlock V0_0 ∨ some g = Value.ownBlock V0_1), ∃ o5 : Own (kI .i64) 3 w' 0 u4 r.2.plan.list, ∃ m6 : ∀ g, Value.ownBlock u4 = some g → w.heap.size ≤ g ∨ (g = G_0 ∨ some g = Value.ownBlock V0_0 ∨ some g = Value.ownBlock V0_1), v = .int .i64 r.1 ∧ Blk w' G_0 139 [Seg.cell u1 o2.one, Seg.cell u4 o5.one, Seg.cell (.int .i64 r.2.plan.at_), Seg.cell (.bool r.2.off), Seg.cell (.bool r.2.armed), Seg.cell (.int .i64 r.2.left), Seg.cell (.int .i64 r.2.steps)] ∧ Fr (fun j => j = G_0 ∨ some j = Value.ownBlock V0_0 ∨ some j = Value.ownBlock V0_1) w w') := by
 unfold pmem_Device_Flush.f at h
 have fB : Fr (fun j => j = G_0 ∨ some j = Value.ownBlock V0_0 ∨ some j = Value.ownBlock V0_1) w w := Fr.refl _ _
 have M0_0 : ∀ g, Value.ownBlock V0_0 = some g → w.heap.size ≤ g ∨ (g = G_0 ∨ some g = Value.ownBlock V0_0 ∨ some g = Value.ownBlock V0_1) := fun g hg => .inr (.inr (.inl hg.symm))
 have M0_1 : ∀ g, Value.ownBlock V0_1 = some g → w.heap.size ≤ g ∨ (g = G_0 ∨ some g = Value.ownBlock V0_0 ∨ some g = Value.ownBlock V0_1) := fun g hg => .inr (.inr (.inr hg.symm))
 refine calls_cw Try.func29 rfl Try.ntmps29 rfl ?_
 refine cw_seq ?_
 refine cw_region ?_
 refine ol_val (v := .int .i64 0) (by exact xr_assign rfl rfl) rfl rfl rfl ?_
 refine ol_nil ?_
 refine cw_seq ?_
 refine cw_seq ?_
 refine cw_region ?_
 refine ol_val (v := .pointer (some ⟨G_0, 0, none⟩)) (by exact xr_move rfl rfl) rfl rfl rfl ?_
 refine ol_val (v := .int .i64 a1) (by exact xr_move rfl rfl) rfl rfl rfl ?_
 refine ol_val (v := .pointer (some ⟨G_0, 0, none⟩)) (by exact xr_move rfl rfl) rfl rfl rfl ?_
 obtain ⟨t7, k8, h⟩ := bs h
 refine ol_op (by exact opv_call rfl cal43 (ac rfl an) (pmem_Device_Lines.ok fu _ a0 G_0 V0_0 (O0_0.rd) V0_1 (O0_1.rd) b_0 _ k8)) rfl rfl rfl ?_
 rintro _ w10 ⟨rfl, q9⟩
 have b_0 := b_0.gr q9
 have O0_0 := O0_0.gr q9
 have O0_1 := O0_1.gr q9
 have fB := fB.gr q9
 obtain ⟨t11, k12, h⟩ := bs h
 refine ol_op (by exact opv_call rfl cal83 (ac rfl (ac rfl (ac rfl an))) (pmem_Device_may.ok fu _ a0 G_0 V0_0 (O0_0.rd) V0_1 (O0_1.rd) b_0 a1 t7 _ k12)) rfl rfl rfl ?_
 rintro _ w14 ⟨rfl, q13⟩
 have b_0 := b_0.gr q13
 have O0_0 := O0_0.gr q13
 have O0_1 := O0_1.gr q13
 have fB := fB.gr q13
 refine ol_val (v := .int .i64 t11) (by exact xr_assign rfl rfl) rfl rfl rfl ?_
 refine ol_nil ?_
 refine cw_seq ?_
 refine cw_region ?_
 refine ol_val (v := .int .i64 t11) (by exact xr_move rfl rfl) rfl rfl rfl ?_
 refine ol_val (v := .bool (!decide (t11 = 0))) (by exact xr_neI rfl Try.underlying31 rfl rfl rfl) rfl rfl rfl ?_
 refine ol_nil ?_
 rcases is h with ⟨c15, h⟩ | ⟨c15, h⟩
 ·refine cw_condT rfl c15 ?_
  refine cw_seq ?_
  refine cw_region ?_
  refine ol_val (v := .int .i64 t11) (by exact xr_move rfl rfl) rfl rfl rfl ?_
  refine ol_val (v := .int .i64 t11) (by exact xr_assign rfl rfl) rfl rfl rfl ?_
  refine ol_nil ?_
  refine cw_ret ?_
  repeat (first | with_reducible refine thn_r ?_ | with_reducible refine blk_r ?_)
  obtain rfl := Option.some.inj h
  refine fin_ret1 Try.results29 rfl ?_
  exact ⟨_, rfl, V0_0, V0_1, O0_0, M0_0, O0_1, M0_1, rfl, b_0, fB⟩
 refine cw_condF rfl c15 ?_
 refine cw_skip ?_
 refine cw_seq ?_
 refine cw_seq ?_
 refine cw_region ?_
 refine ol_val (v := .int .i64 0) (by exact xr_move rfl rfl) rfl rfl rfl ?_
 refine ol_nil ?_
 obtain ⟨e17, l18, h19⟩ := bs h
 refine cw_mid (fun ρ' w' => ∃ O0_0 : Own k_pmem_cell 142 w' 0 V0_0 e17, ∃ O0_1 : Own (kI .i64) 3 w' 0 V0_1 a0.plan.list, ρ' 0 = .pointer (some ⟨G_0, 0, none⟩) ∧ Blk w' G_0 139 [Seg.cell V0_0 O0_0.one, Seg.cell V0_1 O0_1.one, Seg.cell (.int .i64 a0.plan.at_), Seg.cell (.bool a0.off), Seg.cell (.bool a0.armed), Seg.cell (.int .i64 a0.left), Seg.cell (.int .i64 a0.steps)] ∧ Fr (fun j => j = G_0 ∨ some j = Value.ownBlock V0_0 ∨ some j = Value.ownBlock V0_1) w w') ?_ ?_
 ·refine cw_block ?_
  refine cw_round (fun (s16 : Int × (List S_pmem_cell)) ρ' w' => ∃ O0_0 : Own k_pmem_cell 142 w' 0 V0_0 s16.2, ∃ O0_1 : Own (kI .i64) 3 w' 0 V0_1 a0.plan.list, ρ' 0 = .pointer (some ⟨G_0, 0, none⟩) ∧ ρ' 1 = .int .i64 a1 ∧ ρ' 16 = .int .i64 s16.1 ∧ Blk w' G_0 139 [Seg.cell V0_0 O0_0.one, Seg.cell V0_1 O0_1.one, Seg.cell (.int .i64 a0.plan.at_), Seg.cell (.bool a0.off), Seg.cell (.bool a0.armed), Seg.cell (.int .i64 a0.left), Seg.cell (.int .i64 a0.steps)] ∧ Fr (fun j => j = G_0 ∨ some j = Value.ownBlock V0_0 ∨ some j = Value.ownBlock V0_1) w w') l18 ?_ ?_
  ·skip
   exact ⟨O0_0, O0_1, rfl, rfl, rfl, b_0, fB⟩
  rintro s16 x22 ρ20 w21 ⟨O0_0, O0_1, e0, e1, e16, b_0, fB⟩ h
  unfold pmem_Device_Flush.s0 at h
  refine cw_seq ?_
  refine cw_region ?_
  refine ol_val (v := .bool (decide (s16.1 < 8))) (by exact xr_lss rfl e16 rfl) rfl rfl rfl ?_
  refine ol_nil ?_
  refine cw_seq ?_
  rcases is h with ⟨c23, h⟩ | ⟨c23, h⟩
  ·refine cw_condT rfl c23 ?_
   refine cw_skip ?_
   refine cw_seq ?_
   refine cw_block ?_
   refine cw_seq ?_
   refine cw_region ?_
   refine ol_val (v := .int .i64 s16.1) (by exact xr_move rfl e16) rfl rfl rfl ?_
   refine ol_val (v := .int .i64 s16.1) (by exact xr_assign rfl rfl) rfl rfl rfl ?_
   refine ol_nil ?_
   refine cw_seq ?_
   refine cw_region ?_
   refine ol_val (v := .pointer (some ⟨G_0, 0, none⟩)) (by exact xr_move rfl e0) rfl rfl rfl ?_
   refine ol_val (v := .pointer (some ⟨G_0, 0, none⟩)) (by exact xr_nilCheck rfl rfl) rfl rfl rfl ?_
   refine ol_val (v := .pointer (some ⟨G_0, 0, none⟩)) (by exact xr_fieldAddr (p := 0) (q := 0) rfl fl139_0 rfl) rfl rfl rfl ?_
   refine ol_val (v := V0_0) (by exact xr_load1 (v := V0_0) rfl ag135 rfl (b_0.seg 0 rfl rfl)) rfl rfl rfl ?_
   refine ol_val (v := .int .i64 a1) (by exact xr_move rfl e1) rfl rfl rfl ?_
   refine ol_val (v := .int .i64 (IntKind.i64.wrap (a1 * 8))) (by exact xr_mul rfl rfl rfl) rfl rfl rfl ?_
   refine ol_val (v := .int .i64 s16.1) (by exact xr_move rfl rfl) rfl rfl rfl ?_
   refine ol_val (v := .int .i64 (IntKind.i64.wrap ((IntKind.i64.wrap (a1 * 8)) + s16.1))) (by exact xr_add rfl rfl rfl) rfl rfl rfl ?_
   obtain ⟨g24, h⟩ := gs h
   refine ol_val (v := .pointer (some ⟨(sb V0_0), so V0_0 + Int.toNat (IntKind.i64.wrap ((IntKind.i64.wrap (a1 * 8)) + s16.1)) * 4, none⟩)) (by exact xr_indexR (K := k_pmem_cell) (v := V0_0) rfl Try.underlying135 sz142 rfl O0_0.rd rfl g24.1 g24.2) rfl rfl rfl ?_
   refine ol_val (v := .pointer (some ⟨(sb V0_0), so V0_0 + Int.toNat (IntKind.i64.wrap ((IntKind.i64.wrap (a1 * 8)) + s16.1)) * 4, none⟩)) (by exact xr_assign rfl rfl) rfl rfl rfl ?_
   refine ol_nil ?_
   refine cw_region ?_
   refine ol_val (v := .pointer (some ⟨(sb V0_0), so V0_0 + Int.toNat (IntKind.i64.wrap ((IntKind.i64.wrap (a1 * 8)) + s16.1)) * 4, none⟩)) (by exact xr_move rfl rfl) rfl rfl rfl ?_
   refine ol_val (v := .pointer (some ⟨(sb V0_0), so V0_0 + Int.toNat (IntKind.i64.wrap ((IntKind.i64.wrap (a1 * 8)) + s16.1)) * 4, none⟩)) (by exact xr_move rfl rfl) rfl rfl rfl ?_
   refine ol_val (v := .pointer (some ⟨(sb V0_0), so V0_0 + Int.toNat (IntKind.i64.wrap ((IntKind.i64.wrap (a1 * 8)) + s16.1)) * 4, none⟩)) (by exact xr_move rfl rfl) rfl rfl rfl ?_
   refine ol_val (v := .pointer (some ⟨(sb V0_0), so V0_0 + Int.toNat (IntKind.i64.wrap ((IntKind.i64.wrap (a1 * 8)) + s16.1)) * 4, none⟩)) (by exact xr_nilCheck rfl rfl) rfl rfl rfl ?_
   refine ol_val (v := .pointer (some ⟨(sb V0_0), so V0_0 + Int.toNat (IntKind.i64.wrap ((IntKind.i64.wrap (a1 * 8)) + s16.1)) * 4 + 1, none⟩)) (by exact xr_fieldAddr (p := so V0_0 + Int.toNat (IntKind.i64.wrap ((IntKind.i64.wrap (a1 * 8)) + s16.1)) * 4) (q := 1) rfl fl142_1 rfl) rfl rfl rfl ?_
   refine ol_val (v := .int .u64 ((ix s16.2 (IntKind.i64.wrap ((IntKind.i64.wrap (a1 * 8)) + s16.1))).stored)) (by exact xr_load1 (v := .int .u64 ((ix s16.2 (IntKind.i64.wrap ((IntKind.i64.wrap (a1 * 8)) + s16.1))).stored)) rfl ag22 rfl (At.segs (ss := segs_pmem_cell (ix s16.2 (IntKind.i64.wrap ((IntKind.i64.wrap (a1 * 8)) + s16.1)))) (O0_0.rd.elem g24.1 g24.2) 1 1 rfl)) rfl rfl rfl ?_
   refine ol_val (v := .pointer (some ⟨(sb V0_0), so V0_0 + Int.toNat (IntKind.i64.wrap ((IntKind.i64.wrap (a1 * 8)) + s16.1)) * 4, none⟩)) (by exact xr_nilCheck rfl rfl) rfl rfl rfl ?_
   refine ol_val (v := .pointer (some ⟨(sb V0_0), so V0_0 + Int.toNat (IntKind.i64.wrap ((IntKind.i64.wrap (a1 * 8)) + s16.1)) * 4 + 2, none⟩)) (by exact xr_fieldAddr (p := so V0_0 + Int.toNat (IntKind.i64.wrap ((IntKind.i64.wrap (a1 * 8)) + s16.1)) * 4) (q := 2) rfl fl142_2 rfl) rfl rfl rfl ?_
   have f26 := off_ty b_0 O0_0 (by decide)
   have f27 := OffV.ty O0_1 O0_0 (by decide)
   refine ol_op0 (by exact opv_storeRow (z := (⟨(ix s16.2 (IntKind.i64.wrap ((IntKind.i64.wrap (a1 * 8)) + s16.1))).lasts, (ix s16.2 (IntKind.i64.wrap ((IntKind.i64.wrap (a1 * 8)) + s16.1))).stored, (ix s16.2 (IntKind.i64.wrap ((IntKind.i64.wrap (a1 * 8)) + s16.1))).stored, (ix s16.2 (IntKind.i64.wrap ((IntKind.i64.wrap (a1 * 8)) + s16.1))).flushed⟩ : S_pmem_cell)) (xs := cellsOf [Seg.cell (.int .u64 ((ix s16.2 (IntKind.i64.wrap ((IntKind.i64.wrap (a1 * 8)) + s16.1))).stored))]) rfl sz22 rfl rfl rfl (len_cellsOf _) (one_cellsOf _) O0_0 g24.1 g24.2 (Spl.segs (segs_pmem_cell (ix s16.2 (IntKind.i64.wrap ((IntKind.i64.wrap (a1 * 8)) + s16.1)))) 2 1 [Seg.cell (.int .u64 ((ix s16.2 (IntKind.i64.wrap ((IntKind.i64.wrap (a1 * 8)) + s16.1))).stored))] rfl rfl) rfl) rfl rfl ?_
   rintro _ w29 ⟨O0_0, q25⟩
   have b_0 := b_0.wrO q25 f26
   have O0_1 := O0_1.wrV q25 f27
   have fB := fB.wrM q25 M0_0
   refine ol_val (v := .pointer (some ⟨(sb V0_0), so V0_0 + Int.toNat (IntKind.i64.wrap ((IntKind.i64.wrap (a1 * 8)) + s16.1)) * 4, none⟩)) (by exact xr_nilCheck rfl rfl) rfl rfl rfl ?_
   refine ol_val (v := .pointer (some ⟨(sb V0_0), so V0_0 + Int.toNat (IntKind.i64.wrap ((IntKind.i64.wrap (a1 * 8)) + s16.1)) * 4 + 3, none⟩)) (by exact xr_fieldAddr (p := so V0_0 + Int.toNat (IntKind.i64.wrap ((IntKind.i64.wrap (a1 * 8)) + s16.1)) * 4) (q := 3) rfl fl142_3 rfl) rfl rfl rfl ?_
   have f31 := off_ty b_0 O0_0 (by decide)
   have f32 := OffV.ty O0_1 O0_0 (by decide)
   refine ol_op0 (by exact opv_storeRow (z := (⟨(ix (List.set s16.2 (Int.toNat (IntKind.i64.wrap ((IntKind.i64.wrap (a1 * 8)) + s16.1))) (⟨(ix s16.2 (IntKind.i64.wrap ((IntKind.i64.wrap (a1 * 8)) + s16.1))).lasts, (ix s16.2 (IntKind.i64.wrap ((IntKind.i64.wrap (a1 * 8)) + s16.1))).stored, (ix s16.2 (IntKind.i64.wrap ((IntKind.i64.wrap (a1 * 8)) + s16.1))).stored, (ix s16.2 (IntKind.i64.wrap ((IntKind.i64.wrap (a1 * 8)) + s16.1))).flushed⟩ : S_pmem_cell)) (IntKind.i64.wrap ((IntKind.i64.wrap (a1 * 8)) + s16.1))).lasts, (ix (List.set s16.2 (Int.toNat (IntKind.i64.wrap ((IntKind.i64.wrap (a1 * 8)) + s16.1))) (⟨(ix s16.2 (IntKind.i64.wrap ((IntKind.i64.wrap (a1 * 8)) + s16.1))).lasts, (ix s16.2 (IntKind.i64.wrap ((IntKind.i64.wrap (a1 * 8)) + s16.1))).stored, (ix s16.2 (IntKind.i64.wrap ((IntKind.i64.wrap (a1 * 8)) + s16.1))).stored, (ix s16.2 (IntKind.i64.wrap ((IntKind.i64.wrap (a1 * 8)) + s16.1))).flushed⟩ : S_pmem_cell)) (IntKind.i64.wrap ((IntKind.i64.wrap (a1 * 8)) + s16.1))).stored, (ix (List.set s16.2 (Int.toNat (IntKind.i64.wrap ((IntKind.i64.wrap (a1 * 8)) + s16.1))) (⟨(ix s16.2 (IntKind.i64.wrap ((IntKind.i64.wrap (a1 * 8)) + s16.1))).lasts, (ix s16.2 (IntKind.i64.wrap ((IntKind.i64.wrap (a1 * 8)) + s16.1))).stored, (ix s16.2 (IntKind.i64.wrap ((IntKind.i64.wrap (a1 * 8)) + s16.1))).stored, (ix s16.2 (IntKind.i64.wrap ((IntKind.i64.wrap (a1 * 8)) + s16.1))).flushed⟩ : S_pmem_cell)) (IntKind.i64.wrap ((IntKind.i64.wrap (a1 * 8)) + s16.1))).sent, true⟩ : S_pmem_cell)) (xs := cellsOf [Seg.cell (.bool true)]) rfl sz4 rfl rfl rfl (len_cellsOf _) (one_cellsOf _) O0_0 g24.1 (by simpa only [List.length_set] using g24.2) (Spl.segs (segs_pmem_cell (ix (List.set s16.2 (Int.toNat (IntKind.i64.wrap ((IntKind.i64.wrap (a1 * 8)) + s16.1))) (⟨(ix s16.2 (IntKind.i64.wrap ((IntKind.i64.wrap (a1 * 8)) + s16.1))).lasts, (ix s16.2 (IntKind.i64.wrap ((IntKind.i64.wrap (a1 * 8)) + s16.1))).stored, (ix s16.2 (IntKind.i64.wrap ((IntKind.i64.wrap (a1 * 8)) + s16.1))).stored, (ix s16.2 (IntKind.i64.wrap ((IntKind.i64.wrap (a1 * 8)) + s16.1))).flushed⟩ : S_pmem_cell)) (IntKind.i64.wrap ((IntKind.i64.wrap (a1 * 8)) + s16.1)))) 3 1 [Seg.cell (.bool true)] rfl rfl) rfl) rfl rfl ?_
   rintro _ w34 ⟨O0_0, q30⟩
   have b_0 := b_0.wrO q30 f31
   have O0_1 := O0_1.wrV q30 f32
   have fB := fB.wrM q30 M0_0
   refine ol_nil ?_
   refine blk_i ?_
   refine cw_region ?_
   refine ol_val (v := .int .i64 (IntKind.i64.wrap (s16.1 + 1))) (by exact xr_add rfl e16 rfl) rfl rfl rfl ?_
   refine ol_val (v := .int .i64 (IntKind.i64.wrap (s16.1 + 1))) (by exact xr_move rfl rfl) rfl rfl rfl ?_
   refine ol_nil ?_
   obtain rfl := Option.some.inj h
   refine lp_in ?_
   exact ⟨O0_0, O0_1, e0, e1, rfl, b_0, fB⟩
  refine cw_condF rfl c23 ?_
  refine cw_exit ?_
  repeat (first | with_reducible refine thn_e ?_ | with_reducible refine blk_e rfl ?_)
  obtain rfl := Option.some.inj h
  refine lp_exit ?_
  rintro rfl
  refine thn_x ?_
  exact ⟨O0_0, O0_1, e0, b_0, fB⟩
 rintro ρ35 w36 ⟨O0_0, O0_1, e0, b_0, fB⟩
 have h := h19
 refine cw_seq ?_
 refine cw_region ?_
 refine ol_val (v := .pointer (some ⟨G_0, 0, none⟩)) (by exact xr_move rfl e0) rfl rfl rfl ?_
 obtain ⟨t37, k38, h⟩ := bs h
 have c48 : ∀ k, (k = G_0 ∨ some k = Value.ownBlock V0_0 ∨ some k = Value.ownBlock V0_1) → (w.heap.size ≤ k ∨ (k = G_0 ∨ some k = Value.ownBlock V0_0 ∨ some k = Value.ownBlock V0_1)) := (cv_or (cv_eq (.inr (.inl rfl))) (cv_or (cv_own M0_0) (cv_own M0_1)))
 refine ol_op (by exact opv_call rfl cal84 (ac rfl an) (pmem_Device_step.ok fu _ (⟨e17, a0.plan, a0.off, a0.armed, a0.left, a0.steps⟩ : S_pmem_Device) G_0 V0_0 (Own.base O0_0 (Nat.zero_le _)) V0_1 (Own.base O0_1 (Nat.zero_le _)) b_0 _ k38)) rfl rfl rfl ?_
 rintro _ w49 ⟨u40, u44, o41, m42, o45, m46, rfl, b_0, q39⟩
 have m42 : ∀ g, Value.ownBlock u40 = some g → w.heap.size ≤ g ∨ (g = G_0 ∨ some g = Value.ownBlock V0_0 ∨ some g = Value.ownBlock V0_1) := fun g hg => (m42 g hg).elim (fun x => .inl (Nat.le_trans fB.size x)) (c48 g)
 have m46 : ∀ g, Value.ownBlock u44 = some g → w.heap.size ≤ g ∨ (g = G_0 ∨ some g = Value.ownBlock V0_0 ∨ some g = Value.ownBlock V0_1) := fun g hg => (m46 g hg).elim (fun x => .inl (Nat.le_trans fB.size x)) (c48 g)
 have fB := fB.call q39 c48
 refine ol_nil ?_
 refine cw_seq ?_
 refine cw_region ?_
 refine ol_val (v := .int .i64 0) (by exact xr_assign rfl rfl) rfl rfl rfl ?_
 refine ol_nil ?_
 refine cw_ret ?_
 repeat (first | with_reducible refine thn_r ?_ | with_reducible refine blk_r ?_)
 obtain rfl := Option.some.inj h
 refine fin_ret1 Try.results29 rfl ?_
 exact ⟨_, rfl, u40, u44, o41, m42, o45, m46, rfl, b_0, fB⟩
end Go.Proofs.Ytklhbaghbmndeaa

/- rickyard/press.store: its model, and that the Go function computes it: written by gen.py. -/
set_option linter.unusedVariables false
namespace Go.Proofs.Ytklhbaghbmndeaa
open Go Go.Xw
def press_store.s0 (fu : Nat) (a1 : Int) (a2 : Int) (a3 : List Int) : (Int × (List S_pmem_cell) × (List Int) × Int × Bool × Bool × Int × Int) → Option (Sum (Sum (Int × S_pmem_Device) ((List S_pmem_cell) × (List Int) × Int × Bool × Bool × Int × Int)) (Int × (List S_pmem_cell) × (List Int) × Int × Bool × Bool × Int × Int)) := fun s7 => (if (decide (s7.1 < (List.length a3 : Int))) = true then (if 0 ≤ s7.1 ∧ s7.1 < (List.length a3 : Int) then ((pmem_Device_Store.f fu (⟨s7.2.1, (⟨s7.2.2.1, s7.2.2.2.1⟩ : S_pmem_plan), s7.2.2.2.2.1, s7.2.2.2.2.2.1, s7.2.2.2.2.2.2.1, s7.2.2.2.2.2.2.2⟩ : S_pmem_Device) (IntKind.i64.wrap ((IntKind.i64.wrap ((IntKind.i64.wrap (a1 * 8)) + a2)) + s7.1)) (ix a3 s7.1) : Option (Int × S_pmem_Device)).bind fun t35 => (if (!decide (t35.1 = 0)) = true then some (Sum.inl (Sum.inl (t35.1, t35.2))) else some (Sum.inr ((IntKind.i64.wrap (s7.1 + 1)), t35.2.cells, t35.2.plan.list, t35.2.plan.at_, t35.2.off, t35.2.armed, t35.2.left, t35.2.steps)))) else none) else some (Sum.inl (Sum.inr (s7.2.1, s7.2.2.1, s7.2.2.2.1, s7.2.2.2.2.1, s7.2.2.2.2.2.1, s7.2.2.2.2.2.2.1, s7.2.2.2.2.2.2.2))))
def press_store.f (fu : Nat) (a0 : S_pmem_Device) (a1 : Int) (a2 : Int) (a3 : List Int) : Option (Int × S_pmem_Device) := ((loopM (press_store.s0 fu a1 a2 a3) fu (0, a0.cells, a0.plan.list, a0.plan.at_, a0.off, a0.armed, a0.left, a0.steps)).bind fun e8 => match e8 with | Sum.inl p => some p | Sum.inr x11 => ((pmem_Device_Flush.f fu (⟨x11.1, (⟨x11.2.1, x11.2.2.1⟩ : S_pmem_plan), x11.2.2.2.1, x11.2.2.2.2.1, x11.2.2.2.2.2.1, x11.2.2.2.2.2.2⟩ : S_pmem_Device) a1 : Option (Int × S_pmem_Device)).bind fun t54 => some (t54.1, t54.2)))
set_option maxRecDepth 100000 in
set_option maxHeartbeats 400000 in
theorem press_store.ok (fu : Nat) (w : World) (a0 : S_pmem_Device) (G_0 : Nat) (V0_0 : Value) (O0_0 : Own k_pmem_cell 142 w 0 V0_0 a0.cells) (V0_1 : Value) (O0_1 : Own (kI .i64) 3 w 0 V0_1 a0.plan.list) (b_0 : Blk w G_0 139 [Seg.cell V0_0 O0_0.one, Seg.cell V0_1 O0_1.one, Seg.cell (.int .i64 a0.plan.at_), Seg.cell (.bool a0.off), Seg.cell (.bool a0.armed), Seg.cell (.int .i64 a0.left), Seg.cell (.int .i64 a0.steps)]) (a1 : Int) (a2 : Int) (a3 : List Int) (V3_0 : Value) (R3_0 : Rd (kI .u64) w V3_0 a3) (NR3_0_P0 : OffR V3_0 a3 G_0) (NR3_0_R0_0 : OffRV V3_0 a3 V0_0) (NR3_0_R0_1 : OffRV V3_0 a3 V0_1) (r : Int × S_pmem_Device) (h : press_store.f fu a0 a1 a2 a3 = some r) :
  Calls Try.prog 103 (([.pointer (some ⟨G_0, 0, none⟩), .int .i64 a1, .int .i64 a2, V3_0] : List Value).toArray) w (fun e w' => ∃ v, e = .returned v ∧ ∃ u1 : Value, ∃ u4 : Value, ∃ o2 : Own k_pmem_cell 142 w' 0 u1 r.2.cells, ∃ m3 : ∀ g, Value.ownBlock u1 = some g → w.heap.size ≤ g ∨ (g = G_0 ∨ some g = Value.ownBlock V0_0 ∨ some g = Value.ownBlock V0_1), ∃ o5 : Own (kI .i64) 3 w' 0 u4 r.2.plan.list, ∃ m6 : ∀ g, Value.ownBlock u4 = some g → w.heap.size ≤ g ∨ (g = G_0 ∨ some g = Value.ownBlock V0_0 ∨ some g = Value.ownBlock V0_1), v = .int .i64 r.1 ∧ Blk w' G_0 139 [Seg.cell u1 o2.one, Seg.cell u4 o5.one, Seg.cell (.int .i64 r.2.plan.at_), Seg.cell (.bool r.2.off), Seg.cell (.bool r.2.armed), Seg.cell (.int .i64 r.2.left), Seg.cell (.int .i64 r.2.steps)] ∧ Fr (fun j => j = G_0 ∨ some j = Value.ownBlock V0_0 ∨ some j = Value.ownBlock V0_1) w w') := by
 unfold press_store.f at h
 have fB : Fr (fun j => j = G_0 ∨ some j = Value.ownBlock V0_0 ∨ some j = Value.ownBlock V0_1) w w := Fr.refl _ _
 have M0_0 : ∀ g, Value.ownBlock V0_0 = some g → w.heap.size ≤ g ∨ (g = G_0 ∨ some g = Value.ownBlock V0_0 ∨ some g = Value.ownBlock V0_1) := fun g hg => .inr (.inr (.inl hg.symm))
 have M0_1 : ∀ g, Value.ownBlock V0_1 = some g → w.heap.size ≤ g ∨ (g = G_0 ∨ some g = Value.ownBlock V0_0 ∨ some g = Value.ownBlock V0_1) := fun g hg => .inr (.inr (.inr hg.symm))
 refine calls_cw Try.func103 rfl Try.ntmps103 rfl ?_
 refine cw_seq ?_
 refine cw_region ?_
 refine ol_val (v := .int .i64 0) (by exact xr_assign rfl rfl) rfl rfl rfl ?_
 refine ol_nil ?_
 refine cw_seq ?_
 refine cw_seq ?_
 refine cw_region ?_
 refine ol_val (v := V3_0) (by exact xr_move rfl rfl) rfl rfl rfl ?_
 refine ol_val (v := .int .i64 (List.length a3 : Int)) (by exact xr_lenR rfl Try.underlying46 rfl R3_0) rfl rfl rfl ?_
 refine ol_val (v := .int .i64 0) (by exact xr_move rfl rfl) rfl rfl rfl ?_
 refine ol_nil ?_
 obtain ⟨e8, l9, h10⟩ := bs h
 refine cw_mid (fun ρ' w' => ∃ x11, e8 = Sum.inr x11 ∧ ∃ v12 : Value, ∃ v16 : Value, ∃ o13 : Own k_pmem_cell 142 w' 0 v12 x11.1, ∃ o17 : Own (kI .i64) 3 w' 0 v16 x11.2.1, ∃ m15 : ∀ g, Value.ownBlock v12 = some g → w.heap.size ≤ g ∨ (g = G_0 ∨ some g = Value.ownBlock V0_0 ∨ some g = Value.ownBlock V0_1), ∃ m19 : ∀ g, Value.ownBlock v16 = some g → w.heap.size ≤ g ∨ (g = G_0 ∨ some g = Value.ownBlock V0_0 ∨ some g = Value.ownBlock V0_1), ρ' 0 = .pointer (some ⟨G_0, 0, none⟩) ∧ ρ' 1 = .int .i64 a1 ∧ Blk w' G_0 139 [Seg.cell v12 o13.one, Seg.cell v16 o17.one, Seg.cell (.int .i64 x11.2.2.1), Seg.cell (.bool x11.2.2.2.1), Seg.cell (.bool x11.2.2.2.2.1), Seg.cell (.int .i64 x11.2.2.2.2.2.1), Seg.cell (.int .i64 x11.2.2.2.2.2.2)] ∧ Fr (fun j => j = G_0 ∨ some j = Value.ownBlock V0_0 ∨ some j = Value.ownBlock V0_1) w w') ?_ ?_
 ·refine cw_block ?_
  refine cw_round (fun (s7 : Int × (List S_pmem_cell) × (List Int) × Int × Bool × Bool × Int × Int) ρ' w' => ∃ v20 : Value, ∃ v24 : Value, ∃ o21 : Own k_pmem_cell 142 w' 0 v20 s7.2.1, ∃ o25 : Own (kI .i64) 3 w' 0 v24 s7.2.2.1, ∃ m23 : ∀ g, Value.ownBlock v20 = some g → w.heap.size ≤ g ∨ (g = G_0 ∨ some g = Value.ownBlock V0_0 ∨ some g = Value.ownBlock V0_1), ∃ m27 : ∀ g, Value.ownBlock v24 = some g → w.heap.size ≤ g ∨ (g = G_0 ∨ some g = Value.ownBlock V0_0 ∨ some g = Value.ownBlock V0_1), ∃ R3_0 : Rd (kI .u64) w' V3_0 a3, OffRV V3_0 a3 v20 ∧ OffRV V3_0 a3 v24 ∧ ρ' 0 = .pointer (some ⟨G_0, 0, none⟩) ∧ ρ' 1 = .int .i64 a1 ∧ ρ' 2 = .int .i64 a2 ∧ ρ' 12 = V3_0 ∧ ρ' 13 = .int .i64 (List.length a3 : Int) ∧ ρ' 14 = .int .i64 s7.1 ∧ Blk w' G_0 139 [Seg.cell v20 o21.one, Seg.cell v24 o25.one, Seg.cell (.int .i64 s7.2.2.2.1), Seg.cell (.bool s7.2.2.2.2.1), Seg.cell (.bool s7.2.2.2.2.2.1), Seg.cell (.int .i64 s7.2.2.2.2.2.2.1), Seg.cell (.int .i64 s7.2.2.2.2.2.2.2)] ∧ Fr (fun j => j = G_0 ∨ some j = Value.ownBlock V0_0 ∨ some j = Value.ownBlock V0_1) w w') l9 ?_ ?_
  ·skip
   exact ⟨V0_0, V0_1, O0_0, O0_1, M0_0, M0_1, R3_0, NR3_0_R0_0, NR3_0_R0_1, rfl, rfl, rfl, rfl, rfl, rfl, b_0, fB⟩
  rintro s7 x32 ρ30 w31 ⟨v20, v24, o21, o25, m23, m27, R3_0, a28, a29, e0, e1, e2, e12, e13, e14, b_0, fB⟩ h
  unfold press_store.s0 at h
  refine cw_seq ?_
  refine cw_region ?_
  refine ol_val (v := .bool (decide (s7.1 < (List.length a3 : Int)))) (by exact xr_lss rfl e14 e13) rfl rfl rfl ?_
  refine ol_nil ?_
  refine cw_seq ?_
  rcases is h with ⟨c33, h⟩ | ⟨c33, h⟩
  ·refine cw_condT rfl c33 ?_
   refine cw_skip ?_
   refine cw_seq ?_
   refine cw_block ?_
   refine cw_seq ?_
   refine cw_region ?_
   refine ol_val (v := .int .i64 s7.1) (by exact xr_move rfl e14) rfl rfl rfl ?_
   obtain ⟨g34, h⟩ := gs h
   refine ol_val (v := .pointer (some ⟨(sb V3_0), so V3_0 + Int.toNat s7.1 * 1, none⟩)) (by exact xr_indexR (K := (kI .u64)) (v := V3_0) rfl Try.underlying46 sz22 e12 R3_0 e14 g34.1 g34.2) rfl rfl rfl ?_
   refine ol_val (v := .int .u64 (ix a3 s7.1)) (by exact xr_load1 (v := .int .u64 (ix a3 s7.1)) rfl ag22 rfl (R3_0.elem g34.1 g34.2)) rfl rfl rfl ?_
   refine ol_val (v := .int .i64 s7.1) (by exact xr_assign rfl rfl) rfl rfl rfl ?_
   refine ol_val (v := .int .u64 (ix a3 s7.1)) (by exact xr_assign rfl rfl) rfl rfl rfl ?_
   refine ol_nil ?_
   refine cw_seq ?_
   refine cw_region ?_
   refine ol_val (v := .pointer (some ⟨G_0, 0, none⟩)) (by exact xr_move rfl e0) rfl rfl rfl ?_
   refine ol_val (v := .int .i64 a1) (by exact xr_move rfl e1) rfl rfl rfl ?_
   refine ol_val (v := .int .i64 (IntKind.i64.wrap (a1 * 8))) (by exact xr_mul rfl rfl rfl) rfl rfl rfl ?_
   refine ol_val (v := .int .i64 a2) (by exact xr_move rfl e2) rfl rfl rfl ?_
   refine ol_val (v := .int .i64 (IntKind.i64.wrap ((IntKind.i64.wrap (a1 * 8)) + a2))) (by exact xr_add rfl rfl rfl) rfl rfl rfl ?_
   refine ol_val (v := .int .i64 s7.1) (by exact xr_move rfl rfl) rfl rfl rfl ?_
   refine ol_val (v := .int .i64 (IntKind.i64.wrap ((IntKind.i64.wrap ((IntKind.i64.wrap (a1 * 8)) + a2)) + s7.1))) (by exact xr_add rfl rfl rfl) rfl rfl rfl ?_
   refine ol_val (v := .int .u64 (ix a3 s7.1)) (by exact xr_move rfl rfl) rfl rfl rfl ?_
   obtain ⟨t35, k36, h⟩ := bs h
   have f46 := (ro_or (ro_eq NR3_0_P0) (ro_or (ro_own a28) (ro_own a29)))
   have c47 : ∀ k, (k = G_0 ∨ some k = Value.ownBlock v20 ∨ some k = Value.ownBlock v24) → (w.heap.size ≤ k ∨ (k = G_0 ∨ some k = Value.ownBlock V0_0 ∨ some k = Value.ownBlock V0_1)) := (cv_or (cv_eq (.inr (.inl rfl))) (cv_or (cv_own m23) (cv_own m27)))
   refine ol_op (by exact opv_call rfl cal28 (ac rfl (ac rfl (ac rfl an))) (pmem_Device_Store.ok fu _ (⟨s7.2.1, (⟨s7.2.2.1, s7.2.2.2.1⟩ : S_pmem_plan), s7.2.2.2.2.1, s7.2.2.2.2.2.1, s7.2.2.2.2.2.2.1, s7.2.2.2.2.2.2.2⟩ : S_pmem_Device) G_0 v20 (Own.base o21 (Nat.zero_le _)) v24 (Own.base o25 (Nat.zero_le _)) b_0 (IntKind.i64.wrap ((IntKind.i64.wrap ((IntKind.i64.wrap (a1 * 8)) + a2)) + s7.1)) (ix a3 s7.1) _ k36)) rfl rfl rfl ?_
   rintro _ w48 ⟨u38, u42, o39, m40, o43, m44, rfl, b_0, q37⟩
   have a49 := orv_new R3_0 rfl f46 m40
   have a50 := orv_new R3_0 rfl f46 m44
   have m40 : ∀ g, Value.ownBlock u38 = some g → w.heap.size ≤ g ∨ (g = G_0 ∨ some g = Value.ownBlock V0_0 ∨ some g = Value.ownBlock V0_1) := fun g hg => (m40 g hg).elim (fun x => .inl (Nat.le_trans fB.size x)) (c47 g)
   have m44 : ∀ g, Value.ownBlock u42 = some g → w.heap.size ≤ g ∨ (g = G_0 ∨ some g = Value.ownBlock V0_0 ∨ some g = Value.ownBlock V0_1) := fun g hg => (m44 g hg).elim (fun x => .inl (Nat.le_trans fB.size x)) (c47 g)
   have R3_0 := R3_0.fr q37 f46
   have fB := fB.call q37 c47
   refine ol_val (v := .int .i64 t35.1) (by exact xr_assign rfl rfl) rfl rfl rfl ?_
   refine ol_nil ?_
   refine cw_seq ?_
   refine cw_region ?_
   refine ol_val (v := .int .i64 t35.1) (by exact xr_move rfl rfl) rfl rfl rfl ?_
   refine ol_val (v := .bool (!decide (t35.1 = 0))) (by exact xr_neI rfl Try.underlying31 rfl rfl rfl) rfl rfl rfl ?_
   refine ol_nil ?_
   rcases is h with ⟨c51, h⟩ | ⟨c51, h⟩
   ·refine cw_condT rfl c51 ?_
    refine cw_seq ?_
    refine cw_region ?_
    refine ol_val (v := .int .i64 t35.1) (by exact xr_move rfl rfl) rfl rfl rfl ?_
    refine ol_val (v := .int .i64 t35.1) (by exact xr_assign rfl rfl) rfl rfl rfl ?_
    refine ol_nil ?_
    refine cw_ret ?_
    repeat (first | with_reducible refine thn_r ?_ | with_reducible refine blk_r ?_)
    obtain rfl := Option.some.inj h
    refine lp_ret ?_
    rintro rfl
    repeat (first | with_reducible refine thn_r ?_ | with_reducible refine blk_r ?_)
    have h := h10
    obtain rfl := Option.some.inj h
    refine fin_ret1 Try.results103 rfl ?_
    exact ⟨_, rfl, u38, u42, o39, m40, o43, m44, rfl, b_0, fB⟩
   refine cw_condF rfl c51 ?_
   refine cw_skip ?_
   refine blk_i ?_
   refine cw_region ?_
   refine ol_val (v := .int .i64 (IntKind.i64.wrap (s7.1 + 1))) (by exact xr_add rfl e14 rfl) rfl rfl rfl ?_
   refine ol_val (v := .int .i64 (IntKind.i64.wrap (s7.1 + 1))) (by exact xr_move rfl rfl) rfl rfl rfl ?_
   refine ol_nil ?_
   obtain rfl := Option.some.inj h
   refine lp_in ?_
   exact ⟨u38, u42, o39, o43, m40, m44, R3_0, a49, a50, e0, e1, e2, e12, e13, rfl, b_0, fB⟩
  refine cw_condF rfl c33 ?_
  refine cw_exit ?_
  repeat (first | with_reducible refine thn_e ?_ | with_reducible refine blk_e rfl ?_)
  obtain rfl := Option.some.inj h
  refine lp_exit ?_
  rintro rfl
  refine thn_x ?_
  exact ⟨_, rfl, v20, v24, o21, o25, m23, m27, e0, e1, b_0, fB⟩
 rintro ρ52 w53 ⟨x11, rfl, v12, v16, o13, o17, m15, m19, e0, e1, b_0, fB⟩
 have h := h10
 refine cw_seq ?_
 refine cw_region ?_
 refine ol_val (v := .pointer (some ⟨G_0, 0, none⟩)) (by exact xr_move rfl e0) rfl rfl rfl ?_
 refine ol_val (v := .int .i64 a1) (by exact xr_move rfl e1) rfl rfl rfl ?_
 obtain ⟨t54, k55, h⟩ := bs h
 have c65 : ∀ k, (k = G_0 ∨ some k = Value.ownBlock v12 ∨ some k = Value.ownBlock v16) → (w.heap.size ≤ k ∨ (k = G_0 ∨ some k = Value.ownBlock V0_0 ∨ some k = Value.ownBlock V0_1)) := (cv_or (cv_eq (.inr (.inl rfl))) (cv_or (cv_own m15) (cv_own m19)))
 refine ol_op (by exact opv_call rfl cal29 (ac rfl (ac rfl an)) (pmem_Device_Flush.ok fu _ (⟨x11.1, (⟨x11.2.1, x11.2.2.1⟩ : S_pmem_plan), x11.2.2.2.1, x11.2.2.2.2.1, x11.2.2.2.2.2.1, x11.2.2.2.2.2.2⟩ : S_pmem_Device) G_0 v12 (Own.base o13 (Nat.zero_le _)) v16 (Own.base o17 (Nat.zero_le _)) b_0 a1 _ k55)) rfl rfl rfl ?_
 rintro _ w66 ⟨u57, u61, o58, m59, o62, m63, rfl, b_0, q56⟩
 have m59 : ∀ g, Value.ownBlock u57 = some g → w.heap.size ≤ g ∨ (g = G_0 ∨ some g = Value.ownBlock V0_0 ∨ some g = Value.ownBlock V0_1) := fun g hg => (m59 g hg).elim (fun x => .inl (Nat.le_trans fB.size x)) (c65 g)
 have m63 : ∀ g, Value.ownBlock u61 = some g → w.heap.size ≤ g ∨ (g = G_0 ∨ some g = Value.ownBlock V0_0 ∨ some g = Value.ownBlock V0_1) := fun g hg => (m63 g hg).elim (fun x => .inl (Nat.le_trans fB.size x)) (c65 g)
 have fB := fB.call q56 c65
 refine ol_val (v := .int .i64 t54.1) (by exact xr_assign rfl rfl) rfl rfl rfl ?_
 refine ol_nil ?_
 refine cw_ret ?_
 repeat (first | with_reducible refine thn_r ?_ | with_reducible refine blk_r ?_)
 obtain rfl := Option.some.inj h
 refine fin_ret1 Try.results103 rfl ?_
 exact ⟨_, rfl, u57, u61, o58, m59, o62, m63, rfl, b_0, fB⟩
end Go.Proofs.Ytklhbaghbmndeaa

/- rickyard/press.Write: its model, and that the Go function computes it: written by gen.py. -/
set_option linter.unusedVariables false
namespace Go.Proofs.Ytklhbaghbmndeaa
open Go Go.Xw
def press_Write.f (fu : Nat) (a0 : S_pmem_Device) (a1 : Int) (a2 : List Int) : Option (Int × S_pmem_Device) := ((press_may.f fu a0 a1 : Option Int).bind fun t7 => (if (!decide (t7 = 0)) = true then some (t7, a0) else (if (!decide ((List.length a2 : Int) = 64)) = true then some (2, a0) else ((octet_Words.f fu a2 : Option (List Int)).bind fun t13 => ((press_store.f fu a0 a1 0 t13 : Option (Int × S_pmem_Device)).bind fun t20 => some (t20.1, t20.2))))))
set_option maxRecDepth 100000 in
set_option maxHeartbeats 400000 in
theorem press_Write.ok (fu : Nat) (w : World) (a0 : S_pmem_Device) (G_0 : Nat) (V0_0 : Value) (O0_0 : Own k_pmem_cell 142 w 0 V0_0 a0.cells) (V0_1 : Value) (O0_1 : Own (kI .i64) 3 w 0 V0_1 a0.plan.list) (b_0 : Blk w G_0 139 [Seg.cell V0_0 O0_0.one, Seg.cell V0_1 O0_1.one, Seg.cell (.int .i64 a0.plan.at_), Seg.cell (.bool a0.off), Seg.cell (.bool a0.armed), Seg.cell (.int .i64 a0.left), Seg.cell (.int .i64 a0.steps)]) (a1 : Int) (a2 : List Int) (V2_0 : Value) (R2_0 : Rd (kI .u8) w V2_0 a2) (NR2_0_P0 : OffR V2_0 a2 G_0) (NR2_0_R0_0 : OffRV V2_0 a2 V0_0) (NR2_0_R0_1 : OffRV V2_0 a2 V0_1) (r : Int × S_pmem_Device) (h : press_Write.f fu a0 a1 a2 = some r) :
  Calls Try.prog 53 (([.pointer (some ⟨G_0, 0, none⟩), .int .i64 a1, V2_0] : List Value).toArray) w (fun e w' => ∃ v, e = .returned v ∧ ∃ u1 : Value, ∃ u4 : Value, ∃ o2 : Own k_pmem_cell 142 w' 0 u1 r.2.cells, ∃ m3 : ∀ g, Value.ownBlock u1 = some g → w.heap.size ≤ g ∨ (g = G_0 ∨ some g = Value.ownBlock V0_0 ∨ some g = Value.ownBlock V0_1), ∃ o5 : Own (kI .i64) 3 w' 0 u4 r.2.plan.list, ∃ m6 : ∀ g, Value.ownBlock u4 = some g → w.heap.size ≤ g ∨ (g = G_0 ∨ some g = Value.ownBlock V0_0 ∨ some g = Value.ownBlock V0_1), v = .int .i64 r.1 ∧ Blk w' G_0 139 [Seg.cell u1 o2.one, Seg.cell u4 o5.one, Seg.cell (.int .i64 r.2.plan.at_), Seg.cell (.bool r.2.off), Seg.cell (.bool r.2.armed), Seg.cell (.int .i64 r.2.left), Seg.cell (.int .i64 r.2.steps)] ∧ Fr (fun j => j = G_0 ∨ some j = Value.ownBlock V0_0 ∨ some j = Value.ownBlock V0_1) w w') := by
 unfold press_Write.f at h
 have fB : Fr (fun j => j = G_0 ∨ some j = Value.ownBlock V0_0 ∨ some j = Value.ownBlock V0_1) w w := Fr.refl _ _
 have M0_0 : ∀ g, Value.ownBlock V0_0 = some g → w.heap.size ≤ g ∨ (g = G_0 ∨ some g = Value.ownBlock V0_0 ∨ some g = Value.ownBlock V0_1) := fun g hg => .inr (.inr (.inl hg.symm))
 have M0_1 : ∀ g, Value.ownBlock V0_1 = some g → w.heap.size ≤ g ∨ (g = G_0 ∨ some g = Value.ownBlock V0_0 ∨ some g = Value.ownBlock V0_1) := fun g hg => .inr (.inr (.inr hg.symm))
 refine calls_cw Try.func53 rfl Try.ntmps53 rfl ?_
 refine cw_seq ?_
 refine cw_region ?_
 refine ol_val (v := .int .i64 0) (by exact xr_assign rfl rfl) rfl rfl rfl ?_
 refine ol_nil ?_
 refine cw_seq ?_
 refine cw_seq ?_
 refine cw_region ?_
 refine ol_val (v := .pointer (some ⟨G_0, 0, none⟩)) (by exact xr_move rfl rfl) rfl rfl rfl ?_
 refine ol_val (v := .int .i64 a1) (by exact xr_move rfl rfl) rfl rfl rfl ?_
 obtain ⟨t7, k8, h⟩ := bs h
 refine ol_op (by exact opv_call rfl cal102 (ac rfl (ac rfl an)) (press_may.ok fu _ a0 G_0 V0_0 (O0_0.rd) V0_1 (O0_1.rd) b_0 a1 _ k8)) rfl rfl rfl ?_
 rintro _ w10 ⟨rfl, q9⟩
 have b_0 := b_0.gr q9
 have O0_0 := O0_0.gr q9
 have O0_1 := O0_1.gr q9
 have R2_0 := R2_0.gr q9
 have fB := fB.gr q9
 refine ol_val (v := .int .i64 t7) (by exact xr_assign rfl rfl) rfl rfl rfl ?_
 refine ol_nil ?_
 refine cw_seq ?_
 refine cw_region ?_
 refine ol_val (v := .int .i64 t7) (by exact xr_move rfl rfl) rfl rfl rfl ?_
 refine ol_val (v := .bool (!decide (t7 = 0))) (by exact xr_neI rfl Try.underlying31 rfl rfl rfl) rfl rfl rfl ?_
 refine ol_nil ?_
 rcases is h with ⟨c11, h⟩ | ⟨c11, h⟩
 ·refine cw_condT rfl c11 ?_
  refine cw_seq ?_
  refine cw_region ?_
  refine ol_val (v := .int .i64 t7) (by exact xr_move rfl rfl) rfl rfl rfl ?_
  refine ol_val (v := .int .i64 t7) (by exact xr_assign rfl rfl) rfl rfl rfl ?_
  refine ol_nil ?_
  refine cw_ret ?_
  repeat (first | with_reducible refine thn_r ?_ | with_reducible refine blk_r ?_)
  obtain rfl := Option.some.inj h
  refine fin_ret1 Try.results53 rfl ?_
  exact ⟨_, rfl, V0_0, V0_1, O0_0, M0_0, O0_1, M0_1, rfl, b_0, fB⟩
 refine cw_condF rfl c11 ?_
 refine cw_skip ?_
 refine cw_seq ?_
 refine cw_seq ?_
 refine cw_region ?_
 refine ol_val (v := V2_0) (by exact xr_move rfl rfl) rfl rfl rfl ?_
 refine ol_val (v := .int .i64 (List.length a2 : Int)) (by exact xr_lenR rfl Try.underlying43 rfl R2_0) rfl rfl rfl ?_
 refine ol_val (v := .bool (!decide ((List.length a2 : Int) = 64))) (by exact xr_neI rfl Try.underlying3 rfl rfl rfl) rfl rfl rfl ?_
 refine ol_nil ?_
 rcases is h with ⟨c12, h⟩ | ⟨c12, h⟩
 ·refine cw_condT rfl c12 ?_
  refine cw_seq ?_
  refine cw_region ?_
  refine ol_val (v := .int .i64 2) (by exact xr_assign rfl rfl) rfl rfl rfl ?_
  refine ol_nil ?_
  refine cw_ret ?_
  repeat (first | with_reducible refine thn_r ?_ | with_reducible refine blk_r ?_)
  obtain rfl := Option.some.inj h
  refine fin_ret1 Try.results53 rfl ?_
  exact ⟨_, rfl, V0_0, V0_1, O0_0, M0_0, O0_1, M0_1, rfl, b_0, fB⟩
 refine cw_condF rfl c12 ?_
 refine cw_skip ?_
 refine cw_seq ?_
 refine cw_region ?_
 refine ol_val (v := .pointer (some ⟨G_0, 0, none⟩)) (by exact xr_move rfl rfl) rfl rfl rfl ?_
 refine ol_val (v := .int .i64 a1) (by exact xr_move rfl rfl) rfl rfl rfl ?_
 refine ol_val (v := V2_0) (by exact xr_move rfl rfl) rfl rfl rfl ?_
 obtain ⟨t13, k14, h⟩ := bs h
 refine ol_op (by exact opv_call rfl cal99 (ac rfl an) (octet_Words.ok fu _ a2 V2_0 (R2_0) _ k14)) rfl rfl rfl ?_
 rintro u15 w19 ⟨_, o16, rfl, q18⟩
 have o16 := Own.base o16 fB.size
 have b_0 := b_0.gr q18
 have O0_0 := O0_0.gr q18
 have O0_1 := O0_1.gr q18
 have fB := fB.gr q18
 obtain ⟨t20, k21, h⟩ := bs h
 have c31 : ∀ k, (k = G_0 ∨ some k = Value.ownBlock V0_0 ∨ some k = Value.ownBlock V0_1) → (w.heap.size ≤ k ∨ (k = G_0 ∨ some k = Value.ownBlock V0_0 ∨ some k = Value.ownBlock V0_1)) := (cv_or (cv_eq (.inr (.inl rfl))) (cv_or (cv_own M0_0) (cv_own M0_1)))
 refine ol_op (by exact opv_call rfl cal103 (ac rfl (ac rfl (ac rfl (ac rfl an)))) (press_store.ok fu _ a0 G_0 V0_0 (Own.base O0_0 (Nat.zero_le _)) V0_1 (Own.base O0_1 (Nat.zero_le _)) b_0 a1 0 t13 u15 (o16.rd) (OffR.own o16 (off_ty b_0 o16 (by decide))) (OffRV.own o16 (OffV.ty o16 O0_0 (by decide))) (OffRV.own o16 (OffV.ty o16 O0_1 (by decide))) _ k21)) rfl rfl rfl ?_
 rintro _ w32 ⟨u23, u27, o24, m25, o28, m29, rfl, b_0, q22⟩
 have m25 : ∀ g, Value.ownBlock u23 = some g → w.heap.size ≤ g ∨ (g = G_0 ∨ some g = Value.ownBlock V0_0 ∨ some g = Value.ownBlock V0_1) := fun g hg => (m25 g hg).elim (fun x => .inl (Nat.le_trans fB.size x)) (c31 g)
 have m29 : ∀ g, Value.ownBlock u27 = some g → w.heap.size ≤ g ∨ (g = G_0 ∨ some g = Value.ownBlock V0_0 ∨ some g = Value.ownBlock V0_1) := fun g hg => (m29 g hg).elim (fun x => .inl (Nat.le_trans fB.size x)) (c31 g)
 have fB := fB.call q22 c31
 refine ol_val (v := .int .i64 t20.1) (by exact xr_assign rfl rfl) rfl rfl rfl ?_
 refine ol_nil ?_
 refine cw_ret ?_
 repeat (first | with_reducible refine thn_r ?_ | with_reducible refine blk_r ?_)
 obtain rfl := Option.some.inj h
 refine fin_ret1 Try.results53 rfl ?_
 exact ⟨_, rfl, u23, u27, o24, m25, o28, m29, rfl, b_0, fB⟩
end Go.Proofs.Ytklhbaghbmndeaa
