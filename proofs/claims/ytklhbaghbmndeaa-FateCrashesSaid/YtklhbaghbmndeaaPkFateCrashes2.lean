/- FateCrashes: texts merged, part 2 of 6. The last part proves that the law FateCrashes holds for every input. -/
import Derived.Test.YtklhbaghbmndeaaPkFateCrashes1
import Derived.Test.YtklhbaghbmndeaaProg
import Derived.KernelRfl
set_option maxRecDepth 100000
set_option maxHeartbeats 4000000
set_option linter.unusedVariables false
set_option linter.unusedSimpArgs false
namespace Go.Proofs.Ytklhbaghbmndeaa
open Go Go.Xw
abbrev pt (g o : Nat) : Value := .pointer (some ⟨g, o, none⟩)
abbrev sI (x : Int) : Seg := .cell (.int .i64 x)
structure S_rickyardlaw05_Act where
  Kind : Int
  At : Int
  W : Int
  L : List Int
deriving DecidableEq, Inhabited
structure S_rickyardlaw05_Fenced where
  Line : Int
  Ws : Arr 8 Int
  Acts : List S_rickyardlaw05_Act
  L : List Int
deriving DecidableEq, Inhabited
structure S_pmem_cell where
  lasts : Int
  stored : Int
  sent : Int
  flushed : Bool
deriving DecidableEq, Inhabited
def segs_pmem_cell (x : S_pmem_cell) : List Seg := [Seg.cell (.int .u64 x.lasts), Seg.cell (.int .u64 x.stored), Seg.cell (.int .u64 x.sent), Seg.cell (.bool x.flushed)]
def k_pmem_cell : Kd S_pmem_cell := kT segs_pmem_cell 4 (fun _ => rfl)
structure S_pmem_plan where
  list : List Int
  at_ : Int
deriving DecidableEq, Inhabited
structure S_pmem_Device where
  cells : List S_pmem_cell
  plan : S_pmem_plan
  off : Bool
  armed : Bool
  left : Int
  steps : Int
deriving DecidableEq, Inhabited
structure S_api_Fate where
  At : Int
  Lasts : Int
  Flushed : Bool
  Sent : Int
  Stored : Int
deriving DecidableEq, Inhabited
def segs_api_Fate (x : S_api_Fate) : List Seg := [Seg.cell (.int .i64 x.At), Seg.cell (.int .u64 x.Lasts), Seg.cell (.bool x.Flushed), Seg.cell (.int .u64 x.Sent), Seg.cell (.int .u64 x.Stored)]
def k_api_Fate : Kd S_api_Fate := kT segs_api_Fate 5 (fun _ => rfl)
structure S_rickyardref05_Device where
  Lasts : List Int
  Stored : List Int
  Sent : List Int
  Flushed : List Bool
  Plan : List Int
  Since : Int
  Left : Int
  Steps : Int
deriving DecidableEq, Inhabited
structure S_rickyardlaw15_Act where
  Kind : Int
  At : Int
  I : Int
  B : List Int
  A : S_rickyardlaw05_Act
deriving DecidableEq, Inhabited
structure S_api_Geometry where
  Blocks : Int
  Slots : Int
  Gens : Int
deriving DecidableEq, Inhabited
structure S_api_Tickets where
  Geometry : S_api_Geometry
  Top : Int
  High : Int
  Free : Int
deriving DecidableEq, Inhabited
structure S_api_Super where
  Epoch : Int
  Tickets : S_api_Tickets
  Dir : Int
  Charts : List Int
deriving DecidableEq, Inhabited
structure S_super_reader where
  rest : List Int
deriving DecidableEq, Inhabited
structure S_rickyardlaw16_Cut where
  Steps : Int
  Plan : List Int
  L : List Int
deriving DecidableEq, Inhabited
def D_rickyardlaw05_Act (w : World) (cs : List Value) (m : S_rickyardlaw05_Act) : Prop := ∃ V0 : Value, ∃ R0 : Rd (kI .i64) w V0 m.L, cs = cellsOf [Seg.cell (.int .i64 m.Kind), Seg.cell (.int .i64 m.At), Seg.cell (.int .u64 m.W), Seg.cell V0 R0.one]
theorem D_rickyardlaw05_Act.gr {w w' : World} {cs : List Value} {m : S_rickyardlaw05_Act} : D_rickyardlaw05_Act w cs m → Gr w w' → D_rickyardlaw05_Act w' cs m := fun ⟨V0, R0, e⟩ q => ⟨V0, R0.gr q, e⟩
theorem N_rickyardlaw05_Act {w : World} {v : Value} {l : List S_rickyardlaw05_Act} (h : RdN 4 D_rickyardlaw05_Act w v l) {i : Int} (h0 : 0 ≤ i) (h1 : i < (l.length : Int)) : At w (sb v) (so v + Int.toNat i * 4) ((Seg.l (Seg.cell (.int .i64 ((ix l i).Kind)))) ++ ((Seg.l (Seg.cell (.int .i64 ((ix l i).At)))) ++ ((Seg.l (Seg.cell (.int .u64 ((ix l i).W)))) ++ ([(cellAt w (sb v) (so v + Int.toNat i * 4 + 3))] ++ ([] : List Value))))) ∧ Rd (kI .i64) w (cellAt w (sb v) (so v + Int.toNat i * 4 + 3)) ((ix l i).L) := by
  obtain ⟨_, A, V0, R0, rfl⟩ := RdN.at h h0 h1
  have e0 : (cellAt w (sb v) (so v + Int.toNat i * 4 + 3)) = V0 := A.cellAt (j := 3) rfl
  rw [e0]
  exact ⟨A, R0⟩
def D_rickyardlaw15_Act (w : World) (cs : List Value) (m : S_rickyardlaw15_Act) : Prop := ∃ V0 : Value, ∃ R0 : Rd (kI .u8) w V0 m.B, ∃ V1 : Value, ∃ R1 : Rd (kI .i64) w V1 m.A.L, cs = cellsOf [Seg.cell (.int .i64 m.Kind), Seg.cell (.int .i64 m.At), Seg.cell (.int .i64 m.I), Seg.cell V0 R0.one, Seg.cell (.int .i64 m.A.Kind), Seg.cell (.int .i64 m.A.At), Seg.cell (.int .u64 m.A.W), Seg.cell V1 R1.one]
theorem D_rickyardlaw15_Act.gr {w w' : World} {cs : List Value} {m : S_rickyardlaw15_Act} : D_rickyardlaw15_Act w cs m → Gr w w' → D_rickyardlaw15_Act w' cs m := fun ⟨V0, R0, V1, R1, e⟩ q => ⟨V0, R0.gr q, V1, R1.gr q, e⟩
def D_api_Super (w : World) (cs : List Value) (m : S_api_Super) : Prop := ∃ V0 : Value, ∃ R0 : Rd (kI .i64) w V0 m.Charts, cs = cellsOf [Seg.cell (.int .i64 m.Epoch), Seg.cell (.int .i64 m.Tickets.Geometry.Blocks), Seg.cell (.int .i64 m.Tickets.Geometry.Slots), Seg.cell (.int .i64 m.Tickets.Geometry.Gens), Seg.cell (.int .i64 m.Tickets.Top), Seg.cell (.int .i64 m.Tickets.High), Seg.cell (.int .i64 m.Tickets.Free), Seg.cell (.int .i64 m.Dir), Seg.cell V0 R0.one]
theorem D_api_Super.gr {w w' : World} {cs : List Value} {m : S_api_Super} : D_api_Super w cs m → Gr w w' → D_api_Super w' cs m := fun ⟨V0, R0, e⟩ q => ⟨V0, R0.gr q, e⟩
theorem mo : Try.prog.follows .mixedOrders = true := by kernel_rfl
theorem el142 : elB Try.prog 142 = some (some (aggV [Seg.cell (.int .u64 (0 : Int)), Seg.cell (.int .u64 (0 : Int)), Seg.cell (.int .u64 (0 : Int)), Seg.cell (.bool false)]), 4, 32) := by kernel_rfl
theorem pl139 : placesB Try.prog 139 = some [(0, 1), (1, 2), (3, 1), (4, 1), (5, 1), (6, 1)] := by kernel_rfl
theorem ze139 : (Try.prog.info? 139).map (·.zero) = some (some (aggV [Seg.cell (.slice none 0 0) (by rfl), Seg.cell (.slice none 0 0) (by rfl), Seg.cell (.int .i64 (0 : Int)), Seg.cell (.bool false), Seg.cell (.bool false), Seg.cell (.int .i64 (0 : Int)), Seg.cell (.int .i64 (0 : Int))])) := by kernel_rfl
theorem cal26 : calB Try.prog 26 = some true := by kernel_rfl
theorem fl139_0 : fldB Try.prog 139 0 = some 0 := by kernel_rfl
theorem ag135 : aggB Try.prog 135 = some false := by kernel_rfl
theorem fl139_2 : fldB Try.prog 139 2 = some 3 := by kernel_rfl
theorem ag4 : aggB Try.prog 4 = some false := by kernel_rfl
theorem cal83 : calB Try.prog 83 = some true := by kernel_rfl
theorem sz142 : szB Try.prog 142 = some 4 := by kernel_rfl
theorem fl142_1 : fldB Try.prog 142 1 = some 1 := by kernel_rfl
theorem sz22 : szB Try.prog 22 = some 1 := by kernel_rfl
theorem fl139_5 : fldB Try.prog 139 5 = some 6 := by kernel_rfl
theorem ag3 : aggB Try.prog 3 = some false := by kernel_rfl
theorem sz3 : szB Try.prog 3 = some 1 := by kernel_rfl
theorem fl139_1 : fldB Try.prog 139 1 = some 1 := by kernel_rfl
theorem fl137_0 : fldB Try.prog 137 0 = some 0 := by kernel_rfl
theorem ag25 : aggB Try.prog 25 = some false := by kernel_rfl
theorem fl137_1 : fldB Try.prog 137 1 = some 1 := by kernel_rfl
theorem cal123 : calB Try.prog 123 = some true := by kernel_rfl
theorem ag22 : aggB Try.prog 22 = some false := by kernel_rfl
theorem fl142_0 : fldB Try.prog 142 0 = some 0 := by kernel_rfl
theorem fl142_2 : fldB Try.prog 142 2 = some 2 := by kernel_rfl
theorem fl142_3 : fldB Try.prog 142 3 = some 3 := by kernel_rfl
theorem sz4 : szB Try.prog 4 = some 1 := by kernel_rfl
theorem cal85 : calB Try.prog 85 = some true := by kernel_rfl
theorem fl139_3 : fldB Try.prog 139 3 = some 4 := by kernel_rfl
theorem fl139_4 : fldB Try.prog 139 4 = some 5 := by kernel_rfl
theorem cal84 : calB Try.prog 84 = some true := by kernel_rfl
theorem cal28 : calB Try.prog 28 = some true := by kernel_rfl
theorem cal43 : calB Try.prog 43 = some true := by kernel_rfl
theorem cal29 : calB Try.prog 29 = some true := by kernel_rfl
theorem cal30 : calB Try.prog 30 = some true := by kernel_rfl
theorem cal86 : calB Try.prog 86 = some true := by kernel_rfl
theorem cal87 : calB Try.prog 87 = some true := by kernel_rfl
theorem bl137_  (w : World) : (Instr.build 137 ([] : List (Nat × Value)).toArray).run Try.prog w = .ok (aggV [Seg.cell (.slice none 0 0) (by rfl), Seg.cell (.int .i64 (0 : Int))]) w := by kernel_rfl
theorem sz137 : szB Try.prog 137 = some 2 := by kernel_rfl
theorem cal32 : calB Try.prog 32 = some true := by kernel_rfl
theorem cal82 : calB Try.prog 82 = some true := by kernel_rfl
theorem sz39 : szB Try.prog 39 = some 4 := by kernel_rfl
theorem fl39_3 : fldB Try.prog 39 3 = some 3 := by kernel_rfl
theorem cal25 : calB Try.prog 25 = some true := by kernel_rfl
theorem cal27 : calB Try.prog 27 = some true := by kernel_rfl
theorem fl39_0 : fldB Try.prog 39 0 = some 0 := by kernel_rfl
theorem fl39_1 : fldB Try.prog 39 1 = some 1 := by kernel_rfl
theorem ag39 : aggB Try.prog 39 = some true := by kernel_rfl
theorem fl39_2 : fldB Try.prog 39 2 = some 2 := by kernel_rfl
theorem cal38 : calB Try.prog 38 = some true := by kernel_rfl
theorem el3 : elB Try.prog 3 = some (some (.int .i64 (0 : Int)), 1, 8) := by kernel_rfl
theorem cal90 : calB Try.prog 90 = some true := by kernel_rfl
theorem pl137 : placesB Try.prog 137 = some [(0, 1), (1, 1)] := by kernel_rfl
theorem ze137 : (Try.prog.info? 137).map (·.zero) = some (some (aggV [Seg.cell (.slice none 0 0) (by rfl), Seg.cell (.int .i64 (0 : Int))])) := by kernel_rfl
theorem cal35 : calB Try.prog 35 = some true := by kernel_rfl
theorem cal31 : calB Try.prog 31 = some true := by kernel_rfl
theorem el22 : elB Try.prog 22 = some (some (.int .u64 (0 : Int)), 1, 8) := by kernel_rfl
theorem cal89 : calB Try.prog 89 = some true := by kernel_rfl
theorem el5 : elB Try.prog 5 = some (some (.int .u8 (0 : Int)), 1, 1) := by kernel_rfl
theorem sz5 : szB Try.prog 5 = some 1 := by kernel_rfl
theorem cal128 : calB Try.prog 128 = some true := by kernel_rfl
theorem cal104 : calB Try.prog 104 = some true := by kernel_rfl
theorem cal88 : calB Try.prog 88 = some true := by kernel_rfl
theorem cal33 : calB Try.prog 33 = some true := by kernel_rfl
theorem bl55_0_1_2_3_4 (x0 : Int) (x1 : Int) (x2 : Bool) (x3 : Int) (x4 : Int) (w : World) : (Instr.build 55 ([(0, .int .i64 x0), (1, .int .u64 x1), (2, .bool x2), (3, .int .u64 x3), (4, .int .u64 x4)] : List (Nat × Value)).toArray).run Try.prog w = .ok (aggV [Seg.cell (.int .i64 x0), Seg.cell (.int .u64 x1), Seg.cell (.bool x2), Seg.cell (.int .u64 x3), Seg.cell (.int .u64 x4)]) w := by kernel_rfl
theorem el55 : elB Try.prog 55 = some (some (aggV [Seg.cell (.int .i64 (0 : Int)), Seg.cell (.int .u64 (0 : Int)), Seg.cell (.bool false), Seg.cell (.int .u64 (0 : Int)), Seg.cell (.int .u64 (0 : Int))]), 5, 40) := by kernel_rfl
theorem cal40 : calB Try.prog 40 = some true := by kernel_rfl
theorem sz55 : szB Try.prog 55 = some 5 := by kernel_rfl
theorem fl55_0 : fldB Try.prog 55 0 = some 0 := by kernel_rfl
theorem ag55 : aggB Try.prog 55 = some true := by kernel_rfl
theorem fl55_4 : fldB Try.prog 55 4 = some 4 := by kernel_rfl
theorem fl55_2 : fldB Try.prog 55 2 = some 2 := by kernel_rfl
theorem fl55_3 : fldB Try.prog 55 3 = some 3 := by kernel_rfl
theorem fl55_1 : fldB Try.prog 55 1 = some 1 := by kernel_rfl
theorem cal42 : calB Try.prog 42 = some true := by kernel_rfl
theorem el4 : elB Try.prog 4 = some (some (.bool false), 1, 1) := by kernel_rfl
theorem pl65 : placesB Try.prog 65 = some [(0, 1), (1, 1), (2, 1), (3, 1), (4, 1), (5, 1), (6, 1), (7, 1)] := by kernel_rfl
theorem ze65 : (Try.prog.info? 65).map (·.zero) = some (some (aggV [Seg.cell (.slice none 0 0) (by rfl), Seg.cell (.slice none 0 0) (by rfl), Seg.cell (.slice none 0 0) (by rfl), Seg.cell (.slice none 0 0) (by rfl), Seg.cell (.slice none 0 0) (by rfl), Seg.cell (.int .i64 (0 : Int)), Seg.cell (.int .i64 (0 : Int)), Seg.cell (.int .i64 (0 : Int))])) := by kernel_rfl
theorem cal44 : calB Try.prog 44 = some true := by kernel_rfl
theorem fl65_0 : fldB Try.prog 65 0 = some 0 := by kernel_rfl
theorem ag46 : aggB Try.prog 46 = some false := by kernel_rfl
theorem fl65_6 : fldB Try.prog 65 6 = some 6 := by kernel_rfl
theorem cal124 : calB Try.prog 124 = some true := by kernel_rfl
theorem fl65_1 : fldB Try.prog 65 1 = some 1 := by kernel_rfl
theorem fl65_4 : fldB Try.prog 65 4 = some 4 := by kernel_rfl
theorem fl65_5 : fldB Try.prog 65 5 = some 5 := by kernel_rfl
theorem fl65_2 : fldB Try.prog 65 2 = some 2 := by kernel_rfl
theorem fl65_3 : fldB Try.prog 65 3 = some 3 := by kernel_rfl
theorem ag63 : aggB Try.prog 63 = some false := by kernel_rfl
theorem cal126 : calB Try.prog 126 = some true := by kernel_rfl
theorem fl65_7 : fldB Try.prog 65 7 = some 7 := by kernel_rfl
theorem cal125 : calB Try.prog 125 = some true := by kernel_rfl
theorem cal92 : calB Try.prog 92 = some true := by kernel_rfl
theorem cal93 : calB Try.prog 93 = some true := by kernel_rfl
theorem cal94 : calB Try.prog 94 = some true := by kernel_rfl
theorem cal95 : calB Try.prog 95 = some true := by kernel_rfl
theorem cal96 : calB Try.prog 96 = some true := by kernel_rfl
theorem sz25 : szB Try.prog 25 = some 1 := by kernel_rfl
theorem cal97 : calB Try.prog 97 = some true := by kernel_rfl
theorem cal47 : calB Try.prog 47 = some true := by kernel_rfl
theorem cal98 : calB Try.prog 98 = some true := by kernel_rfl
theorem cal45 : calB Try.prog 45 = some true := by kernel_rfl
theorem ag5 : aggB Try.prog 5 = some false := by kernel_rfl
theorem cal109 : calB Try.prog 109 = some true := by kernel_rfl
theorem ze55 : (Try.prog.info? 55).map (·.zero) = some (some (aggV [Seg.cell (.int .i64 (0 : Int)), Seg.cell (.int .u64 (0 : Int)), Seg.cell (.bool false), Seg.cell (.int .u64 (0 : Int)), Seg.cell (.int .u64 (0 : Int))])) := by kernel_rfl
theorem cal108 : calB Try.prog 108 = some true := by kernel_rfl
theorem cal110 : calB Try.prog 110 = some true := by kernel_rfl
theorem cal63 : calB Try.prog 63 = some true := by kernel_rfl
theorem cal127 : calB Try.prog 127 = some true := by kernel_rfl
theorem cal100 : calB Try.prog 100 = some true := by kernel_rfl
theorem cal50 : calB Try.prog 50 = some true := by kernel_rfl
theorem cal61 : calB Try.prog 61 = some true := by kernel_rfl
theorem cal49 : calB Try.prog 49 = some true := by kernel_rfl
theorem ag43 : aggB Try.prog 43 = some false := by kernel_rfl
theorem cal60 : calB Try.prog 60 = some true := by kernel_rfl
theorem cal65 : calB Try.prog 65 = some true := by kernel_rfl
theorem el43 : elB Try.prog 43 = some (some (.slice none 0 0), 1, 24) := by kernel_rfl
theorem sz43 : szB Try.prog 43 = some 1 := by kernel_rfl
theorem cal111 : calB Try.prog 111 = some true := by kernel_rfl
theorem cal67 : calB Try.prog 67 = some true := by kernel_rfl
def pmem_cell_keep__i0.f (fu : Nat) (a0 : S_pmem_cell) (a1 : Int) : Option S_pmem_cell := some ((⟨a1, a0.stored, 0, false⟩ : S_pmem_cell))
theorem pmem_cell_keep__i0.ok (fu : Nat) (w : World) (a0 : S_pmem_cell) (G_0 : Nat) (T_0 : TypeId) (X_0 Y_0 : List Value) (b_0 : SubB w G_0 T_0 X_0 [Seg.cell (.int .u64 a0.lasts), Seg.cell (.int .u64 a0.stored), Seg.cell (.int .u64 a0.sent), Seg.cell (.bool a0.flushed)] Y_0) (a1 : Int) (r : S_pmem_cell) (h : pmem_cell_keep__i0.f fu a0 a1 = some r) :
  Calls Try.prog 85 (([(pt G_0 (List.length X_0)), .int .u64 a1] : List Value).toArray) w (fun e w' => ∃ v, e = .returned v ∧ v = .tuple #[] ∧ SubB w' G_0 T_0 X_0 [Seg.cell (.int .u64 r.lasts), Seg.cell (.int .u64 r.stored), Seg.cell (.int .u64 r.sent), Seg.cell (.bool r.flushed)] Y_0 ∧ Fr (fun j => j = G_0) w w') := by
 unfold pmem_cell_keep__i0.f at h
 have fB : Fr (fun j => j = G_0) w w := Fr.refl _ _
 refine calls_cw Try.func85 rfl Try.ntmps85 rfl ?_
 refine cw_seq ?_
 refine cw_region ?_
 refine ol_val (v := (pt G_0 (List.length X_0))) (xr_move rfl rfl) rfl rfl rfl ?_
 refine ol_val (v := .int .u64 a1) (xr_move rfl rfl) rfl rfl rfl ?_
 refine ol_val (v := (pt G_0 (List.length X_0))) (xr_nilCheck rfl rfl) rfl rfl rfl ?_
 refine ol_val (v := (pt G_0 (List.length X_0 + 0))) (xr_fieldAddr (p := List.length X_0) (q := 0) rfl fl142_0 rfl) rfl rfl rfl ?_
 refine ol_op0 (opv_storeSub (ss' := [Seg.cell (.int .u64 a1), Seg.cell (.int .u64 a0.stored), Seg.cell (.int .u64 a0.sent), Seg.cell (.bool a0.flushed)]) (xs := cellsOf [Seg.cell (.int .u64 a1)]) rfl sz22 rfl rfl rfl (len_cellsOf _) (one_cellsOf _) b_0 (Spl.segs _ 0 1 [Seg.cell (.int .u64 a1)] rfl rfl)) rfl rfl ?_
 rintro _ w2 ⟨b_0, q1⟩
 have fB := fB.wrS q1 rfl
 refine ol_nil ?_
 refine cw_region ?_
 refine ol_val (v := (pt G_0 (List.length X_0))) (xr_move rfl rfl) rfl rfl rfl ?_
 refine ol_val (v := (pt G_0 (List.length X_0))) (xr_move rfl rfl) rfl rfl rfl ?_
 refine ol_val (v := (pt G_0 (List.length X_0))) (xr_nilCheck rfl rfl) rfl rfl rfl ?_
 refine ol_val (v := (pt G_0 (List.length X_0 + 2))) (xr_fieldAddr (p := List.length X_0) (q := 2) rfl fl142_2 rfl) rfl rfl rfl ?_
 refine ol_op0 (opv_storeSub (ss' := [Seg.cell (.int .u64 a1), Seg.cell (.int .u64 a0.stored), Seg.cell (.int .u64 0), Seg.cell (.bool a0.flushed)]) (xs := cellsOf [Seg.cell (.int .u64 0)]) rfl sz22 rfl rfl rfl (len_cellsOf _) (one_cellsOf _) b_0 (Spl.segs _ 2 1 [Seg.cell (.int .u64 0)] rfl rfl)) rfl rfl ?_
 rintro _ w4 ⟨b_0, q3⟩
 have fB := fB.wrS q3 rfl
 refine ol_val (v := (pt G_0 (List.length X_0))) (xr_nilCheck rfl rfl) rfl rfl rfl ?_
 refine ol_val (v := (pt G_0 (List.length X_0 + 3))) (xr_fieldAddr (p := List.length X_0) (q := 3) rfl fl142_3 rfl) rfl rfl rfl ?_
 refine ol_op0 (opv_storeSub (ss' := [Seg.cell (.int .u64 a1), Seg.cell (.int .u64 a0.stored), Seg.cell (.int .u64 0), Seg.cell (.bool false)]) (xs := cellsOf [Seg.cell (.bool false)]) rfl sz4 rfl rfl rfl (len_cellsOf _) (one_cellsOf _) b_0 (Spl.segs _ 3 1 [Seg.cell (.bool false)] rfl rfl)) rfl rfl ?_
 rintro _ w6 ⟨b_0, q5⟩
 have fB := fB.wrS q5 rfl
 refine ol_nil ?_
 obtain rfl := Option.some.inj h
 refine fin_end0 Try.results85 ?_
 exact ⟨_, rfl, rfl, b_0, fB⟩
end Go.Proofs.Ytklhbaghbmndeaa
namespace Go.Xw
open Go
section
variable {P : Program} {N : Nat} {l : List Oper} {Q : Exit → Env → World → Prop}
def RD (P : Program) (N : Nat) (l : List Oper) (Q : Exit → Env → World → Prop) (m : Nat) (ρ : Env) (w : World) : Prop :=
  ∀ (fuel : Nat) (listed : Array Bool) (a : Act), Fits N a ρ → listed.size = l.length → (List.range l.length).countP (fun k => !listed.getD k false) ≤ fuel → (∀ k, k < l.length → listed.getD k false = Nat.blt k m) → wpAny P .any l.toArray (lift N Q) fuel listed a w
def backB (l : List Oper) : Bool := (List.range l.length).all fun k => match l[k]? with
  | some o => o.after.toList.all fun e => !Region.binds .any e || Nat.blt e.on k
  | none => false
def pivB (l : List Oper) (p : Nat) : Bool :=
  ((List.range p).all fun j => (List.range (p + 1)).any fun k => Nat.blt j k && aftB l k j) &&
  ((List.range l.length).all fun i => Nat.ble i p || (List.range i).any fun k => Nat.ble p k && aftB l i k)
def bndB (l : List Oper) (n : Nat) : Bool := Nat.beq n l.length || pivB l n || Nat.beq n 0 || pivB l (n - 1)
theorem blt_f {a b : Nat} (h : ¬ a < b) : Nat.blt a b = false := by
  cases hb : Nat.blt a b
  · rfl
  · exact absurd (blt_iff.1 hb) h
theorem beq_f {a b : Nat} (h : ¬ a = b) : Nat.beq a b = false := by
  cases hb : Nat.beq a b
  · rfl
  · exact absurd (Nat.eq_of_beq_eq_true hb) h
theorem piv_listed {listed : Array Bool} {p : Nat} (hp : pivB l p = true) (hcl : ∀ k, listed.getD k false = true → ∀ j, aftB l k j = true → listed.getD j false = true) : ∀ d i, i ≤ d → p < i → i < l.length → (∀ j, aftB l i j = true → listed.getD j false = true) → listed.getD p false = true
  | 0, i, h, h1, _, _ => by omega
  | d + 1, i, h, h1, hil, hi => by
    have h2 := hp
    simp only [pivB, Bool.and_eq_true] at h2
    have h3 := List.all_eq_true.1 h2.2 i (List.mem_range.2 hil)
    have h4 : Nat.ble i p = false := by
      cases hb : Nat.ble i p
      · rfl
      · have := Nat.le_of_ble_eq_true hb
        omega
    rw [h4, Bool.false_or] at h3
    obtain ⟨k, hk, hk2⟩ := List.any_eq_true.1 h3
    rw [Bool.and_eq_true] at hk2
    have hki := List.mem_range.1 hk
    have hpk := Nat.le_of_ble_eq_true hk2.1
    have hlk := hi k hk2.2
    by_cases e : k = p
    · rw [← e]
      exact hlk
    · exact piv_listed hp hcl d k (by omega) (by omega) (by omega) (hcl k hlk)
theorem bnd_all {listed : Array Bool} {n i : Nat} (hb : bndB l n = true) (hcl : ∀ k, listed.getD k false = true → ∀ j, aftB l k j = true → listed.getD j false = true) (hni : n ≤ i) (hil : i < l.length) (hi : ∀ j, aftB l i j = true → listed.getD j false = true) : ∀ j, j < n → listed.getD j false = true := by
  have full : ∀ p, pivB l p = true → (∀ j, aftB l p j = true → listed.getD j false = true) → ∀ j, j < p → listed.getD j false = true := by
    intro p hp hpa j hj
    have h2 := hp
    simp only [pivB, Bool.and_eq_true] at h2
    exact all_before hcl hpa h2.1 p j (by omega) hj
  simp only [bndB, Bool.or_eq_true] at hb
  rcases hb with ((hb | hb) | hb) | hb
  · have := Nat.eq_of_beq_eq_true hb
    omega
  · intro j hj
    by_cases e : i = n
    · subst e
      exact full i hb hi j hj
    · have := piv_listed hb hcl i i (Nat.le_refl _) (by omega) hil hi
      exact full n hb (hcl n this) j hj
  · intro j hj
    have := Nat.eq_of_beq_eq_true hb
    omega
  · intro j hj
    have := piv_listed hb hcl i i (Nat.le_refl _) (by omega) hil hi
    by_cases e : j = n - 1
    · rw [e]
      exact this
    · exact full (n - 1) hb (hcl _ this) j (by omega)
theorem closed_at (hback : backB l = true) {listed : Array Bool} (hsz : listed.size = l.length) {m : Nat} (hl : ∀ k, k < l.length → listed.getD k false = Nat.blt k m) : ∀ k, listed.getD k false = true → ∀ j, aftB l k j = true → listed.getD j false = true := by
  intro k hk j hj
  have hkl : k < l.length := by
    rcases Nat.lt_or_ge k l.length with h | h
    · exact h
    · rw [Array.getD_eq_getD_getElem?, Array.getElem?_eq_none (by omega)] at hk; simp at hk
  have hb := List.all_eq_true.1 hback k (List.mem_range.2 hkl)
  rw [List.getElem?_eq_getElem hkl] at hb
  simp only [aftB, List.getElem?_eq_getElem hkl] at hj
  obtain ⟨e, he, he2⟩ := List.any_eq_true.1 hj
  rw [Bool.and_eq_true] at he2
  have hq := List.all_eq_true.1 hb e he
  rw [he2.1, Nat.eq_of_beq_eq_true he2.2] at hq
  have hjk := blt_iff.1 hq
  have h2 := hl k hkl
  rw [hk] at h2
  have h4 := blt_iff.1 h2.symm
  rw [hl j (by omega)]
  exact blt_iff.2 (by omega)
theorem rd_region {id : Nat} {ρ : Env} {w : World} (hm : P.follows .mixedOrders = true) (h : ∀ w', Gr w w' → RD P N l Q 0 ρ w') : CW P N (.region id l.toArray true) Q ρ w := by
  intro a ha
  refine wp_region_any hm ?_
  have hempty : ∀ k, (Array.replicate l.toArray.size false).getD k false = false := fun k => by rw [Array.getD_eq_getD_getElem?, Array.getElem?_replicate]; split <;> rfl
  refine h _ (Fr.drew w) l.toArray.size _ a ha (by simp) (Nat.le_trans (List.countP_le_length) (by simp)) fun k _ => ?_
  rw [hempty]
  rfl
theorem rd_end {m : Nat} {ρ : Env} {w : World} (hm : Nat.beq m l.length = true) (h : Q .normal ρ w) : RD P N l Q m ρ w := by
  obtain rfl := Nat.eq_of_beq_eq_true hm
  intro fuel listed a ha hsz hc hl
  have hr : Region.ready .any l.toArray listed = [] := by
    apply List.eq_nil_iff_forall_not_mem.2
    intro i hi
    obtain ⟨h1, h2, _⟩ := ready_iff hsz hi
    rw [getD_tf (by omega), hl i h1, blt_iff.2 h1] at h2
    cases h2
  cases fuel with
  | zero => exact ⟨hr, ρ, ha, h⟩
  | succ fuel => exact ⟨fun _ => ⟨ρ, ha, h⟩, fun i hi => by rw [hr] at hi; cases hi⟩
theorem rd_seq {m n : Nat} {ρ : Env} {w : World} (hB : (backB l && Nat.ble m n && Nat.ble n l.length && (List.range (n + 1)).all fun p => Nat.ble p m || bndB l p) = true) (h : OL P N l.toArray (thn (RD P N l Q n) Q) ((l.drop m).take (n - m)) ρ w) : RD P N l Q m ρ w := by
  simp only [Bool.and_eq_true] at hB
  obtain ⟨⟨⟨hback, hmn⟩, hnl⟩, hbd⟩ := hB
  have hmn := Nat.le_of_ble_eq_true hmn
  have hnl := Nat.le_of_ble_eq_true hnl
  have hbnd : ∀ p, m < p → p ≤ n → bndB l p = true := by
    intro p h1 h2
    have := List.all_eq_true.1 hbd p (List.mem_range.2 (by omega))
    have h3 : Nat.ble p m = false := by
      cases hb : Nat.ble p m
      · rfl
      · have := Nat.le_of_ble_eq_true hb
        omega
    rwa [h3, Bool.false_or] at this
  have key : ∀ (d p fuel : Nat) (listed : Array Bool) (a : Act) (w : World), p + d = n → m ≤ p → listed.size = l.length → (List.range l.length).countP (fun k => !listed.getD k false) ≤ fuel → (∀ k, k < l.length → listed.getD k false = Nat.blt k p) → wpList P l.toArray (lift N (thn (RD P N l Q n) Q)) ((l.drop p).take d) a w → wpAny P .any l.toArray (lift N Q) fuel listed a w := by
    intro d
    induction d with
    | zero =>
      intro p fuel listed a w hpd hmp hsz hc hl h
      have : p = n := by omega
      subst this
      simp only [List.take_zero, wpList] at h
      obtain ⟨ρ, ha, hr⟩ := h
      exact hr fuel listed a ha hsz hc hl
    | succ d ih =>
      intro p fuel listed a w hpd hmp hsz hc hl h
      have hpl : p < l.length := by omega
      have hcl := closed_at hback hsz hl
      have hlp : listed.getD p false = false := by
        rw [hl p hpl]
        exact blt_f (by omega)
      have hready : ∀ i ∈ Region.ready .any l.toArray listed, i = p := by
        intro i hi
        obtain ⟨h1, h2, h3⟩ := ready_iff hsz hi
        rw [getD_tf (by omega), hl i h1] at h2
        have hpi : p ≤ i := by
          rcases Nat.lt_or_ge i p with h | h
          · rw [blt_iff.2 h] at h2; simp at h2
          · exact h
        rcases Nat.lt_or_ge p i with h | h
        · have := bnd_all (hbnd (p + 1) (by omega) (by omega)) hcl (by omega) h1 h3 p (by omega)
          rw [hlp] at this
          cases this
        · omega
      have hin : p ∈ Region.ready .any l.toArray listed := by
        refine ready_of hpl ?_ ?_
        · rw [getD_tf (by omega)]
          exact hlp
        · intro o ho e he hbd
          have hb := List.all_eq_true.1 hback p (List.mem_range.2 hpl)
          rw [ho] at hb
          have hlt : e.on < p := by
            have := List.all_eq_true.1 hb e he
            rw [hbd] at this
            exact blt_iff.1 this
          rw [hl e.on (by omega)]
          exact blt_iff.2 hlt
      cases fuel with
      | zero =>
        exfalso
        have h0 : (List.range l.length).countP (fun k => !listed.getD k false) = 0 := by omega
        have := List.countP_eq_zero.1 h0 p (List.mem_range.2 hpl)
        rw [hlp] at this
        simp at this
      | succ fuel =>
        refine ⟨fun hr => ?_, fun i hi => ?_⟩
        · rw [hr] at hin
          cases hin
        · obtain rfl := hready i hi
          rw [List.drop_eq_getElem_cons hpl, List.take_succ_cons] at h
          unfold Go.wpOp
          have ho : l.toArray[i]? = some l[i] := by simp [hpl]
          rw [ho]
          have hK : ∀ a w, wpList P l.toArray (lift N (thn (RD P N l Q n) Q)) ((l.drop (i + 1)).take d) a w → wpAny P .any l.toArray (lift N Q) fuel (listed.setIfInBounds i true) a w := by
            intro a w hh
            refine ih (i + 1) fuel _ a w (by omega) (by omega) (by simpa using hsz) ?_ (fun k hk => ?_) hh
            · have := countP_lt (l := List.range l.length) (p := fun k => !(listed.setIfInBounds i true).getD k false) (q := fun k => !listed.getD k false) (fun k hk h => by
                rw [getD_set (by omega)] at h
                cases hx : listed.getD k false
                · rfl
                · rw [hx] at h; simp at h) (List.mem_range.2 hpl) (by rw [getD_set (by omega)]; simp) (by rw [hlp]; rfl)
              omega
            · rw [getD_set (by omega), hl k hk]
              by_cases e : k = i
              · subst e
                rw [blt_iff.2 (Nat.lt_succ_self k), Nat.beq_refl]
                rfl
              · rw [beq_f e, Bool.false_or, Bool.eq_iff_iff, Nat.blt_eq, Nat.blt_eq]
                omega
          simp only [wpList] at h
          split at h
          · rename_i hw
            simp only [hw, if_true]
            rcases h with h | h
            · exact .inl (Oper.wp_mono hK h)
            · exact .inr h
          · rename_i hw
            simp only [hw]
            exact hK _ _ h
  intro fuel listed a ha hsz hc hl
  exact key (n - m) m fuel listed a w (by omega) (Nat.le_refl _) hsz hc hl (h a ha)
def keepS (l : List Oper) (m n i t : Nat) : Bool := (List.range n).all fun k => Nat.blt k m || dstAt l k != some t || aftB l k i
def segB (l : List Oper) (m n N : Nat) : Bool :=
  Nat.ble m n && Nat.ble n l.length && backB l && bndB l n &&
  ((List.range n).all fun k => Nat.blt k m || match dstAt l k with
    | some d => Nat.blt d N && (List.range n).all fun j => Nat.blt j m || Nat.beq j k || dstAt l j != some d
    | none => false)
theorem rd_draw (m n : Nat) (G : Nat → Value → World → Prop) (Inv : (Nat → Bool) → World → Prop) {ρ0 : Env} {w0 : World} (hB : segB l m n N = true)
    (h0 : Inv (fun k => Nat.blt k m) w0)
    (step : ∀ i, m ≤ i → i < n → ∀ o, l[i]? = some o → ∀ (dn : Nat → Bool) ρ w, dn i = false → (∀ k, dn k = true → ∀ j, aftB l k j = true → dn j = true) → Inv dn w → (∀ t, keepS l m n i t = true → ρ t = ρ0 t) → (∀ j, m ≤ j → aftB l i j = true → ∀ d, dstAt l j = some d → G j (ρ d) w) → StepOk P l.toArray o (fun v w' => G i v w' ∧ Inv (fun k => Nat.beq k i || dn k) w' ∧ ∀ k v', m ≤ k → k < n → k ≠ i → dn k = true → G k v' w → G k v' w') ρ w)
    (tail : ∀ ρ w (dn : Nat → Bool), (∀ k, k < n → dn k = true) → Inv dn w → (∀ t, ((List.range n).all fun k => Nat.blt k m || dstAt l k != some t) = true → ρ t = ρ0 t) → (∀ j, m ≤ j → j < n → ∀ d, dstAt l j = some d → G j (ρ d) w) → RD P N l Q n ρ w) :
    RD P N l Q m ρ0 w0 := by
  have hB' := hB
  simp only [segB, Bool.and_eq_true] at hB'
  obtain ⟨⟨⟨⟨hmn, hnl⟩, hback⟩, hbd⟩, hd⟩ := hB'
  have hmn := Nat.le_of_ble_eq_true hmn
  have hnl := Nat.le_of_ble_eq_true hnl
  have key : ∀ (fuel : Nat) (listed : Array Bool) (a : Act) (ρ : Env) (w : World), Fits N a ρ → listed.size = l.length → (List.range l.length).countP (fun k => !listed.getD k false) ≤ fuel → (∀ k, k < m → listed.getD k false = true) → (∀ k, k < l.length → listed.getD k false = true → k < n) → (∀ k, listed.getD k false = true → ∀ j, aftB l k j = true → listed.getD j false = true) → Inv (fun k => listed.getD k false) w →
      (∀ t, (∀ k, m ≤ k → k < n → listed.getD k false = true → dstAt l k ≠ some t) → ρ t = ρ0 t) → (∀ k, m ≤ k → k < n → listed.getD k false = true → ∀ d, dstAt l k = some d → G k (ρ d) w) → wpAny P .any l.toArray (lift N Q) fuel listed a w := by
    intro fuel
    induction fuel with
    | zero =>
      intro listed a ρ w hf hsz hc hlm hln hcl hgr hkeep hG
      have hall : ∀ k, k < l.length → listed.getD k false = true := by
        intro k hk
        have h0 : (List.range l.length).countP (fun k => !listed.getD k false) = 0 := by omega
        have := List.countP_eq_zero.1 h0 k (List.mem_range.2 hk)
        simpa using this
      refine tail ρ w _ (fun k hk => hall k (by omega)) hgr (fun t ht => hkeep t fun k hmk hk _ e => by
          have := List.all_eq_true.1 ht k (List.mem_range.2 hk)
          rw [e, blt_f (by omega)] at this
          simp at this) (fun j hmj hj d he => hG j hmj hj (hall j (by omega)) d he) 0 listed a hf hsz hc fun k hk => ?_
      rw [hall k hk, blt_iff.2 (hln k hk (hall k hk))]
    | succ fuel ih =>
      intro listed a ρ w hf hsz hc hlm hln hcl hgr hkeep hG
      by_cases hall : ∀ k, k < n → listed.getD k false = true
      · refine tail ρ w _ hall hgr (fun t ht => hkeep t fun k hmk hk _ e => by
            have := List.all_eq_true.1 ht k (List.mem_range.2 hk)
            rw [e, blt_f (by omega)] at this
            simp at this) (fun j hmj hj d he => hG j hmj hj (hall j hj) d he) (fuel + 1) listed a hf hsz hc fun k hk => ?_
        rw [Bool.eq_iff_iff, Nat.blt_eq]
        exact ⟨hln k hk, hall k⟩
      · refine ⟨fun hr => ?_, fun i hi => ?_⟩
        · exfalso
          have hex : ∃ k, k < l.length ∧ listed.getD k false = false := by
            apply Classical.byContradiction
            intro hne
            apply hall
            intro k hk
            cases hb : listed.getD k false
            · exact absurd ⟨k, by omega, hb⟩ hne
            · rfl
          obtain ⟨i, ⟨hil, hif⟩, hmin⟩ : ∃ i, (i < l.length ∧ listed.getD i false = false) ∧ ∀ j, j < i → ¬ (j < l.length ∧ listed.getD j false = false) := by
            obtain ⟨k, hk⟩ := hex
            have : ∀ m k, k ≤ m → (k < l.length ∧ listed.getD k false = false) → ∃ i, (i < l.length ∧ listed.getD i false = false) ∧ ∀ j, j < i → ¬ (j < l.length ∧ listed.getD j false = false) := by
              intro m
              induction m with
              | zero => intro k hk h; exact ⟨k, h, fun j hj => by omega⟩
              | succ m ihm =>
                intro k hk h
                by_cases hx : ∃ j, j < k ∧ (j < l.length ∧ listed.getD j false = false)
                · obtain ⟨j, hj, hjj⟩ := hx
                  exact ihm j (by omega) hjj
                · exact ⟨k, h, fun j hj hjj => hx ⟨j, hj, hjj⟩⟩
            exact this k k (Nat.le_refl _) hk
          have : i ∈ Region.ready .any l.toArray listed := by
            refine ready_of hil (by rw [getD_tf (by omega)]; exact hif) ?_
            intro o ho e he hbd
            have hb := List.all_eq_true.1 hback i (List.mem_range.2 hil)
            rw [ho] at hb
            have hlt : e.on < i := by
              have := List.all_eq_true.1 hb e he
              rw [hbd] at this
              exact blt_iff.1 this
            cases hb2 : listed.getD e.on false
            · exact absurd ⟨by omega, hb2⟩ (hmin e.on hlt)
            · rfl
          rw [hr] at this
          simp at this
        · obtain ⟨hil, hif, hprev⟩ := ready_iff hsz hi
          rw [getD_tf (by omega)] at hif
          have hin : i < n := by
            rcases Nat.lt_or_ge i n with h | h
            · exact h
            · exfalso
              exact hall (bnd_all hbd hcl h hil hprev)
          have hmi : m ≤ i := by
            rcases Nat.lt_or_ge i m with h | h
            · have := hlm i h
              rw [hif] at this
              cases this
            · exact h
          have ho : l[i]? = some l[i] := List.getElem?_eq_getElem hil
          have hdi := List.all_eq_true.1 hd i (List.mem_range.2 hin)
          rw [blt_f (by omega), Bool.false_or] at hdi
          cases hdst : dstAt l i with
          | none => rw [hdst] at hdi; simp at hdi
          | some d =>
            rw [hdst] at hdi
            simp only [Bool.and_eq_true] at hdi
            have hod : l[i].dst = some d := by simpa [dstAt, ho] using hdst
            have hother : ∀ j, m ≤ j → j < n → j ≠ i → dstAt l j ≠ some d := by
              intro j hmj hj hne e
              have := List.all_eq_true.1 hdi.2 j (List.mem_range.2 hj)
              rw [e, beq_f hne, blt_f (by omega)] at this
              simp at this
            have hst := step i hmi hin l[i] ho _ ρ w hif hcl hgr (fun t ht => hkeep t fun k hmk hk hlk e => by
              have := List.all_eq_true.1 ht k (List.mem_range.2 hk)
              rw [e, blt_f (by omega)] at this
              simp only [bne_self_eq_false, Bool.false_or] at this
              have hli := hcl k hlk i this
              rw [hli] at hif
              simp at hif) (fun j hmj hj dj hdj => by
              have hlj := hprev j hj
              have hjl : j < l.length := by
                rcases Nat.lt_or_ge j l.length with h | h
                · exact h
                · rw [Array.getD_eq_getD_getElem?, Array.getElem?_eq_none (by omega)] at hlj; simp at hlj
              exact hG j hmj (hln j hjl hlj) hlj dj hdj)
            refine hst.wpOp (n := N) (by simp [hil]) hf ?_
            rintro v w' ⟨hGv, hinv', hkeepG⟩
            have hinv : Inv (fun k => (listed.setIfInBounds i true).getD k false) w' := by
              rw [show (fun k => (listed.setIfInBounds i true).getD k false) = fun k => (Nat.beq k i || listed.getD k false) from funext fun k => getD_set (by omega)]
              exact hinv'
            rw [hod]
            refine ih _ _ (upd ρ d v) w' (hf.put hdi.1 v) (by simpa using hsz) ?_ ?_ ?_ ?_ hinv ?_ ?_
            · have := countP_lt (l := List.range l.length) (p := fun k => !(listed.setIfInBounds i true).getD k false) (q := fun k => !listed.getD k false) (fun k hk h => by
                rw [getD_set (by omega)] at h
                cases hx : listed.getD k false
                · rfl
                · rw [hx] at h; simp at h) (List.mem_range.2 hil) (by rw [getD_set (by omega)]; simp) (by rw [hif]; rfl)
              omega
            · intro k hk
              rw [getD_set (by omega), hlm k hk]
              simp
            · intro k hk hlk
              rw [getD_set (by omega)] at hlk
              by_cases e : k = i
              · omega
              · rw [beq_f e, Bool.false_or] at hlk
                exact hln k hk hlk
            · intro k hlk j hj
              rw [getD_set (by omega)] at hlk ⊢
              by_cases e : k = i
              · subst e
                rw [hprev j hj]
                simp
              · rw [beq_f e, Bool.false_or] at hlk
                rw [hcl k hlk j hj]
                simp
            · intro t ht
              have htd : t ≠ d := by
                intro e
                exact ht i hmi hin (by rw [getD_set (by omega)]; simp) (by rw [hdst, e])
              rw [upd, beq_f htd, cond_false]
              exact hkeep t fun k hmk hk hlk => ht k hmk hk (by rw [getD_set (by omega), hlk]; simp)
            · intro k hmk hk hlk dk hdk
              rw [getD_set (by omega)] at hlk
              by_cases e : k = i
              · subst e
                rw [hdst] at hdk
                obtain rfl := Option.some.inj hdk
                rw [upd, Nat.beq_refl, cond_true]
                exact hGv
              · rw [beq_f e, Bool.false_or] at hlk
                have hne : dk ≠ d := fun e2 => hother k hmk hk e (by rw [hdk, e2])
                rw [upd, beq_f hne, cond_false]
                exact hkeepG k _ hmk hk e hlk (hG k hmk hk hlk dk hdk)
  intro fuel listed a ha hsz hc hl
  refine key fuel listed a ρ0 w0 ha hsz hc (fun k hk => by rw [hl k (by omega), blt_iff.2 hk]) (fun k hk h => ?_) (closed_at hback hsz hl) ?_ (fun _ _ => rfl) (fun k hmk hk h => ?_)
  · rw [hl k hk] at h
    have := blt_iff.1 h
    omega
  · have : (fun k => listed.getD k false) = fun k => Nat.blt k m := by
      funext k
      by_cases hk : k < l.length
      · exact hl k hk
      · rw [Array.getD_eq_getD_getElem?, Array.getElem?_eq_none (by omega), blt_f (by omega)]
        rfl
    rw [this]
    exact h0
  · rw [hl k (by omega)] at h
    have := blt_iff.1 h
    omega
def DStepS (P : Program) (l : List Oper) (m n : Nat) (Gl : List (Value → World → Prop)) (ρ0 : Env) (w0 : World) (i : Nat) (o : Oper) : Prop :=
  ∀ ρ w, Gr w0 w → (∀ t, keepS l m n i t = true → ρ t = ρ0 t) → (∀ j, Nat.ble m j = true → aftB l i j = true → ∀ d, dstAt l j = some d → gAt Gl (j - m) (ρ d) w) → StepOk P l.toArray o (fun v w' => gAt Gl (i - m) v w' ∧ Gr w w') ρ w
theorem rd_drawL (m n : Nat) (Gl : List (Value → World → Prop)) {ρ0 : Env} {w0 : World} (hB : segB l m n N = true) (stab : StabL Gl)
    (step : AllOps (DStepS P l m n Gl ρ0 w0) m ((l.take n).drop m))
    (tail : ∀ ρ w, Gr w0 w → (∀ t, ((List.range n).all fun k => Nat.blt k m || dstAt l k != some t) = true → ρ t = ρ0 t) → (∀ j, Nat.ble m j = true → Nat.blt j n = true → ∀ d, dstAt l j = some d → gAt Gl (j - m) (ρ d) w) → RD P N l Q n ρ w) :
    RD P N l Q m ρ0 w0 :=
  rd_draw m n (fun j => gAt Gl (j - m)) (fun _ w => Gr w0 w) hB (Fr.refl _ _)
    (fun i hmi hi o ho dn ρ w hdn hcl hg hk hd => by
      have hs := step.get (i - m) o (by rw [List.getElem?_drop, List.getElem?_take, if_pos (by omega), show m + (i - m) = i from by omega]; exact ho)
      rw [show m + (i - m) = i from by omega] at hs
      refine (hs ρ w hg hk fun j hj => hd j (Nat.le_of_ble_eq_true hj)).mono ?_
      rintro v w' ⟨h1, h2⟩
      exact ⟨h1, Fr.gr hg h2, fun k v' _ _ _ _ h => stab.get (k - m) v' w w' h h2⟩)
    (fun ρ w dn _ hg hk hd => tail ρ w hg hk fun j hmj hj => hd j (Nat.le_of_ble_eq_true hmj) (blt_iff.1 hj))
end
end Go.Xw
namespace Go.Proofs.Ytklhbaghbmndeaa
open Go Go.Xw
def pmem_cell_open__r0.f (fu : Nat) (a0 : S_pmem_cell) : Option Bool := some ((if a0.flushed = true then true else (!decide (a0.stored = a0.lasts))))
theorem pmem_cell_open__r0.ok (fu : Nat) (w : World) (a0 : S_pmem_cell) (G_0 p_0 : Nat) (A_0 : At w G_0 p_0 (cellsOf [Seg.cell (.int .u64 a0.lasts), Seg.cell (.int .u64 a0.stored), Seg.cell (.int .u64 a0.sent), Seg.cell (.bool a0.flushed)])) (r : Bool) (h : pmem_cell_open__r0.f fu a0 = some r) :
  Calls Try.prog 86 (([(pt G_0 p_0)] : List Value).toArray) w (fun e w' => ∃ v, e = .returned v ∧ v = .bool r ∧ Gr w w') := by
 unfold pmem_cell_open__r0.f at h
 have fB : Gr w w := Fr.refl _ _
 refine calls_cw Try.func86 rfl Try.ntmps86 rfl ?_
 refine cw_seq ?_
 refine cw_region ?_
 refine ol_val (v := .bool false) (xr_assign rfl rfl) rfl rfl rfl ?_
 refine ol_nil ?_
 refine cw_seq ?_
 refine cw_mid (fun ρ' w' => ρ' 2 = .bool (if a0.flushed = true then true else (!decide (a0.stored = a0.lasts))) ∧ Gr w w') ?_ ?_
 ·skip
  refine rd_region mo ?_
  intro w1 q2
  have fB := fB.gr q2
  refine rd_seq (m := 0) (n := 5) rfl ?_
  refine ol_val (v := (pt G_0 p_0)) (xr_move rfl rfl) rfl rfl rfl ?_
  refine ol_val (v := (pt G_0 p_0)) (xr_nilCheck rfl rfl) rfl rfl rfl ?_
  refine ol_val (v := (pt G_0 (p_0 + 3))) (xr_fieldAddr (p := p_0) (q := 3) rfl fl142_3 rfl) rfl rfl rfl ?_
  refine ol_val (v := .bool a0.flushed) (xr_load1 (v := .bool a0.flushed) rfl ag4 rfl (At.segs (ss := [Seg.cell (.int .u64 a0.lasts), Seg.cell (.int .u64 a0.stored), Seg.cell (.int .u64 a0.sent), Seg.cell (.bool a0.flushed)]) (At.gr A_0 fB) 3 1 rfl)) rfl rfl rfl ?_
  refine ol_val (v := .bool a0.flushed) (xr_move rfl rfl) rfl rfl rfl ?_
  refine ol_nilK ?_
  rcases bt a0.flushed with c3 | c3
  ·skip
   refine rd_drawL 5 13 [fun vz _ => vz = undef, fun vz _ => vz = undef, fun vz _ => vz = undef, fun vz _ => vz = undef, fun vz _ => vz = undef, fun vz _ => vz = undef, fun vz _ => vz = undef, fun vz _ => vz = undef] rfl ⟨fun _ _ _ h _ => h, fun _ _ _ h _ => h, fun _ _ _ h _ => h, fun _ _ _ h _ => h, fun _ _ _ h _ => h, fun _ _ _ h _ => h, fun _ _ _ h _ => h, fun _ _ _ h _ => h, trivial⟩ ?_ ?_
   ·refine ⟨?_, ?_, ?_, ?_, ?_, ?_, ?_, ?_, trivial⟩
    ·intro ρz wz hz hk hd
     exact sk_skip rfl rfl ((hk 7 rfl).trans rfl) c3 rfl
    ·intro ρz wz hz hk hd
     exact sk_skip rfl rfl ((hk 7 rfl).trans rfl) c3 rfl
    ·intro ρz wz hz hk hd
     exact sk_skip rfl rfl ((hk 7 rfl).trans rfl) c3 rfl
    ·intro ρz wz hz hk hd
     exact sk_skip rfl rfl ((hk 7 rfl).trans rfl) c3 rfl
    ·intro ρz wz hz hk hd
     exact sk_skip rfl rfl ((hk 7 rfl).trans rfl) c3 rfl
    ·intro ρz wz hz hk hd
     exact sk_skip rfl rfl ((hk 7 rfl).trans rfl) c3 rfl
    ·intro ρz wz hz hk hd
     exact sk_skip rfl rfl ((hk 7 rfl).trans rfl) c3 rfl
    intro ρz wz hz hk hd
    exact sk_skip rfl rfl ((hk 7 rfl).trans rfl) c3 rfl
   intro ρ4 w5 q6 hk hd
   have e7 := (hk 7 rfl).trans rfl
   have e11 := hd 8 rfl rfl 11 rfl
   have e15 := hd 12 rfl rfl 15 rfl
   have fB := fB.gr q6
   refine rd_seq (m := 13) (n := 16) rfl ?_
   refine ol_gskip rfl rfl rfl rfl e7 c3 ?_
   refine ol_val (v := .bool true) (xr_pickT rfl e7 c3 rfl) rfl rfl rfl ?_
   refine ol_val (v := .bool true) (xr_assign rfl rfl) rfl rfl rfl ?_
   refine ol_nilK ?_
   refine rd_end rfl ?_
   refine thn_i ?_
   exact ⟨(rfl).trans (congrArg (fun z => (.bool z : Value)) (show true = (if a0.flushed = true then true else (!decide (a0.stored = a0.lasts))) from by rw [ite_t c3])), (q2.gr q6)⟩
  refine rd_drawL 5 13 [fun vz wz => vz = ((pt G_0 p_0) : Value), fun vz wz => vz = ((pt G_0 p_0) : Value), fun vz wz => vz = ((pt G_0 (p_0 + 1)) : Value), fun vz wz => vz = (.int .u64 a0.stored : Value), fun vz wz => vz = ((pt G_0 p_0) : Value), fun vz wz => vz = ((pt G_0 p_0) : Value), fun vz wz => vz = ((pt G_0 (p_0 + 0)) : Value), fun vz wz => vz = (.int .u64 a0.lasts : Value)] rfl ⟨fun _ _ _ h _ => h, fun _ _ _ h _ => h, fun _ _ _ h _ => h, fun _ _ _ h _ => h, fun _ _ _ h _ => h, fun _ _ _ h _ => h, fun _ _ _ h _ => h, fun _ _ _ h _ => h, trivial⟩ ?_ ?_
  ·refine ⟨?_, ?_, ?_, ?_, ?_, ?_, ?_, ?_, trivial⟩
   ·intro ρz wz hz hk hd
    exact sk_gval (v := (pt G_0 p_0)) (xr_move rfl ((hk 0 rfl).trans rfl)) rfl rfl ((hk 7 rfl).trans rfl) c3 rfl
   ·intro ρz wz hz hk hd
    exact sk_gval (v := (pt G_0 p_0)) (xr_nilCheck rfl (hd 5 rfl rfl 8 rfl)) rfl rfl ((hk 7 rfl).trans rfl) c3 rfl
   ·intro ρz wz hz hk hd
    exact sk_gval (v := (pt G_0 (p_0 + 1))) (xr_fieldAddr (p := p_0) (q := 1) rfl fl142_1 (hd 6 rfl rfl 9 rfl)) rfl rfl ((hk 7 rfl).trans rfl) c3 rfl
   ·intro ρz wz hz hk hd
    exact sk_gval (v := .int .u64 a0.stored) (xr_load1 (v := .int .u64 a0.stored) rfl ag22 (hd 7 rfl rfl 10 rfl) (At.segs (ss := [Seg.cell (.int .u64 a0.lasts), Seg.cell (.int .u64 a0.stored), Seg.cell (.int .u64 a0.sent), Seg.cell (.bool a0.flushed)]) (At.gr A_0 (fB.gr hz)) 1 1 rfl)) rfl rfl ((hk 7 rfl).trans rfl) c3 rfl
   ·intro ρz wz hz hk hd
    exact sk_gval (v := (pt G_0 p_0)) (xr_move rfl ((hk 0 rfl).trans rfl)) rfl rfl ((hk 7 rfl).trans rfl) c3 rfl
   ·intro ρz wz hz hk hd
    exact sk_gval (v := (pt G_0 p_0)) (xr_nilCheck rfl (hd 9 rfl rfl 12 rfl)) rfl rfl ((hk 7 rfl).trans rfl) c3 rfl
   ·intro ρz wz hz hk hd
    exact sk_gval (v := (pt G_0 (p_0 + 0))) (xr_fieldAddr (p := p_0) (q := 0) rfl fl142_0 (hd 10 rfl rfl 13 rfl)) rfl rfl ((hk 7 rfl).trans rfl) c3 rfl
   intro ρz wz hz hk hd
   exact sk_gval (v := .int .u64 a0.lasts) (xr_load1 (v := .int .u64 a0.lasts) rfl ag22 (hd 11 rfl rfl 14 rfl) (At.segs (ss := [Seg.cell (.int .u64 a0.lasts), Seg.cell (.int .u64 a0.stored), Seg.cell (.int .u64 a0.sent), Seg.cell (.bool a0.flushed)]) (At.gr A_0 (fB.gr hz)) 0 1 rfl)) rfl rfl ((hk 7 rfl).trans rfl) c3 rfl
  intro ρ7 w8 q9 hk hd
  have e7 := (hk 7 rfl).trans rfl
  have e11 := hd 8 rfl rfl 11 rfl
  have e15 := hd 12 rfl rfl 15 rfl
  have fB := fB.gr q9
  refine rd_seq (m := 13) (n := 16) rfl ?_
  refine ol_gval (v := .bool (!decide (a0.stored = a0.lasts))) (xr_neI rfl Try.underlying22 rfl e11 e15) rfl rfl rfl rfl e7 c3 ?_
  refine ol_val (v := .bool (!decide (a0.stored = a0.lasts))) (xr_pickF rfl e7 c3 rfl) rfl rfl rfl ?_
  refine ol_val (v := .bool (!decide (a0.stored = a0.lasts))) (xr_assign rfl rfl) rfl rfl rfl ?_
  refine ol_nilK ?_
  refine rd_end rfl ?_
  refine thn_i ?_
  exact ⟨(rfl).trans (congrArg (fun z => (.bool z : Value)) (show (!decide (a0.stored = a0.lasts)) = (if a0.flushed = true then true else (!decide (a0.stored = a0.lasts))) from by rw [ite_f c3])), (q2.gr q9)⟩
 rintro ρ10 w11 ⟨e2, q12⟩
 have fB := fB.gr q12
 refine cw_ret ?_
 repeat (first | with_reducible refine thn_r ?_ | with_reducible refine blk_r ?_)
 obtain rfl := Option.some.inj h
 refine fin_ret1 Try.results86 e2 ?_
 exact ⟨_, rfl, rfl, fB⟩
def pmem_cell_fate__r0.f (fu : Nat) (a0 : S_pmem_cell) (a1 : Int) : Option Int := (((if (decide ((Int.tmod a1 3) = 1)) = true then some ((decide ((Int.tmod a1 3) = 1))) else some ((decide ((Int.tmod a1 3) = (-2))))) : Option Bool).bind fun x1 => (((if x1 = true then (if a0.flushed = true then some (Sum.inl (a0.sent)) else some (Sum.inr ())) else (((if (decide ((Int.tmod a1 3) = 2)) = true then some ((decide ((Int.tmod a1 3) = 2))) else some ((decide ((Int.tmod a1 3) = (-1))))) : Option Bool).bind fun x13 => (if x13 = true then some (Sum.inl (a0.stored)) else some (Sum.inr ())))) : Option (Sum Int Unit)).bind fun x7 => match x7 with | Sum.inl p => some p | Sum.inr x10 => some (a0.lasts)))
theorem pmem_cell_fate__r0.ok (fu : Nat) (w : World) (a0 : S_pmem_cell) (G_0 p_0 : Nat) (A_0 : At w G_0 p_0 (cellsOf [Seg.cell (.int .u64 a0.lasts), Seg.cell (.int .u64 a0.stored), Seg.cell (.int .u64 a0.sent), Seg.cell (.bool a0.flushed)])) (a1 : Int) (r : Int) (h : pmem_cell_fate__r0.f fu a0 a1 = some r) :
  Calls Try.prog 87 (([(pt G_0 p_0), .int .i64 a1] : List Value).toArray) w (fun e w' => ∃ v, e = .returned v ∧ v = .int .u64 r ∧ Gr w w') := by
 unfold pmem_cell_fate__r0.f at h
 have fB : Gr w w := Fr.refl _ _
 refine calls_cw Try.func87 rfl Try.ntmps87 rfl ?_
 refine cw_seq ?_
 refine cw_region ?_
 refine ol_val (v := .int .u64 0) (xr_assign rfl rfl) rfl rfl rfl ?_
 refine ol_nil ?_
 refine cw_seq ?_
 refine cw_seq ?_
 refine cw_region ?_
 refine ol_val (v := .int .i64 a1) (xr_move rfl rfl) rfl rfl rfl ?_
 refine ol_val (v := .int .i64 (Int.tmod a1 3)) (xr_rem rfl rfl rfl (by decide)) rfl rfl rfl ?_
 refine ol_nil ?_
 refine cw_block ?_
 refine cw_seq ?_
 refine cw_seq ?_
 refine cw_region ?_
 refine ol_val (v := .bool (decide ((Int.tmod a1 3) = 1))) (xr_eqI rfl Try.underlying3 rfl rfl rfl) rfl rfl rfl ?_
 refine ol_val (v := .bool (decide ((Int.tmod a1 3) = 1))) (xr_assign rfl rfl) rfl rfl rfl ?_
 refine ol_nil ?_
 obtain ⟨x1, j2, h3⟩ := bs h
 refine cw_mid (fun ρ' w' => ρ' 0 = (pt G_0 p_0) ∧ ρ' 6 = .int .i64 (Int.tmod a1 3) ∧ ρ' 7 = .bool x1 ∧ Gr w w') ?_ ?_
 ·have h := j2
  rcases is h with ⟨c4, h⟩ | ⟨c4, h⟩
  ·refine cw_condT rfl c4 ?_
   refine cw_skip ?_
   obtain rfl := Option.some.inj h
   refine thn_i ?_
   exact ⟨rfl, rfl, rfl, fB⟩
  refine cw_condF rfl c4 ?_
  refine cw_region ?_
  refine ol_val (v := .bool (decide ((Int.tmod a1 3) = (-2)))) (xr_eqI rfl Try.underlying3 rfl rfl rfl) rfl rfl rfl ?_
  refine ol_val (v := .bool (decide ((Int.tmod a1 3) = (-2)))) (xr_assign rfl rfl) rfl rfl rfl ?_
  refine ol_nil ?_
  obtain rfl := Option.some.inj h
  refine thn_i ?_
  exact ⟨rfl, rfl, rfl, fB⟩
 rintro ρ5 w6 ⟨e0, e6, e7, fB⟩
 have h := h3
 obtain ⟨x7, j8, h9⟩ := bs h
 refine cw_mid (fun ρ' w' => ∃ x10, x7 = Sum.inr x10 ∧ ρ' 0 = (pt G_0 p_0) ∧ Gr w w') ?_ ?_
 ·have h := j8
  rcases is h with ⟨c11, h⟩ | ⟨c11, h⟩
  ·refine cw_condT e7 c11 ?_
   refine cw_seq ?_
   refine cw_region ?_
   refine ol_val (v := (pt G_0 p_0)) (xr_move rfl e0) rfl rfl rfl ?_
   refine ol_val (v := (pt G_0 p_0)) (xr_nilCheck rfl rfl) rfl rfl rfl ?_
   refine ol_val (v := (pt G_0 (p_0 + 3))) (xr_fieldAddr (p := p_0) (q := 3) rfl fl142_3 rfl) rfl rfl rfl ?_
   refine ol_val (v := .bool a0.flushed) (xr_load1 (v := .bool a0.flushed) rfl ag4 rfl (At.segs (ss := [Seg.cell (.int .u64 a0.lasts), Seg.cell (.int .u64 a0.stored), Seg.cell (.int .u64 a0.sent), Seg.cell (.bool a0.flushed)]) (At.gr A_0 fB) 3 1 rfl)) rfl rfl rfl ?_
   refine ol_nil ?_
   rcases is h with ⟨c12, h⟩ | ⟨c12, h⟩
   ·refine cw_condT rfl c12 ?_
    refine cw_seq ?_
    refine cw_region ?_
    refine ol_val (v := (pt G_0 p_0)) (xr_move rfl e0) rfl rfl rfl ?_
    refine ol_val (v := (pt G_0 p_0)) (xr_nilCheck rfl rfl) rfl rfl rfl ?_
    refine ol_val (v := (pt G_0 (p_0 + 2))) (xr_fieldAddr (p := p_0) (q := 2) rfl fl142_2 rfl) rfl rfl rfl ?_
    refine ol_val (v := .int .u64 a0.sent) (xr_load1 (v := .int .u64 a0.sent) rfl ag22 rfl (At.segs (ss := [Seg.cell (.int .u64 a0.lasts), Seg.cell (.int .u64 a0.stored), Seg.cell (.int .u64 a0.sent), Seg.cell (.bool a0.flushed)]) (At.gr A_0 fB) 2 1 rfl)) rfl rfl rfl ?_
    refine ol_val (v := .int .u64 a0.sent) (xr_assign rfl rfl) rfl rfl rfl ?_
    refine ol_nil ?_
    refine cw_ret ?_
    repeat (first | with_reducible refine thn_r ?_ | with_reducible refine blk_r ?_)
    obtain rfl := Option.some.inj h
    have h := h9
    obtain rfl := Option.some.inj h
    refine fin_ret1 Try.results87 rfl ?_
    exact ⟨_, rfl, rfl, fB⟩
   refine cw_condF rfl c12 ?_
   refine cw_skip ?_
   obtain rfl := Option.some.inj h
   refine thn_i ?_
   exact ⟨_, rfl, e0, fB⟩
  refine cw_condF e7 c11 ?_
  refine cw_seq ?_
  refine cw_seq ?_
  refine cw_region ?_
  refine ol_val (v := .bool (decide ((Int.tmod a1 3) = 2))) (xr_eqI rfl Try.underlying3 rfl e6 rfl) rfl rfl rfl ?_
  refine ol_val (v := .bool (decide ((Int.tmod a1 3) = 2))) (xr_assign rfl rfl) rfl rfl rfl ?_
  refine ol_nil ?_
  obtain ⟨x13, j14, h15⟩ := bs h
  refine cw_mid (fun ρ' w' => ρ' 0 = (pt G_0 p_0) ∧ ρ' 18 = .bool x13 ∧ Gr w w') ?_ ?_
  ·have h := j14
   rcases is h with ⟨c16, h⟩ | ⟨c16, h⟩
   ·refine cw_condT rfl c16 ?_
    refine cw_skip ?_
    obtain rfl := Option.some.inj h
    refine thn_i ?_
    exact ⟨e0, rfl, fB⟩
   refine cw_condF rfl c16 ?_
   refine cw_region ?_
   refine ol_val (v := .bool (decide ((Int.tmod a1 3) = (-1)))) (xr_eqI rfl Try.underlying3 rfl e6 rfl) rfl rfl rfl ?_
   refine ol_val (v := .bool (decide ((Int.tmod a1 3) = (-1)))) (xr_assign rfl rfl) rfl rfl rfl ?_
   refine ol_nil ?_
   obtain rfl := Option.some.inj h
   refine thn_i ?_
   exact ⟨e0, rfl, fB⟩
  rintro ρ17 w18 ⟨e0, e18, fB⟩
  have h := h15
  rcases is h with ⟨c19, h⟩ | ⟨c19, h⟩
  ·refine cw_condT e18 c19 ?_
   refine cw_seq ?_
   refine cw_region ?_
   refine ol_val (v := (pt G_0 p_0)) (xr_move rfl e0) rfl rfl rfl ?_
   refine ol_val (v := (pt G_0 p_0)) (xr_nilCheck rfl rfl) rfl rfl rfl ?_
   refine ol_val (v := (pt G_0 (p_0 + 1))) (xr_fieldAddr (p := p_0) (q := 1) rfl fl142_1 rfl) rfl rfl rfl ?_
   refine ol_val (v := .int .u64 a0.stored) (xr_load1 (v := .int .u64 a0.stored) rfl ag22 rfl (At.segs (ss := [Seg.cell (.int .u64 a0.lasts), Seg.cell (.int .u64 a0.stored), Seg.cell (.int .u64 a0.sent), Seg.cell (.bool a0.flushed)]) (At.gr A_0 fB) 1 1 rfl)) rfl rfl rfl ?_
   refine ol_val (v := .int .u64 a0.stored) (xr_assign rfl rfl) rfl rfl rfl ?_
   refine ol_nil ?_
   refine cw_ret ?_
   repeat (first | with_reducible refine thn_r ?_ | with_reducible refine blk_r ?_)
   obtain rfl := Option.some.inj h
   have h := h9
   obtain rfl := Option.some.inj h
   refine fin_ret1 Try.results87 rfl ?_
   exact ⟨_, rfl, rfl, fB⟩
  refine cw_condF e18 c19 ?_
  refine cw_skip ?_
  obtain rfl := Option.some.inj h
  refine thn_i ?_
  exact ⟨_, rfl, e0, fB⟩
 rintro ρ20 w21 ⟨x10, rfl, e0, fB⟩
 have h := h9
 refine blk_i ?_
 refine cw_seq ?_
 refine cw_region ?_
 refine ol_val (v := (pt G_0 p_0)) (xr_move rfl e0) rfl rfl rfl ?_
 refine ol_val (v := (pt G_0 p_0)) (xr_nilCheck rfl rfl) rfl rfl rfl ?_
 refine ol_val (v := (pt G_0 (p_0 + 0))) (xr_fieldAddr (p := p_0) (q := 0) rfl fl142_0 rfl) rfl rfl rfl ?_
 refine ol_val (v := .int .u64 a0.lasts) (xr_load1 (v := .int .u64 a0.lasts) rfl ag22 rfl (At.segs (ss := [Seg.cell (.int .u64 a0.lasts), Seg.cell (.int .u64 a0.stored), Seg.cell (.int .u64 a0.sent), Seg.cell (.bool a0.flushed)]) (At.gr A_0 fB) 0 1 rfl)) rfl rfl rfl ?_
 refine ol_val (v := .int .u64 a0.lasts) (xr_assign rfl rfl) rfl rfl rfl ?_
 refine ol_nil ?_
 refine cw_ret ?_
 repeat (first | with_reducible refine thn_r ?_ | with_reducible refine blk_r ?_)
 obtain rfl := Option.some.inj h
 refine fin_ret1 Try.results87 rfl ?_
 exact ⟨_, rfl, rfl, fB⟩
def pmem_Device_Crash.s0 (fu : Nat) (a0 : S_pmem_Device) : ((List Int) × Int × (List S_pmem_cell)) → Option (Sum (List S_pmem_cell) ((List Int) × Int × (List S_pmem_cell))) := fun s7 => (if (decide (s7.2.1 < (List.length a0.cells : Int))) = true then (if 0 ≤ s7.2.1 ∧ s7.2.1 < (List.length s7.2.2 : Int) then ((pmem_cell_open__r0.f fu (ix s7.2.2 s7.2.1)).bind fun t21 => (((if t21 = true then (((if (decide ((List.length s7.1 : Int) > 0)) = true then (if (0 : Int) < (List.length s7.1 : Int) then (if (1 : Int) ≤ (List.length s7.1 : Int) then some ((cut s7.1 1 (List.length s7.1 : Int)), (ix s7.1 0)) else none) else none) else some (s7.1, 0)) : Option ((List Int) × Int)).bind fun x34 => ((pmem_cell_fate__r0.f fu (ix s7.2.2 s7.2.1) x34.2).bind fun t52 => ((pmem_cell_keep__i0.f fu (ix s7.2.2 s7.2.1) t52).bind fun t62 => some (x34.1, (List.set s7.2.2 (Int.toNat s7.2.1) t62))))) else some (s7.1, s7.2.2)) : Option ((List Int) × (List S_pmem_cell))).bind fun x25 => (if s7.2.1 < (List.length x25.2 : Int) then (if s7.2.1 < (List.length x25.2 : Int) then some (Sum.inr (x25.1, (IntKind.i64.wrap (s7.2.1 + 1)), (List.set x25.2 (Int.toNat s7.2.1) (⟨(ix x25.2 s7.2.1).lasts, (ix x25.2 s7.2.1).lasts, (ix x25.2 s7.2.1).sent, (ix x25.2 s7.2.1).flushed⟩ : S_pmem_cell)))) else none) else none))) else none) else some (Sum.inl (s7.2.2)))
def pmem_Device_Crash.f (fu : Nat) (a0 : S_pmem_Device) (a1 : List Int) : Option S_pmem_Device := ((loopM (pmem_Device_Crash.s0 fu a0) fu (a1, 0, a0.cells)).bind fun e8 => some ((⟨e8, (⟨[], (0 : Int)⟩ : S_pmem_plan), false, false, 0, a0.steps⟩ : S_pmem_Device)))
theorem pmem_Device_Crash.ok (fu : Nat) (w : World) (a0 : S_pmem_Device) (G_0 : Nat) (V0_0 : Value) (O0_0 : Own k_pmem_cell 142 w 0 V0_0 a0.cells) (V0_1 : Value) (O0_1 : Own (kI .i64) 3 w 0 V0_1 a0.plan.list) (b_0 : Blk w G_0 139 [Seg.cell V0_0 O0_0.one, Seg.cell V0_1 O0_1.one, (sI a0.plan.at_), Seg.cell (.bool a0.off), Seg.cell (.bool a0.armed), (sI a0.left), (sI a0.steps)]) (a1 : List Int) (V1_0 : Value) (R1_0 : Rd (kI .i64) w V1_0 a1) (NR1_0_P0 : OffR V1_0 a1 G_0) (NR1_0_R0_0 : OffRV V1_0 a1 V0_0) (NR1_0_R0_1 : OffRV V1_0 a1 V0_1) (r : S_pmem_Device) (h : pmem_Device_Crash.f fu a0 a1 = some r) :
  Calls Try.prog 32 (([(pt G_0 0), V1_0] : List Value).toArray) w (fun e w' => ∃ v, e = .returned v ∧ ∃ u1 : Value, ∃ u4 : Value, ∃ o2 : Own k_pmem_cell 142 w' 0 u1 r.cells, ∃ m3 : ∀ g, Value.ownBlock u1 = some g → w.heap.size ≤ g ∨ (g = G_0 ∨ some g = Value.ownBlock V0_0 ∨ some g = Value.ownBlock V0_1), ∃ o5 : Own (kI .i64) 3 w' 0 u4 r.plan.list, ∃ m6 : ∀ g, Value.ownBlock u4 = some g → w.heap.size ≤ g ∨ (g = G_0 ∨ some g = Value.ownBlock V0_0 ∨ some g = Value.ownBlock V0_1), v = .tuple #[] ∧ Blk w' G_0 139 [Seg.cell u1 o2.one, Seg.cell u4 o5.one, (sI r.plan.at_), Seg.cell (.bool r.off), Seg.cell (.bool r.armed), (sI r.left), (sI r.steps)] ∧ Fr (fun j => j = G_0 ∨ some j = Value.ownBlock V0_0 ∨ some j = Value.ownBlock V0_1) w w') := by
 unfold pmem_Device_Crash.f at h
 have fB : Fr (fun j => j = G_0 ∨ some j = Value.ownBlock V0_0 ∨ some j = Value.ownBlock V0_1) w w := Fr.refl _ _
 have M0_0 : ∀ g, Value.ownBlock V0_0 = some g → w.heap.size ≤ g ∨ (g = G_0 ∨ some g = Value.ownBlock V0_0 ∨ some g = Value.ownBlock V0_1) := fun g hg => .inr (.inr (.inl hg.symm))
 have M0_1 : ∀ g, Value.ownBlock V0_1 = some g → w.heap.size ≤ g ∨ (g = G_0 ∨ some g = Value.ownBlock V0_0 ∨ some g = Value.ownBlock V0_1) := fun g hg => .inr (.inr (.inr hg.symm))
 refine calls_cw Try.func32 rfl Try.ntmps32 rfl ?_
 refine cw_seq ?_
 refine cw_seq ?_
 refine cw_region ?_
 refine ol_val (v := (pt G_0 0)) (xr_move rfl rfl) rfl rfl rfl ?_
 refine ol_val (v := (pt G_0 0)) (xr_nilCheck rfl rfl) rfl rfl rfl ?_
 refine ol_val (v := (pt G_0 0)) (xr_fieldAddr (p := 0) (q := 0) rfl fl139_0 rfl) rfl rfl rfl ?_
 refine ol_val (v := V0_0) (xr_load1 (v := V0_0) rfl ag135 rfl (b_0.seg 0 rfl rfl)) rfl rfl rfl ?_
 refine ol_val (v := .int .i64 (List.length a0.cells : Int)) (xr_lenR rfl Try.underlying135 rfl O0_0.rd) rfl rfl rfl ?_
 refine ol_val (v := .int .i64 0) (xr_move rfl rfl) rfl rfl rfl ?_
 refine ol_nil ?_
 obtain ⟨e8, l9, h10⟩ := bs h
 refine cw_mid (fun ρ' w' => ∃ O0_0 : Own k_pmem_cell 142 w' 0 V0_0 e8, ∃ O0_1 : Own (kI .i64) 3 w' 0 V0_1 a0.plan.list, ρ' 0 = (pt G_0 0) ∧ Blk w' G_0 139 [Seg.cell V0_0 O0_0.one, Seg.cell V0_1 O0_1.one, (sI a0.plan.at_), Seg.cell (.bool a0.off), Seg.cell (.bool a0.armed), (sI a0.left), (sI a0.steps)] ∧ Fr (fun j => j = G_0 ∨ some j = Value.ownBlock V0_0 ∨ some j = Value.ownBlock V0_1) w w') ?_ ?_
 ·refine cw_block ?_
  refine cw_round (fun (s7 : (List Int) × Int × (List S_pmem_cell)) ρ' w' => ∃ v11 : Value, ∃ O0_0 : Own k_pmem_cell 142 w' 0 V0_0 s7.2.2, ∃ O0_1 : Own (kI .i64) 3 w' 0 V0_1 a0.plan.list, ∃ r12 : Rd (kI .i64) w' v11 s7.1, OffR v11 s7.1 G_0 ∧ OffRV v11 s7.1 V0_0 ∧ OffRV v11 s7.1 V0_1 ∧ ρ' 0 = (pt G_0 0) ∧ ρ' 1 = v11 ∧ ρ' 11 = .int .i64 (List.length a0.cells : Int) ∧ ρ' 12 = .int .i64 s7.2.1 ∧ Blk w' G_0 139 [Seg.cell V0_0 O0_0.one, Seg.cell V0_1 O0_1.one, (sI a0.plan.at_), Seg.cell (.bool a0.off), Seg.cell (.bool a0.armed), (sI a0.left), (sI a0.steps)] ∧ Fr (fun j => j = G_0 ∨ some j = Value.ownBlock V0_0 ∨ some j = Value.ownBlock V0_1) w w') l9 ?_ ?_
  ·skip
   exact ⟨V1_0, O0_0, O0_1, R1_0, NR1_0_P0, NR1_0_R0_0, NR1_0_R0_1, rfl, rfl, rfl, rfl, b_0, fB⟩
  rintro s7 x18 ρ16 w17 ⟨v11, O0_0, O0_1, r12, a13, a14, a15, e0, e1, e11, e12, b_0, fB⟩ h
  unfold pmem_Device_Crash.s0 at h
  refine cw_seq ?_
  refine cw_region ?_
  refine ol_val (v := .bool (decide (s7.2.1 < (List.length a0.cells : Int)))) (xr_lss rfl e12 e11) rfl rfl rfl ?_
  refine ol_nil ?_
  refine cw_seq ?_
  rcases is h with ⟨c19, h⟩ | ⟨c19, h⟩
  ·refine cw_condT rfl c19 ?_
   refine cw_skip ?_
   refine cw_seq ?_
   refine cw_block ?_
   refine cw_seq ?_
   refine cw_region ?_
   refine ol_val (v := .int .i64 s7.2.1) (xr_move rfl e12) rfl rfl rfl ?_
   refine ol_val (v := .int .i64 s7.2.1) (xr_assign rfl rfl) rfl rfl rfl ?_
   refine ol_nil ?_
   refine cw_seq ?_
   refine cw_region ?_
   refine ol_val (v := (pt G_0 0)) (xr_move rfl e0) rfl rfl rfl ?_
   refine ol_val (v := (pt G_0 0)) (xr_nilCheck rfl rfl) rfl rfl rfl ?_
   refine ol_val (v := (pt G_0 0)) (xr_fieldAddr (p := 0) (q := 0) rfl fl139_0 rfl) rfl rfl rfl ?_
   refine ol_val (v := V0_0) (xr_load1 (v := V0_0) rfl ag135 rfl (b_0.seg 0 rfl rfl)) rfl rfl rfl ?_
   refine ol_val (v := .int .i64 s7.2.1) (xr_move rfl rfl) rfl rfl rfl ?_
   obtain ⟨g20, h⟩ := gs h
   refine ol_val (v := (pt ((sb V0_0)) (so V0_0 + Int.toNat s7.2.1 * 4))) (xr_indexR (K := k_pmem_cell) (v := V0_0) rfl Try.underlying135 sz142 rfl O0_0.rd rfl g20.1 g20.2) rfl rfl rfl ?_
   refine ol_val (v := (pt ((sb V0_0)) (so V0_0 + Int.toNat s7.2.1 * 4))) (xr_assign rfl rfl) rfl rfl rfl ?_
   refine ol_nil ?_
   refine cw_seq ?_
   refine cw_seq ?_
   refine cw_region ?_
   refine ol_val (v := (pt ((sb V0_0)) (so V0_0 + Int.toNat s7.2.1 * 4))) (xr_move rfl rfl) rfl rfl rfl ?_
   obtain ⟨t21, k22, h⟩ := bs h
   refine ol_op (opv_call rfl cal86 (ac rfl an) (pmem_cell_open__r0.ok fu _ (ix s7.2.2 s7.2.1) (sb V0_0) (so V0_0 + Int.toNat s7.2.1 * 4) (show At _ _ _ (cellsOf [Seg.cell (.int .u64 ((ix s7.2.2 s7.2.1).lasts)), Seg.cell (.int .u64 ((ix s7.2.2 s7.2.1).stored)), Seg.cell (.int .u64 ((ix s7.2.2 s7.2.1).sent)), Seg.cell (.bool ((ix s7.2.2 s7.2.1).flushed))]) from (O0_0.rd.elem g20.1 g20.2)) _ k22)) rfl rfl rfl ?_
   rintro _ w24 ⟨rfl, q23⟩
   have b_0 := b_0.gr q23
   have O0_0 := O0_0.gr q23
   have O0_1 := O0_1.gr q23
   have r12 := r12.gr q23
   have fB := fB.gr q23
   refine ol_nil ?_
   obtain ⟨x25, j26, h27⟩ := bs h
   refine cw_mid (fun ρ' w' => ∃ v28 : Value, ∃ O0_0 : Own k_pmem_cell 142 w' 0 V0_0 x25.2, ∃ O0_1 : Own (kI .i64) 3 w' 0 V0_1 a0.plan.list, ∃ r29 : Rd (kI .i64) w' v28 x25.1, OffR v28 x25.1 G_0 ∧ OffRV v28 x25.1 V0_0 ∧ OffRV v28 x25.1 V0_1 ∧ ρ' 0 = (pt G_0 0) ∧ ρ' 1 = v28 ∧ ρ' 5 = (pt ((sb V0_0)) (so V0_0 + Int.toNat s7.2.1 * 4)) ∧ ρ' 11 = .int .i64 (List.length a0.cells : Int) ∧ ρ' 12 = .int .i64 s7.2.1 ∧ Blk w' G_0 139 [Seg.cell V0_0 O0_0.one, Seg.cell V0_1 O0_1.one, (sI a0.plan.at_), Seg.cell (.bool a0.off), Seg.cell (.bool a0.armed), (sI a0.left), (sI a0.steps)] ∧ Fr (fun j => j = G_0 ∨ some j = Value.ownBlock V0_0 ∨ some j = Value.ownBlock V0_1) w w') ?_ ?_
   ·have h := j26
    rcases is h with ⟨c33, h⟩ | ⟨c33, h⟩
    ·refine cw_condT rfl c33 ?_
     refine cw_seq ?_
     refine cw_region ?_
     refine ol_val (v := .int .i64 0) (xr_assign rfl rfl) rfl rfl rfl ?_
     refine ol_nil ?_
     refine cw_seq ?_
     refine cw_seq ?_
     refine cw_region ?_
     refine ol_val (v := v11) (xr_move rfl e1) rfl rfl rfl ?_
     refine ol_val (v := .int .i64 (List.length s7.1 : Int)) (xr_lenR rfl Try.underlying25 rfl r12) rfl rfl rfl ?_
     refine ol_val (v := .bool (decide ((List.length s7.1 : Int) > 0))) (xr_gtr rfl rfl rfl) rfl rfl rfl ?_
     refine ol_nil ?_
     obtain ⟨x34, j35, h36⟩ := bs h
     refine cw_mid (fun ρ' w' => ∃ v37 : Value, ∃ O0_0 : Own k_pmem_cell 142 w' 0 V0_0 s7.2.2, ∃ O0_1 : Own (kI .i64) 3 w' 0 V0_1 a0.plan.list, ∃ r38 : Rd (kI .i64) w' v37 x34.1, OffR v37 x34.1 G_0 ∧ OffRV v37 x34.1 V0_0 ∧ OffRV v37 x34.1 V0_1 ∧ ρ' 0 = (pt G_0 0) ∧ ρ' 1 = v37 ∧ ρ' 5 = (pt ((sb V0_0)) (so V0_0 + Int.toNat s7.2.1 * 4)) ∧ ρ' 6 = .int .i64 x34.2 ∧ ρ' 11 = .int .i64 (List.length a0.cells : Int) ∧ ρ' 12 = .int .i64 s7.2.1 ∧ Blk w' G_0 139 [Seg.cell V0_0 O0_0.one, Seg.cell V0_1 O0_1.one, (sI a0.plan.at_), Seg.cell (.bool a0.off), Seg.cell (.bool a0.armed), (sI a0.left), (sI a0.steps)] ∧ Fr (fun j => j = G_0 ∨ some j = Value.ownBlock V0_0 ∨ some j = Value.ownBlock V0_1) w w') ?_ ?_
     ·have h := j35
      rcases is h with ⟨c42, h⟩ | ⟨c42, h⟩
      ·refine cw_condT rfl c42 ?_
       obtain ⟨g43, h⟩ := gs h
       obtain ⟨g45, h⟩ := gs h
       refine cw_drawL 6 [fun vz wz => vz = (v11 : Value), fun vz wz => vz = ((pt ((sb v11)) (so v11 + Int.toNat 0 * 1)) : Value), fun vz wz => vz = (.int .i64 (ix s7.1 0) : Value), fun vz wz => vz = (v11 : Value), fun vz wz => ∃ r44 : Rd (kI .i64) wz (subv 1 v11 (Int.toNat 1) (List.length s7.1)) (cut s7.1 1 (List.length s7.1 : Int)), vz = (subv 1 v11 (Int.toNat 1) (List.length s7.1) : Value), fun vz wz => vz = (.int .i64 (ix s7.1 0) : Value)] mo rfl ⟨fun _ _ _ h _ => h, fun _ _ _ h _ => h, fun _ _ _ h _ => h, fun _ _ _ h _ => h, fun _ _ _ ⟨r44, h⟩ q => ⟨r44.gr q, h⟩, fun _ _ _ h _ => h, trivial⟩ ?_ ?_
       ·refine ⟨?_, ?_, ?_, ?_, ?_, ?_, trivial⟩
        ·intro ρz wz hz hk hd
         exact sk_val (v := v11) (xr_move rfl ((hk 1 rfl).trans e1)) rfl rfl
        ·intro ρz wz hz hk hd
         exact sk_val (v := (pt ((sb v11)) (so v11 + Int.toNat 0 * 1))) (xr_indexR (K := (kI .i64)) (v := v11) rfl Try.underlying25 sz3 (hd 0 rfl 26 rfl) (r12.gr hz) rfl (by decide) g43) rfl rfl
        ·intro ρz wz hz hk hd
         exact sk_val (v := .int .i64 (ix s7.1 0)) (xr_load1 (v := .int .i64 (ix s7.1 0)) rfl ag3 (hd 1 rfl 27 rfl) ((r12.gr hz).elem (by decide) g43)) rfl rfl
        ·intro ρz wz hz hk hd
         exact sk_val (v := v11) (xr_move rfl ((hk 1 rfl).trans e1)) rfl rfl
        ·intro ρz wz hz hk hd
         exact sk_val (xr_slice_l (K := (kI .i64)) (v := v11) rfl Try.underlying25 sz3 (hd 3 rfl 29 rfl) (r12.gr hz) rfl (by decide) g45) rfl ⟨(r12.gr hz).cut (lo := 1) (hi := (List.length s7.1 : Int)) (by decide) g45 (Int.le_refl _), rfl⟩
        intro ρz wz hz hk hd
        exact sk_val (v := .int .i64 (ix s7.1 0)) (xr_assign rfl (hd 2 rfl 28 rfl)) rfl rfl
       intro ρ46 w47 q48 hk hd
       have e0 := (hk 0 rfl).trans e0
       have e5 := (hk 5 rfl).trans rfl
       have e6 := hd 5 rfl 6 rfl
       have e11 := (hk 11 rfl).trans e11
       have e12 := (hk 12 rfl).trans e12
       obtain ⟨r49, e30⟩ := hd 4 rfl 30 rfl
       have b_0 := b_0.gr q48
       have O0_0 := O0_0.gr q48
       have O0_1 := O0_1.gr q48
       have fB := fB.gr q48
       refine ol_val (v := subv 1 v11 (Int.toNat 1) (List.length s7.1)) (xr_assign rfl e30) rfl rfl rfl ?_
       refine ol_nil ?_
       obtain rfl := Option.some.inj h
       refine thn_i ?_
       exact ⟨(subv 1 v11 (Int.toNat 1) (List.length s7.1)), O0_0, O0_1, r49, (OffR.cut a13), (OffRV.cut a14), (OffRV.cut a15), e0, rfl, e5, e6, e11, e12, b_0, fB⟩
      refine cw_condF rfl c42 ?_
      refine cw_skip ?_
      obtain rfl := Option.some.inj h
      refine thn_i ?_
      exact ⟨v11, O0_0, O0_1, r12, a13, a14, a15, e0, e1, rfl, rfl, e11, e12, b_0, fB⟩
     rintro ρ50 w51 ⟨v37, O0_0, O0_1, r38, a39, a40, a41, e0, e1, e5, e6, e11, e12, b_0, fB⟩
     have h := h36
     refine cw_region ?_
     refine ol_val (v := (pt ((sb V0_0)) (so V0_0 + Int.toNat s7.2.1 * 4))) (xr_move rfl e5) rfl rfl rfl ?_
     refine ol_val (v := (pt ((sb V0_0)) (so V0_0 + Int.toNat s7.2.1 * 4))) (xr_move rfl e5) rfl rfl rfl ?_
     refine ol_val (v := .int .i64 x34.2) (xr_move rfl e6) rfl rfl rfl ?_
     obtain ⟨t52, k53, h⟩ := bs h
     refine ol_op (opv_call rfl cal87 (ac rfl (ac rfl an)) (pmem_cell_fate__r0.ok fu _ (ix s7.2.2 s7.2.1) (sb V0_0) (so V0_0 + Int.toNat s7.2.1 * 4) (show At _ _ _ (cellsOf [Seg.cell (.int .u64 ((ix s7.2.2 s7.2.1).lasts)), Seg.cell (.int .u64 ((ix s7.2.2 s7.2.1).stored)), Seg.cell (.int .u64 ((ix s7.2.2 s7.2.1).sent)), Seg.cell (.bool ((ix s7.2.2 s7.2.1).flushed))]) from (O0_0.rd.elem g20.1 g20.2)) x34.2 _ k53)) rfl rfl rfl ?_
     rintro _ w55 ⟨rfl, q54⟩
     have b_0 := b_0.gr q54
     have O0_0 := O0_0.gr q54
     have O0_1 := O0_1.gr q54
     have r38 := r38.gr q54
     have fB := fB.gr q54
     obtain ⟨t62, k63, h⟩ := bs h
     have f66 := off_ty b_0 O0_0 (by decide)
     have f67 := OffV.ty O0_1 O0_0 (by decide)
     obtain ⟨X56, Y57, h58, h59, b60, k61⟩ := Own.sub (K := k_pmem_cell) (i := s7.2.1) (ss := [Seg.cell (.int .u64 ((ix s7.2.2 s7.2.1).lasts)), Seg.cell (.int .u64 ((ix s7.2.2 s7.2.1).stored)), Seg.cell (.int .u64 ((ix s7.2.2 s7.2.1).sent)), Seg.cell (.bool ((ix s7.2.2 s7.2.1).flushed))]) O0_0 g20.1 g20.2 rfl
     refine ol_op (opv_call rfl cal85 (ac (ptrE (q := List.length X56) rfl h58) (ac rfl an)) (pmem_cell_keep__i0.ok fu _ (ix s7.2.2 s7.2.1) (sb V0_0) 142 X56 Y57 b60 t52 _ k63)) rfl rfl rfl ?_
     rintro _ w69 ⟨rfl, b65, q64⟩
     have O0_0 := k61 _ t62 [Seg.cell (.int .u64 t62.lasts), Seg.cell (.int .u64 t62.stored), Seg.cell (.int .u64 t62.sent), Seg.cell (.bool t62.flushed)] rfl b65
     have q64 := fr_own q64 h59
     have b_0 := b_0.wrO q64 f66
     have O0_1 := O0_1.wrV q64 f67
     have fB := fB.wrM q64 M0_0
     have r38 := r38.wrV q64 a40
     refine ol_nil ?_
     obtain rfl := Option.some.inj h
     refine thn_i ?_
     exact ⟨v37, O0_0, O0_1, r38, a39, a40, a41, e0, e1, e5, e11, e12, b_0, fB⟩
    refine cw_condF rfl c33 ?_
    refine cw_skip ?_
    obtain rfl := Option.some.inj h
    refine thn_i ?_
    exact ⟨v11, O0_0, O0_1, r12, a13, a14, a15, e0, e1, rfl, e11, e12, b_0, fB⟩
   rintro ρ70 w71 ⟨v28, O0_0, O0_1, r29, a30, a31, a32, e0, e1, e5, e11, e12, b_0, fB⟩
   have h := h27
   refine cw_region ?_
   refine ol_val (v := (pt ((sb V0_0)) (so V0_0 + Int.toNat s7.2.1 * 4))) (xr_move rfl e5) rfl rfl rfl ?_
   refine ol_val (v := (pt ((sb V0_0)) (so V0_0 + Int.toNat s7.2.1 * 4))) (xr_move rfl e5) rfl rfl rfl ?_
   refine ol_val (v := (pt ((sb V0_0)) (so V0_0 + Int.toNat s7.2.1 * 4))) (xr_nilCheck rfl rfl) rfl rfl rfl ?_
   refine ol_val (v := (pt ((sb V0_0)) (so V0_0 + Int.toNat s7.2.1 * 4 + 0))) (xr_fieldAddr (p := so V0_0 + Int.toNat s7.2.1 * 4) (q := 0) rfl fl142_0 rfl) rfl rfl rfl ?_
   obtain ⟨g72, h⟩ := gs h
   refine ol_val (v := .int .u64 ((ix x25.2 s7.2.1).lasts)) (xr_load1 (v := .int .u64 ((ix x25.2 s7.2.1).lasts)) rfl ag22 rfl (At.segs (ss := segs_pmem_cell (ix x25.2 s7.2.1)) (O0_0.rd.elem g20.1 g72) 0 1 rfl)) rfl rfl rfl ?_
   refine ol_val (v := (pt ((sb V0_0)) (so V0_0 + Int.toNat s7.2.1 * 4))) (xr_nilCheck rfl rfl) rfl rfl rfl ?_
   refine ol_val (v := (pt ((sb V0_0)) (so V0_0 + Int.toNat s7.2.1 * 4 + 1))) (xr_fieldAddr (p := so V0_0 + Int.toNat s7.2.1 * 4) (q := 1) rfl fl142_1 rfl) rfl rfl rfl ?_
   obtain ⟨g74, h⟩ := gs h
   have f75 := off_ty b_0 O0_0 (by decide)
   have f76 := OffV.ty O0_1 O0_0 (by decide)
   refine ol_op0 (opv_storeRow (z := (⟨(ix x25.2 s7.2.1).lasts, (ix x25.2 s7.2.1).lasts, (ix x25.2 s7.2.1).sent, (ix x25.2 s7.2.1).flushed⟩ : S_pmem_cell)) (xs := cellsOf [Seg.cell (.int .u64 ((ix x25.2 s7.2.1).lasts))]) rfl sz22 rfl rfl rfl (len_cellsOf _) (one_cellsOf _) O0_0 g20.1 g74 (Spl.segs (segs_pmem_cell (ix x25.2 s7.2.1)) 1 1 [Seg.cell (.int .u64 ((ix x25.2 s7.2.1).lasts))] rfl rfl) rfl) rfl rfl ?_
   rintro _ w78 ⟨O0_0, q73⟩
   have b_0 := b_0.wrO q73 f75
   have O0_1 := O0_1.wrV q73 f76
   have fB := fB.wrM q73 M0_0
   have r29 := r29.wrV q73 a31
   refine ol_nil ?_
   refine blk_i ?_
   refine cw_region ?_
   refine ol_val (v := .int .i64 (IntKind.i64.wrap (s7.2.1 + 1))) (xr_add rfl e12 rfl) rfl rfl rfl ?_
   refine ol_val (v := .int .i64 (IntKind.i64.wrap (s7.2.1 + 1))) (xr_move rfl rfl) rfl rfl rfl ?_
   refine ol_nil ?_
   obtain rfl := Option.some.inj h
   refine lp_in ?_
   exact ⟨v28, O0_0, O0_1, r29, a30, a31, a32, e0, e1, e11, rfl, b_0, fB⟩
  refine cw_condF rfl c19 ?_
  refine cw_exit ?_
  repeat (first | with_reducible refine thn_e ?_ | with_reducible refine blk_e rfl ?_)
  obtain rfl := Option.some.inj h
  refine lp_exit ?_
  rintro rfl
  refine thn_x ?_
  exact ⟨O0_0, O0_1, e0, b_0, fB⟩
 rintro ρ79 w80 ⟨O0_0, O0_1, e0, b_0, fB⟩
 have h := h10
 refine cw_seq ?_
 refine cw_region ?_
 refine ol_val (v := (pt G_0 0)) (xr_move rfl e0) rfl rfl rfl ?_
 refine ol_val (v := aggV [Seg.cell (.slice none 0 0) (by rfl), (sI (0 : Int))]) (xr_build (vals := []) rfl trivial (bl137_ _)) rfl rfl rfl ?_
 refine ol_val (v := (pt G_0 0)) (xr_nilCheck rfl rfl) rfl rfl rfl ?_
 refine ol_val (v := (pt G_0 1)) (xr_fieldAddr (p := 0) (q := 1) rfl fl139_1 rfl) rfl rfl rfl ?_
 have f82 := off_ty b_0 O0_0 (by decide)
 refine ol_op0 (opv_store (ss' := [Seg.cell V0_0 O0_0.one, Seg.cell (.slice none 0 0) (by rfl), (sI (0 : Int)), Seg.cell (.bool a0.off), Seg.cell (.bool a0.armed), (sI a0.left), (sI a0.steps)]) (xs := cellsOf [Seg.cell (.slice none 0 0) (by rfl), (sI (0 : Int))]) rfl sz137 rfl rfl rfl (len_cellsOf _) (one_cellsOf _) b_0 (Spl.segs _ 1 2 [Seg.cell (.slice none 0 0) (by rfl), (sI (0 : Int))] rfl rfl)) rfl rfl ?_
 rintro _ w83 ⟨b_0, q81⟩
 have O0_0 := O0_0.wr q81 f82
 have fB := fB.wrS q81 (.inl rfl)
 refine ol_nil ?_
 refine cw_region ?_
 refine ol_val (v := (pt G_0 0)) (xr_move rfl e0) rfl rfl rfl ?_
 refine ol_val (v := (pt G_0 0)) (xr_move rfl e0) rfl rfl rfl ?_
 refine ol_val (v := (pt G_0 0)) (xr_move rfl e0) rfl rfl rfl ?_
 refine ol_val (v := (pt G_0 0)) (xr_nilCheck rfl rfl) rfl rfl rfl ?_
 refine ol_val (v := (pt G_0 3)) (xr_fieldAddr (p := 0) (q := 3) rfl fl139_2 rfl) rfl rfl rfl ?_
 have f85 := off_ty b_0 O0_0 (by decide)
 refine ol_op0 (opv_store (ss' := [Seg.cell V0_0 O0_0.one, Seg.cell (.slice none 0 0) (by rfl), (sI (0 : Int)), Seg.cell (.bool false), Seg.cell (.bool a0.armed), (sI a0.left), (sI a0.steps)]) (xs := cellsOf [Seg.cell (.bool false)]) rfl sz4 rfl rfl rfl (len_cellsOf _) (one_cellsOf _) b_0 (Spl.segs _ 3 1 [Seg.cell (.bool false)] rfl rfl)) rfl rfl ?_
 rintro _ w86 ⟨b_0, q84⟩
 have O0_0 := O0_0.wr q84 f85
 have fB := fB.wrS q84 (.inl rfl)
 refine ol_val (v := (pt G_0 0)) (xr_nilCheck rfl rfl) rfl rfl rfl ?_
 refine ol_val (v := (pt G_0 4)) (xr_fieldAddr (p := 0) (q := 4) rfl fl139_3 rfl) rfl rfl rfl ?_
 have f88 := off_ty b_0 O0_0 (by decide)
 refine ol_op0 (opv_store (ss' := [Seg.cell V0_0 O0_0.one, Seg.cell (.slice none 0 0) (by rfl), (sI (0 : Int)), Seg.cell (.bool false), Seg.cell (.bool false), (sI a0.left), (sI a0.steps)]) (xs := cellsOf [Seg.cell (.bool false)]) rfl sz4 rfl rfl rfl (len_cellsOf _) (one_cellsOf _) b_0 (Spl.segs _ 4 1 [Seg.cell (.bool false)] rfl rfl)) rfl rfl ?_
 rintro _ w89 ⟨b_0, q87⟩
 have O0_0 := O0_0.wr q87 f88
 have fB := fB.wrS q87 (.inl rfl)
 refine ol_val (v := (pt G_0 0)) (xr_nilCheck rfl rfl) rfl rfl rfl ?_
 refine ol_val (v := (pt G_0 5)) (xr_fieldAddr (p := 0) (q := 5) rfl fl139_4 rfl) rfl rfl rfl ?_
 have f91 := off_ty b_0 O0_0 (by decide)
 refine ol_op0 (opv_store (ss' := [Seg.cell V0_0 O0_0.one, Seg.cell (.slice none 0 0) (by rfl), (sI (0 : Int)), Seg.cell (.bool false), Seg.cell (.bool false), (sI 0), (sI a0.steps)]) (xs := cellsOf [(sI 0)]) rfl sz3 rfl rfl rfl (len_cellsOf _) (one_cellsOf _) b_0 (Spl.segs _ 5 1 [(sI 0)] rfl rfl)) rfl rfl ?_
 rintro _ w92 ⟨b_0, q90⟩
 have O0_0 := O0_0.wr q90 f91
 have fB := fB.wrS q90 (.inl rfl)
 refine ol_nil ?_
 obtain rfl := Option.some.inj h
 refine fin_end0 Try.results32 ?_
 exact ⟨_, rfl, V0_0, (.slice none 0 0), O0_0, M0_0, Own.nil _ _ _ _, ms_nil, rfl, b_0, fB⟩
def pmem_Device_Image_1__r0.f (fu : Nat) (a0 : S_pmem_cell) : Option Int := some (a0.lasts)
theorem pmem_Device_Image_1__r0.ok (fu : Nat) (w : World) (a0 : S_pmem_cell) (G_0 p_0 : Nat) (A_0 : At w G_0 p_0 (cellsOf [Seg.cell (.int .u64 a0.lasts), Seg.cell (.int .u64 a0.stored), Seg.cell (.int .u64 a0.sent), Seg.cell (.bool a0.flushed)])) (r : Int) (h : pmem_Device_Image_1__r0.f fu a0 = some r) :
  Calls Try.prog 89 (([(pt G_0 p_0)] : List Value).toArray) w (fun e w' => ∃ v, e = .returned v ∧ v = .int .u64 r ∧ Gr w w') := by
 unfold pmem_Device_Image_1__r0.f at h
 have fB : Gr w w := Fr.refl _ _
 refine calls_cw Try.func89 rfl Try.ntmps89 rfl ?_
 refine cw_seq ?_
 refine cw_region ?_
 refine ol_val (v := .int .u64 0) (xr_assign rfl rfl) rfl rfl rfl ?_
 refine ol_nil ?_
 refine cw_seq ?_
 refine cw_region ?_
 refine ol_val (v := (pt G_0 p_0)) (xr_move rfl rfl) rfl rfl rfl ?_
 refine ol_val (v := (pt G_0 p_0)) (xr_nilCheck rfl rfl) rfl rfl rfl ?_
 refine ol_val (v := (pt G_0 (p_0 + 0))) (xr_fieldAddr (p := p_0) (q := 0) rfl fl142_0 rfl) rfl rfl rfl ?_
 refine ol_val (v := .int .u64 a0.lasts) (xr_load1 (v := .int .u64 a0.lasts) rfl ag22 rfl (At.segs (ss := [Seg.cell (.int .u64 a0.lasts), Seg.cell (.int .u64 a0.stored), Seg.cell (.int .u64 a0.sent), Seg.cell (.bool a0.flushed)]) (At.gr A_0 fB) 0 1 rfl)) rfl rfl rfl ?_
 refine ol_val (v := .int .u64 a0.lasts) (xr_assign rfl rfl) rfl rfl rfl ?_
 refine ol_nil ?_
 refine cw_ret ?_
 repeat (first | with_reducible refine thn_r ?_ | with_reducible refine blk_r ?_)
 obtain rfl := Option.some.inj h
 refine fin_ret1 Try.results89 rfl ?_
 exact ⟨_, rfl, rfl, fB⟩
def octet_Lay.s0 (fu : Nat) (a1 : Int) : (Int × Int × (List Int)) → Option (Sum (List Int) (Int × Int × (List Int))) := fun s14 => (if (decide (s14.2.1 < (List.length (List.replicate (Int.toNat a1) (0 : Int)) : Int))) = true then (if 0 ≤ s14.2.1 ∧ s14.2.1 < (List.length s14.2.2 : Int) then some (Sum.inr ((shR .u64 s14.1 8), (IntKind.i64.wrap (s14.2.1 + 1)), (List.set s14.2.2 (Int.toNat s14.2.1) (IntKind.u8.wrap s14.1)))) else none) else some (Sum.inl (s14.2.2)))
def octet_Lay.f (fu : Nat) (a0 : Int) (a1 : Int) : Option (List Int) := (if (if (decide (a1 < 0)) = true then true else (decide (a1 > 8))) = true then some ([]) else (if 0 ≤ a1 ∧ Int.toNat a1 ≤ LIM then ((loopM (octet_Lay.s0 fu a1) fu (a0, 0, (List.replicate (Int.toNat a1) (0 : Int)))).bind fun e15 => some (e15)) else none))
theorem octet_Lay.ok (fu : Nat) (w : World) (a0 : Int) (a1 : Int) (r : (List Int)) (h : octet_Lay.f fu a0 a1 = some r) :
  Calls Try.prog 128 (([.int .u64 a0, .int .i64 a1] : List Value).toArray) w (fun e w' => ∃ v, e = .returned v ∧ ∃ u1 : Value, ∃ o2 : Own (kI .u8) 5 w' w.heap.size u1 r, v = u1 ∧ Gr w w') := by
 unfold octet_Lay.f at h
 have fB : Gr w w := Fr.refl _ _
 refine calls_cw Try.func128 rfl Try.ntmps128 rfl ?_
 refine cw_seq ?_
 refine cw_region ?_
 refine ol_val (v := .slice none 0 0) (xr_assign rfl rfl) rfl rfl rfl ?_
 refine ol_nil ?_
 refine cw_seq ?_
 refine cw_seq ?_
 refine cw_mid (fun ρ' w' => ρ' 0 = .int .u64 a0 ∧ ρ' 1 = .int .i64 a1 ∧ ρ' 12 = .bool (if (decide (a1 < 0)) = true then true else (decide (a1 > 8))) ∧ w = w') ?_ ?_
 ·skip
  refine cw_region ?_
  refine ol_val (v := .int .i64 a1) (xr_move rfl rfl) rfl rfl rfl ?_
  refine ol_val (v := .bool (decide (a1 < 0))) (xr_lss rfl rfl rfl) rfl rfl rfl ?_
  refine ol_val (v := .bool (decide (a1 < 0))) (xr_move rfl rfl) rfl rfl rfl ?_
  rcases bt (decide (a1 < 0)) with c4 | c4
  ·skip
   refine ol_gskip rfl rfl rfl rfl rfl c4 ?_
   refine ol_gskip rfl rfl rfl rfl rfl c4 ?_
   refine ol_val (v := .bool true) (xr_pickT rfl rfl c4 rfl) rfl rfl rfl ?_
   refine ol_nil ?_
   refine thn_i ?_
   exact ⟨rfl, rfl, (rfl).trans (congrArg (fun z => (.bool z : Value)) (show true = (if (decide (a1 < 0)) = true then true else (decide (a1 > 8))) from by rw [ite_t c4])), rfl⟩
  refine ol_gval (v := .int .i64 a1) (xr_move rfl rfl) rfl rfl rfl rfl rfl c4 ?_
  refine ol_gval (v := .bool (decide (a1 > 8))) (xr_gtr rfl rfl rfl) rfl rfl rfl rfl rfl c4 ?_
  refine ol_val (v := .bool (decide (a1 > 8))) (xr_pickF rfl rfl c4 rfl) rfl rfl rfl ?_
  refine ol_nil ?_
  refine thn_i ?_
  exact ⟨rfl, rfl, (rfl).trans (congrArg (fun z => (.bool z : Value)) (show (decide (a1 > 8)) = (if (decide (a1 < 0)) = true then true else (decide (a1 > 8))) from by rw [ite_f c4])), rfl⟩
 rintro ρ5 _ ⟨e0, e1, e12, rfl⟩
 rcases is h with ⟨c6, h⟩ | ⟨c6, h⟩
 ·refine cw_condT e12 c6 ?_
  refine cw_seq ?_
  refine cw_region ?_
  refine ol_val (v := .slice none 0 0) (xr_assign rfl rfl) rfl rfl rfl ?_
  refine ol_nil ?_
  refine cw_ret ?_
  repeat (first | with_reducible refine thn_r ?_ | with_reducible refine blk_r ?_)
  obtain rfl := Option.some.inj h
  refine fin_ret1 Try.results128 rfl ?_
  exact ⟨_, rfl, (.slice none 0 0), Own.nil _ _ _ _, rfl, fB⟩
 refine cw_condF e12 c6 ?_
 refine cw_skip ?_
 refine cw_seq ?_
 refine cw_region ?_
 refine ol_val (v := .int .i64 a1) (xr_move rfl e1) rfl rfl rfl ?_
 obtain ⟨g7, h⟩ := gs h
 refine ol_op (opv_make (K := (kI .u8)) (z := (0 : Int)) rfl Try.underlying43 el5 rfl rfl rfl g7.1 g7.2 rfl fB.size) rfl rfl rfl ?_
 rintro v8 w13 ⟨o10, q9, z11⟩
 have fB := fB.gr q9
 refine ol_val (v := v8) (xr_assign rfl rfl) rfl rfl rfl ?_
 refine ol_nil ?_
 refine cw_seq ?_
 refine cw_seq ?_
 refine cw_region ?_
 refine ol_val (v := v8) (xr_move rfl rfl) rfl rfl rfl ?_
 refine ol_val (v := .int .i64 (List.length (List.replicate (Int.toNat a1) (0 : Int)) : Int)) (xr_lenR rfl Try.underlying43 rfl o10.rd) rfl rfl rfl ?_
 refine ol_val (v := .int .i64 0) (xr_move rfl rfl) rfl rfl rfl ?_
 refine ol_nil ?_
 obtain ⟨e15, l16, h17⟩ := bs h
 refine cw_mid (fun ρ' w' => ∃ o10 : Own (kI .u8) 5 w' w.heap.size v8 e15, ρ' 5 = v8 ∧ Gr w w') ?_ ?_
 ·refine cw_block ?_
  refine cw_round (fun (s14 : Int × Int × (List Int)) ρ' w' => ∃ o10 : Own (kI .u8) 5 w' w.heap.size v8 s14.2.2, ρ' 0 = .int .u64 s14.1 ∧ ρ' 5 = v8 ∧ ρ' 16 = .int .i64 (List.length (List.replicate (Int.toNat a1) (0 : Int)) : Int) ∧ ρ' 17 = .int .i64 s14.2.1 ∧ Gr w w') l16 ?_ ?_
  ·skip
   exact ⟨o10, e0, rfl, rfl, rfl, fB⟩
  rintro s14 x20 ρ18 w19 ⟨o10, e0, e5, e16, e17, fB⟩ h
  unfold octet_Lay.s0 at h
  refine cw_seq ?_
  refine cw_region ?_
  refine ol_val (v := .bool (decide (s14.2.1 < (List.length (List.replicate (Int.toNat a1) (0 : Int)) : Int)))) (xr_lss rfl e17 e16) rfl rfl rfl ?_
  refine ol_nil ?_
  refine cw_seq ?_
  rcases is h with ⟨c21, h⟩ | ⟨c21, h⟩
  ·refine cw_condT rfl c21 ?_
   refine cw_skip ?_
   refine cw_seq ?_
   refine cw_block ?_
   refine cw_seq ?_
   refine cw_region ?_
   refine ol_val (v := .int .i64 s14.2.1) (xr_move rfl e17) rfl rfl rfl ?_
   refine ol_val (v := .int .i64 s14.2.1) (xr_assign rfl rfl) rfl rfl rfl ?_
   refine ol_nil ?_
   refine cw_seq ?_
   refine cw_region ?_
   refine ol_val (v := v8) (xr_move rfl e5) rfl rfl rfl ?_
   refine ol_val (v := .int .i64 s14.2.1) (xr_move rfl rfl) rfl rfl rfl ?_
   refine ol_val (v := .int .u64 s14.1) (xr_move rfl e0) rfl rfl rfl ?_
   refine ol_val (v := .int .u8 (IntKind.u8.wrap s14.1)) (xr_conv rfl Try.underlying22 Try.underlying5 rfl) rfl rfl rfl ?_
   obtain ⟨g22, h⟩ := gs h
   refine ol_val (v := (pt ((sb v8)) (so v8 + Int.toNat s14.2.1 * 1))) (xr_indexR (K := (kI .u8)) (v := v8) rfl Try.underlying43 sz5 rfl o10.rd rfl g22.1 g22.2) rfl rfl rfl ?_
   have f24 := o10.geO
   refine ol_op0 (opv_storeRow (z := (IntKind.u8.wrap s14.1)) (xs := cellsOf [Seg.cell (.int .u8 (IntKind.u8.wrap s14.1))]) rfl sz5 rfl rfl rfl (len_cellsOf _) (one_cellsOf _) o10 g22.1 g22.2 (Spl.whole ((Kd.len _ _).trans (Kd.len _ _).symm)) rfl) rfl rfl ?_
   rintro _ w25 ⟨o10, q23⟩
   have fB := fB.wrO q23 f24
   refine ol_nil ?_
   refine cw_region ?_
   refine ol_val (v := .int .u64 s14.1) (xr_move rfl e0) rfl rfl rfl ?_
   refine ol_val (v := .int .u64 (shR .u64 s14.1 8)) (xr_shr rfl rfl rfl (by decide)) rfl rfl rfl ?_
   refine ol_val (v := .int .u64 (shR .u64 s14.1 8)) (xr_assign rfl rfl) rfl rfl rfl ?_
   refine ol_nil ?_
   refine blk_i ?_
   refine cw_region ?_
   refine ol_val (v := .int .i64 (IntKind.i64.wrap (s14.2.1 + 1))) (xr_add rfl e17 rfl) rfl rfl rfl ?_
   refine ol_val (v := .int .i64 (IntKind.i64.wrap (s14.2.1 + 1))) (xr_move rfl rfl) rfl rfl rfl ?_
   refine ol_nil ?_
   obtain rfl := Option.some.inj h
   refine lp_in ?_
   exact ⟨o10, rfl, e5, e16, rfl, fB⟩
  refine cw_condF rfl c21 ?_
  refine cw_exit ?_
  repeat (first | with_reducible refine thn_e ?_ | with_reducible refine blk_e rfl ?_)
  obtain rfl := Option.some.inj h
  refine lp_exit ?_
  rintro rfl
  refine thn_x ?_
  exact ⟨o10, e5, fB⟩
 rintro ρ26 w27 ⟨o10, e5, fB⟩
 have h := h17
 refine cw_seq ?_
 refine cw_region ?_
 refine ol_val (v := v8) (xr_move rfl e5) rfl rfl rfl ?_
 refine ol_val (v := v8) (xr_assign rfl rfl) rfl rfl rfl ?_
 refine ol_nil ?_
 refine cw_ret ?_
 repeat (first | with_reducible refine thn_r ?_ | with_reducible refine blk_r ?_)
 obtain rfl := Option.some.inj h
 refine fin_ret1 Try.results128 rfl ?_
 exact ⟨_, rfl, v8, o10, rfl, fB⟩
def octet_Octets.s0 (fu : Nat) (a0 : List Int) : ((List Int) × Int) → Option (Sum (List Int) ((List Int) × Int)) := fun s4 => (if (decide (s4.2 < (List.length a0 : Int))) = true then (if 0 ≤ s4.2 ∧ s4.2 < (List.length a0 : Int) then ((octet_Lay.f fu (ix a0 s4.2) 8).bind fun t19 => (if List.length s4.1 + List.length t19 ≤ LIM then some (Sum.inr ((s4.1 ++ t19), (IntKind.i64.wrap (s4.2 + 1)))) else none)) else none) else some (Sum.inl (s4.1)))
def octet_Octets.f (fu : Nat) (a0 : List Int) : Option (List Int) := ((loopM (octet_Octets.s0 fu a0) fu ([], 0)).bind fun e5 => some (e5))
theorem octet_Octets.ok (fu : Nat) (w : World) (a0 : List Int) (V0_0 : Value) (R0_0 : Rd (kI .u64) w V0_0 a0) (r : (List Int)) (h : octet_Octets.f fu a0 = some r) :
  Calls Try.prog 104 (([V0_0] : List Value).toArray) w (fun e w' => ∃ v, e = .returned v ∧ ∃ u1 : Value, ∃ o2 : Own (kI .u8) 5 w' w.heap.size u1 r, v = u1 ∧ Gr w w') := by
 unfold octet_Octets.f at h
 have fB : Gr w w := Fr.refl _ _
 refine calls_cw Try.func104 rfl Try.ntmps104 rfl ?_
 refine cw_seq ?_
 refine cw_region ?_
 refine ol_val (v := .slice none 0 0) (xr_assign rfl rfl) rfl rfl rfl ?_
 refine ol_nil ?_
 refine cw_seq ?_
 refine cw_region ?_
 refine ol_val (v := .slice none 0 0) (xr_assign rfl rfl) rfl rfl rfl ?_
 refine ol_nil ?_
 refine cw_seq ?_
 refine cw_seq ?_
 refine cw_region ?_
 refine ol_val (v := V0_0) (xr_move rfl rfl) rfl rfl rfl ?_
 refine ol_val (v := .int .i64 (List.length a0 : Int)) (xr_lenR rfl Try.underlying46 rfl (R0_0.gr fB)) rfl rfl rfl ?_
 refine ol_val (v := .int .i64 0) (xr_move rfl rfl) rfl rfl rfl ?_
 refine ol_nil ?_
 obtain ⟨e5, l6, h7⟩ := bs h
 refine cw_mid (fun ρ' w' => ∃ v8 : Value, ∃ o9 : Own (kI .u8) 5 w' w.heap.size v8 e5, ρ' 3 = v8 ∧ Gr w w') ?_ ?_
 ·refine cw_block ?_
  refine cw_round (fun (s4 : (List Int) × Int) ρ' w' => ∃ v11 : Value, ∃ o12 : Own (kI .u8) 5 w' w.heap.size v11 s4.1, ρ' 3 = v11 ∧ ρ' 6 = V0_0 ∧ ρ' 7 = .int .i64 (List.length a0 : Int) ∧ ρ' 8 = .int .i64 s4.2 ∧ Gr w w') l6 ?_ ?_
  ·skip
   exact ⟨(.slice none 0 0), Own.nil _ _ _ _, rfl, rfl, rfl, rfl, fB⟩
  rintro s4 x16 ρ14 w15 ⟨v11, o12, e3, e6, e7, e8, fB⟩ h
  unfold octet_Octets.s0 at h
  refine cw_seq ?_
  refine cw_region ?_
  refine ol_val (v := .bool (decide (s4.2 < (List.length a0 : Int)))) (xr_lss rfl e8 e7) rfl rfl rfl ?_
  refine ol_nil ?_
  refine cw_seq ?_
  rcases is h with ⟨c17, h⟩ | ⟨c17, h⟩
  ·refine cw_condT rfl c17 ?_
   refine cw_skip ?_
   refine cw_seq ?_
   refine cw_block ?_
   refine cw_seq ?_
   refine cw_region ?_
   obtain ⟨g18, h⟩ := gs h
   refine ol_val (v := (pt ((sb V0_0)) (so V0_0 + Int.toNat s4.2 * 1))) (xr_indexR (K := (kI .u64)) (v := V0_0) rfl Try.underlying46 sz22 e6 (R0_0.gr fB) e8 g18.1 g18.2) rfl rfl rfl ?_
   refine ol_val (v := .int .u64 (ix a0 s4.2)) (xr_load1 (v := .int .u64 (ix a0 s4.2)) rfl ag22 rfl ((R0_0.gr fB).elem g18.1 g18.2)) rfl rfl rfl ?_
   refine ol_val (v := .int .u64 (ix a0 s4.2)) (xr_assign rfl rfl) rfl rfl rfl ?_
   refine ol_nil ?_
   refine cw_region ?_
   refine ol_val (v := v11) (xr_move rfl e3) rfl rfl rfl ?_
   refine ol_val (v := .int .u64 (ix a0 s4.2)) (xr_move rfl rfl) rfl rfl rfl ?_
   obtain ⟨t19, k20, h⟩ := bs h
   refine ol_op (opv_call rfl cal128 (ac rfl (ac rfl an)) (octet_Lay.ok fu _ (ix a0 s4.2) 8 _ k20)) rfl rfl rfl ?_
   rintro u21 w25 ⟨_, o22, rfl, q24⟩
   have a26 := OffV.call o12 o22
   have o22 := Own.base o22 fB.size
   have o12 := o12.gr q24
   have fB := fB.gr q24
   obtain ⟨g31, h⟩ := gs h
   have f33 := o12.geO
   refine ol_op (opv_append (K := (kI .u8)) rfl Try.underlying43 el5 rfl rfl rfl rfl rfl o12 o22.rd g31 fB.size) rfl rfl rfl ?_
   rintro v27 w34 ⟨o28, q29, n30⟩
   have fB := fB.wrO q29 f33
   refine ol_val (v := v27) (xr_assign rfl rfl) rfl rfl rfl ?_
   refine ol_nil ?_
   refine blk_i ?_
   refine cw_region ?_
   refine ol_val (v := .int .i64 (IntKind.i64.wrap (s4.2 + 1))) (xr_add rfl e8 rfl) rfl rfl rfl ?_
   refine ol_val (v := .int .i64 (IntKind.i64.wrap (s4.2 + 1))) (xr_move rfl rfl) rfl rfl rfl ?_
   refine ol_nil ?_
   obtain rfl := Option.some.inj h
   refine lp_in ?_
   exact ⟨v27, o28, rfl, e6, e7, rfl, fB⟩
  refine cw_condF rfl c17 ?_
  refine cw_exit ?_
  repeat (first | with_reducible refine thn_e ?_ | with_reducible refine blk_e rfl ?_)
  obtain rfl := Option.some.inj h
  refine lp_exit ?_
  rintro rfl
  refine thn_x ?_
  exact ⟨v11, o12, e3, fB⟩
 rintro ρ35 w36 ⟨v8, o9, e3, fB⟩
 have h := h7
 refine cw_seq ?_
 refine cw_region ?_
 refine ol_val (v := v8) (xr_move rfl e3) rfl rfl rfl ?_
 refine ol_val (v := v8) (xr_assign rfl rfl) rfl rfl rfl ?_
 refine ol_nil ?_
 refine cw_ret ?_
 repeat (first | with_reducible refine thn_r ?_ | with_reducible refine blk_r ?_)
 obtain rfl := Option.some.inj h
 refine fin_ret1 Try.results104 rfl ?_
 exact ⟨_, rfl, v8, o9, rfl, fB⟩
def pmem_Device_octets__pmem_Device_Image_1.s0 (fu : Nat) (a0 : S_pmem_Device) : (Int × (List Int)) → Option (Sum (List Int) (Int × (List Int))) := fun s11 => (if (decide (s11.1 < (List.length a0.cells : Int))) = true then (if 0 ≤ s11.1 ∧ s11.1 < (List.length a0.cells : Int) then ((pmem_Device_Image_1__r0.f fu (ix a0.cells s11.1)).bind fun t20 => (if 0 ≤ s11.1 ∧ s11.1 < (List.length s11.2 : Int) then some (Sum.inr ((IntKind.i64.wrap (s11.1 + 1)), (List.set s11.2 (Int.toNat s11.1) t20))) else none)) else none) else some (Sum.inl (s11.2)))
def pmem_Device_octets__pmem_Device_Image_1.f (fu : Nat) (a0 : S_pmem_Device) : Option (List Int) := (if 0 ≤ (List.length a0.cells : Int) ∧ Int.toNat (List.length a0.cells : Int) ≤ LIM then ((loopM (pmem_Device_octets__pmem_Device_Image_1.s0 fu a0) fu (0, (List.replicate (Int.toNat (List.length a0.cells : Int)) (0 : Int)))).bind fun e12 => ((octet_Octets.f fu e12).bind fun t31 => some (t31))) else none)
theorem pmem_Device_octets__pmem_Device_Image_1.ok (fu : Nat) (w : World) (a0 : S_pmem_Device) (G_0 : Nat) (V0_0 : Value) (R0_0 : Rd k_pmem_cell w V0_0 a0.cells) (V0_1 : Value) (R0_1 : Rd (kI .i64) w V0_1 a0.plan.list) (b_0 : Blk w G_0 139 [Seg.cell V0_0 R0_0.one, Seg.cell V0_1 R0_1.one, (sI a0.plan.at_), Seg.cell (.bool a0.off), Seg.cell (.bool a0.armed), (sI a0.left), (sI a0.steps)]) (r : (List Int)) (h : pmem_Device_octets__pmem_Device_Image_1.f fu a0 = some r) :
  Calls Try.prog 88 (([(pt G_0 0), Value.func (.func 89) #[] #[]] : List Value).toArray) w (fun e w' => ∃ v, e = .returned v ∧ ∃ u1 : Value, ∃ o2 : Own (kI .u8) 5 w' w.heap.size u1 r, v = u1 ∧ Gr w w') := by
 unfold pmem_Device_octets__pmem_Device_Image_1.f at h
 have fB : Gr w w := Fr.refl _ _
 refine calls_cw Try.func88 rfl Try.ntmps88 rfl ?_
 refine cw_seq ?_
 refine cw_region ?_
 refine ol_val (v := .slice none 0 0) (xr_assign rfl rfl) rfl rfl rfl ?_
 refine ol_nil ?_
 refine cw_seq ?_
 refine cw_region ?_
 refine ol_val (v := (pt G_0 0)) (xr_move rfl rfl) rfl rfl rfl ?_
 refine ol_val (v := (pt G_0 0)) (xr_nilCheck rfl rfl) rfl rfl rfl ?_
 refine ol_val (v := (pt G_0 0)) (xr_fieldAddr (p := 0) (q := 0) rfl fl139_0 rfl) rfl rfl rfl ?_
 refine ol_val (v := V0_0) (xr_load1 (v := V0_0) rfl ag135 rfl (b_0.seg 0 rfl rfl)) rfl rfl rfl ?_
 refine ol_val (v := .int .i64 (List.length a0.cells : Int)) (xr_lenR rfl Try.underlying135 rfl (R0_0.gr fB)) rfl rfl rfl ?_
 obtain ⟨g4, h⟩ := gs h
 refine ol_op (opv_make (K := (kI .u64)) (z := (0 : Int)) rfl Try.underlying46 el22 rfl rfl rfl g4.1 g4.2 rfl fB.size) rfl rfl rfl ?_
 rintro v5 w10 ⟨o7, q6, z8⟩
 have b_0 := b_0.gr q6
 have fB := fB.gr q6
 refine ol_val (v := v5) (xr_assign rfl rfl) rfl rfl rfl ?_
 refine ol_nil ?_
 refine cw_seq ?_
 refine cw_seq ?_
 refine cw_region ?_
 refine ol_val (v := (pt G_0 0)) (xr_move rfl rfl) rfl rfl rfl ?_
 refine ol_val (v := (pt G_0 0)) (xr_nilCheck rfl rfl) rfl rfl rfl ?_
 refine ol_val (v := (pt G_0 0)) (xr_fieldAddr (p := 0) (q := 0) rfl fl139_0 rfl) rfl rfl rfl ?_
 refine ol_val (v := V0_0) (xr_load1 (v := V0_0) rfl ag135 rfl (b_0.seg 0 rfl rfl)) rfl rfl rfl ?_
 refine ol_val (v := .int .i64 (List.length a0.cells : Int)) (xr_lenR rfl Try.underlying135 rfl (R0_0.gr fB)) rfl rfl rfl ?_
 refine ol_val (v := .int .i64 0) (xr_move rfl rfl) rfl rfl rfl ?_
 refine ol_nil ?_
 obtain ⟨e12, l13, h14⟩ := bs h
 refine cw_mid (fun ρ' w' => ∃ o7 : Own (kI .u64) 22 w' w.heap.size v5 e12, ρ' 5 = v5 ∧ Blk w' G_0 139 [Seg.cell V0_0 R0_0.one, Seg.cell V0_1 R0_1.one, (sI a0.plan.at_), Seg.cell (.bool a0.off), Seg.cell (.bool a0.armed), (sI a0.left), (sI a0.steps)] ∧ Gr w w') ?_ ?_
 ·refine cw_block ?_
  refine cw_round (fun (s11 : Int × (List Int)) ρ' w' => ∃ o7 : Own (kI .u64) 22 w' w.heap.size v5 s11.2, ρ' 0 = (pt G_0 0) ∧ ρ' 1 = Value.func (.func 89) #[] #[] ∧ ρ' 5 = v5 ∧ ρ' 17 = .int .i64 (List.length a0.cells : Int) ∧ ρ' 18 = .int .i64 s11.1 ∧ Blk w' G_0 139 [Seg.cell V0_0 R0_0.one, Seg.cell V0_1 R0_1.one, (sI a0.plan.at_), Seg.cell (.bool a0.off), Seg.cell (.bool a0.armed), (sI a0.left), (sI a0.steps)] ∧ Gr w w') l13 ?_ ?_
  ·skip
   exact ⟨o7, rfl, rfl, rfl, rfl, rfl, b_0, fB⟩
  rintro s11 x17 ρ15 w16 ⟨o7, e0, e1, e5, e17, e18, b_0, fB⟩ h
  unfold pmem_Device_octets__pmem_Device_Image_1.s0 at h
  refine cw_seq ?_
  refine cw_region ?_
  refine ol_val (v := .bool (decide (s11.1 < (List.length a0.cells : Int)))) (xr_lss rfl e18 e17) rfl rfl rfl ?_
  refine ol_nil ?_
  refine cw_seq ?_
  rcases is h with ⟨c18, h⟩ | ⟨c18, h⟩
  ·refine cw_condT rfl c18 ?_
   refine cw_skip ?_
   refine cw_seq ?_
   refine cw_block ?_
   refine cw_seq ?_
   refine cw_region ?_
   refine ol_val (v := .int .i64 s11.1) (xr_move rfl e18) rfl rfl rfl ?_
   refine ol_val (v := .int .i64 s11.1) (xr_assign rfl rfl) rfl rfl rfl ?_
   refine ol_nil ?_
   refine cw_region ?_
   refine ol_val (v := v5) (xr_move rfl e5) rfl rfl rfl ?_
   refine ol_val (v := .int .i64 s11.1) (xr_move rfl rfl) rfl rfl rfl ?_
   refine ol_val (v := Value.func (.func 89) #[] #[]) (xr_move rfl e1) rfl rfl rfl ?_
   refine ol_val (v := (pt G_0 0)) (xr_move rfl e0) rfl rfl rfl ?_
   refine ol_val (v := (pt G_0 0)) (xr_nilCheck rfl rfl) rfl rfl rfl ?_
   refine ol_val (v := (pt G_0 0)) (xr_fieldAddr (p := 0) (q := 0) rfl fl139_0 rfl) rfl rfl rfl ?_
   refine ol_val (v := V0_0) (xr_load1 (v := V0_0) rfl ag135 rfl (b_0.seg 0 rfl rfl)) rfl rfl rfl ?_
   refine ol_val (v := .int .i64 s11.1) (xr_move rfl rfl) rfl rfl rfl ?_
   obtain ⟨g19, h⟩ := gs h
   refine ol_val (v := (pt ((sb V0_0)) (so V0_0 + Int.toNat s11.1 * 4))) (xr_indexR (K := k_pmem_cell) (v := V0_0) rfl Try.underlying135 sz142 rfl (R0_0.gr fB) rfl g19.1 g19.2) rfl rfl rfl ?_
   obtain ⟨t20, k21, h⟩ := bs h
   refine ol_op (opv_callV (C := []) rfl rfl cal89 (ac rfl an) (pmem_Device_Image_1__r0.ok fu _ (ix a0.cells s11.1) (sb V0_0) (so V0_0 + Int.toNat s11.1 * 4) (show At _ _ _ (cellsOf [Seg.cell (.int .u64 ((ix a0.cells s11.1).lasts)), Seg.cell (.int .u64 ((ix a0.cells s11.1).stored)), Seg.cell (.int .u64 ((ix a0.cells s11.1).sent)), Seg.cell (.bool ((ix a0.cells s11.1).flushed))]) from ((R0_0.gr fB).elem g19.1 g19.2)) _ k21)) rfl rfl rfl ?_
   rintro _ w23 ⟨rfl, q22⟩
   have b_0 := b_0.gr q22
   have o7 := o7.gr q22
   have fB := fB.gr q22
   obtain ⟨g24, h⟩ := gs h
   refine ol_val (v := (pt ((sb v5)) (so v5 + Int.toNat s11.1 * 1))) (xr_indexR (K := (kI .u64)) (v := v5) rfl Try.underlying46 sz22 rfl o7.rd rfl g24.1 g24.2) rfl rfl rfl ?_
   have f26 := off_ty b_0 o7 (by decide)
   have f27 := o7.geO
   refine ol_op0 (opv_storeRow (z := t20) (xs := cellsOf [Seg.cell (.int .u64 t20)]) rfl sz22 rfl rfl rfl (len_cellsOf _) (one_cellsOf _) o7 g24.1 g24.2 (Spl.whole ((Kd.len _ _).trans (Kd.len _ _).symm)) rfl) rfl rfl ?_
   rintro _ w28 ⟨o7, q25⟩
   have b_0 := b_0.wrO q25 f26
   have fB := fB.wrO q25 f27
   refine ol_nil ?_
   refine blk_i ?_
   refine cw_region ?_
   refine ol_val (v := .int .i64 (IntKind.i64.wrap (s11.1 + 1))) (xr_add rfl e18 rfl) rfl rfl rfl ?_
   refine ol_val (v := .int .i64 (IntKind.i64.wrap (s11.1 + 1))) (xr_move rfl rfl) rfl rfl rfl ?_
   refine ol_nil ?_
   obtain rfl := Option.some.inj h
   refine lp_in ?_
   exact ⟨o7, e0, e1, e5, e17, rfl, b_0, fB⟩
  refine cw_condF rfl c18 ?_
  refine cw_exit ?_
  repeat (first | with_reducible refine thn_e ?_ | with_reducible refine blk_e rfl ?_)
  obtain rfl := Option.some.inj h
  refine lp_exit ?_
  rintro rfl
  refine thn_x ?_
  exact ⟨o7, e5, b_0, fB⟩
 rintro ρ29 w30 ⟨o7, e5, b_0, fB⟩
 have h := h14
 refine cw_seq ?_
 refine cw_region ?_
 refine ol_val (v := v5) (xr_move rfl e5) rfl rfl rfl ?_
 obtain ⟨t31, k32, h⟩ := bs h
 refine ol_op (opv_call rfl cal104 (ac rfl an) (octet_Octets.ok fu _ e12 v5 (o7.rd) _ k32)) rfl rfl rfl ?_
 rintro u33 w37 ⟨_, o34, rfl, q36⟩
 have o34 := Own.base o34 fB.size
 have b_0 := b_0.gr q36
 have fB := fB.gr q36
 refine ol_val (v := u33) (xr_assign rfl rfl) rfl rfl rfl ?_
 refine ol_nil ?_
 refine cw_ret ?_
 repeat (first | with_reducible refine thn_r ?_ | with_reducible refine blk_r ?_)
 obtain rfl := Option.some.inj h
 refine fin_ret1 Try.results88 rfl ?_
 exact ⟨_, rfl, u33, o34, rfl, fB⟩
def pmem_Device_Image.f (fu : Nat) (a0 : S_pmem_Device) : Option (List Int) := ((pmem_Device_octets__pmem_Device_Image_1.f fu a0).bind fun t4 => some (t4))
theorem pmem_Device_Image.ok (fu : Nat) (w : World) (a0 : S_pmem_Device) (G_0 : Nat) (V0_0 : Value) (R0_0 : Rd k_pmem_cell w V0_0 a0.cells) (V0_1 : Value) (R0_1 : Rd (kI .i64) w V0_1 a0.plan.list) (b_0 : Blk w G_0 139 [Seg.cell V0_0 R0_0.one, Seg.cell V0_1 R0_1.one, (sI a0.plan.at_), Seg.cell (.bool a0.off), Seg.cell (.bool a0.armed), (sI a0.left), (sI a0.steps)]) (r : (List Int)) (h : pmem_Device_Image.f fu a0 = some r) :
  Calls Try.prog 33 (([(pt G_0 0)] : List Value).toArray) w (fun e w' => ∃ v, e = .returned v ∧ ∃ u1 : Value, ∃ o2 : Own (kI .u8) 5 w' w.heap.size u1 r, v = u1 ∧ Gr w w') := by
 unfold pmem_Device_Image.f at h
 have fB : Gr w w := Fr.refl _ _
 refine calls_cw Try.func33 rfl Try.ntmps33 rfl ?_
 refine cw_seq ?_
 refine cw_region ?_
 refine ol_val (v := .slice none 0 0) (xr_assign rfl rfl) rfl rfl rfl ?_
 refine ol_nil ?_
 refine cw_seq ?_
 refine cw_region ?_
 refine ol_val (v := (pt G_0 0)) (xr_move rfl rfl) rfl rfl rfl ?_
 obtain ⟨t4, k5, h⟩ := bs h
 refine ol_op (opv_call rfl cal88 (ac rfl (ac rfl an)) (pmem_Device_octets__pmem_Device_Image_1.ok fu _ a0 G_0 V0_0 (R0_0.gr fB) V0_1 (R0_1.gr fB) b_0 _ k5)) rfl rfl rfl ?_
 rintro u6 w10 ⟨_, o7, rfl, q9⟩
 have o7 := Own.base o7 fB.size
 have b_0 := b_0.gr q9
 have fB := fB.gr q9
 refine ol_val (v := u6) (xr_assign rfl rfl) rfl rfl rfl ?_
 refine ol_nil ?_
 refine cw_ret ?_
 repeat (first | with_reducible refine thn_r ?_ | with_reducible refine blk_r ?_)
 obtain rfl := Option.some.inj h
 refine fin_ret1 Try.results33 rfl ?_
 exact ⟨_, rfl, u6, o7, rfl, fB⟩
def pmem_Device_Fates.s0 (fu : Nat) (a0 : S_pmem_Device) : ((List S_api_Fate) × Int) → Option (Sum (List S_api_Fate) ((List S_api_Fate) × Int)) := fun s4 => (if (decide (s4.2 < (List.length a0.cells : Int))) = true then (if 0 ≤ s4.2 ∧ s4.2 < (List.length a0.cells : Int) then ((pmem_cell_open__r0.f fu (ix a0.cells s4.2)).bind fun t19 => (((if t19 = true then (if List.length s4.1 + List.length [(⟨s4.2, (ix a0.cells s4.2).lasts, (ix a0.cells s4.2).flushed, (ix a0.cells s4.2).sent, (ix a0.cells s4.2).stored⟩ : S_api_Fate)] ≤ LIM then some ((s4.1 ++ [(⟨s4.2, (ix a0.cells s4.2).lasts, (ix a0.cells s4.2).flushed, (ix a0.cells s4.2).sent, (ix a0.cells s4.2).stored⟩ : S_api_Fate)])) else none) else some (s4.1)) : Option (List S_api_Fate)).bind fun x23 => some (Sum.inr (x23, (IntKind.i64.wrap (s4.2 + 1)))))) else none) else some (Sum.inl (s4.1)))
def pmem_Device_Fates.f (fu : Nat) (a0 : S_pmem_Device) : Option (List S_api_Fate) := ((loopM (pmem_Device_Fates.s0 fu a0) fu ([], 0)).bind fun e5 => some (e5))
theorem pmem_Device_Fates.ok (fu : Nat) (w : World) (a0 : S_pmem_Device) (G_0 : Nat) (V0_0 : Value) (R0_0 : Rd k_pmem_cell w V0_0 a0.cells) (V0_1 : Value) (R0_1 : Rd (kI .i64) w V0_1 a0.plan.list) (b_0 : Blk w G_0 139 [Seg.cell V0_0 R0_0.one, Seg.cell V0_1 R0_1.one, (sI a0.plan.at_), Seg.cell (.bool a0.off), Seg.cell (.bool a0.armed), (sI a0.left), (sI a0.steps)]) (r : (List S_api_Fate)) (h : pmem_Device_Fates.f fu a0 = some r) :
  Calls Try.prog 40 (([(pt G_0 0)] : List Value).toArray) w (fun e w' => ∃ v, e = .returned v ∧ ∃ u1 : Value, ∃ o2 : Own k_api_Fate 55 w' w.heap.size u1 r, v = u1 ∧ Gr w w') := by
 unfold pmem_Device_Fates.f at h
 have fB : Gr w w := Fr.refl _ _
 refine calls_cw Try.func40 rfl Try.ntmps40 rfl ?_
 refine cw_seq ?_
 refine cw_region ?_
 refine ol_val (v := .slice none 0 0) (xr_assign rfl rfl) rfl rfl rfl ?_
 refine ol_nil ?_
 refine cw_seq ?_
 refine cw_region ?_
 refine ol_val (v := .slice none 0 0) (xr_assign rfl rfl) rfl rfl rfl ?_
 refine ol_nil ?_
 refine cw_seq ?_
 refine cw_seq ?_
 refine cw_region ?_
 refine ol_val (v := (pt G_0 0)) (xr_move rfl rfl) rfl rfl rfl ?_
 refine ol_val (v := (pt G_0 0)) (xr_nilCheck rfl rfl) rfl rfl rfl ?_
 refine ol_val (v := (pt G_0 0)) (xr_fieldAddr (p := 0) (q := 0) rfl fl139_0 rfl) rfl rfl rfl ?_
 refine ol_val (v := V0_0) (xr_load1 (v := V0_0) rfl ag135 rfl (b_0.seg 0 rfl rfl)) rfl rfl rfl ?_
 refine ol_val (v := .int .i64 (List.length a0.cells : Int)) (xr_lenR rfl Try.underlying135 rfl (R0_0.gr fB)) rfl rfl rfl ?_
 refine ol_val (v := .int .i64 0) (xr_move rfl rfl) rfl rfl rfl ?_
 refine ol_nil ?_
 obtain ⟨e5, l6, h7⟩ := bs h
 refine cw_mid (fun ρ' w' => ∃ v8 : Value, ∃ o9 : Own k_api_Fate 55 w' w.heap.size v8 e5, ρ' 3 = v8 ∧ Blk w' G_0 139 [Seg.cell V0_0 R0_0.one, Seg.cell V0_1 R0_1.one, (sI a0.plan.at_), Seg.cell (.bool a0.off), Seg.cell (.bool a0.armed), (sI a0.left), (sI a0.steps)] ∧ Gr w w') ?_ ?_
 ·refine cw_block ?_
  refine cw_round (fun (s4 : (List S_api_Fate) × Int) ρ' w' => ∃ v11 : Value, ∃ o12 : Own k_api_Fate 55 w' w.heap.size v11 s4.1, ρ' 0 = (pt G_0 0) ∧ ρ' 3 = v11 ∧ ρ' 10 = .int .i64 (List.length a0.cells : Int) ∧ ρ' 11 = .int .i64 s4.2 ∧ Blk w' G_0 139 [Seg.cell V0_0 R0_0.one, Seg.cell V0_1 R0_1.one, (sI a0.plan.at_), Seg.cell (.bool a0.off), Seg.cell (.bool a0.armed), (sI a0.left), (sI a0.steps)] ∧ Gr w w') l6 ?_ ?_
  ·skip
   exact ⟨(.slice none 0 0), Own.nil _ _ _ _, rfl, rfl, rfl, rfl, b_0, fB⟩
  rintro s4 x16 ρ14 w15 ⟨v11, o12, e0, e3, e10, e11, b_0, fB⟩ h
  unfold pmem_Device_Fates.s0 at h
  refine cw_seq ?_
  refine cw_region ?_
  refine ol_val (v := .bool (decide (s4.2 < (List.length a0.cells : Int)))) (xr_lss rfl e11 e10) rfl rfl rfl ?_
  refine ol_nil ?_
  refine cw_seq ?_
  rcases is h with ⟨c17, h⟩ | ⟨c17, h⟩
  ·refine cw_condT rfl c17 ?_
   refine cw_skip ?_
   refine cw_seq ?_
   refine cw_block ?_
   refine cw_seq ?_
   refine cw_region ?_
   refine ol_val (v := .int .i64 s4.2) (xr_move rfl e11) rfl rfl rfl ?_
   refine ol_val (v := .int .i64 s4.2) (xr_assign rfl rfl) rfl rfl rfl ?_
   refine ol_nil ?_
   refine cw_seq ?_
   refine cw_region ?_
   refine ol_val (v := (pt G_0 0)) (xr_move rfl e0) rfl rfl rfl ?_
   refine ol_val (v := (pt G_0 0)) (xr_nilCheck rfl rfl) rfl rfl rfl ?_
   refine ol_val (v := (pt G_0 0)) (xr_fieldAddr (p := 0) (q := 0) rfl fl139_0 rfl) rfl rfl rfl ?_
   refine ol_val (v := V0_0) (xr_load1 (v := V0_0) rfl ag135 rfl (b_0.seg 0 rfl rfl)) rfl rfl rfl ?_
   refine ol_val (v := .int .i64 s4.2) (xr_move rfl rfl) rfl rfl rfl ?_
   obtain ⟨g18, h⟩ := gs h
   refine ol_val (v := (pt ((sb V0_0)) (so V0_0 + Int.toNat s4.2 * 4))) (xr_indexR (K := k_pmem_cell) (v := V0_0) rfl Try.underlying135 sz142 rfl (R0_0.gr fB) rfl g18.1 g18.2) rfl rfl rfl ?_
   refine ol_val (v := (pt ((sb V0_0)) (so V0_0 + Int.toNat s4.2 * 4))) (xr_assign rfl rfl) rfl rfl rfl ?_
   refine ol_nil ?_
   refine cw_seq ?_
   refine cw_region ?_
   refine ol_val (v := (pt ((sb V0_0)) (so V0_0 + Int.toNat s4.2 * 4))) (xr_move rfl rfl) rfl rfl rfl ?_
   obtain ⟨t19, k20, h⟩ := bs h
   refine ol_op (opv_call rfl cal86 (ac rfl an) (pmem_cell_open__r0.ok fu _ (ix a0.cells s4.2) (sb V0_0) (so V0_0 + Int.toNat s4.2 * 4) (show At _ _ _ (cellsOf [Seg.cell (.int .u64 ((ix a0.cells s4.2).lasts)), Seg.cell (.int .u64 ((ix a0.cells s4.2).stored)), Seg.cell (.int .u64 ((ix a0.cells s4.2).sent)), Seg.cell (.bool ((ix a0.cells s4.2).flushed))]) from ((R0_0.gr fB).elem g18.1 g18.2)) _ k20)) rfl rfl rfl ?_
   rintro _ w22 ⟨rfl, q21⟩
   have b_0 := b_0.gr q21
   have o12 := o12.gr q21
   have fB := fB.gr q21
   refine ol_nil ?_
   obtain ⟨x23, j24, h25⟩ := bs h
   refine cw_mid (fun ρ' w' => ∃ v26 : Value, ∃ o27 : Own k_api_Fate 55 w' w.heap.size v26 x23, ρ' 0 = (pt G_0 0) ∧ ρ' 3 = v26 ∧ ρ' 10 = .int .i64 (List.length a0.cells : Int) ∧ ρ' 11 = .int .i64 s4.2 ∧ Blk w' G_0 139 [Seg.cell V0_0 R0_0.one, Seg.cell V0_1 R0_1.one, (sI a0.plan.at_), Seg.cell (.bool a0.off), Seg.cell (.bool a0.armed), (sI a0.left), (sI a0.steps)] ∧ Gr w w') ?_ ?_
   ·have h := j24
    rcases is h with ⟨c29, h⟩ | ⟨c29, h⟩
    ·refine cw_condT rfl c29 ?_
     refine cw_drawL 20 [fun vz wz => vz = (v11 : Value), fun vz wz => vz = (.int .i64 s4.2 : Value), fun vz wz => vz = ((pt ((sb V0_0)) (so V0_0 + Int.toNat s4.2 * 4)) : Value), fun vz wz => vz = ((pt ((sb V0_0)) (so V0_0 + Int.toNat s4.2 * 4)) : Value), fun vz wz => vz = ((pt ((sb V0_0)) (so V0_0 + Int.toNat s4.2 * 4 + 0)) : Value), fun vz wz => vz = (.int .u64 ((ix a0.cells s4.2).lasts) : Value), fun vz wz => vz = ((pt ((sb V0_0)) (so V0_0 + Int.toNat s4.2 * 4)) : Value), fun vz wz => vz = ((pt ((sb V0_0)) (so V0_0 + Int.toNat s4.2 * 4)) : Value), fun vz wz => vz = ((pt ((sb V0_0)) (so V0_0 + Int.toNat s4.2 * 4 + 3)) : Value), fun vz wz => vz = (.bool ((ix a0.cells s4.2).flushed) : Value), fun vz wz => vz = ((pt ((sb V0_0)) (so V0_0 + Int.toNat s4.2 * 4)) : Value), fun vz wz => vz = ((pt ((sb V0_0)) (so V0_0 + Int.toNat s4.2 * 4)) : Value), fun vz wz => vz = ((pt ((sb V0_0)) (so V0_0 + Int.toNat s4.2 * 4 + 2)) : Value), fun vz wz => vz = (.int .u64 ((ix a0.cells s4.2).sent) : Value), fun vz wz => vz = ((pt ((sb V0_0)) (so V0_0 + Int.toNat s4.2 * 4)) : Value), fun vz wz => vz = ((pt ((sb V0_0)) (so V0_0 + Int.toNat s4.2 * 4)) : Value), fun vz wz => vz = ((pt ((sb V0_0)) (so V0_0 + Int.toNat s4.2 * 4 + 1)) : Value), fun vz wz => vz = (.int .u64 ((ix a0.cells s4.2).stored) : Value), fun vz wz => vz = (aggV [(sI s4.2), Seg.cell (.int .u64 ((ix a0.cells s4.2).lasts)), Seg.cell (.bool ((ix a0.cells s4.2).flushed)), Seg.cell (.int .u64 ((ix a0.cells s4.2).sent)), Seg.cell (.int .u64 ((ix a0.cells s4.2).stored))] : Value), fun vz wz => ∃ v30 : Value, ∃ o32 : Own k_api_Fate 55 wz w.heap.size v30 [(⟨s4.2, (ix a0.cells s4.2).lasts, (ix a0.cells s4.2).flushed, (ix a0.cells s4.2).sent, (ix a0.cells s4.2).stored⟩ : S_api_Fate)], vz = (v30 : Value)] mo rfl ⟨fun _ _ _ h _ => h, fun _ _ _ h _ => h, fun _ _ _ h _ => h, fun _ _ _ h _ => h, fun _ _ _ h _ => h, fun _ _ _ h _ => h, fun _ _ _ h _ => h, fun _ _ _ h _ => h, fun _ _ _ h _ => h, fun _ _ _ h _ => h, fun _ _ _ h _ => h, fun _ _ _ h _ => h, fun _ _ _ h _ => h, fun _ _ _ h _ => h, fun _ _ _ h _ => h, fun _ _ _ h _ => h, fun _ _ _ h _ => h, fun _ _ _ h _ => h, fun _ _ _ h _ => h, fun _ _ _ ⟨v30, o32, h⟩ q => ⟨v30, o32.gr q, h⟩, trivial⟩ ?_ ?_
     ·refine ⟨?_, ?_, ?_, ?_, ?_, ?_, ?_, ?_, ?_, ?_, ?_, ?_, ?_, ?_, ?_, ?_, ?_, ?_, ?_, ?_, trivial⟩
      ·intro ρz wz hz hk hd
       exact sk_val (v := v11) (xr_move rfl ((hk 3 rfl).trans e3)) rfl rfl
      ·intro ρz wz hz hk hd
       exact sk_val (v := .int .i64 s4.2) (xr_move rfl ((hk 4 rfl).trans rfl)) rfl rfl
      ·intro ρz wz hz hk hd
       exact sk_val (xr_move rfl ((hk 5 rfl).trans rfl)) rfl rfl
      ·intro ρz wz hz hk hd
       exact sk_val (xr_nilCheck rfl (hd 2 rfl 24 rfl)) rfl rfl
      ·intro ρz wz hz hk hd
       exact sk_val (xr_fieldAddr (p := so V0_0 + Int.toNat s4.2 * 4) (q := 0) rfl fl142_0 (hd 3 rfl 25 rfl)) rfl rfl
      ·intro ρz wz hz hk hd
       exact sk_val (v := .int .u64 ((ix a0.cells s4.2).lasts)) (xr_load1 (v := .int .u64 ((ix a0.cells s4.2).lasts)) rfl ag22 (hd 4 rfl 26 rfl) (At.segs (ss := segs_pmem_cell (ix a0.cells s4.2)) ((R0_0.gr (fB.gr hz)).elem g18.1 g18.2) 0 1 rfl)) rfl rfl
      ·intro ρz wz hz hk hd
       exact sk_val (xr_move rfl ((hk 5 rfl).trans rfl)) rfl rfl
      ·intro ρz wz hz hk hd
       exact sk_val (xr_nilCheck rfl (hd 6 rfl 28 rfl)) rfl rfl
      ·intro ρz wz hz hk hd
       exact sk_val (xr_fieldAddr (p := so V0_0 + Int.toNat s4.2 * 4) (q := 3) rfl fl142_3 (hd 7 rfl 29 rfl)) rfl rfl
      ·intro ρz wz hz hk hd
       exact sk_val (v := .bool ((ix a0.cells s4.2).flushed)) (xr_load1 (v := .bool ((ix a0.cells s4.2).flushed)) rfl ag4 (hd 8 rfl 30 rfl) (At.segs (ss := segs_pmem_cell (ix a0.cells s4.2)) ((R0_0.gr (fB.gr hz)).elem g18.1 g18.2) 3 1 rfl)) rfl rfl
      ·intro ρz wz hz hk hd
       exact sk_val (xr_move rfl ((hk 5 rfl).trans rfl)) rfl rfl
      ·intro ρz wz hz hk hd
       exact sk_val (xr_nilCheck rfl (hd 10 rfl 32 rfl)) rfl rfl
      ·intro ρz wz hz hk hd
       exact sk_val (xr_fieldAddr (p := so V0_0 + Int.toNat s4.2 * 4) (q := 2) rfl fl142_2 (hd 11 rfl 33 rfl)) rfl rfl
      ·intro ρz wz hz hk hd
       exact sk_val (v := .int .u64 ((ix a0.cells s4.2).sent)) (xr_load1 (v := .int .u64 ((ix a0.cells s4.2).sent)) rfl ag22 (hd 12 rfl 34 rfl) (At.segs (ss := segs_pmem_cell (ix a0.cells s4.2)) ((R0_0.gr (fB.gr hz)).elem g18.1 g18.2) 2 1 rfl)) rfl rfl
      ·intro ρz wz hz hk hd
       exact sk_val (xr_move rfl ((hk 5 rfl).trans rfl)) rfl rfl
      ·intro ρz wz hz hk hd
       exact sk_val (xr_nilCheck rfl (hd 14 rfl 36 rfl)) rfl rfl
      ·intro ρz wz hz hk hd
       exact sk_val (xr_fieldAddr (p := so V0_0 + Int.toNat s4.2 * 4) (q := 1) rfl fl142_1 (hd 15 rfl 37 rfl)) rfl rfl
      ·intro ρz wz hz hk hd
       exact sk_val (v := .int .u64 ((ix a0.cells s4.2).stored)) (xr_load1 (v := .int .u64 ((ix a0.cells s4.2).stored)) rfl ag22 (hd 16 rfl 38 rfl) (At.segs (ss := segs_pmem_cell (ix a0.cells s4.2)) ((R0_0.gr (fB.gr hz)).elem g18.1 g18.2) 1 1 rfl)) rfl rfl
      ·intro ρz wz hz hk hd
       exact sk_val (xr_build (vals := [(0, .int .i64 s4.2), (1, .int .u64 ((ix a0.cells s4.2).lasts)), (2, .bool ((ix a0.cells s4.2).flushed)), (3, .int .u64 ((ix a0.cells s4.2).sent)), (4, .int .u64 ((ix a0.cells s4.2).stored))]) rfl ⟨rfl, (hd 1 rfl 23 rfl), ⟨rfl, (hd 5 rfl 27 rfl), ⟨rfl, (hd 9 rfl 31 rfl), ⟨rfl, (hd 13 rfl 35 rfl), ⟨rfl, (hd 17 rfl 39 rfl), trivial⟩⟩⟩⟩⟩ (bl55_0_1_2_3_4 s4.2 ((ix a0.cells s4.2).lasts) ((ix a0.cells s4.2).flushed) ((ix a0.cells s4.2).sent) ((ix a0.cells s4.2).stored) _)) rfl rfl
      intro ρz wz hz hk hd
      refine sk_op (opv_buildRec (K := k_api_Fate) (z := (⟨s4.2, (ix a0.cells s4.2).lasts, (ix a0.cells s4.2).flushed, (ix a0.cells s4.2).sent, (ix a0.cells s4.2).stored⟩ : S_api_Fate)) rfl Try.underlying52 el55 rfl rfl (hd 18 rfl 40 rfl) rfl (Nat.le_trans fB.size hz.size)) rfl ?_
      rintro v30 wy ⟨o32, q31, z33⟩
      exact ⟨⟨v30, o32, rfl⟩, q31⟩
     intro ρ35 w36 q37 hk hd
     have e0 := (hk 0 rfl).trans e0
     have e10 := (hk 10 rfl).trans e10
     have e11 := (hk 11 rfl).trans e11
     have e22 := hd 0 rfl 22 rfl
     obtain ⟨v38, o39, e41⟩ := hd 19 rfl 41 rfl
     have b_0 := b_0.gr q37
     have o12 := o12.gr q37
     have fB := fB.gr q37
     obtain ⟨g45, h⟩ := gs h
     have f47 := off_ty b_0 o12 (by decide)
     have f48 := o12.geO
     refine ol_op (opv_append (K := k_api_Fate) rfl Try.underlying52 el55 rfl rfl rfl e22 e41 o12 o39.rd g45 fB.size) rfl rfl rfl ?_
     rintro v41 w49 ⟨o42, q43, n44⟩
     have b_0 := b_0.wrO q43 f47
     have fB := fB.wrO q43 f48
     refine ol_val (v := v41) (xr_assign rfl rfl) rfl rfl rfl ?_
     refine ol_nil ?_
     obtain rfl := Option.some.inj h
     refine thn_i ?_
     exact ⟨v41, o42, e0, rfl, e10, e11, b_0, fB⟩
    refine cw_condF rfl c29 ?_
    refine cw_skip ?_
    obtain rfl := Option.some.inj h
    refine thn_i ?_
    exact ⟨v11, o12, e0, e3, e10, e11, b_0, fB⟩
   rintro ρ50 w51 ⟨v26, o27, e0, e3, e10, e11, b_0, fB⟩
   have h := h25
   refine blk_i ?_
   refine cw_region ?_
   refine ol_val (v := .int .i64 (IntKind.i64.wrap (s4.2 + 1))) (xr_add rfl e11 rfl) rfl rfl rfl ?_
   refine ol_val (v := .int .i64 (IntKind.i64.wrap (s4.2 + 1))) (xr_move rfl rfl) rfl rfl rfl ?_
   refine ol_nil ?_
   obtain rfl := Option.some.inj h
   refine lp_in ?_
   exact ⟨v26, o27, e0, e3, e10, rfl, b_0, fB⟩
  refine cw_condF rfl c17 ?_
  refine cw_exit ?_
  repeat (first | with_reducible refine thn_e ?_ | with_reducible refine blk_e rfl ?_)
  obtain rfl := Option.some.inj h
  refine lp_exit ?_
  rintro rfl
  refine thn_x ?_
  exact ⟨v11, o12, e3, b_0, fB⟩
 rintro ρ52 w53 ⟨v8, o9, e3, b_0, fB⟩
 have h := h7
 refine cw_seq ?_
 refine cw_region ?_
 refine ol_val (v := v8) (xr_move rfl e3) rfl rfl rfl ?_
 refine ol_val (v := v8) (xr_assign rfl rfl) rfl rfl rfl ?_
 refine ol_nil ?_
 refine cw_ret ?_
 repeat (first | with_reducible refine thn_r ?_ | with_reducible refine blk_r ?_)
 obtain rfl := Option.some.inj h
 refine fin_ret1 Try.results40 rfl ?_
 exact ⟨_, rfl, v8, o9, rfl, fB⟩
def pmem_New.f (fu : Nat) (a0 : Int) : Option ((Option S_pmem_Device) × Int) := (if (if (decide (a0 < 0)) = true then true else (decide (a0 > 4096))) = true then some (none, 2) else (if 0 ≤ (IntKind.i64.wrap (a0 * 8)) ∧ Int.toNat (IntKind.i64.wrap (a0 * 8)) ≤ LIM then some ((some (⟨(List.replicate (Int.toNat (IntKind.i64.wrap (a0 * 8))) (⟨(0 : Int), (0 : Int), (0 : Int), false⟩ : S_pmem_cell)), (⟨[], (0 : Int)⟩ : S_pmem_plan), false, false, (0 : Int), (0 : Int)⟩ : S_pmem_Device)), 0) else none))
theorem pmem_New.ok (fu : Nat) (w : World) (a0 : Int) (r : (Option S_pmem_Device) × Int) (h : pmem_New.f fu a0 = some r) :
  Calls Try.prog 26 (([.int .i64 a0] : List Value).toArray) w (fun e w' => ∃ v, e = .returned v ∧ ∃ u1 : Value, ∃ p2 : (r.1 = none → u1 = .pointer none) ∧ ∀ m9, r.1 = some m9 → ∃ G9 : Nat, ∃ U0 : Value, ∃ U1 : Value, ∃ O0 : Own k_pmem_cell 142 w' w.heap.size U0 m9.cells, ∃ O1 : Own (kI .i64) 3 w' w.heap.size U1 m9.plan.list, u1 = (pt G9 0) ∧ w.heap.size ≤ G9 ∧ Blk w' G9 139 [Seg.cell U0 O0.one, Seg.cell U1 O1.one, (sI m9.plan.at_), Seg.cell (.bool m9.off), Seg.cell (.bool m9.armed), (sI m9.left), (sI m9.steps)], v = .tuple #[u1, .int .i64 r.2] ∧ Gr w w') := by
 unfold pmem_New.f at h
 have fB : Gr w w := Fr.refl _ _
 refine calls_cw Try.func26 rfl Try.ntmps26 rfl ?_
 refine cw_seq ?_
 refine cw_region ?_
 refine ol_val (v := .pointer none) (xr_assign rfl rfl) rfl rfl rfl ?_
 refine ol_val (v := .int .i64 0) (xr_assign rfl rfl) rfl rfl rfl ?_
 refine ol_nil ?_
 refine cw_seq ?_
 refine cw_seq ?_
 refine cw_mid (fun ρ' w' => ρ' 0 = .int .i64 a0 ∧ ρ' 9 = .bool (if (decide (a0 < 0)) = true then true else (decide (a0 > 4096))) ∧ w = w') ?_ ?_
 ·skip
  refine cw_region ?_
  refine ol_val (v := .int .i64 a0) (xr_move rfl rfl) rfl rfl rfl ?_
  refine ol_val (v := .bool (decide (a0 < 0))) (xr_lss rfl rfl rfl) rfl rfl rfl ?_
  refine ol_val (v := .bool (decide (a0 < 0))) (xr_move rfl rfl) rfl rfl rfl ?_
  rcases bt (decide (a0 < 0)) with c3 | c3
  ·skip
   refine ol_gskip rfl rfl rfl rfl rfl c3 ?_
   refine ol_gskip rfl rfl rfl rfl rfl c3 ?_
   refine ol_val (v := .bool true) (xr_pickT rfl rfl c3 rfl) rfl rfl rfl ?_
   refine ol_nil ?_
   refine thn_i ?_
   exact ⟨rfl, (rfl).trans (congrArg (fun z => (.bool z : Value)) (show true = (if (decide (a0 < 0)) = true then true else (decide (a0 > 4096))) from by rw [ite_t c3])), rfl⟩
  refine ol_gval (v := .int .i64 a0) (xr_move rfl rfl) rfl rfl rfl rfl rfl c3 ?_
  refine ol_gval (v := .bool (decide (a0 > 4096))) (xr_gtr rfl rfl rfl) rfl rfl rfl rfl rfl c3 ?_
  refine ol_val (v := .bool (decide (a0 > 4096))) (xr_pickF rfl rfl c3 rfl) rfl rfl rfl ?_
  refine ol_nil ?_
  refine thn_i ?_
  exact ⟨rfl, (rfl).trans (congrArg (fun z => (.bool z : Value)) (show (decide (a0 > 4096)) = (if (decide (a0 < 0)) = true then true else (decide (a0 > 4096))) from by rw [ite_f c3])), rfl⟩
 rintro ρ4 _ ⟨e0, e9, rfl⟩
 rcases is h with ⟨c5, h⟩ | ⟨c5, h⟩
 ·refine cw_condT e9 c5 ?_
  refine cw_seq ?_
  refine cw_region ?_
  refine ol_val (v := .pointer none) (xr_assign rfl rfl) rfl rfl rfl ?_
  refine ol_val (v := .int .i64 2) (xr_assign rfl rfl) rfl rfl rfl ?_
  refine ol_nil ?_
  refine cw_ret ?_
  repeat (first | with_reducible refine thn_r ?_ | with_reducible refine blk_r ?_)
  obtain rfl := Option.some.inj h
  refine fin_ret2 Try.results26 rfl rfl ?_
  exact ⟨_, rfl, (.pointer none), ⟨(fun _ => rfl), (fun _ e => by cases e)⟩, rfl, fB⟩
 refine cw_condF e9 c5 ?_
 refine cw_skip ?_
 refine cw_seq ?_
 refine cw_region ?_
 refine ol_val (v := .int .i64 a0) (xr_move rfl e0) rfl rfl rfl ?_
 refine ol_val (v := .int .i64 (IntKind.i64.wrap (a0 * 8))) (xr_mul rfl rfl rfl) rfl rfl rfl ?_
 obtain ⟨g6, h⟩ := gs h
 refine ol_op (opv_make (K := k_pmem_cell) (z := (⟨(0 : Int), (0 : Int), (0 : Int), false⟩ : S_pmem_cell)) rfl Try.underlying135 el142 rfl rfl rfl g6.1 g6.2 rfl fB.size) rfl rfl rfl ?_
 rintro v7 w12 ⟨o9, q8, z10⟩
 have fB := fB.gr q8
 refine ol_val (v := aggV [Seg.cell v7 o9.one, Seg.cell (.slice none 0 0) (by rfl), (sI (0 : Int)), Seg.cell (.bool false), Seg.cell (.bool false), (sI (0 : Int)), (sI (0 : Int))]) (xr_buildS (vals := [(0, v7)]) (res := [Seg.cell v7 o9.one, Seg.cell (.slice none 0 0) (by rfl), (sI (0 : Int)), Seg.cell (.bool false), Seg.cell (.bool false), (sI (0 : Int)), (sI (0 : Int))]) rfl ⟨rfl, rfl, trivial⟩ Try.underlying139 ze139 pl139 (fl_cons (xs := cellsOf [Seg.cell v7 o9.one]) (cs' := cellsOf [Seg.cell v7 o9.one, Seg.cell (.slice none 0 0) (by rfl), (sI (0 : Int)), Seg.cell (.bool false), Seg.cell (.bool false), (sI (0 : Int)), (sI (0 : Int))]) rfl (cells_one o9.one) (len_cellsOf _) (Spl.segs [Seg.cell (.slice none 0 0) (by rfl), Seg.cell (.slice none 0 0) (by rfl), (sI (0 : Int)), Seg.cell (.bool false), Seg.cell (.bool false), (sI (0 : Int)), (sI (0 : Int))] 0 1 [Seg.cell v7 o9.one] rfl rfl) fl_nil)) rfl rfl rfl ?_
 refine ol_op (opv_box (ss := [Seg.cell v7 o9.one, Seg.cell (.slice none 0 0) (by rfl), (sI (0 : Int)), Seg.cell (.bool false), Seg.cell (.bool false), (sI (0 : Int)), (sI (0 : Int))]) rfl rfl rfl) rfl rfl rfl ?_
 rintro _ w18 ⟨G13, rfl, b14, q15, z16⟩
 have z16 := Nat.le_trans fB.size z16
 have o9 := o9.gr q15
 have fB := fB.gr q15
 refine ol_val (v := (pt G13 0)) (xr_assign rfl rfl) rfl rfl rfl ?_
 refine ol_val (v := .int .i64 0) (xr_assign rfl rfl) rfl rfl rfl ?_
 refine ol_nil ?_
 refine cw_ret ?_
 repeat (first | with_reducible refine thn_r ?_ | with_reducible refine blk_r ?_)
 obtain rfl := Option.some.inj h
 refine fin_ret2 Try.results26 rfl rfl ?_
 exact ⟨_, rfl, ((pt G13 0)), ⟨(fun e => by cases e), (fun _ e => by obtain rfl := Option.some.inj e; exact ⟨G13, v7, (.slice none 0 0), o9, Own.nil _ _ _ _, rfl, z16, b14⟩)⟩, rfl, fB⟩
def pmem_Device_may.f (fu : Nat) (a0 : S_pmem_Device) (a1 : Int) (a2 : Int) : Option Int := (if a0.off = true then some (3) else (if (if (decide (a1 < 0)) = true then true else (decide (a1 ≥ a2))) = true then some (2) else some (0)))
theorem pmem_Device_may.ok (fu : Nat) (w : World) (a0 : S_pmem_Device) (G_0 : Nat) (V0_0 : Value) (R0_0 : Rd k_pmem_cell w V0_0 a0.cells) (V0_1 : Value) (R0_1 : Rd (kI .i64) w V0_1 a0.plan.list) (b_0 : Blk w G_0 139 [Seg.cell V0_0 R0_0.one, Seg.cell V0_1 R0_1.one, (sI a0.plan.at_), Seg.cell (.bool a0.off), Seg.cell (.bool a0.armed), (sI a0.left), (sI a0.steps)]) (a1 : Int) (a2 : Int) (r : Int) (h : pmem_Device_may.f fu a0 a1 a2 = some r) :
  Calls Try.prog 83 (([(pt G_0 0), .int .i64 a1, .int .i64 a2] : List Value).toArray) w (fun e w' => ∃ v, e = .returned v ∧ v = .int .i64 r ∧ Gr w w') := by
 unfold pmem_Device_may.f at h
 have fB : Gr w w := Fr.refl _ _
 refine calls_cw Try.func83 rfl Try.ntmps83 rfl ?_
 refine cw_seq ?_
 refine cw_region ?_
 refine ol_val (v := .int .i64 0) (xr_assign rfl rfl) rfl rfl rfl ?_
 refine ol_nil ?_
 refine cw_seq ?_
 refine cw_block ?_
 refine cw_seq ?_
 refine cw_region ?_
 refine ol_val (v := (pt G_0 0)) (xr_move rfl rfl) rfl rfl rfl ?_
 refine ol_val (v := (pt G_0 0)) (xr_nilCheck rfl rfl) rfl rfl rfl ?_
 refine ol_val (v := (pt G_0 3)) (xr_fieldAddr (p := 0) (q := 3) rfl fl139_2 rfl) rfl rfl rfl ?_
 refine ol_val (v := .bool a0.off) (xr_load1 (v := .bool a0.off) rfl ag4 rfl (b_0.seg 3 rfl rfl)) rfl rfl rfl ?_
 refine ol_val (v := .bool a0.off) (xr_assign rfl rfl) rfl rfl rfl ?_
 refine ol_nil ?_
 rcases is h with ⟨c1, h⟩ | ⟨c1, h⟩
 ·refine cw_condT rfl c1 ?_
  refine cw_seq ?_
  refine cw_region ?_
  refine ol_val (v := .int .i64 3) (xr_assign rfl rfl) rfl rfl rfl ?_
  refine ol_nil ?_
  refine cw_ret ?_
  repeat (first | with_reducible refine thn_r ?_ | with_reducible refine blk_r ?_)
  obtain rfl := Option.some.inj h
  refine fin_ret1 Try.results83 rfl ?_
  exact ⟨_, rfl, rfl, fB⟩
 refine cw_condF rfl c1 ?_
 refine cw_seq ?_
 refine cw_mid (fun ρ' w' => ρ' 12 = .bool (if (decide (a1 < 0)) = true then true else (decide (a1 ≥ a2))) ∧ w = w') ?_ ?_
 ·skip
  refine cw_region ?_
  refine ol_val (v := .int .i64 a1) (xr_move rfl rfl) rfl rfl rfl ?_
  refine ol_val (v := .bool (decide (a1 < 0))) (xr_lss rfl rfl rfl) rfl rfl rfl ?_
  refine ol_val (v := .bool (decide (a1 < 0))) (xr_move rfl rfl) rfl rfl rfl ?_
  rcases bt (decide (a1 < 0)) with c2 | c2
  ·skip
   refine ol_gskip rfl rfl rfl rfl rfl c2 ?_
   refine ol_gskip rfl rfl rfl rfl rfl c2 ?_
   refine ol_gskip rfl rfl rfl rfl rfl c2 ?_
   refine ol_val (v := .bool true) (xr_pickT rfl rfl c2 rfl) rfl rfl rfl ?_
   refine ol_val (v := .bool true) (xr_assign rfl rfl) rfl rfl rfl ?_
   refine ol_nil ?_
   refine thn_i ?_
   exact ⟨(rfl).trans (congrArg (fun z => (.bool z : Value)) (show true = (if (decide (a1 < 0)) = true then true else (decide (a1 ≥ a2))) from by rw [ite_t c2])), rfl⟩
  refine ol_gval (v := .int .i64 a1) (xr_move rfl rfl) rfl rfl rfl rfl rfl c2 ?_
  refine ol_gval (v := .int .i64 a2) (xr_move rfl rfl) rfl rfl rfl rfl rfl c2 ?_
  refine ol_gval (v := .bool (decide (a1 ≥ a2))) (xr_geq rfl rfl rfl) rfl rfl rfl rfl rfl c2 ?_
  refine ol_val (v := .bool (decide (a1 ≥ a2))) (xr_pickF rfl rfl c2 rfl) rfl rfl rfl ?_
  refine ol_val (v := .bool (decide (a1 ≥ a2))) (xr_assign rfl rfl) rfl rfl rfl ?_
  refine ol_nil ?_
  refine thn_i ?_
  exact ⟨(rfl).trans (congrArg (fun z => (.bool z : Value)) (show (decide (a1 ≥ a2)) = (if (decide (a1 < 0)) = true then true else (decide (a1 ≥ a2))) from by rw [ite_f c2])), rfl⟩
 rintro ρ3 _ ⟨e12, rfl⟩
 rcases is h with ⟨c4, h⟩ | ⟨c4, h⟩
 ·refine cw_condT e12 c4 ?_
  refine cw_seq ?_
  refine cw_region ?_
  refine ol_val (v := .int .i64 2) (xr_assign rfl rfl) rfl rfl rfl ?_
  refine ol_nil ?_
  refine cw_ret ?_
  repeat (first | with_reducible refine thn_r ?_ | with_reducible refine blk_r ?_)
  obtain rfl := Option.some.inj h
  refine fin_ret1 Try.results83 rfl ?_
  exact ⟨_, rfl, rfl, fB⟩
 refine cw_condF e12 c4 ?_
 refine cw_skip ?_
 refine blk_i ?_
 refine cw_seq ?_
 refine cw_region ?_
 refine ol_val (v := .int .i64 0) (xr_assign rfl rfl) rfl rfl rfl ?_
 refine ol_nil ?_
 refine cw_ret ?_
 repeat (first | with_reducible refine thn_r ?_ | with_reducible refine blk_r ?_)
 obtain rfl := Option.some.inj h
 refine fin_ret1 Try.results83 rfl ?_
 exact ⟨_, rfl, rfl, fB⟩
def pmem_plan_next__i0.f (fu : Nat) (a0 : S_pmem_plan) : Option (Int × S_pmem_plan) := (if (decide ((List.length a0.list : Int) = 0)) = true then some ((-1), a0) else (if 0 ≤ a0.at_ ∧ a0.at_ < (List.length a0.list : Int) then (if (List.length a0.list : Int) ≠ 0 then some ((ix a0.list a0.at_), (⟨a0.list, (Int.tmod (IntKind.i64.wrap (a0.at_ + 1)) (List.length a0.list : Int))⟩ : S_pmem_plan)) else none) else none))
theorem pmem_plan_next__i0.ok (fu : Nat) (w : World) (a0 : S_pmem_plan) (G_0 : Nat) (T_0 : TypeId) (X_0 Y_0 : List Value) (V0_0 : Value) (R0_0 : Rd (kI .i64) w V0_0 a0.list) (N0_0 : OffR V0_0 a0.list G_0) (b_0 : SubB w G_0 T_0 X_0 [Seg.cell V0_0 R0_0.one, (sI a0.at_)] Y_0) (r : Int × S_pmem_plan) (h : pmem_plan_next__i0.f fu a0 = some r) :
  Calls Try.prog 123 (([(pt G_0 (List.length X_0))] : List Value).toArray) w (fun e w' => ∃ v, e = .returned v ∧ v = .int .i64 r.1 ∧ SubB w' G_0 T_0 X_0 [Seg.cell V0_0 R0_0.one, (sI r.2.at_)] Y_0 ∧ Fr (fun j => j = G_0) w w') := by
 unfold pmem_plan_next__i0.f at h
 have fB : Fr (fun j => j = G_0) w w := Fr.refl _ _
 refine calls_cw Try.func123 rfl Try.ntmps123 rfl ?_
 refine cw_seq ?_
 refine cw_region ?_
 refine ol_val (v := .int .i64 0) (xr_assign rfl rfl) rfl rfl rfl ?_
 refine ol_nil ?_
 refine cw_seq ?_
 refine cw_seq ?_
 refine cw_region ?_
 refine ol_val (v := (pt G_0 (List.length X_0))) (xr_move rfl rfl) rfl rfl rfl ?_
 refine ol_val (v := (pt G_0 (List.length X_0))) (xr_nilCheck rfl rfl) rfl rfl rfl ?_
 refine ol_val (v := (pt G_0 (List.length X_0 + 0))) (xr_fieldAddr (p := List.length X_0) (q := 0) rfl fl137_0 rfl) rfl rfl rfl ?_
 refine ol_val (v := V0_0) (xr_load1 (v := V0_0) rfl ag25 rfl (b_0.seg 0 rfl rfl)) rfl rfl rfl ?_
 refine ol_val (v := .int .i64 (List.length a0.list : Int)) (xr_lenR rfl Try.underlying25 rfl R0_0) rfl rfl rfl ?_
 refine ol_val (v := .bool (decide ((List.length a0.list : Int) = 0))) (xr_eqI rfl Try.underlying3 rfl rfl rfl) rfl rfl rfl ?_
 refine ol_nil ?_
 rcases is h with ⟨c1, h⟩ | ⟨c1, h⟩
 ·refine cw_condT rfl c1 ?_
  refine cw_seq ?_
  refine cw_region ?_
  refine ol_val (v := .int .i64 (-1)) (xr_assign rfl rfl) rfl rfl rfl ?_
  refine ol_nil ?_
  refine cw_ret ?_
  repeat (first | with_reducible refine thn_r ?_ | with_reducible refine blk_r ?_)
  obtain rfl := Option.some.inj h
  refine fin_ret1 Try.results123 rfl ?_
  exact ⟨_, rfl, rfl, b_0, fB⟩
 refine cw_condF rfl c1 ?_
 refine cw_skip ?_
 refine cw_seq ?_
 refine cw_drawL 8 [fun vz wz => vz = ((pt G_0 (List.length X_0)) : Value), fun vz wz => vz = ((pt G_0 (List.length X_0)) : Value), fun vz wz => vz = ((pt G_0 (List.length X_0 + 0)) : Value), fun vz wz => vz = (V0_0 : Value), fun vz wz => vz = ((pt G_0 (List.length X_0)) : Value), fun vz wz => vz = ((pt G_0 (List.length X_0)) : Value), fun vz wz => vz = ((pt G_0 (List.length X_0 + 1)) : Value), fun vz wz => vz = (.int .i64 a0.at_ : Value)] mo rfl ⟨fun _ _ _ h _ => h, fun _ _ _ h _ => h, fun _ _ _ h _ => h, fun _ _ _ h _ => h, fun _ _ _ h _ => h, fun _ _ _ h _ => h, fun _ _ _ h _ => h, fun _ _ _ h _ => h, trivial⟩ ?_ ?_
 ·refine ⟨?_, ?_, ?_, ?_, ?_, ?_, ?_, ?_, trivial⟩
  ·intro ρz wz hz hk hd
   exact sk_val (v := (pt G_0 (List.length X_0))) (xr_move rfl ((hk 0 rfl).trans rfl)) rfl rfl
  ·intro ρz wz hz hk hd
   exact sk_val (v := (pt G_0 (List.length X_0))) (xr_nilCheck rfl (hd 0 rfl 10 rfl)) rfl rfl
  ·intro ρz wz hz hk hd
   exact sk_val (v := (pt G_0 (List.length X_0 + 0))) (xr_fieldAddr (p := List.length X_0) (q := 0) rfl fl137_0 (hd 1 rfl 11 rfl)) rfl rfl
  ·intro ρz wz hz hk hd
   exact sk_val (v := V0_0) (xr_load1 (v := V0_0) rfl ag25 (hd 2 rfl 12 rfl) ((b_0.gr hz).seg 0 rfl rfl)) rfl rfl
  ·intro ρz wz hz hk hd
   exact sk_val (v := (pt G_0 (List.length X_0))) (xr_move rfl ((hk 0 rfl).trans rfl)) rfl rfl
  ·intro ρz wz hz hk hd
   exact sk_val (v := (pt G_0 (List.length X_0))) (xr_nilCheck rfl (hd 4 rfl 14 rfl)) rfl rfl
  ·intro ρz wz hz hk hd
   exact sk_val (v := (pt G_0 (List.length X_0 + 1))) (xr_fieldAddr (p := List.length X_0) (q := 1) rfl fl137_1 (hd 5 rfl 15 rfl)) rfl rfl
  intro ρz wz hz hk hd
  exact sk_val (v := .int .i64 a0.at_) (xr_load1 (v := .int .i64 a0.at_) rfl ag3 (hd 6 rfl 16 rfl) ((b_0.gr hz).seg 1 rfl rfl)) rfl rfl
 intro ρ2 w3 q4 hk hd
 have e0 := (hk 0 rfl).trans rfl
 have e13 := hd 3 rfl 13 rfl
 have e17 := hd 7 rfl 17 rfl
 have b_0 := b_0.gr q4
 have R0_0 := R0_0.gr q4
 have fB := fB.gr q4
 obtain ⟨g5, h⟩ := gs h
 refine ol_val (v := (pt ((sb V0_0)) (so V0_0 + Int.toNat a0.at_ * 1))) (xr_indexR (K := (kI .i64)) (v := V0_0) rfl Try.underlying25 sz3 e13 R0_0 e17 g5.1 g5.2) rfl rfl rfl ?_
 refine ol_val (v := .int .i64 (ix a0.list a0.at_)) (xr_load1 (v := .int .i64 (ix a0.list a0.at_)) rfl ag3 rfl (R0_0.elem g5.1 g5.2)) rfl rfl rfl ?_
 refine ol_val (v := .int .i64 (ix a0.list a0.at_)) (xr_assign rfl rfl) rfl rfl rfl ?_
 refine ol_nil ?_
 refine cw_seq ?_
 obtain ⟨g6, h⟩ := gs h
 refine cw_drawL 12 [fun vz wz => vz = ((pt G_0 (List.length X_0)) : Value), fun vz wz => vz = ((pt G_0 (List.length X_0)) : Value), fun vz wz => vz = ((pt G_0 (List.length X_0)) : Value), fun vz wz => vz = ((pt G_0 (List.length X_0 + 1)) : Value), fun vz wz => vz = (.int .i64 a0.at_ : Value), fun vz wz => vz = (.int .i64 (IntKind.i64.wrap (a0.at_ + 1)) : Value), fun vz wz => vz = ((pt G_0 (List.length X_0)) : Value), fun vz wz => vz = ((pt G_0 (List.length X_0)) : Value), fun vz wz => vz = ((pt G_0 (List.length X_0 + 0)) : Value), fun vz wz => vz = (V0_0 : Value), fun vz wz => vz = (.int .i64 (List.length a0.list : Int) : Value), fun vz wz => vz = (.int .i64 (Int.tmod (IntKind.i64.wrap (a0.at_ + 1)) (List.length a0.list : Int)) : Value)] mo rfl ⟨fun _ _ _ h _ => h, fun _ _ _ h _ => h, fun _ _ _ h _ => h, fun _ _ _ h _ => h, fun _ _ _ h _ => h, fun _ _ _ h _ => h, fun _ _ _ h _ => h, fun _ _ _ h _ => h, fun _ _ _ h _ => h, fun _ _ _ h _ => h, fun _ _ _ h _ => h, fun _ _ _ h _ => h, trivial⟩ ?_ ?_
 ·refine ⟨?_, ?_, ?_, ?_, ?_, ?_, ?_, ?_, ?_, ?_, ?_, ?_, trivial⟩
  ·intro ρz wz hz hk hd
   exact sk_val (v := (pt G_0 (List.length X_0))) (xr_move rfl ((hk 0 rfl).trans e0)) rfl rfl
  ·intro ρz wz hz hk hd
   exact sk_val (v := (pt G_0 (List.length X_0))) (xr_move rfl ((hk 0 rfl).trans e0)) rfl rfl
  ·intro ρz wz hz hk hd
   exact sk_val (v := (pt G_0 (List.length X_0))) (xr_nilCheck rfl (hd 1 rfl 21 rfl)) rfl rfl
  ·intro ρz wz hz hk hd
   exact sk_val (v := (pt G_0 (List.length X_0 + 1))) (xr_fieldAddr (p := List.length X_0) (q := 1) rfl fl137_1 (hd 2 rfl 22 rfl)) rfl rfl
  ·intro ρz wz hz hk hd
   exact sk_val (v := .int .i64 a0.at_) (xr_load1 (v := .int .i64 a0.at_) rfl ag3 (hd 3 rfl 23 rfl) ((b_0.gr hz).seg 1 rfl rfl)) rfl rfl
  ·intro ρz wz hz hk hd
   exact sk_val (v := .int .i64 (IntKind.i64.wrap (a0.at_ + 1))) (xr_add rfl (hd 4 rfl 24 rfl) rfl) rfl rfl
  ·intro ρz wz hz hk hd
   exact sk_val (v := (pt G_0 (List.length X_0))) (xr_move rfl ((hk 0 rfl).trans e0)) rfl rfl
  ·intro ρz wz hz hk hd
   exact sk_val (v := (pt G_0 (List.length X_0))) (xr_nilCheck rfl (hd 6 rfl 26 rfl)) rfl rfl
  ·intro ρz wz hz hk hd
   exact sk_val (v := (pt G_0 (List.length X_0 + 0))) (xr_fieldAddr (p := List.length X_0) (q := 0) rfl fl137_0 (hd 7 rfl 27 rfl)) rfl rfl
  ·intro ρz wz hz hk hd
   exact sk_val (v := V0_0) (xr_load1 (v := V0_0) rfl ag25 (hd 8 rfl 28 rfl) ((b_0.gr hz).seg 0 rfl rfl)) rfl rfl
  ·intro ρz wz hz hk hd
   exact sk_val (v := .int .i64 (List.length a0.list : Int)) (xr_lenR rfl Try.underlying25 (hd 9 rfl 29 rfl) (R0_0.gr hz)) rfl rfl
  intro ρz wz hz hk hd
  exact sk_val (xr_rem rfl (hd 5 rfl 25 rfl) (hd 10 rfl 30 rfl) g6) rfl rfl
 intro ρ7 w8 q9 hk hd
 have e3 := (hk 3 rfl).trans rfl
 have e20 := hd 0 rfl 20 rfl
 have e31 := hd 11 rfl 31 rfl
 have b_0 := b_0.gr q9
 have R0_0 := R0_0.gr q9
 have fB := fB.gr q9
 refine ol_val (v := (pt G_0 (List.length X_0))) (xr_nilCheck rfl e20) rfl rfl rfl ?_
 refine ol_val (v := (pt G_0 (List.length X_0 + 1))) (xr_fieldAddr (p := List.length X_0) (q := 1) rfl fl137_1 rfl) rfl rfl rfl ?_
 refine ol_op0 (opv_storeSub (ss' := [Seg.cell V0_0 R0_0.one, (sI (Int.tmod (IntKind.i64.wrap (a0.at_ + 1)) (List.length a0.list : Int)))]) (xs := cellsOf [(sI (Int.tmod (IntKind.i64.wrap (a0.at_ + 1)) (List.length a0.list : Int)))]) rfl sz3 rfl e31 rfl (len_cellsOf _) (one_cellsOf _) b_0 (Spl.segs _ 1 1 [(sI (Int.tmod (IntKind.i64.wrap (a0.at_ + 1)) (List.length a0.list : Int)))] rfl rfl)) rfl rfl ?_
 rintro _ w11 ⟨b_0, q10⟩
 have R0_0 := R0_0.wr q10 N0_0
 have fB := fB.wrS q10 rfl
 refine ol_nil ?_
 refine cw_seq ?_
 refine cw_region ?_
 refine ol_val (v := .int .i64 (ix a0.list a0.at_)) (xr_move rfl e3) rfl rfl rfl ?_
 refine ol_val (v := .int .i64 (ix a0.list a0.at_)) (xr_assign rfl rfl) rfl rfl rfl ?_
 refine ol_nil ?_
 refine cw_ret ?_
 repeat (first | with_reducible refine thn_r ?_ | with_reducible refine blk_r ?_)
 obtain rfl := Option.some.inj h
 refine fin_ret1 Try.results123 rfl ?_
 exact ⟨_, rfl, rfl, b_0, fB⟩
def pmem_Device_step.f (fu : Nat) (a0 : S_pmem_Device) : Option S_pmem_Device := ((pmem_plan_next__i0.f fu a0.plan).bind fun t11 => (((if (if (decide (t11.1 ≥ 0)) = true then (decide ((List.length a0.cells : Int) > 0)) else false) = true then (if (List.length a0.cells : Int) ≠ 0 then (if 0 ≤ (Int.tmod t11.1 (List.length a0.cells : Int)) ∧ (Int.tmod t11.1 (List.length a0.cells : Int)) < (List.length a0.cells : Int) then ((pmem_cell_keep__i0.f fu (ix a0.cells (Int.tmod t11.1 (List.length a0.cells : Int))) ((ix a0.cells (Int.tmod t11.1 (List.length a0.cells : Int))).stored)).bind fun t35 => some ((List.set a0.cells (Int.toNat (Int.tmod t11.1 (List.length a0.cells : Int))) t35))) else none) else none) else some (a0.cells)) : Option (List S_pmem_cell)).bind fun x20 => (((if a0.armed = true then some ((decide ((IntKind.i64.wrap (a0.left - 1)) = 0)), (IntKind.i64.wrap (a0.left - 1))) else some (a0.off, a0.left)) : Option (Bool × Int)).bind fun x45 => some ((⟨x20, (⟨a0.plan.list, t11.2.at_⟩ : S_pmem_plan), x45.1, a0.armed, x45.2, (IntKind.i64.wrap (a0.steps + 1))⟩ : S_pmem_Device)))))
theorem pmem_Device_step.ok (fu : Nat) (w : World) (a0 : S_pmem_Device) (G_0 : Nat) (V0_0 : Value) (O0_0 : Own k_pmem_cell 142 w 0 V0_0 a0.cells) (V0_1 : Value) (O0_1 : Own (kI .i64) 3 w 0 V0_1 a0.plan.list) (b_0 : Blk w G_0 139 [Seg.cell V0_0 O0_0.one, Seg.cell V0_1 O0_1.one, (sI a0.plan.at_), Seg.cell (.bool a0.off), Seg.cell (.bool a0.armed), (sI a0.left), (sI a0.steps)]) (r : S_pmem_Device) (h : pmem_Device_step.f fu a0 = some r) :
  Calls Try.prog 84 (([(pt G_0 0)] : List Value).toArray) w (fun e w' => ∃ v, e = .returned v ∧ ∃ u1 : Value, ∃ u4 : Value, ∃ o2 : Own k_pmem_cell 142 w' 0 u1 r.cells, ∃ m3 : ∀ g, Value.ownBlock u1 = some g → w.heap.size ≤ g ∨ (g = G_0 ∨ some g = Value.ownBlock V0_0 ∨ some g = Value.ownBlock V0_1), ∃ o5 : Own (kI .i64) 3 w' 0 u4 r.plan.list, ∃ m6 : ∀ g, Value.ownBlock u4 = some g → w.heap.size ≤ g ∨ (g = G_0 ∨ some g = Value.ownBlock V0_0 ∨ some g = Value.ownBlock V0_1), v = .tuple #[] ∧ Blk w' G_0 139 [Seg.cell u1 o2.one, Seg.cell u4 o5.one, (sI r.plan.at_), Seg.cell (.bool r.off), Seg.cell (.bool r.armed), (sI r.left), (sI r.steps)] ∧ Fr (fun j => j = G_0 ∨ some j = Value.ownBlock V0_0 ∨ some j = Value.ownBlock V0_1) w w') := by
 unfold pmem_Device_step.f at h
 have fB : Fr (fun j => j = G_0 ∨ some j = Value.ownBlock V0_0 ∨ some j = Value.ownBlock V0_1) w w := Fr.refl _ _
 have M0_0 : ∀ g, Value.ownBlock V0_0 = some g → w.heap.size ≤ g ∨ (g = G_0 ∨ some g = Value.ownBlock V0_0 ∨ some g = Value.ownBlock V0_1) := fun g hg => .inr (.inr (.inl hg.symm))
 have M0_1 : ∀ g, Value.ownBlock V0_1 = some g → w.heap.size ≤ g ∨ (g = G_0 ∨ some g = Value.ownBlock V0_0 ∨ some g = Value.ownBlock V0_1) := fun g hg => .inr (.inr (.inr hg.symm))
 refine calls_cw Try.func84 rfl Try.ntmps84 rfl ?_
 refine cw_seq ?_
 refine cw_region ?_
 refine ol_val (v := (pt G_0 0)) (xr_move rfl rfl) rfl rfl rfl ?_
 refine ol_val (v := (pt G_0 0)) (xr_nilCheck rfl rfl) rfl rfl rfl ?_
 refine ol_val (v := (pt G_0 6)) (xr_fieldAddr (p := 0) (q := 6) rfl fl139_5 rfl) rfl rfl rfl ?_
 refine ol_val (v := .int .i64 a0.steps) (xr_load1 (v := .int .i64 a0.steps) rfl ag3 rfl (b_0.seg 6 rfl rfl)) rfl rfl rfl ?_
 refine ol_val (v := .int .i64 (IntKind.i64.wrap (a0.steps + 1))) (xr_add rfl rfl rfl) rfl rfl rfl ?_
 refine ol_val (v := (pt G_0 0)) (xr_nilCheck rfl rfl) rfl rfl rfl ?_
 refine ol_val (v := (pt G_0 6)) (xr_fieldAddr (p := 0) (q := 6) rfl fl139_5 rfl) rfl rfl rfl ?_
 have f8 := off_ty b_0 O0_0 (by decide)
 have f9 := off_ty b_0 O0_1 (by decide)
 refine ol_op0 (opv_store (ss' := [Seg.cell V0_0 O0_0.one, Seg.cell V0_1 O0_1.one, (sI a0.plan.at_), Seg.cell (.bool a0.off), Seg.cell (.bool a0.armed), (sI a0.left), (sI (IntKind.i64.wrap (a0.steps + 1)))]) (xs := cellsOf [(sI (IntKind.i64.wrap (a0.steps + 1)))]) rfl sz3 rfl rfl rfl (len_cellsOf _) (one_cellsOf _) b_0 (Spl.segs _ 6 1 [(sI (IntKind.i64.wrap (a0.steps + 1)))] rfl rfl)) rfl rfl ?_
 rintro _ w10 ⟨b_0, q7⟩
 have O0_0 := O0_0.wr q7 f8
 have O0_1 := O0_1.wr q7 f9
 have fB := fB.wrS q7 (.inl rfl)
 refine ol_nil ?_
 refine cw_seq ?_
 refine cw_seq ?_
 refine cw_region ?_
 refine ol_val (v := (pt G_0 0)) (xr_move rfl rfl) rfl rfl rfl ?_
 refine ol_val (v := (pt G_0 0)) (xr_nilCheck rfl rfl) rfl rfl rfl ?_
 refine ol_val (v := (pt G_0 1)) (xr_fieldAddr (p := 0) (q := 1) rfl fl139_1 rfl) rfl rfl rfl ?_
 obtain ⟨t11, k12, h⟩ := bs h
 have f15 := off_ty b_0 O0_0 (by decide)
 have f16 := off_ty b_0 O0_1 (by decide)
 refine ol_op (opv_call rfl cal123 (ac (ptrE (q := List.length (cellsOf [Seg.cell V0_0 O0_0.one])) rfl (len_cellsOf _)) an) (pmem_plan_next__i0.ok fu _ a0.plan G_0 139 (cellsOf [Seg.cell V0_0 O0_0.one]) _ V0_1 O0_1.rd (OffR.own O0_1 (off_ty b_0 O0_1 (by decide))) (b_0.sub 1 2) _ k12)) rfl rfl rfl ?_
 rintro _ w17 ⟨rfl, b14, q13⟩
 have b_0 : Blk w17 G_0 139 [Seg.cell V0_0 O0_0.one, Seg.cell V0_1 O0_1.one, (sI t11.2.at_), Seg.cell (.bool a0.off), Seg.cell (.bool a0.armed), (sI a0.left), (sI (IntKind.i64.wrap (a0.steps + 1)))] := Blk.unsub (pre := [Seg.cell V0_0 O0_0.one]) (mid := [Seg.cell V0_1 O0_1.one, (sI t11.2.at_)]) (post := [Seg.cell (.bool a0.off), Seg.cell (.bool a0.armed), (sI a0.left), (sI (IntKind.i64.wrap (a0.steps + 1)))]) b14
 have O0_0 := O0_0.wr q13 f15
 have O0_1 := O0_1.wr q13 f16
 have fB := fB.wrS q13 (.inl rfl)
 refine ol_val (v := .int .i64 t11.1) (xr_assign rfl rfl) rfl rfl rfl ?_
 refine ol_nil ?_
 refine cw_seq ?_
 refine cw_mid (fun ρ' w' => ρ' 0 = (pt G_0 0) ∧ ρ' 2 = .int .i64 t11.1 ∧ ρ' 24 = .bool (if (decide (t11.1 ≥ 0)) = true then (decide ((List.length a0.cells : Int) > 0)) else false) ∧ w17 = w') ?_ ?_
 ·skip
  refine cw_region ?_
  refine ol_val (v := .int .i64 t11.1) (xr_move rfl rfl) rfl rfl rfl ?_
  refine ol_val (v := .bool (decide (t11.1 ≥ 0))) (xr_geq rfl rfl rfl) rfl rfl rfl ?_
  refine ol_val (v := .bool (decide (t11.1 ≥ 0))) (xr_move rfl rfl) rfl rfl rfl ?_
  rcases bt (decide (t11.1 ≥ 0)) with c18 | c18
  ·skip
   refine ol_gval (v := (pt G_0 0)) (xr_move rfl rfl) rfl rfl rfl rfl rfl c18 ?_
   refine ol_gval (v := (pt G_0 0)) (xr_nilCheck rfl rfl) rfl rfl rfl rfl rfl c18 ?_
   refine ol_gval (v := (pt G_0 0)) (xr_fieldAddr (p := 0) (q := 0) rfl fl139_0 rfl) rfl rfl rfl rfl rfl c18 ?_
   refine ol_gval (v := V0_0) (xr_load1 (v := V0_0) rfl ag135 rfl (b_0.seg 0 rfl rfl)) rfl rfl rfl rfl rfl c18 ?_
   refine ol_gval (v := .int .i64 (List.length a0.cells : Int)) (xr_lenR rfl Try.underlying135 rfl O0_0.rd) rfl rfl rfl rfl rfl c18 ?_
   refine ol_gval (v := .bool (decide ((List.length a0.cells : Int) > 0))) (xr_gtr rfl rfl rfl) rfl rfl rfl rfl rfl c18 ?_
   refine ol_val (v := .bool (decide ((List.length a0.cells : Int) > 0))) (xr_pickT rfl rfl c18 rfl) rfl rfl rfl ?_
   refine ol_nil ?_
   refine thn_i ?_
   exact ⟨rfl, rfl, (rfl).trans (congrArg (fun z => (.bool z : Value)) (show (decide ((List.length a0.cells : Int) > 0)) = (if (decide (t11.1 ≥ 0)) = true then (decide ((List.length a0.cells : Int) > 0)) else false) from by rw [ite_t c18])), rfl⟩
  refine ol_gskip rfl rfl rfl rfl rfl c18 ?_
  refine ol_gskip rfl rfl rfl rfl rfl c18 ?_
  refine ol_gskip rfl rfl rfl rfl rfl c18 ?_
  refine ol_gskip rfl rfl rfl rfl rfl c18 ?_
  refine ol_gskip rfl rfl rfl rfl rfl c18 ?_
  refine ol_gskip rfl rfl rfl rfl rfl c18 ?_
  refine ol_val (v := .bool false) (xr_pickF rfl rfl c18 rfl) rfl rfl rfl ?_
  refine ol_nil ?_
  refine thn_i ?_
  exact ⟨rfl, rfl, (rfl).trans (congrArg (fun z => (.bool z : Value)) (show false = (if (decide (t11.1 ≥ 0)) = true then (decide ((List.length a0.cells : Int) > 0)) else false) from by rw [ite_f c18])), rfl⟩
 rintro ρ19 _ ⟨e0, e2, e24, rfl⟩
 obtain ⟨x20, j21, h22⟩ := bs h
 refine cw_mid (fun ρ' w' => ∃ O0_0 : Own k_pmem_cell 142 w' 0 V0_0 x20, ∃ O0_1 : Own (kI .i64) 3 w' 0 V0_1 a0.plan.list, ρ' 0 = (pt G_0 0) ∧ Blk w' G_0 139 [Seg.cell V0_0 O0_0.one, Seg.cell V0_1 O0_1.one, (sI t11.2.at_), Seg.cell (.bool a0.off), Seg.cell (.bool a0.armed), (sI a0.left), (sI (IntKind.i64.wrap (a0.steps + 1)))] ∧ Fr (fun j => j = G_0 ∨ some j = Value.ownBlock V0_0 ∨ some j = Value.ownBlock V0_1) w w') ?_ ?_
 ·have h := j21
  rcases is h with ⟨c23, h⟩ | ⟨c23, h⟩
  ·refine cw_condT e24 c23 ?_
   refine cw_seq ?_
   obtain ⟨g24, h⟩ := gs h
   refine cw_drawL 11 [fun vz wz => vz = ((pt G_0 0) : Value), fun vz wz => vz = ((pt G_0 0) : Value), fun vz wz => vz = ((pt G_0 0) : Value), fun vz wz => vz = (V0_0 : Value), fun vz wz => vz = (.int .i64 t11.1 : Value), fun vz wz => vz = ((pt G_0 0) : Value), fun vz wz => vz = ((pt G_0 0) : Value), fun vz wz => vz = ((pt G_0 0) : Value), fun vz wz => vz = (V0_0 : Value), fun vz wz => vz = (.int .i64 (List.length a0.cells : Int) : Value), fun vz wz => vz = (.int .i64 (Int.tmod t11.1 (List.length a0.cells : Int)) : Value)] mo rfl ⟨fun _ _ _ h _ => h, fun _ _ _ h _ => h, fun _ _ _ h _ => h, fun _ _ _ h _ => h, fun _ _ _ h _ => h, fun _ _ _ h _ => h, fun _ _ _ h _ => h, fun _ _ _ h _ => h, fun _ _ _ h _ => h, fun _ _ _ h _ => h, fun _ _ _ h _ => h, trivial⟩ ?_ ?_
   ·refine ⟨?_, ?_, ?_, ?_, ?_, ?_, ?_, ?_, ?_, ?_, ?_, trivial⟩
    ·intro ρz wz hz hk hd
     exact sk_val (v := (pt G_0 0)) (xr_move rfl ((hk 0 rfl).trans e0)) rfl rfl
    ·intro ρz wz hz hk hd
     exact sk_val (v := (pt G_0 0)) (xr_nilCheck rfl (hd 0 rfl 25 rfl)) rfl rfl
    ·intro ρz wz hz hk hd
     exact sk_val (v := (pt G_0 0)) (xr_fieldAddr (p := 0) (q := 0) rfl fl139_0 (hd 1 rfl 26 rfl)) rfl rfl
    ·intro ρz wz hz hk hd
     exact sk_val (v := V0_0) (xr_load1 (v := V0_0) rfl ag135 (hd 2 rfl 27 rfl) ((b_0.gr hz).seg 0 rfl rfl)) rfl rfl
    ·intro ρz wz hz hk hd
     exact sk_val (v := .int .i64 t11.1) (xr_move rfl ((hk 2 rfl).trans e2)) rfl rfl
    ·intro ρz wz hz hk hd
     exact sk_val (v := (pt G_0 0)) (xr_move rfl ((hk 0 rfl).trans e0)) rfl rfl
    ·intro ρz wz hz hk hd
     exact sk_val (v := (pt G_0 0)) (xr_nilCheck rfl (hd 5 rfl 30 rfl)) rfl rfl
    ·intro ρz wz hz hk hd
     exact sk_val (v := (pt G_0 0)) (xr_fieldAddr (p := 0) (q := 0) rfl fl139_0 (hd 6 rfl 31 rfl)) rfl rfl
    ·intro ρz wz hz hk hd
     exact sk_val (v := V0_0) (xr_load1 (v := V0_0) rfl ag135 (hd 7 rfl 32 rfl) ((b_0.gr hz).seg 0 rfl rfl)) rfl rfl
    ·intro ρz wz hz hk hd
     exact sk_val (v := .int .i64 (List.length a0.cells : Int)) (xr_lenR rfl Try.underlying135 (hd 8 rfl 33 rfl) (O0_0.gr hz).rd) rfl rfl
    intro ρz wz hz hk hd
    exact sk_val (v := .int .i64 (Int.tmod t11.1 (List.length a0.cells : Int))) (xr_rem rfl (hd 4 rfl 29 rfl) (hd 9 rfl 34 rfl) g24) rfl rfl
   intro ρ25 w26 q27 hk hd
   have e0 := (hk 0 rfl).trans e0
   have e28 := hd 3 rfl 28 rfl
   have e35 := hd 10 rfl 35 rfl
   have b_0 := b_0.gr q27
   have O0_0 := O0_0.gr q27
   have O0_1 := O0_1.gr q27
   have fB := fB.gr q27
   obtain ⟨g28, h⟩ := gs h
   refine ol_val (v := (pt ((sb V0_0)) (so V0_0 + Int.toNat (Int.tmod t11.1 (List.length a0.cells : Int)) * 4))) (xr_indexR (K := k_pmem_cell) (v := V0_0) rfl Try.underlying135 sz142 e28 O0_0.rd e35 g28.1 g28.2) rfl rfl rfl ?_
   refine ol_val (v := (pt ((sb V0_0)) (so V0_0 + Int.toNat (Int.tmod t11.1 (List.length a0.cells : Int)) * 4))) (xr_assign rfl rfl) rfl rfl rfl ?_
   refine ol_nil ?_
   refine cw_region ?_
   refine ol_val (v := (pt ((sb V0_0)) (so V0_0 + Int.toNat (Int.tmod t11.1 (List.length a0.cells : Int)) * 4))) (xr_move rfl rfl) rfl rfl rfl ?_
   refine ol_val (v := (pt ((sb V0_0)) (so V0_0 + Int.toNat (Int.tmod t11.1 (List.length a0.cells : Int)) * 4))) (xr_move rfl rfl) rfl rfl rfl ?_
   refine ol_val (v := (pt ((sb V0_0)) (so V0_0 + Int.toNat (Int.tmod t11.1 (List.length a0.cells : Int)) * 4))) (xr_nilCheck rfl rfl) rfl rfl rfl ?_
   refine ol_val (v := (pt ((sb V0_0)) (so V0_0 + Int.toNat (Int.tmod t11.1 (List.length a0.cells : Int)) * 4 + 1))) (xr_fieldAddr (p := so V0_0 + Int.toNat (Int.tmod t11.1 (List.length a0.cells : Int)) * 4) (q := 1) rfl fl142_1 rfl) rfl rfl rfl ?_
   refine ol_val (v := .int .u64 ((ix a0.cells (Int.tmod t11.1 (List.length a0.cells : Int))).stored)) (xr_load1 (v := .int .u64 ((ix a0.cells (Int.tmod t11.1 (List.length a0.cells : Int))).stored)) rfl ag22 rfl (At.segs (ss := segs_pmem_cell (ix a0.cells (Int.tmod t11.1 (List.length a0.cells : Int)))) (O0_0.rd.elem g28.1 g28.2) 1 1 rfl)) rfl rfl rfl ?_
   obtain ⟨t35, k36, h⟩ := bs h
   have f39 := off_ty b_0 O0_0 (by decide)
   have f40 := OffV.ty O0_1 O0_0 (by decide)
   obtain ⟨X29, Y30, h31, h32, b33, k34⟩ := Own.sub (K := k_pmem_cell) (i := (Int.tmod t11.1 (List.length a0.cells : Int))) (ss := [Seg.cell (.int .u64 ((ix a0.cells (Int.tmod t11.1 (List.length a0.cells : Int))).lasts)), Seg.cell (.int .u64 ((ix a0.cells (Int.tmod t11.1 (List.length a0.cells : Int))).stored)), Seg.cell (.int .u64 ((ix a0.cells (Int.tmod t11.1 (List.length a0.cells : Int))).sent)), Seg.cell (.bool ((ix a0.cells (Int.tmod t11.1 (List.length a0.cells : Int))).flushed))]) O0_0 g28.1 g28.2 rfl
   refine ol_op (opv_call rfl cal85 (ac (ptrE (q := List.length X29) rfl h31) (ac rfl an)) (pmem_cell_keep__i0.ok fu _ (ix a0.cells (Int.tmod t11.1 (List.length a0.cells : Int))) (sb V0_0) 142 X29 Y30 b33 ((ix a0.cells (Int.tmod t11.1 (List.length a0.cells : Int))).stored) _ k36)) rfl rfl rfl ?_
   rintro _ w42 ⟨rfl, b38, q37⟩
   have O0_0 := k34 _ t35 [Seg.cell (.int .u64 t35.lasts), Seg.cell (.int .u64 t35.stored), Seg.cell (.int .u64 t35.sent), Seg.cell (.bool t35.flushed)] rfl b38
   have q37 := fr_own q37 h32
   have b_0 := b_0.wrO q37 f39
   have O0_1 := O0_1.wrV q37 f40
   have fB := fB.wrM q37 M0_0
   refine ol_nil ?_
   obtain rfl := Option.some.inj h
   refine thn_i ?_
   exact ⟨O0_0, O0_1, e0, b_0, fB⟩
  refine cw_condF e24 c23 ?_
  refine cw_skip ?_
  obtain rfl := Option.some.inj h
  refine thn_i ?_
  exact ⟨O0_0, O0_1, e0, b_0, fB⟩
 rintro ρ43 w44 ⟨O0_0, O0_1, e0, b_0, fB⟩
 have h := h22
 refine cw_seq ?_
 refine cw_region ?_
 refine ol_val (v := (pt G_0 0)) (xr_move rfl e0) rfl rfl rfl ?_
 refine ol_val (v := (pt G_0 0)) (xr_nilCheck rfl rfl) rfl rfl rfl ?_
 refine ol_val (v := (pt G_0 4)) (xr_fieldAddr (p := 0) (q := 4) rfl fl139_3 rfl) rfl rfl rfl ?_
 refine ol_val (v := .bool a0.armed) (xr_load1 (v := .bool a0.armed) rfl ag4 rfl (b_0.seg 4 rfl rfl)) rfl rfl rfl ?_
 refine ol_nil ?_
 obtain ⟨x45, j46, h47⟩ := bs h
 refine cw_mid (fun ρ' w' => ∃ O0_0 : Own k_pmem_cell 142 w' 0 V0_0 x20, ∃ O0_1 : Own (kI .i64) 3 w' 0 V0_1 a0.plan.list, Blk w' G_0 139 [Seg.cell V0_0 O0_0.one, Seg.cell V0_1 O0_1.one, (sI t11.2.at_), Seg.cell (.bool x45.1), Seg.cell (.bool a0.armed), (sI x45.2), (sI (IntKind.i64.wrap (a0.steps + 1)))] ∧ Fr (fun j => j = G_0 ∨ some j = Value.ownBlock V0_0 ∨ some j = Value.ownBlock V0_1) w w') ?_ ?_
 ·have h := j46
  rcases is h with ⟨c48, h⟩ | ⟨c48, h⟩
  ·refine cw_condT rfl c48 ?_
   refine cw_seq ?_
   refine cw_region ?_
   refine ol_val (v := (pt G_0 0)) (xr_move rfl e0) rfl rfl rfl ?_
   refine ol_val (v := (pt G_0 0)) (xr_nilCheck rfl rfl) rfl rfl rfl ?_
   refine ol_val (v := (pt G_0 5)) (xr_fieldAddr (p := 0) (q := 5) rfl fl139_4 rfl) rfl rfl rfl ?_
   refine ol_val (v := .int .i64 a0.left) (xr_load1 (v := .int .i64 a0.left) rfl ag3 rfl (b_0.seg 5 rfl rfl)) rfl rfl rfl ?_
   refine ol_val (v := .int .i64 (IntKind.i64.wrap (a0.left - 1))) (xr_sub rfl rfl rfl) rfl rfl rfl ?_
   refine ol_val (v := (pt G_0 0)) (xr_nilCheck rfl rfl) rfl rfl rfl ?_
   refine ol_val (v := (pt G_0 5)) (xr_fieldAddr (p := 0) (q := 5) rfl fl139_4 rfl) rfl rfl rfl ?_
   have f50 := off_ty b_0 O0_0 (by decide)
   have f51 := off_ty b_0 O0_1 (by decide)
   refine ol_op0 (opv_store (ss' := [Seg.cell V0_0 O0_0.one, Seg.cell V0_1 O0_1.one, (sI t11.2.at_), Seg.cell (.bool a0.off), Seg.cell (.bool a0.armed), (sI (IntKind.i64.wrap (a0.left - 1))), (sI (IntKind.i64.wrap (a0.steps + 1)))]) (xs := cellsOf [(sI (IntKind.i64.wrap (a0.left - 1)))]) rfl sz3 rfl rfl rfl (len_cellsOf _) (one_cellsOf _) b_0 (Spl.segs _ 5 1 [(sI (IntKind.i64.wrap (a0.left - 1)))] rfl rfl)) rfl rfl ?_
   rintro _ w52 ⟨b_0, q49⟩
   have O0_0 := O0_0.wr q49 f50
   have O0_1 := O0_1.wr q49 f51
   have fB := fB.wrS q49 (.inl rfl)
   refine ol_nil ?_
   refine cw_region ?_
   refine ol_val (v := (pt G_0 0)) (xr_move rfl e0) rfl rfl rfl ?_
   refine ol_val (v := (pt G_0 0)) (xr_move rfl e0) rfl rfl rfl ?_
   refine ol_val (v := (pt G_0 0)) (xr_nilCheck rfl rfl) rfl rfl rfl ?_
   refine ol_val (v := (pt G_0 5)) (xr_fieldAddr (p := 0) (q := 5) rfl fl139_4 rfl) rfl rfl rfl ?_
   refine ol_val (v := .int .i64 (IntKind.i64.wrap (a0.left - 1))) (xr_load1 (v := .int .i64 (IntKind.i64.wrap (a0.left - 1))) rfl ag3 rfl (b_0.seg 5 rfl rfl)) rfl rfl rfl ?_
   refine ol_val (v := .bool (decide ((IntKind.i64.wrap (a0.left - 1)) = 0))) (xr_eqI rfl Try.underlying3 rfl rfl rfl) rfl rfl rfl ?_
   refine ol_val (v := (pt G_0 0)) (xr_nilCheck rfl rfl) rfl rfl rfl ?_
   refine ol_val (v := (pt G_0 3)) (xr_fieldAddr (p := 0) (q := 3) rfl fl139_2 rfl) rfl rfl rfl ?_
   have f54 := off_ty b_0 O0_0 (by decide)
   have f55 := off_ty b_0 O0_1 (by decide)
   refine ol_op0 (opv_store (ss' := [Seg.cell V0_0 O0_0.one, Seg.cell V0_1 O0_1.one, (sI t11.2.at_), Seg.cell (.bool (decide ((IntKind.i64.wrap (a0.left - 1)) = 0))), Seg.cell (.bool a0.armed), (sI (IntKind.i64.wrap (a0.left - 1))), (sI (IntKind.i64.wrap (a0.steps + 1)))]) (xs := cellsOf [Seg.cell (.bool (decide ((IntKind.i64.wrap (a0.left - 1)) = 0)))]) rfl sz4 rfl rfl rfl (len_cellsOf _) (one_cellsOf _) b_0 (Spl.segs _ 3 1 [Seg.cell (.bool (decide ((IntKind.i64.wrap (a0.left - 1)) = 0)))] rfl rfl)) rfl rfl ?_
   rintro _ w56 ⟨b_0, q53⟩
   have O0_0 := O0_0.wr q53 f54
   have O0_1 := O0_1.wr q53 f55
   have fB := fB.wrS q53 (.inl rfl)
   refine ol_nil ?_
   obtain rfl := Option.some.inj h
   refine thn_i ?_
   exact ⟨O0_0, O0_1, b_0, fB⟩
  refine cw_condF rfl c48 ?_
  refine cw_skip ?_
  obtain rfl := Option.some.inj h
  refine thn_i ?_
  exact ⟨O0_0, O0_1, b_0, fB⟩
 rintro ρ57 w58 ⟨O0_0, O0_1, b_0, fB⟩
 have h := h47
 obtain rfl := Option.some.inj h
 refine fin_end0 Try.results84 ?_
 exact ⟨_, rfl, V0_0, V0_1, O0_0, M0_0, O0_1, M0_1, rfl, b_0, fB⟩
def pmem_Device_Store.f (fu : Nat) (a0 : S_pmem_Device) (a1 : Int) (a2 : Int) : Option (Int × S_pmem_Device) := ((pmem_Device_may.f fu a0 a1 (List.length a0.cells : Int)).bind fun t7 => (if (!decide (t7 = 0)) = true then some (t7, a0) else (if 0 ≤ a1 ∧ a1 < (List.length a0.cells : Int) then ((pmem_Device_step.f fu (⟨(List.set a0.cells (Int.toNat a1) (⟨(ix a0.cells a1).lasts, a2, (ix a0.cells a1).sent, (ix a0.cells a1).flushed⟩ : S_pmem_cell)), a0.plan, a0.off, a0.armed, a0.left, a0.steps⟩ : S_pmem_Device)).bind fun t18 => some (0, t18)) else none)))
theorem pmem_Device_Store.ok (fu : Nat) (w : World) (a0 : S_pmem_Device) (G_0 : Nat) (V0_0 : Value) (O0_0 : Own k_pmem_cell 142 w 0 V0_0 a0.cells) (V0_1 : Value) (O0_1 : Own (kI .i64) 3 w 0 V0_1 a0.plan.list) (b_0 : Blk w G_0 139 [Seg.cell V0_0 O0_0.one, Seg.cell V0_1 O0_1.one, (sI a0.plan.at_), Seg.cell (.bool a0.off), Seg.cell (.bool a0.armed), (sI a0.left), (sI a0.steps)]) (a1 : Int) (a2 : Int) (r : Int × S_pmem_Device) (h : pmem_Device_Store.f fu a0 a1 a2 = some r) :
  Calls Try.prog 28 (([(pt G_0 0), .int .i64 a1, .int .u64 a2] : List Value).toArray) w (fun e w' => ∃ v, e = .returned v ∧ ∃ u1 : Value, ∃ u4 : Value, ∃ o2 : Own k_pmem_cell 142 w' 0 u1 r.2.cells, ∃ m3 : ∀ g, Value.ownBlock u1 = some g → w.heap.size ≤ g ∨ (g = G_0 ∨ some g = Value.ownBlock V0_0 ∨ some g = Value.ownBlock V0_1), ∃ o5 : Own (kI .i64) 3 w' 0 u4 r.2.plan.list, ∃ m6 : ∀ g, Value.ownBlock u4 = some g → w.heap.size ≤ g ∨ (g = G_0 ∨ some g = Value.ownBlock V0_0 ∨ some g = Value.ownBlock V0_1), v = .int .i64 r.1 ∧ Blk w' G_0 139 [Seg.cell u1 o2.one, Seg.cell u4 o5.one, (sI r.2.plan.at_), Seg.cell (.bool r.2.off), Seg.cell (.bool r.2.armed), (sI r.2.left), (sI r.2.steps)] ∧ Fr (fun j => j = G_0 ∨ some j = Value.ownBlock V0_0 ∨ some j = Value.ownBlock V0_1) w w') := by
 unfold pmem_Device_Store.f at h
 have fB : Fr (fun j => j = G_0 ∨ some j = Value.ownBlock V0_0 ∨ some j = Value.ownBlock V0_1) w w := Fr.refl _ _
 have M0_0 : ∀ g, Value.ownBlock V0_0 = some g → w.heap.size ≤ g ∨ (g = G_0 ∨ some g = Value.ownBlock V0_0 ∨ some g = Value.ownBlock V0_1) := fun g hg => .inr (.inr (.inl hg.symm))
 have M0_1 : ∀ g, Value.ownBlock V0_1 = some g → w.heap.size ≤ g ∨ (g = G_0 ∨ some g = Value.ownBlock V0_0 ∨ some g = Value.ownBlock V0_1) := fun g hg => .inr (.inr (.inr hg.symm))
 refine calls_cw Try.func28 rfl Try.ntmps28 rfl ?_
 refine cw_seq ?_
 refine cw_region ?_
 refine ol_val (v := .int .i64 0) (xr_assign rfl rfl) rfl rfl rfl ?_
 refine ol_nil ?_
 refine cw_seq ?_
 refine cw_seq ?_
 refine cw_region ?_
 refine ol_val (v := (pt G_0 0)) (xr_move rfl rfl) rfl rfl rfl ?_
 refine ol_val (v := .int .i64 a1) (xr_move rfl rfl) rfl rfl rfl ?_
 refine ol_val (v := (pt G_0 0)) (xr_move rfl rfl) rfl rfl rfl ?_
 refine ol_val (v := (pt G_0 0)) (xr_nilCheck rfl rfl) rfl rfl rfl ?_
 refine ol_val (v := (pt G_0 0)) (xr_fieldAddr (p := 0) (q := 0) rfl fl139_0 rfl) rfl rfl rfl ?_
 refine ol_val (v := V0_0) (xr_load1 (v := V0_0) rfl ag135 rfl (b_0.seg 0 rfl rfl)) rfl rfl rfl ?_
 refine ol_val (v := .int .i64 (List.length a0.cells : Int)) (xr_lenR rfl Try.underlying135 rfl O0_0.rd) rfl rfl rfl ?_
 obtain ⟨t7, k8, h⟩ := bs h
 refine ol_op (opv_call rfl cal83 (ac rfl (ac rfl (ac rfl an))) (pmem_Device_may.ok fu _ a0 G_0 V0_0 (O0_0.rd) V0_1 (O0_1.rd) b_0 a1 (List.length a0.cells : Int) _ k8)) rfl rfl rfl ?_
 rintro _ w10 ⟨rfl, q9⟩
 have b_0 := b_0.gr q9
 have O0_0 := O0_0.gr q9
 have O0_1 := O0_1.gr q9
 have fB := fB.gr q9
 refine ol_val (v := .int .i64 t7) (xr_assign rfl rfl) rfl rfl rfl ?_
 refine ol_nil ?_
 refine cw_seq ?_
 refine cw_region ?_
 refine ol_val (v := .int .i64 t7) (xr_move rfl rfl) rfl rfl rfl ?_
 refine ol_val (v := .bool (!decide (t7 = 0))) (xr_neI rfl Try.underlying31 rfl rfl rfl) rfl rfl rfl ?_
 refine ol_nil ?_
 rcases is h with ⟨c11, h⟩ | ⟨c11, h⟩
 ·refine cw_condT rfl c11 ?_
  refine cw_seq ?_
  refine cw_region ?_
  refine ol_val (v := .int .i64 t7) (xr_move rfl rfl) rfl rfl rfl ?_
  refine ol_val (v := .int .i64 t7) (xr_assign rfl rfl) rfl rfl rfl ?_
  refine ol_nil ?_
  refine cw_ret ?_
  repeat (first | with_reducible refine thn_r ?_ | with_reducible refine blk_r ?_)
  obtain rfl := Option.some.inj h
  refine fin_ret1 Try.results28 rfl ?_
  exact ⟨_, rfl, V0_0, V0_1, O0_0, M0_0, O0_1, M0_1, rfl, b_0, fB⟩
 refine cw_condF rfl c11 ?_
 refine cw_skip ?_
 refine cw_seq ?_
 refine cw_region ?_
 refine ol_val (v := (pt G_0 0)) (xr_move rfl rfl) rfl rfl rfl ?_
 refine ol_val (v := (pt G_0 0)) (xr_nilCheck rfl rfl) rfl rfl rfl ?_
 refine ol_val (v := (pt G_0 0)) (xr_fieldAddr (p := 0) (q := 0) rfl fl139_0 rfl) rfl rfl rfl ?_
 refine ol_val (v := V0_0) (xr_load1 (v := V0_0) rfl ag135 rfl (b_0.seg 0 rfl rfl)) rfl rfl rfl ?_
 refine ol_val (v := .int .i64 a1) (xr_move rfl rfl) rfl rfl rfl ?_
 refine ol_val (v := .int .u64 a2) (xr_move rfl rfl) rfl rfl rfl ?_
 obtain ⟨g12, h⟩ := gs h
 refine ol_val (v := (pt ((sb V0_0)) (so V0_0 + Int.toNat a1 * 4))) (xr_indexR (K := k_pmem_cell) (v := V0_0) rfl Try.underlying135 sz142 rfl O0_0.rd rfl g12.1 g12.2) rfl rfl rfl ?_
 refine ol_val (v := (pt ((sb V0_0)) (so V0_0 + Int.toNat a1 * 4 + 1))) (xr_fieldAddr (p := so V0_0 + Int.toNat a1 * 4) (q := 1) rfl fl142_1 rfl) rfl rfl rfl ?_
 have f14 := off_ty b_0 O0_0 (by decide)
 have f15 := OffV.ty O0_1 O0_0 (by decide)
 refine ol_op0 (opv_storeRow (z := (⟨(ix a0.cells a1).lasts, a2, (ix a0.cells a1).sent, (ix a0.cells a1).flushed⟩ : S_pmem_cell)) (xs := cellsOf [Seg.cell (.int .u64 a2)]) rfl sz22 rfl rfl rfl (len_cellsOf _) (one_cellsOf _) O0_0 g12.1 g12.2 (Spl.segs (segs_pmem_cell (ix a0.cells a1)) 1 1 [Seg.cell (.int .u64 a2)] rfl rfl) rfl) rfl rfl ?_
 rintro _ w17 ⟨O0_0, q13⟩
 have b_0 := b_0.wrO q13 f14
 have O0_1 := O0_1.wrV q13 f15
 have fB := fB.wrM q13 M0_0
 refine ol_nil ?_
 refine cw_seq ?_
 refine cw_region ?_
 refine ol_val (v := (pt G_0 0)) (xr_move rfl rfl) rfl rfl rfl ?_
 obtain ⟨t18, k19, h⟩ := bs h
 have c29 : ∀ k, (k = G_0 ∨ some k = Value.ownBlock V0_0 ∨ some k = Value.ownBlock V0_1) → (w.heap.size ≤ k ∨ (k = G_0 ∨ some k = Value.ownBlock V0_0 ∨ some k = Value.ownBlock V0_1)) := (cv_or (cv_eq (.inr (.inl rfl))) (cv_or (cv_own M0_0) (cv_own M0_1)))
 refine ol_op (opv_call rfl cal84 (ac rfl an) (pmem_Device_step.ok fu _ (⟨(List.set a0.cells (Int.toNat a1) (⟨(ix a0.cells a1).lasts, a2, (ix a0.cells a1).sent, (ix a0.cells a1).flushed⟩ : S_pmem_cell)), a0.plan, a0.off, a0.armed, a0.left, a0.steps⟩ : S_pmem_Device) G_0 V0_0 (Own.base O0_0 (Nat.zero_le _)) V0_1 (Own.base O0_1 (Nat.zero_le _)) b_0 _ k19)) rfl rfl rfl ?_
 rintro _ w30 ⟨u21, u25, o22, m23, o26, m27, rfl, b_0, q20⟩
 have m23 : ∀ g, Value.ownBlock u21 = some g → w.heap.size ≤ g ∨ (g = G_0 ∨ some g = Value.ownBlock V0_0 ∨ some g = Value.ownBlock V0_1) := fun g hg => (m23 g hg).elim (fun x => .inl (Nat.le_trans fB.size x)) (c29 g)
 have m27 : ∀ g, Value.ownBlock u25 = some g → w.heap.size ≤ g ∨ (g = G_0 ∨ some g = Value.ownBlock V0_0 ∨ some g = Value.ownBlock V0_1) := fun g hg => (m27 g hg).elim (fun x => .inl (Nat.le_trans fB.size x)) (c29 g)
 have fB := fB.call q20 c29
 refine ol_nil ?_
 refine cw_seq ?_
 refine cw_region ?_
 refine ol_val (v := .int .i64 0) (xr_assign rfl rfl) rfl rfl rfl ?_
 refine ol_nil ?_
 refine cw_ret ?_
 repeat (first | with_reducible refine thn_r ?_ | with_reducible refine blk_r ?_)
 obtain rfl := Option.some.inj h
 refine fin_ret1 Try.results28 rfl ?_
 exact ⟨_, rfl, u21, u25, o22, m23, o26, m27, rfl, b_0, fB⟩
def pmem_Device_Lines.f (fu : Nat) (a0 : S_pmem_Device) : Option Int := some ((IntKind.i64.wrap (Int.tdiv (List.length a0.cells : Int) 8)))
theorem pmem_Device_Lines.ok (fu : Nat) (w : World) (a0 : S_pmem_Device) (G_0 : Nat) (V0_0 : Value) (R0_0 : Rd k_pmem_cell w V0_0 a0.cells) (V0_1 : Value) (R0_1 : Rd (kI .i64) w V0_1 a0.plan.list) (b_0 : Blk w G_0 139 [Seg.cell V0_0 R0_0.one, Seg.cell V0_1 R0_1.one, (sI a0.plan.at_), Seg.cell (.bool a0.off), Seg.cell (.bool a0.armed), (sI a0.left), (sI a0.steps)]) (r : Int) (h : pmem_Device_Lines.f fu a0 = some r) :
  Calls Try.prog 43 (([(pt G_0 0)] : List Value).toArray) w (fun e w' => ∃ v, e = .returned v ∧ v = .int .i64 r ∧ Gr w w') := by
 unfold pmem_Device_Lines.f at h
 have fB : Gr w w := Fr.refl _ _
 refine calls_cw Try.func43 rfl Try.ntmps43 rfl ?_
 refine cw_seq ?_
 refine cw_region ?_
 refine ol_val (v := .int .i64 0) (xr_assign rfl rfl) rfl rfl rfl ?_
 refine ol_nil ?_
 refine cw_seq ?_
 refine cw_region ?_
 refine ol_val (v := (pt G_0 0)) (xr_move rfl rfl) rfl rfl rfl ?_
 refine ol_val (v := (pt G_0 0)) (xr_nilCheck rfl rfl) rfl rfl rfl ?_
 refine ol_val (v := (pt G_0 0)) (xr_fieldAddr (p := 0) (q := 0) rfl fl139_0 rfl) rfl rfl rfl ?_
 refine ol_val (v := V0_0) (xr_load1 (v := V0_0) rfl ag135 rfl (b_0.seg 0 rfl rfl)) rfl rfl rfl ?_
 refine ol_val (v := .int .i64 (List.length a0.cells : Int)) (xr_lenR rfl Try.underlying135 rfl (R0_0.gr fB)) rfl rfl rfl ?_
 refine ol_val (v := .int .i64 (IntKind.i64.wrap (Int.tdiv (List.length a0.cells : Int) 8))) (xr_quo rfl rfl rfl (by decide)) rfl rfl rfl ?_
 refine ol_val (v := .int .i64 (IntKind.i64.wrap (Int.tdiv (List.length a0.cells : Int) 8))) (xr_assign rfl rfl) rfl rfl rfl ?_
 refine ol_nil ?_
 refine cw_ret ?_
 repeat (first | with_reducible refine thn_r ?_ | with_reducible refine blk_r ?_)
 obtain rfl := Option.some.inj h
 refine fin_ret1 Try.results43 rfl ?_
 exact ⟨_, rfl, rfl, fB⟩
def pmem_Device_Flush.s0 (fu : Nat) (a1 : Int) : (Int × (List S_pmem_cell)) → Option (Sum (List S_pmem_cell) (Int × (List S_pmem_cell))) := fun s16 => (if (decide (s16.1 < 8)) = true then (if 0 ≤ (IntKind.i64.wrap ((IntKind.i64.wrap (a1 * 8)) + s16.1)) ∧ (IntKind.i64.wrap ((IntKind.i64.wrap (a1 * 8)) + s16.1)) < (List.length s16.2 : Int) then some (Sum.inr ((IntKind.i64.wrap (s16.1 + 1)), (List.set (List.set s16.2 (Int.toNat (IntKind.i64.wrap ((IntKind.i64.wrap (a1 * 8)) + s16.1))) (⟨(ix s16.2 (IntKind.i64.wrap ((IntKind.i64.wrap (a1 * 8)) + s16.1))).lasts, (ix s16.2 (IntKind.i64.wrap ((IntKind.i64.wrap (a1 * 8)) + s16.1))).stored, (ix s16.2 (IntKind.i64.wrap ((IntKind.i64.wrap (a1 * 8)) + s16.1))).stored, (ix s16.2 (IntKind.i64.wrap ((IntKind.i64.wrap (a1 * 8)) + s16.1))).flushed⟩ : S_pmem_cell)) (Int.toNat (IntKind.i64.wrap ((IntKind.i64.wrap (a1 * 8)) + s16.1))) (⟨(ix (List.set s16.2 (Int.toNat (IntKind.i64.wrap ((IntKind.i64.wrap (a1 * 8)) + s16.1))) (⟨(ix s16.2 (IntKind.i64.wrap ((IntKind.i64.wrap (a1 * 8)) + s16.1))).lasts, (ix s16.2 (IntKind.i64.wrap ((IntKind.i64.wrap (a1 * 8)) + s16.1))).stored, (ix s16.2 (IntKind.i64.wrap ((IntKind.i64.wrap (a1 * 8)) + s16.1))).stored, (ix s16.2 (IntKind.i64.wrap ((IntKind.i64.wrap (a1 * 8)) + s16.1))).flushed⟩ : S_pmem_cell)) (IntKind.i64.wrap ((IntKind.i64.wrap (a1 * 8)) + s16.1))).lasts, (ix (List.set s16.2 (Int.toNat (IntKind.i64.wrap ((IntKind.i64.wrap (a1 * 8)) + s16.1))) (⟨(ix s16.2 (IntKind.i64.wrap ((IntKind.i64.wrap (a1 * 8)) + s16.1))).lasts, (ix s16.2 (IntKind.i64.wrap ((IntKind.i64.wrap (a1 * 8)) + s16.1))).stored, (ix s16.2 (IntKind.i64.wrap ((IntKind.i64.wrap (a1 * 8)) + s16.1))).stored, (ix s16.2 (IntKind.i64.wrap ((IntKind.i64.wrap (a1 * 8)) + s16.1))).flushed⟩ : S_pmem_cell)) (IntKind.i64.wrap ((IntKind.i64.wrap (a1 * 8)) + s16.1))).stored, (ix (List.set s16.2 (Int.toNat (IntKind.i64.wrap ((IntKind.i64.wrap (a1 * 8)) + s16.1))) (⟨(ix s16.2 (IntKind.i64.wrap ((IntKind.i64.wrap (a1 * 8)) + s16.1))).lasts, (ix s16.2 (IntKind.i64.wrap ((IntKind.i64.wrap (a1 * 8)) + s16.1))).stored, (ix s16.2 (IntKind.i64.wrap ((IntKind.i64.wrap (a1 * 8)) + s16.1))).stored, (ix s16.2 (IntKind.i64.wrap ((IntKind.i64.wrap (a1 * 8)) + s16.1))).flushed⟩ : S_pmem_cell)) (IntKind.i64.wrap ((IntKind.i64.wrap (a1 * 8)) + s16.1))).sent, true⟩ : S_pmem_cell)))) else none) else some (Sum.inl (s16.2)))
def pmem_Device_Flush.f (fu : Nat) (a0 : S_pmem_Device) (a1 : Int) : Option (Int × S_pmem_Device) := ((pmem_Device_Lines.f fu a0).bind fun t7 => ((pmem_Device_may.f fu a0 a1 t7).bind fun t11 => (if (!decide (t11 = 0)) = true then some (t11, a0) else ((loopM (pmem_Device_Flush.s0 fu a1) fu (0, a0.cells)).bind fun e17 => ((pmem_Device_step.f fu (⟨e17, a0.plan, a0.off, a0.armed, a0.left, a0.steps⟩ : S_pmem_Device)).bind fun t37 => some (0, t37))))))
theorem pmem_Device_Flush.ok (fu : Nat) (w : World) (a0 : S_pmem_Device) (G_0 : Nat) (V0_0 : Value) (O0_0 : Own k_pmem_cell 142 w 0 V0_0 a0.cells) (V0_1 : Value) (O0_1 : Own (kI .i64) 3 w 0 V0_1 a0.plan.list) (b_0 : Blk w G_0 139 [Seg.cell V0_0 O0_0.one, Seg.cell V0_1 O0_1.one, (sI a0.plan.at_), Seg.cell (.bool a0.off), Seg.cell (.bool a0.armed), (sI a0.left), (sI a0.steps)]) (a1 : Int) (r : Int × S_pmem_Device) (h : pmem_Device_Flush.f fu a0 a1 = some r) :
  Calls Try.prog 29 (([(pt G_0 0), .int .i64 a1] : List Value).toArray) w (fun e w' => ∃ v, e = .returned v ∧ ∃ u1 : Value, ∃ u4 : Value, ∃ o2 : Own k_pmem_cell 142 w' 0 u1 r.2.cells, ∃ m3 : ∀ g, Value.ownBlock u1 = some g → w.heap.size ≤ g ∨ (g = G_0 ∨ some g = Value.ownBlock V0_0 ∨ some g = Value.ownBlock V0_1), ∃ o5 : Own (kI .i64) 3 w' 0 u4 r.2.plan.list, ∃ m6 : ∀ g, Value.ownBlock u4 = some g → w.heap.size ≤ g ∨ (g = G_0 ∨ some g = Value.ownBlock V0_0 ∨ some g = Value.ownBlock V0_1), v = .int .i64 r.1 ∧ Blk w' G_0 139 [Seg.cell u1 o2.one, Seg.cell u4 o5.one, (sI r.2.plan.at_), Seg.cell (.bool r.2.off), Seg.cell (.bool r.2.armed), (sI r.2.left), (sI r.2.steps)] ∧ Fr (fun j => j = G_0 ∨ some j = Value.ownBlock V0_0 ∨ some j = Value.ownBlock V0_1) w w') := by
 unfold pmem_Device_Flush.f at h
 have fB : Fr (fun j => j = G_0 ∨ some j = Value.ownBlock V0_0 ∨ some j = Value.ownBlock V0_1) w w := Fr.refl _ _
 have M0_0 : ∀ g, Value.ownBlock V0_0 = some g → w.heap.size ≤ g ∨ (g = G_0 ∨ some g = Value.ownBlock V0_0 ∨ some g = Value.ownBlock V0_1) := fun g hg => .inr (.inr (.inl hg.symm))
 have M0_1 : ∀ g, Value.ownBlock V0_1 = some g → w.heap.size ≤ g ∨ (g = G_0 ∨ some g = Value.ownBlock V0_0 ∨ some g = Value.ownBlock V0_1) := fun g hg => .inr (.inr (.inr hg.symm))
 refine calls_cw Try.func29 rfl Try.ntmps29 rfl ?_
 refine cw_seq ?_
 refine cw_region ?_
 refine ol_val (v := .int .i64 0) (xr_assign rfl rfl) rfl rfl rfl ?_
 refine ol_nil ?_
 refine cw_seq ?_
 refine cw_seq ?_
 refine cw_region ?_
 refine ol_val (v := (pt G_0 0)) (xr_move rfl rfl) rfl rfl rfl ?_
 refine ol_val (v := .int .i64 a1) (xr_move rfl rfl) rfl rfl rfl ?_
 refine ol_val (v := (pt G_0 0)) (xr_move rfl rfl) rfl rfl rfl ?_
 obtain ⟨t7, k8, h⟩ := bs h
 refine ol_op (opv_call rfl cal43 (ac rfl an) (pmem_Device_Lines.ok fu _ a0 G_0 V0_0 (O0_0.rd) V0_1 (O0_1.rd) b_0 _ k8)) rfl rfl rfl ?_
 rintro _ w10 ⟨rfl, q9⟩
 have b_0 := b_0.gr q9
 have O0_0 := O0_0.gr q9
 have O0_1 := O0_1.gr q9
 have fB := fB.gr q9
 obtain ⟨t11, k12, h⟩ := bs h
 refine ol_op (opv_call rfl cal83 (ac rfl (ac rfl (ac rfl an))) (pmem_Device_may.ok fu _ a0 G_0 V0_0 (O0_0.rd) V0_1 (O0_1.rd) b_0 a1 t7 _ k12)) rfl rfl rfl ?_
 rintro _ w14 ⟨rfl, q13⟩
 have b_0 := b_0.gr q13
 have O0_0 := O0_0.gr q13
 have O0_1 := O0_1.gr q13
 have fB := fB.gr q13
 refine ol_val (v := .int .i64 t11) (xr_assign rfl rfl) rfl rfl rfl ?_
 refine ol_nil ?_
 refine cw_seq ?_
 refine cw_region ?_
 refine ol_val (v := .int .i64 t11) (xr_move rfl rfl) rfl rfl rfl ?_
 refine ol_val (v := .bool (!decide (t11 = 0))) (xr_neI rfl Try.underlying31 rfl rfl rfl) rfl rfl rfl ?_
 refine ol_nil ?_
 rcases is h with ⟨c15, h⟩ | ⟨c15, h⟩
 ·refine cw_condT rfl c15 ?_
  refine cw_seq ?_
  refine cw_region ?_
  refine ol_val (v := .int .i64 t11) (xr_move rfl rfl) rfl rfl rfl ?_
  refine ol_val (v := .int .i64 t11) (xr_assign rfl rfl) rfl rfl rfl ?_
  refine ol_nil ?_
  refine cw_ret ?_
  repeat (first | with_reducible refine thn_r ?_ | with_reducible refine blk_r ?_)
  obtain rfl := Option.some.inj h
  refine fin_ret1 Try.results29 rfl ?_
  exact ⟨_, rfl, V0_0, V0_1, O0_0, M0_0, O0_1, M0_1, rfl, b_0, fB⟩
 refine cw_condF rfl c15 ?_
 refine cw_skip ?_
 refine cw_seq ?_
 refine cw_seq ?_
 refine cw_region ?_
 refine ol_val (v := .int .i64 0) (xr_move rfl rfl) rfl rfl rfl ?_
 refine ol_nil ?_
 obtain ⟨e17, l18, h19⟩ := bs h
 refine cw_mid (fun ρ' w' => ∃ O0_0 : Own k_pmem_cell 142 w' 0 V0_0 e17, ∃ O0_1 : Own (kI .i64) 3 w' 0 V0_1 a0.plan.list, ρ' 0 = (pt G_0 0) ∧ Blk w' G_0 139 [Seg.cell V0_0 O0_0.one, Seg.cell V0_1 O0_1.one, (sI a0.plan.at_), Seg.cell (.bool a0.off), Seg.cell (.bool a0.armed), (sI a0.left), (sI a0.steps)] ∧ Fr (fun j => j = G_0 ∨ some j = Value.ownBlock V0_0 ∨ some j = Value.ownBlock V0_1) w w') ?_ ?_
 ·refine cw_block ?_
  refine cw_round (fun (s16 : Int × (List S_pmem_cell)) ρ' w' => ∃ O0_0 : Own k_pmem_cell 142 w' 0 V0_0 s16.2, ∃ O0_1 : Own (kI .i64) 3 w' 0 V0_1 a0.plan.list, ρ' 0 = (pt G_0 0) ∧ ρ' 1 = .int .i64 a1 ∧ ρ' 16 = .int .i64 s16.1 ∧ Blk w' G_0 139 [Seg.cell V0_0 O0_0.one, Seg.cell V0_1 O0_1.one, (sI a0.plan.at_), Seg.cell (.bool a0.off), Seg.cell (.bool a0.armed), (sI a0.left), (sI a0.steps)] ∧ Fr (fun j => j = G_0 ∨ some j = Value.ownBlock V0_0 ∨ some j = Value.ownBlock V0_1) w w') l18 ?_ ?_
  ·skip
   exact ⟨O0_0, O0_1, rfl, rfl, rfl, b_0, fB⟩
  rintro s16 x22 ρ20 w21 ⟨O0_0, O0_1, e0, e1, e16, b_0, fB⟩ h
  unfold pmem_Device_Flush.s0 at h
  refine cw_seq ?_
  refine cw_region ?_
  refine ol_val (v := .bool (decide (s16.1 < 8))) (xr_lss rfl e16 rfl) rfl rfl rfl ?_
  refine ol_nil ?_
  refine cw_seq ?_
  rcases is h with ⟨c23, h⟩ | ⟨c23, h⟩
  ·refine cw_condT rfl c23 ?_
   refine cw_skip ?_
   refine cw_seq ?_
   refine cw_block ?_
   refine cw_seq ?_
   refine cw_region ?_
   refine ol_val (v := .int .i64 s16.1) (xr_move rfl e16) rfl rfl rfl ?_
   refine ol_val (v := .int .i64 s16.1) (xr_assign rfl rfl) rfl rfl rfl ?_
   refine ol_nil ?_
   refine cw_seq ?_
   refine cw_region ?_
   refine ol_val (v := (pt G_0 0)) (xr_move rfl e0) rfl rfl rfl ?_
   refine ol_val (v := (pt G_0 0)) (xr_nilCheck rfl rfl) rfl rfl rfl ?_
   refine ol_val (v := (pt G_0 0)) (xr_fieldAddr (p := 0) (q := 0) rfl fl139_0 rfl) rfl rfl rfl ?_
   refine ol_val (v := V0_0) (xr_load1 (v := V0_0) rfl ag135 rfl (b_0.seg 0 rfl rfl)) rfl rfl rfl ?_
   refine ol_val (v := .int .i64 a1) (xr_move rfl e1) rfl rfl rfl ?_
   refine ol_val (v := .int .i64 (IntKind.i64.wrap (a1 * 8))) (xr_mul rfl rfl rfl) rfl rfl rfl ?_
   refine ol_val (v := .int .i64 s16.1) (xr_move rfl rfl) rfl rfl rfl ?_
   refine ol_val (v := .int .i64 (IntKind.i64.wrap ((IntKind.i64.wrap (a1 * 8)) + s16.1))) (xr_add rfl rfl rfl) rfl rfl rfl ?_
   obtain ⟨g24, h⟩ := gs h
   refine ol_val (v := (pt ((sb V0_0)) (so V0_0 + Int.toNat (IntKind.i64.wrap ((IntKind.i64.wrap (a1 * 8)) + s16.1)) * 4))) (xr_indexR (K := k_pmem_cell) (v := V0_0) rfl Try.underlying135 sz142 rfl O0_0.rd rfl g24.1 g24.2) rfl rfl rfl ?_
   refine ol_val (v := (pt ((sb V0_0)) (so V0_0 + Int.toNat (IntKind.i64.wrap ((IntKind.i64.wrap (a1 * 8)) + s16.1)) * 4))) (xr_assign rfl rfl) rfl rfl rfl ?_
   refine ol_nil ?_
   refine cw_region ?_
   refine ol_val (v := (pt ((sb V0_0)) (so V0_0 + Int.toNat (IntKind.i64.wrap ((IntKind.i64.wrap (a1 * 8)) + s16.1)) * 4))) (xr_move rfl rfl) rfl rfl rfl ?_
   refine ol_val (v := (pt ((sb V0_0)) (so V0_0 + Int.toNat (IntKind.i64.wrap ((IntKind.i64.wrap (a1 * 8)) + s16.1)) * 4))) (xr_move rfl rfl) rfl rfl rfl ?_
   refine ol_val (v := (pt ((sb V0_0)) (so V0_0 + Int.toNat (IntKind.i64.wrap ((IntKind.i64.wrap (a1 * 8)) + s16.1)) * 4))) (xr_move rfl rfl) rfl rfl rfl ?_
   refine ol_val (v := (pt ((sb V0_0)) (so V0_0 + Int.toNat (IntKind.i64.wrap ((IntKind.i64.wrap (a1 * 8)) + s16.1)) * 4))) (xr_nilCheck rfl rfl) rfl rfl rfl ?_
   refine ol_val (v := (pt ((sb V0_0)) (so V0_0 + Int.toNat (IntKind.i64.wrap ((IntKind.i64.wrap (a1 * 8)) + s16.1)) * 4 + 1))) (xr_fieldAddr (p := so V0_0 + Int.toNat (IntKind.i64.wrap ((IntKind.i64.wrap (a1 * 8)) + s16.1)) * 4) (q := 1) rfl fl142_1 rfl) rfl rfl rfl ?_
   refine ol_val (v := .int .u64 ((ix s16.2 (IntKind.i64.wrap ((IntKind.i64.wrap (a1 * 8)) + s16.1))).stored)) (xr_load1 (v := .int .u64 ((ix s16.2 (IntKind.i64.wrap ((IntKind.i64.wrap (a1 * 8)) + s16.1))).stored)) rfl ag22 rfl (At.segs (ss := segs_pmem_cell (ix s16.2 (IntKind.i64.wrap ((IntKind.i64.wrap (a1 * 8)) + s16.1)))) (O0_0.rd.elem g24.1 g24.2) 1 1 rfl)) rfl rfl rfl ?_
   refine ol_val (v := (pt ((sb V0_0)) (so V0_0 + Int.toNat (IntKind.i64.wrap ((IntKind.i64.wrap (a1 * 8)) + s16.1)) * 4))) (xr_nilCheck rfl rfl) rfl rfl rfl ?_
   refine ol_val (v := (pt ((sb V0_0)) (so V0_0 + Int.toNat (IntKind.i64.wrap ((IntKind.i64.wrap (a1 * 8)) + s16.1)) * 4 + 2))) (xr_fieldAddr (p := so V0_0 + Int.toNat (IntKind.i64.wrap ((IntKind.i64.wrap (a1 * 8)) + s16.1)) * 4) (q := 2) rfl fl142_2 rfl) rfl rfl rfl ?_
   have f26 := off_ty b_0 O0_0 (by decide)
   have f27 := OffV.ty O0_1 O0_0 (by decide)
   refine ol_op0 (opv_storeRow (z := (⟨(ix s16.2 (IntKind.i64.wrap ((IntKind.i64.wrap (a1 * 8)) + s16.1))).lasts, (ix s16.2 (IntKind.i64.wrap ((IntKind.i64.wrap (a1 * 8)) + s16.1))).stored, (ix s16.2 (IntKind.i64.wrap ((IntKind.i64.wrap (a1 * 8)) + s16.1))).stored, (ix s16.2 (IntKind.i64.wrap ((IntKind.i64.wrap (a1 * 8)) + s16.1))).flushed⟩ : S_pmem_cell)) (xs := cellsOf [Seg.cell (.int .u64 ((ix s16.2 (IntKind.i64.wrap ((IntKind.i64.wrap (a1 * 8)) + s16.1))).stored))]) rfl sz22 rfl rfl rfl (len_cellsOf _) (one_cellsOf _) O0_0 g24.1 g24.2 (Spl.segs (segs_pmem_cell (ix s16.2 (IntKind.i64.wrap ((IntKind.i64.wrap (a1 * 8)) + s16.1)))) 2 1 [Seg.cell (.int .u64 ((ix s16.2 (IntKind.i64.wrap ((IntKind.i64.wrap (a1 * 8)) + s16.1))).stored))] rfl rfl) rfl) rfl rfl ?_
   rintro _ w29 ⟨O0_0, q25⟩
   have b_0 := b_0.wrO q25 f26
   have O0_1 := O0_1.wrV q25 f27
   have fB := fB.wrM q25 M0_0
   refine ol_val (v := (pt ((sb V0_0)) (so V0_0 + Int.toNat (IntKind.i64.wrap ((IntKind.i64.wrap (a1 * 8)) + s16.1)) * 4))) (xr_nilCheck rfl rfl) rfl rfl rfl ?_
   refine ol_val (v := (pt ((sb V0_0)) (so V0_0 + Int.toNat (IntKind.i64.wrap ((IntKind.i64.wrap (a1 * 8)) + s16.1)) * 4 + 3))) (xr_fieldAddr (p := so V0_0 + Int.toNat (IntKind.i64.wrap ((IntKind.i64.wrap (a1 * 8)) + s16.1)) * 4) (q := 3) rfl fl142_3 rfl) rfl rfl rfl ?_
   have f31 := off_ty b_0 O0_0 (by decide)
   have f32 := OffV.ty O0_1 O0_0 (by decide)
   refine ol_op0 (opv_storeRow (z := (⟨(ix (List.set s16.2 (Int.toNat (IntKind.i64.wrap ((IntKind.i64.wrap (a1 * 8)) + s16.1))) (⟨(ix s16.2 (IntKind.i64.wrap ((IntKind.i64.wrap (a1 * 8)) + s16.1))).lasts, (ix s16.2 (IntKind.i64.wrap ((IntKind.i64.wrap (a1 * 8)) + s16.1))).stored, (ix s16.2 (IntKind.i64.wrap ((IntKind.i64.wrap (a1 * 8)) + s16.1))).stored, (ix s16.2 (IntKind.i64.wrap ((IntKind.i64.wrap (a1 * 8)) + s16.1))).flushed⟩ : S_pmem_cell)) (IntKind.i64.wrap ((IntKind.i64.wrap (a1 * 8)) + s16.1))).lasts, (ix (List.set s16.2 (Int.toNat (IntKind.i64.wrap ((IntKind.i64.wrap (a1 * 8)) + s16.1))) (⟨(ix s16.2 (IntKind.i64.wrap ((IntKind.i64.wrap (a1 * 8)) + s16.1))).lasts, (ix s16.2 (IntKind.i64.wrap ((IntKind.i64.wrap (a1 * 8)) + s16.1))).stored, (ix s16.2 (IntKind.i64.wrap ((IntKind.i64.wrap (a1 * 8)) + s16.1))).stored, (ix s16.2 (IntKind.i64.wrap ((IntKind.i64.wrap (a1 * 8)) + s16.1))).flushed⟩ : S_pmem_cell)) (IntKind.i64.wrap ((IntKind.i64.wrap (a1 * 8)) + s16.1))).stored, (ix (List.set s16.2 (Int.toNat (IntKind.i64.wrap ((IntKind.i64.wrap (a1 * 8)) + s16.1))) (⟨(ix s16.2 (IntKind.i64.wrap ((IntKind.i64.wrap (a1 * 8)) + s16.1))).lasts, (ix s16.2 (IntKind.i64.wrap ((IntKind.i64.wrap (a1 * 8)) + s16.1))).stored, (ix s16.2 (IntKind.i64.wrap ((IntKind.i64.wrap (a1 * 8)) + s16.1))).stored, (ix s16.2 (IntKind.i64.wrap ((IntKind.i64.wrap (a1 * 8)) + s16.1))).flushed⟩ : S_pmem_cell)) (IntKind.i64.wrap ((IntKind.i64.wrap (a1 * 8)) + s16.1))).sent, true⟩ : S_pmem_cell)) (xs := cellsOf [Seg.cell (.bool true)]) rfl sz4 rfl rfl rfl (len_cellsOf _) (one_cellsOf _) O0_0 g24.1 (by simpa only [List.length_set] using g24.2) (Spl.segs (segs_pmem_cell (ix (List.set s16.2 (Int.toNat (IntKind.i64.wrap ((IntKind.i64.wrap (a1 * 8)) + s16.1))) (⟨(ix s16.2 (IntKind.i64.wrap ((IntKind.i64.wrap (a1 * 8)) + s16.1))).lasts, (ix s16.2 (IntKind.i64.wrap ((IntKind.i64.wrap (a1 * 8)) + s16.1))).stored, (ix s16.2 (IntKind.i64.wrap ((IntKind.i64.wrap (a1 * 8)) + s16.1))).stored, (ix s16.2 (IntKind.i64.wrap ((IntKind.i64.wrap (a1 * 8)) + s16.1))).flushed⟩ : S_pmem_cell)) (IntKind.i64.wrap ((IntKind.i64.wrap (a1 * 8)) + s16.1)))) 3 1 [Seg.cell (.bool true)] rfl rfl) rfl) rfl rfl ?_
   rintro _ w34 ⟨O0_0, q30⟩
   have b_0 := b_0.wrO q30 f31
   have O0_1 := O0_1.wrV q30 f32
   have fB := fB.wrM q30 M0_0
   refine ol_nil ?_
   refine blk_i ?_
   refine cw_region ?_
   refine ol_val (v := .int .i64 (IntKind.i64.wrap (s16.1 + 1))) (xr_add rfl e16 rfl) rfl rfl rfl ?_
   refine ol_val (v := .int .i64 (IntKind.i64.wrap (s16.1 + 1))) (xr_move rfl rfl) rfl rfl rfl ?_
   refine ol_nil ?_
   obtain rfl := Option.some.inj h
   refine lp_in ?_
   exact ⟨O0_0, O0_1, e0, e1, rfl, b_0, fB⟩
  refine cw_condF rfl c23 ?_
  refine cw_exit ?_
  repeat (first | with_reducible refine thn_e ?_ | with_reducible refine blk_e rfl ?_)
  obtain rfl := Option.some.inj h
  refine lp_exit ?_
  rintro rfl
  refine thn_x ?_
  exact ⟨O0_0, O0_1, e0, b_0, fB⟩
 rintro ρ35 w36 ⟨O0_0, O0_1, e0, b_0, fB⟩
 have h := h19
 refine cw_seq ?_
 refine cw_region ?_
 refine ol_val (v := (pt G_0 0)) (xr_move rfl e0) rfl rfl rfl ?_
 obtain ⟨t37, k38, h⟩ := bs h
 have c48 : ∀ k, (k = G_0 ∨ some k = Value.ownBlock V0_0 ∨ some k = Value.ownBlock V0_1) → (w.heap.size ≤ k ∨ (k = G_0 ∨ some k = Value.ownBlock V0_0 ∨ some k = Value.ownBlock V0_1)) := (cv_or (cv_eq (.inr (.inl rfl))) (cv_or (cv_own M0_0) (cv_own M0_1)))
 refine ol_op (opv_call rfl cal84 (ac rfl an) (pmem_Device_step.ok fu _ (⟨e17, a0.plan, a0.off, a0.armed, a0.left, a0.steps⟩ : S_pmem_Device) G_0 V0_0 (Own.base O0_0 (Nat.zero_le _)) V0_1 (Own.base O0_1 (Nat.zero_le _)) b_0 _ k38)) rfl rfl rfl ?_
 rintro _ w49 ⟨u40, u44, o41, m42, o45, m46, rfl, b_0, q39⟩
 have m42 : ∀ g, Value.ownBlock u40 = some g → w.heap.size ≤ g ∨ (g = G_0 ∨ some g = Value.ownBlock V0_0 ∨ some g = Value.ownBlock V0_1) := fun g hg => (m42 g hg).elim (fun x => .inl (Nat.le_trans fB.size x)) (c48 g)
 have m46 : ∀ g, Value.ownBlock u44 = some g → w.heap.size ≤ g ∨ (g = G_0 ∨ some g = Value.ownBlock V0_0 ∨ some g = Value.ownBlock V0_1) := fun g hg => (m46 g hg).elim (fun x => .inl (Nat.le_trans fB.size x)) (c48 g)
 have fB := fB.call q39 c48
 refine ol_nil ?_
 refine cw_seq ?_
 refine cw_region ?_
 refine ol_val (v := .int .i64 0) (xr_assign rfl rfl) rfl rfl rfl ?_
 refine ol_nil ?_
 refine cw_ret ?_
 repeat (first | with_reducible refine thn_r ?_ | with_reducible refine blk_r ?_)
 obtain rfl := Option.some.inj h
 refine fin_ret1 Try.results29 rfl ?_
 exact ⟨_, rfl, u40, u44, o41, m42, o45, m46, rfl, b_0, fB⟩
def slices_Index_1.s0 (fu : Nat) (a0 : List Int) (a1 : Int) : Int → Option (Sum (Sum Int Unit) Int) := fun s1 => (if (decide (s1 < (List.length a0 : Int))) = true then (if 0 ≤ s1 ∧ s1 < (List.length a0 : Int) then (if (decide (a1 = (ix a0 s1))) = true then some (Sum.inl (Sum.inl (s1))) else some (Sum.inr ((IntKind.i64.wrap (s1 + 1))))) else none) else some (Sum.inl (Sum.inr ())))
def slices_Index_1.f (fu : Nat) (a0 : List Int) (a1 : Int) : Option Int := ((loopM (slices_Index_1.s0 fu a0 a1) fu (0)).bind fun e2 => match e2 with | Sum.inl p => some p | Sum.inr x5 => some ((-1)))
theorem slices_Index_1.ok (fu : Nat) (w : World) (a0 : List Int) (V0_0 : Value) (R0_0 : Rd (kI .u64) w V0_0 a0) (a1 : Int) (r : Int) (h : slices_Index_1.f fu a0 a1 = some r) :
  Calls Try.prog 127 (([V0_0, .int .u64 a1] : List Value).toArray) w (fun e w' => ∃ v, e = .returned v ∧ v = .int .i64 r ∧ Gr w w') := by
 unfold slices_Index_1.f at h
 have fB : Gr w w := Fr.refl _ _
 refine calls_cw Try.func127 rfl Try.ntmps127 rfl ?_
 refine cw_seq ?_
 refine cw_region ?_
 refine ol_val (v := .int .i64 0) (xr_assign rfl rfl) rfl rfl rfl ?_
 refine ol_nil ?_
 refine cw_seq ?_
 refine cw_seq ?_
 refine cw_region ?_
 refine ol_val (v := V0_0) (xr_move rfl rfl) rfl rfl rfl ?_
 refine ol_val (v := .int .i64 (List.length a0 : Int)) (xr_lenR rfl Try.underlying46 rfl (R0_0.gr fB)) rfl rfl rfl ?_
 refine ol_val (v := .int .i64 0) (xr_move rfl rfl) rfl rfl rfl ?_
 refine ol_nil ?_
 obtain ⟨e2, l3, h4⟩ := bs h
 refine cw_mid (fun ρ' w' => ∃ x5, e2 = Sum.inr x5 ∧ Gr w w') ?_ ?_
 ·refine cw_block ?_
  refine cw_round (fun (s1 : Int) ρ' w' => ρ' 0 = V0_0 ∧ ρ' 1 = .int .u64 a1 ∧ ρ' 7 = .int .i64 (List.length a0 : Int) ∧ ρ' 8 = .int .i64 s1 ∧ Gr w w') l3 ?_ ?_
  ·skip
   exact ⟨rfl, rfl, rfl, rfl, fB⟩
  rintro s1 x8 ρ6 w7 ⟨e0, e1, e7, e8, fB⟩ h
  unfold slices_Index_1.s0 at h
  refine cw_seq ?_
  refine cw_region ?_
  refine ol_val (v := .bool (decide (s1 < (List.length a0 : Int)))) (xr_lss rfl e8 e7) rfl rfl rfl ?_
  refine ol_nil ?_
  refine cw_seq ?_
  rcases is h with ⟨c9, h⟩ | ⟨c9, h⟩
  ·refine cw_condT rfl c9 ?_
   refine cw_skip ?_
   refine cw_seq ?_
   refine cw_block ?_
   refine cw_seq ?_
   refine cw_region ?_
   refine ol_val (v := .int .i64 s1) (xr_move rfl e8) rfl rfl rfl ?_
   refine ol_val (v := .int .i64 s1) (xr_assign rfl rfl) rfl rfl rfl ?_
   refine ol_nil ?_
   refine cw_seq ?_
   refine cw_region ?_
   refine ol_val (v := .int .u64 a1) (xr_move rfl e1) rfl rfl rfl ?_
   refine ol_val (v := V0_0) (xr_move rfl e0) rfl rfl rfl ?_
   refine ol_val (v := .int .i64 s1) (xr_move rfl rfl) rfl rfl rfl ?_
   obtain ⟨g10, h⟩ := gs h
   refine ol_val (v := (pt ((sb V0_0)) (so V0_0 + Int.toNat s1 * 1))) (xr_indexR (K := (kI .u64)) (v := V0_0) rfl Try.underlying46 sz22 rfl (R0_0.gr fB) rfl g10.1 g10.2) rfl rfl rfl ?_
   refine ol_val (v := .int .u64 (ix a0 s1)) (xr_load1 (v := .int .u64 (ix a0 s1)) rfl ag22 rfl ((R0_0.gr fB).elem g10.1 g10.2)) rfl rfl rfl ?_
   refine ol_val (v := .bool (decide (a1 = (ix a0 s1)))) (xr_eqI rfl Try.underlying22 rfl rfl rfl) rfl rfl rfl ?_
   refine ol_nil ?_
   rcases is h with ⟨c11, h⟩ | ⟨c11, h⟩
   ·refine cw_condT rfl c11 ?_
    refine cw_seq ?_
    refine cw_region ?_
    refine ol_val (v := .int .i64 s1) (xr_move rfl rfl) rfl rfl rfl ?_
    refine ol_val (v := .int .i64 s1) (xr_assign rfl rfl) rfl rfl rfl ?_
    refine ol_nil ?_
    refine cw_ret ?_
    repeat (first | with_reducible refine thn_r ?_ | with_reducible refine blk_r ?_)
    obtain rfl := Option.some.inj h
    refine lp_ret ?_
    rintro rfl
    repeat (first | with_reducible refine thn_r ?_ | with_reducible refine blk_r ?_)
    have h := h4
    obtain rfl := Option.some.inj h
    refine fin_ret1 Try.results127 rfl ?_
    exact ⟨_, rfl, rfl, fB⟩
   refine cw_condF rfl c11 ?_
   refine cw_skip ?_
   refine blk_i ?_
   refine cw_region ?_
   refine ol_val (v := .int .i64 (IntKind.i64.wrap (s1 + 1))) (xr_add rfl e8 rfl) rfl rfl rfl ?_
   refine ol_val (v := .int .i64 (IntKind.i64.wrap (s1 + 1))) (xr_move rfl rfl) rfl rfl rfl ?_
   refine ol_nil ?_
   obtain rfl := Option.some.inj h
   refine lp_in ?_
   exact ⟨e0, e1, e7, rfl, fB⟩
  refine cw_condF rfl c9 ?_
  refine cw_exit ?_
  repeat (first | with_reducible refine thn_e ?_ | with_reducible refine blk_e rfl ?_)
  obtain rfl := Option.some.inj h
  refine lp_exit ?_
  rintro rfl
  refine thn_x ?_
  exact ⟨_, rfl, fB⟩
 rintro ρ12 w13 ⟨x5, rfl, fB⟩
 have h := h4
 refine cw_seq ?_
 refine cw_region ?_
 refine ol_val (v := .int .i64 (-1)) (xr_assign rfl rfl) rfl rfl rfl ?_
 refine ol_nil ?_
 refine cw_ret ?_
 repeat (first | with_reducible refine thn_r ?_ | with_reducible refine blk_r ?_)
 obtain rfl := Option.some.inj h
 refine fin_ret1 Try.results127 rfl ?_
 exact ⟨_, rfl, rfl, fB⟩
def slices_Contains_1.f (fu : Nat) (a0 : List Int) (a1 : Int) : Option Bool := ((slices_Index_1.f fu a0 a1).bind fun t1 => some ((decide (t1 ≥ 0))))
theorem slices_Contains_1.ok (fu : Nat) (w : World) (a0 : List Int) (V0_0 : Value) (R0_0 : Rd (kI .u64) w V0_0 a0) (a1 : Int) (r : Bool) (h : slices_Contains_1.f fu a0 a1 = some r) :
  Calls Try.prog 100 (([V0_0, .int .u64 a1] : List Value).toArray) w (fun e w' => ∃ v, e = .returned v ∧ v = .bool r ∧ Gr w w') := by
 unfold slices_Contains_1.f at h
 have fB : Gr w w := Fr.refl _ _
 refine calls_cw Try.func100 rfl Try.ntmps100 rfl ?_
 refine cw_seq ?_
 refine cw_region ?_
 refine ol_val (v := .bool false) (xr_assign rfl rfl) rfl rfl rfl ?_
 refine ol_nil ?_
 refine cw_seq ?_
 refine cw_region ?_
 refine ol_val (v := V0_0) (xr_move rfl rfl) rfl rfl rfl ?_
 refine ol_val (v := .int .u64 a1) (xr_move rfl rfl) rfl rfl rfl ?_
 obtain ⟨t1, k2, h⟩ := bs h
 refine ol_op (opv_call rfl cal127 (ac rfl (ac rfl an)) (slices_Index_1.ok fu _ a0 V0_0 (R0_0.gr fB) a1 _ k2)) rfl rfl rfl ?_
 rintro _ w4 ⟨rfl, q3⟩
 have fB := fB.gr q3
 refine ol_val (v := .bool (decide (t1 ≥ 0))) (xr_geq rfl rfl rfl) rfl rfl rfl ?_
 refine ol_val (v := .bool (decide (t1 ≥ 0))) (xr_assign rfl rfl) rfl rfl rfl ?_
 refine ol_nil ?_
 refine cw_ret ?_
 repeat (first | with_reducible refine thn_r ?_ | with_reducible refine blk_r ?_)
 obtain rfl := Option.some.inj h
 refine fin_ret1 Try.results100 rfl ?_
 exact ⟨_, rfl, rfl, fB⟩
def fate_Values.f (fu : Nat) (a0 : S_api_Fate) : Option (List Int) := (((if (if a0.Flushed = true then (!decide (a0.Sent = a0.Lasts)) else false) = true then (if List.length [a0.Lasts] + List.length [a0.Sent] ≤ LIM then some (([a0.Lasts] ++ [a0.Sent])) else none) else some ([a0.Lasts])) : Option (List Int)).bind fun x18 => ((slices_Contains_1.f fu x18 a0.Stored).bind fun t43 => (((if (!t43) = true then (if List.length x18 + List.length [a0.Stored] ≤ LIM then some ((x18 ++ [a0.Stored])) else none) else some (x18)) : Option (List Int)).bind fun x47 => some (x47))))
theorem fate_Values.ok (fu : Nat) (w : World) (a0 : S_api_Fate) (r : (List Int)) (h : fate_Values.f fu a0 = some r) :
  Calls Try.prog 50 (([aggV [(sI a0.At), Seg.cell (.int .u64 a0.Lasts), Seg.cell (.bool a0.Flushed), Seg.cell (.int .u64 a0.Sent), Seg.cell (.int .u64 a0.Stored)]] : List Value).toArray) w (fun e w' => ∃ v, e = .returned v ∧ ∃ u1 : Value, ∃ o2 : Own (kI .u64) 22 w' w.heap.size u1 r, v = u1 ∧ Gr w w') := by
 unfold fate_Values.f at h
 have fB : Gr w w := Fr.refl _ _
 refine calls_cw Try.func50 rfl Try.ntmps50 rfl ?_
 refine cw_seq ?_
 refine cw_region ?_
 refine ol_op (opv_box (ss := [(sI a0.At), Seg.cell (.int .u64 a0.Lasts), Seg.cell (.bool a0.Flushed), Seg.cell (.int .u64 a0.Sent), Seg.cell (.int .u64 a0.Stored)]) rfl rfl rfl) rfl rfl rfl ?_
 rintro _ w9 ⟨G4, rfl, b5, q6, z7⟩
 have z7 := Nat.le_trans fB.size z7
 have fB := fB.gr q6
 refine ol_val (v := .slice none 0 0) (xr_assign rfl rfl) rfl rfl rfl ?_
 refine ol_nil ?_
 refine cw_seq ?_
 refine cw_region ?_
 refine ol_val (v := (pt G4 1)) (xr_fieldAddr (p := 0) (q := 1) rfl fl55_1 rfl) rfl rfl rfl ?_
 refine ol_val (v := .int .u64 a0.Lasts) (xr_load1 (v := .int .u64 a0.Lasts) rfl ag22 rfl (b5.seg 1 rfl rfl)) rfl rfl rfl ?_
 refine ol_op (opv_buildSlice (K := (kI .u64)) (xs := [a0.Lasts]) (vals := [.int .u64 a0.Lasts]) rfl Try.underlying46 el22 rfl rfl ⟨rfl, rfl, trivial⟩ rfl rfl rfl fB.size) rfl rfl rfl ?_
 rintro v10 w15 ⟨o12, q11, z13⟩
 have b5 := b5.gr q11
 have fB := fB.gr q11
 refine ol_val (v := v10) (xr_assign rfl rfl) rfl rfl rfl ?_
 refine ol_nil ?_
 refine cw_seq ?_
 refine cw_seq ?_
 refine cw_mid (fun ρ' w' => ρ' 1 = (pt G4 0) ∧ ρ' 3 = v10 ∧ ρ' 15 = .bool (if a0.Flushed = true then (!decide (a0.Sent = a0.Lasts)) else false) ∧ w15 = w') ?_ ?_
 ·skip
  refine cw_region ?_
  refine ol_val (v := (pt G4 2)) (xr_fieldAddr (p := 0) (q := 2) rfl fl55_2 rfl) rfl rfl rfl ?_
  refine ol_val (v := .bool a0.Flushed) (xr_load1 (v := .bool a0.Flushed) rfl ag4 rfl (b5.seg 2 rfl rfl)) rfl rfl rfl ?_
  refine ol_val (v := .bool a0.Flushed) (xr_move rfl rfl) rfl rfl rfl ?_
  rcases bt a0.Flushed with c16 | c16
  ·skip
   refine ol_gval (v := (pt G4 3)) (xr_fieldAddr (p := 0) (q := 3) rfl fl55_3 rfl) rfl rfl rfl rfl rfl c16 ?_
   refine ol_gval (v := .int .u64 a0.Sent) (xr_load1 (v := .int .u64 a0.Sent) rfl ag22 rfl (b5.seg 3 rfl rfl)) rfl rfl rfl rfl rfl c16 ?_
   refine ol_gval (v := (pt G4 1)) (xr_fieldAddr (p := 0) (q := 1) rfl fl55_1 rfl) rfl rfl rfl rfl rfl c16 ?_
   refine ol_gval (v := .int .u64 a0.Lasts) (xr_load1 (v := .int .u64 a0.Lasts) rfl ag22 rfl (b5.seg 1 rfl rfl)) rfl rfl rfl rfl rfl c16 ?_
   refine ol_gval (v := .bool (!decide (a0.Sent = a0.Lasts))) (xr_neI rfl Try.underlying22 rfl rfl rfl) rfl rfl rfl rfl rfl c16 ?_
   refine ol_val (v := .bool (!decide (a0.Sent = a0.Lasts))) (xr_pickT rfl rfl c16 rfl) rfl rfl rfl ?_
   refine ol_nil ?_
   refine thn_i ?_
   exact ⟨rfl, rfl, (rfl).trans (congrArg (fun z => (.bool z : Value)) (show (!decide (a0.Sent = a0.Lasts)) = (if a0.Flushed = true then (!decide (a0.Sent = a0.Lasts)) else false) from by rw [ite_t c16])), rfl⟩
  refine ol_gskip rfl rfl rfl rfl rfl c16 ?_
  refine ol_gskip rfl rfl rfl rfl rfl c16 ?_
  refine ol_gskip rfl rfl rfl rfl rfl c16 ?_
  refine ol_gskip rfl rfl rfl rfl rfl c16 ?_
  refine ol_gskip rfl rfl rfl rfl rfl c16 ?_
  refine ol_val (v := .bool false) (xr_pickF rfl rfl c16 rfl) rfl rfl rfl ?_
  refine ol_nil ?_
  refine thn_i ?_
  exact ⟨rfl, rfl, (rfl).trans (congrArg (fun z => (.bool z : Value)) (show false = (if a0.Flushed = true then (!decide (a0.Sent = a0.Lasts)) else false) from by rw [ite_f c16])), rfl⟩
 rintro ρ17 _ ⟨e1, e3, e15, rfl⟩
 obtain ⟨x18, j19, h20⟩ := bs h
 refine cw_mid (fun ρ' w' => ∃ v21 : Value, ∃ o22 : Own (kI .u64) 22 w' w.heap.size v21 x18, ρ' 1 = (pt G4 0) ∧ ρ' 3 = v21 ∧ Blk w' G4 55 [(sI a0.At), Seg.cell (.int .u64 a0.Lasts), Seg.cell (.bool a0.Flushed), Seg.cell (.int .u64 a0.Sent), Seg.cell (.int .u64 a0.Stored)] ∧ Gr w w') ?_ ?_
 ·have h := j19
  rcases is h with ⟨c24, h⟩ | ⟨c24, h⟩
  ·refine cw_condT e15 c24 ?_
   refine cw_region ?_
   refine ol_val (v := v10) (xr_move rfl e3) rfl rfl rfl ?_
   refine ol_val (v := (pt G4 3)) (xr_fieldAddr (p := 0) (q := 3) rfl fl55_3 e1) rfl rfl rfl ?_
   refine ol_val (v := .int .u64 a0.Sent) (xr_load1 (v := .int .u64 a0.Sent) rfl ag22 rfl (b5.seg 3 rfl rfl)) rfl rfl rfl ?_
   refine ol_op (opv_buildSlice (K := (kI .u64)) (xs := [a0.Sent]) (vals := [.int .u64 a0.Sent]) rfl Try.underlying46 el22 rfl rfl ⟨rfl, rfl, trivial⟩ rfl rfl rfl fB.size) rfl rfl rfl ?_
   rintro v25 w30 ⟨o27, q26, z28⟩
   have a31 := OffV.new o12 z28
   have b5 := b5.gr q26
   have o12 := o12.gr q26
   have fB := fB.gr q26
   obtain ⟨g36, h⟩ := gs h
   have f38 := off_ty b5 o12 (by decide)
   have f39 := o12.geO
   refine ol_op (opv_append (K := (kI .u64)) rfl Try.underlying46 el22 rfl rfl rfl rfl rfl o12 o27.rd g36 fB.size) rfl rfl rfl ?_
   rintro v32 w40 ⟨o33, q34, n35⟩
   have b5 := b5.wrO q34 f38
   have fB := fB.wrO q34 f39
   refine ol_val (v := v32) (xr_assign rfl rfl) rfl rfl rfl ?_
   refine ol_nil ?_
   obtain rfl := Option.some.inj h
   refine thn_i ?_
   exact ⟨v32, o33, e1, rfl, b5, fB⟩
  refine cw_condF e15 c24 ?_
  refine cw_skip ?_
  obtain rfl := Option.some.inj h
  refine thn_i ?_
  exact ⟨v10, o12, e1, e3, b5, fB⟩
 rintro ρ41 w42 ⟨v21, o22, e1, e3, b5, fB⟩
 have h := h20
 refine cw_seq ?_
 refine cw_seq ?_
 refine cw_region ?_
 refine ol_val (v := v21) (xr_move rfl e3) rfl rfl rfl ?_
 refine ol_val (v := (pt G4 4)) (xr_fieldAddr (p := 0) (q := 4) rfl fl55_4 e1) rfl rfl rfl ?_
 refine ol_val (v := .int .u64 a0.Stored) (xr_load1 (v := .int .u64 a0.Stored) rfl ag22 rfl (b5.seg 4 rfl rfl)) rfl rfl rfl ?_
 obtain ⟨t43, k44, h⟩ := bs h
 refine ol_op (opv_call rfl cal100 (ac rfl (ac rfl an)) (slices_Contains_1.ok fu _ x18 v21 (o22.rd) a0.Stored _ k44)) rfl rfl rfl ?_
 rintro _ w46 ⟨rfl, q45⟩
 have b5 := b5.gr q45
 have o22 := o22.gr q45
 have fB := fB.gr q45
 refine ol_val (v := .bool (!t43)) (xr_not rfl rfl) rfl rfl rfl ?_
 refine ol_nil ?_
 obtain ⟨x47, j48, h49⟩ := bs h
 refine cw_mid (fun ρ' w' => ∃ v50 : Value, ∃ o51 : Own (kI .u64) 22 w' w.heap.size v50 x47, ρ' 3 = v50 ∧ Gr w w') ?_ ?_
 ·have h := j48
  rcases is h with ⟨c53, h⟩ | ⟨c53, h⟩
  ·refine cw_condT rfl c53 ?_
   refine cw_region ?_
   refine ol_val (v := v21) (xr_move rfl e3) rfl rfl rfl ?_
   refine ol_val (v := (pt G4 4)) (xr_fieldAddr (p := 0) (q := 4) rfl fl55_4 e1) rfl rfl rfl ?_
   refine ol_val (v := .int .u64 a0.Stored) (xr_load1 (v := .int .u64 a0.Stored) rfl ag22 rfl (b5.seg 4 rfl rfl)) rfl rfl rfl ?_
   refine ol_op (opv_buildSlice (K := (kI .u64)) (xs := [a0.Stored]) (vals := [.int .u64 a0.Stored]) rfl Try.underlying46 el22 rfl rfl ⟨rfl, rfl, trivial⟩ rfl rfl rfl fB.size) rfl rfl rfl ?_
   rintro v54 w59 ⟨o56, q55, z57⟩
   have a60 := OffV.new o22 z57
   have o22 := o22.gr q55
   have fB := fB.gr q55
   obtain ⟨g65, h⟩ := gs h
   have f67 := o22.geO
   refine ol_op (opv_append (K := (kI .u64)) rfl Try.underlying46 el22 rfl rfl rfl rfl rfl o22 o56.rd g65 fB.size) rfl rfl rfl ?_
   rintro v61 w68 ⟨o62, q63, n64⟩
   have fB := fB.wrO q63 f67
   refine ol_val (v := v61) (xr_assign rfl rfl) rfl rfl rfl ?_
   refine ol_nil ?_
   obtain rfl := Option.some.inj h
   refine thn_i ?_
   exact ⟨v61, o62, rfl, fB⟩
  refine cw_condF rfl c53 ?_
  refine cw_skip ?_
  obtain rfl := Option.some.inj h
  refine thn_i ?_
  exact ⟨v21, o22, e3, fB⟩
 rintro ρ69 w70 ⟨v50, o51, e3, fB⟩
 have h := h49
 refine cw_seq ?_
 refine cw_region ?_
 refine ol_val (v := v50) (xr_move rfl e3) rfl rfl rfl ?_
 refine ol_val (v := v50) (xr_assign rfl rfl) rfl rfl rfl ?_
 refine ol_nil ?_
 refine cw_ret ?_
 repeat (first | with_reducible refine thn_r ?_ | with_reducible refine blk_r ?_)
 obtain rfl := Option.some.inj h
 refine fin_ret1 Try.results50 rfl ?_
 exact ⟨_, rfl, v50, o51, rfl, fB⟩
end Go.Proofs.Ytklhbaghbmndeaa
