/- Records, their cells, closed facts on the program: written by gen.py. -/
import Derived.Test.YtjhajfkfhdnciaaProg
import Derived.Test.YtjhajfkfhdnciaaXBuild
import Derived.KernelRfl
set_option linter.unusedVariables false
namespace Go.Proofs.Ytjhajfkfhdnciaa
open Go Go.Xw
structure S_api_Handle where
  Slot : Int
  Gen : Int
deriving DecidableEq, Inhabited
def segs_api_Handle (x : S_api_Handle) : List Seg := [Seg.cell (.int .i64 x.Slot), Seg.cell (.int .i64 x.Gen)]
def k_api_Handle : Kd S_api_Handle := kT segs_api_Handle 2 (fun _ => rfl)
structure S_api_Entry where
  Handle : S_api_Handle
  Key : Int
  Value : Int
deriving DecidableEq, Inhabited
def segs_api_Entry (x : S_api_Entry) : List Seg := [Seg.cell (.int .i64 x.Handle.Slot), Seg.cell (.int .i64 x.Handle.Gen), Seg.cell (.int .i64 x.Key), Seg.cell (.int .i64 x.Value)]
def k_api_Entry : Kd S_api_Entry := kT segs_api_Entry 4 (fun _ => rfl)
structure S_api_Node where
  Entry : S_api_Entry
  Kids : List Int
deriving DecidableEq, Inhabited
structure S_api_Seat where
  Live : Bool
  Gen : Int
  Next : Int
deriving DecidableEq, Inhabited
def segs_api_Seat (x : S_api_Seat) : List Seg := [Seg.cell (.bool x.Live), Seg.cell (.int .i64 x.Gen), Seg.cell (.int .i64 x.Next)]
def k_api_Seat : Kd S_api_Seat := kT segs_api_Seat 3 (fun _ => rfl)
structure S_api_Leaf where
  Seats : Arr 7 S_api_Seat
deriving DecidableEq, Inhabited
def segs_api_Leaf (x : S_api_Leaf) : List Seg := [Kd.seg (kA 7 k_api_Seat) x.Seats]
def k_api_Leaf : Kd S_api_Leaf := kT segs_api_Leaf 21 (fun _ => rfl)
structure S_api_Fan where
  Kids : Arr 16 Int
deriving DecidableEq, Inhabited
def segs_api_Fan (x : S_api_Fan) : List Seg := [Kd.seg (kA 16 (kI .i64)) x.Kids]
def k_api_Fan : Kd S_api_Fan := kT segs_api_Fan 16 (fun _ => rfl)
structure S_api_Chart where
  Place : Int
  Bits : Arr 48 Int
deriving DecidableEq, Inhabited
def segs_api_Chart (x : S_api_Chart) : List Seg := [Seg.cell (.int .i64 x.Place), Kd.seg (kA 48 (kI .u8)) x.Bits]
def k_api_Chart : Kd S_api_Chart := kT segs_api_Chart 49 (fun _ => rfl)
structure S_api_Queue where
  Name : List UInt8
  Count : Int
  Roots : Arr 12 Int
deriving DecidableEq, Inhabited
def segs_api_Queue (x : S_api_Queue) : List Seg := [Seg.cell (sv x.Name), Seg.cell (.int .i64 x.Count), Kd.seg (kA 12 (kI .i64)) x.Roots]
def k_api_Queue : Kd S_api_Queue := kT segs_api_Queue 14 (fun _ => rfl)
structure S_api_Dir where
  Queues : List Int
deriving DecidableEq, Inhabited
structure S_api_Geometry where
  Blocks : Int
  Slots : Int
  Gens : Int
deriving DecidableEq, Inhabited
def segs_api_Geometry (x : S_api_Geometry) : List Seg := [Seg.cell (.int .i64 x.Blocks), Seg.cell (.int .i64 x.Slots), Seg.cell (.int .i64 x.Gens)]
def k_api_Geometry : Kd S_api_Geometry := kT segs_api_Geometry 3 (fun _ => rfl)
structure S_api_Tickets where
  Geometry : S_api_Geometry
  Top : Int
  High : Int
  Free : Int
deriving DecidableEq, Inhabited
def segs_api_Tickets (x : S_api_Tickets) : List Seg := [Seg.cell (.int .i64 x.Geometry.Blocks), Seg.cell (.int .i64 x.Geometry.Slots), Seg.cell (.int .i64 x.Geometry.Gens), Seg.cell (.int .i64 x.Top), Seg.cell (.int .i64 x.High), Seg.cell (.int .i64 x.Free)]
def k_api_Tickets : Kd S_api_Tickets := kT segs_api_Tickets 6 (fun _ => rfl)
structure S_api_Super where
  Epoch : Int
  Tickets : S_api_Tickets
  Dir : Int
  Charts : List Int
deriving DecidableEq, Inhabited
structure S_super_reader where
  rest : List Int
deriving DecidableEq, Inhabited
structure S_name_span where
  first : Int
  last : Int
deriving DecidableEq, Inhabited
def segs_name_span (x : S_name_span) : List Seg := [Seg.cell (.int .i32 x.first), Seg.cell (.int .i32 x.last)]
def k_name_span : Kd S_name_span := kT segs_name_span 2 (fun _ => rfl)
theorem el5 : elB Try.prog 5 = some (some (.int .u8 (0 : Int)), 1, 1) := by kernel_rfl
theorem sz5 : szB Try.prog 5 = some 1 := by kernel_rfl
theorem el22 : elB Try.prog 22 = some (some (.slice none 0 0), 1, 24) := by kernel_rfl
theorem ze158 : (Try.prog.info? 158).map (·.zero) = some (some (aggV [Kd.seg (kA 16 (kI .u32)) (Arr.rep 16 (0 : Int))])) := by kernel_rfl
theorem cal145 : calB Try.prog 145 = some true := by kernel_rfl
theorem sz36 : szB Try.prog 36 = some 1 := by kernel_rfl
theorem ag158 : aggB Try.prog 158 = some true := by kernel_rfl
theorem sz158 : szB Try.prog 158 = some 16 := by kernel_rfl
theorem cal129 : calB Try.prog 129 = some true := by kernel_rfl
theorem sz22 : szB Try.prog 22 = some 1 := by kernel_rfl
theorem ag22 : aggB Try.prog 22 = some false := by kernel_rfl
theorem ag5 : aggB Try.prog 5 = some false := by kernel_rfl
theorem ag36 : aggB Try.prog 36 = some false := by kernel_rfl
theorem cal130 : calB Try.prog 130 = some true := by kernel_rfl
theorem cal96 : calB Try.prog 96 = some true := by kernel_rfl
theorem cal95 : calB Try.prog 95 = some true := by kernel_rfl
theorem cal28 : calB Try.prog 28 = some true := by kernel_rfl
theorem cal135 : calB Try.prog 135 = some true := by kernel_rfl
theorem cal102 : calB Try.prog 102 = some true := by kernel_rfl
theorem cal112 : calB Try.prog 112 = some true := by kernel_rfl
theorem cal131 : calB Try.prog 131 = some true := by kernel_rfl
theorem mo : Try.prog.follows .mixedOrders = true := by kernel_rfl
theorem cal97 : calB Try.prog 97 = some true := by kernel_rfl
theorem cal33 : calB Try.prog 33 = some true := by kernel_rfl
theorem cal27 : calB Try.prog 27 = some true := by kernel_rfl
theorem cal98 : calB Try.prog 98 = some true := by kernel_rfl
theorem cal29 : calB Try.prog 29 = some true := by kernel_rfl
theorem cal31 : calB Try.prog 31 = some true := by kernel_rfl
theorem cal146 : calB Try.prog 146 = some true := by kernel_rfl
theorem cal133 : calB Try.prog 133 = some true := by kernel_rfl
theorem cal100 : calB Try.prog 100 = some true := by kernel_rfl
theorem cal132 : calB Try.prog 132 = some true := by kernel_rfl
theorem cal99 : calB Try.prog 99 = some true := by kernel_rfl
theorem cal30 : calB Try.prog 30 = some true := by kernel_rfl
theorem cal32 : calB Try.prog 32 = some true := by kernel_rfl
theorem cal34 : calB Try.prog 34 = some true := by kernel_rfl
theorem bl42_0_1 (x0 : Int) (x1 : Int) (w : World) : (Instr.build 42 ([(0, .int .i64 x0), (1, .int .i64 x1)] : List (Nat × Value)).toArray).run Try.prog w = .ok (aggV [Seg.cell (.int .i64 x0), Seg.cell (.int .i64 x1)]) w := by kernel_rfl
theorem pl44 : placesB Try.prog 44 = some [(0, 2), (2, 1), (3, 1)] := by kernel_rfl
theorem ze44 : (Try.prog.info? 44).map (·.zero) = some (some (aggV [Seg.cell (.int .i64 (0 : Int)), Seg.cell (.int .i64 (0 : Int)), Seg.cell (.int .i64 (0 : Int)), Seg.cell (.int .i64 (0 : Int))])) := by kernel_rfl
theorem el3 : elB Try.prog 3 = some (some (.int .i64 (0 : Int)), 1, 8) := by kernel_rfl
theorem pl47 : placesB Try.prog 47 = some [(0, 4), (4, 1)] := by kernel_rfl
theorem ze47 : (Try.prog.info? 47).map (·.zero) = some (some (aggV [Seg.cell (.int .i64 (0 : Int)), Seg.cell (.int .i64 (0 : Int)), Seg.cell (.int .i64 (0 : Int)), Seg.cell (.int .i64 (0 : Int)), Seg.cell (.slice none 0 0) (by rfl)])) := by kernel_rfl
theorem sz47 : szB Try.prog 47 = some 5 := by kernel_rfl
theorem ag47 : aggB Try.prog 47 = some true := by kernel_rfl
theorem fl47_0 : fldB Try.prog 47 0 = some 0 := by kernel_rfl
theorem fl44_0 : fldB Try.prog 44 0 = some 0 := by kernel_rfl
theorem ag42 : aggB Try.prog 42 = some true := by kernel_rfl
theorem sz42 : szB Try.prog 42 = some 2 := by kernel_rfl
theorem ze42 : (Try.prog.info? 42).map (·.zero) = some (some (aggV [Seg.cell (.int .i64 (0 : Int)), Seg.cell (.int .i64 (0 : Int))])) := by kernel_rfl
theorem fl42_0 : fldB Try.prog 42 0 = some 0 := by kernel_rfl
theorem ag3 : aggB Try.prog 3 = some false := by kernel_rfl
theorem fl42_1 : fldB Try.prog 42 1 = some 1 := by kernel_rfl
theorem fl47_1 : fldB Try.prog 47 1 = some 4 := by kernel_rfl
theorem ag45 : aggB Try.prog 45 = some false := by kernel_rfl
theorem ze61 : (Try.prog.info? 61).map (·.zero) = some (some (aggV [Kd.seg (kA 7 k_api_Seat) (Arr.rep 7 (⟨false, (0 : Int), (0 : Int)⟩ : S_api_Seat))])) := by kernel_rfl
theorem bl58_0_1_2 (x0 : Bool) (x1 : Int) (x2 : Int) (w : World) : (Instr.build 58 ([(0, .bool x0), (1, .int .i64 x1), (2, .int .i64 x2)] : List (Nat × Value)).toArray).run Try.prog w = .ok (aggV [Seg.cell (.bool x0), Seg.cell (.int .i64 x1), Seg.cell (.int .i64 x2)]) w := by kernel_rfl
theorem fl61_0 : fldB Try.prog 61 0 = some 0 := by kernel_rfl
theorem sz58 : szB Try.prog 58 = some 3 := by kernel_rfl
theorem ag61 : aggB Try.prog 61 = some true := by kernel_rfl
theorem sz61 : szB Try.prog 61 = some 21 := by kernel_rfl
theorem ag59 : aggB Try.prog 59 = some true := by kernel_rfl
theorem sz59 : szB Try.prog 59 = some 21 := by kernel_rfl
theorem ag58 : aggB Try.prog 58 = some true := by kernel_rfl
theorem ze58 : (Try.prog.info? 58).map (·.zero) = some (some (aggV [Seg.cell (.bool false), Seg.cell (.int .i64 (0 : Int)), Seg.cell (.int .i64 (0 : Int))])) := by kernel_rfl
theorem fl58_0 : fldB Try.prog 58 0 = some 0 := by kernel_rfl
theorem ag4 : aggB Try.prog 4 = some false := by kernel_rfl
theorem fl58_1 : fldB Try.prog 58 1 = some 1 := by kernel_rfl
theorem cal111 : calB Try.prog 111 = some true := by kernel_rfl
theorem fl58_2 : fldB Try.prog 58 2 = some 2 := by kernel_rfl
theorem cal47 : calB Try.prog 47 = some true := by kernel_rfl
theorem cal49 : calB Try.prog 49 = some true := by kernel_rfl
theorem bl61_  (w : World) : (Instr.build 61 ([] : List (Nat × Value)).toArray).run Try.prog w = .ok (aggV [Kd.seg (kA 7 k_api_Seat) (Arr.rep 7 (⟨false, (0 : Int), (0 : Int)⟩ : S_api_Seat))]) w := by kernel_rfl
theorem cal51 : calB Try.prog 51 = some true := by kernel_rfl
theorem bl73_  (w : World) : (Instr.build 73 ([] : List (Nat × Value)).toArray).run Try.prog w = .ok (aggV [Kd.seg (kA 16 (kI .i64)) (Arr.rep 16 (0 : Int))]) w := by kernel_rfl
theorem ag73 : aggB Try.prog 73 = some true := by kernel_rfl
theorem sz73 : szB Try.prog 73 = some 16 := by kernel_rfl
theorem fl73_0 : fldB Try.prog 73 0 = some 0 := by kernel_rfl
theorem ag71 : aggB Try.prog 71 = some true := by kernel_rfl
theorem sz71 : szB Try.prog 71 = some 16 := by kernel_rfl
theorem sz3 : szB Try.prog 3 = some 1 := by kernel_rfl
theorem cal113 : calB Try.prog 113 = some true := by kernel_rfl
theorem cal53 : calB Try.prog 53 = some true := by kernel_rfl
theorem eqa58 : EqA Try.prog 58 k_api_Seat 2 := by
  refine eqa_struct Try.underlying58 Try.stoodInHeld58 ?_
  intro d w a b
  have e : decide (a = b) = (decide (a.Live = b.Live) && (decide (a.Gen = b.Gen) && (decide (a.Next = b.Next) && true))) := by
    cases a
    cases b
    rw [Bool.eq_iff_iff]
    simp
  rw [e]
  refine eqf_cons (by decide) (by exact (eqk_bool Try.underlying4) (d + 0) w _ _ _ a.Live b.Live ((chunk_segs (segs_api_Seat a) 0 1 rfl rfl)) ((chunk_segs (segs_api_Seat b) 0 1 rfl rfl))) ?_
  refine eqf_cons (by decide) (by exact (eqk_int Try.underlying3) (d + 0) w _ _ _ a.Gen b.Gen ((chunk_segs (segs_api_Seat a) 1 1 rfl rfl)) ((chunk_segs (segs_api_Seat b) 1 1 rfl rfl))) ?_
  refine eqf_cons (by decide) (by exact (eqk_int Try.underlying3) (d + 0) w _ _ _ a.Next b.Next ((chunk_segs (segs_api_Seat a) 2 1 rfl rfl)) ((chunk_segs (segs_api_Seat b) 2 1 rfl rfl))) ?_
  exact eqf_nil
theorem eqa59 : EqA Try.prog 59 (kA 7 k_api_Seat) 3 := eqa_arr' Try.underlying59 sz58 rfl (eqk_of ag58 sz58 rfl eqa58)
theorem eqa61 : EqA Try.prog 61 k_api_Leaf 4 := by
  refine eqa_struct Try.underlying61 Try.stoodInHeld61 ?_
  intro d w a b
  have e : decide (a = b) = (decide (a.Seats = b.Seats) && true) := by
    cases a
    cases b
    rw [Bool.eq_iff_iff]
    simp
  rw [e]
  refine eqf_cons (by decide) (by exact (eqk_of ag59 sz59 rfl eqa59) (d + 0) w _ _ _ a.Seats b.Seats ((chunk_segs (segs_api_Leaf a) 0 1 rfl rfl).trans (List.append_nil _)) ((chunk_segs (segs_api_Leaf b) 0 1 rfl rfl).trans (List.append_nil _))) ?_
  exact eqf_nil
theorem cal52 : calB Try.prog 52 = some true := by kernel_rfl
theorem ze71 : (Try.prog.info? 71).map (·.zero) = some (some (aggV [Kd.seg (kA 16 (kI .i64)) (Arr.rep 16 (0 : Int))])) := by kernel_rfl
theorem eqa71 : EqA Try.prog 71 (kA 16 (kI .i64)) 2 := eqa_arr' Try.underlying71 sz3 rfl (eqk_int Try.underlying3)
theorem cal56 : calB Try.prog 56 = some true := by kernel_rfl
theorem cal46 : calB Try.prog 46 = some true := by kernel_rfl
theorem cal107 : calB Try.prog 107 = some true := by kernel_rfl
theorem cal48 : calB Try.prog 48 = some true := by kernel_rfl
theorem cal50 : calB Try.prog 50 = some true := by kernel_rfl
theorem cal54 : calB Try.prog 54 = some true := by kernel_rfl
theorem ze73 : (Try.prog.info? 73).map (·.zero) = some (some (aggV [Kd.seg (kA 16 (kI .i64)) (Arr.rep 16 (0 : Int))])) := by kernel_rfl
theorem cal55 : calB Try.prog 55 = some true := by kernel_rfl
theorem eqa73 : EqA Try.prog 73 k_api_Fan 3 := by
  refine eqa_struct Try.underlying73 Try.stoodInHeld73 ?_
  intro d w a b
  have e : decide (a = b) = (decide (a.Kids = b.Kids) && true) := by
    cases a
    cases b
    rw [Bool.eq_iff_iff]
    simp
  rw [e]
  refine eqf_cons (by decide) (by exact (eqk_of ag71 sz71 rfl eqa71) (d + 0) w _ _ _ a.Kids b.Kids ((chunk_segs (segs_api_Fan a) 0 1 rfl rfl).trans (List.append_nil _)) ((chunk_segs (segs_api_Fan b) 0 1 rfl rfl).trans (List.append_nil _))) ?_
  exact eqf_nil
theorem cal136 : calB Try.prog 136 = some true := by kernel_rfl
theorem cal103 : calB Try.prog 103 = some true := by kernel_rfl
theorem cal57 : calB Try.prog 57 = some true := by kernel_rfl
theorem cal58 : calB Try.prog 58 = some true := by kernel_rfl
theorem bl81_0 (x0 : Int) (w : World) : (Instr.build 81 ([(0, .int .i64 x0)] : List (Nat × Value)).toArray).run Try.prog w = .ok (aggV [Seg.cell (.int .i64 x0), Kd.seg (kA 48 (kI .u8)) (Arr.rep 48 (0 : Int))]) w := by kernel_rfl
theorem ze81 : (Try.prog.info? 81).map (·.zero) = some (some (aggV [Seg.cell (.int .i64 (0 : Int)), Kd.seg (kA 48 (kI .u8)) (Arr.rep 48 (0 : Int))])) := by kernel_rfl
theorem ag81 : aggB Try.prog 81 = some true := by kernel_rfl
theorem sz81 : szB Try.prog 81 = some 49 := by kernel_rfl
theorem fl81_0 : fldB Try.prog 81 0 = some 0 := by kernel_rfl
theorem cal115 : calB Try.prog 115 = some true := by kernel_rfl
theorem cal114 : calB Try.prog 114 = some true := by kernel_rfl
theorem bl81_  (w : World) : (Instr.build 81 ([] : List (Nat × Value)).toArray).run Try.prog w = .ok (aggV [Seg.cell (.int .i64 (0 : Int)), Kd.seg (kA 48 (kI .u8)) (Arr.rep 48 (0 : Int))]) w := by kernel_rfl
theorem fl81_1 : fldB Try.prog 81 1 = some 1 := by kernel_rfl
theorem cal60 : calB Try.prog 60 = some true := by kernel_rfl
theorem cal65 : calB Try.prog 65 = some true := by kernel_rfl
theorem ag79 : aggB Try.prog 79 = some true := by kernel_rfl
theorem sz79 : szB Try.prog 79 = some 48 := by kernel_rfl
theorem cal116 : calB Try.prog 116 = some true := by kernel_rfl
theorem cal68 : calB Try.prog 68 = some true := by kernel_rfl
theorem cal59 : calB Try.prog 59 = some true := by kernel_rfl
theorem cal61 : calB Try.prog 61 = some true := by kernel_rfl
theorem eqa79 : EqA Try.prog 79 (kA 48 (kI .u8)) 2 := eqa_arr' Try.underlying79 sz5 rfl (eqk_int Try.underlying5)
theorem eqa81 : EqA Try.prog 81 k_api_Chart 3 := by
  refine eqa_struct Try.underlying81 Try.stoodInHeld81 ?_
  intro d w a b
  have e : decide (a = b) = (decide (a.Place = b.Place) && (decide (a.Bits = b.Bits) && true)) := by
    cases a
    cases b
    rw [Bool.eq_iff_iff]
    simp
  rw [e]
  refine eqf_cons (by decide) (by exact (eqk_int Try.underlying3) (d + 1) w _ _ _ a.Place b.Place ((chunk_segs (segs_api_Chart a) 0 1 rfl rfl)) ((chunk_segs (segs_api_Chart b) 0 1 rfl rfl))) ?_
  refine eqf_cons (by decide) (by exact (eqk_of ag79 sz79 rfl eqa79) (d + 0) w _ _ _ a.Bits b.Bits ((chunk_segs (segs_api_Chart a) 1 1 rfl rfl).trans (List.append_nil _)) ((chunk_segs (segs_api_Chart b) 1 1 rfl rfl).trans (List.append_nil _))) ?_
  exact eqf_nil
theorem cal62 : calB Try.prog 62 = some true := by kernel_rfl
theorem cal63 : calB Try.prog 63 = some true := by kernel_rfl
theorem cal64 : calB Try.prog 64 = some true := by kernel_rfl
theorem cal67 : calB Try.prog 67 = some true := by kernel_rfl
theorem cal66 : calB Try.prog 66 = some true := by kernel_rfl
theorem cal69 : calB Try.prog 69 = some true := by kernel_rfl
theorem cal72 : calB Try.prog 72 = some true := by kernel_rfl
theorem cal70 : calB Try.prog 70 = some true := by kernel_rfl
theorem cal71 : calB Try.prog 71 = some true := by kernel_rfl
theorem bl98_0_1 (x0 : List UInt8) (x1 : Int) (w : World) : (Instr.build 98 ([(0, sv x0), (1, .int .i64 x1)] : List (Nat × Value)).toArray).run Try.prog w = .ok (aggV [Seg.cell (sv x0), Seg.cell (.int .i64 x1), Kd.seg (kA 12 (kI .i64)) (Arr.rep 12 (0 : Int))]) w := by kernel_rfl
theorem ze98 : (Try.prog.info? 98).map (·.zero) = some (some (aggV [Seg.cell (sv []), Seg.cell (.int .i64 (0 : Int)), Kd.seg (kA 12 (kI .i64)) (Arr.rep 12 (0 : Int))])) := by kernel_rfl
theorem sz98 : szB Try.prog 98 = some 14 := by kernel_rfl
theorem fl98_2 : fldB Try.prog 98 2 = some 2 := by kernel_rfl
theorem ag98 : aggB Try.prog 98 = some true := by kernel_rfl
theorem fl98_0 : fldB Try.prog 98 0 = some 0 := by kernel_rfl
theorem ag9 : aggB Try.prog 9 = some false := by kernel_rfl
theorem pl120 : placesB Try.prog 120 = some [(0, 1), (1, 6), (7, 1), (8, 1)] := by kernel_rfl
theorem ze120 : (Try.prog.info? 120).map (·.zero) = some (some (aggV [Seg.cell (.int .i64 (0 : Int)), Seg.cell (.int .i64 (0 : Int)), Seg.cell (.int .i64 (0 : Int)), Seg.cell (.int .i64 (0 : Int)), Seg.cell (.int .i64 (0 : Int)), Seg.cell (.int .i64 (0 : Int)), Seg.cell (.int .i64 (0 : Int)), Seg.cell (.int .i64 (0 : Int)), Seg.cell (.slice none 0 0) (by rfl)])) := by kernel_rfl
theorem sz120 : szB Try.prog 120 = some 9 := by kernel_rfl
theorem bl116_0_1_2 (x0 : Int) (x1 : Int) (x2 : Int) (w : World) : (Instr.build 116 ([(0, .int .i64 x0), (1, .int .i64 x1), (2, .int .i64 x2)] : List (Nat × Value)).toArray).run Try.prog w = .ok (aggV [Seg.cell (.int .i64 x0), Seg.cell (.int .i64 x1), Seg.cell (.int .i64 x2)]) w := by kernel_rfl
theorem fl120_1 : fldB Try.prog 120 1 = some 1 := by kernel_rfl
theorem fl118_0 : fldB Try.prog 118 0 = some 0 := by kernel_rfl
theorem sz116 : szB Try.prog 116 = some 3 := by kernel_rfl
theorem ag120 : aggB Try.prog 120 = some true := by kernel_rfl
theorem fl120_0 : fldB Try.prog 120 0 = some 0 := by kernel_rfl
theorem ag116 : aggB Try.prog 116 = some true := by kernel_rfl
theorem fl116_0 : fldB Try.prog 116 0 = some 0 := by kernel_rfl
theorem fl116_1 : fldB Try.prog 116 1 = some 1 := by kernel_rfl
theorem fl116_2 : fldB Try.prog 116 2 = some 2 := by kernel_rfl
theorem cal126 : calB Try.prog 126 = some true := by kernel_rfl
theorem fl118_2 : fldB Try.prog 118 2 = some 4 := by kernel_rfl
theorem fl118_3 : fldB Try.prog 118 3 = some 5 := by kernel_rfl
theorem bl47_  (w : World) : (Instr.build 47 ([] : List (Nat × Value)).toArray).run Try.prog w = .ok (aggV [Seg.cell (.int .i64 (0 : Int)), Seg.cell (.int .i64 (0 : Int)), Seg.cell (.int .i64 (0 : Int)), Seg.cell (.int .i64 (0 : Int)), Seg.cell (.slice none 0 0) (by rfl)]) w := by kernel_rfl
theorem cal134 : calB Try.prog 134 = some true := by kernel_rfl
theorem cal101 : calB Try.prog 101 = some true := by kernel_rfl
theorem sz45 : szB Try.prog 45 = some 1 := by kernel_rfl
theorem cal42 : calB Try.prog 42 = some true := by kernel_rfl
theorem ag44 : aggB Try.prog 44 = some true := by kernel_rfl
theorem sz44 : szB Try.prog 44 = some 4 := by kernel_rfl
theorem fl44_1 : fldB Try.prog 44 1 = some 2 := by kernel_rfl
theorem fl44_2 : fldB Try.prog 44 2 = some 3 := by kernel_rfl
theorem cal44 : calB Try.prog 44 = some true := by kernel_rfl
theorem eqa42 : EqA Try.prog 42 k_api_Handle 2 := by
  refine eqa_struct Try.underlying42 Try.stoodInHeld42 ?_
  intro d w a b
  have e : decide (a = b) = (decide (a.Slot = b.Slot) && (decide (a.Gen = b.Gen) && true)) := by
    cases a
    cases b
    rw [Bool.eq_iff_iff]
    simp
  rw [e]
  refine eqf_cons (by decide) (by exact (eqk_int Try.underlying3) (d + 0) w _ _ _ a.Slot b.Slot ((chunk_segs (segs_api_Handle a) 0 1 rfl rfl)) ((chunk_segs (segs_api_Handle b) 0 1 rfl rfl))) ?_
  refine eqf_cons (by decide) (by exact (eqk_int Try.underlying3) (d + 0) w _ _ _ a.Gen b.Gen ((chunk_segs (segs_api_Handle a) 1 1 rfl rfl)) ((chunk_segs (segs_api_Handle b) 1 1 rfl rfl))) ?_
  exact eqf_nil
theorem eqa44 : EqA Try.prog 44 k_api_Entry 3 := by
  refine eqa_struct Try.underlying44 Try.stoodInHeld44 ?_
  intro d w a b
  have e : decide (a = b) = (decide (a.Handle = b.Handle) && (decide (a.Key = b.Key) && (decide (a.Value = b.Value) && true))) := by
    cases a
    cases b
    rw [Bool.eq_iff_iff]
    simp
  rw [e]
  refine eqf_cons (by decide) (by exact (eqk_of ag42 sz42 rfl eqa42) (d + 0) w _ _ _ a.Handle b.Handle ((chunk_segs (segs_api_Entry a) 0 2 rfl rfl)) ((chunk_segs (segs_api_Entry b) 0 2 rfl rfl))) ?_
  refine eqf_cons (by decide) (by exact (eqk_int Try.underlying3) (d + 1) w _ _ _ a.Key b.Key ((chunk_segs (segs_api_Entry a) 2 1 rfl rfl)) ((chunk_segs (segs_api_Entry b) 2 1 rfl rfl))) ?_
  refine eqf_cons (by decide) (by exact (eqk_int Try.underlying3) (d + 1) w _ _ _ a.Value b.Value ((chunk_segs (segs_api_Entry a) 3 1 rfl rfl)) ((chunk_segs (segs_api_Entry b) 3 1 rfl rfl))) ?_
  exact eqf_nil
theorem cal137 : calB Try.prog 137 = some true := by kernel_rfl
theorem cal106 : calB Try.prog 106 = some true := by kernel_rfl
theorem cal105 : calB Try.prog 105 = some true := by kernel_rfl
theorem cal110 : calB Try.prog 110 = some true := by kernel_rfl
theorem cal149 : calB Try.prog 149 = some true := by kernel_rfl
theorem cal147 : calB Try.prog 147 = some true := by kernel_rfl
theorem cal139 : calB Try.prog 139 = some true := by kernel_rfl
theorem cal140 : calB Try.prog 140 = some true := by kernel_rfl
theorem cal117 : calB Try.prog 117 = some true := by kernel_rfl
theorem fl98_1 : fldB Try.prog 98 1 = some 1 := by kernel_rfl
theorem bl98_  (w : World) : (Instr.build 98 ([] : List (Nat × Value)).toArray).run Try.prog w = .ok (aggV [Seg.cell (sv []), Seg.cell (.int .i64 (0 : Int)), Kd.seg (kA 12 (kI .i64)) (Arr.rep 12 (0 : Int))]) w := by kernel_rfl
theorem ag107 : aggB Try.prog 107 = some true := by kernel_rfl
theorem sz107 : szB Try.prog 107 = some 1 := by kernel_rfl
theorem fl107_0 : fldB Try.prog 107 0 = some 0 := by kernel_rfl
theorem cal119 : calB Try.prog 119 = some true := by kernel_rfl
theorem cal142 : calB Try.prog 142 = some true := by kernel_rfl
theorem cal122 : calB Try.prog 122 = some true := by kernel_rfl
theorem cal83 : calB Try.prog 83 = some true := by kernel_rfl
theorem ze107 : (Try.prog.info? 107).map (·.zero) = some (some (aggV [Seg.cell (.slice none 0 0) (by rfl)])) := by kernel_rfl
theorem bl107_  (w : World) : (Instr.build 107 ([] : List (Nat × Value)).toArray).run Try.prog w = .ok (aggV [Seg.cell (.slice none 0 0) (by rfl)]) w := by kernel_rfl
theorem bl98_1_0 (x1 : Int) (x0 : List UInt8) (w : World) : (Instr.build 98 ([(1, .int .i64 x1), (0, sv x0)] : List (Nat × Value)).toArray).run Try.prog w = .ok (aggV [Seg.cell (sv x0), Seg.cell (.int .i64 x1), Kd.seg (kA 12 (kI .i64)) (Arr.rep 12 (0 : Int))]) w := by kernel_rfl
theorem cal75 : calB Try.prog 75 = some true := by kernel_rfl
theorem cal78 : calB Try.prog 78 = some true := by kernel_rfl
theorem cal81 : calB Try.prog 81 = some true := by kernel_rfl
theorem bl120_  (w : World) : (Instr.build 120 ([] : List (Nat × Value)).toArray).run Try.prog w = .ok (aggV [Seg.cell (.int .i64 (0 : Int)), Seg.cell (.int .i64 (0 : Int)), Seg.cell (.int .i64 (0 : Int)), Seg.cell (.int .i64 (0 : Int)), Seg.cell (.int .i64 (0 : Int)), Seg.cell (.int .i64 (0 : Int)), Seg.cell (.int .i64 (0 : Int)), Seg.cell (.int .i64 (0 : Int)), Seg.cell (.slice none 0 0) (by rfl)]) w := by kernel_rfl
theorem pl149 : placesB Try.prog 149 = some [(0, 1)] := by kernel_rfl
theorem ze149 : (Try.prog.info? 149).map (·.zero) = some (some (aggV [Seg.cell (.slice none 0 0) (by rfl)])) := by kernel_rfl
theorem sz149 : szB Try.prog 149 = some 1 := by kernel_rfl
theorem fl149_0 : fldB Try.prog 149 0 = some 0 := by kernel_rfl
theorem cal123 : calB Try.prog 123 = some true := by kernel_rfl
theorem fl118_1 : fldB Try.prog 118 1 = some 3 := by kernel_rfl
theorem fl120_2 : fldB Try.prog 120 2 = some 7 := by kernel_rfl
theorem fl120_3 : fldB Try.prog 120 3 = some 8 := by kernel_rfl
theorem cal124 : calB Try.prog 124 = some true := by kernel_rfl
theorem cal143 : calB Try.prog 143 = some true := by kernel_rfl
theorem cal125 : calB Try.prog 125 = some true := by kernel_rfl
theorem cal90 : calB Try.prog 90 = some true := by kernel_rfl
theorem cal93 : calB Try.prog 93 = some true := by kernel_rfl
theorem eqa116 : EqA Try.prog 116 k_api_Geometry 2 := by
  refine eqa_struct Try.underlying116 Try.stoodInHeld116 ?_
  intro d w a b
  have e : decide (a = b) = (decide (a.Blocks = b.Blocks) && (decide (a.Slots = b.Slots) && (decide (a.Gens = b.Gens) && true))) := by
    cases a
    cases b
    rw [Bool.eq_iff_iff]
    simp
  rw [e]
  refine eqf_cons (by decide) (by exact (eqk_int Try.underlying3) (d + 0) w _ _ _ a.Blocks b.Blocks ((chunk_segs (segs_api_Geometry a) 0 1 rfl rfl)) ((chunk_segs (segs_api_Geometry b) 0 1 rfl rfl))) ?_
  refine eqf_cons (by decide) (by exact (eqk_int Try.underlying3) (d + 0) w _ _ _ a.Slots b.Slots ((chunk_segs (segs_api_Geometry a) 1 1 rfl rfl)) ((chunk_segs (segs_api_Geometry b) 1 1 rfl rfl))) ?_
  refine eqf_cons (by decide) (by exact (eqk_int Try.underlying3) (d + 0) w _ _ _ a.Gens b.Gens ((chunk_segs (segs_api_Geometry a) 2 1 rfl rfl)) ((chunk_segs (segs_api_Geometry b) 2 1 rfl rfl))) ?_
  exact eqf_nil
theorem ag118 : aggB Try.prog 118 = some true := by kernel_rfl
theorem sz118 : szB Try.prog 118 = some 6 := by kernel_rfl
theorem eqa118 : EqA Try.prog 118 k_api_Tickets 3 := by
  refine eqa_struct Try.underlying118 Try.stoodInHeld118 ?_
  intro d w a b
  have e : decide (a = b) = (decide (a.Geometry = b.Geometry) && (decide (a.Top = b.Top) && (decide (a.High = b.High) && (decide (a.Free = b.Free) && true)))) := by
    cases a
    cases b
    rw [Bool.eq_iff_iff]
    simp
  rw [e]
  refine eqf_cons (by decide) (by exact (eqk_of ag116 sz116 rfl eqa116) (d + 0) w _ _ _ a.Geometry b.Geometry ((chunk_segs (segs_api_Tickets a) 0 3 rfl rfl)) ((chunk_segs (segs_api_Tickets b) 0 3 rfl rfl))) ?_
  refine eqf_cons (by decide) (by exact (eqk_int Try.underlying3) (d + 1) w _ _ _ a.Top b.Top ((chunk_segs (segs_api_Tickets a) 3 1 rfl rfl)) ((chunk_segs (segs_api_Tickets b) 3 1 rfl rfl))) ?_
  refine eqf_cons (by decide) (by exact (eqk_int Try.underlying3) (d + 1) w _ _ _ a.High b.High ((chunk_segs (segs_api_Tickets a) 4 1 rfl rfl)) ((chunk_segs (segs_api_Tickets b) 4 1 rfl rfl))) ?_
  refine eqf_cons (by decide) (by exact (eqk_int Try.underlying3) (d + 1) w _ _ _ a.Free b.Free ((chunk_segs (segs_api_Tickets a) 5 1 rfl rfl)) ((chunk_segs (segs_api_Tickets b) 5 1 rfl rfl))) ?_
  exact eqf_nil
theorem sz129 : szB Try.prog 129 = some 1 := by kernel_rfl
theorem ag129 : aggB Try.prog 129 = some false := by kernel_rfl
theorem cal144 : calB Try.prog 144 = some true := by kernel_rfl
theorem ze179 : (Try.prog.info? 179).map (·.zero) = some (some (aggV [Kd.seg (kA 6 k_name_span) (Arr.rep 6 (⟨(0 : Int), (0 : Int)⟩ : S_name_span))])) := by kernel_rfl
theorem bl178_0_1 (x0 : Int) (x1 : Int) (w : World) : (Instr.build 178 ([(0, .int .i32 x0), (1, .int .i32 x1)] : List (Nat × Value)).toArray).run Try.prog w = .ok (aggV [Seg.cell (.int .i32 x0), Seg.cell (.int .i32 x1)]) w := by kernel_rfl
theorem sz178 : szB Try.prog 178 = some 2 := by kernel_rfl
theorem sz179 : szB Try.prog 179 = some 12 := by kernel_rfl
theorem ag179 : aggB Try.prog 179 = some true := by kernel_rfl
theorem cal148 : calB Try.prog 148 = some true := by kernel_rfl
theorem ag178 : aggB Try.prog 178 = some true := by kernel_rfl
theorem ze178 : (Try.prog.info? 178).map (·.zero) = some (some (aggV [Seg.cell (.int .i32 (0 : Int)), Seg.cell (.int .i32 (0 : Int))])) := by kernel_rfl
theorem fl178_0 : fldB Try.prog 178 0 = some 0 := by kernel_rfl
theorem ag21 : aggB Try.prog 21 = some false := by kernel_rfl
theorem fl178_1 : fldB Try.prog 178 1 = some 1 := by kernel_rfl
end Go.Proofs.Ytjhajfkfhdnciaa
