/- SuperOctets: texts merged, part 2 of 7. The last part proves that the law SuperOctets holds for every input. -/
import Derived.Test.YtjhajfkfhdnciaaPkSuperOctets1
import Derived.Test.YtjhajfkfhdnciaaProg
import Derived.KernelRfl
/- Records, their cells, closed facts on the program: written by gen.py. -/
set_option linter.unusedVariables false
namespace Go.Proofs.Ytjhajfkfhdnciaa
open Go Go.Xw
structure S_api_Handle where
  Slot : Int
  Gen : Int
deriving DecidableEq, Inhabited
def segs_api_Handle (x : S_api_Handle) : List Seg := [Seg.cell (.int .i64 x.Slot), Seg.cell (.int .i64 x.Gen)]
def k_api_Handle : Kd S_api_Handle := kT segs_api_Handle 2 (fun _ => rfl)
structure S_api_Entry where
  Handle : S_api_Handle
  Key : Int
  Value : Int
deriving DecidableEq, Inhabited
def segs_api_Entry (x : S_api_Entry) : List Seg := [Seg.cell (.int .i64 x.Handle.Slot), Seg.cell (.int .i64 x.Handle.Gen), Seg.cell (.int .i64 x.Key), Seg.cell (.int .i64 x.Value)]
def k_api_Entry : Kd S_api_Entry := kT segs_api_Entry 4 (fun _ => rfl)
structure S_api_Node where
  Entry : S_api_Entry
  Kids : List Int
deriving DecidableEq, Inhabited
structure S_api_Seat where
  Live : Bool
  Gen : Int
  Next : Int
deriving DecidableEq, Inhabited
def segs_api_Seat (x : S_api_Seat) : List Seg := [Seg.cell (.bool x.Live), Seg.cell (.int .i64 x.Gen), Seg.cell (.int .i64 x.Next)]
def k_api_Seat : Kd S_api_Seat := kT segs_api_Seat 3 (fun _ => rfl)
structure S_api_Leaf where
  Seats : Arr 7 S_api_Seat
deriving DecidableEq, Inhabited
def segs_api_Leaf (x : S_api_Leaf) : List Seg := [Kd.seg (kA 7 k_api_Seat) x.Seats]
def k_api_Leaf : Kd S_api_Leaf := kT segs_api_Leaf 21 (fun _ => rfl)
structure S_api_Fan where
  Kids : Arr 16 Int
deriving DecidableEq, Inhabited
def segs_api_Fan (x : S_api_Fan) : List Seg := [Kd.seg (kA 16 (kI .i64)) x.Kids]
def k_api_Fan : Kd S_api_Fan := kT segs_api_Fan 16 (fun _ => rfl)
structure S_api_Chart where
  Place : Int
  Bits : Arr 48 Int
deriving DecidableEq, Inhabited
def segs_api_Chart (x : S_api_Chart) : List Seg := [Seg.cell (.int .i64 x.Place), Kd.seg (kA 48 (kI .u8)) x.Bits]
def k_api_Chart : Kd S_api_Chart := kT segs_api_Chart 49 (fun _ => rfl)
structure S_api_Queue where
  Name : List UInt8
  Count : Int
  Roots : Arr 12 Int
deriving DecidableEq, Inhabited
def segs_api_Queue (x : S_api_Queue) : List Seg := [Seg.cell (sv x.Name), Seg.cell (.int .i64 x.Count), Kd.seg (kA 12 (kI .i64)) x.Roots]
def k_api_Queue : Kd S_api_Queue := kT segs_api_Queue 14 (fun _ => rfl)
structure S_name_span where
  first : Int
  last : Int
deriving DecidableEq, Inhabited
def segs_name_span (x : S_name_span) : List Seg := [Seg.cell (.int .i32 x.first), Seg.cell (.int .i32 x.last)]
def k_name_span : Kd S_name_span := kT segs_name_span 2 (fun _ => rfl)
structure S_api_Dir where
  Queues : List Int
deriving DecidableEq, Inhabited
structure S_api_Geometry where
  Blocks : Int
  Slots : Int
  Gens : Int
deriving DecidableEq, Inhabited
def segs_api_Geometry (x : S_api_Geometry) : List Seg := [Seg.cell (.int .i64 x.Blocks), Seg.cell (.int .i64 x.Slots), Seg.cell (.int .i64 x.Gens)]
def k_api_Geometry : Kd S_api_Geometry := kT segs_api_Geometry 3 (fun _ => rfl)
structure S_api_Tickets where
  Geometry : S_api_Geometry
  Top : Int
  High : Int
  Free : Int
deriving DecidableEq, Inhabited
def segs_api_Tickets (x : S_api_Tickets) : List Seg := [Seg.cell (.int .i64 x.Geometry.Blocks), Seg.cell (.int .i64 x.Geometry.Slots), Seg.cell (.int .i64 x.Geometry.Gens), Seg.cell (.int .i64 x.Top), Seg.cell (.int .i64 x.High), Seg.cell (.int .i64 x.Free)]
def k_api_Tickets : Kd S_api_Tickets := kT segs_api_Tickets 6 (fun _ => rfl)
structure S_api_Super where
  Epoch : Int
  Tickets : S_api_Tickets
  Dir : Int
  Charts : List Int
deriving DecidableEq, Inhabited
structure S_super_reader where
  rest : List Int
deriving DecidableEq, Inhabited
theorem el5 : elB Try.prog 5 = some (some (.int .u8 (0 : Int)), 1, 1) := by kernel_rfl
theorem sz5 : szB Try.prog 5 = some 1 := by kernel_rfl
theorem el22 : elB Try.prog 22 = some (some (.slice none 0 0), 1, 24) := by kernel_rfl
theorem ze158 : (Try.prog.info? 158).map (·.zero) = some (some (aggV [Kd.seg (kA 16 (kI .u32)) (Arr.rep 16 (0 : Int))])) := by kernel_rfl
theorem cal145 : calB Try.prog 145 = some true := by kernel_rfl
theorem sz36 : szB Try.prog 36 = some 1 := by kernel_rfl
theorem ag158 : aggB Try.prog 158 = some true := by kernel_rfl
theorem sz158 : szB Try.prog 158 = some 16 := by kernel_rfl
theorem cal129 : calB Try.prog 129 = some true := by kernel_rfl
theorem sz22 : szB Try.prog 22 = some 1 := by kernel_rfl
theorem ag22 : aggB Try.prog 22 = some false := by kernel_rfl
theorem ag5 : aggB Try.prog 5 = some false := by kernel_rfl
theorem ag36 : aggB Try.prog 36 = some false := by kernel_rfl
theorem cal130 : calB Try.prog 130 = some true := by kernel_rfl
theorem cal96 : calB Try.prog 96 = some true := by kernel_rfl
theorem cal95 : calB Try.prog 95 = some true := by kernel_rfl
theorem cal28 : calB Try.prog 28 = some true := by kernel_rfl
theorem cal135 : calB Try.prog 135 = some true := by kernel_rfl
theorem cal102 : calB Try.prog 102 = some true := by kernel_rfl
theorem cal112 : calB Try.prog 112 = some true := by kernel_rfl
theorem cal131 : calB Try.prog 131 = some true := by kernel_rfl
theorem mo : Try.prog.follows .mixedOrders = true := by kernel_rfl
theorem cal97 : calB Try.prog 97 = some true := by kernel_rfl
theorem cal33 : calB Try.prog 33 = some true := by kernel_rfl
theorem cal27 : calB Try.prog 27 = some true := by kernel_rfl
theorem cal98 : calB Try.prog 98 = some true := by kernel_rfl
theorem cal29 : calB Try.prog 29 = some true := by kernel_rfl
theorem cal31 : calB Try.prog 31 = some true := by kernel_rfl
theorem cal146 : calB Try.prog 146 = some true := by kernel_rfl
theorem cal133 : calB Try.prog 133 = some true := by kernel_rfl
theorem cal100 : calB Try.prog 100 = some true := by kernel_rfl
theorem cal132 : calB Try.prog 132 = some true := by kernel_rfl
theorem cal99 : calB Try.prog 99 = some true := by kernel_rfl
theorem cal30 : calB Try.prog 30 = some true := by kernel_rfl
theorem cal32 : calB Try.prog 32 = some true := by kernel_rfl
theorem cal34 : calB Try.prog 34 = some true := by kernel_rfl
theorem bl42_0_1 (x0 : Int) (x1 : Int) (w : World) : (Instr.build 42 ([(0, .int .i64 x0), (1, .int .i64 x1)] : List (Nat × Value)).toArray).run Try.prog w = .ok (aggV [Seg.cell (.int .i64 x0), Seg.cell (.int .i64 x1)]) w := by kernel_rfl
theorem pl44 : placesB Try.prog 44 = some [(0, 2), (2, 1), (3, 1)] := by kernel_rfl
theorem ze44 : (Try.prog.info? 44).map (·.zero) = some (some (aggV [Seg.cell (.int .i64 (0 : Int)), Seg.cell (.int .i64 (0 : Int)), Seg.cell (.int .i64 (0 : Int)), Seg.cell (.int .i64 (0 : Int))])) := by kernel_rfl
theorem el3 : elB Try.prog 3 = some (some (.int .i64 (0 : Int)), 1, 8) := by kernel_rfl
theorem pl47 : placesB Try.prog 47 = some [(0, 4), (4, 1)] := by kernel_rfl
theorem ze47 : (Try.prog.info? 47).map (·.zero) = some (some (aggV [Seg.cell (.int .i64 (0 : Int)), Seg.cell (.int .i64 (0 : Int)), Seg.cell (.int .i64 (0 : Int)), Seg.cell (.int .i64 (0 : Int)), Seg.cell (.slice none 0 0) (by rfl)])) := by kernel_rfl
theorem sz47 : szB Try.prog 47 = some 5 := by kernel_rfl
theorem ag47 : aggB Try.prog 47 = some true := by kernel_rfl
theorem fl47_0 : fldB Try.prog 47 0 = some 0 := by kernel_rfl
theorem fl44_0 : fldB Try.prog 44 0 = some 0 := by kernel_rfl
theorem ag42 : aggB Try.prog 42 = some true := by kernel_rfl
theorem sz42 : szB Try.prog 42 = some 2 := by kernel_rfl
theorem ze42 : (Try.prog.info? 42).map (·.zero) = some (some (aggV [Seg.cell (.int .i64 (0 : Int)), Seg.cell (.int .i64 (0 : Int))])) := by kernel_rfl
theorem fl42_0 : fldB Try.prog 42 0 = some 0 := by kernel_rfl
theorem ag3 : aggB Try.prog 3 = some false := by kernel_rfl
theorem fl42_1 : fldB Try.prog 42 1 = some 1 := by kernel_rfl
theorem fl47_1 : fldB Try.prog 47 1 = some 4 := by kernel_rfl
theorem ag45 : aggB Try.prog 45 = some false := by kernel_rfl
theorem sz3 : szB Try.prog 3 = some 1 := by kernel_rfl
theorem cal109 : calB Try.prog 109 = some true := by kernel_rfl
theorem cal138 : calB Try.prog 138 = some true := by kernel_rfl
theorem cal108 : calB Try.prog 108 = some true := by kernel_rfl
theorem cal43 : calB Try.prog 43 = some true := by kernel_rfl
theorem ag44 : aggB Try.prog 44 = some true := by kernel_rfl
theorem sz44 : szB Try.prog 44 = some 4 := by kernel_rfl
theorem fl44_1 : fldB Try.prog 44 1 = some 2 := by kernel_rfl
theorem fl44_2 : fldB Try.prog 44 2 = some 3 := by kernel_rfl
theorem el129 : elB Try.prog 129 = some (some (.int .u64 (0 : Int)), 1, 8) := by kernel_rfl
theorem sz129 : szB Try.prog 129 = some 1 := by kernel_rfl
theorem ag129 : aggB Try.prog 129 = some false := by kernel_rfl
theorem cal104 : calB Try.prog 104 = some true := by kernel_rfl
theorem cal39 : calB Try.prog 39 = some true := by kernel_rfl
theorem bl47_  (w : World) : (Instr.build 47 ([] : List (Nat × Value)).toArray).run Try.prog w = .ok (aggV [Seg.cell (.int .i64 (0 : Int)), Seg.cell (.int .i64 (0 : Int)), Seg.cell (.int .i64 (0 : Int)), Seg.cell (.int .i64 (0 : Int)), Seg.cell (.slice none 0 0) (by rfl)]) w := by kernel_rfl
theorem cal134 : calB Try.prog 134 = some true := by kernel_rfl
theorem cal101 : calB Try.prog 101 = some true := by kernel_rfl
theorem sz45 : szB Try.prog 45 = some 1 := by kernel_rfl
theorem cal36 : calB Try.prog 36 = some true := by kernel_rfl
theorem eqa42 : EqA Try.prog 42 k_api_Handle 2 := by
  refine eqa_struct Try.underlying42 Try.stoodInHeld42 ?_
  intro d w a b
  have e : decide (a = b) = (decide (a.Slot = b.Slot) && (decide (a.Gen = b.Gen) && true)) := by
    cases a
    cases b
    rw [Bool.eq_iff_iff]
    simp
  rw [e]
  refine eqf_cons (by decide) (by exact (eqk_int Try.underlying3) (d + 0) w _ _ _ a.Slot b.Slot ((chunk_segs (segs_api_Handle a) 0 1 rfl rfl)) ((chunk_segs (segs_api_Handle b) 0 1 rfl rfl))) ?_
  refine eqf_cons (by decide) (by exact (eqk_int Try.underlying3) (d + 0) w _ _ _ a.Gen b.Gen ((chunk_segs (segs_api_Handle a) 1 1 rfl rfl)) ((chunk_segs (segs_api_Handle b) 1 1 rfl rfl))) ?_
  exact eqf_nil
theorem eqa44 : EqA Try.prog 44 k_api_Entry 3 := by
  refine eqa_struct Try.underlying44 Try.stoodInHeld44 ?_
  intro d w a b
  have e : decide (a = b) = (decide (a.Handle = b.Handle) && (decide (a.Key = b.Key) && (decide (a.Value = b.Value) && true))) := by
    cases a
    cases b
    rw [Bool.eq_iff_iff]
    simp
  rw [e]
  refine eqf_cons (by decide) (by exact (eqk_of ag42 sz42 rfl eqa42) (d + 0) w _ _ _ a.Handle b.Handle ((chunk_segs (segs_api_Entry a) 0 2 rfl rfl)) ((chunk_segs (segs_api_Entry b) 0 2 rfl rfl))) ?_
  refine eqf_cons (by decide) (by exact (eqk_int Try.underlying3) (d + 1) w _ _ _ a.Key b.Key ((chunk_segs (segs_api_Entry a) 2 1 rfl rfl)) ((chunk_segs (segs_api_Entry b) 2 1 rfl rfl))) ?_
  refine eqf_cons (by decide) (by exact (eqk_int Try.underlying3) (d + 1) w _ _ _ a.Value b.Value ((chunk_segs (segs_api_Entry a) 3 1 rfl rfl)) ((chunk_segs (segs_api_Entry b) 3 1 rfl rfl))) ?_
  exact eqf_nil
theorem bl44_  (w : World) : (Instr.build 44 ([] : List (Nat × Value)).toArray).run Try.prog w = .ok (aggV [Seg.cell (.int .i64 (0 : Int)), Seg.cell (.int .i64 (0 : Int)), Seg.cell (.int .i64 (0 : Int)), Seg.cell (.int .i64 (0 : Int))]) w := by kernel_rfl
theorem cal137 : calB Try.prog 137 = some true := by kernel_rfl
theorem cal106 : calB Try.prog 106 = some true := by kernel_rfl
theorem cal105 : calB Try.prog 105 = some true := by kernel_rfl
theorem cal40 : calB Try.prog 40 = some true := by kernel_rfl
theorem cal35 : calB Try.prog 35 = some true := by kernel_rfl
theorem cal136 : calB Try.prog 136 = some true := by kernel_rfl
theorem cal103 : calB Try.prog 103 = some true := by kernel_rfl
theorem cal107 : calB Try.prog 107 = some true := by kernel_rfl
theorem cal42 : calB Try.prog 42 = some true := by kernel_rfl
theorem cal44 : calB Try.prog 44 = some true := by kernel_rfl
theorem cal37 : calB Try.prog 37 = some true := by kernel_rfl
theorem cal66 : calB Try.prog 66 = some true := by kernel_rfl
theorem cal38 : calB Try.prog 38 = some true := by kernel_rfl
theorem cal41 : calB Try.prog 41 = some true := by kernel_rfl
theorem cal110 : calB Try.prog 110 = some true := by kernel_rfl
theorem cal45 : calB Try.prog 45 = some true := by kernel_rfl
theorem ze61 : (Try.prog.info? 61).map (·.zero) = some (some (aggV [Kd.seg (kA 7 k_api_Seat) (Arr.rep 7 (⟨false, (0 : Int), (0 : Int)⟩ : S_api_Seat))])) := by kernel_rfl
theorem bl58_0_1_2 (x0 : Bool) (x1 : Int) (x2 : Int) (w : World) : (Instr.build 58 ([(0, .bool x0), (1, .int .i64 x1), (2, .int .i64 x2)] : List (Nat × Value)).toArray).run Try.prog w = .ok (aggV [Seg.cell (.bool x0), Seg.cell (.int .i64 x1), Seg.cell (.int .i64 x2)]) w := by kernel_rfl
theorem fl61_0 : fldB Try.prog 61 0 = some 0 := by kernel_rfl
theorem sz58 : szB Try.prog 58 = some 3 := by kernel_rfl
theorem ag61 : aggB Try.prog 61 = some true := by kernel_rfl
theorem sz61 : szB Try.prog 61 = some 21 := by kernel_rfl
theorem ag59 : aggB Try.prog 59 = some true := by kernel_rfl
theorem sz59 : szB Try.prog 59 = some 21 := by kernel_rfl
theorem ag58 : aggB Try.prog 58 = some true := by kernel_rfl
theorem ze58 : (Try.prog.info? 58).map (·.zero) = some (some (aggV [Seg.cell (.bool false), Seg.cell (.int .i64 (0 : Int)), Seg.cell (.int .i64 (0 : Int))])) := by kernel_rfl
theorem fl58_0 : fldB Try.prog 58 0 = some 0 := by kernel_rfl
theorem ag4 : aggB Try.prog 4 = some false := by kernel_rfl
theorem fl58_1 : fldB Try.prog 58 1 = some 1 := by kernel_rfl
theorem cal111 : calB Try.prog 111 = some true := by kernel_rfl
theorem fl58_2 : fldB Try.prog 58 2 = some 2 := by kernel_rfl
theorem cal47 : calB Try.prog 47 = some true := by kernel_rfl
theorem cal49 : calB Try.prog 49 = some true := by kernel_rfl
theorem bl61_  (w : World) : (Instr.build 61 ([] : List (Nat × Value)).toArray).run Try.prog w = .ok (aggV [Kd.seg (kA 7 k_api_Seat) (Arr.rep 7 (⟨false, (0 : Int), (0 : Int)⟩ : S_api_Seat))]) w := by kernel_rfl
theorem cal51 : calB Try.prog 51 = some true := by kernel_rfl
theorem bl73_  (w : World) : (Instr.build 73 ([] : List (Nat × Value)).toArray).run Try.prog w = .ok (aggV [Kd.seg (kA 16 (kI .i64)) (Arr.rep 16 (0 : Int))]) w := by kernel_rfl
theorem ag73 : aggB Try.prog 73 = some true := by kernel_rfl
theorem sz73 : szB Try.prog 73 = some 16 := by kernel_rfl
theorem fl73_0 : fldB Try.prog 73 0 = some 0 := by kernel_rfl
theorem ag71 : aggB Try.prog 71 = some true := by kernel_rfl
theorem sz71 : szB Try.prog 71 = some 16 := by kernel_rfl
theorem cal113 : calB Try.prog 113 = some true := by kernel_rfl
theorem cal53 : calB Try.prog 53 = some true := by kernel_rfl
theorem eqa58 : EqA Try.prog 58 k_api_Seat 2 := by
  refine eqa_struct Try.underlying58 Try.stoodInHeld58 ?_
  intro d w a b
  have e : decide (a = b) = (decide (a.Live = b.Live) && (decide (a.Gen = b.Gen) && (decide (a.Next = b.Next) && true))) := by
    cases a
    cases b
    rw [Bool.eq_iff_iff]
    simp
  rw [e]
  refine eqf_cons (by decide) (by exact (eqk_bool Try.underlying4) (d + 0) w _ _ _ a.Live b.Live ((chunk_segs (segs_api_Seat a) 0 1 rfl rfl)) ((chunk_segs (segs_api_Seat b) 0 1 rfl rfl))) ?_
  refine eqf_cons (by decide) (by exact (eqk_int Try.underlying3) (d + 0) w _ _ _ a.Gen b.Gen ((chunk_segs (segs_api_Seat a) 1 1 rfl rfl)) ((chunk_segs (segs_api_Seat b) 1 1 rfl rfl))) ?_
  refine eqf_cons (by decide) (by exact (eqk_int Try.underlying3) (d + 0) w _ _ _ a.Next b.Next ((chunk_segs (segs_api_Seat a) 2 1 rfl rfl)) ((chunk_segs (segs_api_Seat b) 2 1 rfl rfl))) ?_
  exact eqf_nil
theorem eqa59 : EqA Try.prog 59 (kA 7 k_api_Seat) 3 := eqa_arr' Try.underlying59 sz58 rfl (eqk_of ag58 sz58 rfl eqa58)
theorem eqa61 : EqA Try.prog 61 k_api_Leaf 4 := by
  refine eqa_struct Try.underlying61 Try.stoodInHeld61 ?_
  intro d w a b
  have e : decide (a = b) = (decide (a.Seats = b.Seats) && true) := by
    cases a
    cases b
    rw [Bool.eq_iff_iff]
    simp
  rw [e]
  refine eqf_cons (by decide) (by exact (eqk_of ag59 sz59 rfl eqa59) (d + 0) w _ _ _ a.Seats b.Seats ((chunk_segs (segs_api_Leaf a) 0 1 rfl rfl).trans (List.append_nil _)) ((chunk_segs (segs_api_Leaf b) 0 1 rfl rfl).trans (List.append_nil _))) ?_
  exact eqf_nil
theorem cal52 : calB Try.prog 52 = some true := by kernel_rfl
theorem ze71 : (Try.prog.info? 71).map (·.zero) = some (some (aggV [Kd.seg (kA 16 (kI .i64)) (Arr.rep 16 (0 : Int))])) := by kernel_rfl
theorem eqa71 : EqA Try.prog 71 (kA 16 (kI .i64)) 2 := eqa_arr' Try.underlying71 sz3 rfl (eqk_int Try.underlying3)
theorem cal56 : calB Try.prog 56 = some true := by kernel_rfl
theorem cal46 : calB Try.prog 46 = some true := by kernel_rfl
theorem cal48 : calB Try.prog 48 = some true := by kernel_rfl
theorem cal50 : calB Try.prog 50 = some true := by kernel_rfl
theorem cal54 : calB Try.prog 54 = some true := by kernel_rfl
theorem ze73 : (Try.prog.info? 73).map (·.zero) = some (some (aggV [Kd.seg (kA 16 (kI .i64)) (Arr.rep 16 (0 : Int))])) := by kernel_rfl
theorem cal55 : calB Try.prog 55 = some true := by kernel_rfl
theorem eqa73 : EqA Try.prog 73 k_api_Fan 3 := by
  refine eqa_struct Try.underlying73 Try.stoodInHeld73 ?_
  intro d w a b
  have e : decide (a = b) = (decide (a.Kids = b.Kids) && true) := by
    cases a
    cases b
    rw [Bool.eq_iff_iff]
    simp
  rw [e]
  refine eqf_cons (by decide) (by exact (eqk_of ag71 sz71 rfl eqa71) (d + 0) w _ _ _ a.Kids b.Kids ((chunk_segs (segs_api_Fan a) 0 1 rfl rfl).trans (List.append_nil _)) ((chunk_segs (segs_api_Fan b) 0 1 rfl rfl).trans (List.append_nil _))) ?_
  exact eqf_nil
theorem cal57 : calB Try.prog 57 = some true := by kernel_rfl
theorem cal58 : calB Try.prog 58 = some true := by kernel_rfl
theorem bl81_0 (x0 : Int) (w : World) : (Instr.build 81 ([(0, .int .i64 x0)] : List (Nat × Value)).toArray).run Try.prog w = .ok (aggV [Seg.cell (.int .i64 x0), Kd.seg (kA 48 (kI .u8)) (Arr.rep 48 (0 : Int))]) w := by kernel_rfl
theorem ze81 : (Try.prog.info? 81).map (·.zero) = some (some (aggV [Seg.cell (.int .i64 (0 : Int)), Kd.seg (kA 48 (kI .u8)) (Arr.rep 48 (0 : Int))])) := by kernel_rfl
theorem ag81 : aggB Try.prog 81 = some true := by kernel_rfl
theorem sz81 : szB Try.prog 81 = some 49 := by kernel_rfl
theorem fl81_0 : fldB Try.prog 81 0 = some 0 := by kernel_rfl
theorem cal115 : calB Try.prog 115 = some true := by kernel_rfl
theorem cal114 : calB Try.prog 114 = some true := by kernel_rfl
theorem bl81_  (w : World) : (Instr.build 81 ([] : List (Nat × Value)).toArray).run Try.prog w = .ok (aggV [Seg.cell (.int .i64 (0 : Int)), Kd.seg (kA 48 (kI .u8)) (Arr.rep 48 (0 : Int))]) w := by kernel_rfl
theorem fl81_1 : fldB Try.prog 81 1 = some 1 := by kernel_rfl
theorem cal60 : calB Try.prog 60 = some true := by kernel_rfl
theorem cal65 : calB Try.prog 65 = some true := by kernel_rfl
theorem ag79 : aggB Try.prog 79 = some true := by kernel_rfl
theorem sz79 : szB Try.prog 79 = some 48 := by kernel_rfl
theorem cal116 : calB Try.prog 116 = some true := by kernel_rfl
theorem cal68 : calB Try.prog 68 = some true := by kernel_rfl
theorem cal59 : calB Try.prog 59 = some true := by kernel_rfl
theorem cal61 : calB Try.prog 61 = some true := by kernel_rfl
theorem eqa79 : EqA Try.prog 79 (kA 48 (kI .u8)) 2 := eqa_arr' Try.underlying79 sz5 rfl (eqk_int Try.underlying5)
theorem eqa81 : EqA Try.prog 81 k_api_Chart 3 := by
  refine eqa_struct Try.underlying81 Try.stoodInHeld81 ?_
  intro d w a b
  have e : decide (a = b) = (decide (a.Place = b.Place) && (decide (a.Bits = b.Bits) && true)) := by
    cases a
    cases b
    rw [Bool.eq_iff_iff]
    simp
  rw [e]
  refine eqf_cons (by decide) (by exact (eqk_int Try.underlying3) (d + 1) w _ _ _ a.Place b.Place ((chunk_segs (segs_api_Chart a) 0 1 rfl rfl)) ((chunk_segs (segs_api_Chart b) 0 1 rfl rfl))) ?_
  refine eqf_cons (by decide) (by exact (eqk_of ag79 sz79 rfl eqa79) (d + 0) w _ _ _ a.Bits b.Bits ((chunk_segs (segs_api_Chart a) 1 1 rfl rfl).trans (List.append_nil _)) ((chunk_segs (segs_api_Chart b) 1 1 rfl rfl).trans (List.append_nil _))) ?_
  exact eqf_nil
theorem cal62 : calB Try.prog 62 = some true := by kernel_rfl
theorem cal63 : calB Try.prog 63 = some true := by kernel_rfl
theorem cal64 : calB Try.prog 64 = some true := by kernel_rfl
theorem cal67 : calB Try.prog 67 = some true := by kernel_rfl
theorem cal69 : calB Try.prog 69 = some true := by kernel_rfl
theorem cal72 : calB Try.prog 72 = some true := by kernel_rfl
theorem cal70 : calB Try.prog 70 = some true := by kernel_rfl
theorem cal71 : calB Try.prog 71 = some true := by kernel_rfl
theorem bl98_0_1 (x0 : List UInt8) (x1 : Int) (w : World) : (Instr.build 98 ([(0, sv x0), (1, .int .i64 x1)] : List (Nat × Value)).toArray).run Try.prog w = .ok (aggV [Seg.cell (sv x0), Seg.cell (.int .i64 x1), Kd.seg (kA 12 (kI .i64)) (Arr.rep 12 (0 : Int))]) w := by kernel_rfl
theorem ze98 : (Try.prog.info? 98).map (·.zero) = some (some (aggV [Seg.cell (sv []), Seg.cell (.int .i64 (0 : Int)), Kd.seg (kA 12 (kI .i64)) (Arr.rep 12 (0 : Int))])) := by kernel_rfl
theorem sz98 : szB Try.prog 98 = some 14 := by kernel_rfl
theorem fl98_2 : fldB Try.prog 98 2 = some 2 := by kernel_rfl
theorem ag98 : aggB Try.prog 98 = some true := by kernel_rfl
theorem fl98_0 : fldB Try.prog 98 0 = some 0 := by kernel_rfl
theorem ag9 : aggB Try.prog 9 = some false := by kernel_rfl
theorem ze179 : (Try.prog.info? 179).map (·.zero) = some (some (aggV [Kd.seg (kA 6 k_name_span) (Arr.rep 6 (⟨(0 : Int), (0 : Int)⟩ : S_name_span))])) := by kernel_rfl
theorem bl178_0_1 (x0 : Int) (x1 : Int) (w : World) : (Instr.build 178 ([(0, .int .i32 x0), (1, .int .i32 x1)] : List (Nat × Value)).toArray).run Try.prog w = .ok (aggV [Seg.cell (.int .i32 x0), Seg.cell (.int .i32 x1)]) w := by kernel_rfl
theorem sz178 : szB Try.prog 178 = some 2 := by kernel_rfl
theorem sz179 : szB Try.prog 179 = some 12 := by kernel_rfl
theorem ag179 : aggB Try.prog 179 = some true := by kernel_rfl
theorem cal148 : calB Try.prog 148 = some true := by kernel_rfl
theorem ag178 : aggB Try.prog 178 = some true := by kernel_rfl
theorem ze178 : (Try.prog.info? 178).map (·.zero) = some (some (aggV [Seg.cell (.int .i32 (0 : Int)), Seg.cell (.int .i32 (0 : Int))])) := by kernel_rfl
theorem fl178_0 : fldB Try.prog 178 0 = some 0 := by kernel_rfl
theorem ag21 : aggB Try.prog 21 = some false := by kernel_rfl
theorem fl178_1 : fldB Try.prog 178 1 = some 1 := by kernel_rfl
theorem cal141 : calB Try.prog 141 = some true := by kernel_rfl
theorem cal118 : calB Try.prog 118 = some true := by kernel_rfl
theorem fl98_1 : fldB Try.prog 98 1 = some 1 := by kernel_rfl
theorem ag96 : aggB Try.prog 96 = some true := by kernel_rfl
theorem sz96 : szB Try.prog 96 = some 12 := by kernel_rfl
theorem cal119 : calB Try.prog 119 = some true := by kernel_rfl
theorem cal76 : calB Try.prog 76 = some true := by kernel_rfl
theorem pl120 : placesB Try.prog 120 = some [(0, 1), (1, 6), (7, 1), (8, 1)] := by kernel_rfl
theorem ze120 : (Try.prog.info? 120).map (·.zero) = some (some (aggV [Seg.cell (.int .i64 (0 : Int)), Seg.cell (.int .i64 (0 : Int)), Seg.cell (.int .i64 (0 : Int)), Seg.cell (.int .i64 (0 : Int)), Seg.cell (.int .i64 (0 : Int)), Seg.cell (.int .i64 (0 : Int)), Seg.cell (.int .i64 (0 : Int)), Seg.cell (.int .i64 (0 : Int)), Seg.cell (.slice none 0 0) (by rfl)])) := by kernel_rfl
theorem sz120 : szB Try.prog 120 = some 9 := by kernel_rfl
theorem bl116_0_1_2 (x0 : Int) (x1 : Int) (x2 : Int) (w : World) : (Instr.build 116 ([(0, .int .i64 x0), (1, .int .i64 x1), (2, .int .i64 x2)] : List (Nat × Value)).toArray).run Try.prog w = .ok (aggV [Seg.cell (.int .i64 x0), Seg.cell (.int .i64 x1), Seg.cell (.int .i64 x2)]) w := by kernel_rfl
theorem fl120_1 : fldB Try.prog 120 1 = some 1 := by kernel_rfl
theorem fl118_0 : fldB Try.prog 118 0 = some 0 := by kernel_rfl
theorem sz116 : szB Try.prog 116 = some 3 := by kernel_rfl
theorem ag120 : aggB Try.prog 120 = some true := by kernel_rfl
theorem fl120_0 : fldB Try.prog 120 0 = some 0 := by kernel_rfl
theorem ag116 : aggB Try.prog 116 = some true := by kernel_rfl
theorem fl116_0 : fldB Try.prog 116 0 = some 0 := by kernel_rfl
theorem fl116_1 : fldB Try.prog 116 1 = some 1 := by kernel_rfl
theorem fl116_2 : fldB Try.prog 116 2 = some 2 := by kernel_rfl
theorem cal126 : calB Try.prog 126 = some true := by kernel_rfl
theorem fl118_2 : fldB Try.prog 118 2 = some 4 := by kernel_rfl
theorem fl118_3 : fldB Try.prog 118 3 = some 5 := by kernel_rfl
theorem fl118_1 : fldB Try.prog 118 1 = some 3 := by kernel_rfl
theorem cal127 : calB Try.prog 127 = some true := by kernel_rfl
theorem fl120_2 : fldB Try.prog 120 2 = some 7 := by kernel_rfl
theorem fl120_3 : fldB Try.prog 120 3 = some 8 := by kernel_rfl
theorem cal144 : calB Try.prog 144 = some true := by kernel_rfl
theorem cal128 : calB Try.prog 128 = some true := by kernel_rfl
theorem cal142 : calB Try.prog 142 = some true := by kernel_rfl
theorem cal122 : calB Try.prog 122 = some true := by kernel_rfl
theorem cal92 : calB Try.prog 92 = some true := by kernel_rfl
theorem ze155 : (Try.prog.info? 155).map (·.zero) = some (some (aggV [Kd.seg (kA 5 (kI .i64)) (Arr.rep 5 (0 : Int))])) := by kernel_rfl
theorem cal91 : calB Try.prog 91 = some true := by kernel_rfl
theorem bl120_  (w : World) : (Instr.build 120 ([] : List (Nat × Value)).toArray).run Try.prog w = .ok (aggV [Seg.cell (.int .i64 (0 : Int)), Seg.cell (.int .i64 (0 : Int)), Seg.cell (.int .i64 (0 : Int)), Seg.cell (.int .i64 (0 : Int)), Seg.cell (.int .i64 (0 : Int)), Seg.cell (.int .i64 (0 : Int)), Seg.cell (.int .i64 (0 : Int)), Seg.cell (.int .i64 (0 : Int)), Seg.cell (.slice none 0 0) (by rfl)]) w := by kernel_rfl
theorem pl149 : placesB Try.prog 149 = some [(0, 1)] := by kernel_rfl
theorem ze149 : (Try.prog.info? 149).map (·.zero) = some (some (aggV [Seg.cell (.slice none 0 0) (by rfl)])) := by kernel_rfl
theorem sz149 : szB Try.prog 149 = some 1 := by kernel_rfl
theorem fl149_0 : fldB Try.prog 149 0 = some 0 := by kernel_rfl
theorem cal123 : calB Try.prog 123 = some true := by kernel_rfl
theorem ze152 : (Try.prog.info? 152).map (·.zero) = some (some (aggV [Seg.cell (.pointer none), Seg.cell (.pointer none), Seg.cell (.pointer none), Seg.cell (.pointer none), Seg.cell (.pointer none)])) := by kernel_rfl
theorem sz151 : szB Try.prog 151 = some 1 := by kernel_rfl
theorem ag151 : aggB Try.prog 151 = some false := by kernel_rfl
theorem cal87 : calB Try.prog 87 = some true := by kernel_rfl
theorem cal86 : calB Try.prog 86 = some true := by kernel_rfl
theorem cal124 : calB Try.prog 124 = some true := by kernel_rfl
theorem cal143 : calB Try.prog 143 = some true := by kernel_rfl
theorem cal125 : calB Try.prog 125 = some true := by kernel_rfl
theorem cal90 : calB Try.prog 90 = some true := by kernel_rfl
theorem cal93 : calB Try.prog 93 = some true := by kernel_rfl
theorem cal88 : calB Try.prog 88 = some true := by kernel_rfl
theorem eqa116 : EqA Try.prog 116 k_api_Geometry 2 := by
  refine eqa_struct Try.underlying116 Try.stoodInHeld116 ?_
  intro d w a b
  have e : decide (a = b) = (decide (a.Blocks = b.Blocks) && (decide (a.Slots = b.Slots) && (decide (a.Gens = b.Gens) && true))) := by
    cases a
    cases b
    rw [Bool.eq_iff_iff]
    simp
  rw [e]
  refine eqf_cons (by decide) (by exact (eqk_int Try.underlying3) (d + 0) w _ _ _ a.Blocks b.Blocks ((chunk_segs (segs_api_Geometry a) 0 1 rfl rfl)) ((chunk_segs (segs_api_Geometry b) 0 1 rfl rfl))) ?_
  refine eqf_cons (by decide) (by exact (eqk_int Try.underlying3) (d + 0) w _ _ _ a.Slots b.Slots ((chunk_segs (segs_api_Geometry a) 1 1 rfl rfl)) ((chunk_segs (segs_api_Geometry b) 1 1 rfl rfl))) ?_
  refine eqf_cons (by decide) (by exact (eqk_int Try.underlying3) (d + 0) w _ _ _ a.Gens b.Gens ((chunk_segs (segs_api_Geometry a) 2 1 rfl rfl)) ((chunk_segs (segs_api_Geometry b) 2 1 rfl rfl))) ?_
  exact eqf_nil
theorem cal89 : calB Try.prog 89 = some true := by kernel_rfl
theorem ag118 : aggB Try.prog 118 = some true := by kernel_rfl
theorem sz118 : szB Try.prog 118 = some 6 := by kernel_rfl
theorem eqa118 : EqA Try.prog 118 k_api_Tickets 3 := by
  refine eqa_struct Try.underlying118 Try.stoodInHeld118 ?_
  intro d w a b
  have e : decide (a = b) = (decide (a.Geometry = b.Geometry) && (decide (a.Top = b.Top) && (decide (a.High = b.High) && (decide (a.Free = b.Free) && true)))) := by
    cases a
    cases b
    rw [Bool.eq_iff_iff]
    simp
  rw [e]
  refine eqf_cons (by decide) (by exact (eqk_of ag116 sz116 rfl eqa116) (d + 0) w _ _ _ a.Geometry b.Geometry ((chunk_segs (segs_api_Tickets a) 0 3 rfl rfl)) ((chunk_segs (segs_api_Tickets b) 0 3 rfl rfl))) ?_
  refine eqf_cons (by decide) (by exact (eqk_int Try.underlying3) (d + 1) w _ _ _ a.Top b.Top ((chunk_segs (segs_api_Tickets a) 3 1 rfl rfl)) ((chunk_segs (segs_api_Tickets b) 3 1 rfl rfl))) ?_
  refine eqf_cons (by decide) (by exact (eqk_int Try.underlying3) (d + 1) w _ _ _ a.High b.High ((chunk_segs (segs_api_Tickets a) 4 1 rfl rfl)) ((chunk_segs (segs_api_Tickets b) 4 1 rfl rfl))) ?_
  refine eqf_cons (by decide) (by exact (eqk_int Try.underlying3) (d + 1) w _ _ _ a.Free b.Free ((chunk_segs (segs_api_Tickets a) 5 1 rfl rfl)) ((chunk_segs (segs_api_Tickets b) 5 1 rfl rfl))) ?_
  exact eqf_nil
theorem cal94 : calB Try.prog 94 = some true := by kernel_rfl
theorem cal149 : calB Try.prog 149 = some true := by kernel_rfl
theorem cal147 : calB Try.prog 147 = some true := by kernel_rfl
theorem cal139 : calB Try.prog 139 = some true := by kernel_rfl
theorem cal140 : calB Try.prog 140 = some true := by kernel_rfl
theorem cal117 : calB Try.prog 117 = some true := by kernel_rfl
theorem bl98_  (w : World) : (Instr.build 98 ([] : List (Nat × Value)).toArray).run Try.prog w = .ok (aggV [Seg.cell (sv []), Seg.cell (.int .i64 (0 : Int)), Kd.seg (kA 12 (kI .i64)) (Arr.rep 12 (0 : Int))]) w := by kernel_rfl
theorem cal121 : calB Try.prog 121 = some true := by kernel_rfl
theorem ag107 : aggB Try.prog 107 = some true := by kernel_rfl
theorem sz107 : szB Try.prog 107 = some 1 := by kernel_rfl
theorem fl107_0 : fldB Try.prog 107 0 = some 0 := by kernel_rfl
theorem cal83 : calB Try.prog 83 = some true := by kernel_rfl
theorem ze107 : (Try.prog.info? 107).map (·.zero) = some (some (aggV [Seg.cell (.slice none 0 0) (by rfl)])) := by kernel_rfl
theorem bl107_  (w : World) : (Instr.build 107 ([] : List (Nat × Value)).toArray).run Try.prog w = .ok (aggV [Seg.cell (.slice none 0 0) (by rfl)]) w := by kernel_rfl
theorem bl98_1_0 (x1 : Int) (x0 : List UInt8) (w : World) : (Instr.build 98 ([(1, .int .i64 x1), (0, sv x0)] : List (Nat × Value)).toArray).run Try.prog w = .ok (aggV [Seg.cell (sv x0), Seg.cell (.int .i64 x1), Kd.seg (kA 12 (kI .i64)) (Arr.rep 12 (0 : Int))]) w := by kernel_rfl
theorem cal75 : calB Try.prog 75 = some true := by kernel_rfl
theorem cal78 : calB Try.prog 78 = some true := by kernel_rfl
theorem cal81 : calB Try.prog 81 = some true := by kernel_rfl
end Go.Proofs.Ytjhajfkfhdnciaa

/- rickyard/rickyardref01.Rest: its model, and that the Go function computes it: written by gen.py. -/
set_option linter.unusedVariables false
namespace Go.Proofs.Ytjhajfkfhdnciaa
open Go Go.Xw
def rickyardref01_Rest.f (fu : Nat) (a0 : Int) (a1 : Int) : Option Int := (if a1 ≠ 0 then (if a1 ≠ 0 then some ((Int.tmod (IntKind.i64.wrap ((Int.tmod a0 a1) + a1)) a1)) else none) else none)
set_option maxRecDepth 100000 in
set_option maxHeartbeats 400000 in
theorem rickyardref01_Rest.ok (fu : Nat) (w : World) (a0 : Int) (a1 : Int) (r : Int) (h : rickyardref01_Rest.f fu a0 a1 = some r) :
    Calls Try.prog 34 (([.int .i64 a0, .int .i64 a1] : List Value).toArray) w (fun e w' => ∃ v, e = .returned v ∧ v = .int .i64 r ∧ Gr w w') := by
  unfold rickyardref01_Rest.f at h
  have fB : Gr w w := Fr.refl _ _
  refine calls_cw Try.func34 rfl Try.ntmps34 rfl ?_
  refine cw_seq ?_
  refine cw_region ?_
  refine ol_val (v := .int .i64 0) (by exact xr_assign rfl rfl) rfl rfl rfl ?_
  refine ol_nil ?_
  refine cw_seq ?_
  refine cw_region ?_
  refine ol_val (v := .int .i64 a0) (by exact xr_move rfl rfl) rfl rfl rfl ?_
  refine ol_val (v := .int .i64 a1) (by exact xr_move rfl rfl) rfl rfl rfl ?_
  obtain ⟨g1, h⟩ := gs h
  refine ol_val (v := .int .i64 (Int.tmod a0 a1)) (by exact xr_rem rfl rfl rfl g1) rfl rfl rfl ?_
  refine ol_val (v := .int .i64 a1) (by exact xr_move rfl rfl) rfl rfl rfl ?_
  refine ol_val (v := .int .i64 (IntKind.i64.wrap ((Int.tmod a0 a1) + a1))) (by exact xr_add rfl rfl rfl) rfl rfl rfl ?_
  refine ol_val (v := .int .i64 a1) (by exact xr_move rfl rfl) rfl rfl rfl ?_
  obtain ⟨g2, h⟩ := gs h
  refine ol_val (v := .int .i64 (Int.tmod (IntKind.i64.wrap ((Int.tmod a0 a1) + a1)) a1)) (by exact xr_rem rfl rfl rfl g2) rfl rfl rfl ?_
  refine ol_val (v := .int .i64 (Int.tmod (IntKind.i64.wrap ((Int.tmod a0 a1) + a1)) a1)) (by exact xr_assign rfl rfl) rfl rfl rfl ?_
  refine ol_nil ?_
  refine cw_ret ?_
  repeat (first | with_reducible refine thn_r ?_ | with_reducible refine blk_r ?_)
  obtain rfl := Option.some.inj h
  refine fin_ret1 Try.results34 rfl ?_
  exact ⟨_, rfl, rfl, fB⟩
end Go.Proofs.Ytjhajfkfhdnciaa

/- rickyard/octet.there: its model, and that the Go function computes it: written by gen.py. -/
set_option linter.unusedVariables false
namespace Go.Proofs.Ytjhajfkfhdnciaa
open Go Go.Xw
def octet_there.f (fu : Nat) (a0 : List Int) (a1 : Int) (a2 : Int) : Option Bool := some ((if (decide (a1 ≥ 0)) = true then (if (decide (a2 ≥ 0)) = true then (if (decide (a2 ≤ (List.length a0 : Int))) = true then (decide (a1 ≤ (IntKind.i64.wrap ((List.length a0 : Int) - a2)))) else false) else false) else false))
set_option maxRecDepth 100000 in
set_option maxHeartbeats 400000 in
theorem octet_there.ok (fu : Nat) (w : World) (a0 : List Int) (V0_0 : Value) (R0_0 : Rd (kI .u8) w V0_0 a0) (a1 : Int) (a2 : Int) (r : Bool) (h : octet_there.f fu a0 a1 a2 = some r) :
    Calls Try.prog 135 (([V0_0, .int .i64 a1, .int .i64 a2] : List Value).toArray) w (fun e w' => ∃ v, e = .returned v ∧ v = .bool r ∧ Gr w w') := by
  unfold octet_there.f at h
  have fB : Gr w w := Fr.refl _ _
  refine calls_cw Try.func135 rfl Try.ntmps135 rfl ?_
  refine cw_seq ?_
  refine cw_region ?_
  refine ol_val (v := .bool false) (by exact xr_assign rfl rfl) rfl rfl rfl ?_
  refine ol_nil ?_
  refine cw_seq ?_
  refine cw_mid (fun ρ' w' => ρ' 6 = .bool (if (decide (a1 ≥ 0)) = true then (if (decide (a2 ≥ 0)) = true then (if (decide (a2 ≤ (List.length a0 : Int))) = true then (decide (a1 ≤ (IntKind.i64.wrap ((List.length a0 : Int) - a2)))) else false) else false) else false) ∧ w = w') ?_ ?_
  · skip
    refine cw_region ?_
    refine ol_val (v := .int .i64 a1) (by exact xr_move rfl rfl) rfl rfl rfl ?_
    refine ol_val (v := .bool (decide (a1 ≥ 0))) (by exact xr_geq rfl rfl rfl) rfl rfl rfl ?_
    refine ol_val (v := .bool (decide (a1 ≥ 0))) (by exact xr_move rfl rfl) rfl rfl rfl ?_
    rcases bt (decide (a1 ≥ 0)) with c1 | c1
    · skip
      refine ol_gval (v := .int .i64 a2) (by exact xr_move rfl rfl) rfl rfl rfl rfl rfl c1 ?_
      refine ol_gval (v := .bool (decide (a2 ≥ 0))) (by exact xr_geq rfl rfl rfl) rfl rfl rfl rfl rfl c1 ?_
      refine ol_val (v := .bool (decide (a2 ≥ 0))) (by exact xr_pickT rfl rfl c1 rfl) rfl rfl rfl ?_
      refine ol_val (v := .bool (decide (a2 ≥ 0))) (by exact xr_move rfl rfl) rfl rfl rfl ?_
      rcases bt (decide (a2 ≥ 0)) with c2 | c2
      · skip
        refine ol_gval (v := .int .i64 a2) (by exact xr_move rfl rfl) rfl rfl rfl rfl rfl c2 ?_
        refine ol_gval (v := V0_0) (by exact xr_move rfl rfl) rfl rfl rfl rfl rfl c2 ?_
        refine ol_gval (v := .int .i64 (List.length a0 : Int)) (by exact xr_lenR rfl Try.underlying22 rfl (R0_0.gr fB)) rfl rfl rfl rfl rfl c2 ?_
        refine ol_gval (v := .bool (decide (a2 ≤ (List.length a0 : Int)))) (by exact xr_leq rfl rfl rfl) rfl rfl rfl rfl rfl c2 ?_
        refine ol_val (v := .bool (decide (a2 ≤ (List.length a0 : Int)))) (by exact xr_pickT rfl rfl c2 rfl) rfl rfl rfl ?_
        refine ol_val (v := .bool (decide (a2 ≤ (List.length a0 : Int)))) (by exact xr_move rfl rfl) rfl rfl rfl ?_
        rcases bt (decide (a2 ≤ (List.length a0 : Int))) with c3 | c3
        · skip
          refine ol_gval (v := .int .i64 a1) (by exact xr_move rfl rfl) rfl rfl rfl rfl rfl c3 ?_
          refine ol_gval (v := V0_0) (by exact xr_move rfl rfl) rfl rfl rfl rfl rfl c3 ?_
          refine ol_gval (v := .int .i64 (List.length a0 : Int)) (by exact xr_lenR rfl Try.underlying22 rfl (R0_0.gr fB)) rfl rfl rfl rfl rfl c3 ?_
          refine ol_gval (v := .int .i64 a2) (by exact xr_move rfl rfl) rfl rfl rfl rfl rfl c3 ?_
          refine ol_gval (v := .int .i64 (IntKind.i64.wrap ((List.length a0 : Int) - a2))) (by exact xr_sub rfl rfl rfl) rfl rfl rfl rfl rfl c3 ?_
          refine ol_gval (v := .bool (decide (a1 ≤ (IntKind.i64.wrap ((List.length a0 : Int) - a2))))) (by exact xr_leq rfl rfl rfl) rfl rfl rfl rfl rfl c3 ?_
          refine ol_val (v := .bool (decide (a1 ≤ (IntKind.i64.wrap ((List.length a0 : Int) - a2))))) (by exact xr_pickT rfl rfl c3 rfl) rfl rfl rfl ?_
          refine ol_val (v := .bool (decide (a1 ≤ (IntKind.i64.wrap ((List.length a0 : Int) - a2))))) (by exact xr_assign rfl rfl) rfl rfl rfl ?_
          refine ol_nil ?_
          refine thn_i ?_
          exact ⟨(rfl).trans (congrArg (fun z => (.bool z : Value)) (show (decide (a1 ≤ (IntKind.i64.wrap ((List.length a0 : Int) - a2)))) = (if (decide (a1 ≥ 0)) = true then (if (decide (a2 ≥ 0)) = true then (if (decide (a2 ≤ (List.length a0 : Int))) = true then (decide (a1 ≤ (IntKind.i64.wrap ((List.length a0 : Int) - a2)))) else false) else false) else false) from by rw [ite_t c1, ite_t c2, ite_t c3])), rfl⟩
        · skip
          refine ol_gskip rfl rfl rfl rfl rfl c3 ?_
          refine ol_gskip rfl rfl rfl rfl rfl c3 ?_
          refine ol_gskip rfl rfl rfl rfl rfl c3 ?_
          refine ol_gskip rfl rfl rfl rfl rfl c3 ?_
          refine ol_gskip rfl rfl rfl rfl rfl c3 ?_
          refine ol_gskip rfl rfl rfl rfl rfl c3 ?_
          refine ol_val (v := .bool false) (by exact xr_pickF rfl rfl c3 rfl) rfl rfl rfl ?_
          refine ol_val (v := .bool false) (by exact xr_assign rfl rfl) rfl rfl rfl ?_
          refine ol_nil ?_
          refine thn_i ?_
          exact ⟨(rfl).trans (congrArg (fun z => (.bool z : Value)) (show false = (if (decide (a1 ≥ 0)) = true then (if (decide (a2 ≥ 0)) = true then (if (decide (a2 ≤ (List.length a0 : Int))) = true then (decide (a1 ≤ (IntKind.i64.wrap ((List.length a0 : Int) - a2)))) else false) else false) else false) from by rw [ite_t c1, ite_t c2, ite_f c3])), rfl⟩
      · skip
        refine ol_gskip rfl rfl rfl rfl rfl c2 ?_
        refine ol_gskip rfl rfl rfl rfl rfl c2 ?_
        refine ol_gskip rfl rfl rfl rfl rfl c2 ?_
        refine ol_gskip rfl rfl rfl rfl rfl c2 ?_
        refine ol_val (v := .bool false) (by exact xr_pickF rfl rfl c2 rfl) rfl rfl rfl ?_
        refine ol_val (v := .bool false) (by exact xr_move rfl rfl) rfl rfl rfl ?_
        refine ol_gskip rfl rfl rfl rfl rfl rfl ?_
        refine ol_gskip rfl rfl rfl rfl rfl rfl ?_
        refine ol_gskip rfl rfl rfl rfl rfl rfl ?_
        refine ol_gskip rfl rfl rfl rfl rfl rfl ?_
        refine ol_gskip rfl rfl rfl rfl rfl rfl ?_
        refine ol_gskip rfl rfl rfl rfl rfl rfl ?_
        refine ol_val (v := .bool false) (by exact xr_pickF rfl rfl rfl rfl) rfl rfl rfl ?_
        refine ol_val (v := .bool false) (by exact xr_assign rfl rfl) rfl rfl rfl ?_
        refine ol_nil ?_
        refine thn_i ?_
        exact ⟨(rfl).trans (congrArg (fun z => (.bool z : Value)) (show false = (if (decide (a1 ≥ 0)) = true then (if (decide (a2 ≥ 0)) = true then (if (decide (a2 ≤ (List.length a0 : Int))) = true then (decide (a1 ≤ (IntKind.i64.wrap ((List.length a0 : Int) - a2)))) else false) else false) else false) from by rw [ite_t c1, ite_f c2])), rfl⟩
    · skip
      refine ol_gskip rfl rfl rfl rfl rfl c1 ?_
      refine ol_gskip rfl rfl rfl rfl rfl c1 ?_
      refine ol_val (v := .bool false) (by exact xr_pickF rfl rfl c1 rfl) rfl rfl rfl ?_
      refine ol_val (v := .bool false) (by exact xr_move rfl rfl) rfl rfl rfl ?_
      refine ol_gskip rfl rfl rfl rfl rfl rfl ?_
      refine ol_gskip rfl rfl rfl rfl rfl rfl ?_
      refine ol_gskip rfl rfl rfl rfl rfl rfl ?_
      refine ol_gskip rfl rfl rfl rfl rfl rfl ?_
      refine ol_val (v := .bool false) (by exact xr_pickF rfl rfl rfl rfl) rfl rfl rfl ?_
      refine ol_val (v := .bool false) (by exact xr_move rfl rfl) rfl rfl rfl ?_
      refine ol_gskip rfl rfl rfl rfl rfl rfl ?_
      refine ol_gskip rfl rfl rfl rfl rfl rfl ?_
      refine ol_gskip rfl rfl rfl rfl rfl rfl ?_
      refine ol_gskip rfl rfl rfl rfl rfl rfl ?_
      refine ol_gskip rfl rfl rfl rfl rfl rfl ?_
      refine ol_gskip rfl rfl rfl rfl rfl rfl ?_
      refine ol_val (v := .bool false) (by exact xr_pickF rfl rfl rfl rfl) rfl rfl rfl ?_
      refine ol_val (v := .bool false) (by exact xr_assign rfl rfl) rfl rfl rfl ?_
      refine ol_nil ?_
      refine thn_i ?_
      exact ⟨(rfl).trans (congrArg (fun z => (.bool z : Value)) (show false = (if (decide (a1 ≥ 0)) = true then (if (decide (a2 ≥ 0)) = true then (if (decide (a2 ≤ (List.length a0 : Int))) = true then (decide (a1 ≤ (IntKind.i64.wrap ((List.length a0 : Int) - a2)))) else false) else false) else false) from by rw [ite_f c1])), rfl⟩
  · skip
    rintro ρ4 _ ⟨e6, rfl⟩
    refine cw_ret ?_
    repeat (first | with_reducible refine thn_r ?_ | with_reducible refine blk_r ?_)
    obtain rfl := Option.some.inj h
    refine fin_ret1 Try.results135 e6 ?_
    exact ⟨_, rfl, rfl, fB⟩
end Go.Proofs.Ytjhajfkfhdnciaa

/- rickyard/octet.Noughts: its model, and that the Go function computes it: written by gen.py. -/
set_option linter.unusedVariables false
namespace Go.Proofs.Ytjhajfkfhdnciaa
open Go Go.Xw
def octet_Noughts.s0 (fu : Nat) (a0 : List Int) (a1 : Int) (a2 : Int) : Int → Option (Sum (Sum Bool Unit) Int) := fun s8 => (if (decide (s8 < (List.length (cut a0 a1 (IntKind.i64.wrap (a1 + a2))) : Int))) = true then (if 0 ≤ s8 ∧ s8 < (List.length (cut a0 a1 (IntKind.i64.wrap (a1 + a2))) : Int) then (if (!decide ((ix (cut a0 a1 (IntKind.i64.wrap (a1 + a2))) s8) = 0)) = true then some (Sum.inl (Sum.inl (false))) else some (Sum.inr ((IntKind.i64.wrap (s8 + 1))))) else none) else some (Sum.inl (Sum.inr ())))
def octet_Noughts.f (fu : Nat) (a0 : List Int) (a1 : Int) (a2 : Int) : Option Bool := ((octet_there.f fu a0 a1 a2 : Option Bool).bind fun t1 => (if (!t1) = true then some (false) else (if (0 : Int) ≤ a1 ∧ a1 ≤ (IntKind.i64.wrap (a1 + a2)) ∧ (IntKind.i64.wrap (a1 + a2)) ≤ (List.length a0 : Int) then ((loopM (octet_Noughts.s0 fu a0 a1 a2) fu (0)).bind fun e9 => match e9 with | Sum.inl p => some p | Sum.inr x12 => some (true)) else none)))
set_option maxRecDepth 100000 in
set_option maxHeartbeats 400000 in
theorem octet_Noughts.ok (fu : Nat) (w : World) (a0 : List Int) (V0_0 : Value) (R0_0 : Rd (kI .u8) w V0_0 a0) (a1 : Int) (a2 : Int) (r : Bool) (h : octet_Noughts.f fu a0 a1 a2 = some r) :
    Calls Try.prog 102 (([V0_0, .int .i64 a1, .int .i64 a2] : List Value).toArray) w (fun e w' => ∃ v, e = .returned v ∧ v = .bool r ∧ Gr w w') := by
  unfold octet_Noughts.f at h
  have fB : Gr w w := Fr.refl _ _
  refine calls_cw Try.func102 rfl Try.ntmps102 rfl ?_
  refine cw_seq ?_
  refine cw_region ?_
  refine ol_val (v := .bool false) (by exact xr_assign rfl rfl) rfl rfl rfl ?_
  refine ol_nil ?_
  refine cw_seq ?_
  refine cw_seq ?_
  refine cw_region ?_
  refine ol_val (v := V0_0) (by exact xr_move rfl rfl) rfl rfl rfl ?_
  refine ol_val (v := .int .i64 a1) (by exact xr_move rfl rfl) rfl rfl rfl ?_
  refine ol_val (v := .int .i64 a2) (by exact xr_move rfl rfl) rfl rfl rfl ?_
  obtain ⟨t1, k2, h⟩ := bs h
  refine ol_op (by exact opv_call rfl cal135 (ac rfl (ac rfl (ac rfl an))) (octet_there.ok fu _ a0 V0_0 (R0_0.gr fB) a1 a2 _ k2)) rfl rfl rfl ?_
  rintro _ w4 ⟨rfl, q3⟩
  have fB := fB.gr q3
  refine ol_val (v := .bool (!t1)) (by exact xr_not rfl rfl) rfl rfl rfl ?_
  refine ol_nil ?_
  rcases is h with ⟨c5, h⟩ | ⟨c5, h⟩
  · refine cw_condT rfl c5 ?_
    refine cw_seq ?_
    refine cw_region ?_
    refine ol_val (v := .bool false) (by exact xr_assign rfl rfl) rfl rfl rfl ?_
    refine ol_nil ?_
    refine cw_ret ?_
    repeat (first | with_reducible refine thn_r ?_ | with_reducible refine blk_r ?_)
    obtain rfl := Option.some.inj h
    refine fin_ret1 Try.results102 rfl ?_
    exact ⟨_, rfl, rfl, fB⟩
  · refine cw_condF rfl c5 ?_
    refine cw_skip ?_
    refine cw_seq ?_
    refine cw_seq ?_
    refine cw_region ?_
    refine ol_val (v := V0_0) (by exact xr_move rfl rfl) rfl rfl rfl ?_
    refine ol_val (v := .int .i64 a1) (by exact xr_move rfl rfl) rfl rfl rfl ?_
    refine ol_val (v := .int .i64 a1) (by exact xr_move rfl rfl) rfl rfl rfl ?_
    refine ol_val (v := .int .i64 a2) (by exact xr_move rfl rfl) rfl rfl rfl ?_
    refine ol_val (v := .int .i64 (IntKind.i64.wrap (a1 + a2))) (by exact xr_add rfl rfl rfl) rfl rfl rfl ?_
    obtain ⟨g7, h⟩ := gs h
    refine ol_val (v := subv 1 V0_0 (Int.toNat a1) (Int.toNat (IntKind.i64.wrap (a1 + a2)))) (by exact xr_slice_lh (K := (kI .u8)) (v := V0_0) rfl Try.underlying22 sz5 rfl (R0_0.gr fB) rfl rfl g7.1 g7.2.1 g7.2.2) rfl rfl rfl ?_
    have r6 : Rd (kI .u8) w4 (subv 1 V0_0 (Int.toNat a1) (Int.toNat (IntKind.i64.wrap (a1 + a2)))) (cut a0 a1 (IntKind.i64.wrap (a1 + a2))) := (R0_0.gr fB).cut (lo := a1) (hi := (IntKind.i64.wrap (a1 + a2))) g7.1 g7.2.1 g7.2.2
    refine ol_val (v := .int .i64 (List.length (cut a0 a1 (IntKind.i64.wrap (a1 + a2))) : Int)) (by exact xr_lenR rfl Try.underlying22 rfl r6) rfl rfl rfl ?_
    refine ol_val (v := .int .i64 0) (by exact xr_move rfl rfl) rfl rfl rfl ?_
    refine ol_nil ?_
    obtain ⟨e9, l10, h11⟩ := bs h
    refine cw_mid (fun ρ' w' => ∃ x12, e9 = Sum.inr x12 ∧ Gr w w') ?_ ?_
    · refine cw_block ?_
      refine cw_round (fun (s8 : Int) ρ' w' => ∃ r6 : Rd (kI .u8) w' (subv 1 V0_0 (Int.toNat a1) (Int.toNat (IntKind.i64.wrap (a1 + a2)))) (cut a0 a1 (IntKind.i64.wrap (a1 + a2))), ρ' 19 = subv 1 V0_0 (Int.toNat a1) (Int.toNat (IntKind.i64.wrap (a1 + a2))) ∧ ρ' 20 = .int .i64 (List.length (cut a0 a1 (IntKind.i64.wrap (a1 + a2))) : Int) ∧ ρ' 21 = .int .i64 s8 ∧ Gr w w') l10 ?_ ?_
      · skip
        exact ⟨r6, rfl, rfl, rfl, fB⟩
      · rintro s8 x15 ρ13 w14 ⟨r6, e19, e20, e21, fB⟩ h
        unfold octet_Noughts.s0 at h
        refine cw_seq ?_
        refine cw_region ?_
        refine ol_val (v := .bool (decide (s8 < (List.length (cut a0 a1 (IntKind.i64.wrap (a1 + a2))) : Int)))) (by exact xr_lss rfl e21 e20) rfl rfl rfl ?_
        refine ol_nil ?_
        refine cw_seq ?_
        rcases is h with ⟨c16, h⟩ | ⟨c16, h⟩
        · refine cw_condT rfl c16 ?_
          refine cw_skip ?_
          refine cw_seq ?_
          refine cw_block ?_
          refine cw_seq ?_
          refine cw_region ?_
          obtain ⟨g17, h⟩ := gs h
          refine ol_val (v := .pointer (some ⟨(sb (subv 1 V0_0 (Int.toNat a1) (Int.toNat (IntKind.i64.wrap (a1 + a2))))), so (subv 1 V0_0 (Int.toNat a1) (Int.toNat (IntKind.i64.wrap (a1 + a2)))) + Int.toNat s8 * 1, none⟩)) (by exact xr_indexR (K := (kI .u8)) (v := subv 1 V0_0 (Int.toNat a1) (Int.toNat (IntKind.i64.wrap (a1 + a2)))) rfl Try.underlying22 sz5 e19 r6 e21 g17.1 g17.2) rfl rfl rfl ?_
          refine ol_val (v := .int .u8 (ix (cut a0 a1 (IntKind.i64.wrap (a1 + a2))) s8)) (by exact xr_load1 (v := .int .u8 (ix (cut a0 a1 (IntKind.i64.wrap (a1 + a2))) s8)) rfl ag5 rfl (r6.elem g17.1 g17.2)) rfl rfl rfl ?_
          refine ol_val (v := .int .u8 (ix (cut a0 a1 (IntKind.i64.wrap (a1 + a2))) s8)) (by exact xr_assign rfl rfl) rfl rfl rfl ?_
          refine ol_nil ?_
          refine cw_seq ?_
          refine cw_region ?_
          refine ol_val (v := .int .u8 (ix (cut a0 a1 (IntKind.i64.wrap (a1 + a2))) s8)) (by exact xr_move rfl rfl) rfl rfl rfl ?_
          refine ol_val (v := .bool (!decide ((ix (cut a0 a1 (IntKind.i64.wrap (a1 + a2))) s8) = 0))) (by exact xr_neI rfl Try.underlying5 rfl rfl rfl) rfl rfl rfl ?_
          refine ol_nil ?_
          rcases is h with ⟨c18, h⟩ | ⟨c18, h⟩
          · refine cw_condT rfl c18 ?_
            refine cw_seq ?_
            refine cw_region ?_
            refine ol_val (v := .bool false) (by exact xr_assign rfl rfl) rfl rfl rfl ?_
            refine ol_nil ?_
            refine cw_ret ?_
            repeat (first | with_reducible refine thn_r ?_ | with_reducible refine blk_r ?_)
            obtain rfl := Option.some.inj h
            refine lp_ret ?_
            rintro rfl
            repeat (first | with_reducible refine thn_r ?_ | with_reducible refine blk_r ?_)
            have h := h11
            obtain rfl := Option.some.inj h
            refine fin_ret1 Try.results102 rfl ?_
            exact ⟨_, rfl, rfl, fB⟩
          · refine cw_condF rfl c18 ?_
            refine cw_skip ?_
            refine blk_i ?_
            refine cw_region ?_
            refine ol_val (v := .int .i64 (IntKind.i64.wrap (s8 + 1))) (by exact xr_add rfl e21 rfl) rfl rfl rfl ?_
            refine ol_val (v := .int .i64 (IntKind.i64.wrap (s8 + 1))) (by exact xr_move rfl rfl) rfl rfl rfl ?_
            refine ol_nil ?_
            obtain rfl := Option.some.inj h
            refine lp_in ?_
            exact ⟨r6, e19, e20, rfl, fB⟩
        · refine cw_condF rfl c16 ?_
          refine cw_exit ?_
          repeat (first | with_reducible refine thn_e ?_ | with_reducible refine blk_e rfl ?_)
          obtain rfl := Option.some.inj h
          refine lp_exit ?_
          rintro rfl
          refine thn_x ?_
          exact ⟨_, rfl, fB⟩
    · rintro ρ19 w20 ⟨x12, rfl, fB⟩
      have h := h11
      refine cw_seq ?_
      refine cw_region ?_
      refine ol_val (v := .bool true) (by exact xr_assign rfl rfl) rfl rfl rfl ?_
      refine ol_nil ?_
      refine cw_ret ?_
      repeat (first | with_reducible refine thn_r ?_ | with_reducible refine blk_r ?_)
      obtain rfl := Option.some.inj h
      refine fin_ret1 Try.results102 rfl ?_
      exact ⟨_, rfl, rfl, fB⟩
end Go.Proofs.Ytjhajfkfhdnciaa

/- rickyard/octet.Read: its model, and that the Go function computes it: written by gen.py. -/
set_option linter.unusedVariables false
namespace Go.Proofs.Ytjhajfkfhdnciaa
open Go Go.Xw
def octet_Read.s0 (fu : Nat) (a0 : List Int) : (Int × Int) → Option (Sum Int (Int × Int)) := fun s3 => (if (decide (s3.2 < (List.length (cut a0 0 (mnI (List.length a0 : Int) 8)) : Int))) = true then (if 0 ≤ s3.2 ∧ s3.2 < (List.length (cut a0 0 (mnI (List.length a0 : Int) 8)) : Int) then (if 0 ≤ (IntKind.i64.wrap (8 * s3.2)) then some (Sum.inr ((bOr .u64 s3.1 (shL .u64 (IntKind.u64.wrap (ix (cut a0 0 (mnI (List.length a0 : Int) 8)) s3.2)) (IntKind.i64.wrap (8 * s3.2)))), (IntKind.i64.wrap (s3.2 + 1)))) else none) else none) else some (Sum.inl (s3.1)))
def octet_Read.f (fu : Nat) (a0 : List Int) : Option Int := (if 0 ≤ (mnI (List.length a0 : Int) 8) ∧ (mnI (List.length a0 : Int) 8) ≤ (List.length a0 : Int) then ((loopM (octet_Read.s0 fu a0) fu (0, 0)).bind fun e4 => some (e4)) else none)
set_option maxRecDepth 100000 in
set_option maxHeartbeats 400000 in
theorem octet_Read.ok (fu : Nat) (w : World) (a0 : List Int) (V0_0 : Value) (R0_0 : Rd (kI .u8) w V0_0 a0) (r : Int) (h : octet_Read.f fu a0 = some r) :
    Calls Try.prog 112 (([V0_0] : List Value).toArray) w (fun e w' => ∃ v, e = .returned v ∧ v = .int .u64 r ∧ Gr w w') := by
  unfold octet_Read.f at h
  have fB : Gr w w := Fr.refl _ _
  refine calls_cw Try.func112 rfl Try.ntmps112 rfl ?_
  refine cw_seq ?_
  refine cw_region ?_
  refine ol_val (v := .int .u64 0) (by exact xr_assign rfl rfl) rfl rfl rfl ?_
  refine ol_nil ?_
  refine cw_seq ?_
  refine cw_region ?_
  refine ol_val (v := .int .u64 0) (by exact xr_assign rfl rfl) rfl rfl rfl ?_
  refine ol_nil ?_
  refine cw_seq ?_
  refine cw_seq ?_
  refine cw_region ?_
  refine ol_val (v := V0_0) (by exact xr_move rfl rfl) rfl rfl rfl ?_
  refine ol_val (v := V0_0) (by exact xr_move rfl rfl) rfl rfl rfl ?_
  refine ol_val (v := .int .i64 (List.length a0 : Int)) (by exact xr_lenR rfl Try.underlying22 rfl (R0_0.gr fB)) rfl rfl rfl ?_
  refine ol_val (v := .int .i64 (mnI (List.length a0 : Int) 8)) (by exact xr_min2 rfl rfl rfl) rfl rfl rfl ?_
  obtain ⟨g2, h⟩ := gs h
  refine ol_val (v := subv 1 V0_0 0 (Int.toNat (mnI (List.length a0 : Int) 8))) (by exact xr_slice_h (K := (kI .u8)) (v := V0_0) rfl Try.underlying22 sz5 rfl (R0_0.gr fB) rfl g2.1 g2.2) rfl rfl rfl ?_
  have r1 : Rd (kI .u8) w (subv 1 V0_0 0 (Int.toNat (mnI (List.length a0 : Int) 8))) (cut a0 0 (mnI (List.length a0 : Int) 8)) := (R0_0.gr fB).cut (lo := 0) (hi := (mnI (List.length a0 : Int) 8)) (by decide) g2.1 g2.2
  refine ol_val (v := .int .i64 (List.length (cut a0 0 (mnI (List.length a0 : Int) 8)) : Int)) (by exact xr_lenR rfl Try.underlying22 rfl r1) rfl rfl rfl ?_
  refine ol_val (v := .int .i64 0) (by exact xr_move rfl rfl) rfl rfl rfl ?_
  refine ol_nil ?_
  obtain ⟨e4, l5, h6⟩ := bs h
  refine cw_mid (fun ρ' w' => ρ' 3 = .int .u64 e4 ∧ Gr w w') ?_ ?_
  · refine cw_block ?_
    refine cw_round (fun (s3 : Int × Int) ρ' w' => ∃ r1 : Rd (kI .u8) w' (subv 1 V0_0 0 (Int.toNat (mnI (List.length a0 : Int) 8))) (cut a0 0 (mnI (List.length a0 : Int) 8)), ρ' 3 = .int .u64 s3.1 ∧ ρ' 10 = subv 1 V0_0 0 (Int.toNat (mnI (List.length a0 : Int) 8)) ∧ ρ' 11 = .int .i64 (List.length (cut a0 0 (mnI (List.length a0 : Int) 8)) : Int) ∧ ρ' 12 = .int .i64 s3.2 ∧ Gr w w') l5 ?_ ?_
    · skip
      exact ⟨r1, rfl, rfl, rfl, rfl, fB⟩
    · rintro s3 x9 ρ7 w8 ⟨r1, e3, e10, e11, e12, fB⟩ h
      unfold octet_Read.s0 at h
      refine cw_seq ?_
      refine cw_region ?_
      refine ol_val (v := .bool (decide (s3.2 < (List.length (cut a0 0 (mnI (List.length a0 : Int) 8)) : Int)))) (by exact xr_lss rfl e12 e11) rfl rfl rfl ?_
      refine ol_nil ?_
      refine cw_seq ?_
      rcases is h with ⟨c10, h⟩ | ⟨c10, h⟩
      · refine cw_condT rfl c10 ?_
        refine cw_skip ?_
        refine cw_seq ?_
        refine cw_block ?_
        refine cw_seq ?_
        refine cw_region ?_
        refine ol_val (v := .int .i64 s3.2) (by exact xr_move rfl e12) rfl rfl rfl ?_
        obtain ⟨g11, h⟩ := gs h
        refine ol_val (v := .pointer (some ⟨(sb (subv 1 V0_0 0 (Int.toNat (mnI (List.length a0 : Int) 8)))), so (subv 1 V0_0 0 (Int.toNat (mnI (List.length a0 : Int) 8))) + Int.toNat s3.2 * 1, none⟩)) (by exact xr_indexR (K := (kI .u8)) (v := subv 1 V0_0 0 (Int.toNat (mnI (List.length a0 : Int) 8))) rfl Try.underlying22 sz5 e10 r1 e12 g11.1 g11.2) rfl rfl rfl ?_
        refine ol_val (v := .int .u8 (ix (cut a0 0 (mnI (List.length a0 : Int) 8)) s3.2)) (by exact xr_load1 (v := .int .u8 (ix (cut a0 0 (mnI (List.length a0 : Int) 8)) s3.2)) rfl ag5 rfl (r1.elem g11.1 g11.2)) rfl rfl rfl ?_
        refine ol_val (v := .int .i64 s3.2) (by exact xr_assign rfl rfl) rfl rfl rfl ?_
        refine ol_val (v := .int .u8 (ix (cut a0 0 (mnI (List.length a0 : Int) 8)) s3.2)) (by exact xr_assign rfl rfl) rfl rfl rfl ?_
        refine ol_nil ?_
        refine cw_region ?_
        refine ol_val (v := .int .u64 s3.1) (by exact xr_move rfl e3) rfl rfl rfl ?_
        refine ol_val (v := .int .u8 (ix (cut a0 0 (mnI (List.length a0 : Int) 8)) s3.2)) (by exact xr_move rfl rfl) rfl rfl rfl ?_
        refine ol_val (v := .int .u64 (IntKind.u64.wrap (ix (cut a0 0 (mnI (List.length a0 : Int) 8)) s3.2))) (by exact xr_conv rfl Try.underlying5 Try.underlying129 rfl) rfl rfl rfl ?_
        refine ol_val (v := .int .i64 s3.2) (by exact xr_move rfl rfl) rfl rfl rfl ?_
        refine ol_val (v := .int .i64 (IntKind.i64.wrap (8 * s3.2))) (by exact xr_mul rfl rfl rfl) rfl rfl rfl ?_
        obtain ⟨g12, h⟩ := gs h
        refine ol_val (v := .int .u64 (shL .u64 (IntKind.u64.wrap (ix (cut a0 0 (mnI (List.length a0 : Int) 8)) s3.2)) (IntKind.i64.wrap (8 * s3.2)))) (by exact xr_shl rfl rfl rfl g12) rfl rfl rfl ?_
        refine ol_val (v := .int .u64 (bOr .u64 s3.1 (shL .u64 (IntKind.u64.wrap (ix (cut a0 0 (mnI (List.length a0 : Int) 8)) s3.2)) (IntKind.i64.wrap (8 * s3.2))))) (by exact xr_or rfl rfl rfl) rfl rfl rfl ?_
        refine ol_val (v := .int .u64 (bOr .u64 s3.1 (shL .u64 (IntKind.u64.wrap (ix (cut a0 0 (mnI (List.length a0 : Int) 8)) s3.2)) (IntKind.i64.wrap (8 * s3.2))))) (by exact xr_assign rfl rfl) rfl rfl rfl ?_
        refine ol_nil ?_
        refine blk_i ?_
        refine cw_region ?_
        refine ol_val (v := .int .i64 (IntKind.i64.wrap (s3.2 + 1))) (by exact xr_add rfl e12 rfl) rfl rfl rfl ?_
        refine ol_val (v := .int .i64 (IntKind.i64.wrap (s3.2 + 1))) (by exact xr_move rfl rfl) rfl rfl rfl ?_
        refine ol_nil ?_
        obtain rfl := Option.some.inj h
        refine lp_in ?_
        exact ⟨r1, rfl, e10, e11, rfl, fB⟩
      · refine cw_condF rfl c10 ?_
        refine cw_exit ?_
        repeat (first | with_reducible refine thn_e ?_ | with_reducible refine blk_e rfl ?_)
        obtain rfl := Option.some.inj h
        refine lp_exit ?_
        rintro rfl
        refine thn_x ?_
        exact ⟨e3, fB⟩
  · rintro ρ13 w14 ⟨e3, fB⟩
    have h := h6
    refine cw_seq ?_
    refine cw_region ?_
    refine ol_val (v := .int .u64 e4) (by exact xr_move rfl e3) rfl rfl rfl ?_
    refine ol_val (v := .int .u64 e4) (by exact xr_assign rfl rfl) rfl rfl rfl ?_
    refine ol_nil ?_
    refine cw_ret ?_
    repeat (first | with_reducible refine thn_r ?_ | with_reducible refine blk_r ?_)
    obtain rfl := Option.some.inj h
    refine fin_ret1 Try.results112 rfl ?_
    exact ⟨_, rfl, rfl, fB⟩
end Go.Proofs.Ytjhajfkfhdnciaa

/- rickyard/crc.step: its model, and that the Go function computes it: written by gen.py. -/
set_option linter.unusedVariables false
namespace Go.Proofs.Ytjhajfkfhdnciaa
open Go Go.Xw
def crc_step.f (fu : Nat) (a0 : Int) : Option Int := (if (decide ((bAnd .u32 a0 1) = 1)) = true then some ((bXor .u32 (shR .u32 a0 1) 2197175160)) else some ((shR .u32 a0 1)))
set_option maxRecDepth 100000 in
set_option maxHeartbeats 400000 in
theorem crc_step.ok (fu : Nat) (w : World) (a0 : Int) (r : Int) (h : crc_step.f fu a0 = some r) :
    Calls Try.prog 145 (([.int .u32 a0] : List Value).toArray) w (fun e w' => ∃ v, e = .returned v ∧ v = .int .u32 r ∧ Gr w w') := by
  unfold crc_step.f at h
  have fB : Gr w w := Fr.refl _ _
  refine calls_cw Try.func145 rfl Try.ntmps145 rfl ?_
  refine cw_seq ?_
  refine cw_region ?_
  refine ol_val (v := .int .u32 0) (by exact xr_assign rfl rfl) rfl rfl rfl ?_
  refine ol_nil ?_
  refine cw_seq ?_
  refine cw_seq ?_
  refine cw_region ?_
  refine ol_val (v := .int .u32 a0) (by exact xr_move rfl rfl) rfl rfl rfl ?_
  refine ol_val (v := .int .u32 (bAnd .u32 a0 1)) (by exact xr_and rfl rfl rfl) rfl rfl rfl ?_
  refine ol_val (v := .bool (decide ((bAnd .u32 a0 1) = 1))) (by exact xr_eqI rfl Try.underlying36 rfl rfl rfl) rfl rfl rfl ?_
  refine ol_nil ?_
  rcases is h with ⟨c1, h⟩ | ⟨c1, h⟩
  · refine cw_condT rfl c1 ?_
    refine cw_seq ?_
    refine cw_region ?_
    refine ol_val (v := .int .u32 a0) (by exact xr_move rfl rfl) rfl rfl rfl ?_
    refine ol_val (v := .int .u32 (shR .u32 a0 1)) (by exact xr_shr rfl rfl rfl (by decide)) rfl rfl rfl ?_
    refine ol_val (v := .int .u32 (bXor .u32 (shR .u32 a0 1) 2197175160)) (by exact xr_xor rfl rfl rfl) rfl rfl rfl ?_
    refine ol_val (v := .int .u32 (bXor .u32 (shR .u32 a0 1) 2197175160)) (by exact xr_assign rfl rfl) rfl rfl rfl ?_
    refine ol_nil ?_
    refine cw_ret ?_
    repeat (first | with_reducible refine thn_r ?_ | with_reducible refine blk_r ?_)
    obtain rfl := Option.some.inj h
    refine fin_ret1 Try.results145 rfl ?_
    exact ⟨_, rfl, rfl, fB⟩
  · refine cw_condF rfl c1 ?_
    refine cw_skip ?_
    refine cw_seq ?_
    refine cw_region ?_
    refine ol_val (v := .int .u32 a0) (by exact xr_move rfl rfl) rfl rfl rfl ?_
    refine ol_val (v := .int .u32 (shR .u32 a0 1)) (by exact xr_shr rfl rfl rfl (by decide)) rfl rfl rfl ?_
    refine ol_val (v := .int .u32 (shR .u32 a0 1)) (by exact xr_assign rfl rfl) rfl rfl rfl ?_
    refine ol_nil ?_
    refine cw_ret ?_
    repeat (first | with_reducible refine thn_r ?_ | with_reducible refine blk_r ?_)
    obtain rfl := Option.some.inj h
    refine fin_ret1 Try.results145 rfl ?_
    exact ⟨_, rfl, rfl, fB⟩
end Go.Proofs.Ytjhajfkfhdnciaa

/- rickyard/crc.Table: its model, and that the Go function computes it: written by gen.py. -/
set_option linter.unusedVariables false
namespace Go.Proofs.Ytjhajfkfhdnciaa
open Go Go.Xw
def crc_Table.s3 (fu : Nat) : (Int × Int) → Option (Sum Int (Int × Int)) := fun s22 => (if (decide (s22.2 < 4)) = true then ((crc_step.f fu s22.1 : Option Int).bind fun t30 => some (Sum.inr (t30, (IntKind.i64.wrap (s22.2 + 1))))) else some (Sum.inl (s22.1)))
def crc_Table.s2 (fu : Nat) : (Int × (Arr 16 Int)) → Option (Sum (Arr 16 Int) (Int × (Arr 16 Int))) := fun s14 => (if (decide (s14.1 < 16)) = true then ((loopM (crc_Table.s3 fu) fu ((IntKind.u32.wrap s14.1), 0)).bind fun e23 => (if 0 ≤ s14.1 ∧ s14.1 < 16 then some (Sum.inr ((IntKind.i64.wrap (s14.1 + 1)), (Arr.set s14.2 s14.1 e23))) else none)) else some (Sum.inl (s14.2)))
def crc_Table.f (fu : Nat) : Option (Arr 16 Int) := ((loopM (crc_Table.s2 fu) fu (0, (Arr.rep 16 (0 : Int)))).bind fun e15 => some (e15))
set_option maxRecDepth 100000 in
set_option maxHeartbeats 400000 in
theorem crc_Table.ok (fu : Nat) (w : World)  (r : (Arr 16 Int)) (h : crc_Table.f fu = some r) :
    Calls Try.prog 129 (([] : List Value).toArray) w (fun e w' => ∃ v, e = .returned v ∧ v = aggV [Kd.seg (kA 16 (kI .u32)) r] ∧ Gr w w') := by
  unfold crc_Table.f at h
  have fB : Gr w w := Fr.refl _ _
  refine calls_cw Try.func129 rfl Try.ntmps129 rfl ?_
  refine cw_seq ?_
  refine cw_region ?_
  refine ol_op (by exact opv_alloc (ss := [Kd.seg (kA 16 (kI .u32)) (Arr.rep 16 (0 : Int))]) rfl ze158 rfl) rfl rfl rfl ?_
  rintro _ w6 ⟨G1, rfl, b2, q3, z4⟩
  have z4 := Nat.le_trans fB.size z4
  have fB := fB.gr q3
  refine ol_nil ?_
  refine cw_seq ?_
  refine cw_region ?_
  refine ol_op (by exact opv_alloc (ss := [Kd.seg (kA 16 (kI .u32)) (Arr.rep 16 (0 : Int))]) rfl ze158 rfl) rfl rfl rfl ?_
  rintro _ w12 ⟨G7, rfl, b8, q9, z10⟩
  have n13 := b2.ne z10
  have z10 := Nat.le_trans fB.size z10
  have b2 := b2.gr q9
  have fB := fB.gr q9
  refine ol_nil ?_
  refine cw_seq ?_
  refine cw_seq ?_
  refine cw_region ?_
  refine ol_val (v := .int .i64 0) (by exact xr_move rfl rfl) rfl rfl rfl ?_
  refine ol_nil ?_
  obtain ⟨e15, l16, h17⟩ := bs h
  refine cw_mid (fun ρ' w' => ρ' 0 = .pointer (some ⟨G1, 0, none⟩) ∧ ρ' 1 = .pointer (some ⟨G7, 0, none⟩) ∧ Blk w' G1 158 [Kd.seg (kA 16 (kI .u32)) (Arr.rep 16 (0 : Int))] ∧ Blk w' G7 158 [Kd.seg (kA 16 (kI .u32)) e15] ∧ Gr w w') ?_ ?_
  · refine cw_block ?_
    refine cw_round (fun (s14 : Int × (Arr 16 Int)) ρ' w' => ρ' 0 = .pointer (some ⟨G1, 0, none⟩) ∧ ρ' 1 = .pointer (some ⟨G7, 0, none⟩) ∧ ρ' 4 = .int .i64 s14.1 ∧ Blk w' G1 158 [Kd.seg (kA 16 (kI .u32)) (Arr.rep 16 (0 : Int))] ∧ Blk w' G7 158 [Kd.seg (kA 16 (kI .u32)) s14.2] ∧ Gr w w') l16 ?_ ?_
    · skip
      exact ⟨rfl, rfl, rfl, b2, b8, fB⟩
    · rintro s14 x20 ρ18 w19 ⟨e0, e1, e4, b2, b8, fB⟩ h
      unfold crc_Table.s2 at h
      refine cw_seq ?_
      refine cw_region ?_
      refine ol_val (v := .bool (decide (s14.1 < 16))) (by exact xr_lss rfl e4 rfl) rfl rfl rfl ?_
      refine ol_nil ?_
      refine cw_seq ?_
      rcases is h with ⟨c21, h⟩ | ⟨c21, h⟩
      · refine cw_condT rfl c21 ?_
        refine cw_skip ?_
        refine cw_seq ?_
        refine cw_block ?_
        refine cw_seq ?_
        refine cw_region ?_
        refine ol_val (v := .int .i64 s14.1) (by exact xr_move rfl e4) rfl rfl rfl ?_
        refine ol_val (v := .int .i64 s14.1) (by exact xr_assign rfl rfl) rfl rfl rfl ?_
        refine ol_nil ?_
        refine cw_seq ?_
        refine cw_region ?_
        refine ol_val (v := .int .i64 s14.1) (by exact xr_move rfl rfl) rfl rfl rfl ?_
        refine ol_val (v := .int .u32 (IntKind.u32.wrap s14.1)) (by exact xr_conv rfl Try.underlying3 Try.underlying36 rfl) rfl rfl rfl ?_
        refine ol_val (v := .int .u32 (IntKind.u32.wrap s14.1)) (by exact xr_assign rfl rfl) rfl rfl rfl ?_
        refine ol_nil ?_
        refine cw_seq ?_
        refine cw_seq ?_
        refine cw_region ?_
        refine ol_val (v := .int .i64 0) (by exact xr_move rfl rfl) rfl rfl rfl ?_
        refine ol_nil ?_
        obtain ⟨e23, l24, h25⟩ := bs h
        refine cw_mid (fun ρ' w' => ρ' 0 = .pointer (some ⟨G1, 0, none⟩) ∧ ρ' 1 = .pointer (some ⟨G7, 0, none⟩) ∧ ρ' 2 = .int .i64 s14.1 ∧ ρ' 3 = .int .u32 e23 ∧ ρ' 4 = .int .i64 s14.1 ∧ Blk w' G1 158 [Kd.seg (kA 16 (kI .u32)) (Arr.rep 16 (0 : Int))] ∧ Blk w' G7 158 [Kd.seg (kA 16 (kI .u32)) s14.2] ∧ Gr w w') ?_ ?_
        · refine cw_block ?_
          refine cw_round (fun (s22 : Int × Int) ρ' w' => ρ' 0 = .pointer (some ⟨G1, 0, none⟩) ∧ ρ' 1 = .pointer (some ⟨G7, 0, none⟩) ∧ ρ' 2 = .int .i64 s14.1 ∧ ρ' 3 = .int .u32 s22.1 ∧ ρ' 4 = .int .i64 s14.1 ∧ ρ' 9 = .int .i64 s22.2 ∧ Blk w' G1 158 [Kd.seg (kA 16 (kI .u32)) (Arr.rep 16 (0 : Int))] ∧ Blk w' G7 158 [Kd.seg (kA 16 (kI .u32)) s14.2] ∧ Gr w w') l24 ?_ ?_
          · skip
            exact ⟨e0, e1, rfl, rfl, e4, rfl, b2, b8, fB⟩
          · rintro s22 x28 ρ26 w27 ⟨e0, e1, e2, e3, e4, e9, b2, b8, fB⟩ h
            unfold crc_Table.s3 at h
            refine cw_seq ?_
            refine cw_region ?_
            refine ol_val (v := .bool (decide (s22.2 < 4))) (by exact xr_lss rfl e9 rfl) rfl rfl rfl ?_
            refine ol_nil ?_
            refine cw_seq ?_
            rcases is h with ⟨c29, h⟩ | ⟨c29, h⟩
            · refine cw_condT rfl c29 ?_
              refine cw_skip ?_
              refine cw_seq ?_
              refine cw_block ?_
              refine cw_region ?_
              refine ol_val (v := .int .u32 s22.1) (by exact xr_move rfl e3) rfl rfl rfl ?_
              obtain ⟨t30, k31, h⟩ := bs h
              refine ol_op (by exact opv_call rfl cal145 (ac rfl an) (crc_step.ok fu _ s22.1 _ k31)) rfl rfl rfl ?_
              rintro _ w33 ⟨rfl, q32⟩
              have b2 := b2.gr q32
              have b8 := b8.gr q32
              have fB := fB.gr q32
              refine ol_val (v := .int .u32 t30) (by exact xr_assign rfl rfl) rfl rfl rfl ?_
              refine ol_nil ?_
              refine blk_i ?_
              refine cw_region ?_
              refine ol_val (v := .int .i64 (IntKind.i64.wrap (s22.2 + 1))) (by exact xr_add rfl e9 rfl) rfl rfl rfl ?_
              refine ol_val (v := .int .i64 (IntKind.i64.wrap (s22.2 + 1))) (by exact xr_move rfl rfl) rfl rfl rfl ?_
              refine ol_nil ?_
              obtain rfl := Option.some.inj h
              refine lp_in ?_
              exact ⟨e0, e1, e2, rfl, e4, rfl, b2, b8, fB⟩
            · refine cw_condF rfl c29 ?_
              refine cw_exit ?_
              repeat (first | with_reducible refine thn_e ?_ | with_reducible refine blk_e rfl ?_)
              obtain rfl := Option.some.inj h
              refine lp_exit ?_
              rintro rfl
              refine thn_x ?_
              exact ⟨e0, e1, e2, e3, e4, b2, b8, fB⟩
        · rintro ρ34 w35 ⟨e0, e1, e2, e3, e4, b2, b8, fB⟩
          have h := h25
          refine cw_region ?_
          refine ol_val (v := .int .i64 s14.1) (by exact xr_move rfl e2) rfl rfl rfl ?_
          refine ol_val (v := .int .u32 e23) (by exact xr_move rfl e3) rfl rfl rfl ?_
          obtain ⟨g36, h⟩ := gs h
          refine ol_val (v := .pointer (some ⟨G7, 0 + Int.toNat s14.1 * 1, none⟩)) (by exact xr_indexA (p := 0) (s := 1) rfl Try.underlying158 sz36 e1 rfl g36.1 g36.2) rfl rfl rfl ?_
          refine ol_op0 (by exact opv_store (ss' := [Kd.seg (kA 16 (kI .u32)) (Arr.set s14.2 s14.1 e23)]) (xs := cellsOf [Seg.cell (.int .u32 e23)]) rfl sz36 rfl rfl rfl (len_cellsOf _) (one_cellsOf _) b8 (Spl.seg_in _ 0 (Kd.seg (kA 16 (kI .u32)) (Arr.set s14.2 s14.1 e23)) rfl rfl (Spl.arr s14.2 s14.1 e23 g36.1 g36.2 (Spl.whole ((Kd.len _ _).trans (Kd.len _ _).symm))))) rfl rfl ?_
          rintro _ w38 ⟨b8, q37⟩
          have b2 := b2.wr q37 n13
          have fB := fB.wr q37 z10
          refine ol_nil ?_
          refine blk_i ?_
          refine cw_region ?_
          refine ol_val (v := .int .i64 (IntKind.i64.wrap (s14.1 + 1))) (by exact xr_add rfl e4 rfl) rfl rfl rfl ?_
          refine ol_val (v := .int .i64 (IntKind.i64.wrap (s14.1 + 1))) (by exact xr_move rfl rfl) rfl rfl rfl ?_
          refine ol_nil ?_
          obtain rfl := Option.some.inj h
          refine lp_in ?_
          exact ⟨e0, e1, rfl, b2, b8, fB⟩
      · refine cw_condF rfl c21 ?_
        refine cw_exit ?_
        repeat (first | with_reducible refine thn_e ?_ | with_reducible refine blk_e rfl ?_)
        obtain rfl := Option.some.inj h
        refine lp_exit ?_
        rintro rfl
        refine thn_x ?_
        exact ⟨e0, e1, b2, b8, fB⟩
  · rintro ρ39 w40 ⟨e0, e1, b2, b8, fB⟩
    have h := h17
    refine cw_seq ?_
    refine cw_region ?_
    refine ol_val (v := aggV [Kd.seg (kA 16 (kI .u32)) e15]) (by exact xr_loadS (ss := [Kd.seg (kA 16 (kI .u32)) e15]) rfl ag158 sz158 rfl e1 (b8.segs 0 1 rfl)) rfl rfl rfl ?_
    refine ol_op0 (by exact opv_store (ss' := [Kd.seg (kA 16 (kI .u32)) e15]) (xs := cellsOf [Kd.seg (kA 16 (kI .u32)) e15]) rfl sz158 e0 rfl rfl (len_cellsOf _) (one_cellsOf _) b2 (Spl.segs _ 0 1 [Kd.seg (kA 16 (kI .u32)) e15] rfl rfl)) rfl rfl ?_
    rintro _ w42 ⟨b2, q41⟩
    have fB := fB.wr q41 z4
    refine ol_nil ?_
    refine cw_ret ?_
    repeat (first | with_reducible refine thn_r ?_ | with_reducible refine blk_r ?_)
    obtain rfl := Option.some.inj h
    refine fin_cell Try.results129 e0 ag158 sz158 b2 (by rfl) ?_
    exact ⟨_, rfl, rfl, fB⟩
end Go.Proofs.Ytjhajfkfhdnciaa

/- rickyard/crc.register: its model, and that the Go function computes it: written by gen.py. -/
set_option linter.unusedVariables false
namespace Go.Proofs.Ytjhajfkfhdnciaa
open Go Go.Xw
def crc_register.s0 (fu : Nat) (a0 : Arr 16 Int) (a2 : List Int) : (Int × Int) → Option (Sum Int (Int × Int)) := fun s1 => (if (decide (s1.2 < (List.length a2 : Int))) = true then (if 0 ≤ s1.2 ∧ s1.2 < (List.length a2 : Int) then (if 0 ≤ (bAnd .u32 (bXor .u32 s1.1 (IntKind.u32.wrap (ix a2 s1.2))) 15) ∧ (bAnd .u32 (bXor .u32 s1.1 (IntKind.u32.wrap (ix a2 s1.2))) 15) < 16 then (if 0 ≤ (bAnd .u32 (bXor .u32 (shR .u32 (bXor .u32 s1.1 (IntKind.u32.wrap (ix a2 s1.2))) 4) (Arr.get a0 (bAnd .u32 (bXor .u32 s1.1 (IntKind.u32.wrap (ix a2 s1.2))) 15))) 15) ∧ (bAnd .u32 (bXor .u32 (shR .u32 (bXor .u32 s1.1 (IntKind.u32.wrap (ix a2 s1.2))) 4) (Arr.get a0 (bAnd .u32 (bXor .u32 s1.1 (IntKind.u32.wrap (ix a2 s1.2))) 15))) 15) < 16 then some (Sum.inr ((bXor .u32 (shR .u32 (bXor .u32 (shR .u32 (bXor .u32 s1.1 (IntKind.u32.wrap (ix a2 s1.2))) 4) (Arr.get a0 (bAnd .u32 (bXor .u32 s1.1 (IntKind.u32.wrap (ix a2 s1.2))) 15))) 4) (Arr.get a0 (bAnd .u32 (bXor .u32 (shR .u32 (bXor .u32 s1.1 (IntKind.u32.wrap (ix a2 s1.2))) 4) (Arr.get a0 (bAnd .u32 (bXor .u32 s1.1 (IntKind.u32.wrap (ix a2 s1.2))) 15))) 15))), (IntKind.i64.wrap (s1.2 + 1)))) else none) else none) else none) else some (Sum.inl (s1.1)))
def crc_register.f (fu : Nat) (a0 : Arr 16 Int) (a1 : Int) (a2 : List Int) : Option Int := ((loopM (crc_register.s0 fu a0 a2) fu (a1, 0)).bind fun e2 => some (e2))
set_option maxRecDepth 100000 in
set_option maxHeartbeats 400000 in
theorem crc_register.ok (fu : Nat) (w : World) (a0 : Arr 16 Int) (G_0 : Nat) (b_0 : Blk w G_0 158 [Kd.seg (kA 16 (kI .u32)) a0]) (a1 : Int) (a2 : List Int) (V2_0 : Value) (R2_0 : Rd (kI .u8) w V2_0 a2) (r : Int) (h : crc_register.f fu a0 a1 a2 = some r) :
    Calls Try.prog 130 (([.pointer (some ⟨G_0, 0, none⟩), .int .u32 a1, V2_0] : List Value).toArray) w (fun e w' => ∃ v, e = .returned v ∧ v = .int .u32 r ∧ Gr w w') := by
  unfold crc_register.f at h
  have fB : Gr w w := Fr.refl _ _
  refine calls_cw Try.func130 rfl Try.ntmps130 rfl ?_
  refine cw_seq ?_
  refine cw_region ?_
  refine ol_val (v := .int .u32 0) (by exact xr_assign rfl rfl) rfl rfl rfl ?_
  refine ol_nil ?_
  refine cw_seq ?_
  refine cw_seq ?_
  refine cw_region ?_
  refine ol_val (v := V2_0) (by exact xr_move rfl rfl) rfl rfl rfl ?_
  refine ol_val (v := .int .i64 (List.length a2 : Int)) (by exact xr_lenR rfl Try.underlying22 rfl (R2_0.gr fB)) rfl rfl rfl ?_
  refine ol_val (v := .int .i64 0) (by exact xr_move rfl rfl) rfl rfl rfl ?_
  refine ol_nil ?_
  obtain ⟨e2, l3, h4⟩ := bs h
  refine cw_mid (fun ρ' w' => ρ' 1 = .int .u32 e2 ∧ Blk w' G_0 158 [Kd.seg (kA 16 (kI .u32)) a0] ∧ Gr w w') ?_ ?_
  · refine cw_block ?_
    refine cw_round (fun (s1 : Int × Int) ρ' w' => ρ' 0 = .pointer (some ⟨G_0, 0, none⟩) ∧ ρ' 1 = .int .u32 s1.1 ∧ ρ' 9 = V2_0 ∧ ρ' 10 = .int .i64 (List.length a2 : Int) ∧ ρ' 11 = .int .i64 s1.2 ∧ Blk w' G_0 158 [Kd.seg (kA 16 (kI .u32)) a0] ∧ Gr w w') l3 ?_ ?_
    · skip
      exact ⟨rfl, rfl, rfl, rfl, rfl, b_0, fB⟩
    · rintro s1 x7 ρ5 w6 ⟨e0, e1, e9, e10, e11, b_0, fB⟩ h
      unfold crc_register.s0 at h
      refine cw_seq ?_
      refine cw_region ?_
      refine ol_val (v := .bool (decide (s1.2 < (List.length a2 : Int)))) (by exact xr_lss rfl e11 e10) rfl rfl rfl ?_
      refine ol_nil ?_
      refine cw_seq ?_
      rcases is h with ⟨c8, h⟩ | ⟨c8, h⟩
      · refine cw_condT rfl c8 ?_
        refine cw_skip ?_
        refine cw_seq ?_
        refine cw_block ?_
        refine cw_seq ?_
        refine cw_region ?_
        obtain ⟨g9, h⟩ := gs h
        refine ol_val (v := .pointer (some ⟨(sb V2_0), so V2_0 + Int.toNat s1.2 * 1, none⟩)) (by exact xr_indexR (K := (kI .u8)) (v := V2_0) rfl Try.underlying22 sz5 e9 (R2_0.gr fB) e11 g9.1 g9.2) rfl rfl rfl ?_
        refine ol_val (v := .int .u8 (ix a2 s1.2)) (by exact xr_load1 (v := .int .u8 (ix a2 s1.2)) rfl ag5 rfl ((R2_0.gr fB).elem g9.1 g9.2)) rfl rfl rfl ?_
        refine ol_val (v := .int .u8 (ix a2 s1.2)) (by exact xr_assign rfl rfl) rfl rfl rfl ?_
        refine ol_nil ?_
        refine cw_seq ?_
        refine cw_region ?_
        refine ol_val (v := .int .u32 s1.1) (by exact xr_move rfl e1) rfl rfl rfl ?_
        refine ol_val (v := .int .u8 (ix a2 s1.2)) (by exact xr_move rfl rfl) rfl rfl rfl ?_
        refine ol_val (v := .int .u32 (IntKind.u32.wrap (ix a2 s1.2))) (by exact xr_conv rfl Try.underlying5 Try.underlying36 rfl) rfl rfl rfl ?_
        refine ol_val (v := .int .u32 (bXor .u32 s1.1 (IntKind.u32.wrap (ix a2 s1.2)))) (by exact xr_xor rfl rfl rfl) rfl rfl rfl ?_
        refine ol_val (v := .int .u32 (bXor .u32 s1.1 (IntKind.u32.wrap (ix a2 s1.2)))) (by exact xr_assign rfl rfl) rfl rfl rfl ?_
        refine ol_nil ?_
        refine cw_seq ?_
        refine cw_region ?_
        refine ol_val (v := .int .u32 (bXor .u32 s1.1 (IntKind.u32.wrap (ix a2 s1.2)))) (by exact xr_move rfl rfl) rfl rfl rfl ?_
        refine ol_val (v := .int .u32 (shR .u32 (bXor .u32 s1.1 (IntKind.u32.wrap (ix a2 s1.2))) 4)) (by exact xr_shr rfl rfl rfl (by decide)) rfl rfl rfl ?_
        refine ol_val (v := .pointer (some ⟨G_0, 0, none⟩)) (by exact xr_move rfl e0) rfl rfl rfl ?_
        refine ol_val (v := .int .u32 (bXor .u32 s1.1 (IntKind.u32.wrap (ix a2 s1.2)))) (by exact xr_move rfl rfl) rfl rfl rfl ?_
        refine ol_val (v := .int .u32 (bAnd .u32 (bXor .u32 s1.1 (IntKind.u32.wrap (ix a2 s1.2))) 15)) (by exact xr_and rfl rfl rfl) rfl rfl rfl ?_
        refine ol_val (v := .pointer (some ⟨G_0, 0, none⟩)) (by exact xr_nilCheck rfl rfl) rfl rfl rfl ?_
        obtain ⟨g10, h⟩ := gs h
        refine ol_val (v := .pointer (some ⟨G_0, 0 + Int.toNat (bAnd .u32 (bXor .u32 s1.1 (IntKind.u32.wrap (ix a2 s1.2))) 15) * 1, none⟩)) (by exact xr_indexA (p := 0) (s := 1) rfl Try.underlying158 sz36 rfl rfl g10.1 g10.2) rfl rfl rfl ?_
        refine ol_val (v := .int .u32 (Arr.get a0 (bAnd .u32 (bXor .u32 s1.1 (IntKind.u32.wrap (ix a2 s1.2))) 15))) (by exact xr_load1 (v := .int .u32 (Arr.get a0 (bAnd .u32 (bXor .u32 s1.1 (IntKind.u32.wrap (ix a2 s1.2))) 15))) rfl ag36 rfl (At.arr (a := a0) (b_0.seg 0 rfl rfl) g10.1 g10.2)) rfl rfl rfl ?_
        refine ol_val (v := .int .u32 (bXor .u32 (shR .u32 (bXor .u32 s1.1 (IntKind.u32.wrap (ix a2 s1.2))) 4) (Arr.get a0 (bAnd .u32 (bXor .u32 s1.1 (IntKind.u32.wrap (ix a2 s1.2))) 15)))) (by exact xr_xor rfl rfl rfl) rfl rfl rfl ?_
        refine ol_val (v := .int .u32 (bXor .u32 (shR .u32 (bXor .u32 s1.1 (IntKind.u32.wrap (ix a2 s1.2))) 4) (Arr.get a0 (bAnd .u32 (bXor .u32 s1.1 (IntKind.u32.wrap (ix a2 s1.2))) 15)))) (by exact xr_assign rfl rfl) rfl rfl rfl ?_
        refine ol_nil ?_
        refine cw_region ?_
        refine ol_val (v := .int .u32 (bXor .u32 (shR .u32 (bXor .u32 s1.1 (IntKind.u32.wrap (ix a2 s1.2))) 4) (Arr.get a0 (bAnd .u32 (bXor .u32 s1.1 (IntKind.u32.wrap (ix a2 s1.2))) 15)))) (by exact xr_move rfl rfl) rfl rfl rfl ?_
        refine ol_val (v := .int .u32 (shR .u32 (bXor .u32 (shR .u32 (bXor .u32 s1.1 (IntKind.u32.wrap (ix a2 s1.2))) 4) (Arr.get a0 (bAnd .u32 (bXor .u32 s1.1 (IntKind.u32.wrap (ix a2 s1.2))) 15))) 4)) (by exact xr_shr rfl rfl rfl (by decide)) rfl rfl rfl ?_
        refine ol_val (v := .pointer (some ⟨G_0, 0, none⟩)) (by exact xr_move rfl e0) rfl rfl rfl ?_
        refine ol_val (v := .int .u32 (bXor .u32 (shR .u32 (bXor .u32 s1.1 (IntKind.u32.wrap (ix a2 s1.2))) 4) (Arr.get a0 (bAnd .u32 (bXor .u32 s1.1 (IntKind.u32.wrap (ix a2 s1.2))) 15)))) (by exact xr_move rfl rfl) rfl rfl rfl ?_
        refine ol_val (v := .int .u32 (bAnd .u32 (bXor .u32 (shR .u32 (bXor .u32 s1.1 (IntKind.u32.wrap (ix a2 s1.2))) 4) (Arr.get a0 (bAnd .u32 (bXor .u32 s1.1 (IntKind.u32.wrap (ix a2 s1.2))) 15))) 15)) (by exact xr_and rfl rfl rfl) rfl rfl rfl ?_
        refine ol_val (v := .pointer (some ⟨G_0, 0, none⟩)) (by exact xr_nilCheck rfl rfl) rfl rfl rfl ?_
        obtain ⟨g11, h⟩ := gs h
        refine ol_val (v := .pointer (some ⟨G_0, 0 + Int.toNat (bAnd .u32 (bXor .u32 (shR .u32 (bXor .u32 s1.1 (IntKind.u32.wrap (ix a2 s1.2))) 4) (Arr.get a0 (bAnd .u32 (bXor .u32 s1.1 (IntKind.u32.wrap (ix a2 s1.2))) 15))) 15) * 1, none⟩)) (by exact xr_indexA (p := 0) (s := 1) rfl Try.underlying158 sz36 rfl rfl g11.1 g11.2) rfl rfl rfl ?_
        refine ol_val (v := .int .u32 (Arr.get a0 (bAnd .u32 (bXor .u32 (shR .u32 (bXor .u32 s1.1 (IntKind.u32.wrap (ix a2 s1.2))) 4) (Arr.get a0 (bAnd .u32 (bXor .u32 s1.1 (IntKind.u32.wrap (ix a2 s1.2))) 15))) 15))) (by exact xr_load1 (v := .int .u32 (Arr.get a0 (bAnd .u32 (bXor .u32 (shR .u32 (bXor .u32 s1.1 (IntKind.u32.wrap (ix a2 s1.2))) 4) (Arr.get a0 (bAnd .u32 (bXor .u32 s1.1 (IntKind.u32.wrap (ix a2 s1.2))) 15))) 15))) rfl ag36 rfl (At.arr (a := a0) (b_0.seg 0 rfl rfl) g11.1 g11.2)) rfl rfl rfl ?_
        refine ol_val (v := .int .u32 (bXor .u32 (shR .u32 (bXor .u32 (shR .u32 (bXor .u32 s1.1 (IntKind.u32.wrap (ix a2 s1.2))) 4) (Arr.get a0 (bAnd .u32 (bXor .u32 s1.1 (IntKind.u32.wrap (ix a2 s1.2))) 15))) 4) (Arr.get a0 (bAnd .u32 (bXor .u32 (shR .u32 (bXor .u32 s1.1 (IntKind.u32.wrap (ix a2 s1.2))) 4) (Arr.get a0 (bAnd .u32 (bXor .u32 s1.1 (IntKind.u32.wrap (ix a2 s1.2))) 15))) 15)))) (by exact xr_xor rfl rfl rfl) rfl rfl rfl ?_
        refine ol_val (v := .int .u32 (bXor .u32 (shR .u32 (bXor .u32 (shR .u32 (bXor .u32 s1.1 (IntKind.u32.wrap (ix a2 s1.2))) 4) (Arr.get a0 (bAnd .u32 (bXor .u32 s1.1 (IntKind.u32.wrap (ix a2 s1.2))) 15))) 4) (Arr.get a0 (bAnd .u32 (bXor .u32 (shR .u32 (bXor .u32 s1.1 (IntKind.u32.wrap (ix a2 s1.2))) 4) (Arr.get a0 (bAnd .u32 (bXor .u32 s1.1 (IntKind.u32.wrap (ix a2 s1.2))) 15))) 15)))) (by exact xr_assign rfl rfl) rfl rfl rfl ?_
        refine ol_nil ?_
        refine blk_i ?_
        refine cw_region ?_
        refine ol_val (v := .int .i64 (IntKind.i64.wrap (s1.2 + 1))) (by exact xr_add rfl e11 rfl) rfl rfl rfl ?_
        refine ol_val (v := .int .i64 (IntKind.i64.wrap (s1.2 + 1))) (by exact xr_move rfl rfl) rfl rfl rfl ?_
        refine ol_nil ?_
        obtain rfl := Option.some.inj h
        refine lp_in ?_
        exact ⟨e0, rfl, e9, e10, rfl, b_0, fB⟩
      · refine cw_condF rfl c8 ?_
        refine cw_exit ?_
        repeat (first | with_reducible refine thn_e ?_ | with_reducible refine blk_e rfl ?_)
        obtain rfl := Option.some.inj h
        refine lp_exit ?_
        rintro rfl
        refine thn_x ?_
        exact ⟨e1, b_0, fB⟩
  · rintro ρ12 w13 ⟨e1, b_0, fB⟩
    have h := h4
    refine cw_seq ?_
    refine cw_region ?_
    refine ol_val (v := .int .u32 e2) (by exact xr_move rfl e1) rfl rfl rfl ?_
    refine ol_val (v := .int .u32 e2) (by exact xr_assign rfl rfl) rfl rfl rfl ?_
    refine ol_nil ?_
    refine cw_ret ?_
    repeat (first | with_reducible refine thn_r ?_ | with_reducible refine blk_r ?_)
    obtain rfl := Option.some.inj h
    refine fin_ret1 Try.results130 rfl ?_
    exact ⟨_, rfl, rfl, fB⟩
end Go.Proofs.Ytjhajfkfhdnciaa

/- rickyard/crc.Sum: its model, and that the Go function computes it: written by gen.py. -/
set_option linter.unusedVariables false
namespace Go.Proofs.Ytjhajfkfhdnciaa
open Go Go.Xw
def crc_Sum.s0 (fu : Nat) (a0 : List (List Int)) (t1 : (Arr 16 Int)) : (Int × Int) → Option (Sum Int (Int × Int)) := fun s13 => (if (decide (s13.2 < (List.length a0 : Int))) = true then (if 0 ≤ s13.2 ∧ s13.2 < (List.length a0 : Int) then ((crc_register.f fu t1 s13.1 (ix a0 s13.2) : Option Int).bind fun t23 => some (Sum.inr (t23, (IntKind.i64.wrap (s13.2 + 1))))) else none) else some (Sum.inl (s13.1)))
def crc_Sum.f (fu : Nat) (a0 : List (List Int)) : Option Int := ((crc_Table.f fu : Option (Arr 16 Int)).bind fun t1 => ((loopM (crc_Sum.s0 fu a0 t1) fu (4294967295, 0)).bind fun e14 => some ((bXor .u32 e14 4294967295))))
set_option maxRecDepth 100000 in
set_option maxHeartbeats 400000 in
theorem crc_Sum.ok (fu : Nat) (w : World) (a0 : List (List Int)) (V0_0 : Value) (R0_0 : Rds (kI .u8) w V0_0 a0) (r : Int) (h : crc_Sum.f fu a0 = some r) :
    Calls Try.prog 96 (([V0_0] : List Value).toArray) w (fun e w' => ∃ v, e = .returned v ∧ v = .int .u32 r ∧ Gr w w') := by
  unfold crc_Sum.f at h
  have fB : Gr w w := Fr.refl _ _
  refine calls_cw Try.func96 rfl Try.ntmps96 rfl ?_
  refine cw_seq ?_
  refine cw_region ?_
  refine ol_val (v := .int .u32 0) (by exact xr_assign rfl rfl) rfl rfl rfl ?_
  refine ol_nil ?_
  refine cw_seq ?_
  refine cw_region ?_
  obtain ⟨t1, k2, h⟩ := bs h
  refine ol_op (by exact opv_call rfl cal129 an (crc_Table.ok fu _ _ k2)) rfl rfl rfl ?_
  rintro _ w4 ⟨rfl, q3⟩
  have fB := fB.gr q3
  refine ol_op (by exact opv_alloc (ss := [Kd.seg (kA 16 (kI .u32)) (Arr.rep 16 (0 : Int))]) rfl ze158 rfl) rfl rfl rfl ?_
  rintro _ w10 ⟨G5, rfl, b6, q7, z8⟩
  have z8 := Nat.le_trans fB.size z8
  have fB := fB.gr q7
  refine ol_op0 (by exact opv_store (ss' := [Kd.seg (kA 16 (kI .u32)) t1]) (xs := cellsOf [Kd.seg (kA 16 (kI .u32)) t1]) rfl sz158 rfl rfl rfl (len_cellsOf _) (one_cellsOf _) b6 (Spl.segs _ 0 1 [Kd.seg (kA 16 (kI .u32)) t1] rfl rfl)) rfl rfl ?_
  rintro _ w12 ⟨b6, q11⟩
  have fB := fB.wr q11 z8
  refine ol_val (v := .int .u32 4294967295) (by exact xr_assign rfl rfl) rfl rfl rfl ?_
  refine ol_nil ?_
  refine cw_seq ?_
  refine cw_seq ?_
  refine cw_region ?_
  refine ol_val (v := V0_0) (by exact xr_move rfl rfl) rfl rfl rfl ?_
  refine ol_val (v := .int .i64 (List.length a0 : Int)) (by exact xr_lenRs rfl Try.underlying157 rfl (R0_0.gr fB)) rfl rfl rfl ?_
  refine ol_val (v := .int .i64 0) (by exact xr_move rfl rfl) rfl rfl rfl ?_
  refine ol_nil ?_
  obtain ⟨e14, l15, h16⟩ := bs h
  refine cw_mid (fun ρ' w' => ρ' 4 = .int .u32 e14 ∧ Gr w w') ?_ ?_
  · refine cw_block ?_
    refine cw_round (fun (s13 : Int × Int) ρ' w' => ρ' 3 = .pointer (some ⟨G5, 0, none⟩) ∧ ρ' 4 = .int .u32 s13.1 ∧ ρ' 8 = V0_0 ∧ ρ' 9 = .int .i64 (List.length a0 : Int) ∧ ρ' 10 = .int .i64 s13.2 ∧ Blk w' G5 158 [Kd.seg (kA 16 (kI .u32)) t1] ∧ Gr w w') l15 ?_ ?_
    · skip
      exact ⟨rfl, rfl, rfl, rfl, rfl, b6, fB⟩
    · rintro s13 x19 ρ17 w18 ⟨e3, e4, e8, e9, e10, b6, fB⟩ h
      unfold crc_Sum.s0 at h
      refine cw_seq ?_
      refine cw_region ?_
      refine ol_val (v := .bool (decide (s13.2 < (List.length a0 : Int)))) (by exact xr_lss rfl e10 e9) rfl rfl rfl ?_
      refine ol_nil ?_
      refine cw_seq ?_
      rcases is h with ⟨c20, h⟩ | ⟨c20, h⟩
      · refine cw_condT rfl c20 ?_
        refine cw_skip ?_
        refine cw_seq ?_
        refine cw_block ?_
        refine cw_seq ?_
        refine cw_region ?_
        obtain ⟨g21, h⟩ := gs h
        refine ol_val (v := .pointer (some ⟨(sb V0_0), so V0_0 + Int.toNat s13.2 * 1, none⟩)) (by exact xr_indexRs (v := V0_0) rfl Try.underlying157 sz22 e8 (R0_0.gr fB) e10 g21.1 g21.2) rfl rfl rfl ?_
        refine ol_val (v := inner w18 V0_0 s13.2) (by exact xr_load1 (v := inner w18 V0_0 s13.2) rfl ag22 rfl ((R0_0.gr fB).elem g21.1 g21.2).1) rfl rfl rfl ?_
        have r22 : Rd (kI .u8) w18 (inner w18 V0_0 s13.2) (ix a0 s13.2) := ((R0_0.gr fB).elem g21.1 g21.2).2
        refine ol_val (v := inner w18 V0_0 s13.2) (by exact xr_assign rfl rfl) rfl rfl rfl ?_
        refine ol_nil ?_
        refine cw_region ?_
        refine ol_val (v := .int .u32 s13.1) (by exact xr_move rfl e4) rfl rfl rfl ?_
        refine ol_val (v := inner w18 V0_0 s13.2) (by exact xr_move rfl rfl) rfl rfl rfl ?_
        obtain ⟨t23, k24, h⟩ := bs h
        refine ol_op (by exact opv_call rfl cal130 (ac e3 (ac rfl (ac rfl an))) (crc_register.ok fu _ t1 G5 b6 s13.1 (ix a0 s13.2) (inner w18 V0_0 s13.2) (r22) _ k24)) rfl rfl rfl ?_
        rintro _ w26 ⟨rfl, q25⟩
        have b6 := b6.gr q25
        have fB := fB.gr q25
        refine ol_val (v := .int .u32 t23) (by exact xr_assign rfl rfl) rfl rfl rfl ?_
        refine ol_nil ?_
        refine blk_i ?_
        refine cw_region ?_
        refine ol_val (v := .int .i64 (IntKind.i64.wrap (s13.2 + 1))) (by exact xr_add rfl e10 rfl) rfl rfl rfl ?_
        refine ol_val (v := .int .i64 (IntKind.i64.wrap (s13.2 + 1))) (by exact xr_move rfl rfl) rfl rfl rfl ?_
        refine ol_nil ?_
        obtain rfl := Option.some.inj h
        refine lp_in ?_
        exact ⟨e3, rfl, e8, e9, rfl, b6, fB⟩
      · refine cw_condF rfl c20 ?_
        refine cw_exit ?_
        repeat (first | with_reducible refine thn_e ?_ | with_reducible refine blk_e rfl ?_)
        obtain rfl := Option.some.inj h
        refine lp_exit ?_
        rintro rfl
        refine thn_x ?_
        exact ⟨e4, fB⟩
  · rintro ρ27 w28 ⟨e4, fB⟩
    have h := h16
    refine cw_seq ?_
    refine cw_region ?_
    refine ol_val (v := .int .u32 e14) (by exact xr_move rfl e4) rfl rfl rfl ?_
    refine ol_val (v := .int .u32 (bXor .u32 e14 4294967295)) (by exact xr_xor rfl rfl rfl) rfl rfl rfl ?_
    refine ol_val (v := .int .u32 (bXor .u32 e14 4294967295)) (by exact xr_assign rfl rfl) rfl rfl rfl ?_
    refine ol_nil ?_
    refine cw_ret ?_
    repeat (first | with_reducible refine thn_r ?_ | with_reducible refine blk_r ?_)
    obtain rfl := Option.some.inj h
    refine fin_ret1 Try.results96 rfl ?_
    exact ⟨_, rfl, rfl, fB⟩
end Go.Proofs.Ytjhajfkfhdnciaa

/- rickyard/crc.Fits: its model, and that the Go function computes it: written by gen.py. -/
set_option linter.unusedVariables false
namespace Go.Proofs.Ytjhajfkfhdnciaa
open Go Go.Xw
def crc_Fits.f (fu : Nat) (a0 : Int) (a1 : List (List Int)) : Option Bool := ((crc_Sum.f fu a1 : Option Int).bind fun t1 => some ((decide (t1 = a0))))
set_option maxRecDepth 100000 in
set_option maxHeartbeats 400000 in
theorem crc_Fits.ok (fu : Nat) (w : World) (a0 : Int) (a1 : List (List Int)) (V1_0 : Value) (R1_0 : Rds (kI .u8) w V1_0 a1) (r : Bool) (h : crc_Fits.f fu a0 a1 = some r) :
    Calls Try.prog 131 (([.int .u32 a0, V1_0] : List Value).toArray) w (fun e w' => ∃ v, e = .returned v ∧ v = .bool r ∧ Gr w w') := by
  unfold crc_Fits.f at h
  have fB : Gr w w := Fr.refl _ _
  refine calls_cw Try.func131 rfl Try.ntmps131 rfl ?_
  refine cw_seq ?_
  refine cw_region ?_
  refine ol_val (v := .bool false) (by exact xr_assign rfl rfl) rfl rfl rfl ?_
  refine ol_nil ?_
  refine cw_seq ?_
  refine cw_region ?_
  refine ol_val (v := V1_0) (by exact xr_move rfl rfl) rfl rfl rfl ?_
  obtain ⟨t1, k2, h⟩ := bs h
  refine ol_op (by exact opv_call rfl cal96 (ac rfl an) (crc_Sum.ok fu _ a1 V1_0 (R1_0.gr fB) _ k2)) rfl rfl rfl ?_
  rintro _ w4 ⟨rfl, q3⟩
  have fB := fB.gr q3
  refine ol_val (v := .int .u32 a0) (by exact xr_move rfl rfl) rfl rfl rfl ?_
  refine ol_val (v := .bool (decide (t1 = a0))) (by exact xr_eqI rfl Try.underlying36 rfl rfl rfl) rfl rfl rfl ?_
  refine ol_val (v := .bool (decide (t1 = a0))) (by exact xr_assign rfl rfl) rfl rfl rfl ?_
  refine ol_nil ?_
  refine cw_ret ?_
  repeat (first | with_reducible refine thn_r ?_ | with_reducible refine blk_r ?_)
  obtain rfl := Option.some.inj h
  refine fin_ret1 Try.results131 rfl ?_
  exact ⟨_, rfl, rfl, fB⟩
end Go.Proofs.Ytjhajfkfhdnciaa

/- rickyard/block.right: its model, and that the Go function computes it: written by gen.py. -/
set_option linter.unusedVariables false
namespace Go.Proofs.Ytjhajfkfhdnciaa
open Go Go.Xw
def block_right.f (fu : Nat) (a0 : List Int) : Option Bool := (((if (decide ((List.length a0 : Int) = 64)) = true then (if (4 : Int) < (List.length a0 : Int) then (if (!decide ((ix a0 4) = 0)) = true then ((octet_Noughts.f fu a0 6 2 : Option Bool).bind fun t6 => (if t6 = true then (if (4 : Int) ≤ (List.length a0 : Int) then ((octet_Read.f fu (cut a0 0 4) : Option Int).bind fun t13 => (if (4 : Int) ≤ (List.length a0 : Int) then ((crc_Fits.f fu (IntKind.u32.wrap t13) [(cut a0 4 (List.length a0 : Int))] : Option Bool).bind fun t22 => some (t22)) else none)) else none) else some (false))) else some (false)) else none) else some (false)) : Option Bool).bind fun x1 => some (x1))
set_option maxRecDepth 100000 in
set_option maxHeartbeats 400000 in
theorem block_right.ok (fu : Nat) (w : World) (a0 : List Int) (V0_0 : Value) (R0_0 : Rd (kI .u8) w V0_0 a0) (r : Bool) (h : block_right.f fu a0 = some r) :
    Calls Try.prog 97 (([V0_0] : List Value).toArray) w (fun e w' => ∃ v, e = .returned v ∧ v = .bool r ∧ Gr w w') := by
  unfold block_right.f at h
  have fB : Gr w w := Fr.refl _ _
  refine calls_cw Try.func97 rfl Try.ntmps97 rfl ?_
  refine cw_seq ?_
  refine cw_region ?_
  refine ol_val (v := .bool false) (by exact xr_assign rfl rfl) rfl rfl rfl ?_
  refine ol_nil ?_
  refine cw_seq ?_
  obtain ⟨x1, j2, h⟩ := bs h
  refine cw_mid (fun ρ' w' => ρ' 2 = .bool x1 ∧ Gr w w') ?_ ?_
  · skip
    rcases is j2 with ⟨c3, j2⟩ | ⟨c3, j2⟩
    · skip
      obtain ⟨g4, j2⟩ := gs j2
      rcases is j2 with ⟨c5, j2⟩ | ⟨c5, j2⟩
      · skip
        obtain ⟨t6, k7, j2⟩ := bs j2
        rcases is j2 with ⟨c9, j2⟩ | ⟨c9, j2⟩
        · skip
          obtain ⟨g11, j2⟩ := gs j2
          obtain ⟨t13, k14, j2⟩ := bs j2
          obtain ⟨g17, j2⟩ := gs j2
          obtain ⟨t22, k23, j2⟩ := bs j2
          refine cw_drawL 22 [fun vz wz => vz = (V0_0 : Value), fun vz wz => vz = (.int .i64 (List.length a0 : Int) : Value), fun vz wz => vz = (.bool (decide ((List.length a0 : Int) = 64)) : Value), fun vz wz => vz = (.bool (decide ((List.length a0 : Int) = 64)) : Value), fun vz wz => vz = (V0_0 : Value), fun vz wz => vz = (.pointer (some ⟨(sb V0_0), so V0_0 + Int.toNat 4 * 1, none⟩) : Value), fun vz wz => vz = (.int .u8 (ix a0 4) : Value), fun vz wz => vz = (.bool (!decide ((ix a0 4) = 0)) : Value), fun vz wz => vz = (.bool (!decide ((ix a0 4) = 0)) : Value), fun vz wz => vz = (.bool (!decide ((ix a0 4) = 0)) : Value), fun vz wz => vz = (V0_0 : Value), fun vz wz => vz = (.bool t6 : Value), fun vz wz => vz = (.bool t6 : Value), fun vz wz => vz = (.bool t6 : Value), fun vz wz => vz = (V0_0 : Value), fun vz wz => ∃ u12 : Value, ∃ r10 : Rd (kI .u8) wz u12 (cut a0 0 4), vz = (u12 : Value), fun vz wz => vz = (.int .u64 t13 : Value), fun vz wz => vz = (.int .u32 (IntKind.u32.wrap t13) : Value), fun vz wz => vz = (V0_0 : Value), fun vz wz => ∃ u18 : Value, ∃ r16 : Rd (kI .u8) wz u18 (cut a0 4 (List.length a0 : Int)), vz = (u18 : Value), fun vz wz => ∃ v19 : Value, ∃ r21 : Rds (kI .u8) wz v19 [(cut a0 4 (List.length a0 : Int))], vz = (v19 : Value), fun vz wz => vz = (.bool t22 : Value)] mo rfl ⟨fun _ _ _ h _ => h, fun _ _ _ h _ => h, fun _ _ _ h _ => h, fun _ _ _ h _ => h, fun _ _ _ h _ => h, fun _ _ _ h _ => h, fun _ _ _ h _ => h, fun _ _ _ h _ => h, fun _ _ _ h _ => h, fun _ _ _ h _ => h, fun _ _ _ h _ => h, fun _ _ _ h _ => h, fun _ _ _ h _ => h, fun _ _ _ h _ => h, fun _ _ _ h _ => h, fun _ _ _ ⟨u12, r10, h⟩ q => ⟨u12, r10.gr q, h⟩, fun _ _ _ h _ => h, fun _ _ _ h _ => h, fun _ _ _ h _ => h, fun _ _ _ ⟨u18, r16, h⟩ q => ⟨u18, r16.gr q, h⟩, fun _ _ _ ⟨v19, r21, h⟩ q => ⟨v19, r21.gr q, h⟩, fun _ _ _ h _ => h, trivial⟩ ?_ ?_
          · refine ⟨?_, ?_, ?_, ?_, ?_, ?_, ?_, ?_, ?_, ?_, ?_, ?_, ?_, ?_, ?_, ?_, ?_, ?_, ?_, ?_, ?_, ?_, trivial⟩
            · intro ρz wz hz hk hd
              exact sk_val (v := V0_0) (by exact xr_move rfl ((hk 0 rfl).trans rfl)) rfl rfl
            · intro ρz wz hz hk hd
              have d3 := hd 0 rfl 3 rfl
              exact sk_val (v := .int .i64 (List.length a0 : Int)) (by exact xr_lenR rfl Try.underlying22 d3 (R0_0.gr (fB.gr hz))) rfl rfl
            · intro ρz wz hz hk hd
              have d4 := hd 1 rfl 4 rfl
              exact sk_val (v := .bool (decide ((List.length a0 : Int) = 64))) (by exact xr_eqI rfl Try.underlying3 rfl d4 rfl) rfl rfl
            · intro ρz wz hz hk hd
              have d5 := hd 2 rfl 5 rfl
              exact sk_val (v := .bool (decide ((List.length a0 : Int) = 64))) (by exact xr_move rfl d5) rfl rfl
            · intro ρz wz hz hk hd
              have d6 := hd 3 rfl 6 rfl
              exact sk_gval (v := V0_0) (by exact xr_move rfl ((hk 0 rfl).trans rfl)) rfl rfl d6 c3 rfl
            · intro ρz wz hz hk hd
              have d7 := hd 4 rfl 7 rfl
              have d6 := hd 3 rfl 6 rfl
              exact sk_gval (by exact xr_indexR (K := (kI .u8)) (v := V0_0) rfl Try.underlying22 sz5 d7 (R0_0.gr (fB.gr hz)) rfl (by decide) g4) rfl rfl d6 c3 rfl
            · intro ρz wz hz hk hd
              have d8 := hd 5 rfl 8 rfl
              have d6 := hd 3 rfl 6 rfl
              exact sk_gval (v := .int .u8 (ix a0 4)) (by exact xr_load1 (v := .int .u8 (ix a0 4)) rfl ag5 d8 ((R0_0.gr (fB.gr hz)).elem (by decide) g4)) rfl rfl d6 c3 rfl
            · intro ρz wz hz hk hd
              have d9 := hd 6 rfl 9 rfl
              have d6 := hd 3 rfl 6 rfl
              exact sk_gval (v := .bool (!decide ((ix a0 4) = 0))) (by exact xr_neI rfl Try.underlying5 rfl d9 rfl) rfl rfl d6 c3 rfl
            · intro ρz wz hz hk hd
              have d6 := hd 3 rfl 6 rfl
              have d10 := hd 7 rfl 10 rfl
              exact sk_val (v := .bool (!decide ((ix a0 4) = 0))) (by exact xr_pickT rfl d6 c3 d10) rfl rfl
            · intro ρz wz hz hk hd
              have d11 := hd 8 rfl 11 rfl
              exact sk_val (v := .bool (!decide ((ix a0 4) = 0))) (by exact xr_move rfl d11) rfl rfl
            · intro ρz wz hz hk hd
              have d12 := hd 9 rfl 12 rfl
              exact sk_gval (v := V0_0) (by exact xr_move rfl ((hk 0 rfl).trans rfl)) rfl rfl d12 c5 rfl
            · intro ρz wz hz hk hd
              have d13 := hd 10 rfl 13 rfl
              have d12 := hd 9 rfl 12 rfl
              refine sk_gop (by exact opv_call rfl cal102 (ac d13 (ac rfl (ac rfl an))) (octet_Noughts.ok fu _ a0 V0_0 (R0_0.gr (fB.gr hz)) 6 2 _ k7)) rfl rfl d12 c5 ?_
              rintro _ wy ⟨rfl, q8⟩
              exact ⟨rfl, q8⟩
            · intro ρz wz hz hk hd
              have d12 := hd 9 rfl 12 rfl
              have d14 := hd 11 rfl 14 rfl
              exact sk_val (v := .bool t6) (by exact xr_pickT rfl d12 c5 d14) rfl rfl
            · intro ρz wz hz hk hd
              have d15 := hd 12 rfl 15 rfl
              exact sk_val (v := .bool t6) (by exact xr_move rfl d15) rfl rfl
            · intro ρz wz hz hk hd
              have d16 := hd 13 rfl 16 rfl
              exact sk_gval (v := V0_0) (by exact xr_move rfl ((hk 0 rfl).trans rfl)) rfl rfl d16 c9 rfl
            · intro ρz wz hz hk hd
              have d17 := hd 14 rfl 17 rfl
              have d16 := hd 13 rfl 16 rfl
              exact sk_gval (by exact xr_slice_h (K := (kI .u8)) (v := V0_0) rfl Try.underlying22 sz5 d17 (R0_0.gr (fB.gr hz)) rfl (by decide) g11) rfl rfl d16 c9 ⟨_, (R0_0.gr (fB.gr hz)).cut (lo := 0) (hi := 4) (by decide) (by decide) g11, rfl⟩
            · intro ρz wz hz hk hd
              obtain ⟨u12, r10, d18⟩ := hd 15 rfl 18 rfl
              have d16 := hd 13 rfl 16 rfl
              refine sk_gop (by exact opv_call rfl cal112 (ac d18 an) (octet_Read.ok fu _ (cut a0 0 4) u12 (r10) _ k14)) rfl rfl d16 c9 ?_
              rintro _ wy ⟨rfl, q15⟩
              exact ⟨rfl, q15⟩
            · intro ρz wz hz hk hd
              have d19 := hd 16 rfl 19 rfl
              have d16 := hd 13 rfl 16 rfl
              exact sk_gval (v := .int .u32 (IntKind.u32.wrap t13)) (by exact xr_conv rfl Try.underlying129 Try.underlying36 d19) rfl rfl d16 c9 rfl
            · intro ρz wz hz hk hd
              have d16 := hd 13 rfl 16 rfl
              exact sk_gval (v := V0_0) (by exact xr_move rfl ((hk 0 rfl).trans rfl)) rfl rfl d16 c9 rfl
            · intro ρz wz hz hk hd
              have d21 := hd 18 rfl 21 rfl
              have d16 := hd 13 rfl 16 rfl
              exact sk_gval (by exact xr_slice_l (K := (kI .u8)) (v := V0_0) rfl Try.underlying22 sz5 d21 (R0_0.gr (fB.gr hz)) rfl (by decide) g17) rfl rfl d16 c9 ⟨_, (R0_0.gr (fB.gr hz)).cut (lo := 4) (hi := (List.length a0 : Int)) (by decide) g17 (Int.le_refl _), rfl⟩
            · intro ρz wz hz hk hd
              obtain ⟨u18, r16, d22⟩ := hd 19 rfl 22 rfl
              have d16 := hd 13 rfl 16 rfl
              refine sk_gop (by exact opv_build1 rfl Try.underlying157 el22 rfl r16 d22) rfl rfl d16 c9 ?_
              rintro v19 wy ⟨r21, q20⟩
              exact ⟨⟨v19, r21, rfl⟩, q20⟩
            · intro ρz wz hz hk hd
              have d20 := hd 17 rfl 20 rfl
              obtain ⟨v19, r21, d23⟩ := hd 20 rfl 23 rfl
              have d16 := hd 13 rfl 16 rfl
              refine sk_gop (by exact opv_call rfl cal131 (ac d20 (ac d23 an)) (crc_Fits.ok fu _ (IntKind.u32.wrap t13) [(cut a0 4 (List.length a0 : Int))] v19 (r21) _ k23)) rfl rfl d16 c9 ?_
              rintro _ wy ⟨rfl, q24⟩
              exact ⟨rfl, q24⟩
          · intro ρ25 w26 q27 hk hd
            have e16 := hd 13 rfl 16 rfl
            have e24 := hd 21 rfl 24 rfl
            have fB := fB.gr q27
            refine ol_val (v := .bool t22) (by exact xr_pickT rfl e16 c9 e24) rfl rfl rfl ?_
            refine ol_val (v := .bool t22) (by exact xr_assign rfl rfl) rfl rfl rfl ?_
            refine ol_nil ?_
            obtain rfl := Option.some.inj j2
            refine thn_i ?_
            exact ⟨rfl, q27⟩
        · skip
          refine cw_drawL 22 [fun vz wz => vz = (V0_0 : Value), fun vz wz => vz = (.int .i64 (List.length a0 : Int) : Value), fun vz wz => vz = (.bool (decide ((List.length a0 : Int) = 64)) : Value), fun vz wz => vz = (.bool (decide ((List.length a0 : Int) = 64)) : Value), fun vz wz => vz = (V0_0 : Value), fun vz wz => vz = (.pointer (some ⟨(sb V0_0), so V0_0 + Int.toNat 4 * 1, none⟩) : Value), fun vz wz => vz = (.int .u8 (ix a0 4) : Value), fun vz wz => vz = (.bool (!decide ((ix a0 4) = 0)) : Value), fun vz wz => vz = (.bool (!decide ((ix a0 4) = 0)) : Value), fun vz wz => vz = (.bool (!decide ((ix a0 4) = 0)) : Value), fun vz wz => vz = (V0_0 : Value), fun vz wz => vz = (.bool t6 : Value), fun vz wz => vz = (.bool t6 : Value), fun vz wz => vz = (.bool t6 : Value), fun vz _ => vz = undef, fun vz _ => vz = undef, fun vz _ => vz = undef, fun vz _ => vz = undef, fun vz _ => vz = undef, fun vz _ => vz = undef, fun vz _ => vz = undef, fun vz _ => vz = undef] mo rfl ⟨fun _ _ _ h _ => h, fun _ _ _ h _ => h, fun _ _ _ h _ => h, fun _ _ _ h _ => h, fun _ _ _ h _ => h, fun _ _ _ h _ => h, fun _ _ _ h _ => h, fun _ _ _ h _ => h, fun _ _ _ h _ => h, fun _ _ _ h _ => h, fun _ _ _ h _ => h, fun _ _ _ h _ => h, fun _ _ _ h _ => h, fun _ _ _ h _ => h, fun _ _ _ h _ => h, fun _ _ _ h _ => h, fun _ _ _ h _ => h, fun _ _ _ h _ => h, fun _ _ _ h _ => h, fun _ _ _ h _ => h, fun _ _ _ h _ => h, fun _ _ _ h _ => h, trivial⟩ ?_ ?_
          · refine ⟨?_, ?_, ?_, ?_, ?_, ?_, ?_, ?_, ?_, ?_, ?_, ?_, ?_, ?_, ?_, ?_, ?_, ?_, ?_, ?_, ?_, ?_, trivial⟩
            · intro ρz wz hz hk hd
              exact sk_val (v := V0_0) (by exact xr_move rfl ((hk 0 rfl).trans rfl)) rfl rfl
            · intro ρz wz hz hk hd
              have d3 := hd 0 rfl 3 rfl
              exact sk_val (v := .int .i64 (List.length a0 : Int)) (by exact xr_lenR rfl Try.underlying22 d3 (R0_0.gr (fB.gr hz))) rfl rfl
            · intro ρz wz hz hk hd
              have d4 := hd 1 rfl 4 rfl
              exact sk_val (v := .bool (decide ((List.length a0 : Int) = 64))) (by exact xr_eqI rfl Try.underlying3 rfl d4 rfl) rfl rfl
            · intro ρz wz hz hk hd
              have d5 := hd 2 rfl 5 rfl
              exact sk_val (v := .bool (decide ((List.length a0 : Int) = 64))) (by exact xr_move rfl d5) rfl rfl
            · intro ρz wz hz hk hd
              have d6 := hd 3 rfl 6 rfl
              exact sk_gval (v := V0_0) (by exact xr_move rfl ((hk 0 rfl).trans rfl)) rfl rfl d6 c3 rfl
            · intro ρz wz hz hk hd
              have d7 := hd 4 rfl 7 rfl
              have d6 := hd 3 rfl 6 rfl
              exact sk_gval (by exact xr_indexR (K := (kI .u8)) (v := V0_0) rfl Try.underlying22 sz5 d7 (R0_0.gr (fB.gr hz)) rfl (by decide) g4) rfl rfl d6 c3 rfl
            · intro ρz wz hz hk hd
              have d8 := hd 5 rfl 8 rfl
              have d6 := hd 3 rfl 6 rfl
              exact sk_gval (v := .int .u8 (ix a0 4)) (by exact xr_load1 (v := .int .u8 (ix a0 4)) rfl ag5 d8 ((R0_0.gr (fB.gr hz)).elem (by decide) g4)) rfl rfl d6 c3 rfl
            · intro ρz wz hz hk hd
              have d9 := hd 6 rfl 9 rfl
              have d6 := hd 3 rfl 6 rfl
              exact sk_gval (v := .bool (!decide ((ix a0 4) = 0))) (by exact xr_neI rfl Try.underlying5 rfl d9 rfl) rfl rfl d6 c3 rfl
            · intro ρz wz hz hk hd
              have d6 := hd 3 rfl 6 rfl
              have d10 := hd 7 rfl 10 rfl
              exact sk_val (v := .bool (!decide ((ix a0 4) = 0))) (by exact xr_pickT rfl d6 c3 d10) rfl rfl
            · intro ρz wz hz hk hd
              have d11 := hd 8 rfl 11 rfl
              exact sk_val (v := .bool (!decide ((ix a0 4) = 0))) (by exact xr_move rfl d11) rfl rfl
            · intro ρz wz hz hk hd
              have d12 := hd 9 rfl 12 rfl
              exact sk_gval (v := V0_0) (by exact xr_move rfl ((hk 0 rfl).trans rfl)) rfl rfl d12 c5 rfl
            · intro ρz wz hz hk hd
              have d13 := hd 10 rfl 13 rfl
              have d12 := hd 9 rfl 12 rfl
              refine sk_gop (by exact opv_call rfl cal102 (ac d13 (ac rfl (ac rfl an))) (octet_Noughts.ok fu _ a0 V0_0 (R0_0.gr (fB.gr hz)) 6 2 _ k7)) rfl rfl d12 c5 ?_
              rintro _ wy ⟨rfl, q8⟩
              exact ⟨rfl, q8⟩
            · intro ρz wz hz hk hd
              have d12 := hd 9 rfl 12 rfl
              have d14 := hd 11 rfl 14 rfl
              exact sk_val (v := .bool t6) (by exact xr_pickT rfl d12 c5 d14) rfl rfl
            · intro ρz wz hz hk hd
              have d15 := hd 12 rfl 15 rfl
              exact sk_val (v := .bool t6) (by exact xr_move rfl d15) rfl rfl
            · intro ρz wz hz hk hd
              have d16 := hd 13 rfl 16 rfl
              exact sk_skip rfl rfl d16 c9 rfl
            · intro ρz wz hz hk hd
              have d16 := hd 13 rfl 16 rfl
              exact sk_skip rfl rfl d16 c9 rfl
            · intro ρz wz hz hk hd
              have d16 := hd 13 rfl 16 rfl
              exact sk_skip rfl rfl d16 c9 rfl
            · intro ρz wz hz hk hd
              have d16 := hd 13 rfl 16 rfl
              exact sk_skip rfl rfl d16 c9 rfl
            · intro ρz wz hz hk hd
              have d16 := hd 13 rfl 16 rfl
              exact sk_skip rfl rfl d16 c9 rfl
            · intro ρz wz hz hk hd
              have d16 := hd 13 rfl 16 rfl
              exact sk_skip rfl rfl d16 c9 rfl
            · intro ρz wz hz hk hd
              have d16 := hd 13 rfl 16 rfl
              exact sk_skip rfl rfl d16 c9 rfl
            · intro ρz wz hz hk hd
              have d16 := hd 13 rfl 16 rfl
              exact sk_skip rfl rfl d16 c9 rfl
          · intro ρ28 w29 q30 hk hd
            have e16 := hd 13 rfl 16 rfl
            have fB := fB.gr q30
            refine ol_val (v := .bool false) (by exact xr_pickF rfl e16 c9 rfl) rfl rfl rfl ?_
            refine ol_val (v := .bool false) (by exact xr_assign rfl rfl) rfl rfl rfl ?_
            refine ol_nil ?_
            obtain rfl := Option.some.inj j2
            refine thn_i ?_
            exact ⟨rfl, q30⟩
      · skip
        refine cw_drawL 22 [fun vz wz => vz = (V0_0 : Value), fun vz wz => vz = (.int .i64 (List.length a0 : Int) : Value), fun vz wz => vz = (.bool (decide ((List.length a0 : Int) = 64)) : Value), fun vz wz => vz = (.bool (decide ((List.length a0 : Int) = 64)) : Value), fun vz wz => vz = (V0_0 : Value), fun vz wz => vz = (.pointer (some ⟨(sb V0_0), so V0_0 + Int.toNat 4 * 1, none⟩) : Value), fun vz wz => vz = (.int .u8 (ix a0 4) : Value), fun vz wz => vz = (.bool (!decide ((ix a0 4) = 0)) : Value), fun vz wz => vz = (.bool (!decide ((ix a0 4) = 0)) : Value), fun vz wz => vz = (.bool (!decide ((ix a0 4) = 0)) : Value), fun vz _ => vz = undef, fun vz _ => vz = undef, fun vz wz => vz = (.bool false : Value), fun vz wz => vz = (.bool false : Value), fun vz _ => vz = undef, fun vz _ => vz = undef, fun vz _ => vz = undef, fun vz _ => vz = undef, fun vz _ => vz = undef, fun vz _ => vz = undef, fun vz _ => vz = undef, fun vz _ => vz = undef] mo rfl ⟨fun _ _ _ h _ => h, fun _ _ _ h _ => h, fun _ _ _ h _ => h, fun _ _ _ h _ => h, fun _ _ _ h _ => h, fun _ _ _ h _ => h, fun _ _ _ h _ => h, fun _ _ _ h _ => h, fun _ _ _ h _ => h, fun _ _ _ h _ => h, fun _ _ _ h _ => h, fun _ _ _ h _ => h, fun _ _ _ h _ => h, fun _ _ _ h _ => h, fun _ _ _ h _ => h, fun _ _ _ h _ => h, fun _ _ _ h _ => h, fun _ _ _ h _ => h, fun _ _ _ h _ => h, fun _ _ _ h _ => h, fun _ _ _ h _ => h, fun _ _ _ h _ => h, trivial⟩ ?_ ?_
        · refine ⟨?_, ?_, ?_, ?_, ?_, ?_, ?_, ?_, ?_, ?_, ?_, ?_, ?_, ?_, ?_, ?_, ?_, ?_, ?_, ?_, ?_, ?_, trivial⟩
          · intro ρz wz hz hk hd
            exact sk_val (v := V0_0) (by exact xr_move rfl ((hk 0 rfl).trans rfl)) rfl rfl
          · intro ρz wz hz hk hd
            have d3 := hd 0 rfl 3 rfl
            exact sk_val (v := .int .i64 (List.length a0 : Int)) (by exact xr_lenR rfl Try.underlying22 d3 (R0_0.gr (fB.gr hz))) rfl rfl
          · intro ρz wz hz hk hd
            have d4 := hd 1 rfl 4 rfl
            exact sk_val (v := .bool (decide ((List.length a0 : Int) = 64))) (by exact xr_eqI rfl Try.underlying3 rfl d4 rfl) rfl rfl
          · intro ρz wz hz hk hd
            have d5 := hd 2 rfl 5 rfl
            exact sk_val (v := .bool (decide ((List.length a0 : Int) = 64))) (by exact xr_move rfl d5) rfl rfl
          · intro ρz wz hz hk hd
            have d6 := hd 3 rfl 6 rfl
            exact sk_gval (v := V0_0) (by exact xr_move rfl ((hk 0 rfl).trans rfl)) rfl rfl d6 c3 rfl
          · intro ρz wz hz hk hd
            have d7 := hd 4 rfl 7 rfl
            have d6 := hd 3 rfl 6 rfl
            exact sk_gval (by exact xr_indexR (K := (kI .u8)) (v := V0_0) rfl Try.underlying22 sz5 d7 (R0_0.gr (fB.gr hz)) rfl (by decide) g4) rfl rfl d6 c3 rfl
          · intro ρz wz hz hk hd
            have d8 := hd 5 rfl 8 rfl
            have d6 := hd 3 rfl 6 rfl
            exact sk_gval (v := .int .u8 (ix a0 4)) (by exact xr_load1 (v := .int .u8 (ix a0 4)) rfl ag5 d8 ((R0_0.gr (fB.gr hz)).elem (by decide) g4)) rfl rfl d6 c3 rfl
          · intro ρz wz hz hk hd
            have d9 := hd 6 rfl 9 rfl
            have d6 := hd 3 rfl 6 rfl
            exact sk_gval (v := .bool (!decide ((ix a0 4) = 0))) (by exact xr_neI rfl Try.underlying5 rfl d9 rfl) rfl rfl d6 c3 rfl
          · intro ρz wz hz hk hd
            have d6 := hd 3 rfl 6 rfl
            have d10 := hd 7 rfl 10 rfl
            exact sk_val (v := .bool (!decide ((ix a0 4) = 0))) (by exact xr_pickT rfl d6 c3 d10) rfl rfl
          · intro ρz wz hz hk hd
            have d11 := hd 8 rfl 11 rfl
            exact sk_val (v := .bool (!decide ((ix a0 4) = 0))) (by exact xr_move rfl d11) rfl rfl
          · intro ρz wz hz hk hd
            have d12 := hd 9 rfl 12 rfl
            exact sk_skip rfl rfl d12 c5 rfl
          · intro ρz wz hz hk hd
            have d12 := hd 9 rfl 12 rfl
            exact sk_skip rfl rfl d12 c5 rfl
          · intro ρz wz hz hk hd
            have d12 := hd 9 rfl 12 rfl
            exact sk_val (v := .bool false) (by exact xr_pickF rfl d12 c5 rfl) rfl rfl
          · intro ρz wz hz hk hd
            have d15 := hd 12 rfl 15 rfl
            exact sk_val (v := .bool false) (by exact xr_move rfl d15) rfl rfl
          · intro ρz wz hz hk hd
            have d16 := hd 13 rfl 16 rfl
            exact sk_skip rfl rfl d16 rfl rfl
          · intro ρz wz hz hk hd
            have d16 := hd 13 rfl 16 rfl
            exact sk_skip rfl rfl d16 rfl rfl
          · intro ρz wz hz hk hd
            have d16 := hd 13 rfl 16 rfl
            exact sk_skip rfl rfl d16 rfl rfl
          · intro ρz wz hz hk hd
            have d16 := hd 13 rfl 16 rfl
            exact sk_skip rfl rfl d16 rfl rfl
          · intro ρz wz hz hk hd
            have d16 := hd 13 rfl 16 rfl
            exact sk_skip rfl rfl d16 rfl rfl
          · intro ρz wz hz hk hd
            have d16 := hd 13 rfl 16 rfl
            exact sk_skip rfl rfl d16 rfl rfl
          · intro ρz wz hz hk hd
            have d16 := hd 13 rfl 16 rfl
            exact sk_skip rfl rfl d16 rfl rfl
          · intro ρz wz hz hk hd
            have d16 := hd 13 rfl 16 rfl
            exact sk_skip rfl rfl d16 rfl rfl
        · intro ρ31 w32 q33 hk hd
          have e16 := hd 13 rfl 16 rfl
          have fB := fB.gr q33
          refine ol_val (v := .bool false) (by exact xr_pickF rfl e16 rfl rfl) rfl rfl rfl ?_
          refine ol_val (v := .bool false) (by exact xr_assign rfl rfl) rfl rfl rfl ?_
          refine ol_nil ?_
          obtain rfl := Option.some.inj j2
          refine thn_i ?_
          exact ⟨rfl, q33⟩
    · skip
      refine cw_drawL 22 [fun vz wz => vz = (V0_0 : Value), fun vz wz => vz = (.int .i64 (List.length a0 : Int) : Value), fun vz wz => vz = (.bool (decide ((List.length a0 : Int) = 64)) : Value), fun vz wz => vz = (.bool (decide ((List.length a0 : Int) = 64)) : Value), fun vz _ => vz = undef, fun vz _ => vz = undef, fun vz _ => vz = undef, fun vz _ => vz = undef, fun vz wz => vz = (.bool false : Value), fun vz wz => vz = (.bool false : Value), fun vz _ => vz = undef, fun vz _ => vz = undef, fun vz wz => vz = (.bool false : Value), fun vz wz => vz = (.bool false : Value), fun vz _ => vz = undef, fun vz _ => vz = undef, fun vz _ => vz = undef, fun vz _ => vz = undef, fun vz _ => vz = undef, fun vz _ => vz = undef, fun vz _ => vz = undef, fun vz _ => vz = undef] mo rfl ⟨fun _ _ _ h _ => h, fun _ _ _ h _ => h, fun _ _ _ h _ => h, fun _ _ _ h _ => h, fun _ _ _ h _ => h, fun _ _ _ h _ => h, fun _ _ _ h _ => h, fun _ _ _ h _ => h, fun _ _ _ h _ => h, fun _ _ _ h _ => h, fun _ _ _ h _ => h, fun _ _ _ h _ => h, fun _ _ _ h _ => h, fun _ _ _ h _ => h, fun _ _ _ h _ => h, fun _ _ _ h _ => h, fun _ _ _ h _ => h, fun _ _ _ h _ => h, fun _ _ _ h _ => h, fun _ _ _ h _ => h, fun _ _ _ h _ => h, fun _ _ _ h _ => h, trivial⟩ ?_ ?_
      · refine ⟨?_, ?_, ?_, ?_, ?_, ?_, ?_, ?_, ?_, ?_, ?_, ?_, ?_, ?_, ?_, ?_, ?_, ?_, ?_, ?_, ?_, ?_, trivial⟩
        · intro ρz wz hz hk hd
          exact sk_val (v := V0_0) (by exact xr_move rfl ((hk 0 rfl).trans rfl)) rfl rfl
        · intro ρz wz hz hk hd
          have d3 := hd 0 rfl 3 rfl
          exact sk_val (v := .int .i64 (List.length a0 : Int)) (by exact xr_lenR rfl Try.underlying22 d3 (R0_0.gr (fB.gr hz))) rfl rfl
        · intro ρz wz hz hk hd
          have d4 := hd 1 rfl 4 rfl
          exact sk_val (v := .bool (decide ((List.length a0 : Int) = 64))) (by exact xr_eqI rfl Try.underlying3 rfl d4 rfl) rfl rfl
        · intro ρz wz hz hk hd
          have d5 := hd 2 rfl 5 rfl
          exact sk_val (v := .bool (decide ((List.length a0 : Int) = 64))) (by exact xr_move rfl d5) rfl rfl
        · intro ρz wz hz hk hd
          have d6 := hd 3 rfl 6 rfl
          exact sk_skip rfl rfl d6 c3 rfl
        · intro ρz wz hz hk hd
          have d6 := hd 3 rfl 6 rfl
          exact sk_skip rfl rfl d6 c3 rfl
        · intro ρz wz hz hk hd
          have d6 := hd 3 rfl 6 rfl
          exact sk_skip rfl rfl d6 c3 rfl
        · intro ρz wz hz hk hd
          have d6 := hd 3 rfl 6 rfl
          exact sk_skip rfl rfl d6 c3 rfl
        · intro ρz wz hz hk hd
          have d6 := hd 3 rfl 6 rfl
          exact sk_val (v := .bool false) (by exact xr_pickF rfl d6 c3 rfl) rfl rfl
        · intro ρz wz hz hk hd
          have d11 := hd 8 rfl 11 rfl
          exact sk_val (v := .bool false) (by exact xr_move rfl d11) rfl rfl
        · intro ρz wz hz hk hd
          have d12 := hd 9 rfl 12 rfl
          exact sk_skip rfl rfl d12 rfl rfl
        · intro ρz wz hz hk hd
          have d12 := hd 9 rfl 12 rfl
          exact sk_skip rfl rfl d12 rfl rfl
        · intro ρz wz hz hk hd
          have d12 := hd 9 rfl 12 rfl
          exact sk_val (v := .bool false) (by exact xr_pickF rfl d12 rfl rfl) rfl rfl
        · intro ρz wz hz hk hd
          have d15 := hd 12 rfl 15 rfl
          exact sk_val (v := .bool false) (by exact xr_move rfl d15) rfl rfl
        · intro ρz wz hz hk hd
          have d16 := hd 13 rfl 16 rfl
          exact sk_skip rfl rfl d16 rfl rfl
        · intro ρz wz hz hk hd
          have d16 := hd 13 rfl 16 rfl
          exact sk_skip rfl rfl d16 rfl rfl
        · intro ρz wz hz hk hd
          have d16 := hd 13 rfl 16 rfl
          exact sk_skip rfl rfl d16 rfl rfl
        · intro ρz wz hz hk hd
          have d16 := hd 13 rfl 16 rfl
          exact sk_skip rfl rfl d16 rfl rfl
        · intro ρz wz hz hk hd
          have d16 := hd 13 rfl 16 rfl
          exact sk_skip rfl rfl d16 rfl rfl
        · intro ρz wz hz hk hd
          have d16 := hd 13 rfl 16 rfl
          exact sk_skip rfl rfl d16 rfl rfl
        · intro ρz wz hz hk hd
          have d16 := hd 13 rfl 16 rfl
          exact sk_skip rfl rfl d16 rfl rfl
        · intro ρz wz hz hk hd
          have d16 := hd 13 rfl 16 rfl
          exact sk_skip rfl rfl d16 rfl rfl
      · intro ρ34 w35 q36 hk hd
        have e16 := hd 13 rfl 16 rfl
        have fB := fB.gr q36
        refine ol_val (v := .bool false) (by exact xr_pickF rfl e16 rfl rfl) rfl rfl rfl ?_
        refine ol_val (v := .bool false) (by exact xr_assign rfl rfl) rfl rfl rfl ?_
        refine ol_nil ?_
        obtain rfl := Option.some.inj j2
        refine thn_i ?_
        exact ⟨rfl, q36⟩
  · skip
    rintro ρ37 w38 ⟨e2, q39⟩
    have fB := fB.gr q39
    refine cw_ret ?_
    repeat (first | with_reducible refine thn_r ?_ | with_reducible refine blk_r ?_)
    obtain rfl := Option.some.inj h
    refine fin_ret1 Try.results97 e2 ?_
    exact ⟨_, rfl, rfl, fB⟩
end Go.Proofs.Ytjhajfkfhdnciaa

/- bytes.Clone: its model, and that the Go function computes it: written by gen.py. -/
set_option linter.unusedVariables false
namespace Go.Proofs.Ytjhajfkfhdnciaa
open Go Go.Xw
def bytes_Clone.f (fu : Nat) (a0 : List Int) : Option (List Int) := (if List.length a0 ≤ LIM then some a0 else none)
set_option maxRecDepth 100000 in
theorem bytes_Clone.ok (fu : Nat) (w : World) (a0 : List Int) (V0_0 : Value) (R0_0 : Rd (kI .u8) w V0_0 a0) (r : List Int) (h : bytes_Clone.f fu a0 = some r) :
    Calls Try.prog 98 (([V0_0] : List Value).toArray) w (fun e w' => ∃ v, e = .returned v ∧ ∃ u1 : Value, ∃ o2 : Own (kI .u8) 5 w' w.heap.size u1 r, v = u1 ∧ Gr w w') := by
  unfold bytes_Clone.f at h
  obtain ⟨g, h⟩ := gs h
  obtain rfl := Option.some.inj h
  have fB : Gr w w := Fr.refl _ _
  refine calls_cw Try.func98 rfl Try.ntmps98 rfl ?_
  refine cw_seq ?_
  refine cw_region ?_
  refine ol_val (v := .slice none 0 0) (by exact xr_assign rfl rfl) rfl rfl rfl ?_
  refine ol_nil ?_
  refine cw_seq ?_
  refine cw_seq ?_
  refine cw_region ?_
  refine ol_val (v := V0_0) (by exact xr_move rfl rfl) rfl rfl rfl ?_
  refine ol_val (v := .bool (isNilV V0_0)) (by exact xr_eqNil rfl Try.underlying22 rfl rfl R0_0) rfl rfl rfl ?_
  refine ol_nil ?_
  rcases bt (isNilV V0_0) with c | c
  · refine cw_condT rfl c ?_
    obtain rfl := R0_0.isNil c
    refine cw_seq ?_
    refine cw_region ?_
    refine ol_val (v := .slice none 0 0) (by exact xr_assign rfl rfl) rfl rfl rfl ?_
    refine ol_nil ?_
    refine cw_ret ?_
    repeat (first | with_reducible refine thn_r ?_ | with_reducible refine blk_r ?_)
    refine fin_ret1 Try.results98 rfl ?_
    exact ⟨_, rfl, _, Own.nil _ _ _ _, rfl, fB⟩
  · refine cw_condF rfl c ?_
    refine cw_skip ?_
    refine cw_seq ?_
    refine cw_region ?_
    refine ol_op (by exact opv_buildSlice (K := (kI .u8)) (xs := ([] : List Int)) (vals := []) rfl Try.underlying22 el5 rfl rfl trivial rfl rfl rfl fB.size) rfl rfl rfl ?_
    rintro v1 w1 ⟨o1, q1, z1⟩
    refine ol_val (v := V0_0) (by exact xr_move rfl rfl) rfl rfl rfl ?_
    refine ol_op (by exact opv_append (K := (kI .u8)) rfl Try.underlying22 el5 rfl rfl rfl rfl rfl o1 (R0_0.gr q1) (by simpa using g) (fB.gr q1).size) rfl rfl rfl ?_
    rintro v2 w2 ⟨o2, q2, n2⟩
    refine ol_val (v := v2) (by exact xr_assign rfl rfl) rfl rfl rfl ?_
    refine ol_nil ?_
    refine cw_ret ?_
    repeat (first | with_reducible refine thn_r ?_ | with_reducible refine blk_r ?_)
    refine fin_ret1 Try.results98 rfl ?_
    exact ⟨_, rfl, v2, o2, rfl, (fB.gr q1).wrO q2 o1.geO⟩
end Go.Proofs.Ytjhajfkfhdnciaa

/- rickyard/block.Open: its model, and that the Go function computes it: written by gen.py. -/
set_option linter.unusedVariables false
namespace Go.Proofs.Ytjhajfkfhdnciaa
open Go Go.Xw
def block_Open.f (fu : Nat) (a0 : List Int) : Option (Int × Int × (List Int) × Bool) := ((block_right.f fu a0 : Option Bool).bind fun t4 => (if (!t4) = true then some (0, 0, [], false) else (if (4 : Int) < (List.length a0 : Int) then (if (5 : Int) < (List.length a0 : Int) then (if (8 : Int) ≤ (List.length a0 : Int) then ((bytes_Clone.f fu (cut a0 8 (List.length a0 : Int)) : Option (List Int)).bind fun t14 => some ((IntKind.i64.wrap (ix a0 4)), (IntKind.i64.wrap (ix a0 5)), t14, true)) else none) else none) else none)))
set_option maxRecDepth 100000 in
set_option maxHeartbeats 400000 in
theorem block_Open.ok (fu : Nat) (w : World) (a0 : List Int) (V0_0 : Value) (R0_0 : Rd (kI .u8) w V0_0 a0) (r : Int × Int × (List Int) × Bool) (h : block_Open.f fu a0 = some r) :
    Calls Try.prog 29 (([V0_0] : List Value).toArray) w (fun e w' => ∃ v, e = .returned v ∧ ∃ u1 : Value, ∃ o2 : Own (kI .u8) 5 w' w.heap.size u1 r.2.2.1, v = .tuple #[.int .i64 r.1, .int .i64 r.2.1, u1, .bool r.2.2.2] ∧ Gr w w') := by
  unfold block_Open.f at h
  have fB : Gr w w := Fr.refl _ _
  refine calls_cw Try.func29 rfl Try.ntmps29 rfl ?_
  refine cw_seq ?_
  refine cw_region ?_
  refine ol_val (v := .int .i64 0) (by exact xr_assign rfl rfl) rfl rfl rfl ?_
  refine ol_val (v := .int .i64 0) (by exact xr_assign rfl rfl) rfl rfl rfl ?_
  refine ol_val (v := .slice none 0 0) (by exact xr_assign rfl rfl) rfl rfl rfl ?_
  refine ol_val (v := .bool false) (by exact xr_assign rfl rfl) rfl rfl rfl ?_
  refine ol_nil ?_
  refine cw_seq ?_
  refine cw_seq ?_
  refine cw_region ?_
  refine ol_val (v := V0_0) (by exact xr_move rfl rfl) rfl rfl rfl ?_
  obtain ⟨t4, k5, h⟩ := bs h
  refine ol_op (by exact opv_call rfl cal97 (ac rfl an) (block_right.ok fu _ a0 V0_0 (R0_0.gr fB) _ k5)) rfl rfl rfl ?_
  rintro _ w7 ⟨rfl, q6⟩
  have fB := fB.gr q6
  refine ol_val (v := .bool (!t4)) (by exact xr_not rfl rfl) rfl rfl rfl ?_
  refine ol_nil ?_
  rcases is h with ⟨c8, h⟩ | ⟨c8, h⟩
  · refine cw_condT rfl c8 ?_
    refine cw_seq ?_
    refine cw_region ?_
    refine ol_val (v := .int .i64 0) (by exact xr_assign rfl rfl) rfl rfl rfl ?_
    refine ol_val (v := .int .i64 0) (by exact xr_assign rfl rfl) rfl rfl rfl ?_
    refine ol_val (v := .slice none 0 0) (by exact xr_assign rfl rfl) rfl rfl rfl ?_
    refine ol_val (v := .bool false) (by exact xr_assign rfl rfl) rfl rfl rfl ?_
    refine ol_nil ?_
    refine cw_ret ?_
    repeat (first | with_reducible refine thn_r ?_ | with_reducible refine blk_r ?_)
    obtain rfl := Option.some.inj h
    refine fin_ret4 Try.results29 rfl rfl rfl rfl ?_
    exact ⟨_, rfl, (.slice none 0 0), Own.nil _ _ _ _, rfl, fB⟩
  · refine cw_condF rfl c8 ?_
    refine cw_skip ?_
    refine cw_seq ?_
    obtain ⟨g9, h⟩ := gs h
    obtain ⟨g10, h⟩ := gs h
    obtain ⟨g12, h⟩ := gs h
    obtain ⟨t14, k15, h⟩ := bs h
    refine cw_drawL 12 [fun vz wz => vz = (V0_0 : Value), fun vz wz => vz = (.pointer (some ⟨(sb V0_0), so V0_0 + Int.toNat 4 * 1, none⟩) : Value), fun vz wz => vz = (.int .u8 (ix a0 4) : Value), fun vz wz => vz = (.int .i64 (IntKind.i64.wrap (ix a0 4)) : Value), fun vz wz => vz = (V0_0 : Value), fun vz wz => vz = (.pointer (some ⟨(sb V0_0), so V0_0 + Int.toNat 5 * 1, none⟩) : Value), fun vz wz => vz = (.int .u8 (ix a0 5) : Value), fun vz wz => vz = (.int .i64 (IntKind.i64.wrap (ix a0 5)) : Value), fun vz wz => vz = (V0_0 : Value), fun vz wz => ∃ u13 : Value, ∃ r11 : Rd (kI .u8) wz u13 (cut a0 8 (List.length a0 : Int)), vz = (u13 : Value), fun vz wz => ∃ u16 : Value, ∃ o17 : Own (kI .u8) 5 wz w.heap.size u16 t14, vz = (u16 : Value), fun vz wz => vz = (.int .i64 (IntKind.i64.wrap (ix a0 4)) : Value)] mo rfl ⟨fun _ _ _ h _ => h, fun _ _ _ h _ => h, fun _ _ _ h _ => h, fun _ _ _ h _ => h, fun _ _ _ h _ => h, fun _ _ _ h _ => h, fun _ _ _ h _ => h, fun _ _ _ h _ => h, fun _ _ _ h _ => h, fun _ _ _ ⟨u13, r11, h⟩ q => ⟨u13, r11.gr q, h⟩, fun _ _ _ ⟨u16, o17, h⟩ q => ⟨u16, o17.gr q, h⟩, fun _ _ _ h _ => h, trivial⟩ ?_ ?_
    · refine ⟨?_, ?_, ?_, ?_, ?_, ?_, ?_, ?_, ?_, ?_, ?_, ?_, trivial⟩
      · intro ρz wz hz hk hd
        exact sk_val (v := V0_0) (by exact xr_move rfl ((hk 0 rfl).trans rfl)) rfl rfl
      · intro ρz wz hz hk hd
        have d9 := hd 0 rfl 9 rfl
        exact sk_val (by exact xr_indexR (K := (kI .u8)) (v := V0_0) rfl Try.underlying22 sz5 d9 (R0_0.gr (fB.gr hz)) rfl (by decide) g9) rfl rfl
      · intro ρz wz hz hk hd
        have d10 := hd 1 rfl 10 rfl
        exact sk_val (v := .int .u8 (ix a0 4)) (by exact xr_load1 (v := .int .u8 (ix a0 4)) rfl ag5 d10 ((R0_0.gr (fB.gr hz)).elem (by decide) g9)) rfl rfl
      · intro ρz wz hz hk hd
        have d11 := hd 2 rfl 11 rfl
        exact sk_val (v := .int .i64 (IntKind.i64.wrap (ix a0 4))) (by exact xr_conv rfl Try.underlying5 Try.underlying3 d11) rfl rfl
      · intro ρz wz hz hk hd
        exact sk_val (v := V0_0) (by exact xr_move rfl ((hk 0 rfl).trans rfl)) rfl rfl
      · intro ρz wz hz hk hd
        have d13 := hd 4 rfl 13 rfl
        exact sk_val (by exact xr_indexR (K := (kI .u8)) (v := V0_0) rfl Try.underlying22 sz5 d13 (R0_0.gr (fB.gr hz)) rfl (by decide) g10) rfl rfl
      · intro ρz wz hz hk hd
        have d14 := hd 5 rfl 14 rfl
        exact sk_val (v := .int .u8 (ix a0 5)) (by exact xr_load1 (v := .int .u8 (ix a0 5)) rfl ag5 d14 ((R0_0.gr (fB.gr hz)).elem (by decide) g10)) rfl rfl
      · intro ρz wz hz hk hd
        have d15 := hd 6 rfl 15 rfl
        exact sk_val (v := .int .i64 (IntKind.i64.wrap (ix a0 5))) (by exact xr_conv rfl Try.underlying5 Try.underlying3 d15) rfl rfl
      · intro ρz wz hz hk hd
        exact sk_val (v := V0_0) (by exact xr_move rfl ((hk 0 rfl).trans rfl)) rfl rfl
      · intro ρz wz hz hk hd
        have d17 := hd 8 rfl 17 rfl
        exact sk_val (by exact xr_slice_l (K := (kI .u8)) (v := V0_0) rfl Try.underlying22 sz5 d17 (R0_0.gr (fB.gr hz)) rfl (by decide) g12) rfl ⟨_, (R0_0.gr (fB.gr hz)).cut (lo := 8) (hi := (List.length a0 : Int)) (by decide) g12 (Int.le_refl _), rfl⟩
      · intro ρz wz hz hk hd
        obtain ⟨u13, r11, d18⟩ := hd 9 rfl 18 rfl
        refine sk_op (by exact opv_call rfl cal98 (ac d18 an) (bytes_Clone.ok fu _ (cut a0 8 (List.length a0 : Int)) u13 (r11) _ k15)) rfl ?_
        rintro u16 wy ⟨_, o17, rfl, q19⟩
        exact ⟨⟨u16, Own.base o17 ((Nat.le_trans fB.size hz.size)), rfl⟩, q19⟩
      · intro ρz wz hz hk hd
        have d12 := hd 3 rfl 12 rfl
        exact sk_val (v := .int .i64 (IntKind.i64.wrap (ix a0 4))) (by exact xr_assign rfl d12) rfl rfl
    · intro ρ20 w21 q22 hk hd
      have e2 := hd 11 rfl 2 rfl
      have e16 := hd 7 rfl 16 rfl
      obtain ⟨u23, o24, e19⟩ := hd 10 rfl 19 rfl
      have fB := fB.gr q22
      refine ol_val (v := .int .i64 (IntKind.i64.wrap (ix a0 5))) (by exact xr_assign rfl e16) rfl rfl rfl ?_
      refine ol_val (v := u23) (by exact xr_assign rfl e19) rfl rfl rfl ?_
      refine ol_val (v := .bool true) (by exact xr_assign rfl rfl) rfl rfl rfl ?_
      refine ol_nil ?_
      refine cw_ret ?_
      repeat (first | with_reducible refine thn_r ?_ | with_reducible refine blk_r ?_)
      obtain rfl := Option.some.inj h
      refine fin_ret4 Try.results29 e2 rfl rfl rfl ?_
      exact ⟨_, rfl, u23, o24, rfl, fB⟩
end Go.Proofs.Ytjhajfkfhdnciaa

/- slices.Index[[]int,int]: its model, and that the Go function computes it: written by gen.py. -/
set_option linter.unusedVariables false
namespace Go.Proofs.Ytjhajfkfhdnciaa
open Go Go.Xw
def slices_Index.s0 (fu : Nat) (a0 : List Int) (a1 : Int) : Int → Option (Sum (Sum Int Unit) Int) := fun s1 => (if (decide (s1 < (List.length a0 : Int))) = true then (if 0 ≤ s1 ∧ s1 < (List.length a0 : Int) then (if (decide (a1 = (ix a0 s1))) = true then some (Sum.inl (Sum.inl (s1))) else some (Sum.inr ((IntKind.i64.wrap (s1 + 1))))) else none) else some (Sum.inl (Sum.inr ())))
def slices_Index.f (fu : Nat) (a0 : List Int) (a1 : Int) : Option Int := ((loopM (slices_Index.s0 fu a0 a1) fu (0)).bind fun e2 => match e2 with | Sum.inl p => some p | Sum.inr x5 => some ((-1)))
set_option maxRecDepth 100000 in
set_option maxHeartbeats 400000 in
theorem slices_Index.ok (fu : Nat) (w : World) (a0 : List Int) (V0_0 : Value) (R0_0 : Rd (kI .i64) w V0_0 a0) (a1 : Int) (r : Int) (h : slices_Index.f fu a0 a1 = some r) :
    Calls Try.prog 142 (([V0_0, .int .i64 a1] : List Value).toArray) w (fun e w' => ∃ v, e = .returned v ∧ v = .int .i64 r ∧ Gr w w') := by
  unfold slices_Index.f at h
  have fB : Gr w w := Fr.refl _ _
  refine calls_cw Try.func142 rfl Try.ntmps142 rfl ?_
  refine cw_seq ?_
  refine cw_region ?_
  refine ol_val (v := .int .i64 0) (by exact xr_assign rfl rfl) rfl rfl rfl ?_
  refine ol_nil ?_
  refine cw_seq ?_
  refine cw_seq ?_
  refine cw_region ?_
  refine ol_val (v := V0_0) (by exact xr_move rfl rfl) rfl rfl rfl ?_
  refine ol_val (v := .int .i64 (List.length a0 : Int)) (by exact xr_lenR rfl Try.underlying45 rfl (R0_0.gr fB)) rfl rfl rfl ?_
  refine ol_val (v := .int .i64 0) (by exact xr_move rfl rfl) rfl rfl rfl ?_
  refine ol_nil ?_
  obtain ⟨e2, l3, h4⟩ := bs h
  refine cw_mid (fun ρ' w' => ∃ x5, e2 = Sum.inr x5 ∧ Gr w w') ?_ ?_
  · refine cw_block ?_
    refine cw_round (fun (s1 : Int) ρ' w' => ρ' 0 = V0_0 ∧ ρ' 1 = .int .i64 a1 ∧ ρ' 7 = .int .i64 (List.length a0 : Int) ∧ ρ' 8 = .int .i64 s1 ∧ Gr w w') l3 ?_ ?_
    · skip
      exact ⟨rfl, rfl, rfl, rfl, fB⟩
    · rintro s1 x8 ρ6 w7 ⟨e0, e1, e7, e8, fB⟩ h
      unfold slices_Index.s0 at h
      refine cw_seq ?_
      refine cw_region ?_
      refine ol_val (v := .bool (decide (s1 < (List.length a0 : Int)))) (by exact xr_lss rfl e8 e7) rfl rfl rfl ?_
      refine ol_nil ?_
      refine cw_seq ?_
      rcases is h with ⟨c9, h⟩ | ⟨c9, h⟩
      · refine cw_condT rfl c9 ?_
        refine cw_skip ?_
        refine cw_seq ?_
        refine cw_block ?_
        refine cw_seq ?_
        refine cw_region ?_
        refine ol_val (v := .int .i64 s1) (by exact xr_move rfl e8) rfl rfl rfl ?_
        refine ol_val (v := .int .i64 s1) (by exact xr_assign rfl rfl) rfl rfl rfl ?_
        refine ol_nil ?_
        refine cw_seq ?_
        refine cw_region ?_
        refine ol_val (v := .int .i64 a1) (by exact xr_move rfl e1) rfl rfl rfl ?_
        refine ol_val (v := V0_0) (by exact xr_move rfl e0) rfl rfl rfl ?_
        refine ol_val (v := .int .i64 s1) (by exact xr_move rfl rfl) rfl rfl rfl ?_
        obtain ⟨g10, h⟩ := gs h
        refine ol_val (v := .pointer (some ⟨(sb V0_0), so V0_0 + Int.toNat s1 * 1, none⟩)) (by exact xr_indexR (K := (kI .i64)) (v := V0_0) rfl Try.underlying45 sz3 rfl (R0_0.gr fB) rfl g10.1 g10.2) rfl rfl rfl ?_
        refine ol_val (v := .int .i64 (ix a0 s1)) (by exact xr_load1 (v := .int .i64 (ix a0 s1)) rfl ag3 rfl ((R0_0.gr fB).elem g10.1 g10.2)) rfl rfl rfl ?_
        refine ol_val (v := .bool (decide (a1 = (ix a0 s1)))) (by exact xr_eqI rfl Try.underlying3 rfl rfl rfl) rfl rfl rfl ?_
        refine ol_nil ?_
        rcases is h with ⟨c11, h⟩ | ⟨c11, h⟩
        · refine cw_condT rfl c11 ?_
          refine cw_seq ?_
          refine cw_region ?_
          refine ol_val (v := .int .i64 s1) (by exact xr_move rfl rfl) rfl rfl rfl ?_
          refine ol_val (v := .int .i64 s1) (by exact xr_assign rfl rfl) rfl rfl rfl ?_
          refine ol_nil ?_
          refine cw_ret ?_
          repeat (first | with_reducible refine thn_r ?_ | with_reducible refine blk_r ?_)
          obtain rfl := Option.some.inj h
          refine lp_ret ?_
          rintro rfl
          repeat (first | with_reducible refine thn_r ?_ | with_reducible refine blk_r ?_)
          have h := h4
          obtain rfl := Option.some.inj h
          refine fin_ret1 Try.results142 rfl ?_
          exact ⟨_, rfl, rfl, fB⟩
        · refine cw_condF rfl c11 ?_
          refine cw_skip ?_
          refine blk_i ?_
          refine cw_region ?_
          refine ol_val (v := .int .i64 (IntKind.i64.wrap (s1 + 1))) (by exact xr_add rfl e8 rfl) rfl rfl rfl ?_
          refine ol_val (v := .int .i64 (IntKind.i64.wrap (s1 + 1))) (by exact xr_move rfl rfl) rfl rfl rfl ?_
          refine ol_nil ?_
          obtain rfl := Option.some.inj h
          refine lp_in ?_
          exact ⟨e0, e1, e7, rfl, fB⟩
      · refine cw_condF rfl c9 ?_
        refine cw_exit ?_
        repeat (first | with_reducible refine thn_e ?_ | with_reducible refine blk_e rfl ?_)
        obtain rfl := Option.some.inj h
        refine lp_exit ?_
        rintro rfl
        refine thn_x ?_
        exact ⟨_, rfl, fB⟩
  · rintro ρ12 w13 ⟨x5, rfl, fB⟩
    have h := h4
    refine cw_seq ?_
    refine cw_region ?_
    refine ol_val (v := .int .i64 (-1)) (by exact xr_assign rfl rfl) rfl rfl rfl ?_
    refine ol_nil ?_
    refine cw_ret ?_
    repeat (first | with_reducible refine thn_r ?_ | with_reducible refine blk_r ?_)
    obtain rfl := Option.some.inj h
    refine fin_ret1 Try.results142 rfl ?_
    exact ⟨_, rfl, rfl, fB⟩
end Go.Proofs.Ytjhajfkfhdnciaa

/- slices.Contains[[]int,int]: its model, and that the Go function computes it: written by gen.py. -/
set_option linter.unusedVariables false
namespace Go.Proofs.Ytjhajfkfhdnciaa
open Go Go.Xw
def slices_Contains.f (fu : Nat) (a0 : List Int) (a1 : Int) : Option Bool := ((slices_Index.f fu a0 a1 : Option Int).bind fun t1 => some ((decide (t1 ≥ 0))))
set_option maxRecDepth 100000 in
set_option maxHeartbeats 400000 in
theorem slices_Contains.ok (fu : Nat) (w : World) (a0 : List Int) (V0_0 : Value) (R0_0 : Rd (kI .i64) w V0_0 a0) (a1 : Int) (r : Bool) (h : slices_Contains.f fu a0 a1 = some r) :
    Calls Try.prog 122 (([V0_0, .int .i64 a1] : List Value).toArray) w (fun e w' => ∃ v, e = .returned v ∧ v = .bool r ∧ Gr w w') := by
  unfold slices_Contains.f at h
  have fB : Gr w w := Fr.refl _ _
  refine calls_cw Try.func122 rfl Try.ntmps122 rfl ?_
  refine cw_seq ?_
  refine cw_region ?_
  refine ol_val (v := .bool false) (by exact xr_assign rfl rfl) rfl rfl rfl ?_
  refine ol_nil ?_
  refine cw_seq ?_
  refine cw_region ?_
  refine ol_val (v := V0_0) (by exact xr_move rfl rfl) rfl rfl rfl ?_
  refine ol_val (v := .int .i64 a1) (by exact xr_move rfl rfl) rfl rfl rfl ?_
  obtain ⟨t1, k2, h⟩ := bs h
  refine ol_op (by exact opv_call rfl cal142 (ac rfl (ac rfl an)) (slices_Index.ok fu _ a0 V0_0 (R0_0.gr fB) a1 _ k2)) rfl rfl rfl ?_
  rintro _ w4 ⟨rfl, q3⟩
  have fB := fB.gr q3
  refine ol_val (v := .bool (decide (t1 ≥ 0))) (by exact xr_geq rfl rfl rfl) rfl rfl rfl ?_
  refine ol_val (v := .bool (decide (t1 ≥ 0))) (by exact xr_assign rfl rfl) rfl rfl rfl ?_
  refine ol_nil ?_
  refine cw_ret ?_
  repeat (first | with_reducible refine thn_r ?_ | with_reducible refine blk_r ?_)
  obtain rfl := Option.some.inj h
  refine fin_ret1 Try.results122 rfl ?_
  exact ⟨_, rfl, rfl, fB⟩
end Go.Proofs.Ytjhajfkfhdnciaa

/- rickyard/geom.Right: its model, and that the Go function computes it: written by gen.py. -/
set_option linter.unusedVariables false
namespace Go.Proofs.Ytjhajfkfhdnciaa
open Go Go.Xw
def geom_Right.f (fu : Nat) (a0 : S_api_Geometry) : Option Bool := some ((if (decide (a0.Blocks ≥ 16)) = true then (if (decide (a0.Blocks ≤ 3072)) = true then (if (decide (a0.Slots ≥ 1)) = true then (if (decide (a0.Slots ≤ 1792)) = true then (if (decide (a0.Gens ≥ 1)) = true then (decide (a0.Gens ≤ 4294967295)) else false) else false) else false) else false) else false))
set_option maxRecDepth 100000 in
set_option maxHeartbeats 400000 in
theorem geom_Right.ok (fu : Nat) (w : World) (a0 : S_api_Geometry) (r : Bool) (h : geom_Right.f fu a0 = some r) :
    Calls Try.prog 126 (([aggV [Seg.cell (.int .i64 a0.Blocks), Seg.cell (.int .i64 a0.Slots), Seg.cell (.int .i64 a0.Gens)]] : List Value).toArray) w (fun e w' => ∃ v, e = .returned v ∧ v = .bool r ∧ Gr w w') := by
  unfold geom_Right.f at h
  have fB : Gr w w := Fr.refl _ _
  refine calls_cw Try.func126 rfl Try.ntmps126 rfl ?_
  refine cw_seq ?_
  refine cw_region ?_
  refine ol_op (by exact opv_box (ss := [Seg.cell (.int .i64 a0.Blocks), Seg.cell (.int .i64 a0.Slots), Seg.cell (.int .i64 a0.Gens)]) rfl rfl rfl) rfl rfl rfl ?_
  rintro _ w6 ⟨G1, rfl, b2, q3, z4⟩
  have z4 := Nat.le_trans fB.size z4
  have fB := fB.gr q3
  refine ol_val (v := .bool false) (by exact xr_assign rfl rfl) rfl rfl rfl ?_
  refine ol_nil ?_
  refine cw_seq ?_
  refine cw_mid (fun ρ' w' => ρ' 2 = .bool (if (decide (a0.Blocks ≥ 16)) = true then (if (decide (a0.Blocks ≤ 3072)) = true then (if (decide (a0.Slots ≥ 1)) = true then (if (decide (a0.Slots ≤ 1792)) = true then (if (decide (a0.Gens ≥ 1)) = true then (decide (a0.Gens ≤ 4294967295)) else false) else false) else false) else false) else false) ∧ w6 = w') ?_ ?_
  · skip
    refine cw_region ?_
    refine ol_val (v := .pointer (some ⟨G1, 0, none⟩)) (by exact xr_fieldAddr (p := 0) (q := 0) rfl fl116_0 rfl) rfl rfl rfl ?_
    refine ol_val (v := .int .i64 a0.Blocks) (by exact xr_load1 (v := .int .i64 a0.Blocks) rfl ag3 rfl (b2.seg 0 rfl rfl)) rfl rfl rfl ?_
    refine ol_val (v := .bool (decide (a0.Blocks ≥ 16))) (by exact xr_geq rfl rfl rfl) rfl rfl rfl ?_
    refine ol_val (v := .bool (decide (a0.Blocks ≥ 16))) (by exact xr_move rfl rfl) rfl rfl rfl ?_
    rcases bt (decide (a0.Blocks ≥ 16)) with c7 | c7
    · skip
      refine ol_gval (v := .pointer (some ⟨G1, 0, none⟩)) (by exact xr_fieldAddr (p := 0) (q := 0) rfl fl116_0 rfl) rfl rfl rfl rfl rfl c7 ?_
      refine ol_gval (v := .int .i64 a0.Blocks) (by exact xr_load1 (v := .int .i64 a0.Blocks) rfl ag3 rfl (b2.seg 0 rfl rfl)) rfl rfl rfl rfl rfl c7 ?_
      refine ol_gval (v := .bool (decide (a0.Blocks ≤ 3072))) (by exact xr_leq rfl rfl rfl) rfl rfl rfl rfl rfl c7 ?_
      refine ol_val (v := .bool (decide (a0.Blocks ≤ 3072))) (by exact xr_pickT rfl rfl c7 rfl) rfl rfl rfl ?_
      refine ol_val (v := .bool (decide (a0.Blocks ≤ 3072))) (by exact xr_move rfl rfl) rfl rfl rfl ?_
      rcases bt (decide (a0.Blocks ≤ 3072)) with c8 | c8
      · skip
        refine ol_gval (v := .pointer (some ⟨G1, 1, none⟩)) (by exact xr_fieldAddr (p := 0) (q := 1) rfl fl116_1 rfl) rfl rfl rfl rfl rfl c8 ?_
        refine ol_gval (v := .int .i64 a0.Slots) (by exact xr_load1 (v := .int .i64 a0.Slots) rfl ag3 rfl (b2.seg 1 rfl rfl)) rfl rfl rfl rfl rfl c8 ?_
        refine ol_gval (v := .bool (decide (a0.Slots ≥ 1))) (by exact xr_geq rfl rfl rfl) rfl rfl rfl rfl rfl c8 ?_
        refine ol_val (v := .bool (decide (a0.Slots ≥ 1))) (by exact xr_pickT rfl rfl c8 rfl) rfl rfl rfl ?_
        refine ol_val (v := .bool (decide (a0.Slots ≥ 1))) (by exact xr_move rfl rfl) rfl rfl rfl ?_
        rcases bt (decide (a0.Slots ≥ 1)) with c9 | c9
        · skip
          refine ol_gval (v := .pointer (some ⟨G1, 1, none⟩)) (by exact xr_fieldAddr (p := 0) (q := 1) rfl fl116_1 rfl) rfl rfl rfl rfl rfl c9 ?_
          refine ol_gval (v := .int .i64 a0.Slots) (by exact xr_load1 (v := .int .i64 a0.Slots) rfl ag3 rfl (b2.seg 1 rfl rfl)) rfl rfl rfl rfl rfl c9 ?_
          refine ol_gval (v := .bool (decide (a0.Slots ≤ 1792))) (by exact xr_leq rfl rfl rfl) rfl rfl rfl rfl rfl c9 ?_
          refine ol_val (v := .bool (decide (a0.Slots ≤ 1792))) (by exact xr_pickT rfl rfl c9 rfl) rfl rfl rfl ?_
          refine ol_val (v := .bool (decide (a0.Slots ≤ 1792))) (by exact xr_move rfl rfl) rfl rfl rfl ?_
          rcases bt (decide (a0.Slots ≤ 1792)) with c10 | c10
          · skip
            refine ol_gval (v := .pointer (some ⟨G1, 2, none⟩)) (by exact xr_fieldAddr (p := 0) (q := 2) rfl fl116_2 rfl) rfl rfl rfl rfl rfl c10 ?_
            refine ol_gval (v := .int .i64 a0.Gens) (by exact xr_load1 (v := .int .i64 a0.Gens) rfl ag3 rfl (b2.seg 2 rfl rfl)) rfl rfl rfl rfl rfl c10 ?_
            refine ol_gval (v := .bool (decide (a0.Gens ≥ 1))) (by exact xr_geq rfl rfl rfl) rfl rfl rfl rfl rfl c10 ?_
            refine ol_val (v := .bool (decide (a0.Gens ≥ 1))) (by exact xr_pickT rfl rfl c10 rfl) rfl rfl rfl ?_
            refine ol_val (v := .bool (decide (a0.Gens ≥ 1))) (by exact xr_move rfl rfl) rfl rfl rfl ?_
            rcases bt (decide (a0.Gens ≥ 1)) with c11 | c11
            · skip
              refine ol_gval (v := .pointer (some ⟨G1, 2, none⟩)) (by exact xr_fieldAddr (p := 0) (q := 2) rfl fl116_2 rfl) rfl rfl rfl rfl rfl c11 ?_
              refine ol_gval (v := .int .i64 a0.Gens) (by exact xr_load1 (v := .int .i64 a0.Gens) rfl ag3 rfl (b2.seg 2 rfl rfl)) rfl rfl rfl rfl rfl c11 ?_
              refine ol_gval (v := .bool (decide (a0.Gens ≤ 4294967295))) (by exact xr_leq rfl rfl rfl) rfl rfl rfl rfl rfl c11 ?_
              refine ol_val (v := .bool (decide (a0.Gens ≤ 4294967295))) (by exact xr_pickT rfl rfl c11 rfl) rfl rfl rfl ?_
              refine ol_val (v := .bool (decide (a0.Gens ≤ 4294967295))) (by exact xr_assign rfl rfl) rfl rfl rfl ?_
              refine ol_nil ?_
              refine thn_i ?_
              exact ⟨(rfl).trans (congrArg (fun z => (.bool z : Value)) (show (decide (a0.Gens ≤ 4294967295)) = (if (decide (a0.Blocks ≥ 16)) = true then (if (decide (a0.Blocks ≤ 3072)) = true then (if (decide (a0.Slots ≥ 1)) = true then (if (decide (a0.Slots ≤ 1792)) = true then (if (decide (a0.Gens ≥ 1)) = true then (decide (a0.Gens ≤ 4294967295)) else false) else false) else false) else false) else false) from by rw [ite_t c7, ite_t c8, ite_t c9, ite_t c10, ite_t c11])), rfl⟩
            · skip
              refine ol_gskip rfl rfl rfl rfl rfl c11 ?_
              refine ol_gskip rfl rfl rfl rfl rfl c11 ?_
              refine ol_gskip rfl rfl rfl rfl rfl c11 ?_
              refine ol_val (v := .bool false) (by exact xr_pickF rfl rfl c11 rfl) rfl rfl rfl ?_
              refine ol_val (v := .bool false) (by exact xr_assign rfl rfl) rfl rfl rfl ?_
              refine ol_nil ?_
              refine thn_i ?_
              exact ⟨(rfl).trans (congrArg (fun z => (.bool z : Value)) (show false = (if (decide (a0.Blocks ≥ 16)) = true then (if (decide (a0.Blocks ≤ 3072)) = true then (if (decide (a0.Slots ≥ 1)) = true then (if (decide (a0.Slots ≤ 1792)) = true then (if (decide (a0.Gens ≥ 1)) = true then (decide (a0.Gens ≤ 4294967295)) else false) else false) else false) else false) else false) from by rw [ite_t c7, ite_t c8, ite_t c9, ite_t c10, ite_f c11])), rfl⟩
          · skip
            refine ol_gskip rfl rfl rfl rfl rfl c10 ?_
            refine ol_gskip rfl rfl rfl rfl rfl c10 ?_
            refine ol_gskip rfl rfl rfl rfl rfl c10 ?_
            refine ol_val (v := .bool false) (by exact xr_pickF rfl rfl c10 rfl) rfl rfl rfl ?_
            refine ol_val (v := .bool false) (by exact xr_move rfl rfl) rfl rfl rfl ?_
            refine ol_gskip rfl rfl rfl rfl rfl rfl ?_
            refine ol_gskip rfl rfl rfl rfl rfl rfl ?_
            refine ol_gskip rfl rfl rfl rfl rfl rfl ?_
            refine ol_val (v := .bool false) (by exact xr_pickF rfl rfl rfl rfl) rfl rfl rfl ?_
            refine ol_val (v := .bool false) (by exact xr_assign rfl rfl) rfl rfl rfl ?_
            refine ol_nil ?_
            refine thn_i ?_
            exact ⟨(rfl).trans (congrArg (fun z => (.bool z : Value)) (show false = (if (decide (a0.Blocks ≥ 16)) = true then (if (decide (a0.Blocks ≤ 3072)) = true then (if (decide (a0.Slots ≥ 1)) = true then (if (decide (a0.Slots ≤ 1792)) = true then (if (decide (a0.Gens ≥ 1)) = true then (decide (a0.Gens ≤ 4294967295)) else false) else false) else false) else false) else false) from by rw [ite_t c7, ite_t c8, ite_t c9, ite_f c10])), rfl⟩
        · skip
          refine ol_gskip rfl rfl rfl rfl rfl c9 ?_
          refine ol_gskip rfl rfl rfl rfl rfl c9 ?_
          refine ol_gskip rfl rfl rfl rfl rfl c9 ?_
          refine ol_val (v := .bool false) (by exact xr_pickF rfl rfl c9 rfl) rfl rfl rfl ?_
          refine ol_val (v := .bool false) (by exact xr_move rfl rfl) rfl rfl rfl ?_
          refine ol_gskip rfl rfl rfl rfl rfl rfl ?_
          refine ol_gskip rfl rfl rfl rfl rfl rfl ?_
          refine ol_gskip rfl rfl rfl rfl rfl rfl ?_
          refine ol_val (v := .bool false) (by exact xr_pickF rfl rfl rfl rfl) rfl rfl rfl ?_
          refine ol_val (v := .bool false) (by exact xr_move rfl rfl) rfl rfl rfl ?_
          refine ol_gskip rfl rfl rfl rfl rfl rfl ?_
          refine ol_gskip rfl rfl rfl rfl rfl rfl ?_
          refine ol_gskip rfl rfl rfl rfl rfl rfl ?_
          refine ol_val (v := .bool false) (by exact xr_pickF rfl rfl rfl rfl) rfl rfl rfl ?_
          refine ol_val (v := .bool false) (by exact xr_assign rfl rfl) rfl rfl rfl ?_
          refine ol_nil ?_
          refine thn_i ?_
          exact ⟨(rfl).trans (congrArg (fun z => (.bool z : Value)) (show false = (if (decide (a0.Blocks ≥ 16)) = true then (if (decide (a0.Blocks ≤ 3072)) = true then (if (decide (a0.Slots ≥ 1)) = true then (if (decide (a0.Slots ≤ 1792)) = true then (if (decide (a0.Gens ≥ 1)) = true then (decide (a0.Gens ≤ 4294967295)) else false) else false) else false) else false) else false) from by rw [ite_t c7, ite_t c8, ite_f c9])), rfl⟩
      · skip
        refine ol_gskip rfl rfl rfl rfl rfl c8 ?_
        refine ol_gskip rfl rfl rfl rfl rfl c8 ?_
        refine ol_gskip rfl rfl rfl rfl rfl c8 ?_
        refine ol_val (v := .bool false) (by exact xr_pickF rfl rfl c8 rfl) rfl rfl rfl ?_
        refine ol_val (v := .bool false) (by exact xr_move rfl rfl) rfl rfl rfl ?_
        refine ol_gskip rfl rfl rfl rfl rfl rfl ?_
        refine ol_gskip rfl rfl rfl rfl rfl rfl ?_
        refine ol_gskip rfl rfl rfl rfl rfl rfl ?_
        refine ol_val (v := .bool false) (by exact xr_pickF rfl rfl rfl rfl) rfl rfl rfl ?_
        refine ol_val (v := .bool false) (by exact xr_move rfl rfl) rfl rfl rfl ?_
        refine ol_gskip rfl rfl rfl rfl rfl rfl ?_
        refine ol_gskip rfl rfl rfl rfl rfl rfl ?_
        refine ol_gskip rfl rfl rfl rfl rfl rfl ?_
        refine ol_val (v := .bool false) (by exact xr_pickF rfl rfl rfl rfl) rfl rfl rfl ?_
        refine ol_val (v := .bool false) (by exact xr_move rfl rfl) rfl rfl rfl ?_
        refine ol_gskip rfl rfl rfl rfl rfl rfl ?_
        refine ol_gskip rfl rfl rfl rfl rfl rfl ?_
        refine ol_gskip rfl rfl rfl rfl rfl rfl ?_
        refine ol_val (v := .bool false) (by exact xr_pickF rfl rfl rfl rfl) rfl rfl rfl ?_
        refine ol_val (v := .bool false) (by exact xr_assign rfl rfl) rfl rfl rfl ?_
        refine ol_nil ?_
        refine thn_i ?_
        exact ⟨(rfl).trans (congrArg (fun z => (.bool z : Value)) (show false = (if (decide (a0.Blocks ≥ 16)) = true then (if (decide (a0.Blocks ≤ 3072)) = true then (if (decide (a0.Slots ≥ 1)) = true then (if (decide (a0.Slots ≤ 1792)) = true then (if (decide (a0.Gens ≥ 1)) = true then (decide (a0.Gens ≤ 4294967295)) else false) else false) else false) else false) else false) from by rw [ite_t c7, ite_f c8])), rfl⟩
    · skip
      refine ol_gskip rfl rfl rfl rfl rfl c7 ?_
      refine ol_gskip rfl rfl rfl rfl rfl c7 ?_
      refine ol_gskip rfl rfl rfl rfl rfl c7 ?_
      refine ol_val (v := .bool false) (by exact xr_pickF rfl rfl c7 rfl) rfl rfl rfl ?_
      refine ol_val (v := .bool false) (by exact xr_move rfl rfl) rfl rfl rfl ?_
      refine ol_gskip rfl rfl rfl rfl rfl rfl ?_
      refine ol_gskip rfl rfl rfl rfl rfl rfl ?_
      refine ol_gskip rfl rfl rfl rfl rfl rfl ?_
      refine ol_val (v := .bool false) (by exact xr_pickF rfl rfl rfl rfl) rfl rfl rfl ?_
      refine ol_val (v := .bool false) (by exact xr_move rfl rfl) rfl rfl rfl ?_
      refine ol_gskip rfl rfl rfl rfl rfl rfl ?_
      refine ol_gskip rfl rfl rfl rfl rfl rfl ?_
      refine ol_gskip rfl rfl rfl rfl rfl rfl ?_
      refine ol_val (v := .bool false) (by exact xr_pickF rfl rfl rfl rfl) rfl rfl rfl ?_
      refine ol_val (v := .bool false) (by exact xr_move rfl rfl) rfl rfl rfl ?_
      refine ol_gskip rfl rfl rfl rfl rfl rfl ?_
      refine ol_gskip rfl rfl rfl rfl rfl rfl ?_
      refine ol_gskip rfl rfl rfl rfl rfl rfl ?_
      refine ol_val (v := .bool false) (by exact xr_pickF rfl rfl rfl rfl) rfl rfl rfl ?_
      refine ol_val (v := .bool false) (by exact xr_move rfl rfl) rfl rfl rfl ?_
      refine ol_gskip rfl rfl rfl rfl rfl rfl ?_
      refine ol_gskip rfl rfl rfl rfl rfl rfl ?_
      refine ol_gskip rfl rfl rfl rfl rfl rfl ?_
      refine ol_val (v := .bool false) (by exact xr_pickF rfl rfl rfl rfl) rfl rfl rfl ?_
      refine ol_val (v := .bool false) (by exact xr_assign rfl rfl) rfl rfl rfl ?_
      refine ol_nil ?_
      refine thn_i ?_
      exact ⟨(rfl).trans (congrArg (fun z => (.bool z : Value)) (show false = (if (decide (a0.Blocks ≥ 16)) = true then (if (decide (a0.Blocks ≤ 3072)) = true then (if (decide (a0.Slots ≥ 1)) = true then (if (decide (a0.Slots ≤ 1792)) = true then (if (decide (a0.Gens ≥ 1)) = true then (decide (a0.Gens ≤ 4294967295)) else false) else false) else false) else false) else false) from by rw [ite_f c7])), rfl⟩
  · skip
    rintro ρ12 _ ⟨e2, rfl⟩
    refine cw_ret ?_
    repeat (first | with_reducible refine thn_r ?_ | with_reducible refine blk_r ?_)
    obtain rfl := Option.some.inj h
    refine fin_ret1 Try.results126 e2 ?_
    exact ⟨_, rfl, rfl, fB⟩
end Go.Proofs.Ytjhajfkfhdnciaa

/- rickyard/super.Right$1: its model, and that the Go function computes it: written by gen.py. -/
set_option linter.unusedVariables false
namespace Go.Proofs.Ytjhajfkfhdnciaa
open Go Go.Xw
def super_Right_1__c.f (fu : Nat) (a0 : Int) (a1 : S_api_Super) : Option Bool := some ((if (decide (a0 ≥ 2)) = true then (decide (a0 < a1.Tickets.Geometry.Blocks)) else false))
set_option maxRecDepth 100000 in
set_option maxHeartbeats 400000 in
theorem super_Right_1__c.ok (fu : Nat) (w : World) (a0 : Int) (a1 : S_api_Super) (G_1 : Nat) (V1_0 : Value) (R1_0 : Rd (kI .i64) w V1_0 a1.Charts) (b_1 : Blk w G_1 120 [Seg.cell (.int .i64 a1.Epoch), Seg.cell (.int .i64 a1.Tickets.Geometry.Blocks), Seg.cell (.int .i64 a1.Tickets.Geometry.Slots), Seg.cell (.int .i64 a1.Tickets.Geometry.Gens), Seg.cell (.int .i64 a1.Tickets.Top), Seg.cell (.int .i64 a1.Tickets.High), Seg.cell (.int .i64 a1.Tickets.Free), Seg.cell (.int .i64 a1.Dir), Seg.cell V1_0 R1_0.one]) (r : Bool) (h : super_Right_1__c.f fu a0 a1 = some r) :
    Calls Try.prog 127 (([.int .i64 a0, .pointer (some ⟨G_1, 0, none⟩)] : List Value).toArray) w (fun e w' => ∃ v, e = .returned v ∧ v = .bool r ∧ Gr w w') := by
  unfold super_Right_1__c.f at h
  have fB : Gr w w := Fr.refl _ _
  refine calls_cw Try.func127 rfl Try.ntmps127 rfl ?_
  refine cw_seq ?_
  refine cw_region ?_
  refine ol_val (v := .bool false) (by exact xr_assign rfl rfl) rfl rfl rfl ?_
  refine ol_nil ?_
  refine cw_seq ?_
  refine cw_mid (fun ρ' w' => ρ' 3 = .bool (if (decide (a0 ≥ 2)) = true then (decide (a0 < a1.Tickets.Geometry.Blocks)) else false) ∧ w = w') ?_ ?_
  · skip
    refine cw_region ?_
    refine ol_val (v := .int .i64 a0) (by exact xr_move rfl rfl) rfl rfl rfl ?_
    refine ol_val (v := .bool (decide (a0 ≥ 2))) (by exact xr_geq rfl rfl rfl) rfl rfl rfl ?_
    refine ol_val (v := .bool (decide (a0 ≥ 2))) (by exact xr_move rfl rfl) rfl rfl rfl ?_
    rcases bt (decide (a0 ≥ 2)) with c1 | c1
    · skip
      refine ol_gval (v := .int .i64 a0) (by exact xr_move rfl rfl) rfl rfl rfl rfl rfl c1 ?_
      refine ol_gval (v := .pointer (some ⟨G_1, 1, none⟩)) (by exact xr_fieldAddr (p := 0) (q := 1) rfl fl120_1 rfl) rfl rfl rfl rfl rfl c1 ?_
      refine ol_gval (v := .pointer (some ⟨G_1, 1, none⟩)) (by exact xr_fieldAddr (p := 1) (q := 0) rfl fl118_0 rfl) rfl rfl rfl rfl rfl c1 ?_
      refine ol_gval (v := .pointer (some ⟨G_1, 1, none⟩)) (by exact xr_fieldAddr (p := 1) (q := 0) rfl fl116_0 rfl) rfl rfl rfl rfl rfl c1 ?_
      refine ol_gval (v := .int .i64 a1.Tickets.Geometry.Blocks) (by exact xr_load1 (v := .int .i64 a1.Tickets.Geometry.Blocks) rfl ag3 rfl (b_1.seg 1 rfl rfl)) rfl rfl rfl rfl rfl c1 ?_
      refine ol_gval (v := .bool (decide (a0 < a1.Tickets.Geometry.Blocks))) (by exact xr_lss rfl rfl rfl) rfl rfl rfl rfl rfl c1 ?_
      refine ol_val (v := .bool (decide (a0 < a1.Tickets.Geometry.Blocks))) (by exact xr_pickT rfl rfl c1 rfl) rfl rfl rfl ?_
      refine ol_val (v := .bool (decide (a0 < a1.Tickets.Geometry.Blocks))) (by exact xr_assign rfl rfl) rfl rfl rfl ?_
      refine ol_nil ?_
      refine thn_i ?_
      exact ⟨(rfl).trans (congrArg (fun z => (.bool z : Value)) (show (decide (a0 < a1.Tickets.Geometry.Blocks)) = (if (decide (a0 ≥ 2)) = true then (decide (a0 < a1.Tickets.Geometry.Blocks)) else false) from by rw [ite_t c1])), rfl⟩
    · skip
      refine ol_gskip rfl rfl rfl rfl rfl c1 ?_
      refine ol_gskip rfl rfl rfl rfl rfl c1 ?_
      refine ol_gskip rfl rfl rfl rfl rfl c1 ?_
      refine ol_gskip rfl rfl rfl rfl rfl c1 ?_
      refine ol_gskip rfl rfl rfl rfl rfl c1 ?_
      refine ol_gskip rfl rfl rfl rfl rfl c1 ?_
      refine ol_val (v := .bool false) (by exact xr_pickF rfl rfl c1 rfl) rfl rfl rfl ?_
      refine ol_val (v := .bool false) (by exact xr_assign rfl rfl) rfl rfl rfl ?_
      refine ol_nil ?_
      refine thn_i ?_
      exact ⟨(rfl).trans (congrArg (fun z => (.bool z : Value)) (show false = (if (decide (a0 ≥ 2)) = true then (decide (a0 < a1.Tickets.Geometry.Blocks)) else false) from by rw [ite_f c1])), rfl⟩
  · skip
    rintro ρ2 _ ⟨e3, rfl⟩
    refine cw_ret ?_
    repeat (first | with_reducible refine thn_r ?_ | with_reducible refine blk_r ?_)
    obtain rfl := Option.some.inj h
    refine fin_ret1 Try.results127 e3 ?_
    exact ⟨_, rfl, rfl, fB⟩
end Go.Proofs.Ytjhajfkfhdnciaa

/- rickyard/geom.up: its model, and that the Go function computes it: written by gen.py. -/
set_option linter.unusedVariables false
namespace Go.Proofs.Ytjhajfkfhdnciaa
open Go Go.Xw
def geom_up.f (fu : Nat) (a0 : Int) (a1 : Int) : Option Int := (if a1 ≠ 0 then some ((IntKind.i64.wrap (Int.tdiv (IntKind.i64.wrap ((IntKind.i64.wrap (a0 + a1)) - 1)) a1))) else none)
set_option maxRecDepth 100000 in
set_option maxHeartbeats 400000 in
theorem geom_up.ok (fu : Nat) (w : World) (a0 : Int) (a1 : Int) (r : Int) (h : geom_up.f fu a0 a1 = some r) :
    Calls Try.prog 144 (([.int .i64 a0, .int .i64 a1] : List Value).toArray) w (fun e w' => ∃ v, e = .returned v ∧ v = .int .i64 r ∧ Gr w w') := by
  unfold geom_up.f at h
  have fB : Gr w w := Fr.refl _ _
  refine calls_cw Try.func144 rfl Try.ntmps144 rfl ?_
  refine cw_seq ?_
  refine cw_region ?_
  refine ol_val (v := .int .i64 0) (by exact xr_assign rfl rfl) rfl rfl rfl ?_
  refine ol_nil ?_
  refine cw_seq ?_
  refine cw_region ?_
  refine ol_val (v := .int .i64 a0) (by exact xr_move rfl rfl) rfl rfl rfl ?_
  refine ol_val (v := .int .i64 a1) (by exact xr_move rfl rfl) rfl rfl rfl ?_
  refine ol_val (v := .int .i64 (IntKind.i64.wrap (a0 + a1))) (by exact xr_add rfl rfl rfl) rfl rfl rfl ?_
  refine ol_val (v := .int .i64 (IntKind.i64.wrap ((IntKind.i64.wrap (a0 + a1)) - 1))) (by exact xr_sub rfl rfl rfl) rfl rfl rfl ?_
  refine ol_val (v := .int .i64 a1) (by exact xr_move rfl rfl) rfl rfl rfl ?_
  obtain ⟨g1, h⟩ := gs h
  refine ol_val (v := .int .i64 (IntKind.i64.wrap (Int.tdiv (IntKind.i64.wrap ((IntKind.i64.wrap (a0 + a1)) - 1)) a1))) (by exact xr_quo rfl rfl rfl g1) rfl rfl rfl ?_
  refine ol_val (v := .int .i64 (IntKind.i64.wrap (Int.tdiv (IntKind.i64.wrap ((IntKind.i64.wrap (a0 + a1)) - 1)) a1))) (by exact xr_assign rfl rfl) rfl rfl rfl ?_
  refine ol_nil ?_
  refine cw_ret ?_
  repeat (first | with_reducible refine thn_r ?_ | with_reducible refine blk_r ?_)
  obtain rfl := Option.some.inj h
  refine fin_ret1 Try.results144 rfl ?_
  exact ⟨_, rfl, rfl, fB⟩
end Go.Proofs.Ytjhajfkfhdnciaa

/- rickyard/geom.Charts: its model, and that the Go function computes it: written by gen.py. -/
set_option linter.unusedVariables false
namespace Go.Proofs.Ytjhajfkfhdnciaa
open Go Go.Xw
def geom_Charts.f (fu : Nat) (a0 : S_api_Geometry) : Option Int := ((geom_Right.f fu a0 : Option Bool).bind fun t7 => (if (!t7) = true then some (0) else ((geom_up.f fu a0.Blocks 384 : Option Int).bind fun t12 => some (t12))))
set_option maxRecDepth 100000 in
set_option maxHeartbeats 400000 in
theorem geom_Charts.ok (fu : Nat) (w : World) (a0 : S_api_Geometry) (r : Int) (h : geom_Charts.f fu a0 = some r) :
    Calls Try.prog 128 (([aggV [Seg.cell (.int .i64 a0.Blocks), Seg.cell (.int .i64 a0.Slots), Seg.cell (.int .i64 a0.Gens)]] : List Value).toArray) w (fun e w' => ∃ v, e = .returned v ∧ v = .int .i64 r ∧ Gr w w') := by
  unfold geom_Charts.f at h
  have fB : Gr w w := Fr.refl _ _
  refine calls_cw Try.func128 rfl Try.ntmps128 rfl ?_
  refine cw_seq ?_
  refine cw_region ?_
  refine ol_op (by exact opv_box (ss := [Seg.cell (.int .i64 a0.Blocks), Seg.cell (.int .i64 a0.Slots), Seg.cell (.int .i64 a0.Gens)]) rfl rfl rfl) rfl rfl rfl ?_
  rintro _ w6 ⟨G1, rfl, b2, q3, z4⟩
  have z4 := Nat.le_trans fB.size z4
  have fB := fB.gr q3
  refine ol_val (v := .int .i64 0) (by exact xr_assign rfl rfl) rfl rfl rfl ?_
  refine ol_nil ?_
  refine cw_seq ?_
  refine cw_seq ?_
  refine cw_region ?_
  refine ol_val (v := aggV [Seg.cell (.int .i64 a0.Blocks), Seg.cell (.int .i64 a0.Slots), Seg.cell (.int .i64 a0.Gens)]) (by exact xr_loadS (ss := [Seg.cell (.int .i64 a0.Blocks), Seg.cell (.int .i64 a0.Slots), Seg.cell (.int .i64 a0.Gens)]) rfl ag116 sz116 rfl rfl (b2.segs 0 3 rfl)) rfl rfl rfl ?_
  obtain ⟨t7, k8, h⟩ := bs h
  refine ol_op (by exact opv_call rfl cal126 (ac rfl an) (geom_Right.ok fu _ a0 _ k8)) rfl rfl rfl ?_
  rintro _ w10 ⟨rfl, q9⟩
  have b2 := b2.gr q9
  have fB := fB.gr q9
  refine ol_val (v := .bool (!t7)) (by exact xr_not rfl rfl) rfl rfl rfl ?_
  refine ol_nil ?_
  rcases is h with ⟨c11, h⟩ | ⟨c11, h⟩
  · refine cw_condT rfl c11 ?_
    refine cw_seq ?_
    refine cw_region ?_
    refine ol_val (v := .int .i64 0) (by exact xr_assign rfl rfl) rfl rfl rfl ?_
    refine ol_nil ?_
    refine cw_ret ?_
    repeat (first | with_reducible refine thn_r ?_ | with_reducible refine blk_r ?_)
    obtain rfl := Option.some.inj h
    refine fin_ret1 Try.results128 rfl ?_
    exact ⟨_, rfl, rfl, fB⟩
  · refine cw_condF rfl c11 ?_
    refine cw_skip ?_
    refine cw_seq ?_
    refine cw_region ?_
    refine ol_val (v := .pointer (some ⟨G1, 0, none⟩)) (by exact xr_fieldAddr (p := 0) (q := 0) rfl fl116_0 rfl) rfl rfl rfl ?_
    refine ol_val (v := .int .i64 a0.Blocks) (by exact xr_load1 (v := .int .i64 a0.Blocks) rfl ag3 rfl (b2.seg 0 rfl rfl)) rfl rfl rfl ?_
    obtain ⟨t12, k13, h⟩ := bs h
    refine ol_op (by exact opv_call rfl cal144 (ac rfl (ac rfl an)) (geom_up.ok fu _ a0.Blocks 384 _ k13)) rfl rfl rfl ?_
    rintro _ w15 ⟨rfl, q14⟩
    have fB := fB.gr q14
    refine ol_val (v := .int .i64 t12) (by exact xr_assign rfl rfl) rfl rfl rfl ?_
    refine ol_nil ?_
    refine cw_ret ?_
    repeat (first | with_reducible refine thn_r ?_ | with_reducible refine blk_r ?_)
    obtain rfl := Option.some.inj h
    refine fin_ret1 Try.results128 rfl ?_
    exact ⟨_, rfl, rfl, fB⟩
end Go.Proofs.Ytjhajfkfhdnciaa
