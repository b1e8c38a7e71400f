/- Records, their cells, closed facts on the program: written by gen.py. -/
import Derived.Test.YtpdglhpohkkeiaaProg
import Derived.Test.YtpdglhpohkkeiaaXOps8
import Derived.KernelRfl
set_option linter.unusedVariables false
namespace Go.Proofs.Ytpdglhpohkkeiaa
open Go Go.Xw
structure S_api_Chart where
  Place : Int
  Bits : Arr 48 Int
deriving DecidableEq, Inhabited
def segs_api_Chart (x : S_api_Chart) : List Seg := [Seg.cell (.int .i64 x.Place), Kd.seg (kA 48 (kI .u8)) x.Bits]
def k_api_Chart : Kd S_api_Chart := kT segs_api_Chart 49 (fun _ => rfl)
structure S_api_Seat where
  Live : Bool
  Gen : Int
  Next : Int
deriving DecidableEq, Inhabited
def segs_api_Seat (x : S_api_Seat) : List Seg := [Seg.cell (.bool x.Live), Seg.cell (.int .i64 x.Gen), Seg.cell (.int .i64 x.Next)]
def k_api_Seat : Kd S_api_Seat := kT segs_api_Seat 3 (fun _ => rfl)
structure S_api_Leaf where
  Seats : Arr 7 S_api_Seat
deriving DecidableEq, Inhabited
def segs_api_Leaf (x : S_api_Leaf) : List Seg := [Kd.seg (kA 7 k_api_Seat) x.Seats]
def k_api_Leaf : Kd S_api_Leaf := kT segs_api_Leaf 21 (fun _ => rfl)
structure S_api_Fan where
  Kids : Arr 16 Int
deriving DecidableEq, Inhabited
def segs_api_Fan (x : S_api_Fan) : List Seg := [Kd.seg (kA 16 (kI .i64)) x.Kids]
def k_api_Fan : Kd S_api_Fan := kT segs_api_Fan 16 (fun _ => rfl)
structure S_api_Geometry where
  Blocks : Int
  Slots : Int
  Gens : Int
deriving DecidableEq, Inhabited
def segs_api_Geometry (x : S_api_Geometry) : List Seg := [Seg.cell (.int .i64 x.Blocks), Seg.cell (.int .i64 x.Slots), Seg.cell (.int .i64 x.Gens)]
def k_api_Geometry : Kd S_api_Geometry := kT segs_api_Geometry 3 (fun _ => rfl)
structure S_api_Tickets where
  Geometry : S_api_Geometry
  Top : Int
  High : Int
  Free : Int
deriving DecidableEq, Inhabited
def segs_api_Tickets (x : S_api_Tickets) : List Seg := [Seg.cell (.int .i64 x.Geometry.Blocks), Seg.cell (.int .i64 x.Geometry.Slots), Seg.cell (.int .i64 x.Geometry.Gens), Seg.cell (.int .i64 x.Top), Seg.cell (.int .i64 x.High), Seg.cell (.int .i64 x.Free)]
def k_api_Tickets : Kd S_api_Tickets := kT segs_api_Tickets 6 (fun _ => rfl)
structure S_api_Super where
  Epoch : Int
  Tickets : S_api_Tickets
  Dir : Int
  Charts : List Int
deriving DecidableEq, Inhabited
structure S_api_Handle where
  Slot : Int
  Gen : Int
deriving DecidableEq, Inhabited
def segs_api_Handle (x : S_api_Handle) : List Seg := [Seg.cell (.int .i64 x.Slot), Seg.cell (.int .i64 x.Gen)]
def k_api_Handle : Kd S_api_Handle := kT segs_api_Handle 2 (fun _ => rfl)
structure S_api_Entry where
  Handle : S_api_Handle
  Key : Int
  Value : Int
deriving DecidableEq, Inhabited
def segs_api_Entry (x : S_api_Entry) : List Seg := [Seg.cell (.int .i64 x.Handle.Slot), Seg.cell (.int .i64 x.Handle.Gen), Seg.cell (.int .i64 x.Key), Seg.cell (.int .i64 x.Value)]
def k_api_Entry : Kd S_api_Entry := kT segs_api_Entry 4 (fun _ => rfl)
structure S_api_Node where
  Entry : S_api_Entry
  Kids : List Int
deriving DecidableEq, Inhabited
structure S_api_Queue where
  Name : List UInt8
  Count : Int
  Roots : Arr 12 Int
deriving DecidableEq, Inhabited
def segs_api_Queue (x : S_api_Queue) : List Seg := [Seg.cell (sv x.Name), Seg.cell (.int .i64 x.Count), Kd.seg (kA 12 (kI .i64)) x.Roots]
def k_api_Queue : Kd S_api_Queue := kT segs_api_Queue 14 (fun _ => rfl)
structure S_api_Dir where
  Queues : List Int
deriving DecidableEq, Inhabited
structure S_super_reader where
  rest : List Int
deriving DecidableEq, Inhabited
structure S_name_span where
  first : Int
  last : Int
deriving DecidableEq, Inhabited
def segs_name_span (x : S_name_span) : List Seg := [Seg.cell (.int .i32 x.first), Seg.cell (.int .i32 x.last)]
def k_name_span : Kd S_name_span := kT segs_name_span 2 (fun _ => rfl)
theorem bl24_0 (x0 : Int) (w : World) : (Instr.build 24 ([(0, .int .i64 x0)] : List (Nat × Value)).toArray).run Try.prog w = .ok (aggV [Seg.cell (.int .i64 x0), Kd.seg (kA 48 (kI .u8)) (Arr.rep 48 (0 : Int))]) w := by kernel_rfl
theorem ze24 : (Try.prog.info? 24).map (·.zero) = some (some (aggV [Seg.cell (.int .i64 (0 : Int)), Kd.seg (kA 48 (kI .u8)) (Arr.rep 48 (0 : Int))])) := by kernel_rfl
theorem ag24 : aggB Try.prog 24 = some true := by kernel_rfl
theorem sz24 : szB Try.prog 24 = some 49 := by kernel_rfl
theorem fl24_0 : fldB Try.prog 24 0 = some 0 := by kernel_rfl
theorem ag3 : aggB Try.prog 3 = some false := by kernel_rfl
theorem cal96 : calB Try.prog 96 = some true := by kernel_rfl
theorem mo : Try.prog.follows .mixedOrders = true := by kernel_rfl
theorem cal95 : calB Try.prog 95 = some true := by kernel_rfl
theorem bl24_  (w : World) : (Instr.build 24 ([] : List (Nat × Value)).toArray).run Try.prog w = .ok (aggV [Seg.cell (.int .i64 (0 : Int)), Kd.seg (kA 48 (kI .u8)) (Arr.rep 48 (0 : Int))]) w := by kernel_rfl
theorem fl24_1 : fldB Try.prog 24 1 = some 1 := by kernel_rfl
theorem sz5 : szB Try.prog 5 = some 1 := by kernel_rfl
theorem ag5 : aggB Try.prog 5 = some false := by kernel_rfl
theorem cal28 : calB Try.prog 28 = some true := by kernel_rfl
theorem cal33 : calB Try.prog 33 = some true := by kernel_rfl
theorem ag22 : aggB Try.prog 22 = some true := by kernel_rfl
theorem sz22 : szB Try.prog 22 = some 48 := by kernel_rfl
theorem cal97 : calB Try.prog 97 = some true := by kernel_rfl
theorem cal37 : calB Try.prog 37 = some true := by kernel_rfl
theorem cal27 : calB Try.prog 27 = some true := by kernel_rfl
theorem cal29 : calB Try.prog 29 = some true := by kernel_rfl
theorem el3 : elB Try.prog 3 = some (some (.int .i64 (0 : Int)), 1, 8) := by kernel_rfl
theorem cal30 : calB Try.prog 30 = some true := by kernel_rfl
theorem cal34 : calB Try.prog 34 = some true := by kernel_rfl
theorem cal36 : calB Try.prog 36 = some true := by kernel_rfl
theorem sz3 : szB Try.prog 3 = some 1 := by kernel_rfl
theorem cal35 : calB Try.prog 35 = some true := by kernel_rfl
theorem cal31 : calB Try.prog 31 = some true := by kernel_rfl
theorem el5 : elB Try.prog 5 = some (some (.int .u8 (0 : Int)), 1, 1) := by kernel_rfl
theorem el38 : elB Try.prog 38 = some (some (.slice none 0 0), 1, 24) := by kernel_rfl
theorem ze158 : (Try.prog.info? 158).map (·.zero) = some (some (aggV [Kd.seg (kA 16 (kI .u32)) (Arr.rep 16 (0 : Int))])) := by kernel_rfl
theorem cal145 : calB Try.prog 145 = some true := by kernel_rfl
theorem sz51 : szB Try.prog 51 = some 1 := by kernel_rfl
theorem ag158 : aggB Try.prog 158 = some true := by kernel_rfl
theorem sz158 : szB Try.prog 158 = some 16 := by kernel_rfl
theorem cal129 : calB Try.prog 129 = some true := by kernel_rfl
theorem sz38 : szB Try.prog 38 = some 1 := by kernel_rfl
theorem ag38 : aggB Try.prog 38 = some false := by kernel_rfl
theorem ag51 : aggB Try.prog 51 = some false := by kernel_rfl
theorem cal130 : calB Try.prog 130 = some true := by kernel_rfl
theorem cal99 : calB Try.prog 99 = some true := by kernel_rfl
theorem cal98 : calB Try.prog 98 = some true := by kernel_rfl
theorem cal39 : calB Try.prog 39 = some true := by kernel_rfl
theorem cal134 : calB Try.prog 134 = some true := by kernel_rfl
theorem cal104 : calB Try.prog 104 = some true := by kernel_rfl
theorem cal107 : calB Try.prog 107 = some true := by kernel_rfl
theorem cal131 : calB Try.prog 131 = some true := by kernel_rfl
theorem cal100 : calB Try.prog 100 = some true := by kernel_rfl
theorem cal44 : calB Try.prog 44 = some true := by kernel_rfl
theorem cal38 : calB Try.prog 38 = some true := by kernel_rfl
theorem cal101 : calB Try.prog 101 = some true := by kernel_rfl
theorem cal40 : calB Try.prog 40 = some true := by kernel_rfl
theorem cal42 : calB Try.prog 42 = some true := by kernel_rfl
theorem cal146 : calB Try.prog 146 = some true := by kernel_rfl
theorem cal133 : calB Try.prog 133 = some true := by kernel_rfl
theorem cal103 : calB Try.prog 103 = some true := by kernel_rfl
theorem cal132 : calB Try.prog 132 = some true := by kernel_rfl
theorem cal102 : calB Try.prog 102 = some true := by kernel_rfl
theorem cal41 : calB Try.prog 41 = some true := by kernel_rfl
theorem cal43 : calB Try.prog 43 = some true := by kernel_rfl
theorem cal45 : calB Try.prog 45 = some true := by kernel_rfl
theorem cal48 : calB Try.prog 48 = some true := by kernel_rfl
theorem cal46 : calB Try.prog 46 = some true := by kernel_rfl
theorem cal47 : calB Try.prog 47 = some true := by kernel_rfl
theorem ze62 : (Try.prog.info? 62).map (·.zero) = some (some (aggV [Kd.seg (kA 7 k_api_Seat) (Arr.rep 7 (⟨false, (0 : Int), (0 : Int)⟩ : S_api_Seat))])) := by kernel_rfl
theorem bl59_0_1_2 (x0 : Bool) (x1 : Int) (x2 : Int) (w : World) : (Instr.build 59 ([(0, .bool x0), (1, .int .i64 x1), (2, .int .i64 x2)] : List (Nat × Value)).toArray).run Try.prog w = .ok (aggV [Seg.cell (.bool x0), Seg.cell (.int .i64 x1), Seg.cell (.int .i64 x2)]) w := by kernel_rfl
theorem fl62_0 : fldB Try.prog 62 0 = some 0 := by kernel_rfl
theorem sz59 : szB Try.prog 59 = some 3 := by kernel_rfl
theorem ag62 : aggB Try.prog 62 = some true := by kernel_rfl
theorem sz62 : szB Try.prog 62 = some 21 := by kernel_rfl
theorem ag60 : aggB Try.prog 60 = some true := by kernel_rfl
theorem sz60 : szB Try.prog 60 = some 21 := by kernel_rfl
theorem ag59 : aggB Try.prog 59 = some true := by kernel_rfl
theorem ze59 : (Try.prog.info? 59).map (·.zero) = some (some (aggV [Seg.cell (.bool false), Seg.cell (.int .i64 (0 : Int)), Seg.cell (.int .i64 (0 : Int))])) := by kernel_rfl
theorem fl59_0 : fldB Try.prog 59 0 = some 0 := by kernel_rfl
theorem ag4 : aggB Try.prog 4 = some false := by kernel_rfl
theorem fl59_1 : fldB Try.prog 59 1 = some 1 := by kernel_rfl
theorem cal105 : calB Try.prog 105 = some true := by kernel_rfl
theorem fl59_2 : fldB Try.prog 59 2 = some 2 := by kernel_rfl
theorem cal50 : calB Try.prog 50 = some true := by kernel_rfl
theorem cal52 : calB Try.prog 52 = some true := by kernel_rfl
theorem bl62_  (w : World) : (Instr.build 62 ([] : List (Nat × Value)).toArray).run Try.prog w = .ok (aggV [Kd.seg (kA 7 k_api_Seat) (Arr.rep 7 (⟨false, (0 : Int), (0 : Int)⟩ : S_api_Seat))]) w := by kernel_rfl
theorem bl94_0_1 (x0 : Int) (x1 : Int) (w : World) : (Instr.build 94 ([(0, .int .i64 x0), (1, .int .i64 x1)] : List (Nat × Value)).toArray).run Try.prog w = .ok (aggV [Seg.cell (.int .i64 x0), Seg.cell (.int .i64 x1)]) w := by kernel_rfl
theorem bl111_0_1 (x0 : List UInt8) (x1 : Int) (w : World) : (Instr.build 111 ([(0, sv x0), (1, .int .i64 x1)] : List (Nat × Value)).toArray).run Try.prog w = .ok (aggV [Seg.cell (sv x0), Seg.cell (.int .i64 x1), Kd.seg (kA 12 (kI .i64)) (Arr.rep 12 (0 : Int))]) w := by kernel_rfl
theorem ze111 : (Try.prog.info? 111).map (·.zero) = some (some (aggV [Seg.cell (sv []), Seg.cell (.int .i64 (0 : Int)), Kd.seg (kA 12 (kI .i64)) (Arr.rep 12 (0 : Int))])) := by kernel_rfl
theorem sz111 : szB Try.prog 111 = some 14 := by kernel_rfl
theorem fl111_2 : fldB Try.prog 111 2 = some 2 := by kernel_rfl
theorem ag111 : aggB Try.prog 111 = some true := by kernel_rfl
theorem fl111_0 : fldB Try.prog 111 0 = some 0 := by kernel_rfl
theorem ag9 : aggB Try.prog 9 = some false := by kernel_rfl
theorem cal106 : calB Try.prog 106 = some true := by kernel_rfl
theorem cal51 : calB Try.prog 51 = some true := by kernel_rfl
theorem ag74 : aggB Try.prog 74 = some true := by kernel_rfl
theorem sz74 : szB Try.prog 74 = some 16 := by kernel_rfl
theorem fl74_0 : fldB Try.prog 74 0 = some 0 := by kernel_rfl
theorem ag72 : aggB Try.prog 72 = some true := by kernel_rfl
theorem sz72 : szB Try.prog 72 = some 16 := by kernel_rfl
theorem cal108 : calB Try.prog 108 = some true := by kernel_rfl
theorem ze74 : (Try.prog.info? 74).map (·.zero) = some (some (aggV [Kd.seg (kA 16 (kI .i64)) (Arr.rep 16 (0 : Int))])) := by kernel_rfl
theorem bl74_  (w : World) : (Instr.build 74 ([] : List (Nat × Value)).toArray).run Try.prog w = .ok (aggV [Kd.seg (kA 16 (kI .i64)) (Arr.rep 16 (0 : Int))]) w := by kernel_rfl
theorem cal135 : calB Try.prog 135 = some true := by kernel_rfl
theorem cal109 : calB Try.prog 109 = some true := by kernel_rfl
theorem cal57 : calB Try.prog 57 = some true := by kernel_rfl
theorem ze85 : (Try.prog.info? 85).map (·.zero) = some (some (aggV [Seg.cell (.int .i64 (0 : Int)), Seg.cell (.int .i64 (0 : Int)), Seg.cell (.int .i64 (0 : Int)), Seg.cell (.int .i64 (0 : Int)), Seg.cell (.int .i64 (0 : Int)), Seg.cell (.int .i64 (0 : Int)), Seg.cell (.int .i64 (0 : Int)), Seg.cell (.int .i64 (0 : Int)), Seg.cell (.slice none 0 0) (by rfl)])) := by kernel_rfl
theorem bl85_  (w : World) : (Instr.build 85 ([] : List (Nat × Value)).toArray).run Try.prog w = .ok (aggV [Seg.cell (.int .i64 (0 : Int)), Seg.cell (.int .i64 (0 : Int)), Seg.cell (.int .i64 (0 : Int)), Seg.cell (.int .i64 (0 : Int)), Seg.cell (.int .i64 (0 : Int)), Seg.cell (.int .i64 (0 : Int)), Seg.cell (.int .i64 (0 : Int)), Seg.cell (.int .i64 (0 : Int)), Seg.cell (.slice none 0 0) (by rfl)]) w := by kernel_rfl
theorem sz85 : szB Try.prog 85 = some 9 := by kernel_rfl
theorem fl85_0 : fldB Try.prog 85 0 = some 0 := by kernel_rfl
theorem fl85_1 : fldB Try.prog 85 1 = some 1 := by kernel_rfl
theorem fl83_0 : fldB Try.prog 83 0 = some 0 := by kernel_rfl
theorem fl81_0 : fldB Try.prog 81 0 = some 0 := by kernel_rfl
theorem fl81_1 : fldB Try.prog 81 1 = some 1 := by kernel_rfl
theorem fl81_2 : fldB Try.prog 81 2 = some 2 := by kernel_rfl
theorem fl83_2 : fldB Try.prog 83 2 = some 4 := by kernel_rfl
theorem fl83_3 : fldB Try.prog 83 3 = some 5 := by kernel_rfl
theorem fl83_1 : fldB Try.prog 83 1 = some 3 := by kernel_rfl
theorem fl85_2 : fldB Try.prog 85 2 = some 7 := by kernel_rfl
theorem fl85_3 : fldB Try.prog 85 3 = some 8 := by kernel_rfl
theorem ag29 : aggB Try.prog 29 = some false := by kernel_rfl
theorem ag81 : aggB Try.prog 81 = some true := by kernel_rfl
theorem sz81 : szB Try.prog 81 = some 3 := by kernel_rfl
theorem cal111 : calB Try.prog 111 = some true := by kernel_rfl
theorem cal136 : calB Try.prog 136 = some true := by kernel_rfl
theorem cal112 : calB Try.prog 112 = some true := by kernel_rfl
theorem ag85 : aggB Try.prog 85 = some true := by kernel_rfl
theorem cal114 : calB Try.prog 114 = some true := by kernel_rfl
theorem ag83 : aggB Try.prog 83 = some true := by kernel_rfl
theorem sz83 : szB Try.prog 83 = some 6 := by kernel_rfl
theorem ze98 : (Try.prog.info? 98).map (·.zero) = some (some (aggV [Seg.cell (.int .i64 (0 : Int)), Seg.cell (.int .i64 (0 : Int)), Seg.cell (.int .i64 (0 : Int)), Seg.cell (.int .i64 (0 : Int)), Seg.cell (.slice none 0 0) (by rfl)])) := by kernel_rfl
theorem bl98_  (w : World) : (Instr.build 98 ([] : List (Nat × Value)).toArray).run Try.prog w = .ok (aggV [Seg.cell (.int .i64 (0 : Int)), Seg.cell (.int .i64 (0 : Int)), Seg.cell (.int .i64 (0 : Int)), Seg.cell (.int .i64 (0 : Int)), Seg.cell (.slice none 0 0) (by rfl)]) w := by kernel_rfl
theorem sz98 : szB Try.prog 98 = some 5 := by kernel_rfl
theorem cal139 : calB Try.prog 139 = some true := by kernel_rfl
theorem cal119 : calB Try.prog 119 = some true := by kernel_rfl
theorem fl98_0 : fldB Try.prog 98 0 = some 0 := by kernel_rfl
theorem ag96 : aggB Try.prog 96 = some true := by kernel_rfl
theorem sz96 : szB Try.prog 96 = some 4 := by kernel_rfl
theorem ag98 : aggB Try.prog 98 = some true := by kernel_rfl
theorem fl96_0 : fldB Try.prog 96 0 = some 0 := by kernel_rfl
theorem ag94 : aggB Try.prog 94 = some true := by kernel_rfl
theorem sz94 : szB Try.prog 94 = some 2 := by kernel_rfl
theorem ze94 : (Try.prog.info? 94).map (·.zero) = some (some (aggV [Seg.cell (.int .i64 (0 : Int)), Seg.cell (.int .i64 (0 : Int))])) := by kernel_rfl
theorem fl94_0 : fldB Try.prog 94 0 = some 0 := by kernel_rfl
theorem fl94_1 : fldB Try.prog 94 1 = some 1 := by kernel_rfl
theorem fl98_1 : fldB Try.prog 98 1 = some 4 := by kernel_rfl
theorem fl96_1 : fldB Try.prog 96 1 = some 2 := by kernel_rfl
theorem cal140 : calB Try.prog 140 = some true := by kernel_rfl
theorem cal121 : calB Try.prog 121 = some true := by kernel_rfl
theorem cal120 : calB Try.prog 120 = some true := by kernel_rfl
theorem ze96 : (Try.prog.info? 96).map (·.zero) = some (some (aggV [Seg.cell (.int .i64 (0 : Int)), Seg.cell (.int .i64 (0 : Int)), Seg.cell (.int .i64 (0 : Int)), Seg.cell (.int .i64 (0 : Int))])) := by kernel_rfl
theorem fl96_2 : fldB Try.prog 96 2 = some 3 := by kernel_rfl
theorem cal149 : calB Try.prog 149 = some true := by kernel_rfl
theorem cal147 : calB Try.prog 147 = some true := by kernel_rfl
theorem cal142 : calB Try.prog 142 = some true := by kernel_rfl
theorem cal143 : calB Try.prog 143 = some true := by kernel_rfl
theorem cal124 : calB Try.prog 124 = some true := by kernel_rfl
theorem fl111_1 : fldB Try.prog 111 1 = some 1 := by kernel_rfl
theorem bl111_  (w : World) : (Instr.build 111 ([] : List (Nat × Value)).toArray).run Try.prog w = .ok (aggV [Seg.cell (sv []), Seg.cell (.int .i64 (0 : Int)), Kd.seg (kA 12 (kI .i64)) (Arr.rep 12 (0 : Int))]) w := by kernel_rfl
theorem ag120 : aggB Try.prog 120 = some true := by kernel_rfl
theorem sz120 : szB Try.prog 120 = some 1 := by kernel_rfl
theorem fl120_0 : fldB Try.prog 120 0 = some 0 := by kernel_rfl
theorem cal126 : calB Try.prog 126 = some true := by kernel_rfl
theorem cal138 : calB Try.prog 138 = some true := by kernel_rfl
theorem cal117 : calB Try.prog 117 = some true := by kernel_rfl
theorem cal92 : calB Try.prog 92 = some true := by kernel_rfl
theorem ze120 : (Try.prog.info? 120).map (·.zero) = some (some (aggV [Seg.cell (.slice none 0 0) (by rfl)])) := by kernel_rfl
theorem bl120_  (w : World) : (Instr.build 120 ([] : List (Nat × Value)).toArray).run Try.prog w = .ok (aggV [Seg.cell (.slice none 0 0) (by rfl)]) w := by kernel_rfl
theorem bl111_1_0 (x1 : Int) (x0 : List UInt8) (w : World) : (Instr.build 111 ([(1, .int .i64 x1), (0, sv x0)] : List (Nat × Value)).toArray).run Try.prog w = .ok (aggV [Seg.cell (sv x0), Seg.cell (.int .i64 x1), Kd.seg (kA 12 (kI .i64)) (Arr.rep 12 (0 : Int))]) w := by kernel_rfl
theorem cal90 : calB Try.prog 90 = some true := by kernel_rfl
theorem fl143_0 : fldB Try.prog 143 0 = some 0 := by kernel_rfl
theorem sz132 : szB Try.prog 132 = some 1 := by kernel_rfl
theorem ag132 : aggB Try.prog 132 = some false := by kernel_rfl
theorem cal137 : calB Try.prog 137 = some true := by kernel_rfl
theorem ze179 : (Try.prog.info? 179).map (·.zero) = some (some (aggV [Kd.seg (kA 6 k_name_span) (Arr.rep 6 (⟨(0 : Int), (0 : Int)⟩ : S_name_span))])) := by kernel_rfl
theorem bl178_0_1 (x0 : Int) (x1 : Int) (w : World) : (Instr.build 178 ([(0, .int .i32 x0), (1, .int .i32 x1)] : List (Nat × Value)).toArray).run Try.prog w = .ok (aggV [Seg.cell (.int .i32 x0), Seg.cell (.int .i32 x1)]) w := by kernel_rfl
end Go.Proofs.Ytpdglhpohkkeiaa
