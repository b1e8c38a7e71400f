/- The words of the walks: what each operation does. -/
import Derived.Test.YtklhbaghbmndeaaXMem
set_option linter.unusedVariables false
set_option linter.unusedSimpArgs false
namespace Go.Xw
open Go

/-! ### 1. Closed facts on the program's tables -/
def fldB (P : Program) (T i : Nat) : Option Nat := match P.underlying T with
  | some (.struct fs) => (fs[i]?).bind fun f => match P.info? f.type with
    | some inf => if inf.size = 0 then none else some f.offset
    | none => none
  | _ => none
def aggB (P : Program) (T : TypeId) : Option Bool := (P.underlying T).map fun | .struct _ | .array _ _ => true | _ => false
def szB (P : Program) (T : TypeId) : Option Nat := (P.info? T).map (·.size)
def byB (P : Program) (T : TypeId) : Option Nat := (P.info? T).map (·.bytes)
def calB (P : Program) (f : FuncId) : Option Bool := (P.funcs[f]?).map fun fn => !(fn.name == "runtime.NumGoroutine") && !fn.body.isNone

/-! ### 2. Numbers -/
def bAnd (k : IntKind) (a b : Int) : Int := k.wrap (BitVec.ofInt k.bits a &&& BitVec.ofInt k.bits b).toNat
def bOr (k : IntKind) (a b : Int) : Int := k.wrap (BitVec.ofInt k.bits a ||| BitVec.ofInt k.bits b).toNat
def bXor (k : IntKind) (a b : Int) : Int := k.wrap (BitVec.ofInt k.bits a ^^^ BitVec.ofInt k.bits b).toNat
def bNot (k : IntKind) (a b : Int) : Int := k.wrap (BitVec.ofInt k.bits a &&& ~~~ BitVec.ofInt k.bits b).toNat
def shL (k : IntKind) (a b : Int) : Int := k.wrap (a * 2 ^ min b.toNat k.bits)
def shR (k : IntKind) (a b : Int) : Int := a.fdiv (2 ^ min b.toNat k.bits)
def mnI (a b : Int) : Int := if b < a then b else a
def mxI (a b : Int) : Int := if a < b then b else a
def toB (x : Int) : UInt8 := UInt8.ofNat x.toNat
def ofB (b : UInt8) : Int := (b.toNat : Int)

section
variable {P : Program} {ρ : Env} {w : World} {o : Oper} {x y z : Operand} {T T' : TypeId}
theorem xr_move {v : Value} (ho : o.op = .move x) (hx : evO ρ x = v) : (execOp (evO ρ) o).run P w = .ok (.value v) w := by simp [execOp, ho, hx]
theorem xr_assign {v : Value} (ho : o.op = .assign x) (hx : evO ρ x = v) : (execOp (evO ρ) o).run P w = .ok (.value v) w := by simp [execOp, ho, hx]
theorem xr_pickT {v : Value} {b : Bool} (ho : o.op = .pick x y z) (hx : evO ρ x = .bool b) (hb : b = true) (hv : evO ρ y = v) : (execOp (evO ρ) o).run P w = .ok (.value v) w := by simp [execOp, ho, hx, hb, hv, asBool]
theorem xr_pickF {v : Value} {b : Bool} (ho : o.op = .pick x y z) (hx : evO ρ x = .bool b) (hb : b = false) (hv : evO ρ z = v) : (execOp (evO ρ) o).run P w = .ok (.value v) w := by simp [execOp, ho, hx, hb, hv, asBool]
theorem xr_not {b : Bool} (ho : o.op = .unOp .not T x) (hx : evO ρ x = .bool b) : (execOp (evO ρ) o).run P w = .ok (.value (.bool (!b))) w := by simp [execOp, ho, hx, Op.unary]
theorem xr_add {k : IntKind} {a b : Int} (ho : o.op = .binOp .add T x y T') (hx : evO ρ x = .int k a) (hy : evO ρ y = .int k b) : (execOp (evO ρ) o).run P w = .ok (.value (.int k (k.wrap (a + b)))) w := by simp [execOp, ho, hx, hy, eqGuard, binOp, Op.intArith]
theorem xr_sub {k : IntKind} {a b : Int} (ho : o.op = .binOp .sub T x y T') (hx : evO ρ x = .int k a) (hy : evO ρ y = .int k b) : (execOp (evO ρ) o).run P w = .ok (.value (.int k (k.wrap (a - b)))) w := by simp [execOp, ho, hx, hy, eqGuard, binOp, Op.intArith]
theorem xr_mul {k : IntKind} {a b : Int} (ho : o.op = .binOp .mul T x y T') (hx : evO ρ x = .int k a) (hy : evO ρ y = .int k b) : (execOp (evO ρ) o).run P w = .ok (.value (.int k (k.wrap (a * b)))) w := by simp [execOp, ho, hx, hy, eqGuard, binOp, Op.intArith]
theorem xr_quo {k : IntKind} {a b : Int} (ho : o.op = .binOp .quo T x y T') (hx : evO ρ x = .int k a) (hy : evO ρ y = .int k b) (hb : b ≠ 0) : (execOp (evO ρ) o).run P w = .ok (.value (.int k (k.wrap (a.tdiv b)))) w := by simp [execOp, ho, hx, hy, eqGuard, binOp, Op.intDiv, hb]
theorem xr_rem {k : IntKind} {a b : Int} (ho : o.op = .binOp .rem T x y T') (hx : evO ρ x = .int k a) (hy : evO ρ y = .int k b) (hb : b ≠ 0) : (execOp (evO ρ) o).run P w = .ok (.value (.int k (a.tmod b))) w := by simp [execOp, ho, hx, hy, eqGuard, binOp, Op.intDiv, hb]
theorem xr_and {k : IntKind} {a b : Int} (ho : o.op = .binOp .and T x y T') (hx : evO ρ x = .int k a) (hy : evO ρ y = .int k b) : (execOp (evO ρ) o).run P w = .ok (.value (.int k (bAnd k a b))) w := by simp [execOp, ho, hx, hy, eqGuard, binOp, Op.intBits, bAnd]
theorem xr_or {k : IntKind} {a b : Int} (ho : o.op = .binOp .or T x y T') (hx : evO ρ x = .int k a) (hy : evO ρ y = .int k b) : (execOp (evO ρ) o).run P w = .ok (.value (.int k (bOr k a b))) w := by simp [execOp, ho, hx, hy, eqGuard, binOp, Op.intBits, bOr]
theorem xr_xor {k : IntKind} {a b : Int} (ho : o.op = .binOp .xor T x y T') (hx : evO ρ x = .int k a) (hy : evO ρ y = .int k b) : (execOp (evO ρ) o).run P w = .ok (.value (.int k (bXor k a b))) w := by simp [execOp, ho, hx, hy, eqGuard, binOp, Op.intBits, bXor]
theorem xr_andNot {k : IntKind} {a b : Int} (ho : o.op = .binOp .andNot T x y T') (hx : evO ρ x = .int k a) (hy : evO ρ y = .int k b) : (execOp (evO ρ) o).run P w = .ok (.value (.int k (bNot k a b))) w := by simp [execOp, ho, hx, hy, eqGuard, binOp, Op.intBits, bNot]
theorem xr_shl {k k' : IntKind} {a b : Int} (ho : o.op = .binOp .shl T x y T') (hx : evO ρ x = .int k a) (hy : evO ρ y = .int k' b) (hb : 0 ≤ b) : (execOp (evO ρ) o).run P w = .ok (.value (.int k (shL k a b))) w := by
  simp [execOp, ho, hx, hy, eqGuard, binOp, Op.shift, shL, Int.not_lt.2 hb]
theorem xr_shr {k k' : IntKind} {a b : Int} (ho : o.op = .binOp .shr T x y T') (hx : evO ρ x = .int k a) (hy : evO ρ y = .int k' b) (hb : 0 ≤ b) : (execOp (evO ρ) o).run P w = .ok (.value (.int k (shR k a b))) w := by
  simp [execOp, ho, hx, hy, eqGuard, binOp, Op.shift, shR, Int.not_lt.2 hb]
theorem xr_lss {k : IntKind} {a b : Int} (ho : o.op = .binOp .lss T x y T') (hx : evO ρ x = .int k a) (hy : evO ρ y = .int k b) : (execOp (evO ρ) o).run P w = .ok (.value (.bool (decide (a < b)))) w := by simp [execOp, ho, hx, hy, eqGuard, binOp, Op.intCmp]
theorem xr_leq {k : IntKind} {a b : Int} (ho : o.op = .binOp .leq T x y T') (hx : evO ρ x = .int k a) (hy : evO ρ y = .int k b) : (execOp (evO ρ) o).run P w = .ok (.value (.bool (decide (a ≤ b)))) w := by simp [execOp, ho, hx, hy, eqGuard, binOp, Op.intCmp]
theorem xr_gtr {k : IntKind} {a b : Int} (ho : o.op = .binOp .gtr T x y T') (hx : evO ρ x = .int k a) (hy : evO ρ y = .int k b) : (execOp (evO ρ) o).run P w = .ok (.value (.bool (decide (a > b)))) w := by simp [execOp, ho, hx, hy, eqGuard, binOp, Op.intCmp]
theorem xr_geq {k : IntKind} {a b : Int} (ho : o.op = .binOp .geq T x y T') (hx : evO ρ x = .int k a) (hy : evO ρ y = .int k b) : (execOp (evO ρ) o).run P w = .ok (.value (.bool (decide (a ≥ b)))) w := by simp [execOp, ho, hx, hy, eqGuard, binOp, Op.intCmp]
theorem xr_eqI {k : IntKind} {a b : Int} {d : TypeDesc} (ho : o.op = .binOp .eql T x y T') (hT : P.underlying T = some d) (hd : (match d with | .int _ => true | _ => false) = true) (hx : evO ρ x = .int k a) (hy : evO ρ y = .int k b) : (execOp (evO ρ) o).run P w = .ok (.value (.bool (decide (a = b)))) w := by
  cases d <;> simp at hd
  simp [execOp, ho, hx, hy, eqGuard, binOp, Op.intCmp, run_underlying hT]
  rfl
theorem xr_neI {k : IntKind} {a b : Int} {d : TypeDesc} (ho : o.op = .binOp .neq T x y T') (hT : P.underlying T = some d) (hd : (match d with | .int _ => true | _ => false) = true) (hx : evO ρ x = .int k a) (hy : evO ρ y = .int k b) : (execOp (evO ρ) o).run P w = .ok (.value (.bool (!decide (a = b)))) w := by
  cases d <;> simp at hd
  simp [execOp, ho, hx, hy, eqGuard, binOp, Op.intCmp, run_underlying hT]
  rfl
theorem xr_conv {k k' : IntKind} {a : Int} {d : TypeDesc} (ho : o.op = .convert T T' x) (hT : P.underlying T = some d) (hT' : P.underlying T' = some (.int k)) (hx : evO ρ x = .int k' a) : (execOp (evO ρ) o).run P w = .ok (.value (.int k (k.wrap a))) w := by
  simp [execOp, ho, hx, convert, run_underlying hT, run_underlying hT', Conv.intToInt]
theorem xr_extract {vs : Array Value} {i : Nat} {v : Value} (ho : o.op = .extract x i) (hx : evO ρ x = .tuple vs) (hv : vs[i]? = some v) : (execOp (evO ρ) o).run P w = .ok (.value v) w := by
  simp [execOp, ho, hx, Instr.extract, hv]
theorem xr_nilCheck {a : Addr} (ho : o.op = .nilCheck x) (hx : evO ρ x = .pointer (some a)) : (execOp (evO ρ) o).run P w = .ok (.value (.pointer (some a))) w := by
  simp [execOp, ho, hx]
theorem xr_lenS {A : Option Addr} {n c : Nat} {E : TypeId} (ho : o.op = .call ⟨.builtin .len, #[x], #[T]⟩) (hT : P.underlying T = some (.slice E)) (hx : evO ρ x = .slice A n c) : (execOp (evO ρ) o).run P w = .ok (.value (.int .i64 (n : Int))) w := by
  simp [execOp, ho, resolve, invoke, builtin, hx, Builtin.len_, run_underlying hT, goInt]
theorem xr_lenR {α : Type} {K : Kd α} {l : List α} {v : Value} {E : TypeId} {w' : World} (ho : o.op = .call ⟨.builtin .len, #[x], #[T]⟩) (hT : P.underlying T = some (.slice E)) (hx : evO ρ x = v) (hr : Rd K w' v l) : (execOp (evO ρ) o).run P w = .ok (.value (.int .i64 (l.length : Int))) w := by
  obtain ⟨A, c, rfl⟩ := hr.val
  exact xr_lenS ho hT hx
theorem xr_lenStr {l : List UInt8} (ho : o.op = .call ⟨.builtin .len, #[x], #[T]⟩) (hT : P.underlying T = some .string) (hx : evO ρ x = sv l) : (execOp (evO ρ) o).run P w = .ok (.value (.int .i64 (l.length : Int))) w := by
  have e : ByteArray.size ⟨l.toArray⟩ = l.length := by simp [ByteArray.size]
  simp [execOp, ho, resolve, invoke, builtin, hx, Builtin.len_, run_underlying hT, goInt, sv]
  exact congrArg _ e
theorem xr_min2 {k : IntKind} {a b : Int} {ts : Array TypeId} (ho : o.op = .call ⟨.builtin .min, #[x, y], ts⟩) (hx : evO ρ x = .int k a) (hy : evO ρ y = .int k b) : (execOp (evO ρ) o).run P w = .ok (.value (.int k (mnI a b))) w := by
  simp [execOp, ho, resolve, invoke, builtin, hx, hy, Builtin.min_, Builtin.min2, mnI]
theorem xr_fieldAddr {g p i q : Nat} (ho : o.op = .fieldAddr T x i) (hf : fldB P T i = some q) (hx : evO ρ x = .pointer (some ⟨g, p, none⟩)) : (execOp (evO ρ) o).run P w = .ok (.value (.pointer (some ⟨g, p + q, none⟩))) w := by
  unfold fldB at hf
  split at hf
  · rename_i fs hu
    cases hi : fs[i]? with
    | none => simp [hi] at hf
    | some f =>
      simp only [hi, Option.bind_some] at hf
      cases hinf : P.info? f.type with
      | none => simp [hinf] at hf
      | some inf =>
        simp only [hinf] at hf
        split at hf
        · simp at hf
        · rename_i hs
          obtain rfl : f.offset = q := by simpa using hf
          simp [execOp, ho, hx, Instr.fieldAt, run_underlying hu, hi, Instr.sureAddr, fieldPlace, sizeOf, typeInfo, hinf, hs, Addr.add_lit]
  · simp at hf
theorem xr_indexA {g p len s : Nat} {E : TypeId} {k : IntKind} {i : Int} (ho : o.op = .indexAddr T x y) (hT : P.underlying T = some (.array len E)) (hs : szB P E = some s)
    (hx : evO ρ x = .pointer (some ⟨g, p, none⟩)) (hy : evO ρ y = .int k i) (h0 : 0 ≤ i) (h1 : i < (len : Int)) : (execOp (evO ρ) o).run P w = .ok (.value (.pointer (some ⟨g, p + i.toNat * s, none⟩))) w := by
  unfold szB at hs
  obtain ⟨inf, hinf, rfl⟩ := Option.map_eq_some_iff.1 hs
  simp [execOp, ho, hx, hy, Instr.indexAt, asIntOf, run_underlying hT, Instr.sureAddr, h0, h1, sizeOf, typeInfo, hinf, Addr.add_lit]
theorem xr_indexR {α : Type} {K : Kd α} {l : List α} {v : Value} {E : TypeId} {k : IntKind} {i : Int} (ho : o.op = .indexAddr T x y) (hT : P.underlying T = some (.slice E)) (hs : szB P E = some K.size)
    (hx : evO ρ x = v) (hr : Rd K w v l) (hy : evO ρ y = .int k i) (h0 : 0 ≤ i) (h1 : i < (l.length : Int)) : (execOp (evO ρ) o).run P w = .ok (.value (.pointer (some ⟨sb v, so v + i.toNat * K.size, none⟩))) w := by
  unfold szB at hs
  obtain ⟨inf, hinf, he⟩ := Option.map_eq_some_iff.1 hs
  obtain ⟨A, c, rfl, hc, hr⟩ := hr
  obtain ⟨b, q, rfl, _⟩ := hr (by omega)
  simp [execOp, ho, hx, hy, Instr.indexAt, asIntOf, run_underlying hT, h0, h1, sizeOf, typeInfo, hinf, Addr.add_lit, he, sb, so]
theorem xr_load1 {g p : Nat} {v : Value} (ho : o.op = .load T x) (hT : aggB P T = some false) (hx : evO ρ x = .pointer (some ⟨g, p, none⟩)) (ha : At w g p [v]) : (execOp (evO ρ) o).run P w = .ok (.value v) w := by
  unfold aggB at hT
  obtain ⟨d, hu, hd⟩ := Option.map_eq_some_iff.1 hT
  have hc := ha 0 v rfl
  rw [Nat.add_zero] at hc
  have hagg : (isAgg T).run P w = .ok false w := by
    unfold isAgg
    rw [Sem.run_bind, run_underlying hu w]
    cases d <;> simp_all
  simp [execOp, ho, hx, Instr.loadAt, Instr.sureAddr, loadVar, hagg, hc]
theorem xr_loadA {g p : Nat} {cs : List Value} (ho : o.op = .load T x) (hT : aggB P T = some true) (hs : szB P T = some cs.length) (hx : evO ρ x = .pointer (some ⟨g, p, none⟩)) (ha : At w g p cs) : (execOp (evO ρ) o).run P w = .ok (.value (.agg cs.toArray)) w := by
  unfold aggB at hT
  unfold szB at hs
  obtain ⟨inf, hinf, he⟩ := Option.map_eq_some_iff.1 hs
  obtain ⟨d, hu, hd⟩ := Option.map_eq_some_iff.1 hT
  have hagg : (isAgg T).run P w = .ok true w := by
    unfold isAgg
    rw [Sem.run_bind, run_underlying hu w]
    cases d <;> simp_all
  have hl := run_loadCells_list (P := P) w ⟨g, p, none⟩ cs (fun j v hv => by rw [Addr.add_lit]; exact ha j v hv)
  simp [execOp, ho, hx, Instr.loadAt, Instr.sureAddr, loadVar, hagg, sizeOf, typeInfo, hinf, he, hl]
theorem xr_loadS {g p m : Nat} {ss : List Seg} (ho : o.op = .load T x) (hT : aggB P T = some true) (hs : szB P T = some m) (hm : sumN ss = m) (hx : evO ρ x = .pointer (some ⟨g, p, none⟩)) (ha : At w g p (cellsOf ss)) : (execOp (evO ρ) o).run P w = .ok (.value (aggV ss)) w :=
  xr_loadA ho hT (by rw [hs, len_cellsOf, hm]) hx ha
end

/-! ### 3. Operations that make or write memory, in the form of a list's head -/
section
variable {P : Program} {n : Nat} {ρ : Env} {w : World} {Q : Exit → Env → World → Prop} {ops : Array Oper} {l : List Oper} {o : Oper} {x y : Operand} {T T' : TypeId} {d : Nat}
/-- What becomes of a new variable's block. -/
def NewB (w : World) (T : TypeId) (ss : List Seg) (v : Value) (w' : World) : Prop := ∃ g, v = .pointer (some ⟨g, 0, none⟩) ∧ Blk w' g T ss ∧ Gr w w' ∧ w.heap.size ≤ g
theorem opv_box {v : Value} {ss : List Seg} (ho : o.op = .box T x) (hx : evO ρ x = v) (hc : v.cells = (cellsOf ss).toArray) : OpV P o ρ w (NewB w T ss) :=
  opv_val (w' := w.alloc (.cells (cellsOf ss).toArray T)) (v := .pointer (some ⟨w.heap.size, 0, none⟩)) (by simp [execOp, ho, hx, Instr.box, newVar, newRow, hc]) ⟨w.heap.size, rfl, heap_alloc_new w _, Fr.alloc w _, Nat.le_refl _⟩
theorem opv_alloc {z : Value} {ss : List Seg} (ho : o.op = .alloc T) (hz : (P.info? T).map (·.zero) = some (some z)) (hc : z.cells = (cellsOf ss).toArray) : OpV P o ρ w (NewB w T ss) := by
  obtain ⟨inf, hinf, he⟩ := Option.map_eq_some_iff.1 hz
  exact opv_val (w' := w.alloc (.cells (cellsOf ss).toArray T)) (v := .pointer (some ⟨w.heap.size, 0, none⟩)) (by simp [execOp, ho, Instr.alloc, zeroValue, typeInfo, hinf, he, newVar, newRow, hc]) ⟨w.heap.size, rfl, heap_alloc_new w _, Fr.alloc w _, Nat.le_refl _⟩
theorem run_storeCells_spl {g p : Nat} {cs x cs' : List Value} {T : TypeId} (hg : w.heap[g]? = some (.cells cs.toArray T (0, 0))) (hs : Spl cs p x cs') (h1 : ∀ v ∈ x, v.oneCell' = true) :
    (storeCells ⟨g, p, none⟩ x).run P w = .ok () (w.setRow g cs'.toArray) := by
  have := run_storeCells_at P g p T x 0 cs.toArray w hg (by simpa using hs.fit) h1
  simp only [Nat.add_zero] at this
  rw [this, hs.e]
theorem opv_store {g p m : Nat} {v : Value} {xs : List Value} {ss ss' : List Seg} (ho : o.op = .store T' x y) (hsz : szB P T' = some m) (hx : evO ρ x = .pointer (some ⟨g, p, none⟩)) (hy : evO ρ y = v)
    (hc : v.cells = xs.toArray) (hm : xs.length = m) (h1 : ∀ u ∈ xs, u.oneCell' = true) (hb : Blk w g T ss) (hs : Spl (cellsOf ss) p xs (cellsOf ss')) :
    OpV P o ρ w (fun _ w' => Blk w' g T ss' ∧ Fr (fun j => j = g) w w') := by
  unfold szB at hsz
  obtain ⟨inf, hinf, he⟩ := Option.map_eq_some_iff.1 hsz
  have hst := run_storeCells_spl (P := P) hb hs h1
  exact opv_skip (w' := w.setRow g (cellsOf ss').toArray) (by simp [execOp, ho, hx, hy, Instr.storeAt, Instr.sureAddr, storeVar, sizeOf, typeInfo, hinf, hc, hm, he, hst]) ⟨setRow_heap w g _ _ T _ hb, Fr.setRow g _⟩
/-- A store into an element of a row of the call's own. -/
theorem Own.store {α : Type} [Inhabited α] {K : Kd α} {E : TypeId} {B : Nat} {v : Value} {L : List α} (h : Own K E w B v L) {i : Int} (h0 : 0 ≤ i) (h1 : i < (L.length : Int)) {p : Nat} {xs : List Value} {z : α} (hs : Spl (K.enc (ix L i)) p xs (K.enc z))
    (hone : ∀ u ∈ xs, u.oneCell' = true) : ∃ w', (storeCells ⟨sb v, so v + (i.toNat * K.size + p), none⟩ xs).run P w = .ok () w' ∧ Own K E w' B v (L.set i.toNat z) ∧ Fr (fun j => some j = v.ownBlock) w w' := by
  rcases h.2 with ⟨rfl, hn⟩ | ⟨g, cap, cur, rfl, hb, hg, hn, hm, hcs, ht⟩
  · omega
  · have hsp := Spl.elem L i z h0 h1 hs
    have hlen : (L.flatMap K.enc).length = L.length * K.size := h.1
    have hcur : cur = (L.flatMap K.enc ++ cur.toList.drop (L.length * K.size)).toArray := by
      rw [← ht, List.take_append_drop, Array.toArray_toList]
    have hsp2 : Spl (L.flatMap K.enc ++ cur.toList.drop (L.length * K.size)) (i.toNat * K.size + p) xs ((L.set i.toNat z).flatMap K.enc ++ cur.toList.drop (L.length * K.size)) := by
      have := Spl.comp (q := []) (r := cur.toList.drop (L.length * K.size)) (p := 0) rfl hsp
      simpa using this
    have hg' : w.heap[g]? = some (.cells (L.flatMap K.enc ++ cur.toList.drop (L.length * K.size)).toArray E (0, 0)) := by rw [← hcur]; exact hg
    have hst := run_storeCells_spl (P := P) hg' hsp2 hone
    refine ⟨_, by simpa [sb, so] using hst, ⟨by rw [len_flat, List.length_set], .inr ⟨g, cap, _, by rw [List.length_set], hb, setRow_heap w g _ _ E _ hg, by simpa using hn, hm, ?_, ?_⟩⟩, ?_⟩
    · have := hsp2.len
      rw [List.size_toArray, this, ← hcs]
      conv => rhs; rw [hcur]
      simp
    · have e : (L.set i.toNat z).length * K.size = ((L.set i.toNat z).flatMap K.enc).length := (len_flat K _).symm
      rw [e]
      simp
    · exact (Fr.setRow g _).mono fun j hj => by subst hj; simp [Value.ownBlock]
theorem opv_storeRow {α : Type} [Inhabited α] {K : Kd α} {E : TypeId} {B m p q : Nat} {v u : Value} {L : List α} {xs : List Value} {z : α} {i : Int} (ho : o.op = .store T' x y) (hsz : szB P T' = some m) (hx : evO ρ x = .pointer (some ⟨sb v, q, none⟩)) (hy : evO ρ y = u)
    (hc : u.cells = xs.toArray) (hm : xs.length = m) (hone : ∀ u ∈ xs, u.oneCell' = true) (h : Own K E w B v L) (h0 : 0 ≤ i) (h1 : i < (L.length : Int)) (hs : Spl (K.enc (ix L i)) p xs (K.enc z)) (hq : q = so v + (i.toNat * K.size + p)) :
    OpV P o ρ w (fun _ w' => Own K E w' B v (L.set i.toNat z) ∧ Fr (fun j => some j = v.ownBlock) w w') := by
  unfold szB at hsz
  obtain ⟨inf, hinf, he⟩ := Option.map_eq_some_iff.1 hsz
  obtain ⟨w', hst, h2, h3⟩ := h.store (P := P) h0 h1 hs hone
  subst hq
  exact opv_skip (w' := w') (by simp [execOp, ho, hx, hy, Instr.storeAt, Instr.sureAddr, storeVar, sizeOf, typeInfo, hinf, hc, hm, he, hst]) ⟨h2, h3⟩
theorem an {f : Operand → Value} : ([] : List Operand).map f = [] := rfl
theorem ac {f : Operand → Value} {x : Operand} {v : Value} {xs : List Operand} {vs : List Value} (h : f x = v) (t : xs.map f = vs) : (x :: xs).map f = v :: vs := by rw [List.map_cons, h, t]
theorem opv_call {f : FuncId} {ops : List Operand} {ts : Array TypeId} {L : List Value} {R : Value → World → Prop} (ho : o.op = .call ⟨.value (.func f), ops.toArray, ts⟩) (hc : calB P f = some true) (ha : ops.map (evO ρ) = L)
    (h : Calls P f L.toArray w fun e w' => ∃ v, e = .returned v ∧ R v w') : OpV P o ρ w R := by
  unfold calB at hc
  obtain ⟨fn, hf, he⟩ := Option.map_eq_some_iff.1 hc
  simp only [Bool.and_eq_true, Bool.not_eq_true'] at he
  unfold OpV
  have hrun : (execOp (evO ρ) o).run P w = .ok (.enter f L.toArray) w := by
    have h1 := he.1
    have h2 := he.2
    have h1' : ¬ fn.name = "runtime.NumGoroutine" := by simpa using h1
    have h2' : ¬ fn.body = none := by intro e; rw [e] at h2; simp at h2
    have ha' : ops.toArray.map (evO ρ) = L.toArray := by rw [List.map_toArray, ha]
    simp only [execOp, ho, resolve, ha']
    simp [invoke, callFunc, Deferred.ofValue, evO, hf, h1', h2']
  rw [hrun]
  exact h
end
end Go.Xw
