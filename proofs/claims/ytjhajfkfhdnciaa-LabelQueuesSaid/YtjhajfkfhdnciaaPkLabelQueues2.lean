/- LabelQueues: texts merged, part 2 of 7. The last part proves that the law LabelQueues holds for every input. -/
import Derived.Test.YtjhajfkfhdnciaaPkLabelQueues1
import Derived.Test.YtjhajfkfhdnciaaProg
import Derived.KernelRfl
/- The words of the walks: a string appended to a row of octets. -/
set_option linter.unusedVariables false
set_option linter.unusedSimpArgs false
namespace Go.Xw
open Go
variable {P : Program} {w : World}
def octV (l : List UInt8) : List Value := l.map fun b => Value.int .u8 (b.toNat : Int)
theorem octV_enc (l : List UInt8) : (l.map ofB).flatMap (kI .u8).enc = octV l := by
  induction l with
  | nil => rfl
  | cons b l ih =>
    rw [List.map_cons, List.flatMap_cons, ih]
    rfl
theorem octV_len (l : List UInt8) : (octV l).length = l.length := List.length_map ..
theorem octV_one (l : List UInt8) : ∀ u ∈ octV l, u.oneCell' = true := by
  intro u hu
  obtain ⟨b, _, rfl⟩ := List.mem_map.1 hu
  rfl
theorem str_first (l : List UInt8) : (((⟨l.toArray⟩ : ByteArray).extract 0 l.length).data.map fun b => Value.int .u8 (b.toNat : Int)) = (octV l).toArray := by
  have e : (⟨l.toArray⟩ : ByteArray).extract 0 l.length = ⟨l.toArray⟩ := by
    apply ByteArray.ext
    simp
  rw [e]
  simp [octV]
theorem run_app_room_str (t u ty e : TypeId) (i : TypeInfo) (ht : P.underlying t = some (.slice e)) (hu : P.underlying u = some .string) (hi : P.info? e = some i) (his : i.size = 1)
    (g sLen sCap : Nat) (cur : Array Value) (hg : w.heap[g]? = some (.cells cur e (0, 0))) (l : List UInt8) (hroom : sLen + l.length ≤ sCap) (hfit : sLen + l.length ≤ cur.size) :
    (Builtin.append_ #[t, u] ty #[.slice (some ⟨g, 0, none⟩) sLen sCap, .string ⟨l.toArray⟩]).run P w =
      .ok (.slice (some ⟨g, 0, none⟩) (sLen + l.length) sCap) (w.setRow g (cur.toList.take sLen ++ octV l ++ cur.toList.drop (sLen + l.length)).toArray) := by
  have hst := run_storeCells_at P g sLen e (octV l) 0 cur w hg (by simpa [octV_len] using hfit) (octV_one l)
  simp only [Nat.add_zero, octV_len] at hst
  have hsz : (⟨l.toArray⟩ : ByteArray).size = l.length := by simp [ByteArray.size]
  have hf := str_first l
  have htk : List.take l.length (List.map (fun b : UInt8 => Value.int IntKind.u8 (b.toNat : Int)) l) = octV l := List.take_of_length_le (by rw [List.length_map]; exact Nat.le_refl _)
  simp [Builtin.append_, run_underlying ht, run_underlying hu, sizeOf, typeInfo, hi, his, Builtin.lenOf, Builtin.firstCells, hsz, hroom, hf, htk, Addr.add_lit, hst]
theorem run_app_grow_str (t u ty e : TypeId) (i : TypeInfo) (z : Value) (ht : P.underlying t = some (.slice e)) (hu : P.underlying u = some .string) (hi : P.info? e = some i) (hz : i.zero = some z) (his : i.size = 1)
    (b : Addr) (sLen sCap : Nat) (olds : List Value) (hlo : olds.length = sLen) (holds : ∀ j v, olds[j]? = some v → w.cell? (b.add j) = some v) (l : List UInt8)
    (hg : sCap < sLen + l.length) (h63 : ((sLen + l.length : Nat) : Int) ≤ 9223372036854775807) (hfit : Builtin.nextslicecap (sLen + l.length) sCap * i.bytes ≤ 281474976710656) :
    (Builtin.append_ #[t, u] ty #[.slice (some b) sLen sCap, .string ⟨l.toArray⟩]).run P w =
      .ok (.slice (some ⟨w.heap.size, 0, none⟩) (sLen + l.length) (grownCap w (sLen + l.length) sCap e))
        (w.drew.alloc (.cells (olds.toArray ++ (octV l).toArray ++ Builtin.zeroCells z.cells (grownCap w (sLen + l.length) sCap e - (sLen + l.length))) e)) := by
  have hn : ¬ (sLen + l.length ≤ sCap) := by omega
  have h63' : ¬ (9223372036854775807 < ((sLen : Int) + (l.length : Int))) := by omega
  have h48' : ¬ (281474976710656 < Builtin.nextslicecap (sLen + l.length) sCap * i.bytes) := by omega
  have hsz : (⟨l.toArray⟩ : ByteArray).size = l.length := by simp [ByteArray.size]
  have hf := str_first l
  have hfo := run_firstCells_some (P := P) w.drew i.size sLen b sLen sCap olds (by rw [his]; omega) (by simpa using holds)
  rw [his] at hfo
  simp [Builtin.append_, run_underlying ht, run_underlying hu, sizeOf, typeInfo, zeroValue, hi, hz, his, Builtin.lenOf, hn, h63', h48', Question.forced, hfo, newRow, grownCap, hsz]
  simp [Builtin.firstCells, hf]
  congr 2
  apply Array.ext'
  simp [List.append_assoc]
  try rfl
theorem Own.appendStr {E T U : TypeId} {B bs : Nat} {v zv : Value} {L : List Int} {l : List UInt8} (h : Own (kI .u8) E w B v L) (ty : TypeId) (hT : P.underlying T = some (.slice E)) (hU : P.underlying U = some .string) (hE : elB P E = some (some zv, 1, bs)) (hz : zv.cells.size = 1)
    (hbs : Nat.ble bs 32768 = true) (hlim : L.length + l.length ≤ LIM) (hB : B ≤ w.heap.size) : ∃ v' w', (Builtin.append_ #[T, U] ty #[v, sv l]).run P w = .ok v' w' ∧ AppR (kI .u8) E B w v (L ++ l.map ofB) v' w' := by
  obtain ⟨i, hi, hiz, his, hib⟩ := elB_parts hE
  unfold LIM at hlim
  have hbs' : bs ≤ 32768 := Nat.le_of_ble_eq_true hbs
  have hbytes : (L.length + l.length) * bs ≤ 140737488355328 := by
    calc (L.length + l.length) * bs ≤ (L.length + l.length) * 32768 := Nat.mul_le_mul_left _ hbs'
      _ ≤ 140737488355328 := by omega
  have hLe : (L.flatMap (kI .u8).enc).length = L.length := by rw [len_flat]; exact Nat.mul_one _
  have hcat : (L ++ l.map ofB).flatMap (kI .u8).enc = L.flatMap (kI .u8).enc ++ octV l := by rw [List.flatMap_append, octV_enc]
  have hlen : ((L ++ l.map ofB).flatMap (kI .u8).enc).length = (L.length + l.length) * 1 := by rw [hcat, List.length_append, hLe, octV_len, Nat.mul_one]
  have hll : (L ++ l.map ofB).length = L.length + l.length := by simp
  have h63 : L.length + l.length ≤ maxLen := by simp only [maxLen]; omega
  have grown : ∀ (old : Nat), old < L.length + l.length →
      Own (kI .u8) E (w.drew.alloc (.cells ((L.flatMap (kI .u8).enc).toArray ++ (octV l).toArray ++ Builtin.zeroCells zv.cells (grownCap w (L.length + l.length) old E - (L.length + l.length))) E)) B (.slice (some ⟨w.heap.size, 0, none⟩) (L.length + l.length) (grownCap w (L.length + l.length) old E)) (L ++ l.map ofB) ∧
      ∀ row : Option Nat, w.grownBy (w.drew.alloc (.cells ((L.flatMap (kI .u8).enc).toArray ++ (octV l).toArray ++ Builtin.zeroCells zv.cells (grownCap w (L.length + l.length) old E - (L.length + l.length))) E)) row := by
    intro old ho
    have hge := grownCap_ge w (L.length + l.length) old E
    have hcm : grownCap w (L.length + l.length) old E ≤ maxLen := grownCap_le_maxLen w (L.length + l.length) old E h63
    refine ⟨?_, fun row => ⟨rfl, rfl, rfl, by simp, fun k hk _ => heap_alloc_old w.drew _ hk⟩⟩
    unfold Own
    rw [hll]
    refine ⟨hlen, .inr ⟨w.heap.size, _, _, rfl, hB, heap_alloc_new w.drew _, hge, hcm, ?_, ?_⟩⟩
    · show _ = grownCap w (L.length + l.length) old E * 1
      simp only [Array.size_append, List.size_toArray, size_zeroCells, hz, hLe, octV_len, Nat.mul_one]
      omega
    · show List.take ((L.length + l.length) * 1) _ = _
      rw [hcat, Nat.mul_one]
      simp only [Array.toList_append]
      exact List.take_left' (by rw [List.length_append, hLe, octV_len])
  have fresh : ∀ g : Nat, g < w.heap.size → Off v g → ∀ n c : Nat, Off (.slice (some ⟨w.heap.size, 0, none⟩) n c) g := by
    intro g hg _ n c e
    have := Option.some.inj (show some w.heap.size = some g from e)
    omega
  have he : l.length = 0 → (L ++ l.map ofB) = L := fun h0 => by
    obtain rfl := List.eq_nil_of_length_eq_zero h0
    simp
  rcases h.2 with ⟨rfl, hn0⟩ | ⟨g, cap, cur, rfl, hbg, hgg, hnc, hcm, hcs, htake⟩
  · obtain rfl : L = [] := List.eq_nil_of_length_eq_zero hn0
    by_cases h0 : l.length = 0
    · obtain rfl := List.eq_nil_of_length_eq_zero h0
      refine ⟨.slice none 0 0, w, ?_, Own.nil _ _ _ _, Fr.refl _ _, fun _ _ x => x⟩
      simp [sv, Builtin.append_, run_underlying hT, run_underlying hU, sizeOf, typeInfo, hi, Builtin.lenOf, Builtin.firstCells, ByteArray.size]
    · have hsz : (⟨l.toArray⟩ : ByteArray).size = l.length := by simp [ByteArray.size]
      have hr := run_append_nil_string (P := P) w T U ty E i zv hT hU hi hiz ⟨l.toArray⟩ (by omega) (by omega) (by rw [hsz, hib]; simp only [List.length_nil, Nat.zero_add] at hbytes; omega)
      have hgr := grown 0 (by simp only [List.length_nil, Nat.zero_add]; omega)
      simp only [List.length_nil, Nat.zero_add, List.flatMap_nil, List.nil_append] at hgr
      rw [hsz] at hr
      have hoct : (⟨l.toArray⟩ : ByteArray).data.map (fun b => Value.int .u8 (b.toNat : Int)) = (([] : List Value).toArray ++ (octV l).toArray) := by simp [octV]
      rw [hoct] at hr
      exact ⟨_, _, hr, hgr.1, Fr.of_grownBy (hgr.2 _), fun g hg ho => fresh g hg ho _ _⟩
  · have hL : L.length * 1 ≤ cur.size := by show L.length * (kI .u8).size ≤ _; rw [hcs]; exact Nat.mul_le_mul_right _ hnc
    by_cases hroom : L.length + l.length ≤ cap
    · have hfit : L.length + l.length ≤ cur.size := by rw [hcs]; show _ ≤ cap * 1; omega
      have hr := run_app_room_str (P := P) T U ty E i hT hU hi his g L.length cap cur hgg l hroom hfit
      refine ⟨_, _, hr, ?_, Fr.of_grownBy (r := some g) ⟨rfl, rfl, rfl, by simp, fun k _ hk => setRow_other w g k _ (fun e => hk (by rw [e]))⟩, fun g' _ ho => ho⟩
      unfold Own
      rw [hll]
      refine ⟨hlen, .inr ⟨g, cap, _, rfl, hbg, setRow_heap w g cur _ E _ hgg, hroom, hcm, ?_, ?_⟩⟩
      · rw [← hcs]
        simp only [List.size_toArray, List.length_append, List.length_take, List.length_drop, Array.length_toList, octV_len]
        omega
      · show List.take ((L.length + l.length) * 1) _ = _
        have htake' : cur.toList.take L.length = L.flatMap (kI .u8).enc := by
          have : cur.toList.take (L.length * 1) = _ := htake
          rwa [Nat.mul_one] at this
        rw [hcat, Nat.mul_one, htake']
        exact List.take_left' (by rw [List.length_append, hLe, octV_len])
    · have holds : ∀ j u, (L.flatMap (kI .u8).enc)[j]? = some u → w.cell? ((⟨g, 0, none⟩ : Addr).add j) = some u := World.ownsRow.cells (g := g) h rfl
      have hr := run_app_grow_str (P := P) T U ty E i zv hT hU hi hiz his ⟨g, 0, none⟩ L.length cap (L.flatMap (kI .u8).enc) hLe holds l (by omega) (by omega) (growslice_fits (by omega) (by rw [hib]; exact hbytes))
      have hgr := grown cap (by omega)
      exact ⟨_, _, hr, hgr.1, Fr.of_grownBy (hgr.2 _), fun g' hg ho => fresh g' hg ho _ _⟩
theorem opv_appendStr {ρ : Env} {o : Oper} {x y : Operand} {E T U : TypeId} {B bs : Nat} {v zv : Value} {L : List Int} {l : List UInt8} (ho : o.op = .call ⟨.builtin .append, #[x, y], #[T, U]⟩) (hT : P.underlying T = some (.slice E)) (hU : P.underlying U = some .string) (hE : elB P E = some (some zv, 1, bs)) (hz : zv.cells.size = 1)
    (hbs : Nat.ble bs 32768 = true) (hx : evO ρ x = v) (hy : evO ρ y = sv l) (h : Own (kI .u8) E w B v L) (hlim : L.length + l.length ≤ LIM) (hB : B ≤ w.heap.size) : OpV P o ρ w (AppR (kI .u8) E B w v (L ++ l.map ofB)) := by
  obtain ⟨v', w', hrun, hR⟩ := h.appendStr (P := P) (T := T) (U := U) (l := l) o.type hT hU hE hz hbs hlim hB
  exact opv_val (w' := w') (v := v') (by simp [execOp, ho, resolve, invoke, builtin, hx, hy, hrun]) hR
/-! ### The end of an array is cleared -/
theorem Arr.blt {n : Nat} {α : Type} {a : Arr n α} {i : Int} (h : i < (a.l.length : Int)) : i < (n : Int) := by
  rw [a.h] at h
  exact h
def Arr.clr {n : Nat} {α : Type} (a : Arr n α) (lo : Nat) (z : α) : Arr n α := ⟨a.l.take lo ++ List.replicate (n - (a.l.take lo).length) z, by
  have := a.h
  rw [List.length_append, List.length_replicate, List.length_take]
  omega⟩
theorem zeroCells_one (u : Value) (m : Nat) : Builtin.zeroCells #[u] m = (List.replicate m u).toArray := by
  apply Array.ext'
  unfold Builtin.zeroCells
  apply List.ext_getElem
  · simp
  · intro i h1 h2
    simp [Nat.mod_one]
theorem opv_clearArr {ρ : Env} {o : Oper} {x : Operand} {α : Type} {K : Kd α} {n g p : Nat} {a : Arr n α} {z : α} {zv : Value} {bs : Nat} {ss ss' : List Seg} {dT E T : TypeId} {lo : Nat} (ho : o.op = .call ⟨.builtin .clear, #[x], #[dT]⟩) (hT : P.underlying dT = some (.slice E)) (hE : elB P E = some (some zv, K.size, bs)) (hK : K.size = 1) (hz : zv.cells = (K.enc z).toArray)
    {m0 : Nat} (hm0 : m0 = n) (hx : evO ρ x = subv 1 (.slice (some ⟨g, p, none⟩) n n) lo m0) (hlo : lo ≤ n) (hb : Blk w g T ss) (i : Nat) (hi : ss[i]? = some (Kd.seg (kA n K) a)) (hp : sumN (ss.take i) = p) (hss : ss.take i ++ (Kd.seg (kA n K) (a.clr lo z) :: ss.drop (i + 1)) = ss') :
    OpV P o ρ w (fun v w' => v = .tuple #[] ∧ Blk w' g T ss' ∧ Fr (fun j => j = g) w w') := by
  obtain rfl : n = m0 := hm0.symm
  obtain ⟨it, hit, hiz, his, hib⟩ := elB_parts hE
  have hal : (a.l.take lo).length = lo := by rw [List.length_take, a.h]; omega
  have hcl : (a.clr lo z).l = splL a.l lo (List.replicate (n - lo) z) := by
    show a.l.take lo ++ List.replicate (n - (a.l.take lo).length) z = _
    unfold splL
    rw [hal, List.length_replicate, List.drop_eq_nil_of_le (by rw [a.h]; omega), List.append_nil]
  obtain ⟨u, hu⟩ : ∃ u, K.enc z = [u] := by
    have := K.len z
    rw [hK] at this
    match h : K.enc z, this with
    | [u], _ => exact ⟨u, rfl⟩
  have hone : u.oneCell' = true := K.one z u (by rw [hu]; simp)
  have hrep : (List.replicate (n - lo) z).flatMap K.enc = List.replicate (n - lo) u := by
    induction n - lo with
    | zero => rfl
    | succ m ih => rw [List.replicate_succ, List.flatMap_cons, ih, hu, List.replicate_succ]; rfl
  have hsp0 : Spl ((kA n K).enc a) (lo * K.size) (List.replicate (n - lo) u) ((kA n K).enc (a.clr lo z)) := by
    have := Spl.rows K a.l lo (List.replicate (n - lo) z) (by rw [a.h, List.length_replicate]; omega)
    rw [hrep] at this
    show Spl (a.l.flatMap K.enc) _ _ ((a.clr lo z).l.flatMap K.enc)
    rw [hcl]
    exact this
  have hsp := Spl.seg_in ss i (Kd.seg (kA n K) (a.clr lo z)) hi hp hsp0
  rw [hss, hK, Nat.mul_one] at hsp
  rcases Nat.eq_or_lt_of_le hlo with e | hlt
  · subst e
    rw [Nat.sub_self, List.replicate_zero] at hsp
    have he : cellsOf ss' = cellsOf ss := by rw [hsp.e]; simp
    refine opv_val (w' := w) (v := .tuple #[]) ?_ ⟨rfl, ?_, Fr.refl _ _⟩
    · simp only [execOp, ho, resolve, invoke, builtin]
      simp [hx, subv, Builtin.clear_, run_underlying hT]
    · unfold Blk
      rw [he]
      exact hb
  · have hx' : evO ρ x = .slice (some ⟨g, p + lo, none⟩) (n - lo) (n - lo) := by
      rw [hx]
      have hne : ¬ n = lo := by omega
      simp [subv, hne, Addr.add_lit]
    have hst := run_storeCells_at P g (p + lo) T (List.replicate (n - lo) u) 0 (cellsOf ss).toArray w hb (by simpa using hsp.fit) (by intro v hv; rw [List.eq_of_mem_replicate hv]; exact hone)
    simp only [Nat.add_zero] at hst
    have e := hsp.e
    have e2 : (cellsOf ss).toArray.toList.take (p + lo) ++ List.replicate (n - lo) u ++ (cellsOf ss).toArray.toList.drop (p + lo + (List.replicate (n - lo) u).length) = cellsOf ss' := e.symm
    have hw := setRow_heap w g _ (cellsOf ss').toArray T _ hb
    rw [e2] at hst
    have hzc : Builtin.zeroCells zv.cells (n - lo) = (List.replicate (n - lo) u).toArray := by rw [hz, hu]; exact zeroCells_one u _
    have hnl : n - lo ≠ 0 := by omega
    obtain ⟨m, hm⟩ : ∃ m, n - lo = m + 1 := ⟨n - lo - 1, by omega⟩
    refine opv_val (w' := w.setRow g (cellsOf ss').toArray) (v := .tuple #[]) ?_ ⟨rfl, hw, Fr.setRow g _⟩
    simp only [execOp, ho, resolve, invoke, builtin]
    rw [hm] at hx' hzc hst
    simp [hx', Builtin.clear_, run_underlying hT, zeroValue, typeInfo, hit, hiz, hzc, hst]
end Go.Xw

/- Records, their cells, closed facts on the program: written by gen.py. -/
set_option linter.unusedVariables false
namespace Go.Proofs.Ytjhajfkfhdnciaa
open Go Go.Xw
structure S_api_Handle where
  Slot : Int
  Gen : Int
deriving DecidableEq, Inhabited
def segs_api_Handle (x : S_api_Handle) : List Seg := [Seg.cell (.int .i64 x.Slot), Seg.cell (.int .i64 x.Gen)]
def k_api_Handle : Kd S_api_Handle := kT segs_api_Handle 2 (fun _ => rfl)
structure S_api_Entry where
  Handle : S_api_Handle
  Key : Int
  Value : Int
deriving DecidableEq, Inhabited
def segs_api_Entry (x : S_api_Entry) : List Seg := [Seg.cell (.int .i64 x.Handle.Slot), Seg.cell (.int .i64 x.Handle.Gen), Seg.cell (.int .i64 x.Key), Seg.cell (.int .i64 x.Value)]
def k_api_Entry : Kd S_api_Entry := kT segs_api_Entry 4 (fun _ => rfl)
structure S_api_Node where
  Entry : S_api_Entry
  Kids : List Int
deriving DecidableEq, Inhabited
structure S_api_Seat where
  Live : Bool
  Gen : Int
  Next : Int
deriving DecidableEq, Inhabited
def segs_api_Seat (x : S_api_Seat) : List Seg := [Seg.cell (.bool x.Live), Seg.cell (.int .i64 x.Gen), Seg.cell (.int .i64 x.Next)]
def k_api_Seat : Kd S_api_Seat := kT segs_api_Seat 3 (fun _ => rfl)
structure S_api_Leaf where
  Seats : Arr 7 S_api_Seat
deriving DecidableEq, Inhabited
def segs_api_Leaf (x : S_api_Leaf) : List Seg := [Kd.seg (kA 7 k_api_Seat) x.Seats]
def k_api_Leaf : Kd S_api_Leaf := kT segs_api_Leaf 21 (fun _ => rfl)
structure S_api_Fan where
  Kids : Arr 16 Int
deriving DecidableEq, Inhabited
def segs_api_Fan (x : S_api_Fan) : List Seg := [Kd.seg (kA 16 (kI .i64)) x.Kids]
def k_api_Fan : Kd S_api_Fan := kT segs_api_Fan 16 (fun _ => rfl)
structure S_api_Chart where
  Place : Int
  Bits : Arr 48 Int
deriving DecidableEq, Inhabited
def segs_api_Chart (x : S_api_Chart) : List Seg := [Seg.cell (.int .i64 x.Place), Kd.seg (kA 48 (kI .u8)) x.Bits]
def k_api_Chart : Kd S_api_Chart := kT segs_api_Chart 49 (fun _ => rfl)
structure S_api_Queue where
  Name : List UInt8
  Count : Int
  Roots : Arr 12 Int
deriving DecidableEq, Inhabited
def segs_api_Queue (x : S_api_Queue) : List Seg := [Seg.cell (sv x.Name), Seg.cell (.int .i64 x.Count), Kd.seg (kA 12 (kI .i64)) x.Roots]
def k_api_Queue : Kd S_api_Queue := kT segs_api_Queue 14 (fun _ => rfl)
structure S_name_span where
  first : Int
  last : Int
deriving DecidableEq, Inhabited
def segs_name_span (x : S_name_span) : List Seg := [Seg.cell (.int .i32 x.first), Seg.cell (.int .i32 x.last)]
def k_name_span : Kd S_name_span := kT segs_name_span 2 (fun _ => rfl)
structure S_api_Dir where
  Queues : List Int
deriving DecidableEq, Inhabited
structure S_api_Geometry where
  Blocks : Int
  Slots : Int
  Gens : Int
deriving DecidableEq, Inhabited
def segs_api_Geometry (x : S_api_Geometry) : List Seg := [Seg.cell (.int .i64 x.Blocks), Seg.cell (.int .i64 x.Slots), Seg.cell (.int .i64 x.Gens)]
def k_api_Geometry : Kd S_api_Geometry := kT segs_api_Geometry 3 (fun _ => rfl)
structure S_api_Tickets where
  Geometry : S_api_Geometry
  Top : Int
  High : Int
  Free : Int
deriving DecidableEq, Inhabited
def segs_api_Tickets (x : S_api_Tickets) : List Seg := [Seg.cell (.int .i64 x.Geometry.Blocks), Seg.cell (.int .i64 x.Geometry.Slots), Seg.cell (.int .i64 x.Geometry.Gens), Seg.cell (.int .i64 x.Top), Seg.cell (.int .i64 x.High), Seg.cell (.int .i64 x.Free)]
def k_api_Tickets : Kd S_api_Tickets := kT segs_api_Tickets 6 (fun _ => rfl)
structure S_api_Super where
  Epoch : Int
  Tickets : S_api_Tickets
  Dir : Int
  Charts : List Int
deriving DecidableEq, Inhabited
structure S_super_reader where
  rest : List Int
deriving DecidableEq, Inhabited
theorem el5 : elB Try.prog 5 = some (some (.int .u8 (0 : Int)), 1, 1) := by kernel_rfl
theorem sz5 : szB Try.prog 5 = some 1 := by kernel_rfl
theorem el22 : elB Try.prog 22 = some (some (.slice none 0 0), 1, 24) := by kernel_rfl
theorem ze158 : (Try.prog.info? 158).map (·.zero) = some (some (aggV [Kd.seg (kA 16 (kI .u32)) (Arr.rep 16 (0 : Int))])) := by kernel_rfl
theorem cal145 : calB Try.prog 145 = some true := by kernel_rfl
theorem sz36 : szB Try.prog 36 = some 1 := by kernel_rfl
theorem ag158 : aggB Try.prog 158 = some true := by kernel_rfl
theorem sz158 : szB Try.prog 158 = some 16 := by kernel_rfl
theorem cal129 : calB Try.prog 129 = some true := by kernel_rfl
theorem sz22 : szB Try.prog 22 = some 1 := by kernel_rfl
theorem ag22 : aggB Try.prog 22 = some false := by kernel_rfl
theorem ag5 : aggB Try.prog 5 = some false := by kernel_rfl
theorem ag36 : aggB Try.prog 36 = some false := by kernel_rfl
theorem cal130 : calB Try.prog 130 = some true := by kernel_rfl
theorem cal96 : calB Try.prog 96 = some true := by kernel_rfl
theorem cal95 : calB Try.prog 95 = some true := by kernel_rfl
theorem cal28 : calB Try.prog 28 = some true := by kernel_rfl
theorem cal135 : calB Try.prog 135 = some true := by kernel_rfl
theorem cal102 : calB Try.prog 102 = some true := by kernel_rfl
theorem cal112 : calB Try.prog 112 = some true := by kernel_rfl
theorem cal131 : calB Try.prog 131 = some true := by kernel_rfl
theorem mo : Try.prog.follows .mixedOrders = true := by kernel_rfl
theorem cal97 : calB Try.prog 97 = some true := by kernel_rfl
theorem cal33 : calB Try.prog 33 = some true := by kernel_rfl
theorem cal27 : calB Try.prog 27 = some true := by kernel_rfl
theorem cal98 : calB Try.prog 98 = some true := by kernel_rfl
theorem cal29 : calB Try.prog 29 = some true := by kernel_rfl
theorem cal31 : calB Try.prog 31 = some true := by kernel_rfl
theorem cal146 : calB Try.prog 146 = some true := by kernel_rfl
theorem cal133 : calB Try.prog 133 = some true := by kernel_rfl
theorem cal100 : calB Try.prog 100 = some true := by kernel_rfl
theorem cal132 : calB Try.prog 132 = some true := by kernel_rfl
theorem cal99 : calB Try.prog 99 = some true := by kernel_rfl
theorem cal30 : calB Try.prog 30 = some true := by kernel_rfl
theorem cal32 : calB Try.prog 32 = some true := by kernel_rfl
theorem cal34 : calB Try.prog 34 = some true := by kernel_rfl
theorem bl42_0_1 (x0 : Int) (x1 : Int) (w : World) : (Instr.build 42 ([(0, .int .i64 x0), (1, .int .i64 x1)] : List (Nat × Value)).toArray).run Try.prog w = .ok (aggV [Seg.cell (.int .i64 x0), Seg.cell (.int .i64 x1)]) w := by kernel_rfl
theorem pl44 : placesB Try.prog 44 = some [(0, 2), (2, 1), (3, 1)] := by kernel_rfl
theorem ze44 : (Try.prog.info? 44).map (·.zero) = some (some (aggV [Seg.cell (.int .i64 (0 : Int)), Seg.cell (.int .i64 (0 : Int)), Seg.cell (.int .i64 (0 : Int)), Seg.cell (.int .i64 (0 : Int))])) := by kernel_rfl
theorem el3 : elB Try.prog 3 = some (some (.int .i64 (0 : Int)), 1, 8) := by kernel_rfl
theorem pl47 : placesB Try.prog 47 = some [(0, 4), (4, 1)] := by kernel_rfl
theorem ze47 : (Try.prog.info? 47).map (·.zero) = some (some (aggV [Seg.cell (.int .i64 (0 : Int)), Seg.cell (.int .i64 (0 : Int)), Seg.cell (.int .i64 (0 : Int)), Seg.cell (.int .i64 (0 : Int)), Seg.cell (.slice none 0 0) (by rfl)])) := by kernel_rfl
theorem sz47 : szB Try.prog 47 = some 5 := by kernel_rfl
theorem ag47 : aggB Try.prog 47 = some true := by kernel_rfl
theorem fl47_0 : fldB Try.prog 47 0 = some 0 := by kernel_rfl
theorem fl44_0 : fldB Try.prog 44 0 = some 0 := by kernel_rfl
theorem ag42 : aggB Try.prog 42 = some true := by kernel_rfl
theorem sz42 : szB Try.prog 42 = some 2 := by kernel_rfl
theorem ze42 : (Try.prog.info? 42).map (·.zero) = some (some (aggV [Seg.cell (.int .i64 (0 : Int)), Seg.cell (.int .i64 (0 : Int))])) := by kernel_rfl
theorem fl42_0 : fldB Try.prog 42 0 = some 0 := by kernel_rfl
theorem ag3 : aggB Try.prog 3 = some false := by kernel_rfl
theorem fl42_1 : fldB Try.prog 42 1 = some 1 := by kernel_rfl
theorem fl47_1 : fldB Try.prog 47 1 = some 4 := by kernel_rfl
theorem ag45 : aggB Try.prog 45 = some false := by kernel_rfl
theorem sz3 : szB Try.prog 3 = some 1 := by kernel_rfl
theorem cal109 : calB Try.prog 109 = some true := by kernel_rfl
theorem cal138 : calB Try.prog 138 = some true := by kernel_rfl
theorem cal108 : calB Try.prog 108 = some true := by kernel_rfl
theorem cal43 : calB Try.prog 43 = some true := by kernel_rfl
theorem ag44 : aggB Try.prog 44 = some true := by kernel_rfl
theorem sz44 : szB Try.prog 44 = some 4 := by kernel_rfl
theorem fl44_1 : fldB Try.prog 44 1 = some 2 := by kernel_rfl
theorem fl44_2 : fldB Try.prog 44 2 = some 3 := by kernel_rfl
theorem el129 : elB Try.prog 129 = some (some (.int .u64 (0 : Int)), 1, 8) := by kernel_rfl
theorem sz129 : szB Try.prog 129 = some 1 := by kernel_rfl
theorem ag129 : aggB Try.prog 129 = some false := by kernel_rfl
theorem cal104 : calB Try.prog 104 = some true := by kernel_rfl
theorem cal39 : calB Try.prog 39 = some true := by kernel_rfl
theorem bl47_  (w : World) : (Instr.build 47 ([] : List (Nat × Value)).toArray).run Try.prog w = .ok (aggV [Seg.cell (.int .i64 (0 : Int)), Seg.cell (.int .i64 (0 : Int)), Seg.cell (.int .i64 (0 : Int)), Seg.cell (.int .i64 (0 : Int)), Seg.cell (.slice none 0 0) (by rfl)]) w := by kernel_rfl
theorem cal134 : calB Try.prog 134 = some true := by kernel_rfl
theorem cal101 : calB Try.prog 101 = some true := by kernel_rfl
theorem sz45 : szB Try.prog 45 = some 1 := by kernel_rfl
theorem cal36 : calB Try.prog 36 = some true := by kernel_rfl
theorem eqa42 : EqA Try.prog 42 k_api_Handle 2 := by
  refine eqa_struct Try.underlying42 Try.stoodInHeld42 ?_
  intro d w a b
  have e : decide (a = b) = (decide (a.Slot = b.Slot) && (decide (a.Gen = b.Gen) && true)) := by
    cases a
    cases b
    rw [Bool.eq_iff_iff]
    simp
  rw [e]
  refine eqf_cons (by decide) (by exact (eqk_int Try.underlying3) (d + 0) w _ _ _ a.Slot b.Slot ((chunk_segs (segs_api_Handle a) 0 1 rfl rfl)) ((chunk_segs (segs_api_Handle b) 0 1 rfl rfl))) ?_
  refine eqf_cons (by decide) (by exact (eqk_int Try.underlying3) (d + 0) w _ _ _ a.Gen b.Gen ((chunk_segs (segs_api_Handle a) 1 1 rfl rfl)) ((chunk_segs (segs_api_Handle b) 1 1 rfl rfl))) ?_
  exact eqf_nil
theorem eqa44 : EqA Try.prog 44 k_api_Entry 3 := by
  refine eqa_struct Try.underlying44 Try.stoodInHeld44 ?_
  intro d w a b
  have e : decide (a = b) = (decide (a.Handle = b.Handle) && (decide (a.Key = b.Key) && (decide (a.Value = b.Value) && true))) := by
    cases a
    cases b
    rw [Bool.eq_iff_iff]
    simp
  rw [e]
  refine eqf_cons (by decide) (by exact (eqk_of ag42 sz42 rfl eqa42) (d + 0) w _ _ _ a.Handle b.Handle ((chunk_segs (segs_api_Entry a) 0 2 rfl rfl)) ((chunk_segs (segs_api_Entry b) 0 2 rfl rfl))) ?_
  refine eqf_cons (by decide) (by exact (eqk_int Try.underlying3) (d + 1) w _ _ _ a.Key b.Key ((chunk_segs (segs_api_Entry a) 2 1 rfl rfl)) ((chunk_segs (segs_api_Entry b) 2 1 rfl rfl))) ?_
  refine eqf_cons (by decide) (by exact (eqk_int Try.underlying3) (d + 1) w _ _ _ a.Value b.Value ((chunk_segs (segs_api_Entry a) 3 1 rfl rfl)) ((chunk_segs (segs_api_Entry b) 3 1 rfl rfl))) ?_
  exact eqf_nil
theorem bl44_  (w : World) : (Instr.build 44 ([] : List (Nat × Value)).toArray).run Try.prog w = .ok (aggV [Seg.cell (.int .i64 (0 : Int)), Seg.cell (.int .i64 (0 : Int)), Seg.cell (.int .i64 (0 : Int)), Seg.cell (.int .i64 (0 : Int))]) w := by kernel_rfl
theorem cal137 : calB Try.prog 137 = some true := by kernel_rfl
theorem cal106 : calB Try.prog 106 = some true := by kernel_rfl
theorem cal105 : calB Try.prog 105 = some true := by kernel_rfl
theorem cal40 : calB Try.prog 40 = some true := by kernel_rfl
theorem cal35 : calB Try.prog 35 = some true := by kernel_rfl
theorem cal136 : calB Try.prog 136 = some true := by kernel_rfl
theorem cal103 : calB Try.prog 103 = some true := by kernel_rfl
theorem cal107 : calB Try.prog 107 = some true := by kernel_rfl
theorem cal42 : calB Try.prog 42 = some true := by kernel_rfl
theorem cal44 : calB Try.prog 44 = some true := by kernel_rfl
theorem cal37 : calB Try.prog 37 = some true := by kernel_rfl
theorem cal66 : calB Try.prog 66 = some true := by kernel_rfl
theorem cal38 : calB Try.prog 38 = some true := by kernel_rfl
theorem cal41 : calB Try.prog 41 = some true := by kernel_rfl
theorem cal110 : calB Try.prog 110 = some true := by kernel_rfl
theorem cal45 : calB Try.prog 45 = some true := by kernel_rfl
theorem ze61 : (Try.prog.info? 61).map (·.zero) = some (some (aggV [Kd.seg (kA 7 k_api_Seat) (Arr.rep 7 (⟨false, (0 : Int), (0 : Int)⟩ : S_api_Seat))])) := by kernel_rfl
theorem bl58_0_1_2 (x0 : Bool) (x1 : Int) (x2 : Int) (w : World) : (Instr.build 58 ([(0, .bool x0), (1, .int .i64 x1), (2, .int .i64 x2)] : List (Nat × Value)).toArray).run Try.prog w = .ok (aggV [Seg.cell (.bool x0), Seg.cell (.int .i64 x1), Seg.cell (.int .i64 x2)]) w := by kernel_rfl
theorem fl61_0 : fldB Try.prog 61 0 = some 0 := by kernel_rfl
theorem sz58 : szB Try.prog 58 = some 3 := by kernel_rfl
theorem ag61 : aggB Try.prog 61 = some true := by kernel_rfl
theorem sz61 : szB Try.prog 61 = some 21 := by kernel_rfl
theorem ag59 : aggB Try.prog 59 = some true := by kernel_rfl
theorem sz59 : szB Try.prog 59 = some 21 := by kernel_rfl
theorem ag58 : aggB Try.prog 58 = some true := by kernel_rfl
theorem ze58 : (Try.prog.info? 58).map (·.zero) = some (some (aggV [Seg.cell (.bool false), Seg.cell (.int .i64 (0 : Int)), Seg.cell (.int .i64 (0 : Int))])) := by kernel_rfl
theorem fl58_0 : fldB Try.prog 58 0 = some 0 := by kernel_rfl
theorem ag4 : aggB Try.prog 4 = some false := by kernel_rfl
theorem fl58_1 : fldB Try.prog 58 1 = some 1 := by kernel_rfl
theorem cal111 : calB Try.prog 111 = some true := by kernel_rfl
theorem fl58_2 : fldB Try.prog 58 2 = some 2 := by kernel_rfl
theorem cal47 : calB Try.prog 47 = some true := by kernel_rfl
theorem cal49 : calB Try.prog 49 = some true := by kernel_rfl
theorem bl61_  (w : World) : (Instr.build 61 ([] : List (Nat × Value)).toArray).run Try.prog w = .ok (aggV [Kd.seg (kA 7 k_api_Seat) (Arr.rep 7 (⟨false, (0 : Int), (0 : Int)⟩ : S_api_Seat))]) w := by kernel_rfl
theorem cal51 : calB Try.prog 51 = some true := by kernel_rfl
theorem bl73_  (w : World) : (Instr.build 73 ([] : List (Nat × Value)).toArray).run Try.prog w = .ok (aggV [Kd.seg (kA 16 (kI .i64)) (Arr.rep 16 (0 : Int))]) w := by kernel_rfl
theorem ag73 : aggB Try.prog 73 = some true := by kernel_rfl
theorem sz73 : szB Try.prog 73 = some 16 := by kernel_rfl
theorem fl73_0 : fldB Try.prog 73 0 = some 0 := by kernel_rfl
theorem ag71 : aggB Try.prog 71 = some true := by kernel_rfl
theorem sz71 : szB Try.prog 71 = some 16 := by kernel_rfl
theorem cal113 : calB Try.prog 113 = some true := by kernel_rfl
theorem cal53 : calB Try.prog 53 = some true := by kernel_rfl
theorem eqa58 : EqA Try.prog 58 k_api_Seat 2 := by
  refine eqa_struct Try.underlying58 Try.stoodInHeld58 ?_
  intro d w a b
  have e : decide (a = b) = (decide (a.Live = b.Live) && (decide (a.Gen = b.Gen) && (decide (a.Next = b.Next) && true))) := by
    cases a
    cases b
    rw [Bool.eq_iff_iff]
    simp
  rw [e]
  refine eqf_cons (by decide) (by exact (eqk_bool Try.underlying4) (d + 0) w _ _ _ a.Live b.Live ((chunk_segs (segs_api_Seat a) 0 1 rfl rfl)) ((chunk_segs (segs_api_Seat b) 0 1 rfl rfl))) ?_
  refine eqf_cons (by decide) (by exact (eqk_int Try.underlying3) (d + 0) w _ _ _ a.Gen b.Gen ((chunk_segs (segs_api_Seat a) 1 1 rfl rfl)) ((chunk_segs (segs_api_Seat b) 1 1 rfl rfl))) ?_
  refine eqf_cons (by decide) (by exact (eqk_int Try.underlying3) (d + 0) w _ _ _ a.Next b.Next ((chunk_segs (segs_api_Seat a) 2 1 rfl rfl)) ((chunk_segs (segs_api_Seat b) 2 1 rfl rfl))) ?_
  exact eqf_nil
theorem eqa59 : EqA Try.prog 59 (kA 7 k_api_Seat) 3 := eqa_arr' Try.underlying59 sz58 rfl (eqk_of ag58 sz58 rfl eqa58)
theorem eqa61 : EqA Try.prog 61 k_api_Leaf 4 := by
  refine eqa_struct Try.underlying61 Try.stoodInHeld61 ?_
  intro d w a b
  have e : decide (a = b) = (decide (a.Seats = b.Seats) && true) := by
    cases a
    cases b
    rw [Bool.eq_iff_iff]
    simp
  rw [e]
  refine eqf_cons (by decide) (by exact (eqk_of ag59 sz59 rfl eqa59) (d + 0) w _ _ _ a.Seats b.Seats ((chunk_segs (segs_api_Leaf a) 0 1 rfl rfl).trans (List.append_nil _)) ((chunk_segs (segs_api_Leaf b) 0 1 rfl rfl).trans (List.append_nil _))) ?_
  exact eqf_nil
theorem cal52 : calB Try.prog 52 = some true := by kernel_rfl
theorem ze71 : (Try.prog.info? 71).map (·.zero) = some (some (aggV [Kd.seg (kA 16 (kI .i64)) (Arr.rep 16 (0 : Int))])) := by kernel_rfl
theorem eqa71 : EqA Try.prog 71 (kA 16 (kI .i64)) 2 := eqa_arr' Try.underlying71 sz3 rfl (eqk_int Try.underlying3)
theorem cal56 : calB Try.prog 56 = some true := by kernel_rfl
theorem cal46 : calB Try.prog 46 = some true := by kernel_rfl
theorem cal48 : calB Try.prog 48 = some true := by kernel_rfl
theorem cal50 : calB Try.prog 50 = some true := by kernel_rfl
theorem cal54 : calB Try.prog 54 = some true := by kernel_rfl
theorem ze73 : (Try.prog.info? 73).map (·.zero) = some (some (aggV [Kd.seg (kA 16 (kI .i64)) (Arr.rep 16 (0 : Int))])) := by kernel_rfl
theorem cal55 : calB Try.prog 55 = some true := by kernel_rfl
theorem eqa73 : EqA Try.prog 73 k_api_Fan 3 := by
  refine eqa_struct Try.underlying73 Try.stoodInHeld73 ?_
  intro d w a b
  have e : decide (a = b) = (decide (a.Kids = b.Kids) && true) := by
    cases a
    cases b
    rw [Bool.eq_iff_iff]
    simp
  rw [e]
  refine eqf_cons (by decide) (by exact (eqk_of ag71 sz71 rfl eqa71) (d + 0) w _ _ _ a.Kids b.Kids ((chunk_segs (segs_api_Fan a) 0 1 rfl rfl).trans (List.append_nil _)) ((chunk_segs (segs_api_Fan b) 0 1 rfl rfl).trans (List.append_nil _))) ?_
  exact eqf_nil
theorem cal57 : calB Try.prog 57 = some true := by kernel_rfl
theorem cal58 : calB Try.prog 58 = some true := by kernel_rfl
theorem bl81_0 (x0 : Int) (w : World) : (Instr.build 81 ([(0, .int .i64 x0)] : List (Nat × Value)).toArray).run Try.prog w = .ok (aggV [Seg.cell (.int .i64 x0), Kd.seg (kA 48 (kI .u8)) (Arr.rep 48 (0 : Int))]) w := by kernel_rfl
theorem ze81 : (Try.prog.info? 81).map (·.zero) = some (some (aggV [Seg.cell (.int .i64 (0 : Int)), Kd.seg (kA 48 (kI .u8)) (Arr.rep 48 (0 : Int))])) := by kernel_rfl
theorem ag81 : aggB Try.prog 81 = some true := by kernel_rfl
theorem sz81 : szB Try.prog 81 = some 49 := by kernel_rfl
theorem fl81_0 : fldB Try.prog 81 0 = some 0 := by kernel_rfl
theorem cal115 : calB Try.prog 115 = some true := by kernel_rfl
theorem cal114 : calB Try.prog 114 = some true := by kernel_rfl
theorem bl81_  (w : World) : (Instr.build 81 ([] : List (Nat × Value)).toArray).run Try.prog w = .ok (aggV [Seg.cell (.int .i64 (0 : Int)), Kd.seg (kA 48 (kI .u8)) (Arr.rep 48 (0 : Int))]) w := by kernel_rfl
theorem fl81_1 : fldB Try.prog 81 1 = some 1 := by kernel_rfl
theorem cal60 : calB Try.prog 60 = some true := by kernel_rfl
theorem cal65 : calB Try.prog 65 = some true := by kernel_rfl
theorem ag79 : aggB Try.prog 79 = some true := by kernel_rfl
theorem sz79 : szB Try.prog 79 = some 48 := by kernel_rfl
theorem cal116 : calB Try.prog 116 = some true := by kernel_rfl
theorem cal68 : calB Try.prog 68 = some true := by kernel_rfl
theorem cal59 : calB Try.prog 59 = some true := by kernel_rfl
theorem cal61 : calB Try.prog 61 = some true := by kernel_rfl
theorem eqa79 : EqA Try.prog 79 (kA 48 (kI .u8)) 2 := eqa_arr' Try.underlying79 sz5 rfl (eqk_int Try.underlying5)
theorem eqa81 : EqA Try.prog 81 k_api_Chart 3 := by
  refine eqa_struct Try.underlying81 Try.stoodInHeld81 ?_
  intro d w a b
  have e : decide (a = b) = (decide (a.Place = b.Place) && (decide (a.Bits = b.Bits) && true)) := by
    cases a
    cases b
    rw [Bool.eq_iff_iff]
    simp
  rw [e]
  refine eqf_cons (by decide) (by exact (eqk_int Try.underlying3) (d + 1) w _ _ _ a.Place b.Place ((chunk_segs (segs_api_Chart a) 0 1 rfl rfl)) ((chunk_segs (segs_api_Chart b) 0 1 rfl rfl))) ?_
  refine eqf_cons (by decide) (by exact (eqk_of ag79 sz79 rfl eqa79) (d + 0) w _ _ _ a.Bits b.Bits ((chunk_segs (segs_api_Chart a) 1 1 rfl rfl).trans (List.append_nil _)) ((chunk_segs (segs_api_Chart b) 1 1 rfl rfl).trans (List.append_nil _))) ?_
  exact eqf_nil
theorem cal62 : calB Try.prog 62 = some true := by kernel_rfl
theorem cal63 : calB Try.prog 63 = some true := by kernel_rfl
theorem cal64 : calB Try.prog 64 = some true := by kernel_rfl
theorem cal67 : calB Try.prog 67 = some true := by kernel_rfl
theorem cal69 : calB Try.prog 69 = some true := by kernel_rfl
theorem cal72 : calB Try.prog 72 = some true := by kernel_rfl
theorem cal70 : calB Try.prog 70 = some true := by kernel_rfl
theorem cal71 : calB Try.prog 71 = some true := by kernel_rfl
theorem bl98_0_1 (x0 : List UInt8) (x1 : Int) (w : World) : (Instr.build 98 ([(0, sv x0), (1, .int .i64 x1)] : List (Nat × Value)).toArray).run Try.prog w = .ok (aggV [Seg.cell (sv x0), Seg.cell (.int .i64 x1), Kd.seg (kA 12 (kI .i64)) (Arr.rep 12 (0 : Int))]) w := by kernel_rfl
theorem ze98 : (Try.prog.info? 98).map (·.zero) = some (some (aggV [Seg.cell (sv []), Seg.cell (.int .i64 (0 : Int)), Kd.seg (kA 12 (kI .i64)) (Arr.rep 12 (0 : Int))])) := by kernel_rfl
theorem sz98 : szB Try.prog 98 = some 14 := by kernel_rfl
theorem fl98_2 : fldB Try.prog 98 2 = some 2 := by kernel_rfl
theorem ag98 : aggB Try.prog 98 = some true := by kernel_rfl
theorem fl98_0 : fldB Try.prog 98 0 = some 0 := by kernel_rfl
theorem ag9 : aggB Try.prog 9 = some false := by kernel_rfl
theorem ze179 : (Try.prog.info? 179).map (·.zero) = some (some (aggV [Kd.seg (kA 6 k_name_span) (Arr.rep 6 (⟨(0 : Int), (0 : Int)⟩ : S_name_span))])) := by kernel_rfl
theorem bl178_0_1 (x0 : Int) (x1 : Int) (w : World) : (Instr.build 178 ([(0, .int .i32 x0), (1, .int .i32 x1)] : List (Nat × Value)).toArray).run Try.prog w = .ok (aggV [Seg.cell (.int .i32 x0), Seg.cell (.int .i32 x1)]) w := by kernel_rfl
theorem sz178 : szB Try.prog 178 = some 2 := by kernel_rfl
theorem sz179 : szB Try.prog 179 = some 12 := by kernel_rfl
theorem ag179 : aggB Try.prog 179 = some true := by kernel_rfl
theorem cal148 : calB Try.prog 148 = some true := by kernel_rfl
theorem ag178 : aggB Try.prog 178 = some true := by kernel_rfl
theorem ze178 : (Try.prog.info? 178).map (·.zero) = some (some (aggV [Seg.cell (.int .i32 (0 : Int)), Seg.cell (.int .i32 (0 : Int))])) := by kernel_rfl
theorem fl178_0 : fldB Try.prog 178 0 = some 0 := by kernel_rfl
theorem ag21 : aggB Try.prog 21 = some false := by kernel_rfl
theorem fl178_1 : fldB Try.prog 178 1 = some 1 := by kernel_rfl
theorem cal141 : calB Try.prog 141 = some true := by kernel_rfl
theorem cal118 : calB Try.prog 118 = some true := by kernel_rfl
theorem fl98_1 : fldB Try.prog 98 1 = some 1 := by kernel_rfl
theorem ag96 : aggB Try.prog 96 = some true := by kernel_rfl
theorem sz96 : szB Try.prog 96 = some 12 := by kernel_rfl
theorem cal119 : calB Try.prog 119 = some true := by kernel_rfl
theorem cal76 : calB Try.prog 76 = some true := by kernel_rfl
theorem cal74 : calB Try.prog 74 = some true := by kernel_rfl
theorem bl98_  (w : World) : (Instr.build 98 ([] : List (Nat × Value)).toArray).run Try.prog w = .ok (aggV [Seg.cell (sv []), Seg.cell (.int .i64 (0 : Int)), Kd.seg (kA 12 (kI .i64)) (Arr.rep 12 (0 : Int))]) w := by kernel_rfl
theorem cal77 : calB Try.prog 77 = some true := by kernel_rfl
theorem pl107 : placesB Try.prog 107 = some [(0, 1)] := by kernel_rfl
theorem ze107 : (Try.prog.info? 107).map (·.zero) = some (some (aggV [Seg.cell (.slice none 0 0) (by rfl)])) := by kernel_rfl
theorem ag107 : aggB Try.prog 107 = some true := by kernel_rfl
theorem sz107 : szB Try.prog 107 = some 1 := by kernel_rfl
theorem fl107_0 : fldB Try.prog 107 0 = some 0 := by kernel_rfl
theorem cal142 : calB Try.prog 142 = some true := by kernel_rfl
theorem cal122 : calB Try.prog 122 = some true := by kernel_rfl
theorem cal83 : calB Try.prog 83 = some true := by kernel_rfl
theorem cal80 : calB Try.prog 80 = some true := by kernel_rfl
theorem eqa96 : EqA Try.prog 96 (kA 12 (kI .i64)) 2 := eqa_arr' Try.underlying96 sz3 rfl (eqk_int Try.underlying3)
theorem eqa98 : EqA Try.prog 98 k_api_Queue 3 := by
  refine eqa_struct Try.underlying98 Try.stoodInHeld98 ?_
  intro d w a b
  have e : decide (a = b) = (decide (a.Name = b.Name) && (decide (a.Count = b.Count) && (decide (a.Roots = b.Roots) && true))) := by
    cases a
    cases b
    rw [Bool.eq_iff_iff]
    simp
  rw [e]
  refine eqf_cons (by decide) (by exact (eqk_str Try.underlying9) (d + 1) w _ _ _ a.Name b.Name ((chunk_segs (segs_api_Queue a) 0 1 rfl rfl)) ((chunk_segs (segs_api_Queue b) 0 1 rfl rfl))) ?_
  refine eqf_cons (by decide) (by exact (eqk_int Try.underlying3) (d + 1) w _ _ _ a.Count b.Count ((chunk_segs (segs_api_Queue a) 1 1 rfl rfl)) ((chunk_segs (segs_api_Queue b) 1 1 rfl rfl))) ?_
  refine eqf_cons (by decide) (by exact (eqk_of ag96 sz96 rfl eqa96) (d + 0) w _ _ _ a.Roots b.Roots ((chunk_segs (segs_api_Queue a) 2 1 rfl rfl).trans (List.append_nil _)) ((chunk_segs (segs_api_Queue b) 2 1 rfl rfl).trans (List.append_nil _))) ?_
  exact eqf_nil
theorem cal121 : calB Try.prog 121 = some true := by kernel_rfl
theorem cal120 : calB Try.prog 120 = some true := by kernel_rfl
theorem cal79 : calB Try.prog 79 = some true := by kernel_rfl
theorem cal73 : calB Try.prog 73 = some true := by kernel_rfl
theorem cal149 : calB Try.prog 149 = some true := by kernel_rfl
theorem cal147 : calB Try.prog 147 = some true := by kernel_rfl
theorem cal139 : calB Try.prog 139 = some true := by kernel_rfl
theorem cal140 : calB Try.prog 140 = some true := by kernel_rfl
theorem cal117 : calB Try.prog 117 = some true := by kernel_rfl
theorem cal75 : calB Try.prog 75 = some true := by kernel_rfl
theorem cal78 : calB Try.prog 78 = some true := by kernel_rfl
theorem ze96 : (Try.prog.info? 96).map (·.zero) = some (some (aggV [Kd.seg (kA 12 (kI .i64)) (Arr.rep 12 (0 : Int))])) := by kernel_rfl
theorem cal81 : calB Try.prog 81 = some true := by kernel_rfl
theorem bl107_  (w : World) : (Instr.build 107 ([] : List (Nat × Value)).toArray).run Try.prog w = .ok (aggV [Seg.cell (.slice none 0 0) (by rfl)]) w := by kernel_rfl
theorem cal82 : calB Try.prog 82 = some true := by kernel_rfl
theorem bl98_1_0 (x1 : Int) (x0 : List UInt8) (w : World) : (Instr.build 98 ([(1, .int .i64 x1), (0, sv x0)] : List (Nat × Value)).toArray).run Try.prog w = .ok (aggV [Seg.cell (sv x0), Seg.cell (.int .i64 x1), Kd.seg (kA 12 (kI .i64)) (Arr.rep 12 (0 : Int))]) w := by kernel_rfl
theorem cal84 : calB Try.prog 84 = some true := by kernel_rfl
theorem cal85 : calB Try.prog 85 = some true := by kernel_rfl
theorem pl120 : placesB Try.prog 120 = some [(0, 1), (1, 6), (7, 1), (8, 1)] := by kernel_rfl
theorem ze120 : (Try.prog.info? 120).map (·.zero) = some (some (aggV [Seg.cell (.int .i64 (0 : Int)), Seg.cell (.int .i64 (0 : Int)), Seg.cell (.int .i64 (0 : Int)), Seg.cell (.int .i64 (0 : Int)), Seg.cell (.int .i64 (0 : Int)), Seg.cell (.int .i64 (0 : Int)), Seg.cell (.int .i64 (0 : Int)), Seg.cell (.int .i64 (0 : Int)), Seg.cell (.slice none 0 0) (by rfl)])) := by kernel_rfl
theorem sz120 : szB Try.prog 120 = some 9 := by kernel_rfl
theorem bl116_0_1_2 (x0 : Int) (x1 : Int) (x2 : Int) (w : World) : (Instr.build 116 ([(0, .int .i64 x0), (1, .int .i64 x1), (2, .int .i64 x2)] : List (Nat × Value)).toArray).run Try.prog w = .ok (aggV [Seg.cell (.int .i64 x0), Seg.cell (.int .i64 x1), Seg.cell (.int .i64 x2)]) w := by kernel_rfl
theorem fl120_1 : fldB Try.prog 120 1 = some 1 := by kernel_rfl
theorem fl118_0 : fldB Try.prog 118 0 = some 0 := by kernel_rfl
theorem sz116 : szB Try.prog 116 = some 3 := by kernel_rfl
theorem ag120 : aggB Try.prog 120 = some true := by kernel_rfl
theorem fl120_0 : fldB Try.prog 120 0 = some 0 := by kernel_rfl
theorem ag116 : aggB Try.prog 116 = some true := by kernel_rfl
theorem fl116_0 : fldB Try.prog 116 0 = some 0 := by kernel_rfl
theorem fl116_1 : fldB Try.prog 116 1 = some 1 := by kernel_rfl
theorem fl116_2 : fldB Try.prog 116 2 = some 2 := by kernel_rfl
theorem cal126 : calB Try.prog 126 = some true := by kernel_rfl
theorem fl118_2 : fldB Try.prog 118 2 = some 4 := by kernel_rfl
theorem fl118_3 : fldB Try.prog 118 3 = some 5 := by kernel_rfl
theorem fl118_1 : fldB Try.prog 118 1 = some 3 := by kernel_rfl
theorem cal127 : calB Try.prog 127 = some true := by kernel_rfl
theorem fl120_2 : fldB Try.prog 120 2 = some 7 := by kernel_rfl
theorem fl120_3 : fldB Try.prog 120 3 = some 8 := by kernel_rfl
theorem cal144 : calB Try.prog 144 = some true := by kernel_rfl
theorem cal128 : calB Try.prog 128 = some true := by kernel_rfl
theorem cal92 : calB Try.prog 92 = some true := by kernel_rfl
theorem ze155 : (Try.prog.info? 155).map (·.zero) = some (some (aggV [Kd.seg (kA 5 (kI .i64)) (Arr.rep 5 (0 : Int))])) := by kernel_rfl
theorem cal91 : calB Try.prog 91 = some true := by kernel_rfl
theorem bl120_  (w : World) : (Instr.build 120 ([] : List (Nat × Value)).toArray).run Try.prog w = .ok (aggV [Seg.cell (.int .i64 (0 : Int)), Seg.cell (.int .i64 (0 : Int)), Seg.cell (.int .i64 (0 : Int)), Seg.cell (.int .i64 (0 : Int)), Seg.cell (.int .i64 (0 : Int)), Seg.cell (.int .i64 (0 : Int)), Seg.cell (.int .i64 (0 : Int)), Seg.cell (.int .i64 (0 : Int)), Seg.cell (.slice none 0 0) (by rfl)]) w := by kernel_rfl
theorem pl149 : placesB Try.prog 149 = some [(0, 1)] := by kernel_rfl
theorem ze149 : (Try.prog.info? 149).map (·.zero) = some (some (aggV [Seg.cell (.slice none 0 0) (by rfl)])) := by kernel_rfl
theorem sz149 : szB Try.prog 149 = some 1 := by kernel_rfl
theorem fl149_0 : fldB Try.prog 149 0 = some 0 := by kernel_rfl
theorem cal123 : calB Try.prog 123 = some true := by kernel_rfl
theorem ze152 : (Try.prog.info? 152).map (·.zero) = some (some (aggV [Seg.cell (.pointer none), Seg.cell (.pointer none), Seg.cell (.pointer none), Seg.cell (.pointer none), Seg.cell (.pointer none)])) := by kernel_rfl
theorem sz151 : szB Try.prog 151 = some 1 := by kernel_rfl
theorem ag151 : aggB Try.prog 151 = some false := by kernel_rfl
theorem cal87 : calB Try.prog 87 = some true := by kernel_rfl
theorem cal86 : calB Try.prog 86 = some true := by kernel_rfl
theorem cal124 : calB Try.prog 124 = some true := by kernel_rfl
theorem cal143 : calB Try.prog 143 = some true := by kernel_rfl
theorem cal125 : calB Try.prog 125 = some true := by kernel_rfl
theorem cal90 : calB Try.prog 90 = some true := by kernel_rfl
theorem cal93 : calB Try.prog 93 = some true := by kernel_rfl
theorem cal88 : calB Try.prog 88 = some true := by kernel_rfl
theorem eqa116 : EqA Try.prog 116 k_api_Geometry 2 := by
  refine eqa_struct Try.underlying116 Try.stoodInHeld116 ?_
  intro d w a b
  have e : decide (a = b) = (decide (a.Blocks = b.Blocks) && (decide (a.Slots = b.Slots) && (decide (a.Gens = b.Gens) && true))) := by
    cases a
    cases b
    rw [Bool.eq_iff_iff]
    simp
  rw [e]
  refine eqf_cons (by decide) (by exact (eqk_int Try.underlying3) (d + 0) w _ _ _ a.Blocks b.Blocks ((chunk_segs (segs_api_Geometry a) 0 1 rfl rfl)) ((chunk_segs (segs_api_Geometry b) 0 1 rfl rfl))) ?_
  refine eqf_cons (by decide) (by exact (eqk_int Try.underlying3) (d + 0) w _ _ _ a.Slots b.Slots ((chunk_segs (segs_api_Geometry a) 1 1 rfl rfl)) ((chunk_segs (segs_api_Geometry b) 1 1 rfl rfl))) ?_
  refine eqf_cons (by decide) (by exact (eqk_int Try.underlying3) (d + 0) w _ _ _ a.Gens b.Gens ((chunk_segs (segs_api_Geometry a) 2 1 rfl rfl)) ((chunk_segs (segs_api_Geometry b) 2 1 rfl rfl))) ?_
  exact eqf_nil
theorem cal89 : calB Try.prog 89 = some true := by kernel_rfl
theorem ag118 : aggB Try.prog 118 = some true := by kernel_rfl
theorem sz118 : szB Try.prog 118 = some 6 := by kernel_rfl
theorem eqa118 : EqA Try.prog 118 k_api_Tickets 3 := by
  refine eqa_struct Try.underlying118 Try.stoodInHeld118 ?_
  intro d w a b
  have e : decide (a = b) = (decide (a.Geometry = b.Geometry) && (decide (a.Top = b.Top) && (decide (a.High = b.High) && (decide (a.Free = b.Free) && true)))) := by
    cases a
    cases b
    rw [Bool.eq_iff_iff]
    simp
  rw [e]
  refine eqf_cons (by decide) (by exact (eqk_of ag116 sz116 rfl eqa116) (d + 0) w _ _ _ a.Geometry b.Geometry ((chunk_segs (segs_api_Tickets a) 0 3 rfl rfl)) ((chunk_segs (segs_api_Tickets b) 0 3 rfl rfl))) ?_
  refine eqf_cons (by decide) (by exact (eqk_int Try.underlying3) (d + 1) w _ _ _ a.Top b.Top ((chunk_segs (segs_api_Tickets a) 3 1 rfl rfl)) ((chunk_segs (segs_api_Tickets b) 3 1 rfl rfl))) ?_
  refine eqf_cons (by decide) (by exact (eqk_int Try.underlying3) (d + 1) w _ _ _ a.High b.High ((chunk_segs (segs_api_Tickets a) 4 1 rfl rfl)) ((chunk_segs (segs_api_Tickets b) 4 1 rfl rfl))) ?_
  refine eqf_cons (by decide) (by exact (eqk_int Try.underlying3) (d + 1) w _ _ _ a.Free b.Free ((chunk_segs (segs_api_Tickets a) 5 1 rfl rfl)) ((chunk_segs (segs_api_Tickets b) 5 1 rfl rfl))) ?_
  exact eqf_nil
theorem cal94 : calB Try.prog 94 = some true := by kernel_rfl
end Go.Proofs.Ytjhajfkfhdnciaa

/- rickyard/octet.Lay: its model, and that the Go function computes it: written by gen.py. -/
set_option linter.unusedVariables false
namespace Go.Proofs.Ytjhajfkfhdnciaa
open Go Go.Xw
def octet_Lay.s0 (fu : Nat) (a1 : Int) : (Int × Int × (List Int)) → Option (Sum (List Int) (Int × Int × (List Int))) := fun s14 => (if (decide (s14.2.1 < (List.length (List.replicate (Int.toNat a1) (0 : Int)) : Int))) = true then (if 0 ≤ s14.2.1 ∧ s14.2.1 < (List.length s14.2.2 : Int) then some (Sum.inr ((shR .u64 s14.1 8), (IntKind.i64.wrap (s14.2.1 + 1)), (List.set s14.2.2 (Int.toNat s14.2.1) (IntKind.u8.wrap s14.1)))) else none) else some (Sum.inl (s14.2.2)))
def octet_Lay.f (fu : Nat) (a0 : Int) (a1 : Int) : Option (List Int) := (if (if (decide (a1 < 0)) = true then true else (decide (a1 > 8))) = true then some ([]) else (if 0 ≤ a1 ∧ Int.toNat a1 ≤ LIM then ((loopM (octet_Lay.s0 fu a1) fu (a0, 0, (List.replicate (Int.toNat a1) (0 : Int)))).bind fun e15 => some (e15)) else none))
set_option maxRecDepth 100000 in
set_option maxHeartbeats 400000 in
theorem octet_Lay.ok (fu : Nat) (w : World) (a0 : Int) (a1 : Int) (r : (List Int)) (h : octet_Lay.f fu a0 a1 = some r) :
    Calls Try.prog 95 (([.int .u64 a0, .int .i64 a1] : List Value).toArray) w (fun e w' => ∃ v, e = .returned v ∧ ∃ u1 : Value, ∃ o2 : Own (kI .u8) 5 w' w.heap.size u1 r, v = u1 ∧ Gr w w') := by
  unfold octet_Lay.f at h
  have fB : Gr w w := Fr.refl _ _
  refine calls_cw Try.func95 rfl Try.ntmps95 rfl ?_
  refine cw_seq ?_
  refine cw_region ?_
  refine ol_val (v := .slice none 0 0) (by exact xr_assign rfl rfl) rfl rfl rfl ?_
  refine ol_nil ?_
  refine cw_seq ?_
  refine cw_seq ?_
  refine cw_mid (fun ρ' w' => ρ' 0 = .int .u64 a0 ∧ ρ' 1 = .int .i64 a1 ∧ ρ' 12 = .bool (if (decide (a1 < 0)) = true then true else (decide (a1 > 8))) ∧ w = w') ?_ ?_
  · skip
    refine cw_region ?_
    refine ol_val (v := .int .i64 a1) (by exact xr_move rfl rfl) rfl rfl rfl ?_
    refine ol_val (v := .bool (decide (a1 < 0))) (by exact xr_lss rfl rfl rfl) rfl rfl rfl ?_
    refine ol_val (v := .bool (decide (a1 < 0))) (by exact xr_move rfl rfl) rfl rfl rfl ?_
    rcases bt (decide (a1 < 0)) with c4 | c4
    · skip
      refine ol_gskip rfl rfl rfl rfl rfl c4 ?_
      refine ol_gskip rfl rfl rfl rfl rfl c4 ?_
      refine ol_val (v := .bool true) (by exact xr_pickT rfl rfl c4 rfl) rfl rfl rfl ?_
      refine ol_nil ?_
      refine thn_i ?_
      exact ⟨rfl, rfl, (rfl).trans (congrArg (fun z => (.bool z : Value)) (show true = (if (decide (a1 < 0)) = true then true else (decide (a1 > 8))) from by rw [ite_t c4])), rfl⟩
    · skip
      refine ol_gval (v := .int .i64 a1) (by exact xr_move rfl rfl) rfl rfl rfl rfl rfl c4 ?_
      refine ol_gval (v := .bool (decide (a1 > 8))) (by exact xr_gtr rfl rfl rfl) rfl rfl rfl rfl rfl c4 ?_
      refine ol_val (v := .bool (decide (a1 > 8))) (by exact xr_pickF rfl rfl c4 rfl) rfl rfl rfl ?_
      refine ol_nil ?_
      refine thn_i ?_
      exact ⟨rfl, rfl, (rfl).trans (congrArg (fun z => (.bool z : Value)) (show (decide (a1 > 8)) = (if (decide (a1 < 0)) = true then true else (decide (a1 > 8))) from by rw [ite_f c4])), rfl⟩
  · skip
    rintro ρ5 _ ⟨e0, e1, e12, rfl⟩
    rcases is h with ⟨c6, h⟩ | ⟨c6, h⟩
    · refine cw_condT e12 c6 ?_
      refine cw_seq ?_
      refine cw_region ?_
      refine ol_val (v := .slice none 0 0) (by exact xr_assign rfl rfl) rfl rfl rfl ?_
      refine ol_nil ?_
      refine cw_ret ?_
      repeat (first | with_reducible refine thn_r ?_ | with_reducible refine blk_r ?_)
      obtain rfl := Option.some.inj h
      refine fin_ret1 Try.results95 rfl ?_
      exact ⟨_, rfl, (.slice none 0 0), Own.nil _ _ _ _, rfl, fB⟩
    · refine cw_condF e12 c6 ?_
      refine cw_skip ?_
      refine cw_seq ?_
      refine cw_region ?_
      refine ol_val (v := .int .i64 a1) (by exact xr_move rfl e1) rfl rfl rfl ?_
      obtain ⟨g7, h⟩ := gs h
      refine ol_op (by exact opv_make (K := (kI .u8)) (z := (0 : Int)) rfl Try.underlying22 el5 rfl rfl rfl g7.1 g7.2 rfl fB.size) rfl rfl rfl ?_
      rintro v8 w13 ⟨o10, q9, z11⟩
      have fB := fB.gr q9
      refine ol_val (v := v8) (by exact xr_assign rfl rfl) rfl rfl rfl ?_
      refine ol_nil ?_
      refine cw_seq ?_
      refine cw_seq ?_
      refine cw_region ?_
      refine ol_val (v := v8) (by exact xr_move rfl rfl) rfl rfl rfl ?_
      refine ol_val (v := .int .i64 (List.length (List.replicate (Int.toNat a1) (0 : Int)) : Int)) (by exact xr_lenR rfl Try.underlying22 rfl o10.rd) rfl rfl rfl ?_
      refine ol_val (v := .int .i64 0) (by exact xr_move rfl rfl) rfl rfl rfl ?_
      refine ol_nil ?_
      obtain ⟨e15, l16, h17⟩ := bs h
      refine cw_mid (fun ρ' w' => ∃ o10 : Own (kI .u8) 5 w' w.heap.size v8 e15, ρ' 5 = v8 ∧ Gr w w') ?_ ?_
      · refine cw_block ?_
        refine cw_round (fun (s14 : Int × Int × (List Int)) ρ' w' => ∃ o10 : Own (kI .u8) 5 w' w.heap.size v8 s14.2.2, ρ' 0 = .int .u64 s14.1 ∧ ρ' 5 = v8 ∧ ρ' 16 = .int .i64 (List.length (List.replicate (Int.toNat a1) (0 : Int)) : Int) ∧ ρ' 17 = .int .i64 s14.2.1 ∧ Gr w w') l16 ?_ ?_
        · skip
          exact ⟨o10, e0, rfl, rfl, rfl, fB⟩
        · rintro s14 x20 ρ18 w19 ⟨o10, e0, e5, e16, e17, fB⟩ h
          unfold octet_Lay.s0 at h
          refine cw_seq ?_
          refine cw_region ?_
          refine ol_val (v := .bool (decide (s14.2.1 < (List.length (List.replicate (Int.toNat a1) (0 : Int)) : Int)))) (by exact xr_lss rfl e17 e16) rfl rfl rfl ?_
          refine ol_nil ?_
          refine cw_seq ?_
          rcases is h with ⟨c21, h⟩ | ⟨c21, h⟩
          · refine cw_condT rfl c21 ?_
            refine cw_skip ?_
            refine cw_seq ?_
            refine cw_block ?_
            refine cw_seq ?_
            refine cw_region ?_
            refine ol_val (v := .int .i64 s14.2.1) (by exact xr_move rfl e17) rfl rfl rfl ?_
            refine ol_val (v := .int .i64 s14.2.1) (by exact xr_assign rfl rfl) rfl rfl rfl ?_
            refine ol_nil ?_
            refine cw_seq ?_
            refine cw_region ?_
            refine ol_val (v := v8) (by exact xr_move rfl e5) rfl rfl rfl ?_
            refine ol_val (v := .int .i64 s14.2.1) (by exact xr_move rfl rfl) rfl rfl rfl ?_
            refine ol_val (v := .int .u64 s14.1) (by exact xr_move rfl e0) rfl rfl rfl ?_
            refine ol_val (v := .int .u8 (IntKind.u8.wrap s14.1)) (by exact xr_conv rfl Try.underlying129 Try.underlying5 rfl) rfl rfl rfl ?_
            obtain ⟨g22, h⟩ := gs h
            refine ol_val (v := .pointer (some ⟨(sb v8), so v8 + Int.toNat s14.2.1 * 1, none⟩)) (by exact xr_indexR (K := (kI .u8)) (v := v8) rfl Try.underlying22 sz5 rfl o10.rd rfl g22.1 g22.2) rfl rfl rfl ?_
            have f24 := o10.geO
            refine ol_op0 (by exact opv_storeRow (z := (IntKind.u8.wrap s14.1)) (xs := cellsOf [Seg.cell (.int .u8 (IntKind.u8.wrap s14.1))]) rfl sz5 rfl rfl rfl (len_cellsOf _) (one_cellsOf _) o10 g22.1 g22.2 (Spl.whole ((Kd.len _ _).trans (Kd.len _ _).symm)) rfl) rfl rfl ?_
            rintro _ w25 ⟨o10, q23⟩
            have fB := fB.wrO q23 f24
            refine ol_nil ?_
            refine cw_region ?_
            refine ol_val (v := .int .u64 s14.1) (by exact xr_move rfl e0) rfl rfl rfl ?_
            refine ol_val (v := .int .u64 (shR .u64 s14.1 8)) (by exact xr_shr rfl rfl rfl (by decide)) rfl rfl rfl ?_
            refine ol_val (v := .int .u64 (shR .u64 s14.1 8)) (by exact xr_assign rfl rfl) rfl rfl rfl ?_
            refine ol_nil ?_
            refine blk_i ?_
            refine cw_region ?_
            refine ol_val (v := .int .i64 (IntKind.i64.wrap (s14.2.1 + 1))) (by exact xr_add rfl e17 rfl) rfl rfl rfl ?_
            refine ol_val (v := .int .i64 (IntKind.i64.wrap (s14.2.1 + 1))) (by exact xr_move rfl rfl) rfl rfl rfl ?_
            refine ol_nil ?_
            obtain rfl := Option.some.inj h
            refine lp_in ?_
            exact ⟨o10, rfl, e5, e16, rfl, fB⟩
          · refine cw_condF rfl c21 ?_
            refine cw_exit ?_
            repeat (first | with_reducible refine thn_e ?_ | with_reducible refine blk_e rfl ?_)
            obtain rfl := Option.some.inj h
            refine lp_exit ?_
            rintro rfl
            refine thn_x ?_
            exact ⟨o10, e5, fB⟩
      · rintro ρ26 w27 ⟨o10, e5, fB⟩
        have h := h17
        refine cw_seq ?_
        refine cw_region ?_
        refine ol_val (v := v8) (by exact xr_move rfl e5) rfl rfl rfl ?_
        refine ol_val (v := v8) (by exact xr_assign rfl rfl) rfl rfl rfl ?_
        refine ol_nil ?_
        refine cw_ret ?_
        repeat (first | with_reducible refine thn_r ?_ | with_reducible refine blk_r ?_)
        obtain rfl := Option.some.inj h
        refine fin_ret1 Try.results95 rfl ?_
        exact ⟨_, rfl, v8, o10, rfl, fB⟩
end Go.Proofs.Ytjhajfkfhdnciaa

/- rickyard/crc.step: its model, and that the Go function computes it: written by gen.py. -/
set_option linter.unusedVariables false
namespace Go.Proofs.Ytjhajfkfhdnciaa
open Go Go.Xw
def crc_step.f (fu : Nat) (a0 : Int) : Option Int := (if (decide ((bAnd .u32 a0 1) = 1)) = true then some ((bXor .u32 (shR .u32 a0 1) 2197175160)) else some ((shR .u32 a0 1)))
set_option maxRecDepth 100000 in
set_option maxHeartbeats 400000 in
theorem crc_step.ok (fu : Nat) (w : World) (a0 : Int) (r : Int) (h : crc_step.f fu a0 = some r) :
    Calls Try.prog 145 (([.int .u32 a0] : List Value).toArray) w (fun e w' => ∃ v, e = .returned v ∧ v = .int .u32 r ∧ Gr w w') := by
  unfold crc_step.f at h
  have fB : Gr w w := Fr.refl _ _
  refine calls_cw Try.func145 rfl Try.ntmps145 rfl ?_
  refine cw_seq ?_
  refine cw_region ?_
  refine ol_val (v := .int .u32 0) (by exact xr_assign rfl rfl) rfl rfl rfl ?_
  refine ol_nil ?_
  refine cw_seq ?_
  refine cw_seq ?_
  refine cw_region ?_
  refine ol_val (v := .int .u32 a0) (by exact xr_move rfl rfl) rfl rfl rfl ?_
  refine ol_val (v := .int .u32 (bAnd .u32 a0 1)) (by exact xr_and rfl rfl rfl) rfl rfl rfl ?_
  refine ol_val (v := .bool (decide ((bAnd .u32 a0 1) = 1))) (by exact xr_eqI rfl Try.underlying36 rfl rfl rfl) rfl rfl rfl ?_
  refine ol_nil ?_
  rcases is h with ⟨c1, h⟩ | ⟨c1, h⟩
  · refine cw_condT rfl c1 ?_
    refine cw_seq ?_
    refine cw_region ?_
    refine ol_val (v := .int .u32 a0) (by exact xr_move rfl rfl) rfl rfl rfl ?_
    refine ol_val (v := .int .u32 (shR .u32 a0 1)) (by exact xr_shr rfl rfl rfl (by decide)) rfl rfl rfl ?_
    refine ol_val (v := .int .u32 (bXor .u32 (shR .u32 a0 1) 2197175160)) (by exact xr_xor rfl rfl rfl) rfl rfl rfl ?_
    refine ol_val (v := .int .u32 (bXor .u32 (shR .u32 a0 1) 2197175160)) (by exact xr_assign rfl rfl) rfl rfl rfl ?_
    refine ol_nil ?_
    refine cw_ret ?_
    repeat (first | with_reducible refine thn_r ?_ | with_reducible refine blk_r ?_)
    obtain rfl := Option.some.inj h
    refine fin_ret1 Try.results145 rfl ?_
    exact ⟨_, rfl, rfl, fB⟩
  · refine cw_condF rfl c1 ?_
    refine cw_skip ?_
    refine cw_seq ?_
    refine cw_region ?_
    refine ol_val (v := .int .u32 a0) (by exact xr_move rfl rfl) rfl rfl rfl ?_
    refine ol_val (v := .int .u32 (shR .u32 a0 1)) (by exact xr_shr rfl rfl rfl (by decide)) rfl rfl rfl ?_
    refine ol_val (v := .int .u32 (shR .u32 a0 1)) (by exact xr_assign rfl rfl) rfl rfl rfl ?_
    refine ol_nil ?_
    refine cw_ret ?_
    repeat (first | with_reducible refine thn_r ?_ | with_reducible refine blk_r ?_)
    obtain rfl := Option.some.inj h
    refine fin_ret1 Try.results145 rfl ?_
    exact ⟨_, rfl, rfl, fB⟩
end Go.Proofs.Ytjhajfkfhdnciaa

/- rickyard/crc.Table: its model, and that the Go function computes it: written by gen.py. -/
set_option linter.unusedVariables false
namespace Go.Proofs.Ytjhajfkfhdnciaa
open Go Go.Xw
def crc_Table.s3 (fu : Nat) : (Int × Int) → Option (Sum Int (Int × Int)) := fun s22 => (if (decide (s22.2 < 4)) = true then ((crc_step.f fu s22.1 : Option Int).bind fun t30 => some (Sum.inr (t30, (IntKind.i64.wrap (s22.2 + 1))))) else some (Sum.inl (s22.1)))
def crc_Table.s2 (fu : Nat) : (Int × (Arr 16 Int)) → Option (Sum (Arr 16 Int) (Int × (Arr 16 Int))) := fun s14 => (if (decide (s14.1 < 16)) = true then ((loopM (crc_Table.s3 fu) fu ((IntKind.u32.wrap s14.1), 0)).bind fun e23 => (if 0 ≤ s14.1 ∧ s14.1 < 16 then some (Sum.inr ((IntKind.i64.wrap (s14.1 + 1)), (Arr.set s14.2 s14.1 e23))) else none)) else some (Sum.inl (s14.2)))
def crc_Table.f (fu : Nat) : Option (Arr 16 Int) := ((loopM (crc_Table.s2 fu) fu (0, (Arr.rep 16 (0 : Int)))).bind fun e15 => some (e15))
set_option maxRecDepth 100000 in
set_option maxHeartbeats 400000 in
theorem crc_Table.ok (fu : Nat) (w : World)  (r : (Arr 16 Int)) (h : crc_Table.f fu = some r) :
    Calls Try.prog 129 (([] : List Value).toArray) w (fun e w' => ∃ v, e = .returned v ∧ v = aggV [Kd.seg (kA 16 (kI .u32)) r] ∧ Gr w w') := by
  unfold crc_Table.f at h
  have fB : Gr w w := Fr.refl _ _
  refine calls_cw Try.func129 rfl Try.ntmps129 rfl ?_
  refine cw_seq ?_
  refine cw_region ?_
  refine ol_op (by exact opv_alloc (ss := [Kd.seg (kA 16 (kI .u32)) (Arr.rep 16 (0 : Int))]) rfl ze158 rfl) rfl rfl rfl ?_
  rintro _ w6 ⟨G1, rfl, b2, q3, z4⟩
  have z4 := Nat.le_trans fB.size z4
  have fB := fB.gr q3
  refine ol_nil ?_
  refine cw_seq ?_
  refine cw_region ?_
  refine ol_op (by exact opv_alloc (ss := [Kd.seg (kA 16 (kI .u32)) (Arr.rep 16 (0 : Int))]) rfl ze158 rfl) rfl rfl rfl ?_
  rintro _ w12 ⟨G7, rfl, b8, q9, z10⟩
  have n13 := b2.ne z10
  have z10 := Nat.le_trans fB.size z10
  have b2 := b2.gr q9
  have fB := fB.gr q9
  refine ol_nil ?_
  refine cw_seq ?_
  refine cw_seq ?_
  refine cw_region ?_
  refine ol_val (v := .int .i64 0) (by exact xr_move rfl rfl) rfl rfl rfl ?_
  refine ol_nil ?_
  obtain ⟨e15, l16, h17⟩ := bs h
  refine cw_mid (fun ρ' w' => ρ' 0 = .pointer (some ⟨G1, 0, none⟩) ∧ ρ' 1 = .pointer (some ⟨G7, 0, none⟩) ∧ Blk w' G1 158 [Kd.seg (kA 16 (kI .u32)) (Arr.rep 16 (0 : Int))] ∧ Blk w' G7 158 [Kd.seg (kA 16 (kI .u32)) e15] ∧ Gr w w') ?_ ?_
  · refine cw_block ?_
    refine cw_round (fun (s14 : Int × (Arr 16 Int)) ρ' w' => ρ' 0 = .pointer (some ⟨G1, 0, none⟩) ∧ ρ' 1 = .pointer (some ⟨G7, 0, none⟩) ∧ ρ' 4 = .int .i64 s14.1 ∧ Blk w' G1 158 [Kd.seg (kA 16 (kI .u32)) (Arr.rep 16 (0 : Int))] ∧ Blk w' G7 158 [Kd.seg (kA 16 (kI .u32)) s14.2] ∧ Gr w w') l16 ?_ ?_
    · skip
      exact ⟨rfl, rfl, rfl, b2, b8, fB⟩
    · rintro s14 x20 ρ18 w19 ⟨e0, e1, e4, b2, b8, fB⟩ h
      unfold crc_Table.s2 at h
      refine cw_seq ?_
      refine cw_region ?_
      refine ol_val (v := .bool (decide (s14.1 < 16))) (by exact xr_lss rfl e4 rfl) rfl rfl rfl ?_
      refine ol_nil ?_
      refine cw_seq ?_
      rcases is h with ⟨c21, h⟩ | ⟨c21, h⟩
      · refine cw_condT rfl c21 ?_
        refine cw_skip ?_
        refine cw_seq ?_
        refine cw_block ?_
        refine cw_seq ?_
        refine cw_region ?_
        refine ol_val (v := .int .i64 s14.1) (by exact xr_move rfl e4) rfl rfl rfl ?_
        refine ol_val (v := .int .i64 s14.1) (by exact xr_assign rfl rfl) rfl rfl rfl ?_
        refine ol_nil ?_
        refine cw_seq ?_
        refine cw_region ?_
        refine ol_val (v := .int .i64 s14.1) (by exact xr_move rfl rfl) rfl rfl rfl ?_
        refine ol_val (v := .int .u32 (IntKind.u32.wrap s14.1)) (by exact xr_conv rfl Try.underlying3 Try.underlying36 rfl) rfl rfl rfl ?_
        refine ol_val (v := .int .u32 (IntKind.u32.wrap s14.1)) (by exact xr_assign rfl rfl) rfl rfl rfl ?_
        refine ol_nil ?_
        refine cw_seq ?_
        refine cw_seq ?_
        refine cw_region ?_
        refine ol_val (v := .int .i64 0) (by exact xr_move rfl rfl) rfl rfl rfl ?_
        refine ol_nil ?_
        obtain ⟨e23, l24, h25⟩ := bs h
        refine cw_mid (fun ρ' w' => ρ' 0 = .pointer (some ⟨G1, 0, none⟩) ∧ ρ' 1 = .pointer (some ⟨G7, 0, none⟩) ∧ ρ' 2 = .int .i64 s14.1 ∧ ρ' 3 = .int .u32 e23 ∧ ρ' 4 = .int .i64 s14.1 ∧ Blk w' G1 158 [Kd.seg (kA 16 (kI .u32)) (Arr.rep 16 (0 : Int))] ∧ Blk w' G7 158 [Kd.seg (kA 16 (kI .u32)) s14.2] ∧ Gr w w') ?_ ?_
        · refine cw_block ?_
          refine cw_round (fun (s22 : Int × Int) ρ' w' => ρ' 0 = .pointer (some ⟨G1, 0, none⟩) ∧ ρ' 1 = .pointer (some ⟨G7, 0, none⟩) ∧ ρ' 2 = .int .i64 s14.1 ∧ ρ' 3 = .int .u32 s22.1 ∧ ρ' 4 = .int .i64 s14.1 ∧ ρ' 9 = .int .i64 s22.2 ∧ Blk w' G1 158 [Kd.seg (kA 16 (kI .u32)) (Arr.rep 16 (0 : Int))] ∧ Blk w' G7 158 [Kd.seg (kA 16 (kI .u32)) s14.2] ∧ Gr w w') l24 ?_ ?_
          · skip
            exact ⟨e0, e1, rfl, rfl, e4, rfl, b2, b8, fB⟩
          · rintro s22 x28 ρ26 w27 ⟨e0, e1, e2, e3, e4, e9, b2, b8, fB⟩ h
            unfold crc_Table.s3 at h
            refine cw_seq ?_
            refine cw_region ?_
            refine ol_val (v := .bool (decide (s22.2 < 4))) (by exact xr_lss rfl e9 rfl) rfl rfl rfl ?_
            refine ol_nil ?_
            refine cw_seq ?_
            rcases is h with ⟨c29, h⟩ | ⟨c29, h⟩
            · refine cw_condT rfl c29 ?_
              refine cw_skip ?_
              refine cw_seq ?_
              refine cw_block ?_
              refine cw_region ?_
              refine ol_val (v := .int .u32 s22.1) (by exact xr_move rfl e3) rfl rfl rfl ?_
              obtain ⟨t30, k31, h⟩ := bs h
              refine ol_op (by exact opv_call rfl cal145 (ac rfl an) (crc_step.ok fu _ s22.1 _ k31)) rfl rfl rfl ?_
              rintro _ w33 ⟨rfl, q32⟩
              have b2 := b2.gr q32
              have b8 := b8.gr q32
              have fB := fB.gr q32
              refine ol_val (v := .int .u32 t30) (by exact xr_assign rfl rfl) rfl rfl rfl ?_
              refine ol_nil ?_
              refine blk_i ?_
              refine cw_region ?_
              refine ol_val (v := .int .i64 (IntKind.i64.wrap (s22.2 + 1))) (by exact xr_add rfl e9 rfl) rfl rfl rfl ?_
              refine ol_val (v := .int .i64 (IntKind.i64.wrap (s22.2 + 1))) (by exact xr_move rfl rfl) rfl rfl rfl ?_
              refine ol_nil ?_
              obtain rfl := Option.some.inj h
              refine lp_in ?_
              exact ⟨e0, e1, e2, rfl, e4, rfl, b2, b8, fB⟩
            · refine cw_condF rfl c29 ?_
              refine cw_exit ?_
              repeat (first | with_reducible refine thn_e ?_ | with_reducible refine blk_e rfl ?_)
              obtain rfl := Option.some.inj h
              refine lp_exit ?_
              rintro rfl
              refine thn_x ?_
              exact ⟨e0, e1, e2, e3, e4, b2, b8, fB⟩
        · rintro ρ34 w35 ⟨e0, e1, e2, e3, e4, b2, b8, fB⟩
          have h := h25
          refine cw_region ?_
          refine ol_val (v := .int .i64 s14.1) (by exact xr_move rfl e2) rfl rfl rfl ?_
          refine ol_val (v := .int .u32 e23) (by exact xr_move rfl e3) rfl rfl rfl ?_
          obtain ⟨g36, h⟩ := gs h
          refine ol_val (v := .pointer (some ⟨G7, 0 + Int.toNat s14.1 * 1, none⟩)) (by exact xr_indexA (p := 0) (s := 1) rfl Try.underlying158 sz36 e1 rfl g36.1 g36.2) rfl rfl rfl ?_
          refine ol_op0 (by exact opv_store (ss' := [Kd.seg (kA 16 (kI .u32)) (Arr.set s14.2 s14.1 e23)]) (xs := cellsOf [Seg.cell (.int .u32 e23)]) rfl sz36 rfl rfl rfl (len_cellsOf _) (one_cellsOf _) b8 (Spl.seg_in _ 0 (Kd.seg (kA 16 (kI .u32)) (Arr.set s14.2 s14.1 e23)) rfl rfl (Spl.arr s14.2 s14.1 e23 g36.1 g36.2 (Spl.whole ((Kd.len _ _).trans (Kd.len _ _).symm))))) rfl rfl ?_
          rintro _ w38 ⟨b8, q37⟩
          have b2 := b2.wr q37 n13
          have fB := fB.wr q37 z10
          refine ol_nil ?_
          refine blk_i ?_
          refine cw_region ?_
          refine ol_val (v := .int .i64 (IntKind.i64.wrap (s14.1 + 1))) (by exact xr_add rfl e4 rfl) rfl rfl rfl ?_
          refine ol_val (v := .int .i64 (IntKind.i64.wrap (s14.1 + 1))) (by exact xr_move rfl rfl) rfl rfl rfl ?_
          refine ol_nil ?_
          obtain rfl := Option.some.inj h
          refine lp_in ?_
          exact ⟨e0, e1, rfl, b2, b8, fB⟩
      · refine cw_condF rfl c21 ?_
        refine cw_exit ?_
        repeat (first | with_reducible refine thn_e ?_ | with_reducible refine blk_e rfl ?_)
        obtain rfl := Option.some.inj h
        refine lp_exit ?_
        rintro rfl
        refine thn_x ?_
        exact ⟨e0, e1, b2, b8, fB⟩
  · rintro ρ39 w40 ⟨e0, e1, b2, b8, fB⟩
    have h := h17
    refine cw_seq ?_
    refine cw_region ?_
    refine ol_val (v := aggV [Kd.seg (kA 16 (kI .u32)) e15]) (by exact xr_loadS (ss := [Kd.seg (kA 16 (kI .u32)) e15]) rfl ag158 sz158 rfl e1 (b8.segs 0 1 rfl)) rfl rfl rfl ?_
    refine ol_op0 (by exact opv_store (ss' := [Kd.seg (kA 16 (kI .u32)) e15]) (xs := cellsOf [Kd.seg (kA 16 (kI .u32)) e15]) rfl sz158 e0 rfl rfl (len_cellsOf _) (one_cellsOf _) b2 (Spl.segs _ 0 1 [Kd.seg (kA 16 (kI .u32)) e15] rfl rfl)) rfl rfl ?_
    rintro _ w42 ⟨b2, q41⟩
    have fB := fB.wr q41 z4
    refine ol_nil ?_
    refine cw_ret ?_
    repeat (first | with_reducible refine thn_r ?_ | with_reducible refine blk_r ?_)
    obtain rfl := Option.some.inj h
    refine fin_cell Try.results129 e0 ag158 sz158 b2 (by rfl) ?_
    exact ⟨_, rfl, rfl, fB⟩
end Go.Proofs.Ytjhajfkfhdnciaa

/- rickyard/crc.register: its model, and that the Go function computes it: written by gen.py. -/
set_option linter.unusedVariables false
namespace Go.Proofs.Ytjhajfkfhdnciaa
open Go Go.Xw
def crc_register.s0 (fu : Nat) (a0 : Arr 16 Int) (a2 : List Int) : (Int × Int) → Option (Sum Int (Int × Int)) := fun s1 => (if (decide (s1.2 < (List.length a2 : Int))) = true then (if 0 ≤ s1.2 ∧ s1.2 < (List.length a2 : Int) then (if 0 ≤ (bAnd .u32 (bXor .u32 s1.1 (IntKind.u32.wrap (ix a2 s1.2))) 15) ∧ (bAnd .u32 (bXor .u32 s1.1 (IntKind.u32.wrap (ix a2 s1.2))) 15) < 16 then (if 0 ≤ (bAnd .u32 (bXor .u32 (shR .u32 (bXor .u32 s1.1 (IntKind.u32.wrap (ix a2 s1.2))) 4) (Arr.get a0 (bAnd .u32 (bXor .u32 s1.1 (IntKind.u32.wrap (ix a2 s1.2))) 15))) 15) ∧ (bAnd .u32 (bXor .u32 (shR .u32 (bXor .u32 s1.1 (IntKind.u32.wrap (ix a2 s1.2))) 4) (Arr.get a0 (bAnd .u32 (bXor .u32 s1.1 (IntKind.u32.wrap (ix a2 s1.2))) 15))) 15) < 16 then some (Sum.inr ((bXor .u32 (shR .u32 (bXor .u32 (shR .u32 (bXor .u32 s1.1 (IntKind.u32.wrap (ix a2 s1.2))) 4) (Arr.get a0 (bAnd .u32 (bXor .u32 s1.1 (IntKind.u32.wrap (ix a2 s1.2))) 15))) 4) (Arr.get a0 (bAnd .u32 (bXor .u32 (shR .u32 (bXor .u32 s1.1 (IntKind.u32.wrap (ix a2 s1.2))) 4) (Arr.get a0 (bAnd .u32 (bXor .u32 s1.1 (IntKind.u32.wrap (ix a2 s1.2))) 15))) 15))), (IntKind.i64.wrap (s1.2 + 1)))) else none) else none) else none) else some (Sum.inl (s1.1)))
def crc_register.f (fu : Nat) (a0 : Arr 16 Int) (a1 : Int) (a2 : List Int) : Option Int := ((loopM (crc_register.s0 fu a0 a2) fu (a1, 0)).bind fun e2 => some (e2))
set_option maxRecDepth 100000 in
set_option maxHeartbeats 400000 in
theorem crc_register.ok (fu : Nat) (w : World) (a0 : Arr 16 Int) (G_0 : Nat) (b_0 : Blk w G_0 158 [Kd.seg (kA 16 (kI .u32)) a0]) (a1 : Int) (a2 : List Int) (V2_0 : Value) (R2_0 : Rd (kI .u8) w V2_0 a2) (r : Int) (h : crc_register.f fu a0 a1 a2 = some r) :
    Calls Try.prog 130 (([.pointer (some ⟨G_0, 0, none⟩), .int .u32 a1, V2_0] : List Value).toArray) w (fun e w' => ∃ v, e = .returned v ∧ v = .int .u32 r ∧ Gr w w') := by
  unfold crc_register.f at h
  have fB : Gr w w := Fr.refl _ _
  refine calls_cw Try.func130 rfl Try.ntmps130 rfl ?_
  refine cw_seq ?_
  refine cw_region ?_
  refine ol_val (v := .int .u32 0) (by exact xr_assign rfl rfl) rfl rfl rfl ?_
  refine ol_nil ?_
  refine cw_seq ?_
  refine cw_seq ?_
  refine cw_region ?_
  refine ol_val (v := V2_0) (by exact xr_move rfl rfl) rfl rfl rfl ?_
  refine ol_val (v := .int .i64 (List.length a2 : Int)) (by exact xr_lenR rfl Try.underlying22 rfl (R2_0.gr fB)) rfl rfl rfl ?_
  refine ol_val (v := .int .i64 0) (by exact xr_move rfl rfl) rfl rfl rfl ?_
  refine ol_nil ?_
  obtain ⟨e2, l3, h4⟩ := bs h
  refine cw_mid (fun ρ' w' => ρ' 1 = .int .u32 e2 ∧ Blk w' G_0 158 [Kd.seg (kA 16 (kI .u32)) a0] ∧ Gr w w') ?_ ?_
  · refine cw_block ?_
    refine cw_round (fun (s1 : Int × Int) ρ' w' => ρ' 0 = .pointer (some ⟨G_0, 0, none⟩) ∧ ρ' 1 = .int .u32 s1.1 ∧ ρ' 9 = V2_0 ∧ ρ' 10 = .int .i64 (List.length a2 : Int) ∧ ρ' 11 = .int .i64 s1.2 ∧ Blk w' G_0 158 [Kd.seg (kA 16 (kI .u32)) a0] ∧ Gr w w') l3 ?_ ?_
    · skip
      exact ⟨rfl, rfl, rfl, rfl, rfl, b_0, fB⟩
    · rintro s1 x7 ρ5 w6 ⟨e0, e1, e9, e10, e11, b_0, fB⟩ h
      unfold crc_register.s0 at h
      refine cw_seq ?_
      refine cw_region ?_
      refine ol_val (v := .bool (decide (s1.2 < (List.length a2 : Int)))) (by exact xr_lss rfl e11 e10) rfl rfl rfl ?_
      refine ol_nil ?_
      refine cw_seq ?_
      rcases is h with ⟨c8, h⟩ | ⟨c8, h⟩
      · refine cw_condT rfl c8 ?_
        refine cw_skip ?_
        refine cw_seq ?_
        refine cw_block ?_
        refine cw_seq ?_
        refine cw_region ?_
        obtain ⟨g9, h⟩ := gs h
        refine ol_val (v := .pointer (some ⟨(sb V2_0), so V2_0 + Int.toNat s1.2 * 1, none⟩)) (by exact xr_indexR (K := (kI .u8)) (v := V2_0) rfl Try.underlying22 sz5 e9 (R2_0.gr fB) e11 g9.1 g9.2) rfl rfl rfl ?_
        refine ol_val (v := .int .u8 (ix a2 s1.2)) (by exact xr_load1 (v := .int .u8 (ix a2 s1.2)) rfl ag5 rfl ((R2_0.gr fB).elem g9.1 g9.2)) rfl rfl rfl ?_
        refine ol_val (v := .int .u8 (ix a2 s1.2)) (by exact xr_assign rfl rfl) rfl rfl rfl ?_
        refine ol_nil ?_
        refine cw_seq ?_
        refine cw_region ?_
        refine ol_val (v := .int .u32 s1.1) (by exact xr_move rfl e1) rfl rfl rfl ?_
        refine ol_val (v := .int .u8 (ix a2 s1.2)) (by exact xr_move rfl rfl) rfl rfl rfl ?_
        refine ol_val (v := .int .u32 (IntKind.u32.wrap (ix a2 s1.2))) (by exact xr_conv rfl Try.underlying5 Try.underlying36 rfl) rfl rfl rfl ?_
        refine ol_val (v := .int .u32 (bXor .u32 s1.1 (IntKind.u32.wrap (ix a2 s1.2)))) (by exact xr_xor rfl rfl rfl) rfl rfl rfl ?_
        refine ol_val (v := .int .u32 (bXor .u32 s1.1 (IntKind.u32.wrap (ix a2 s1.2)))) (by exact xr_assign rfl rfl) rfl rfl rfl ?_
        refine ol_nil ?_
        refine cw_seq ?_
        refine cw_region ?_
        refine ol_val (v := .int .u32 (bXor .u32 s1.1 (IntKind.u32.wrap (ix a2 s1.2)))) (by exact xr_move rfl rfl) rfl rfl rfl ?_
        refine ol_val (v := .int .u32 (shR .u32 (bXor .u32 s1.1 (IntKind.u32.wrap (ix a2 s1.2))) 4)) (by exact xr_shr rfl rfl rfl (by decide)) rfl rfl rfl ?_
        refine ol_val (v := .pointer (some ⟨G_0, 0, none⟩)) (by exact xr_move rfl e0) rfl rfl rfl ?_
        refine ol_val (v := .int .u32 (bXor .u32 s1.1 (IntKind.u32.wrap (ix a2 s1.2)))) (by exact xr_move rfl rfl) rfl rfl rfl ?_
        refine ol_val (v := .int .u32 (bAnd .u32 (bXor .u32 s1.1 (IntKind.u32.wrap (ix a2 s1.2))) 15)) (by exact xr_and rfl rfl rfl) rfl rfl rfl ?_
        refine ol_val (v := .pointer (some ⟨G_0, 0, none⟩)) (by exact xr_nilCheck rfl rfl) rfl rfl rfl ?_
        obtain ⟨g10, h⟩ := gs h
        refine ol_val (v := .pointer (some ⟨G_0, 0 + Int.toNat (bAnd .u32 (bXor .u32 s1.1 (IntKind.u32.wrap (ix a2 s1.2))) 15) * 1, none⟩)) (by exact xr_indexA (p := 0) (s := 1) rfl Try.underlying158 sz36 rfl rfl g10.1 g10.2) rfl rfl rfl ?_
        refine ol_val (v := .int .u32 (Arr.get a0 (bAnd .u32 (bXor .u32 s1.1 (IntKind.u32.wrap (ix a2 s1.2))) 15))) (by exact xr_load1 (v := .int .u32 (Arr.get a0 (bAnd .u32 (bXor .u32 s1.1 (IntKind.u32.wrap (ix a2 s1.2))) 15))) rfl ag36 rfl (At.arr (a := a0) (b_0.seg 0 rfl rfl) g10.1 g10.2)) rfl rfl rfl ?_
        refine ol_val (v := .int .u32 (bXor .u32 (shR .u32 (bXor .u32 s1.1 (IntKind.u32.wrap (ix a2 s1.2))) 4) (Arr.get a0 (bAnd .u32 (bXor .u32 s1.1 (IntKind.u32.wrap (ix a2 s1.2))) 15)))) (by exact xr_xor rfl rfl rfl) rfl rfl rfl ?_
        refine ol_val (v := .int .u32 (bXor .u32 (shR .u32 (bXor .u32 s1.1 (IntKind.u32.wrap (ix a2 s1.2))) 4) (Arr.get a0 (bAnd .u32 (bXor .u32 s1.1 (IntKind.u32.wrap (ix a2 s1.2))) 15)))) (by exact xr_assign rfl rfl) rfl rfl rfl ?_
        refine ol_nil ?_
        refine cw_region ?_
        refine ol_val (v := .int .u32 (bXor .u32 (shR .u32 (bXor .u32 s1.1 (IntKind.u32.wrap (ix a2 s1.2))) 4) (Arr.get a0 (bAnd .u32 (bXor .u32 s1.1 (IntKind.u32.wrap (ix a2 s1.2))) 15)))) (by exact xr_move rfl rfl) rfl rfl rfl ?_
        refine ol_val (v := .int .u32 (shR .u32 (bXor .u32 (shR .u32 (bXor .u32 s1.1 (IntKind.u32.wrap (ix a2 s1.2))) 4) (Arr.get a0 (bAnd .u32 (bXor .u32 s1.1 (IntKind.u32.wrap (ix a2 s1.2))) 15))) 4)) (by exact xr_shr rfl rfl rfl (by decide)) rfl rfl rfl ?_
        refine ol_val (v := .pointer (some ⟨G_0, 0, none⟩)) (by exact xr_move rfl e0) rfl rfl rfl ?_
        refine ol_val (v := .int .u32 (bXor .u32 (shR .u32 (bXor .u32 s1.1 (IntKind.u32.wrap (ix a2 s1.2))) 4) (Arr.get a0 (bAnd .u32 (bXor .u32 s1.1 (IntKind.u32.wrap (ix a2 s1.2))) 15)))) (by exact xr_move rfl rfl) rfl rfl rfl ?_
        refine ol_val (v := .int .u32 (bAnd .u32 (bXor .u32 (shR .u32 (bXor .u32 s1.1 (IntKind.u32.wrap (ix a2 s1.2))) 4) (Arr.get a0 (bAnd .u32 (bXor .u32 s1.1 (IntKind.u32.wrap (ix a2 s1.2))) 15))) 15)) (by exact xr_and rfl rfl rfl) rfl rfl rfl ?_
        refine ol_val (v := .pointer (some ⟨G_0, 0, none⟩)) (by exact xr_nilCheck rfl rfl) rfl rfl rfl ?_
        obtain ⟨g11, h⟩ := gs h
        refine ol_val (v := .pointer (some ⟨G_0, 0 + Int.toNat (bAnd .u32 (bXor .u32 (shR .u32 (bXor .u32 s1.1 (IntKind.u32.wrap (ix a2 s1.2))) 4) (Arr.get a0 (bAnd .u32 (bXor .u32 s1.1 (IntKind.u32.wrap (ix a2 s1.2))) 15))) 15) * 1, none⟩)) (by exact xr_indexA (p := 0) (s := 1) rfl Try.underlying158 sz36 rfl rfl g11.1 g11.2) rfl rfl rfl ?_
        refine ol_val (v := .int .u32 (Arr.get a0 (bAnd .u32 (bXor .u32 (shR .u32 (bXor .u32 s1.1 (IntKind.u32.wrap (ix a2 s1.2))) 4) (Arr.get a0 (bAnd .u32 (bXor .u32 s1.1 (IntKind.u32.wrap (ix a2 s1.2))) 15))) 15))) (by exact xr_load1 (v := .int .u32 (Arr.get a0 (bAnd .u32 (bXor .u32 (shR .u32 (bXor .u32 s1.1 (IntKind.u32.wrap (ix a2 s1.2))) 4) (Arr.get a0 (bAnd .u32 (bXor .u32 s1.1 (IntKind.u32.wrap (ix a2 s1.2))) 15))) 15))) rfl ag36 rfl (At.arr (a := a0) (b_0.seg 0 rfl rfl) g11.1 g11.2)) rfl rfl rfl ?_
        refine ol_val (v := .int .u32 (bXor .u32 (shR .u32 (bXor .u32 (shR .u32 (bXor .u32 s1.1 (IntKind.u32.wrap (ix a2 s1.2))) 4) (Arr.get a0 (bAnd .u32 (bXor .u32 s1.1 (IntKind.u32.wrap (ix a2 s1.2))) 15))) 4) (Arr.get a0 (bAnd .u32 (bXor .u32 (shR .u32 (bXor .u32 s1.1 (IntKind.u32.wrap (ix a2 s1.2))) 4) (Arr.get a0 (bAnd .u32 (bXor .u32 s1.1 (IntKind.u32.wrap (ix a2 s1.2))) 15))) 15)))) (by exact xr_xor rfl rfl rfl) rfl rfl rfl ?_
        refine ol_val (v := .int .u32 (bXor .u32 (shR .u32 (bXor .u32 (shR .u32 (bXor .u32 s1.1 (IntKind.u32.wrap (ix a2 s1.2))) 4) (Arr.get a0 (bAnd .u32 (bXor .u32 s1.1 (IntKind.u32.wrap (ix a2 s1.2))) 15))) 4) (Arr.get a0 (bAnd .u32 (bXor .u32 (shR .u32 (bXor .u32 s1.1 (IntKind.u32.wrap (ix a2 s1.2))) 4) (Arr.get a0 (bAnd .u32 (bXor .u32 s1.1 (IntKind.u32.wrap (ix a2 s1.2))) 15))) 15)))) (by exact xr_assign rfl rfl) rfl rfl rfl ?_
        refine ol_nil ?_
        refine blk_i ?_
        refine cw_region ?_
        refine ol_val (v := .int .i64 (IntKind.i64.wrap (s1.2 + 1))) (by exact xr_add rfl e11 rfl) rfl rfl rfl ?_
        refine ol_val (v := .int .i64 (IntKind.i64.wrap (s1.2 + 1))) (by exact xr_move rfl rfl) rfl rfl rfl ?_
        refine ol_nil ?_
        obtain rfl := Option.some.inj h
        refine lp_in ?_
        exact ⟨e0, rfl, e9, e10, rfl, b_0, fB⟩
      · refine cw_condF rfl c8 ?_
        refine cw_exit ?_
        repeat (first | with_reducible refine thn_e ?_ | with_reducible refine blk_e rfl ?_)
        obtain rfl := Option.some.inj h
        refine lp_exit ?_
        rintro rfl
        refine thn_x ?_
        exact ⟨e1, b_0, fB⟩
  · rintro ρ12 w13 ⟨e1, b_0, fB⟩
    have h := h4
    refine cw_seq ?_
    refine cw_region ?_
    refine ol_val (v := .int .u32 e2) (by exact xr_move rfl e1) rfl rfl rfl ?_
    refine ol_val (v := .int .u32 e2) (by exact xr_assign rfl rfl) rfl rfl rfl ?_
    refine ol_nil ?_
    refine cw_ret ?_
    repeat (first | with_reducible refine thn_r ?_ | with_reducible refine blk_r ?_)
    obtain rfl := Option.some.inj h
    refine fin_ret1 Try.results130 rfl ?_
    exact ⟨_, rfl, rfl, fB⟩
end Go.Proofs.Ytjhajfkfhdnciaa

/- rickyard/crc.Sum: its model, and that the Go function computes it: written by gen.py. -/
set_option linter.unusedVariables false
namespace Go.Proofs.Ytjhajfkfhdnciaa
open Go Go.Xw
def crc_Sum.s0 (fu : Nat) (a0 : List (List Int)) (t1 : (Arr 16 Int)) : (Int × Int) → Option (Sum Int (Int × Int)) := fun s13 => (if (decide (s13.2 < (List.length a0 : Int))) = true then (if 0 ≤ s13.2 ∧ s13.2 < (List.length a0 : Int) then ((crc_register.f fu t1 s13.1 (ix a0 s13.2) : Option Int).bind fun t23 => some (Sum.inr (t23, (IntKind.i64.wrap (s13.2 + 1))))) else none) else some (Sum.inl (s13.1)))
def crc_Sum.f (fu : Nat) (a0 : List (List Int)) : Option Int := ((crc_Table.f fu : Option (Arr 16 Int)).bind fun t1 => ((loopM (crc_Sum.s0 fu a0 t1) fu (4294967295, 0)).bind fun e14 => some ((bXor .u32 e14 4294967295))))
set_option maxRecDepth 100000 in
set_option maxHeartbeats 400000 in
theorem crc_Sum.ok (fu : Nat) (w : World) (a0 : List (List Int)) (V0_0 : Value) (R0_0 : Rds (kI .u8) w V0_0 a0) (r : Int) (h : crc_Sum.f fu a0 = some r) :
    Calls Try.prog 96 (([V0_0] : List Value).toArray) w (fun e w' => ∃ v, e = .returned v ∧ v = .int .u32 r ∧ Gr w w') := by
  unfold crc_Sum.f at h
  have fB : Gr w w := Fr.refl _ _
  refine calls_cw Try.func96 rfl Try.ntmps96 rfl ?_
  refine cw_seq ?_
  refine cw_region ?_
  refine ol_val (v := .int .u32 0) (by exact xr_assign rfl rfl) rfl rfl rfl ?_
  refine ol_nil ?_
  refine cw_seq ?_
  refine cw_region ?_
  obtain ⟨t1, k2, h⟩ := bs h
  refine ol_op (by exact opv_call rfl cal129 an (crc_Table.ok fu _ _ k2)) rfl rfl rfl ?_
  rintro _ w4 ⟨rfl, q3⟩
  have fB := fB.gr q3
  refine ol_op (by exact opv_alloc (ss := [Kd.seg (kA 16 (kI .u32)) (Arr.rep 16 (0 : Int))]) rfl ze158 rfl) rfl rfl rfl ?_
  rintro _ w10 ⟨G5, rfl, b6, q7, z8⟩
  have z8 := Nat.le_trans fB.size z8
  have fB := fB.gr q7
  refine ol_op0 (by exact opv_store (ss' := [Kd.seg (kA 16 (kI .u32)) t1]) (xs := cellsOf [Kd.seg (kA 16 (kI .u32)) t1]) rfl sz158 rfl rfl rfl (len_cellsOf _) (one_cellsOf _) b6 (Spl.segs _ 0 1 [Kd.seg (kA 16 (kI .u32)) t1] rfl rfl)) rfl rfl ?_
  rintro _ w12 ⟨b6, q11⟩
  have fB := fB.wr q11 z8
  refine ol_val (v := .int .u32 4294967295) (by exact xr_assign rfl rfl) rfl rfl rfl ?_
  refine ol_nil ?_
  refine cw_seq ?_
  refine cw_seq ?_
  refine cw_region ?_
  refine ol_val (v := V0_0) (by exact xr_move rfl rfl) rfl rfl rfl ?_
  refine ol_val (v := .int .i64 (List.length a0 : Int)) (by exact xr_lenRs rfl Try.underlying157 rfl (R0_0.gr fB)) rfl rfl rfl ?_
  refine ol_val (v := .int .i64 0) (by exact xr_move rfl rfl) rfl rfl rfl ?_
  refine ol_nil ?_
  obtain ⟨e14, l15, h16⟩ := bs h
  refine cw_mid (fun ρ' w' => ρ' 4 = .int .u32 e14 ∧ Gr w w') ?_ ?_
  · refine cw_block ?_
    refine cw_round (fun (s13 : Int × Int) ρ' w' => ρ' 3 = .pointer (some ⟨G5, 0, none⟩) ∧ ρ' 4 = .int .u32 s13.1 ∧ ρ' 8 = V0_0 ∧ ρ' 9 = .int .i64 (List.length a0 : Int) ∧ ρ' 10 = .int .i64 s13.2 ∧ Blk w' G5 158 [Kd.seg (kA 16 (kI .u32)) t1] ∧ Gr w w') l15 ?_ ?_
    · skip
      exact ⟨rfl, rfl, rfl, rfl, rfl, b6, fB⟩
    · rintro s13 x19 ρ17 w18 ⟨e3, e4, e8, e9, e10, b6, fB⟩ h
      unfold crc_Sum.s0 at h
      refine cw_seq ?_
      refine cw_region ?_
      refine ol_val (v := .bool (decide (s13.2 < (List.length a0 : Int)))) (by exact xr_lss rfl e10 e9) rfl rfl rfl ?_
      refine ol_nil ?_
      refine cw_seq ?_
      rcases is h with ⟨c20, h⟩ | ⟨c20, h⟩
      · refine cw_condT rfl c20 ?_
        refine cw_skip ?_
        refine cw_seq ?_
        refine cw_block ?_
        refine cw_seq ?_
        refine cw_region ?_
        obtain ⟨g21, h⟩ := gs h
        refine ol_val (v := .pointer (some ⟨(sb V0_0), so V0_0 + Int.toNat s13.2 * 1, none⟩)) (by exact xr_indexRs (v := V0_0) rfl Try.underlying157 sz22 e8 (R0_0.gr fB) e10 g21.1 g21.2) rfl rfl rfl ?_
        refine ol_val (v := inner w18 V0_0 s13.2) (by exact xr_load1 (v := inner w18 V0_0 s13.2) rfl ag22 rfl ((R0_0.gr fB).elem g21.1 g21.2).1) rfl rfl rfl ?_
        have r22 : Rd (kI .u8) w18 (inner w18 V0_0 s13.2) (ix a0 s13.2) := ((R0_0.gr fB).elem g21.1 g21.2).2
        refine ol_val (v := inner w18 V0_0 s13.2) (by exact xr_assign rfl rfl) rfl rfl rfl ?_
        refine ol_nil ?_
        refine cw_region ?_
        refine ol_val (v := .int .u32 s13.1) (by exact xr_move rfl e4) rfl rfl rfl ?_
        refine ol_val (v := inner w18 V0_0 s13.2) (by exact xr_move rfl rfl) rfl rfl rfl ?_
        obtain ⟨t23, k24, h⟩ := bs h
        refine ol_op (by exact opv_call rfl cal130 (ac e3 (ac rfl (ac rfl an))) (crc_register.ok fu _ t1 G5 b6 s13.1 (ix a0 s13.2) (inner w18 V0_0 s13.2) (r22) _ k24)) rfl rfl rfl ?_
        rintro _ w26 ⟨rfl, q25⟩
        have b6 := b6.gr q25
        have fB := fB.gr q25
        refine ol_val (v := .int .u32 t23) (by exact xr_assign rfl rfl) rfl rfl rfl ?_
        refine ol_nil ?_
        refine blk_i ?_
        refine cw_region ?_
        refine ol_val (v := .int .i64 (IntKind.i64.wrap (s13.2 + 1))) (by exact xr_add rfl e10 rfl) rfl rfl rfl ?_
        refine ol_val (v := .int .i64 (IntKind.i64.wrap (s13.2 + 1))) (by exact xr_move rfl rfl) rfl rfl rfl ?_
        refine ol_nil ?_
        obtain rfl := Option.some.inj h
        refine lp_in ?_
        exact ⟨e3, rfl, e8, e9, rfl, b6, fB⟩
      · refine cw_condF rfl c20 ?_
        refine cw_exit ?_
        repeat (first | with_reducible refine thn_e ?_ | with_reducible refine blk_e rfl ?_)
        obtain rfl := Option.some.inj h
        refine lp_exit ?_
        rintro rfl
        refine thn_x ?_
        exact ⟨e4, fB⟩
  · rintro ρ27 w28 ⟨e4, fB⟩
    have h := h16
    refine cw_seq ?_
    refine cw_region ?_
    refine ol_val (v := .int .u32 e14) (by exact xr_move rfl e4) rfl rfl rfl ?_
    refine ol_val (v := .int .u32 (bXor .u32 e14 4294967295)) (by exact xr_xor rfl rfl rfl) rfl rfl rfl ?_
    refine ol_val (v := .int .u32 (bXor .u32 e14 4294967295)) (by exact xr_assign rfl rfl) rfl rfl rfl ?_
    refine ol_nil ?_
    refine cw_ret ?_
    repeat (first | with_reducible refine thn_r ?_ | with_reducible refine blk_r ?_)
    obtain rfl := Option.some.inj h
    refine fin_ret1 Try.results96 rfl ?_
    exact ⟨_, rfl, rfl, fB⟩
end Go.Proofs.Ytjhajfkfhdnciaa

/- rickyard/block.Seal: its model, and that the Go function computes it: written by gen.py. -/
set_option linter.unusedVariables false
namespace Go.Proofs.Ytjhajfkfhdnciaa
open Go Go.Xw
def block_Seal.f (fu : Nat) (a0 : Int) (a1 : Int) (a2 : List Int) : Option ((List Int) × Bool) := (if (if (decide (a0 < 1)) = true then true else (if (decide (a0 ≥ 256)) = true then true else (if (decide (a1 < 0)) = true then true else (if (decide (a1 ≥ 256)) = true then true else (decide ((List.length a2 : Int) > 56)))))) = true then some ([], false) else (if (4 : Int) < (List.length (List.replicate (Int.toNat 64) (0 : Int)) : Int) then (if (5 : Int) < (List.length (List.set (List.replicate (Int.toNat 64) (0 : Int)) (Int.toNat 4) (IntKind.u8.wrap a0)) : Int) then (if (8 : Int) ≤ (List.length (List.set (List.set (List.replicate (Int.toNat 64) (0 : Int)) (Int.toNat 4) (IntKind.u8.wrap a0)) (Int.toNat 5) (IntKind.u8.wrap a1)) : Int) then (if Int.toNat 8 ≤ List.length (List.set (List.set (List.replicate (Int.toNat 64) (0 : Int)) (Int.toNat 4) (IntKind.u8.wrap a0)) (Int.toNat 5) (IntKind.u8.wrap a1)) ∧ List.length (List.set (List.set (List.replicate (Int.toNat 64) (0 : Int)) (Int.toNat 4) (IntKind.u8.wrap a0)) (Int.toNat 5) (IntKind.u8.wrap a1)) ≤ List.length (List.set (List.set (List.replicate (Int.toNat 64) (0 : Int)) (Int.toNat 4) (IntKind.u8.wrap a0)) (Int.toNat 5) (IntKind.u8.wrap a1)) then (if (4 : Int) ≤ (List.length (splL (List.set (List.set (List.replicate (Int.toNat 64) (0 : Int)) (Int.toNat 4) (IntKind.u8.wrap a0)) (Int.toNat 5) (IntKind.u8.wrap a1)) (Int.toNat 8) (List.take (List.length (List.set (List.set (List.replicate (Int.toNat 64) (0 : Int)) (Int.toNat 4) (IntKind.u8.wrap a0)) (Int.toNat 5) (IntKind.u8.wrap a1)) - Int.toNat 8) a2)) : Int) then ((crc_Sum.f fu [(cut (splL (List.set (List.set (List.replicate (Int.toNat 64) (0 : Int)) (Int.toNat 4) (IntKind.u8.wrap a0)) (Int.toNat 5) (IntKind.u8.wrap a1)) (Int.toNat 8) (List.take (List.length (List.set (List.set (List.replicate (Int.toNat 64) (0 : Int)) (Int.toNat 4) (IntKind.u8.wrap a0)) (Int.toNat 5) (IntKind.u8.wrap a1)) - Int.toNat 8) a2)) 4 (List.length (splL (List.set (List.set (List.replicate (Int.toNat 64) (0 : Int)) (Int.toNat 4) (IntKind.u8.wrap a0)) (Int.toNat 5) (IntKind.u8.wrap a1)) (Int.toNat 8) (List.take (List.length (List.set (List.set (List.replicate (Int.toNat 64) (0 : Int)) (Int.toNat 4) (IntKind.u8.wrap a0)) (Int.toNat 5) (IntKind.u8.wrap a1)) - Int.toNat 8) a2)) : Int))] : Option Int).bind fun t36 => ((octet_Lay.f fu (IntKind.u64.wrap t36) 4 : Option (List Int)).bind fun t40 => some ((splL (splL (List.set (List.set (List.replicate (Int.toNat 64) (0 : Int)) (Int.toNat 4) (IntKind.u8.wrap a0)) (Int.toNat 5) (IntKind.u8.wrap a1)) (Int.toNat 8) (List.take (List.length (List.set (List.set (List.replicate (Int.toNat 64) (0 : Int)) (Int.toNat 4) (IntKind.u8.wrap a0)) (Int.toNat 5) (IntKind.u8.wrap a1)) - Int.toNat 8) a2)) 0 (List.take (List.length (splL (List.set (List.set (List.replicate (Int.toNat 64) (0 : Int)) (Int.toNat 4) (IntKind.u8.wrap a0)) (Int.toNat 5) (IntKind.u8.wrap a1)) (Int.toNat 8) (List.take (List.length (List.set (List.set (List.replicate (Int.toNat 64) (0 : Int)) (Int.toNat 4) (IntKind.u8.wrap a0)) (Int.toNat 5) (IntKind.u8.wrap a1)) - Int.toNat 8) a2))) t40)), true))) else none) else none) else none) else none) else none))
set_option maxRecDepth 100000 in
set_option maxHeartbeats 400000 in
theorem block_Seal.ok (fu : Nat) (w : World) (a0 : Int) (a1 : Int) (a2 : List Int) (V2_0 : Value) (R2_0 : Rd (kI .u8) w V2_0 a2) (r : (List Int) × Bool) (h : block_Seal.f fu a0 a1 a2 = some r) :
    Calls Try.prog 28 (([.int .i64 a0, .int .i64 a1, V2_0] : List Value).toArray) w (fun e w' => ∃ v, e = .returned v ∧ ∃ u1 : Value, ∃ o2 : Own (kI .u8) 5 w' w.heap.size u1 r.1, v = .tuple #[u1, .bool r.2] ∧ Gr w w') := by
  unfold block_Seal.f at h
  have fB : Gr w w := Fr.refl _ _
  refine calls_cw Try.func28 rfl Try.ntmps28 rfl ?_
  refine cw_seq ?_
  refine cw_region ?_
  refine ol_val (v := .slice none 0 0) (by exact xr_assign rfl rfl) rfl rfl rfl ?_
  refine ol_val (v := .bool false) (by exact xr_assign rfl rfl) rfl rfl rfl ?_
  refine ol_nil ?_
  refine cw_seq ?_
  refine cw_seq ?_
  refine cw_mid (fun ρ' w' => ρ' 0 = .int .i64 a0 ∧ ρ' 1 = .int .i64 a1 ∧ ρ' 2 = V2_0 ∧ ρ' 27 = .bool (if (decide (a0 < 1)) = true then true else (if (decide (a0 ≥ 256)) = true then true else (if (decide (a1 < 0)) = true then true else (if (decide (a1 ≥ 256)) = true then true else (decide ((List.length a2 : Int) > 56)))))) ∧ w = w') ?_ ?_
  · skip
    refine cw_region ?_
    refine ol_val (v := .int .i64 a0) (by exact xr_move rfl rfl) rfl rfl rfl ?_
    refine ol_val (v := .bool (decide (a0 < 1))) (by exact xr_lss rfl rfl rfl) rfl rfl rfl ?_
    refine ol_val (v := .bool (decide (a0 < 1))) (by exact xr_move rfl rfl) rfl rfl rfl ?_
    rcases bt (decide (a0 < 1)) with c4 | c4
    · skip
      refine ol_gskip rfl rfl rfl rfl rfl c4 ?_
      refine ol_gskip rfl rfl rfl rfl rfl c4 ?_
      refine ol_val (v := .bool true) (by exact xr_pickT rfl rfl c4 rfl) rfl rfl rfl ?_
      refine ol_val (v := .bool true) (by exact xr_move rfl rfl) rfl rfl rfl ?_
      refine ol_gskip rfl rfl rfl rfl rfl rfl ?_
      refine ol_gskip rfl rfl rfl rfl rfl rfl ?_
      refine ol_val (v := .bool true) (by exact xr_pickT rfl rfl rfl rfl) rfl rfl rfl ?_
      refine ol_val (v := .bool true) (by exact xr_move rfl rfl) rfl rfl rfl ?_
      refine ol_gskip rfl rfl rfl rfl rfl rfl ?_
      refine ol_gskip rfl rfl rfl rfl rfl rfl ?_
      refine ol_val (v := .bool true) (by exact xr_pickT rfl rfl rfl rfl) rfl rfl rfl ?_
      refine ol_val (v := .bool true) (by exact xr_move rfl rfl) rfl rfl rfl ?_
      refine ol_gskip rfl rfl rfl rfl rfl rfl ?_
      refine ol_gskip rfl rfl rfl rfl rfl rfl ?_
      refine ol_gskip rfl rfl rfl rfl rfl rfl ?_
      refine ol_val (v := .bool true) (by exact xr_pickT rfl rfl rfl rfl) rfl rfl rfl ?_
      refine ol_nil ?_
      refine thn_i ?_
      exact ⟨rfl, rfl, rfl, (rfl).trans (congrArg (fun z => (.bool z : Value)) (show true = (if (decide (a0 < 1)) = true then true else (if (decide (a0 ≥ 256)) = true then true else (if (decide (a1 < 0)) = true then true else (if (decide (a1 ≥ 256)) = true then true else (decide ((List.length a2 : Int) > 56)))))) from by rw [ite_t c4])), rfl⟩
    · skip
      refine ol_gval (v := .int .i64 a0) (by exact xr_move rfl rfl) rfl rfl rfl rfl rfl c4 ?_
      refine ol_gval (v := .bool (decide (a0 ≥ 256))) (by exact xr_geq rfl rfl rfl) rfl rfl rfl rfl rfl c4 ?_
      refine ol_val (v := .bool (decide (a0 ≥ 256))) (by exact xr_pickF rfl rfl c4 rfl) rfl rfl rfl ?_
      refine ol_val (v := .bool (decide (a0 ≥ 256))) (by exact xr_move rfl rfl) rfl rfl rfl ?_
      rcases bt (decide (a0 ≥ 256)) with c5 | c5
      · skip
        refine ol_gskip rfl rfl rfl rfl rfl c5 ?_
        refine ol_gskip rfl rfl rfl rfl rfl c5 ?_
        refine ol_val (v := .bool true) (by exact xr_pickT rfl rfl c5 rfl) rfl rfl rfl ?_
        refine ol_val (v := .bool true) (by exact xr_move rfl rfl) rfl rfl rfl ?_
        refine ol_gskip rfl rfl rfl rfl rfl rfl ?_
        refine ol_gskip rfl rfl rfl rfl rfl rfl ?_
        refine ol_val (v := .bool true) (by exact xr_pickT rfl rfl rfl rfl) rfl rfl rfl ?_
        refine ol_val (v := .bool true) (by exact xr_move rfl rfl) rfl rfl rfl ?_
        refine ol_gskip rfl rfl rfl rfl rfl rfl ?_
        refine ol_gskip rfl rfl rfl rfl rfl rfl ?_
        refine ol_gskip rfl rfl rfl rfl rfl rfl ?_
        refine ol_val (v := .bool true) (by exact xr_pickT rfl rfl rfl rfl) rfl rfl rfl ?_
        refine ol_nil ?_
        refine thn_i ?_
        exact ⟨rfl, rfl, rfl, (rfl).trans (congrArg (fun z => (.bool z : Value)) (show true = (if (decide (a0 < 1)) = true then true else (if (decide (a0 ≥ 256)) = true then true else (if (decide (a1 < 0)) = true then true else (if (decide (a1 ≥ 256)) = true then true else (decide ((List.length a2 : Int) > 56)))))) from by rw [ite_f c4, ite_t c5])), rfl⟩
      · skip
        refine ol_gval (v := .int .i64 a1) (by exact xr_move rfl rfl) rfl rfl rfl rfl rfl c5 ?_
        refine ol_gval (v := .bool (decide (a1 < 0))) (by exact xr_lss rfl rfl rfl) rfl rfl rfl rfl rfl c5 ?_
        refine ol_val (v := .bool (decide (a1 < 0))) (by exact xr_pickF rfl rfl c5 rfl) rfl rfl rfl ?_
        refine ol_val (v := .bool (decide (a1 < 0))) (by exact xr_move rfl rfl) rfl rfl rfl ?_
        rcases bt (decide (a1 < 0)) with c6 | c6
        · skip
          refine ol_gskip rfl rfl rfl rfl rfl c6 ?_
          refine ol_gskip rfl rfl rfl rfl rfl c6 ?_
          refine ol_val (v := .bool true) (by exact xr_pickT rfl rfl c6 rfl) rfl rfl rfl ?_
          refine ol_val (v := .bool true) (by exact xr_move rfl rfl) rfl rfl rfl ?_
          refine ol_gskip rfl rfl rfl rfl rfl rfl ?_
          refine ol_gskip rfl rfl rfl rfl rfl rfl ?_
          refine ol_gskip rfl rfl rfl rfl rfl rfl ?_
          refine ol_val (v := .bool true) (by exact xr_pickT rfl rfl rfl rfl) rfl rfl rfl ?_
          refine ol_nil ?_
          refine thn_i ?_
          exact ⟨rfl, rfl, rfl, (rfl).trans (congrArg (fun z => (.bool z : Value)) (show true = (if (decide (a0 < 1)) = true then true else (if (decide (a0 ≥ 256)) = true then true else (if (decide (a1 < 0)) = true then true else (if (decide (a1 ≥ 256)) = true then true else (decide ((List.length a2 : Int) > 56)))))) from by rw [ite_f c4, ite_f c5, ite_t c6])), rfl⟩
        · skip
          refine ol_gval (v := .int .i64 a1) (by exact xr_move rfl rfl) rfl rfl rfl rfl rfl c6 ?_
          refine ol_gval (v := .bool (decide (a1 ≥ 256))) (by exact xr_geq rfl rfl rfl) rfl rfl rfl rfl rfl c6 ?_
          refine ol_val (v := .bool (decide (a1 ≥ 256))) (by exact xr_pickF rfl rfl c6 rfl) rfl rfl rfl ?_
          refine ol_val (v := .bool (decide (a1 ≥ 256))) (by exact xr_move rfl rfl) rfl rfl rfl ?_
          rcases bt (decide (a1 ≥ 256)) with c7 | c7
          · skip
            refine ol_gskip rfl rfl rfl rfl rfl c7 ?_
            refine ol_gskip rfl rfl rfl rfl rfl c7 ?_
            refine ol_gskip rfl rfl rfl rfl rfl c7 ?_
            refine ol_val (v := .bool true) (by exact xr_pickT rfl rfl c7 rfl) rfl rfl rfl ?_
            refine ol_nil ?_
            refine thn_i ?_
            exact ⟨rfl, rfl, rfl, (rfl).trans (congrArg (fun z => (.bool z : Value)) (show true = (if (decide (a0 < 1)) = true then true else (if (decide (a0 ≥ 256)) = true then true else (if (decide (a1 < 0)) = true then true else (if (decide (a1 ≥ 256)) = true then true else (decide ((List.length a2 : Int) > 56)))))) from by rw [ite_f c4, ite_f c5, ite_f c6, ite_t c7])), rfl⟩
          · skip
            refine ol_gval (v := V2_0) (by exact xr_move rfl rfl) rfl rfl rfl rfl rfl c7 ?_
            refine ol_gval (v := .int .i64 (List.length a2 : Int)) (by exact xr_lenR rfl Try.underlying22 rfl (R2_0.gr fB)) rfl rfl rfl rfl rfl c7 ?_
            refine ol_gval (v := .bool (decide ((List.length a2 : Int) > 56))) (by exact xr_gtr rfl rfl rfl) rfl rfl rfl rfl rfl c7 ?_
            refine ol_val (v := .bool (decide ((List.length a2 : Int) > 56))) (by exact xr_pickF rfl rfl c7 rfl) rfl rfl rfl ?_
            refine ol_nil ?_
            refine thn_i ?_
            exact ⟨rfl, rfl, rfl, (rfl).trans (congrArg (fun z => (.bool z : Value)) (show (decide ((List.length a2 : Int) > 56)) = (if (decide (a0 < 1)) = true then true else (if (decide (a0 ≥ 256)) = true then true else (if (decide (a1 < 0)) = true then true else (if (decide (a1 ≥ 256)) = true then true else (decide ((List.length a2 : Int) > 56)))))) from by rw [ite_f c4, ite_f c5, ite_f c6, ite_f c7])), rfl⟩
  · skip
    rintro ρ8 _ ⟨e0, e1, e2, e27, rfl⟩
    rcases is h with ⟨c9, h⟩ | ⟨c9, h⟩
    · refine cw_condT e27 c9 ?_
      refine cw_seq ?_
      refine cw_region ?_
      refine ol_val (v := .slice none 0 0) (by exact xr_assign rfl rfl) rfl rfl rfl ?_
      refine ol_val (v := .bool false) (by exact xr_assign rfl rfl) rfl rfl rfl ?_
      refine ol_nil ?_
      refine cw_ret ?_
      repeat (first | with_reducible refine thn_r ?_ | with_reducible refine blk_r ?_)
      obtain rfl := Option.some.inj h
      refine fin_ret2 Try.results28 rfl rfl ?_
      exact ⟨_, rfl, (.slice none 0 0), Own.nil _ _ _ _, rfl, fB⟩
    · refine cw_condF e27 c9 ?_
      refine cw_skip ?_
      refine cw_seq ?_
      refine cw_region ?_
      refine ol_op (by exact opv_make (K := (kI .u8)) (z := (0 : Int)) rfl Try.underlying22 el5 rfl rfl rfl (by decide) (by decide) rfl fB.size) rfl rfl rfl ?_
      rintro v10 w15 ⟨o12, q11, z13⟩
      have fB := fB.gr q11
      refine ol_val (v := v10) (by exact xr_assign rfl rfl) rfl rfl rfl ?_
      refine ol_nil ?_
      refine cw_seq ?_
      refine cw_region ?_
      refine ol_val (v := v10) (by exact xr_move rfl rfl) rfl rfl rfl ?_
      refine ol_val (v := v10) (by exact xr_move rfl rfl) rfl rfl rfl ?_
      refine ol_val (v := .int .i64 a0) (by exact xr_move rfl e0) rfl rfl rfl ?_
      refine ol_val (v := .int .u8 (IntKind.u8.wrap a0)) (by exact xr_conv rfl Try.underlying3 Try.underlying5 rfl) rfl rfl rfl ?_
      refine ol_val (v := .int .i64 a1) (by exact xr_move rfl e1) rfl rfl rfl ?_
      refine ol_val (v := .int .u8 (IntKind.u8.wrap a1)) (by exact xr_conv rfl Try.underlying3 Try.underlying5 rfl) rfl rfl rfl ?_
      obtain ⟨g16, h⟩ := gs h
      refine ol_val (v := .pointer (some ⟨(sb v10), so v10 + Int.toNat 4 * 1, none⟩)) (by exact xr_indexR (K := (kI .u8)) (v := v10) rfl Try.underlying22 sz5 rfl o12.rd rfl (by decide) g16) rfl rfl rfl ?_
      have f18 := o12.geO
      refine ol_op0 (by exact opv_storeRow (z := (IntKind.u8.wrap a0)) (xs := cellsOf [Seg.cell (.int .u8 (IntKind.u8.wrap a0))]) rfl sz5 rfl rfl rfl (len_cellsOf _) (one_cellsOf _) o12 (by decide) g16 (Spl.whole ((Kd.len _ _).trans (Kd.len _ _).symm)) rfl) rfl rfl ?_
      rintro _ w19 ⟨o12, q17⟩
      have fB := fB.wrO q17 f18
      obtain ⟨g20, h⟩ := gs h
      refine ol_val (v := .pointer (some ⟨(sb v10), so v10 + Int.toNat 5 * 1, none⟩)) (by exact xr_indexR (K := (kI .u8)) (v := v10) rfl Try.underlying22 sz5 rfl o12.rd rfl (by decide) g20) rfl rfl rfl ?_
      have f22 := o12.geO
      refine ol_op0 (by exact opv_storeRow (z := (IntKind.u8.wrap a1)) (xs := cellsOf [Seg.cell (.int .u8 (IntKind.u8.wrap a1))]) rfl sz5 rfl rfl rfl (len_cellsOf _) (one_cellsOf _) o12 (by decide) g20 (Spl.whole ((Kd.len _ _).trans (Kd.len _ _).symm)) rfl) rfl rfl ?_
      rintro _ w23 ⟨o12, q21⟩
      have fB := fB.wrO q21 f22
      refine ol_nil ?_
      refine cw_seq ?_
      refine cw_region ?_
      refine ol_val (v := v10) (by exact xr_move rfl rfl) rfl rfl rfl ?_
      obtain ⟨g25, h⟩ := gs h
      refine ol_val (v := subv 1 v10 (Int.toNat 8) (List.length (List.set (List.set (List.replicate (Int.toNat 64) (0 : Int)) (Int.toNat 4) (IntKind.u8.wrap a0)) (Int.toNat 5) (IntKind.u8.wrap a1)))) (by exact xr_slice_l (K := (kI .u8)) (v := v10) rfl Try.underlying22 sz5 rfl o12.rd rfl (by decide) g25) rfl rfl rfl ?_
      have r24 : Rd (kI .u8) w23 (subv 1 v10 (Int.toNat 8) (List.length (List.set (List.set (List.replicate (Int.toNat 64) (0 : Int)) (Int.toNat 4) (IntKind.u8.wrap a0)) (Int.toNat 5) (IntKind.u8.wrap a1)))) (cut (List.set (List.set (List.replicate (Int.toNat 64) (0 : Int)) (Int.toNat 4) (IntKind.u8.wrap a0)) (Int.toNat 5) (IntKind.u8.wrap a1)) 8 (List.length (List.set (List.set (List.replicate (Int.toNat 64) (0 : Int)) (Int.toNat 4) (IntKind.u8.wrap a0)) (Int.toNat 5) (IntKind.u8.wrap a1)) : Int)) := o12.rd.cut (lo := 8) (hi := (List.length (List.set (List.set (List.replicate (Int.toNat 64) (0 : Int)) (Int.toNat 4) (IntKind.u8.wrap a0)) (Int.toNat 5) (IntKind.u8.wrap a1)) : Int)) (by decide) g25 (Int.le_refl _)
      refine ol_val (v := V2_0) (by exact xr_move rfl e2) rfl rfl rfl ?_
      obtain ⟨g27, h⟩ := gs h
      have f28 := o12.geO
      refine ol_op (by exact opv_copyCut rfl Try.underlying22 sz5 rfl rfl rfl rfl o12 g27.1 g27.2 (R2_0.gr fB)) rfl rfl rfl ?_
      rintro _ w29 ⟨rfl, o12, q26⟩
      have fB := fB.wrO q26 f28
      refine ol_nil ?_
      refine cw_seq ?_
      refine cw_region ?_
      refine ol_val (v := v10) (by exact xr_move rfl rfl) rfl rfl rfl ?_
      refine ol_val (v := v10) (by exact xr_move rfl rfl) rfl rfl rfl ?_
      obtain ⟨g31, h⟩ := gs h
      refine ol_val (v := subv 1 v10 (Int.toNat 4) (List.length (splL (List.set (List.set (List.replicate (Int.toNat 64) (0 : Int)) (Int.toNat 4) (IntKind.u8.wrap a0)) (Int.toNat 5) (IntKind.u8.wrap a1)) (Int.toNat 8) (List.take (List.length (List.set (List.set (List.replicate (Int.toNat 64) (0 : Int)) (Int.toNat 4) (IntKind.u8.wrap a0)) (Int.toNat 5) (IntKind.u8.wrap a1)) - Int.toNat 8) a2)))) (by exact xr_slice_l (K := (kI .u8)) (v := v10) rfl Try.underlying22 sz5 rfl o12.rd rfl (by decide) g31) rfl rfl rfl ?_
      have r30 : Rd (kI .u8) w29 (subv 1 v10 (Int.toNat 4) (List.length (splL (List.set (List.set (List.replicate (Int.toNat 64) (0 : Int)) (Int.toNat 4) (IntKind.u8.wrap a0)) (Int.toNat 5) (IntKind.u8.wrap a1)) (Int.toNat 8) (List.take (List.length (List.set (List.set (List.replicate (Int.toNat 64) (0 : Int)) (Int.toNat 4) (IntKind.u8.wrap a0)) (Int.toNat 5) (IntKind.u8.wrap a1)) - Int.toNat 8) a2)))) (cut (splL (List.set (List.set (List.replicate (Int.toNat 64) (0 : Int)) (Int.toNat 4) (IntKind.u8.wrap a0)) (Int.toNat 5) (IntKind.u8.wrap a1)) (Int.toNat 8) (List.take (List.length (List.set (List.set (List.replicate (Int.toNat 64) (0 : Int)) (Int.toNat 4) (IntKind.u8.wrap a0)) (Int.toNat 5) (IntKind.u8.wrap a1)) - Int.toNat 8) a2)) 4 (List.length (splL (List.set (List.set (List.replicate (Int.toNat 64) (0 : Int)) (Int.toNat 4) (IntKind.u8.wrap a0)) (Int.toNat 5) (IntKind.u8.wrap a1)) (Int.toNat 8) (List.take (List.length (List.set (List.set (List.replicate (Int.toNat 64) (0 : Int)) (Int.toNat 4) (IntKind.u8.wrap a0)) (Int.toNat 5) (IntKind.u8.wrap a1)) - Int.toNat 8) a2)) : Int)) := o12.rd.cut (lo := 4) (hi := (List.length (splL (List.set (List.set (List.replicate (Int.toNat 64) (0 : Int)) (Int.toNat 4) (IntKind.u8.wrap a0)) (Int.toNat 5) (IntKind.u8.wrap a1)) (Int.toNat 8) (List.take (List.length (List.set (List.set (List.replicate (Int.toNat 64) (0 : Int)) (Int.toNat 4) (IntKind.u8.wrap a0)) (Int.toNat 5) (IntKind.u8.wrap a1)) - Int.toNat 8) a2)) : Int)) (by decide) g31 (Int.le_refl _)
      refine ol_op (by exact opv_build1 rfl Try.underlying157 el22 rfl r30 rfl) rfl rfl rfl ?_
      rintro v32 w35 ⟨r34, q33⟩
      have o12 := o12.gr q33
      have fB := fB.gr q33
      obtain ⟨t36, k37, h⟩ := bs h
      refine ol_op (by exact opv_call rfl cal96 (ac rfl an) (crc_Sum.ok fu _ [(cut (splL (List.set (List.set (List.replicate (Int.toNat 64) (0 : Int)) (Int.toNat 4) (IntKind.u8.wrap a0)) (Int.toNat 5) (IntKind.u8.wrap a1)) (Int.toNat 8) (List.take (List.length (List.set (List.set (List.replicate (Int.toNat 64) (0 : Int)) (Int.toNat 4) (IntKind.u8.wrap a0)) (Int.toNat 5) (IntKind.u8.wrap a1)) - Int.toNat 8) a2)) 4 (List.length (splL (List.set (List.set (List.replicate (Int.toNat 64) (0 : Int)) (Int.toNat 4) (IntKind.u8.wrap a0)) (Int.toNat 5) (IntKind.u8.wrap a1)) (Int.toNat 8) (List.take (List.length (List.set (List.set (List.replicate (Int.toNat 64) (0 : Int)) (Int.toNat 4) (IntKind.u8.wrap a0)) (Int.toNat 5) (IntKind.u8.wrap a1)) - Int.toNat 8) a2)) : Int))] v32 (r34) _ k37)) rfl rfl rfl ?_
      rintro _ w39 ⟨rfl, q38⟩
      have o12 := o12.gr q38
      have fB := fB.gr q38
      refine ol_val (v := .int .u64 (IntKind.u64.wrap t36)) (by exact xr_conv rfl Try.underlying36 Try.underlying129 rfl) rfl rfl rfl ?_
      obtain ⟨t40, k41, h⟩ := bs h
      refine ol_op (by exact opv_call rfl cal95 (ac rfl (ac rfl an)) (octet_Lay.ok fu _ (IntKind.u64.wrap t36) 4 _ k41)) rfl rfl rfl ?_
      rintro u42 w46 ⟨_, o43, rfl, q45⟩
      have a47 := OffV.call o12 o43
      have o43 := Own.base o43 fB.size
      have o12 := o12.gr q45
      have fB := fB.gr q45
      have f49 := o12.geO
      refine ol_op (by exact opv_copyRow rfl Try.underlying22 sz5 rfl rfl rfl o12 o43.rd) rfl rfl rfl ?_
      rintro _ w50 ⟨rfl, o12, q48⟩
      have fB := fB.wrO q48 f49
      refine ol_nil ?_
      refine cw_seq ?_
      refine cw_region ?_
      refine ol_val (v := v10) (by exact xr_move rfl rfl) rfl rfl rfl ?_
      refine ol_val (v := v10) (by exact xr_assign rfl rfl) rfl rfl rfl ?_
      refine ol_val (v := .bool true) (by exact xr_assign rfl rfl) rfl rfl rfl ?_
      refine ol_nil ?_
      refine cw_ret ?_
      repeat (first | with_reducible refine thn_r ?_ | with_reducible refine blk_r ?_)
      obtain rfl := Option.some.inj h
      refine fin_ret2 Try.results28 rfl rfl ?_
      exact ⟨_, rfl, v10, o12, rfl, fB⟩
end Go.Proofs.Ytjhajfkfhdnciaa

/- rickyard/name.spans: its model, and that the Go function computes it: written by gen.py. -/
set_option linter.unusedVariables false
namespace Go.Proofs.Ytjhajfkfhdnciaa
open Go Go.Xw
def name_spans.f (fu : Nat) : Option (Arr 6 S_name_span) := some ((Arr.set (Arr.set (Arr.set (Arr.set (Arr.set (Arr.set (Arr.rep 6 (⟨(0 : Int), (0 : Int)⟩ : S_name_span)) 0 (⟨97, 122⟩ : S_name_span)) 1 (⟨65, 90⟩ : S_name_span)) 2 (⟨48, 57⟩ : S_name_span)) 3 (⟨45, 45⟩ : S_name_span)) 4 (⟨95, 95⟩ : S_name_span)) 5 (⟨161, 65519⟩ : S_name_span)))
set_option maxRecDepth 100000 in
set_option maxHeartbeats 400000 in
theorem name_spans.ok (fu : Nat) (w : World)  (r : (Arr 6 S_name_span)) (h : name_spans.f fu = some r) :
    Calls Try.prog 148 (([] : List Value).toArray) w (fun e w' => ∃ v, e = .returned v ∧ v = aggV [Kd.seg (kA 6 k_name_span) r] ∧ Gr w w') := by
  unfold name_spans.f at h
  have fB : Gr w w := Fr.refl _ _
  refine calls_cw Try.func148 rfl Try.ntmps148 rfl ?_
  refine cw_seq ?_
  refine cw_region ?_
  refine ol_op (by exact opv_alloc (ss := [Kd.seg (kA 6 k_name_span) (Arr.rep 6 (⟨(0 : Int), (0 : Int)⟩ : S_name_span))]) rfl ze179 rfl) rfl rfl rfl ?_
  rintro _ w6 ⟨G1, rfl, b2, q3, z4⟩
  have z4 := Nat.le_trans fB.size z4
  have fB := fB.gr q3
  refine ol_nil ?_
  refine cw_seq ?_
  refine cw_region ?_
  refine ol_val (v := aggV [Seg.cell (.int .i32 97), Seg.cell (.int .i32 122)]) (by exact xr_build (vals := [(0, .int .i32 97), (1, .int .i32 122)]) rfl ⟨rfl, rfl, ⟨rfl, rfl, trivial⟩⟩ (bl178_0_1 97 122 _)) rfl rfl rfl ?_
  refine ol_val (v := aggV [Seg.cell (.int .i32 65), Seg.cell (.int .i32 90)]) (by exact xr_build (vals := [(0, .int .i32 65), (1, .int .i32 90)]) rfl ⟨rfl, rfl, ⟨rfl, rfl, trivial⟩⟩ (bl178_0_1 65 90 _)) rfl rfl rfl ?_
  refine ol_val (v := aggV [Seg.cell (.int .i32 48), Seg.cell (.int .i32 57)]) (by exact xr_build (vals := [(0, .int .i32 48), (1, .int .i32 57)]) rfl ⟨rfl, rfl, ⟨rfl, rfl, trivial⟩⟩ (bl178_0_1 48 57 _)) rfl rfl rfl ?_
  refine ol_val (v := aggV [Seg.cell (.int .i32 45), Seg.cell (.int .i32 45)]) (by exact xr_build (vals := [(0, .int .i32 45), (1, .int .i32 45)]) rfl ⟨rfl, rfl, ⟨rfl, rfl, trivial⟩⟩ (bl178_0_1 45 45 _)) rfl rfl rfl ?_
  refine ol_val (v := aggV [Seg.cell (.int .i32 95), Seg.cell (.int .i32 95)]) (by exact xr_build (vals := [(0, .int .i32 95), (1, .int .i32 95)]) rfl ⟨rfl, rfl, ⟨rfl, rfl, trivial⟩⟩ (bl178_0_1 95 95 _)) rfl rfl rfl ?_
  refine ol_val (v := aggV [Seg.cell (.int .i32 161), Seg.cell (.int .i32 65519)]) (by exact xr_build (vals := [(0, .int .i32 161), (1, .int .i32 65519)]) rfl ⟨rfl, rfl, ⟨rfl, rfl, trivial⟩⟩ (bl178_0_1 161 65519 _)) rfl rfl rfl ?_
  refine ol_val (v := aggV [Kd.seg (kA 6 k_name_span) (Arr.set (Arr.set (Arr.set (Arr.set (Arr.set (Arr.set (Arr.rep 6 (⟨(0 : Int), (0 : Int)⟩ : S_name_span)) 0 (⟨97, 122⟩ : S_name_span)) 1 (⟨65, 90⟩ : S_name_span)) 2 (⟨48, 57⟩ : S_name_span)) 3 (⟨45, 45⟩ : S_name_span)) 4 (⟨95, 95⟩ : S_name_span)) 5 (⟨161, 65519⟩ : S_name_span))]) (by exact xr_buildA (vals := [(0, aggV [Seg.cell (.int .i32 97), Seg.cell (.int .i32 122)]), (1, aggV [Seg.cell (.int .i32 65), Seg.cell (.int .i32 90)]), (2, aggV [Seg.cell (.int .i32 48), Seg.cell (.int .i32 57)]), (3, aggV [Seg.cell (.int .i32 45), Seg.cell (.int .i32 45)]), (4, aggV [Seg.cell (.int .i32 95), Seg.cell (.int .i32 95)]), (5, aggV [Seg.cell (.int .i32 161), Seg.cell (.int .i32 65519)])]) (res := [Kd.seg (kA 6 k_name_span) (Arr.set (Arr.set (Arr.set (Arr.set (Arr.set (Arr.set (Arr.rep 6 (⟨(0 : Int), (0 : Int)⟩ : S_name_span)) 0 (⟨97, 122⟩ : S_name_span)) 1 (⟨65, 90⟩ : S_name_span)) 2 (⟨48, 57⟩ : S_name_span)) 3 (⟨45, 45⟩ : S_name_span)) 4 (⟨95, 95⟩ : S_name_span)) 5 (⟨161, 65519⟩ : S_name_span))]) rfl ⟨rfl, rfl, ⟨rfl, rfl, ⟨rfl, rfl, ⟨rfl, rfl, ⟨rfl, rfl, ⟨rfl, rfl, trivial⟩⟩⟩⟩⟩⟩ Try.underlying179 ze179 sz178 (fl_cons (xs := Kd.enc k_name_span (⟨97, 122⟩ : S_name_span)) (cs' := cellsOf [Kd.seg (kA 6 k_name_span) (Arr.set (Arr.rep 6 (⟨(0 : Int), (0 : Int)⟩ : S_name_span)) 0 (⟨97, 122⟩ : S_name_span))]) rfl rfl (Kd.len _ _) (Spl.seg_in (p := 0) (o := Int.toNat 0 * Kd.size k_name_span + 0) [Kd.seg (kA 6 k_name_span) (Arr.rep 6 (⟨(0 : Int), (0 : Int)⟩ : S_name_span))] 0 (Kd.seg (kA 6 k_name_span) (Arr.set (Arr.rep 6 (⟨(0 : Int), (0 : Int)⟩ : S_name_span)) 0 (⟨97, 122⟩ : S_name_span))) rfl rfl (Spl.arr (K := k_name_span) (Arr.rep 6 (⟨(0 : Int), (0 : Int)⟩ : S_name_span)) 0 (⟨97, 122⟩ : S_name_span) (by decide) (by decide) (Spl.whole ((Kd.len _ _).trans (Kd.len _ _).symm)))) (fl_cons (xs := Kd.enc k_name_span (⟨65, 90⟩ : S_name_span)) (cs' := cellsOf [Kd.seg (kA 6 k_name_span) (Arr.set (Arr.set (Arr.rep 6 (⟨(0 : Int), (0 : Int)⟩ : S_name_span)) 0 (⟨97, 122⟩ : S_name_span)) 1 (⟨65, 90⟩ : S_name_span))]) rfl rfl (Kd.len _ _) (Spl.seg_in (p := 0) (o := Int.toNat 1 * Kd.size k_name_span + 0) [Kd.seg (kA 6 k_name_span) (Arr.set (Arr.rep 6 (⟨(0 : Int), (0 : Int)⟩ : S_name_span)) 0 (⟨97, 122⟩ : S_name_span))] 0 (Kd.seg (kA 6 k_name_span) (Arr.set (Arr.set (Arr.rep 6 (⟨(0 : Int), (0 : Int)⟩ : S_name_span)) 0 (⟨97, 122⟩ : S_name_span)) 1 (⟨65, 90⟩ : S_name_span))) rfl rfl (Spl.arr (K := k_name_span) (Arr.set (Arr.rep 6 (⟨(0 : Int), (0 : Int)⟩ : S_name_span)) 0 (⟨97, 122⟩ : S_name_span)) 1 (⟨65, 90⟩ : S_name_span) (by decide) (by decide) (Spl.whole ((Kd.len _ _).trans (Kd.len _ _).symm)))) (fl_cons (xs := Kd.enc k_name_span (⟨48, 57⟩ : S_name_span)) (cs' := cellsOf [Kd.seg (kA 6 k_name_span) (Arr.set (Arr.set (Arr.set (Arr.rep 6 (⟨(0 : Int), (0 : Int)⟩ : S_name_span)) 0 (⟨97, 122⟩ : S_name_span)) 1 (⟨65, 90⟩ : S_name_span)) 2 (⟨48, 57⟩ : S_name_span))]) rfl rfl (Kd.len _ _) (Spl.seg_in (p := 0) (o := Int.toNat 2 * Kd.size k_name_span + 0) [Kd.seg (kA 6 k_name_span) (Arr.set (Arr.set (Arr.rep 6 (⟨(0 : Int), (0 : Int)⟩ : S_name_span)) 0 (⟨97, 122⟩ : S_name_span)) 1 (⟨65, 90⟩ : S_name_span))] 0 (Kd.seg (kA 6 k_name_span) (Arr.set (Arr.set (Arr.set (Arr.rep 6 (⟨(0 : Int), (0 : Int)⟩ : S_name_span)) 0 (⟨97, 122⟩ : S_name_span)) 1 (⟨65, 90⟩ : S_name_span)) 2 (⟨48, 57⟩ : S_name_span))) rfl rfl (Spl.arr (K := k_name_span) (Arr.set (Arr.set (Arr.rep 6 (⟨(0 : Int), (0 : Int)⟩ : S_name_span)) 0 (⟨97, 122⟩ : S_name_span)) 1 (⟨65, 90⟩ : S_name_span)) 2 (⟨48, 57⟩ : S_name_span) (by decide) (by decide) (Spl.whole ((Kd.len _ _).trans (Kd.len _ _).symm)))) (fl_cons (xs := Kd.enc k_name_span (⟨45, 45⟩ : S_name_span)) (cs' := cellsOf [Kd.seg (kA 6 k_name_span) (Arr.set (Arr.set (Arr.set (Arr.set (Arr.rep 6 (⟨(0 : Int), (0 : Int)⟩ : S_name_span)) 0 (⟨97, 122⟩ : S_name_span)) 1 (⟨65, 90⟩ : S_name_span)) 2 (⟨48, 57⟩ : S_name_span)) 3 (⟨45, 45⟩ : S_name_span))]) rfl rfl (Kd.len _ _) (Spl.seg_in (p := 0) (o := Int.toNat 3 * Kd.size k_name_span + 0) [Kd.seg (kA 6 k_name_span) (Arr.set (Arr.set (Arr.set (Arr.rep 6 (⟨(0 : Int), (0 : Int)⟩ : S_name_span)) 0 (⟨97, 122⟩ : S_name_span)) 1 (⟨65, 90⟩ : S_name_span)) 2 (⟨48, 57⟩ : S_name_span))] 0 (Kd.seg (kA 6 k_name_span) (Arr.set (Arr.set (Arr.set (Arr.set (Arr.rep 6 (⟨(0 : Int), (0 : Int)⟩ : S_name_span)) 0 (⟨97, 122⟩ : S_name_span)) 1 (⟨65, 90⟩ : S_name_span)) 2 (⟨48, 57⟩ : S_name_span)) 3 (⟨45, 45⟩ : S_name_span))) rfl rfl (Spl.arr (K := k_name_span) (Arr.set (Arr.set (Arr.set (Arr.rep 6 (⟨(0 : Int), (0 : Int)⟩ : S_name_span)) 0 (⟨97, 122⟩ : S_name_span)) 1 (⟨65, 90⟩ : S_name_span)) 2 (⟨48, 57⟩ : S_name_span)) 3 (⟨45, 45⟩ : S_name_span) (by decide) (by decide) (Spl.whole ((Kd.len _ _).trans (Kd.len _ _).symm)))) (fl_cons (xs := Kd.enc k_name_span (⟨95, 95⟩ : S_name_span)) (cs' := cellsOf [Kd.seg (kA 6 k_name_span) (Arr.set (Arr.set (Arr.set (Arr.set (Arr.set (Arr.rep 6 (⟨(0 : Int), (0 : Int)⟩ : S_name_span)) 0 (⟨97, 122⟩ : S_name_span)) 1 (⟨65, 90⟩ : S_name_span)) 2 (⟨48, 57⟩ : S_name_span)) 3 (⟨45, 45⟩ : S_name_span)) 4 (⟨95, 95⟩ : S_name_span))]) rfl rfl (Kd.len _ _) (Spl.seg_in (p := 0) (o := Int.toNat 4 * Kd.size k_name_span + 0) [Kd.seg (kA 6 k_name_span) (Arr.set (Arr.set (Arr.set (Arr.set (Arr.rep 6 (⟨(0 : Int), (0 : Int)⟩ : S_name_span)) 0 (⟨97, 122⟩ : S_name_span)) 1 (⟨65, 90⟩ : S_name_span)) 2 (⟨48, 57⟩ : S_name_span)) 3 (⟨45, 45⟩ : S_name_span))] 0 (Kd.seg (kA 6 k_name_span) (Arr.set (Arr.set (Arr.set (Arr.set (Arr.set (Arr.rep 6 (⟨(0 : Int), (0 : Int)⟩ : S_name_span)) 0 (⟨97, 122⟩ : S_name_span)) 1 (⟨65, 90⟩ : S_name_span)) 2 (⟨48, 57⟩ : S_name_span)) 3 (⟨45, 45⟩ : S_name_span)) 4 (⟨95, 95⟩ : S_name_span))) rfl rfl (Spl.arr (K := k_name_span) (Arr.set (Arr.set (Arr.set (Arr.set (Arr.rep 6 (⟨(0 : Int), (0 : Int)⟩ : S_name_span)) 0 (⟨97, 122⟩ : S_name_span)) 1 (⟨65, 90⟩ : S_name_span)) 2 (⟨48, 57⟩ : S_name_span)) 3 (⟨45, 45⟩ : S_name_span)) 4 (⟨95, 95⟩ : S_name_span) (by decide) (by decide) (Spl.whole ((Kd.len _ _).trans (Kd.len _ _).symm)))) (fl_cons (xs := Kd.enc k_name_span (⟨161, 65519⟩ : S_name_span)) (cs' := cellsOf [Kd.seg (kA 6 k_name_span) (Arr.set (Arr.set (Arr.set (Arr.set (Arr.set (Arr.set (Arr.rep 6 (⟨(0 : Int), (0 : Int)⟩ : S_name_span)) 0 (⟨97, 122⟩ : S_name_span)) 1 (⟨65, 90⟩ : S_name_span)) 2 (⟨48, 57⟩ : S_name_span)) 3 (⟨45, 45⟩ : S_name_span)) 4 (⟨95, 95⟩ : S_name_span)) 5 (⟨161, 65519⟩ : S_name_span))]) rfl rfl (Kd.len _ _) (Spl.seg_in (p := 0) (o := Int.toNat 5 * Kd.size k_name_span + 0) [Kd.seg (kA 6 k_name_span) (Arr.set (Arr.set (Arr.set (Arr.set (Arr.set (Arr.rep 6 (⟨(0 : Int), (0 : Int)⟩ : S_name_span)) 0 (⟨97, 122⟩ : S_name_span)) 1 (⟨65, 90⟩ : S_name_span)) 2 (⟨48, 57⟩ : S_name_span)) 3 (⟨45, 45⟩ : S_name_span)) 4 (⟨95, 95⟩ : S_name_span))] 0 (Kd.seg (kA 6 k_name_span) (Arr.set (Arr.set (Arr.set (Arr.set (Arr.set (Arr.set (Arr.rep 6 (⟨(0 : Int), (0 : Int)⟩ : S_name_span)) 0 (⟨97, 122⟩ : S_name_span)) 1 (⟨65, 90⟩ : S_name_span)) 2 (⟨48, 57⟩ : S_name_span)) 3 (⟨45, 45⟩ : S_name_span)) 4 (⟨95, 95⟩ : S_name_span)) 5 (⟨161, 65519⟩ : S_name_span))) rfl rfl (Spl.arr (K := k_name_span) (Arr.set (Arr.set (Arr.set (Arr.set (Arr.set (Arr.rep 6 (⟨(0 : Int), (0 : Int)⟩ : S_name_span)) 0 (⟨97, 122⟩ : S_name_span)) 1 (⟨65, 90⟩ : S_name_span)) 2 (⟨48, 57⟩ : S_name_span)) 3 (⟨45, 45⟩ : S_name_span)) 4 (⟨95, 95⟩ : S_name_span)) 5 (⟨161, 65519⟩ : S_name_span) (by decide) (by decide) (Spl.whole ((Kd.len _ _).trans (Kd.len _ _).symm)))) fl_nil))))))) rfl rfl rfl ?_
  refine ol_op0 (by exact opv_store (ss' := [Kd.seg (kA 6 k_name_span) (Arr.set (Arr.set (Arr.set (Arr.set (Arr.set (Arr.set (Arr.rep 6 (⟨(0 : Int), (0 : Int)⟩ : S_name_span)) 0 (⟨97, 122⟩ : S_name_span)) 1 (⟨65, 90⟩ : S_name_span)) 2 (⟨48, 57⟩ : S_name_span)) 3 (⟨45, 45⟩ : S_name_span)) 4 (⟨95, 95⟩ : S_name_span)) 5 (⟨161, 65519⟩ : S_name_span))]) (xs := cellsOf [Kd.seg (kA 6 k_name_span) (Arr.set (Arr.set (Arr.set (Arr.set (Arr.set (Arr.set (Arr.rep 6 (⟨(0 : Int), (0 : Int)⟩ : S_name_span)) 0 (⟨97, 122⟩ : S_name_span)) 1 (⟨65, 90⟩ : S_name_span)) 2 (⟨48, 57⟩ : S_name_span)) 3 (⟨45, 45⟩ : S_name_span)) 4 (⟨95, 95⟩ : S_name_span)) 5 (⟨161, 65519⟩ : S_name_span))]) rfl sz179 rfl rfl rfl (len_cellsOf _) (one_cellsOf _) b2 (Spl.segs _ 0 1 [Kd.seg (kA 6 k_name_span) (Arr.set (Arr.set (Arr.set (Arr.set (Arr.set (Arr.set (Arr.rep 6 (⟨(0 : Int), (0 : Int)⟩ : S_name_span)) 0 (⟨97, 122⟩ : S_name_span)) 1 (⟨65, 90⟩ : S_name_span)) 2 (⟨48, 57⟩ : S_name_span)) 3 (⟨45, 45⟩ : S_name_span)) 4 (⟨95, 95⟩ : S_name_span)) 5 (⟨161, 65519⟩ : S_name_span))] rfl rfl)) rfl rfl ?_
  rintro _ w8 ⟨b2, q7⟩
  have fB := fB.wr q7 z4
  refine ol_nil ?_
  refine cw_ret ?_
  repeat (first | with_reducible refine thn_r ?_ | with_reducible refine blk_r ?_)
  obtain rfl := Option.some.inj h
  refine fin_cell Try.results148 rfl ag179 sz179 b2 (by rfl) ?_
  exact ⟨_, rfl, rfl, fB⟩
end Go.Proofs.Ytjhajfkfhdnciaa

/- rickyard/name.Of: its model, and that the Go function computes it: written by gen.py. -/
set_option linter.unusedVariables false
namespace Go.Proofs.Ytjhajfkfhdnciaa
open Go Go.Xw
def name_Of.s0 (fu : Nat) (a0 : Int) (t1 : (Arr 6 S_name_span)) : Int → Option (Sum (Sum Bool Unit) Int) := fun s5 => (if (decide (s5 < 6)) = true then (if 0 ≤ s5 ∧ s5 < 6 then (if (if (decide (a0 ≥ ((Arr.get t1 s5).first))) = true then (decide (a0 ≤ ((Arr.get t1 s5).last))) else false) = true then some (Sum.inl (Sum.inl (true))) else some (Sum.inr ((IntKind.i64.wrap (s5 + 1))))) else none) else some (Sum.inl (Sum.inr ())))
def name_Of.f (fu : Nat) (a0 : Int) : Option Bool := ((name_spans.f fu : Option (Arr 6 S_name_span)).bind fun t1 => ((loopM (name_Of.s0 fu a0 t1) fu (0)).bind fun e6 => match e6 with | Sum.inl p => some p | Sum.inr x9 => some (false)))
set_option maxRecDepth 100000 in
set_option maxHeartbeats 400000 in
theorem name_Of.ok (fu : Nat) (w : World) (a0 : Int) (r : Bool) (h : name_Of.f fu a0 = some r) :
    Calls Try.prog 141 (([.int .i32 a0] : List Value).toArray) w (fun e w' => ∃ v, e = .returned v ∧ v = .bool r ∧ Gr w w') := by
  unfold name_Of.f at h
  have fB : Gr w w := Fr.refl _ _
  refine calls_cw Try.func141 rfl Try.ntmps141 rfl ?_
  refine cw_seq ?_
  refine cw_region ?_
  refine ol_val (v := .bool false) (by exact xr_assign rfl rfl) rfl rfl rfl ?_
  refine ol_nil ?_
  refine cw_seq ?_
  refine cw_seq ?_
  refine cw_region ?_
  obtain ⟨t1, k2, h⟩ := bs h
  refine ol_op (by exact opv_call rfl cal148 an (name_spans.ok fu _ _ k2)) rfl rfl rfl ?_
  rintro _ w4 ⟨rfl, q3⟩
  have fB := fB.gr q3
  refine ol_val (v := .int .i64 0) (by exact xr_move rfl rfl) rfl rfl rfl ?_
  refine ol_nil ?_
  obtain ⟨e6, l7, h8⟩ := bs h
  refine cw_mid (fun ρ' w' => ∃ x9, e6 = Sum.inr x9 ∧ Gr w w') ?_ ?_
  · refine cw_block ?_
    refine cw_round (fun (s5 : Int) ρ' w' => ρ' 0 = .int .i32 a0 ∧ ρ' 5 = aggV [Kd.seg (kA 6 k_name_span) t1] ∧ ρ' 6 = .int .i64 s5 ∧ Gr w w') l7 ?_ ?_
    · skip
      exact ⟨rfl, rfl, rfl, fB⟩
    · rintro s5 x12 ρ10 w11 ⟨e0, e5, e6, fB⟩ h
      unfold name_Of.s0 at h
      refine cw_seq ?_
      refine cw_region ?_
      refine ol_val (v := .bool (decide (s5 < 6))) (by exact xr_lss rfl e6 rfl) rfl rfl rfl ?_
      refine ol_nil ?_
      refine cw_seq ?_
      rcases is h with ⟨c13, h⟩ | ⟨c13, h⟩
      · refine cw_condT rfl c13 ?_
        refine cw_skip ?_
        refine cw_seq ?_
        refine cw_block ?_
        refine cw_seq ?_
        refine cw_region ?_
        obtain ⟨g14, h⟩ := gs h
        refine ol_val (v := aggV [Seg.cell (.int .i32 ((Arr.get t1 s5).first)), Seg.cell (.int .i32 ((Arr.get t1 s5).last))]) (by exact xr_indexArrS (K := k_name_span) (a := t1) (ss := [Seg.cell (.int .i32 ((Arr.get t1 s5).first)), Seg.cell (.int .i32 ((Arr.get t1 s5).last))]) rfl Try.underlying179 ag178 sz178 e5 e6 rfl g14.1 g14.2 rfl) rfl rfl rfl ?_
        refine ol_op (by exact opv_alloc (ss := [Seg.cell (.int .i32 (0 : Int)), Seg.cell (.int .i32 (0 : Int))]) rfl ze178 rfl) rfl rfl rfl ?_
        rintro _ w20 ⟨G15, rfl, b16, q17, z18⟩
        have z18 := Nat.le_trans fB.size z18
        have fB := fB.gr q17
        refine ol_op0 (by exact opv_store (ss' := [Seg.cell (.int .i32 ((Arr.get t1 s5).first)), Seg.cell (.int .i32 ((Arr.get t1 s5).last))]) (xs := cellsOf [Seg.cell (.int .i32 ((Arr.get t1 s5).first)), Seg.cell (.int .i32 ((Arr.get t1 s5).last))]) rfl sz178 rfl rfl rfl (len_cellsOf _) (one_cellsOf _) b16 (Spl.segs _ 0 2 [Seg.cell (.int .i32 ((Arr.get t1 s5).first)), Seg.cell (.int .i32 ((Arr.get t1 s5).last))] rfl rfl)) rfl rfl ?_
        rintro _ w22 ⟨b16, q21⟩
        have fB := fB.wr q21 z18
        refine ol_nil ?_
        refine cw_seq ?_
        refine cw_mid (fun ρ' w' => ρ' 0 = .int .i32 a0 ∧ ρ' 5 = aggV [Kd.seg (kA 6 k_name_span) t1] ∧ ρ' 6 = .int .i64 s5 ∧ ρ' 18 = .bool (if (decide (a0 ≥ ((Arr.get t1 s5).first))) = true then (decide (a0 ≤ ((Arr.get t1 s5).last))) else false) ∧ w22 = w') ?_ ?_
        · skip
          refine cw_region ?_
          refine ol_val (v := .int .i32 a0) (by exact xr_move rfl e0) rfl rfl rfl ?_
          refine ol_val (v := .pointer (some ⟨G15, 0, none⟩)) (by exact xr_fieldAddr (p := 0) (q := 0) rfl fl178_0 rfl) rfl rfl rfl ?_
          refine ol_val (v := .int .i32 ((Arr.get t1 s5).first)) (by exact xr_load1 (v := .int .i32 ((Arr.get t1 s5).first)) rfl ag21 rfl (b16.seg 0 rfl rfl)) rfl rfl rfl ?_
          refine ol_val (v := .bool (decide (a0 ≥ ((Arr.get t1 s5).first)))) (by exact xr_geq rfl rfl rfl) rfl rfl rfl ?_
          refine ol_val (v := .bool (decide (a0 ≥ ((Arr.get t1 s5).first)))) (by exact xr_move rfl rfl) rfl rfl rfl ?_
          rcases bt (decide (a0 ≥ ((Arr.get t1 s5).first))) with c23 | c23
          · skip
            refine ol_gval (v := .int .i32 a0) (by exact xr_move rfl e0) rfl rfl rfl rfl rfl c23 ?_
            refine ol_gval (v := .pointer (some ⟨G15, 1, none⟩)) (by exact xr_fieldAddr (p := 0) (q := 1) rfl fl178_1 rfl) rfl rfl rfl rfl rfl c23 ?_
            refine ol_gval (v := .int .i32 ((Arr.get t1 s5).last)) (by exact xr_load1 (v := .int .i32 ((Arr.get t1 s5).last)) rfl ag21 rfl (b16.seg 1 rfl rfl)) rfl rfl rfl rfl rfl c23 ?_
            refine ol_gval (v := .bool (decide (a0 ≤ ((Arr.get t1 s5).last)))) (by exact xr_leq rfl rfl rfl) rfl rfl rfl rfl rfl c23 ?_
            refine ol_val (v := .bool (decide (a0 ≤ ((Arr.get t1 s5).last)))) (by exact xr_pickT rfl rfl c23 rfl) rfl rfl rfl ?_
            refine ol_nil ?_
            refine thn_i ?_
            exact ⟨e0, e5, e6, (rfl).trans (congrArg (fun z => (.bool z : Value)) (show (decide (a0 ≤ ((Arr.get t1 s5).last))) = (if (decide (a0 ≥ ((Arr.get t1 s5).first))) = true then (decide (a0 ≤ ((Arr.get t1 s5).last))) else false) from by rw [ite_t c23])), rfl⟩
          · skip
            refine ol_gskip rfl rfl rfl rfl rfl c23 ?_
            refine ol_gskip rfl rfl rfl rfl rfl c23 ?_
            refine ol_gskip rfl rfl rfl rfl rfl c23 ?_
            refine ol_gskip rfl rfl rfl rfl rfl c23 ?_
            refine ol_val (v := .bool false) (by exact xr_pickF rfl rfl c23 rfl) rfl rfl rfl ?_
            refine ol_nil ?_
            refine thn_i ?_
            exact ⟨e0, e5, e6, (rfl).trans (congrArg (fun z => (.bool z : Value)) (show false = (if (decide (a0 ≥ ((Arr.get t1 s5).first))) = true then (decide (a0 ≤ ((Arr.get t1 s5).last))) else false) from by rw [ite_f c23])), rfl⟩
        · skip
          rintro ρ24 _ ⟨e0, e5, e6, e18, rfl⟩
          rcases is h with ⟨c25, h⟩ | ⟨c25, h⟩
          · refine cw_condT e18 c25 ?_
            refine cw_seq ?_
            refine cw_region ?_
            refine ol_val (v := .bool true) (by exact xr_assign rfl rfl) rfl rfl rfl ?_
            refine ol_nil ?_
            refine cw_ret ?_
            repeat (first | with_reducible refine thn_r ?_ | with_reducible refine blk_r ?_)
            obtain rfl := Option.some.inj h
            refine lp_ret ?_
            rintro rfl
            repeat (first | with_reducible refine thn_r ?_ | with_reducible refine blk_r ?_)
            have h := h8
            obtain rfl := Option.some.inj h
            refine fin_ret1 Try.results141 rfl ?_
            exact ⟨_, rfl, rfl, fB⟩
          · refine cw_condF e18 c25 ?_
            refine cw_skip ?_
            refine blk_i ?_
            refine cw_region ?_
            refine ol_val (v := .int .i64 (IntKind.i64.wrap (s5 + 1))) (by exact xr_add rfl e6 rfl) rfl rfl rfl ?_
            refine ol_val (v := .int .i64 (IntKind.i64.wrap (s5 + 1))) (by exact xr_move rfl rfl) rfl rfl rfl ?_
            refine ol_nil ?_
            obtain rfl := Option.some.inj h
            refine lp_in ?_
            exact ⟨e0, e5, rfl, fB⟩
      · refine cw_condF rfl c13 ?_
        refine cw_exit ?_
        repeat (first | with_reducible refine thn_e ?_ | with_reducible refine blk_e rfl ?_)
        obtain rfl := Option.some.inj h
        refine lp_exit ?_
        rintro rfl
        refine thn_x ?_
        exact ⟨_, rfl, fB⟩
  · rintro ρ26 w27 ⟨x9, rfl, fB⟩
    have h := h8
    refine cw_seq ?_
    refine cw_region ?_
    refine ol_val (v := .bool false) (by exact xr_assign rfl rfl) rfl rfl rfl ?_
    refine ol_nil ?_
    refine cw_ret ?_
    repeat (first | with_reducible refine thn_r ?_ | with_reducible refine blk_r ?_)
    obtain rfl := Option.some.inj h
    refine fin_ret1 Try.results141 rfl ?_
    exact ⟨_, rfl, rfl, fB⟩
end Go.Proofs.Ytjhajfkfhdnciaa

/- rickyard/name.Right: its model, and that the Go function computes it: written by gen.py. -/
set_option linter.unusedVariables false
namespace Go.Proofs.Ytjhajfkfhdnciaa
open Go Go.Xw
def name_Right.s0 (fu : Nat) (a0 : List UInt8) : (Int × Int) → Option (Sum (Sum Bool (Int × Int)) (Int × Int)) := fun s7 => (if (decide (s7.2 < (List.length a0 : Int))) = true then (((if (decide ((IntKind.i64.wrap (s7.1 + 1)) > 8)) = true then some (true) else ((name_Of.f fu (runeAt a0 s7.2) : Option Bool).bind fun t21 => some ((!t21)))) : Option Bool).bind fun x18 => (if x18 = true then some (Sum.inl (Sum.inl (false))) else some (Sum.inr ((IntKind.i64.wrap (s7.1 + 1)), (s7.2 + wideAt a0 s7.2))))) else some (Sum.inl (Sum.inr (s7.1, s7.2))))
def name_Right.f (fu : Nat) (a0 : List UInt8) : Option Bool := ((loopM (name_Right.s0 fu a0) fu (0, (0 : Int))).bind fun e8 => match e8 with | Sum.inl p => some p | Sum.inr x11 => some ((decide (x11.1 > 0))))
set_option maxRecDepth 100000 in
set_option maxHeartbeats 400000 in
theorem name_Right.ok (fu : Nat) (w : World) (a0 : List UInt8) (r : Bool) (h : name_Right.f fu a0 = some r) :
    Calls Try.prog 118 (([sv a0] : List Value).toArray) w (fun e w' => ∃ v, e = .returned v ∧ v = .bool r ∧ Gr w w') := by
  unfold name_Right.f at h
  have fB : Gr w w := Fr.refl _ _
  refine calls_cw Try.func118 rfl Try.ntmps118 rfl ?_
  refine cw_seq ?_
  refine cw_region ?_
  refine ol_val (v := .bool false) (by exact xr_assign rfl rfl) rfl rfl rfl ?_
  refine ol_nil ?_
  refine cw_seq ?_
  refine cw_region ?_
  refine ol_val (v := .int .i64 0) (by exact xr_assign rfl rfl) rfl rfl rfl ?_
  refine ol_nil ?_
  refine cw_seq ?_
  refine cw_seq ?_
  refine cw_region ?_
  refine ol_val (v := sv a0) (by exact xr_move rfl rfl) rfl rfl rfl ?_
  refine ol_op (by exact opv_range rfl Try.underlying9 rfl) rfl rfl rfl ?_
  rintro _ w6 ⟨G1, rfl, b2, q3, z4⟩
  have z4 := Nat.le_trans fB.size z4
  have fB := fB.gr q3
  refine ol_nil ?_
  obtain ⟨e8, l9, h10⟩ := bs h
  refine cw_mid (fun ρ' w' => ∃ x11, e8 = Sum.inr x11 ∧ ρ' 3 = .int .i64 x11.1 ∧ Gr w w') ?_ ?_
  · refine cw_block ?_
    refine cw_round (fun (s7 : Int × Int) ρ' w' => ρ' 3 = .int .i64 s7.1 ∧ ρ' 7 = .pointer (some ⟨G1, 0, none⟩) ∧ Itr w' G1 a0 s7.2 ∧ Gr w w') l9 ?_ ?_
    · skip
      exact ⟨rfl, rfl, b2, fB⟩
    · rintro s7 x14 ρ12 w13 ⟨e3, e7, b2, fB⟩ h
      unfold name_Right.s0 at h
      refine cw_seq ?_
      refine cw_region ?_
      rcases is h with ⟨c15, h⟩ | ⟨c15, h⟩
      · skip
        refine ol_op (by exact opv_nextT rfl e7 b2 c15) rfl rfl rfl ?_
        rintro _ w17 ⟨rfl, b2, q16⟩
        have fB := fB.wr q16 z4
        refine ol_val (v := .bool true) (by exact xr_extract rfl rfl rfl) rfl rfl rfl ?_
        refine ol_nil ?_
        refine cw_seq ?_
        refine cw_condT rfl rfl ?_
        refine cw_skip ?_
        refine cw_block ?_
        refine cw_seq ?_
        refine cw_region ?_
        refine ol_val (v := .int .i32 (runeAt a0 s7.2)) (by exact xr_extract rfl rfl rfl) rfl rfl rfl ?_
        refine ol_val (v := .int .i32 (runeAt a0 s7.2)) (by exact xr_assign rfl rfl) rfl rfl rfl ?_
        refine ol_nil ?_
        refine cw_seq ?_
        refine cw_region ?_
        refine ol_val (v := .int .i64 s7.1) (by exact xr_move rfl e3) rfl rfl rfl ?_
        refine ol_val (v := .int .i64 (IntKind.i64.wrap (s7.1 + 1))) (by exact xr_add rfl rfl rfl) rfl rfl rfl ?_
        refine ol_val (v := .int .i64 (IntKind.i64.wrap (s7.1 + 1))) (by exact xr_assign rfl rfl) rfl rfl rfl ?_
        refine ol_nil ?_
        refine cw_seq ?_
        obtain ⟨x18, j19, h⟩ := bs h
        refine cw_mid (fun ρ' w' => ρ' 3 = .int .i64 (IntKind.i64.wrap (s7.1 + 1)) ∧ ρ' 7 = .pointer (some ⟨G1, 0, none⟩) ∧ ρ' 19 = .bool x18 ∧ Gr w17 w') ?_ ?_
        · skip
          refine cw_region ?_
          refine ol_val (v := .int .i64 (IntKind.i64.wrap (s7.1 + 1))) (by exact xr_move rfl rfl) rfl rfl rfl ?_
          refine ol_val (v := .bool (decide ((IntKind.i64.wrap (s7.1 + 1)) > 8))) (by exact xr_gtr rfl rfl rfl) rfl rfl rfl ?_
          refine ol_val (v := .bool (decide ((IntKind.i64.wrap (s7.1 + 1)) > 8))) (by exact xr_move rfl rfl) rfl rfl rfl ?_
          rcases is j19 with ⟨c20, j19⟩ | ⟨c20, j19⟩
          · skip
            refine ol_gskip rfl rfl rfl rfl rfl c20 ?_
            refine ol_gskip rfl rfl rfl rfl rfl c20 ?_
            refine ol_gskip rfl rfl rfl rfl rfl c20 ?_
            refine ol_val (v := .bool true) (by exact xr_pickT rfl rfl c20 rfl) rfl rfl rfl ?_
            refine ol_nil ?_
            obtain rfl := Option.some.inj j19
            refine thn_i ?_
            exact ⟨rfl, e7, rfl, Fr.refl _ _⟩
          · skip
            refine ol_gval (v := .int .i32 (runeAt a0 s7.2)) (by exact xr_move rfl rfl) rfl rfl rfl rfl rfl c20 ?_
            obtain ⟨t21, k22, j19⟩ := bs j19
            refine ol_gop (by exact opv_call rfl cal141 (ac rfl an) (name_Of.ok fu _ (runeAt a0 s7.2) _ k22)) rfl rfl rfl rfl rfl c20 ?_
            rintro _ w24 ⟨rfl, q23⟩
            have b2 := b2.gr q23
            have fB := fB.gr q23
            refine ol_gval (v := .bool (!t21)) (by exact xr_not rfl rfl) rfl rfl rfl rfl rfl c20 ?_
            refine ol_val (v := .bool (!t21)) (by exact xr_pickF rfl rfl c20 rfl) rfl rfl rfl ?_
            refine ol_nil ?_
            obtain rfl := Option.some.inj j19
            refine thn_i ?_
            exact ⟨rfl, e7, rfl, q23⟩
        · skip
          rintro ρ25 w26 ⟨e3, e7, e19, q27⟩
          have b2 := b2.gr q27
          have fB := fB.gr q27
          rcases is h with ⟨c28, h⟩ | ⟨c28, h⟩
          · refine cw_condT e19 c28 ?_
            refine cw_seq ?_
            refine cw_region ?_
            refine ol_val (v := .bool false) (by exact xr_assign rfl rfl) rfl rfl rfl ?_
            refine ol_nil ?_
            refine cw_ret ?_
            repeat (first | with_reducible refine thn_r ?_ | with_reducible refine blk_r ?_)
            obtain rfl := Option.some.inj h
            refine lp_ret ?_
            rintro rfl
            repeat (first | with_reducible refine thn_r ?_ | with_reducible refine blk_r ?_)
            have h := h10
            obtain rfl := Option.some.inj h
            refine fin_ret1 Try.results118 rfl ?_
            exact ⟨_, rfl, rfl, fB⟩
          · refine cw_condF e19 c28 ?_
            refine cw_skip ?_
            refine blk_i ?_
            obtain rfl := Option.some.inj h
            refine lp_in ?_
            exact ⟨e3, e7, b2, fB⟩
      · skip
        refine ol_val (v := .tuple #[.bool false]) (by exact xr_nextF rfl e7 b2 c15) rfl rfl rfl ?_
        refine ol_val (v := .bool false) (by exact xr_extract rfl rfl rfl) rfl rfl rfl ?_
        refine ol_nil ?_
        refine cw_seq ?_
        refine cw_condF rfl rfl ?_
        refine cw_exit ?_
        repeat (first | with_reducible refine thn_e ?_ | with_reducible refine blk_e rfl ?_)
        obtain rfl := Option.some.inj h
        refine lp_exit ?_
        rintro rfl
        refine thn_x ?_
        exact ⟨_, rfl, e3, fB⟩
  · rintro ρ29 w30 ⟨x11, rfl, e3, fB⟩
    have h := h10
    refine cw_seq ?_
    refine cw_region ?_
    refine ol_val (v := .int .i64 x11.1) (by exact xr_move rfl e3) rfl rfl rfl ?_
    refine ol_val (v := .bool (decide (x11.1 > 0))) (by exact xr_gtr rfl rfl rfl) rfl rfl rfl ?_
    refine ol_val (v := .bool (decide (x11.1 > 0))) (by exact xr_assign rfl rfl) rfl rfl rfl ?_
    refine ol_nil ?_
    refine cw_ret ?_
    repeat (first | with_reducible refine thn_r ?_ | with_reducible refine blk_r ?_)
    obtain rfl := Option.some.inj h
    refine fin_ret1 Try.results118 rfl ?_
    exact ⟨_, rfl, rfl, fB⟩
end Go.Proofs.Ytjhajfkfhdnciaa

/- rickyard/label.blockNumber: its model, and that the Go function computes it: written by gen.py. -/
set_option linter.unusedVariables false
namespace Go.Proofs.Ytjhajfkfhdnciaa
open Go Go.Xw
def label_blockNumber.f (fu : Nat) (a0 : Int) : Option Bool := some ((if (decide (a0 ≥ 2)) = true then (decide (a0 < 3072)) else false))
set_option maxRecDepth 100000 in
set_option maxHeartbeats 400000 in
theorem label_blockNumber.ok (fu : Nat) (w : World) (a0 : Int) (r : Bool) (h : label_blockNumber.f fu a0 = some r) :
    Calls Try.prog 119 (([.int .i64 a0] : List Value).toArray) w (fun e w' => ∃ v, e = .returned v ∧ v = .bool r ∧ Gr w w') := by
  unfold label_blockNumber.f at h
  have fB : Gr w w := Fr.refl _ _
  refine calls_cw Try.func119 rfl Try.ntmps119 rfl ?_
  refine cw_seq ?_
  refine cw_region ?_
  refine ol_val (v := .bool false) (by exact xr_assign rfl rfl) rfl rfl rfl ?_
  refine ol_nil ?_
  refine cw_seq ?_
  refine cw_mid (fun ρ' w' => ρ' 2 = .bool (if (decide (a0 ≥ 2)) = true then (decide (a0 < 3072)) else false) ∧ w = w') ?_ ?_
  · skip
    refine cw_region ?_
    refine ol_val (v := .int .i64 a0) (by exact xr_move rfl rfl) rfl rfl rfl ?_
    refine ol_val (v := .bool (decide (a0 ≥ 2))) (by exact xr_geq rfl rfl rfl) rfl rfl rfl ?_
    refine ol_val (v := .bool (decide (a0 ≥ 2))) (by exact xr_move rfl rfl) rfl rfl rfl ?_
    rcases bt (decide (a0 ≥ 2)) with c1 | c1
    · skip
      refine ol_gval (v := .int .i64 a0) (by exact xr_move rfl rfl) rfl rfl rfl rfl rfl c1 ?_
      refine ol_gval (v := .bool (decide (a0 < 3072))) (by exact xr_lss rfl rfl rfl) rfl rfl rfl rfl rfl c1 ?_
      refine ol_val (v := .bool (decide (a0 < 3072))) (by exact xr_pickT rfl rfl c1 rfl) rfl rfl rfl ?_
      refine ol_val (v := .bool (decide (a0 < 3072))) (by exact xr_assign rfl rfl) rfl rfl rfl ?_
      refine ol_nil ?_
      refine thn_i ?_
      exact ⟨(rfl).trans (congrArg (fun z => (.bool z : Value)) (show (decide (a0 < 3072)) = (if (decide (a0 ≥ 2)) = true then (decide (a0 < 3072)) else false) from by rw [ite_t c1])), rfl⟩
    · skip
      refine ol_gskip rfl rfl rfl rfl rfl c1 ?_
      refine ol_gskip rfl rfl rfl rfl rfl c1 ?_
      refine ol_val (v := .bool false) (by exact xr_pickF rfl rfl c1 rfl) rfl rfl rfl ?_
      refine ol_val (v := .bool false) (by exact xr_assign rfl rfl) rfl rfl rfl ?_
      refine ol_nil ?_
      refine thn_i ?_
      exact ⟨(rfl).trans (congrArg (fun z => (.bool z : Value)) (show false = (if (decide (a0 ≥ 2)) = true then (decide (a0 < 3072)) else false) from by rw [ite_f c1])), rfl⟩
  · skip
    rintro ρ2 _ ⟨e2, rfl⟩
    refine cw_ret ?_
    repeat (first | with_reducible refine thn_r ?_ | with_reducible refine blk_r ?_)
    obtain rfl := Option.some.inj h
    refine fin_ret1 Try.results119 e2 ?_
    exact ⟨_, rfl, rfl, fB⟩
end Go.Proofs.Ytjhajfkfhdnciaa

/- rickyard/label.RightQueue: its model, and that the Go function computes it: written by gen.py. -/
set_option linter.unusedVariables false
namespace Go.Proofs.Ytjhajfkfhdnciaa
open Go Go.Xw
def label_RightQueue.s0 (fu : Nat) (a0 : S_api_Queue) : Int → Option (Sum (Sum Bool Unit) Int) := fun s19 => (if (decide (s19 < 12)) = true then (if 0 ≤ s19 ∧ s19 < 12 then (((if 0 ≤ s19 then (if (decide ((bAnd .i64 (shR .i64 a0.Count s19) 1) = 0)) = true then (if (!decide ((Arr.get a0.Roots s19) = 0)) = true then some (true) else (if 0 ≤ s19 then (if (decide ((bAnd .i64 (shR .i64 a0.Count s19) 1) = 1)) = true then ((label_blockNumber.f fu (Arr.get a0.Roots s19) : Option Bool).bind fun t36 => some ((!t36))) else some (false)) else none)) else (if 0 ≤ s19 then (if (decide ((bAnd .i64 (shR .i64 a0.Count s19) 1) = 1)) = true then ((label_blockNumber.f fu (Arr.get a0.Roots s19) : Option Bool).bind fun t42 => some ((!t42))) else some (false)) else none)) else none) : Option Bool).bind fun x29 => (if x29 = true then some (Sum.inl (Sum.inl (false))) else some (Sum.inr ((IntKind.i64.wrap (s19 + 1)))))) else none) else some (Sum.inl (Sum.inr ())))
def label_RightQueue.f (fu : Nat) (a0 : S_api_Queue) : Option Bool := ((((name_Right.f fu a0.Name : Option Bool).bind fun t9 => (if (!t9) = true then some (true) else (if (decide (a0.Count < 0)) = true then some (true) else some ((decide (a0.Count ≥ 4096)))))) : Option Bool).bind fun x7 => (if x7 = true then some (false) else ((loopM (label_RightQueue.s0 fu a0) fu (0)).bind fun e20 => match e20 with | Sum.inl p => some p | Sum.inr x23 => some (true))))
set_option maxRecDepth 100000 in
set_option maxHeartbeats 400000 in
theorem label_RightQueue.ok (fu : Nat) (w : World) (a0 : S_api_Queue) (r : Bool) (h : label_RightQueue.f fu a0 = some r) :
    Calls Try.prog 76 (([aggV [Seg.cell (sv a0.Name), Seg.cell (.int .i64 a0.Count), Kd.seg (kA 12 (kI .i64)) a0.Roots]] : List Value).toArray) w (fun e w' => ∃ v, e = .returned v ∧ v = .bool r ∧ Gr w w') := by
  unfold label_RightQueue.f at h
  have fB : Gr w w := Fr.refl _ _
  refine calls_cw Try.func76 rfl Try.ntmps76 rfl ?_
  refine cw_seq ?_
  refine cw_region ?_
  refine ol_op (by exact opv_box (ss := [Seg.cell (sv a0.Name), Seg.cell (.int .i64 a0.Count), Kd.seg (kA 12 (kI .i64)) a0.Roots]) rfl rfl rfl) rfl rfl rfl ?_
  rintro _ w6 ⟨G1, rfl, b2, q3, z4⟩
  have z4 := Nat.le_trans fB.size z4
  have fB := fB.gr q3
  refine ol_val (v := .bool false) (by exact xr_assign rfl rfl) rfl rfl rfl ?_
  refine ol_nil ?_
  refine cw_seq ?_
  refine cw_seq ?_
  obtain ⟨x7, j8, h⟩ := bs h
  refine cw_mid (fun ρ' w' => ρ' 1 = .pointer (some ⟨G1, 0, none⟩) ∧ ρ' 18 = .bool x7 ∧ Gr w6 w') ?_ ?_
  · skip
    refine cw_region ?_
    refine ol_val (v := .pointer (some ⟨G1, 0, none⟩)) (by exact xr_fieldAddr (p := 0) (q := 0) rfl fl98_0 rfl) rfl rfl rfl ?_
    refine ol_val (v := sv a0.Name) (by exact xr_load1 (v := sv a0.Name) rfl ag9 rfl (b2.seg 0 rfl rfl)) rfl rfl rfl ?_
    obtain ⟨t9, k10, j8⟩ := bs j8
    refine ol_op (by exact opv_call rfl cal118 (ac rfl an) (name_Right.ok fu _ a0.Name _ k10)) rfl rfl rfl ?_
    rintro _ w12 ⟨rfl, q11⟩
    have b2 := b2.gr q11
    have fB := fB.gr q11
    refine ol_val (v := .bool (!t9)) (by exact xr_not rfl rfl) rfl rfl rfl ?_
    refine ol_val (v := .bool (!t9)) (by exact xr_move rfl rfl) rfl rfl rfl ?_
    rcases is j8 with ⟨c13, j8⟩ | ⟨c13, j8⟩
    · skip
      refine ol_gskip rfl rfl rfl rfl rfl c13 ?_
      refine ol_gskip rfl rfl rfl rfl rfl c13 ?_
      refine ol_gskip rfl rfl rfl rfl rfl c13 ?_
      refine ol_val (v := .bool true) (by exact xr_pickT rfl rfl c13 rfl) rfl rfl rfl ?_
      refine ol_val (v := .bool true) (by exact xr_move rfl rfl) rfl rfl rfl ?_
      refine ol_gskip rfl rfl rfl rfl rfl rfl ?_
      refine ol_gskip rfl rfl rfl rfl rfl rfl ?_
      refine ol_gskip rfl rfl rfl rfl rfl rfl ?_
      refine ol_val (v := .bool true) (by exact xr_pickT rfl rfl rfl rfl) rfl rfl rfl ?_
      refine ol_nil ?_
      obtain rfl := Option.some.inj j8
      refine thn_i ?_
      exact ⟨rfl, rfl, q11⟩
    · skip
      refine ol_gval (v := .pointer (some ⟨G1, 1, none⟩)) (by exact xr_fieldAddr (p := 0) (q := 1) rfl fl98_1 rfl) rfl rfl rfl rfl rfl c13 ?_
      refine ol_gval (v := .int .i64 a0.Count) (by exact xr_load1 (v := .int .i64 a0.Count) rfl ag3 rfl (b2.seg 1 rfl rfl)) rfl rfl rfl rfl rfl c13 ?_
      refine ol_gval (v := .bool (decide (a0.Count < 0))) (by exact xr_lss rfl rfl rfl) rfl rfl rfl rfl rfl c13 ?_
      refine ol_val (v := .bool (decide (a0.Count < 0))) (by exact xr_pickF rfl rfl c13 rfl) rfl rfl rfl ?_
      refine ol_val (v := .bool (decide (a0.Count < 0))) (by exact xr_move rfl rfl) rfl rfl rfl ?_
      rcases is j8 with ⟨c14, j8⟩ | ⟨c14, j8⟩
      · skip
        refine ol_gskip rfl rfl rfl rfl rfl c14 ?_
        refine ol_gskip rfl rfl rfl rfl rfl c14 ?_
        refine ol_gskip rfl rfl rfl rfl rfl c14 ?_
        refine ol_val (v := .bool true) (by exact xr_pickT rfl rfl c14 rfl) rfl rfl rfl ?_
        refine ol_nil ?_
        obtain rfl := Option.some.inj j8
        refine thn_i ?_
        exact ⟨rfl, rfl, q11⟩
      · skip
        refine ol_gval (v := .pointer (some ⟨G1, 1, none⟩)) (by exact xr_fieldAddr (p := 0) (q := 1) rfl fl98_1 rfl) rfl rfl rfl rfl rfl c14 ?_
        refine ol_gval (v := .int .i64 a0.Count) (by exact xr_load1 (v := .int .i64 a0.Count) rfl ag3 rfl (b2.seg 1 rfl rfl)) rfl rfl rfl rfl rfl c14 ?_
        refine ol_gval (v := .bool (decide (a0.Count ≥ 4096))) (by exact xr_geq rfl rfl rfl) rfl rfl rfl rfl rfl c14 ?_
        refine ol_val (v := .bool (decide (a0.Count ≥ 4096))) (by exact xr_pickF rfl rfl c14 rfl) rfl rfl rfl ?_
        refine ol_nil ?_
        obtain rfl := Option.some.inj j8
        refine thn_i ?_
        exact ⟨rfl, rfl, q11⟩
  · skip
    rintro ρ15 w16 ⟨e1, e18, q17⟩
    have b2 := b2.gr q17
    have fB := fB.gr q17
    rcases is h with ⟨c18, h⟩ | ⟨c18, h⟩
    · refine cw_condT e18 c18 ?_
      refine cw_seq ?_
      refine cw_region ?_
      refine ol_val (v := .bool false) (by exact xr_assign rfl rfl) rfl rfl rfl ?_
      refine ol_nil ?_
      refine cw_ret ?_
      repeat (first | with_reducible refine thn_r ?_ | with_reducible refine blk_r ?_)
      obtain rfl := Option.some.inj h
      refine fin_ret1 Try.results76 rfl ?_
      exact ⟨_, rfl, rfl, fB⟩
    · refine cw_condF e18 c18 ?_
      refine cw_skip ?_
      refine cw_seq ?_
      refine cw_seq ?_
      refine cw_region ?_
      refine ol_val (v := .pointer (some ⟨G1, 2, none⟩)) (by exact xr_fieldAddr (p := 0) (q := 2) rfl fl98_2 e1) rfl rfl rfl ?_
      refine ol_val (v := aggV [Kd.seg (kA 12 (kI .i64)) a0.Roots]) (by exact xr_loadS (ss := [Kd.seg (kA 12 (kI .i64)) a0.Roots]) rfl ag96 sz96 rfl rfl (b2.segs 2 1 rfl)) rfl rfl rfl ?_
      refine ol_val (v := .int .i64 0) (by exact xr_move rfl rfl) rfl rfl rfl ?_
      refine ol_nil ?_
      obtain ⟨e20, l21, h22⟩ := bs h
      refine cw_mid (fun ρ' w' => ∃ x23, e20 = Sum.inr x23 ∧ Gr w w') ?_ ?_
      · refine cw_block ?_
        refine cw_round (fun (s19 : Int) ρ' w' => ρ' 1 = .pointer (some ⟨G1, 0, none⟩) ∧ ρ' 20 = aggV [Kd.seg (kA 12 (kI .i64)) a0.Roots] ∧ ρ' 21 = .int .i64 s19 ∧ Blk w' G1 98 [Seg.cell (sv a0.Name), Seg.cell (.int .i64 a0.Count), Kd.seg (kA 12 (kI .i64)) a0.Roots] ∧ Gr w w') l21 ?_ ?_
        · skip
          exact ⟨e1, rfl, rfl, b2, fB⟩
        · rintro s19 x26 ρ24 w25 ⟨e1, e20, e21, b2, fB⟩ h
          unfold label_RightQueue.s0 at h
          refine cw_seq ?_
          refine cw_region ?_
          refine ol_val (v := .bool (decide (s19 < 12))) (by exact xr_lss rfl e21 rfl) rfl rfl rfl ?_
          refine ol_nil ?_
          refine cw_seq ?_
          rcases is h with ⟨c27, h⟩ | ⟨c27, h⟩
          · refine cw_condT rfl c27 ?_
            refine cw_skip ?_
            refine cw_seq ?_
            refine cw_block ?_
            refine cw_seq ?_
            refine cw_region ?_
            refine ol_val (v := .int .i64 s19) (by exact xr_move rfl e21) rfl rfl rfl ?_
            obtain ⟨g28, h⟩ := gs h
            refine ol_val (v := .int .i64 (Arr.get a0.Roots s19)) (by exact xr_indexArr1 (K := (kI .i64)) (a := a0.Roots) (v := .int .i64 (Arr.get a0.Roots s19)) rfl Try.underlying96 ag3 sz3 e20 e21 rfl g28.1 g28.2 rfl) rfl rfl rfl ?_
            refine ol_val (v := .int .i64 s19) (by exact xr_assign rfl rfl) rfl rfl rfl ?_
            refine ol_val (v := .int .i64 (Arr.get a0.Roots s19)) (by exact xr_assign rfl rfl) rfl rfl rfl ?_
            refine ol_nil ?_
            refine cw_seq ?_
            obtain ⟨x29, j30, h⟩ := bs h
            refine cw_mid (fun ρ' w' => ρ' 1 = .pointer (some ⟨G1, 0, none⟩) ∧ ρ' 20 = aggV [Kd.seg (kA 12 (kI .i64)) a0.Roots] ∧ ρ' 21 = .int .i64 s19 ∧ ρ' 47 = .bool x29 ∧ Gr w25 w') ?_ ?_
            · skip
              refine cw_region ?_
              refine ol_val (v := .pointer (some ⟨G1, 1, none⟩)) (by exact xr_fieldAddr (p := 0) (q := 1) rfl fl98_1 e1) rfl rfl rfl ?_
              refine ol_val (v := .int .i64 a0.Count) (by exact xr_load1 (v := .int .i64 a0.Count) rfl ag3 rfl (b2.seg 1 rfl rfl)) rfl rfl rfl ?_
              refine ol_val (v := .int .i64 s19) (by exact xr_move rfl rfl) rfl rfl rfl ?_
              obtain ⟨g31, j30⟩ := gs j30
              refine ol_val (v := .int .i64 (shR .i64 a0.Count s19)) (by exact xr_shr rfl rfl rfl g31) rfl rfl rfl ?_
              refine ol_val (v := .int .i64 (bAnd .i64 (shR .i64 a0.Count s19) 1)) (by exact xr_and rfl rfl rfl) rfl rfl rfl ?_
              refine ol_val (v := .bool (decide ((bAnd .i64 (shR .i64 a0.Count s19) 1) = 0))) (by exact xr_eqI rfl Try.underlying3 rfl rfl rfl) rfl rfl rfl ?_
              refine ol_val (v := .bool (decide ((bAnd .i64 (shR .i64 a0.Count s19) 1) = 0))) (by exact xr_move rfl rfl) rfl rfl rfl ?_
              rcases is j30 with ⟨c32, j30⟩ | ⟨c32, j30⟩
              · skip
                refine ol_gval (v := .int .i64 (Arr.get a0.Roots s19)) (by exact xr_move rfl rfl) rfl rfl rfl rfl rfl c32 ?_
                refine ol_gval (v := .bool (!decide ((Arr.get a0.Roots s19) = 0))) (by exact xr_neI rfl Try.underlying3 rfl rfl rfl) rfl rfl rfl rfl rfl c32 ?_
                refine ol_val (v := .bool (!decide ((Arr.get a0.Roots s19) = 0))) (by exact xr_pickT rfl rfl c32 rfl) rfl rfl rfl ?_
                refine ol_val (v := .bool (!decide ((Arr.get a0.Roots s19) = 0))) (by exact xr_move rfl rfl) rfl rfl rfl ?_
                rcases is j30 with ⟨c33, j30⟩ | ⟨c33, j30⟩
                · skip
                  refine ol_gskip rfl rfl rfl rfl rfl c33 ?_
                  refine ol_gskip rfl rfl rfl rfl rfl c33 ?_
                  refine ol_gskip rfl rfl rfl rfl rfl c33 ?_
                  refine ol_gskip rfl rfl rfl rfl rfl c33 ?_
                  refine ol_gskip rfl rfl rfl rfl rfl c33 ?_
                  refine ol_gskip rfl rfl rfl rfl rfl c33 ?_
                  refine ol_gskip rfl rfl rfl rfl rfl c33 ?_
                  refine ol_uskip rfl rfl rfl rfl rfl ?_
                  refine ol_uskip rfl rfl rfl rfl rfl ?_
                  refine ol_uskip rfl rfl rfl rfl rfl ?_
                  refine ol_gskip rfl rfl rfl rfl rfl c33 ?_
                  refine ol_val (v := .bool true) (by exact xr_pickT rfl rfl c33 rfl) rfl rfl rfl ?_
                  refine ol_nil ?_
                  obtain rfl := Option.some.inj j30
                  refine thn_i ?_
                  exact ⟨e1, e20, e21, rfl, Fr.refl _ _⟩
                · skip
                  refine ol_gval (v := .pointer (some ⟨G1, 1, none⟩)) (by exact xr_fieldAddr (p := 0) (q := 1) rfl fl98_1 e1) rfl rfl rfl rfl rfl c33 ?_
                  refine ol_gval (v := .int .i64 a0.Count) (by exact xr_load1 (v := .int .i64 a0.Count) rfl ag3 rfl (b2.seg 1 rfl rfl)) rfl rfl rfl rfl rfl c33 ?_
                  refine ol_gval (v := .int .i64 s19) (by exact xr_move rfl rfl) rfl rfl rfl rfl rfl c33 ?_
                  obtain ⟨g34, j30⟩ := gs j30
                  refine ol_gval (v := .int .i64 (shR .i64 a0.Count s19)) (by exact xr_shr rfl rfl rfl g34) rfl rfl rfl rfl rfl c33 ?_
                  refine ol_gval (v := .int .i64 (bAnd .i64 (shR .i64 a0.Count s19) 1)) (by exact xr_and rfl rfl rfl) rfl rfl rfl rfl rfl c33 ?_
                  refine ol_gval (v := .bool (decide ((bAnd .i64 (shR .i64 a0.Count s19) 1) = 1))) (by exact xr_eqI rfl Try.underlying3 rfl rfl rfl) rfl rfl rfl rfl rfl c33 ?_
                  refine ol_gval (v := .bool (decide ((bAnd .i64 (shR .i64 a0.Count s19) 1) = 1))) (by exact xr_move rfl rfl) rfl rfl rfl rfl rfl c33 ?_
                  rcases is j30 with ⟨c35, j30⟩ | ⟨c35, j30⟩
                  · skip
                    refine ol_gval (v := .int .i64 (Arr.get a0.Roots s19)) (by exact xr_move rfl rfl) rfl rfl rfl rfl rfl c35 ?_
                    obtain ⟨t36, k37, j30⟩ := bs j30
                    refine ol_gop (by exact opv_call rfl cal119 (ac rfl an) (label_blockNumber.ok fu _ (Arr.get a0.Roots s19) _ k37)) rfl rfl rfl rfl rfl c35 ?_
                    rintro _ w39 ⟨rfl, q38⟩
                    have b2 := b2.gr q38
                    have fB := fB.gr q38
                    refine ol_gval (v := .bool (!t36)) (by exact xr_not rfl rfl) rfl rfl rfl rfl rfl c35 ?_
                    refine ol_gval (v := .bool (!t36)) (by exact xr_pickT rfl rfl c35 rfl) rfl rfl rfl rfl rfl c33 ?_
                    refine ol_val (v := .bool (!t36)) (by exact xr_pickF rfl rfl c33 rfl) rfl rfl rfl ?_
                    refine ol_nil ?_
                    obtain rfl := Option.some.inj j30
                    refine thn_i ?_
                    exact ⟨e1, e20, e21, rfl, q38⟩
                  · skip
                    refine ol_gskip rfl rfl rfl rfl rfl c35 ?_
                    refine ol_gskip rfl rfl rfl rfl rfl c35 ?_
                    refine ol_gskip rfl rfl rfl rfl rfl c35 ?_
                    refine ol_gval (v := .bool false) (by exact xr_pickF rfl rfl c35 rfl) rfl rfl rfl rfl rfl c33 ?_
                    refine ol_val (v := .bool false) (by exact xr_pickF rfl rfl c33 rfl) rfl rfl rfl ?_
                    refine ol_nil ?_
                    obtain rfl := Option.some.inj j30
                    refine thn_i ?_
                    exact ⟨e1, e20, e21, rfl, Fr.refl _ _⟩
              · skip
                refine ol_gskip rfl rfl rfl rfl rfl c32 ?_
                refine ol_gskip rfl rfl rfl rfl rfl c32 ?_
                refine ol_val (v := .bool false) (by exact xr_pickF rfl rfl c32 rfl) rfl rfl rfl ?_
                refine ol_val (v := .bool false) (by exact xr_move rfl rfl) rfl rfl rfl ?_
                refine ol_gval (v := .pointer (some ⟨G1, 1, none⟩)) (by exact xr_fieldAddr (p := 0) (q := 1) rfl fl98_1 e1) rfl rfl rfl rfl rfl rfl ?_
                refine ol_gval (v := .int .i64 a0.Count) (by exact xr_load1 (v := .int .i64 a0.Count) rfl ag3 rfl (b2.seg 1 rfl rfl)) rfl rfl rfl rfl rfl rfl ?_
                refine ol_gval (v := .int .i64 s19) (by exact xr_move rfl rfl) rfl rfl rfl rfl rfl rfl ?_
                obtain ⟨g40, j30⟩ := gs j30
                refine ol_gval (v := .int .i64 (shR .i64 a0.Count s19)) (by exact xr_shr rfl rfl rfl g40) rfl rfl rfl rfl rfl rfl ?_
                refine ol_gval (v := .int .i64 (bAnd .i64 (shR .i64 a0.Count s19) 1)) (by exact xr_and rfl rfl rfl) rfl rfl rfl rfl rfl rfl ?_
                refine ol_gval (v := .bool (decide ((bAnd .i64 (shR .i64 a0.Count s19) 1) = 1))) (by exact xr_eqI rfl Try.underlying3 rfl rfl rfl) rfl rfl rfl rfl rfl rfl ?_
                refine ol_gval (v := .bool (decide ((bAnd .i64 (shR .i64 a0.Count s19) 1) = 1))) (by exact xr_move rfl rfl) rfl rfl rfl rfl rfl rfl ?_
                rcases is j30 with ⟨c41, j30⟩ | ⟨c41, j30⟩
                · skip
                  refine ol_gval (v := .int .i64 (Arr.get a0.Roots s19)) (by exact xr_move rfl rfl) rfl rfl rfl rfl rfl c41 ?_
                  obtain ⟨t42, k43, j30⟩ := bs j30
                  refine ol_gop (by exact opv_call rfl cal119 (ac rfl an) (label_blockNumber.ok fu _ (Arr.get a0.Roots s19) _ k43)) rfl rfl rfl rfl rfl c41 ?_
                  rintro _ w45 ⟨rfl, q44⟩
                  have b2 := b2.gr q44
                  have fB := fB.gr q44
                  refine ol_gval (v := .bool (!t42)) (by exact xr_not rfl rfl) rfl rfl rfl rfl rfl c41 ?_
                  refine ol_gval (v := .bool (!t42)) (by exact xr_pickT rfl rfl c41 rfl) rfl rfl rfl rfl rfl rfl ?_
                  refine ol_val (v := .bool (!t42)) (by exact xr_pickF rfl rfl rfl rfl) rfl rfl rfl ?_
                  refine ol_nil ?_
                  obtain rfl := Option.some.inj j30
                  refine thn_i ?_
                  exact ⟨e1, e20, e21, rfl, q44⟩
                · skip
                  refine ol_gskip rfl rfl rfl rfl rfl c41 ?_
                  refine ol_gskip rfl rfl rfl rfl rfl c41 ?_
                  refine ol_gskip rfl rfl rfl rfl rfl c41 ?_
                  refine ol_gval (v := .bool false) (by exact xr_pickF rfl rfl c41 rfl) rfl rfl rfl rfl rfl rfl ?_
                  refine ol_val (v := .bool false) (by exact xr_pickF rfl rfl rfl rfl) rfl rfl rfl ?_
                  refine ol_nil ?_
                  obtain rfl := Option.some.inj j30
                  refine thn_i ?_
                  exact ⟨e1, e20, e21, rfl, Fr.refl _ _⟩
            · skip
              rintro ρ46 w47 ⟨e1, e20, e21, e47, q48⟩
              have b2 := b2.gr q48
              have fB := fB.gr q48
              rcases is h with ⟨c49, h⟩ | ⟨c49, h⟩
              · refine cw_condT e47 c49 ?_
                refine cw_seq ?_
                refine cw_region ?_
                refine ol_val (v := .bool false) (by exact xr_assign rfl rfl) rfl rfl rfl ?_
                refine ol_nil ?_
                refine cw_ret ?_
                repeat (first | with_reducible refine thn_r ?_ | with_reducible refine blk_r ?_)
                obtain rfl := Option.some.inj h
                refine lp_ret ?_
                rintro rfl
                repeat (first | with_reducible refine thn_r ?_ | with_reducible refine blk_r ?_)
                have h := h22
                obtain rfl := Option.some.inj h
                refine fin_ret1 Try.results76 rfl ?_
                exact ⟨_, rfl, rfl, fB⟩
              · refine cw_condF e47 c49 ?_
                refine cw_skip ?_
                refine blk_i ?_
                refine cw_region ?_
                refine ol_val (v := .int .i64 (IntKind.i64.wrap (s19 + 1))) (by exact xr_add rfl e21 rfl) rfl rfl rfl ?_
                refine ol_val (v := .int .i64 (IntKind.i64.wrap (s19 + 1))) (by exact xr_move rfl rfl) rfl rfl rfl ?_
                refine ol_nil ?_
                obtain rfl := Option.some.inj h
                refine lp_in ?_
                exact ⟨e1, e20, rfl, b2, fB⟩
          · refine cw_condF rfl c27 ?_
            refine cw_exit ?_
            repeat (first | with_reducible refine thn_e ?_ | with_reducible refine blk_e rfl ?_)
            obtain rfl := Option.some.inj h
            refine lp_exit ?_
            rintro rfl
            refine thn_x ?_
            exact ⟨_, rfl, fB⟩
      · rintro ρ50 w51 ⟨x23, rfl, fB⟩
        have h := h22
        refine cw_seq ?_
        refine cw_region ?_
        refine ol_val (v := .bool true) (by exact xr_assign rfl rfl) rfl rfl rfl ?_
        refine ol_nil ?_
        refine cw_ret ?_
        repeat (first | with_reducible refine thn_r ?_ | with_reducible refine blk_r ?_)
        obtain rfl := Option.some.inj h
        refine fin_ret1 Try.results76 rfl ?_
        exact ⟨_, rfl, rfl, fB⟩
end Go.Proofs.Ytjhajfkfhdnciaa

/- rickyard/label.PutQueue: its model, and that the Go function computes it: written by gen.py. -/
set_option linter.unusedVariables false
namespace Go.Proofs.Ytjhajfkfhdnciaa
open Go Go.Xw
def label_PutQueue.s0 (fu : Nat) (a0 : S_api_Queue) : ((List Int) × Int) → Option (Sum (List Int) ((List Int) × Int)) := fun s22 => (if (decide (s22.2 < 12)) = true then (if 0 ≤ s22.2 ∧ s22.2 < 12 then ((octet_Lay.f fu (IntKind.u64.wrap (Arr.get a0.Roots s22.2)) 2 : Option (List Int)).bind fun t37 => (if List.length s22.1 + List.length t37 ≤ LIM then some (Sum.inr ((s22.1 ++ t37), (IntKind.i64.wrap (s22.2 + 1)))) else none)) else none) else some (Sum.inl (s22.1)))
def label_PutQueue.f (fu : Nat) (a0 : S_api_Queue) : Option ((List Int) × Bool) := ((label_RightQueue.f fu a0 : Option Bool).bind fun t10 => (if (!t10) = true then some ([], false) else ((octet_Lay.f fu (IntKind.u64.wrap a0.Count) 4 : Option (List Int)).bind fun t15 => ((loopM (label_PutQueue.s0 fu a0) fu (t15, 0)).bind fun e23 => (if List.length e23 + List.length a0.Name ≤ LIM then ((block_Seal.f fu 5 (List.length a0.Name : Int) (e23 ++ List.map ofB a0.Name) : Option ((List Int) × Bool)).bind fun t65 => some (t65.1, t65.2)) else none)))))
set_option maxRecDepth 100000 in
set_option maxHeartbeats 400000 in
theorem label_PutQueue.ok (fu : Nat) (w : World) (a0 : S_api_Queue) (r : (List Int) × Bool) (h : label_PutQueue.f fu a0 = some r) :
    Calls Try.prog 74 (([aggV [Seg.cell (sv a0.Name), Seg.cell (.int .i64 a0.Count), Kd.seg (kA 12 (kI .i64)) a0.Roots]] : List Value).toArray) w (fun e w' => ∃ v, e = .returned v ∧ ∃ u1 : Value, ∃ o2 : Own (kI .u8) 5 w' w.heap.size u1 r.1, v = .tuple #[u1, .bool r.2] ∧ Gr w w') := by
  unfold label_PutQueue.f at h
  have fB : Gr w w := Fr.refl _ _
  refine calls_cw Try.func74 rfl Try.ntmps74 rfl ?_
  refine cw_seq ?_
  refine cw_region ?_
  refine ol_op (by exact opv_box (ss := [Seg.cell (sv a0.Name), Seg.cell (.int .i64 a0.Count), Kd.seg (kA 12 (kI .i64)) a0.Roots]) rfl rfl rfl) rfl rfl rfl ?_
  rintro _ w9 ⟨G4, rfl, b5, q6, z7⟩
  have z7 := Nat.le_trans fB.size z7
  have fB := fB.gr q6
  refine ol_val (v := .slice none 0 0) (by exact xr_assign rfl rfl) rfl rfl rfl ?_
  refine ol_val (v := .bool false) (by exact xr_assign rfl rfl) rfl rfl rfl ?_
  refine ol_nil ?_
  refine cw_seq ?_
  refine cw_seq ?_
  refine cw_region ?_
  refine ol_val (v := aggV [Seg.cell (sv a0.Name), Seg.cell (.int .i64 a0.Count), Kd.seg (kA 12 (kI .i64)) a0.Roots]) (by exact xr_loadS (ss := [Seg.cell (sv a0.Name), Seg.cell (.int .i64 a0.Count), Kd.seg (kA 12 (kI .i64)) a0.Roots]) rfl ag98 sz98 rfl rfl (b5.segs 0 3 rfl)) rfl rfl rfl ?_
  obtain ⟨t10, k11, h⟩ := bs h
  refine ol_op (by exact opv_call rfl cal76 (ac rfl an) (label_RightQueue.ok fu _ a0 _ k11)) rfl rfl rfl ?_
  rintro _ w13 ⟨rfl, q12⟩
  have b5 := b5.gr q12
  have fB := fB.gr q12
  refine ol_val (v := .bool (!t10)) (by exact xr_not rfl rfl) rfl rfl rfl ?_
  refine ol_nil ?_
  rcases is h with ⟨c14, h⟩ | ⟨c14, h⟩
  · refine cw_condT rfl c14 ?_
    refine cw_seq ?_
    refine cw_region ?_
    refine ol_val (v := .slice none 0 0) (by exact xr_assign rfl rfl) rfl rfl rfl ?_
    refine ol_val (v := .bool false) (by exact xr_assign rfl rfl) rfl rfl rfl ?_
    refine ol_nil ?_
    refine cw_ret ?_
    repeat (first | with_reducible refine thn_r ?_ | with_reducible refine blk_r ?_)
    obtain rfl := Option.some.inj h
    refine fin_ret2 Try.results74 rfl rfl ?_
    exact ⟨_, rfl, (.slice none 0 0), Own.nil _ _ _ _, rfl, fB⟩
  · refine cw_condF rfl c14 ?_
    refine cw_skip ?_
    refine cw_seq ?_
    refine cw_region ?_
    refine ol_val (v := .pointer (some ⟨G4, 1, none⟩)) (by exact xr_fieldAddr (p := 0) (q := 1) rfl fl98_1 rfl) rfl rfl rfl ?_
    refine ol_val (v := .int .i64 a0.Count) (by exact xr_load1 (v := .int .i64 a0.Count) rfl ag3 rfl (b5.seg 1 rfl rfl)) rfl rfl rfl ?_
    refine ol_val (v := .int .u64 (IntKind.u64.wrap a0.Count)) (by exact xr_conv rfl Try.underlying3 Try.underlying129 rfl) rfl rfl rfl ?_
    obtain ⟨t15, k16, h⟩ := bs h
    refine ol_op (by exact opv_call rfl cal95 (ac rfl (ac rfl an)) (octet_Lay.ok fu _ (IntKind.u64.wrap a0.Count) 4 _ k16)) rfl rfl rfl ?_
    rintro u17 w21 ⟨_, o18, rfl, q20⟩
    have o18 := Own.base o18 fB.size
    have b5 := b5.gr q20
    have fB := fB.gr q20
    refine ol_val (v := u17) (by exact xr_assign rfl rfl) rfl rfl rfl ?_
    refine ol_nil ?_
    refine cw_seq ?_
    refine cw_seq ?_
    refine cw_region ?_
    refine ol_val (v := .pointer (some ⟨G4, 2, none⟩)) (by exact xr_fieldAddr (p := 0) (q := 2) rfl fl98_2 rfl) rfl rfl rfl ?_
    refine ol_val (v := aggV [Kd.seg (kA 12 (kI .i64)) a0.Roots]) (by exact xr_loadS (ss := [Kd.seg (kA 12 (kI .i64)) a0.Roots]) rfl ag96 sz96 rfl rfl (b5.segs 2 1 rfl)) rfl rfl rfl ?_
    refine ol_val (v := .int .i64 0) (by exact xr_move rfl rfl) rfl rfl rfl ?_
    refine ol_nil ?_
    obtain ⟨e23, l24, h25⟩ := bs h
    refine cw_mid (fun ρ' w' => ∃ v26 : Value, ∃ o27 : Own (kI .u8) 5 w' w.heap.size v26 e23, ρ' 1 = .pointer (some ⟨G4, 0, none⟩) ∧ ρ' 4 = v26 ∧ Blk w' G4 98 [Seg.cell (sv a0.Name), Seg.cell (.int .i64 a0.Count), Kd.seg (kA 12 (kI .i64)) a0.Roots] ∧ Gr w w') ?_ ?_
    · refine cw_block ?_
      refine cw_round (fun (s22 : (List Int) × Int) ρ' w' => ∃ v29 : Value, ∃ o30 : Own (kI .u8) 5 w' w.heap.size v29 s22.1, ρ' 1 = .pointer (some ⟨G4, 0, none⟩) ∧ ρ' 4 = v29 ∧ ρ' 15 = aggV [Kd.seg (kA 12 (kI .i64)) a0.Roots] ∧ ρ' 16 = .int .i64 s22.2 ∧ Blk w' G4 98 [Seg.cell (sv a0.Name), Seg.cell (.int .i64 a0.Count), Kd.seg (kA 12 (kI .i64)) a0.Roots] ∧ Gr w w') l24 ?_ ?_
      · skip
        exact ⟨u17, o18, rfl, rfl, rfl, rfl, b5, fB⟩
      · rintro s22 x34 ρ32 w33 ⟨v29, o30, e1, e4, e15, e16, b5, fB⟩ h
        unfold label_PutQueue.s0 at h
        refine cw_seq ?_
        refine cw_region ?_
        refine ol_val (v := .bool (decide (s22.2 < 12))) (by exact xr_lss rfl e16 rfl) rfl rfl rfl ?_
        refine ol_nil ?_
        refine cw_seq ?_
        rcases is h with ⟨c35, h⟩ | ⟨c35, h⟩
        · refine cw_condT rfl c35 ?_
          refine cw_skip ?_
          refine cw_seq ?_
          refine cw_block ?_
          refine cw_seq ?_
          refine cw_region ?_
          obtain ⟨g36, h⟩ := gs h
          refine ol_val (v := .int .i64 (Arr.get a0.Roots s22.2)) (by exact xr_indexArr1 (K := (kI .i64)) (a := a0.Roots) (v := .int .i64 (Arr.get a0.Roots s22.2)) rfl Try.underlying96 ag3 sz3 e15 e16 rfl g36.1 g36.2 rfl) rfl rfl rfl ?_
          refine ol_val (v := .int .i64 (Arr.get a0.Roots s22.2)) (by exact xr_assign rfl rfl) rfl rfl rfl ?_
          refine ol_nil ?_
          refine cw_region ?_
          refine ol_val (v := v29) (by exact xr_move rfl e4) rfl rfl rfl ?_
          refine ol_val (v := .int .i64 (Arr.get a0.Roots s22.2)) (by exact xr_move rfl rfl) rfl rfl rfl ?_
          refine ol_val (v := .int .u64 (IntKind.u64.wrap (Arr.get a0.Roots s22.2))) (by exact xr_conv rfl Try.underlying3 Try.underlying129 rfl) rfl rfl rfl ?_
          obtain ⟨t37, k38, h⟩ := bs h
          refine ol_op (by exact opv_call rfl cal95 (ac rfl (ac rfl an)) (octet_Lay.ok fu _ (IntKind.u64.wrap (Arr.get a0.Roots s22.2)) 2 _ k38)) rfl rfl rfl ?_
          rintro u39 w43 ⟨_, o40, rfl, q42⟩
          have a44 := OffV.call o30 o40
          have o40 := Own.base o40 fB.size
          have b5 := b5.gr q42
          have o30 := o30.gr q42
          have fB := fB.gr q42
          obtain ⟨g49, h⟩ := gs h
          have f51 := off_ty b5 o30 (by decide)
          have f52 := o30.geO
          refine ol_op (by exact opv_append (K := (kI .u8)) rfl Try.underlying22 el5 rfl rfl rfl rfl rfl o30 o40.rd g49 fB.size) rfl rfl rfl ?_
          rintro v45 w53 ⟨o46, q47, n48⟩
          have b5 := b5.wrO q47 f51
          have fB := fB.wrO q47 f52
          refine ol_val (v := v45) (by exact xr_assign rfl rfl) rfl rfl rfl ?_
          refine ol_nil ?_
          refine blk_i ?_
          refine cw_region ?_
          refine ol_val (v := .int .i64 (IntKind.i64.wrap (s22.2 + 1))) (by exact xr_add rfl e16 rfl) rfl rfl rfl ?_
          refine ol_val (v := .int .i64 (IntKind.i64.wrap (s22.2 + 1))) (by exact xr_move rfl rfl) rfl rfl rfl ?_
          refine ol_nil ?_
          obtain rfl := Option.some.inj h
          refine lp_in ?_
          exact ⟨v45, o46, e1, rfl, e15, rfl, b5, fB⟩
        · refine cw_condF rfl c35 ?_
          refine cw_exit ?_
          repeat (first | with_reducible refine thn_e ?_ | with_reducible refine blk_e rfl ?_)
          obtain rfl := Option.some.inj h
          refine lp_exit ?_
          rintro rfl
          refine thn_x ?_
          exact ⟨v29, o30, e1, e4, b5, fB⟩
    · rintro ρ54 w55 ⟨v26, o27, e1, e4, b5, fB⟩
      have h := h25
      refine cw_seq ?_
      refine cw_region ?_
      refine ol_val (v := v26) (by exact xr_move rfl e4) rfl rfl rfl ?_
      refine ol_val (v := .pointer (some ⟨G4, 0, none⟩)) (by exact xr_fieldAddr (p := 0) (q := 0) rfl fl98_0 e1) rfl rfl rfl ?_
      refine ol_val (v := sv a0.Name) (by exact xr_load1 (v := sv a0.Name) rfl ag9 rfl (b5.seg 0 rfl rfl)) rfl rfl rfl ?_
      obtain ⟨g60, h⟩ := gs h
      have f62 := off_ty b5 o27 (by decide)
      have f63 := o27.geO
      refine ol_op (by exact opv_appendStr rfl Try.underlying22 Try.underlying9 el5 rfl rfl rfl rfl o27 g60 fB.size) rfl rfl rfl ?_
      rintro v56 w64 ⟨o57, q58, n59⟩
      have b5 := b5.wrO q58 f62
      have fB := fB.wrO q58 f63
      refine ol_val (v := v56) (by exact xr_assign rfl rfl) rfl rfl rfl ?_
      refine ol_nil ?_
      refine cw_seq ?_
      refine cw_region ?_
      refine ol_val (v := .pointer (some ⟨G4, 0, none⟩)) (by exact xr_fieldAddr (p := 0) (q := 0) rfl fl98_0 e1) rfl rfl rfl ?_
      refine ol_val (v := sv a0.Name) (by exact xr_load1 (v := sv a0.Name) rfl ag9 rfl (b5.seg 0 rfl rfl)) rfl rfl rfl ?_
      refine ol_val (v := .int .i64 (List.length a0.Name : Int)) (by exact xr_lenStr rfl Try.underlying9 rfl) rfl rfl rfl ?_
      refine ol_val (v := v56) (by exact xr_move rfl rfl) rfl rfl rfl ?_
      obtain ⟨t65, k66, h⟩ := bs h
      refine ol_op (by exact opv_call rfl cal28 (ac rfl (ac rfl (ac rfl an))) (block_Seal.ok fu _ 5 (List.length a0.Name : Int) (e23 ++ List.map ofB a0.Name) v56 (o57.rd) _ k66)) rfl rfl rfl ?_
      rintro _ w71 ⟨u67, o68, rfl, q70⟩
      have o68 := Own.base o68 fB.size
      have fB := fB.gr q70
      refine ol_val (v := u67) (by exact xr_extract rfl rfl rfl) rfl rfl rfl ?_
      refine ol_val (v := .bool t65.2) (by exact xr_extract rfl rfl rfl) rfl rfl rfl ?_
      refine ol_val (v := u67) (by exact xr_assign rfl rfl) rfl rfl rfl ?_
      refine ol_val (v := .bool t65.2) (by exact xr_assign rfl rfl) rfl rfl rfl ?_
      refine ol_nil ?_
      refine cw_ret ?_
      repeat (first | with_reducible refine thn_r ?_ | with_reducible refine blk_r ?_)
      obtain rfl := Option.some.inj h
      refine fin_ret2 Try.results74 rfl rfl ?_
      exact ⟨_, rfl, u67, o68, rfl, fB⟩
end Go.Proofs.Ytjhajfkfhdnciaa

/- rickyard/octet.there: its model, and that the Go function computes it: written by gen.py. -/
set_option linter.unusedVariables false
namespace Go.Proofs.Ytjhajfkfhdnciaa
open Go Go.Xw
def octet_there.f (fu : Nat) (a0 : List Int) (a1 : Int) (a2 : Int) : Option Bool := some ((if (decide (a1 ≥ 0)) = true then (if (decide (a2 ≥ 0)) = true then (if (decide (a2 ≤ (List.length a0 : Int))) = true then (decide (a1 ≤ (IntKind.i64.wrap ((List.length a0 : Int) - a2)))) else false) else false) else false))
set_option maxRecDepth 100000 in
set_option maxHeartbeats 400000 in
theorem octet_there.ok (fu : Nat) (w : World) (a0 : List Int) (V0_0 : Value) (R0_0 : Rd (kI .u8) w V0_0 a0) (a1 : Int) (a2 : Int) (r : Bool) (h : octet_there.f fu a0 a1 a2 = some r) :
    Calls Try.prog 135 (([V0_0, .int .i64 a1, .int .i64 a2] : List Value).toArray) w (fun e w' => ∃ v, e = .returned v ∧ v = .bool r ∧ Gr w w') := by
  unfold octet_there.f at h
  have fB : Gr w w := Fr.refl _ _
  refine calls_cw Try.func135 rfl Try.ntmps135 rfl ?_
  refine cw_seq ?_
  refine cw_region ?_
  refine ol_val (v := .bool false) (by exact xr_assign rfl rfl) rfl rfl rfl ?_
  refine ol_nil ?_
  refine cw_seq ?_
  refine cw_mid (fun ρ' w' => ρ' 6 = .bool (if (decide (a1 ≥ 0)) = true then (if (decide (a2 ≥ 0)) = true then (if (decide (a2 ≤ (List.length a0 : Int))) = true then (decide (a1 ≤ (IntKind.i64.wrap ((List.length a0 : Int) - a2)))) else false) else false) else false) ∧ w = w') ?_ ?_
  · skip
    refine cw_region ?_
    refine ol_val (v := .int .i64 a1) (by exact xr_move rfl rfl) rfl rfl rfl ?_
    refine ol_val (v := .bool (decide (a1 ≥ 0))) (by exact xr_geq rfl rfl rfl) rfl rfl rfl ?_
    refine ol_val (v := .bool (decide (a1 ≥ 0))) (by exact xr_move rfl rfl) rfl rfl rfl ?_
    rcases bt (decide (a1 ≥ 0)) with c1 | c1
    · skip
      refine ol_gval (v := .int .i64 a2) (by exact xr_move rfl rfl) rfl rfl rfl rfl rfl c1 ?_
      refine ol_gval (v := .bool (decide (a2 ≥ 0))) (by exact xr_geq rfl rfl rfl) rfl rfl rfl rfl rfl c1 ?_
      refine ol_val (v := .bool (decide (a2 ≥ 0))) (by exact xr_pickT rfl rfl c1 rfl) rfl rfl rfl ?_
      refine ol_val (v := .bool (decide (a2 ≥ 0))) (by exact xr_move rfl rfl) rfl rfl rfl ?_
      rcases bt (decide (a2 ≥ 0)) with c2 | c2
      · skip
        refine ol_gval (v := .int .i64 a2) (by exact xr_move rfl rfl) rfl rfl rfl rfl rfl c2 ?_
        refine ol_gval (v := V0_0) (by exact xr_move rfl rfl) rfl rfl rfl rfl rfl c2 ?_
        refine ol_gval (v := .int .i64 (List.length a0 : Int)) (by exact xr_lenR rfl Try.underlying22 rfl (R0_0.gr fB)) rfl rfl rfl rfl rfl c2 ?_
        refine ol_gval (v := .bool (decide (a2 ≤ (List.length a0 : Int)))) (by exact xr_leq rfl rfl rfl) rfl rfl rfl rfl rfl c2 ?_
        refine ol_val (v := .bool (decide (a2 ≤ (List.length a0 : Int)))) (by exact xr_pickT rfl rfl c2 rfl) rfl rfl rfl ?_
        refine ol_val (v := .bool (decide (a2 ≤ (List.length a0 : Int)))) (by exact xr_move rfl rfl) rfl rfl rfl ?_
        rcases bt (decide (a2 ≤ (List.length a0 : Int))) with c3 | c3
        · skip
          refine ol_gval (v := .int .i64 a1) (by exact xr_move rfl rfl) rfl rfl rfl rfl rfl c3 ?_
          refine ol_gval (v := V0_0) (by exact xr_move rfl rfl) rfl rfl rfl rfl rfl c3 ?_
          refine ol_gval (v := .int .i64 (List.length a0 : Int)) (by exact xr_lenR rfl Try.underlying22 rfl (R0_0.gr fB)) rfl rfl rfl rfl rfl c3 ?_
          refine ol_gval (v := .int .i64 a2) (by exact xr_move rfl rfl) rfl rfl rfl rfl rfl c3 ?_
          refine ol_gval (v := .int .i64 (IntKind.i64.wrap ((List.length a0 : Int) - a2))) (by exact xr_sub rfl rfl rfl) rfl rfl rfl rfl rfl c3 ?_
          refine ol_gval (v := .bool (decide (a1 ≤ (IntKind.i64.wrap ((List.length a0 : Int) - a2))))) (by exact xr_leq rfl rfl rfl) rfl rfl rfl rfl rfl c3 ?_
          refine ol_val (v := .bool (decide (a1 ≤ (IntKind.i64.wrap ((List.length a0 : Int) - a2))))) (by exact xr_pickT rfl rfl c3 rfl) rfl rfl rfl ?_
          refine ol_val (v := .bool (decide (a1 ≤ (IntKind.i64.wrap ((List.length a0 : Int) - a2))))) (by exact xr_assign rfl rfl) rfl rfl rfl ?_
          refine ol_nil ?_
          refine thn_i ?_
          exact ⟨(rfl).trans (congrArg (fun z => (.bool z : Value)) (show (decide (a1 ≤ (IntKind.i64.wrap ((List.length a0 : Int) - a2)))) = (if (decide (a1 ≥ 0)) = true then (if (decide (a2 ≥ 0)) = true then (if (decide (a2 ≤ (List.length a0 : Int))) = true then (decide (a1 ≤ (IntKind.i64.wrap ((List.length a0 : Int) - a2)))) else false) else false) else false) from by rw [ite_t c1, ite_t c2, ite_t c3])), rfl⟩
        · skip
          refine ol_gskip rfl rfl rfl rfl rfl c3 ?_
          refine ol_gskip rfl rfl rfl rfl rfl c3 ?_
          refine ol_gskip rfl rfl rfl rfl rfl c3 ?_
          refine ol_gskip rfl rfl rfl rfl rfl c3 ?_
          refine ol_gskip rfl rfl rfl rfl rfl c3 ?_
          refine ol_gskip rfl rfl rfl rfl rfl c3 ?_
          refine ol_val (v := .bool false) (by exact xr_pickF rfl rfl c3 rfl) rfl rfl rfl ?_
          refine ol_val (v := .bool false) (by exact xr_assign rfl rfl) rfl rfl rfl ?_
          refine ol_nil ?_
          refine thn_i ?_
          exact ⟨(rfl).trans (congrArg (fun z => (.bool z : Value)) (show false = (if (decide (a1 ≥ 0)) = true then (if (decide (a2 ≥ 0)) = true then (if (decide (a2 ≤ (List.length a0 : Int))) = true then (decide (a1 ≤ (IntKind.i64.wrap ((List.length a0 : Int) - a2)))) else false) else false) else false) from by rw [ite_t c1, ite_t c2, ite_f c3])), rfl⟩
      · skip
        refine ol_gskip rfl rfl rfl rfl rfl c2 ?_
        refine ol_gskip rfl rfl rfl rfl rfl c2 ?_
        refine ol_gskip rfl rfl rfl rfl rfl c2 ?_
        refine ol_gskip rfl rfl rfl rfl rfl c2 ?_
        refine ol_val (v := .bool false) (by exact xr_pickF rfl rfl c2 rfl) rfl rfl rfl ?_
        refine ol_val (v := .bool false) (by exact xr_move rfl rfl) rfl rfl rfl ?_
        refine ol_gskip rfl rfl rfl rfl rfl rfl ?_
        refine ol_gskip rfl rfl rfl rfl rfl rfl ?_
        refine ol_gskip rfl rfl rfl rfl rfl rfl ?_
        refine ol_gskip rfl rfl rfl rfl rfl rfl ?_
        refine ol_gskip rfl rfl rfl rfl rfl rfl ?_
        refine ol_gskip rfl rfl rfl rfl rfl rfl ?_
        refine ol_val (v := .bool false) (by exact xr_pickF rfl rfl rfl rfl) rfl rfl rfl ?_
        refine ol_val (v := .bool false) (by exact xr_assign rfl rfl) rfl rfl rfl ?_
        refine ol_nil ?_
        refine thn_i ?_
        exact ⟨(rfl).trans (congrArg (fun z => (.bool z : Value)) (show false = (if (decide (a1 ≥ 0)) = true then (if (decide (a2 ≥ 0)) = true then (if (decide (a2 ≤ (List.length a0 : Int))) = true then (decide (a1 ≤ (IntKind.i64.wrap ((List.length a0 : Int) - a2)))) else false) else false) else false) from by rw [ite_t c1, ite_f c2])), rfl⟩
    · skip
      refine ol_gskip rfl rfl rfl rfl rfl c1 ?_
      refine ol_gskip rfl rfl rfl rfl rfl c1 ?_
      refine ol_val (v := .bool false) (by exact xr_pickF rfl rfl c1 rfl) rfl rfl rfl ?_
      refine ol_val (v := .bool false) (by exact xr_move rfl rfl) rfl rfl rfl ?_
      refine ol_gskip rfl rfl rfl rfl rfl rfl ?_
      refine ol_gskip rfl rfl rfl rfl rfl rfl ?_
      refine ol_gskip rfl rfl rfl rfl rfl rfl ?_
      refine ol_gskip rfl rfl rfl rfl rfl rfl ?_
      refine ol_val (v := .bool false) (by exact xr_pickF rfl rfl rfl rfl) rfl rfl rfl ?_
      refine ol_val (v := .bool false) (by exact xr_move rfl rfl) rfl rfl rfl ?_
      refine ol_gskip rfl rfl rfl rfl rfl rfl ?_
      refine ol_gskip rfl rfl rfl rfl rfl rfl ?_
      refine ol_gskip rfl rfl rfl rfl rfl rfl ?_
      refine ol_gskip rfl rfl rfl rfl rfl rfl ?_
      refine ol_gskip rfl rfl rfl rfl rfl rfl ?_
      refine ol_gskip rfl rfl rfl rfl rfl rfl ?_
      refine ol_val (v := .bool false) (by exact xr_pickF rfl rfl rfl rfl) rfl rfl rfl ?_
      refine ol_val (v := .bool false) (by exact xr_assign rfl rfl) rfl rfl rfl ?_
      refine ol_nil ?_
      refine thn_i ?_
      exact ⟨(rfl).trans (congrArg (fun z => (.bool z : Value)) (show false = (if (decide (a1 ≥ 0)) = true then (if (decide (a2 ≥ 0)) = true then (if (decide (a2 ≤ (List.length a0 : Int))) = true then (decide (a1 ≤ (IntKind.i64.wrap ((List.length a0 : Int) - a2)))) else false) else false) else false) from by rw [ite_f c1])), rfl⟩
  · skip
    rintro ρ4 _ ⟨e6, rfl⟩
    refine cw_ret ?_
    repeat (first | with_reducible refine thn_r ?_ | with_reducible refine blk_r ?_)
    obtain rfl := Option.some.inj h
    refine fin_ret1 Try.results135 e6 ?_
    exact ⟨_, rfl, rfl, fB⟩
end Go.Proofs.Ytjhajfkfhdnciaa

/- rickyard/octet.Noughts: its model, and that the Go function computes it: written by gen.py. -/
set_option linter.unusedVariables false
namespace Go.Proofs.Ytjhajfkfhdnciaa
open Go Go.Xw
def octet_Noughts.s0 (fu : Nat) (a0 : List Int) (a1 : Int) (a2 : Int) : Int → Option (Sum (Sum Bool Unit) Int) := fun s8 => (if (decide (s8 < (List.length (cut a0 a1 (IntKind.i64.wrap (a1 + a2))) : Int))) = true then (if 0 ≤ s8 ∧ s8 < (List.length (cut a0 a1 (IntKind.i64.wrap (a1 + a2))) : Int) then (if (!decide ((ix (cut a0 a1 (IntKind.i64.wrap (a1 + a2))) s8) = 0)) = true then some (Sum.inl (Sum.inl (false))) else some (Sum.inr ((IntKind.i64.wrap (s8 + 1))))) else none) else some (Sum.inl (Sum.inr ())))
def octet_Noughts.f (fu : Nat) (a0 : List Int) (a1 : Int) (a2 : Int) : Option Bool := ((octet_there.f fu a0 a1 a2 : Option Bool).bind fun t1 => (if (!t1) = true then some (false) else (if (0 : Int) ≤ a1 ∧ a1 ≤ (IntKind.i64.wrap (a1 + a2)) ∧ (IntKind.i64.wrap (a1 + a2)) ≤ (List.length a0 : Int) then ((loopM (octet_Noughts.s0 fu a0 a1 a2) fu (0)).bind fun e9 => match e9 with | Sum.inl p => some p | Sum.inr x12 => some (true)) else none)))
set_option maxRecDepth 100000 in
set_option maxHeartbeats 400000 in
theorem octet_Noughts.ok (fu : Nat) (w : World) (a0 : List Int) (V0_0 : Value) (R0_0 : Rd (kI .u8) w V0_0 a0) (a1 : Int) (a2 : Int) (r : Bool) (h : octet_Noughts.f fu a0 a1 a2 = some r) :
    Calls Try.prog 102 (([V0_0, .int .i64 a1, .int .i64 a2] : List Value).toArray) w (fun e w' => ∃ v, e = .returned v ∧ v = .bool r ∧ Gr w w') := by
  unfold octet_Noughts.f at h
  have fB : Gr w w := Fr.refl _ _
  refine calls_cw Try.func102 rfl Try.ntmps102 rfl ?_
  refine cw_seq ?_
  refine cw_region ?_
  refine ol_val (v := .bool false) (by exact xr_assign rfl rfl) rfl rfl rfl ?_
  refine ol_nil ?_
  refine cw_seq ?_
  refine cw_seq ?_
  refine cw_region ?_
  refine ol_val (v := V0_0) (by exact xr_move rfl rfl) rfl rfl rfl ?_
  refine ol_val (v := .int .i64 a1) (by exact xr_move rfl rfl) rfl rfl rfl ?_
  refine ol_val (v := .int .i64 a2) (by exact xr_move rfl rfl) rfl rfl rfl ?_
  obtain ⟨t1, k2, h⟩ := bs h
  refine ol_op (by exact opv_call rfl cal135 (ac rfl (ac rfl (ac rfl an))) (octet_there.ok fu _ a0 V0_0 (R0_0.gr fB) a1 a2 _ k2)) rfl rfl rfl ?_
  rintro _ w4 ⟨rfl, q3⟩
  have fB := fB.gr q3
  refine ol_val (v := .bool (!t1)) (by exact xr_not rfl rfl) rfl rfl rfl ?_
  refine ol_nil ?_
  rcases is h with ⟨c5, h⟩ | ⟨c5, h⟩
  · refine cw_condT rfl c5 ?_
    refine cw_seq ?_
    refine cw_region ?_
    refine ol_val (v := .bool false) (by exact xr_assign rfl rfl) rfl rfl rfl ?_
    refine ol_nil ?_
    refine cw_ret ?_
    repeat (first | with_reducible refine thn_r ?_ | with_reducible refine blk_r ?_)
    obtain rfl := Option.some.inj h
    refine fin_ret1 Try.results102 rfl ?_
    exact ⟨_, rfl, rfl, fB⟩
  · refine cw_condF rfl c5 ?_
    refine cw_skip ?_
    refine cw_seq ?_
    refine cw_seq ?_
    refine cw_region ?_
    refine ol_val (v := V0_0) (by exact xr_move rfl rfl) rfl rfl rfl ?_
    refine ol_val (v := .int .i64 a1) (by exact xr_move rfl rfl) rfl rfl rfl ?_
    refine ol_val (v := .int .i64 a1) (by exact xr_move rfl rfl) rfl rfl rfl ?_
    refine ol_val (v := .int .i64 a2) (by exact xr_move rfl rfl) rfl rfl rfl ?_
    refine ol_val (v := .int .i64 (IntKind.i64.wrap (a1 + a2))) (by exact xr_add rfl rfl rfl) rfl rfl rfl ?_
    obtain ⟨g7, h⟩ := gs h
    refine ol_val (v := subv 1 V0_0 (Int.toNat a1) (Int.toNat (IntKind.i64.wrap (a1 + a2)))) (by exact xr_slice_lh (K := (kI .u8)) (v := V0_0) rfl Try.underlying22 sz5 rfl (R0_0.gr fB) rfl rfl g7.1 g7.2.1 g7.2.2) rfl rfl rfl ?_
    have r6 : Rd (kI .u8) w4 (subv 1 V0_0 (Int.toNat a1) (Int.toNat (IntKind.i64.wrap (a1 + a2)))) (cut a0 a1 (IntKind.i64.wrap (a1 + a2))) := (R0_0.gr fB).cut (lo := a1) (hi := (IntKind.i64.wrap (a1 + a2))) g7.1 g7.2.1 g7.2.2
    refine ol_val (v := .int .i64 (List.length (cut a0 a1 (IntKind.i64.wrap (a1 + a2))) : Int)) (by exact xr_lenR rfl Try.underlying22 rfl r6) rfl rfl rfl ?_
    refine ol_val (v := .int .i64 0) (by exact xr_move rfl rfl) rfl rfl rfl ?_
    refine ol_nil ?_
    obtain ⟨e9, l10, h11⟩ := bs h
    refine cw_mid (fun ρ' w' => ∃ x12, e9 = Sum.inr x12 ∧ Gr w w') ?_ ?_
    · refine cw_block ?_
      refine cw_round (fun (s8 : Int) ρ' w' => ∃ r6 : Rd (kI .u8) w' (subv 1 V0_0 (Int.toNat a1) (Int.toNat (IntKind.i64.wrap (a1 + a2)))) (cut a0 a1 (IntKind.i64.wrap (a1 + a2))), ρ' 19 = subv 1 V0_0 (Int.toNat a1) (Int.toNat (IntKind.i64.wrap (a1 + a2))) ∧ ρ' 20 = .int .i64 (List.length (cut a0 a1 (IntKind.i64.wrap (a1 + a2))) : Int) ∧ ρ' 21 = .int .i64 s8 ∧ Gr w w') l10 ?_ ?_
      · skip
        exact ⟨r6, rfl, rfl, rfl, fB⟩
      · rintro s8 x15 ρ13 w14 ⟨r6, e19, e20, e21, fB⟩ h
        unfold octet_Noughts.s0 at h
        refine cw_seq ?_
        refine cw_region ?_
        refine ol_val (v := .bool (decide (s8 < (List.length (cut a0 a1 (IntKind.i64.wrap (a1 + a2))) : Int)))) (by exact xr_lss rfl e21 e20) rfl rfl rfl ?_
        refine ol_nil ?_
        refine cw_seq ?_
        rcases is h with ⟨c16, h⟩ | ⟨c16, h⟩
        · refine cw_condT rfl c16 ?_
          refine cw_skip ?_
          refine cw_seq ?_
          refine cw_block ?_
          refine cw_seq ?_
          refine cw_region ?_
          obtain ⟨g17, h⟩ := gs h
          refine ol_val (v := .pointer (some ⟨(sb (subv 1 V0_0 (Int.toNat a1) (Int.toNat (IntKind.i64.wrap (a1 + a2))))), so (subv 1 V0_0 (Int.toNat a1) (Int.toNat (IntKind.i64.wrap (a1 + a2)))) + Int.toNat s8 * 1, none⟩)) (by exact xr_indexR (K := (kI .u8)) (v := subv 1 V0_0 (Int.toNat a1) (Int.toNat (IntKind.i64.wrap (a1 + a2)))) rfl Try.underlying22 sz5 e19 r6 e21 g17.1 g17.2) rfl rfl rfl ?_
          refine ol_val (v := .int .u8 (ix (cut a0 a1 (IntKind.i64.wrap (a1 + a2))) s8)) (by exact xr_load1 (v := .int .u8 (ix (cut a0 a1 (IntKind.i64.wrap (a1 + a2))) s8)) rfl ag5 rfl (r6.elem g17.1 g17.2)) rfl rfl rfl ?_
          refine ol_val (v := .int .u8 (ix (cut a0 a1 (IntKind.i64.wrap (a1 + a2))) s8)) (by exact xr_assign rfl rfl) rfl rfl rfl ?_
          refine ol_nil ?_
          refine cw_seq ?_
          refine cw_region ?_
          refine ol_val (v := .int .u8 (ix (cut a0 a1 (IntKind.i64.wrap (a1 + a2))) s8)) (by exact xr_move rfl rfl) rfl rfl rfl ?_
          refine ol_val (v := .bool (!decide ((ix (cut a0 a1 (IntKind.i64.wrap (a1 + a2))) s8) = 0))) (by exact xr_neI rfl Try.underlying5 rfl rfl rfl) rfl rfl rfl ?_
          refine ol_nil ?_
          rcases is h with ⟨c18, h⟩ | ⟨c18, h⟩
          · refine cw_condT rfl c18 ?_
            refine cw_seq ?_
            refine cw_region ?_
            refine ol_val (v := .bool false) (by exact xr_assign rfl rfl) rfl rfl rfl ?_
            refine ol_nil ?_
            refine cw_ret ?_
            repeat (first | with_reducible refine thn_r ?_ | with_reducible refine blk_r ?_)
            obtain rfl := Option.some.inj h
            refine lp_ret ?_
            rintro rfl
            repeat (first | with_reducible refine thn_r ?_ | with_reducible refine blk_r ?_)
            have h := h11
            obtain rfl := Option.some.inj h
            refine fin_ret1 Try.results102 rfl ?_
            exact ⟨_, rfl, rfl, fB⟩
          · refine cw_condF rfl c18 ?_
            refine cw_skip ?_
            refine blk_i ?_
            refine cw_region ?_
            refine ol_val (v := .int .i64 (IntKind.i64.wrap (s8 + 1))) (by exact xr_add rfl e21 rfl) rfl rfl rfl ?_
            refine ol_val (v := .int .i64 (IntKind.i64.wrap (s8 + 1))) (by exact xr_move rfl rfl) rfl rfl rfl ?_
            refine ol_nil ?_
            obtain rfl := Option.some.inj h
            refine lp_in ?_
            exact ⟨r6, e19, e20, rfl, fB⟩
        · refine cw_condF rfl c16 ?_
          refine cw_exit ?_
          repeat (first | with_reducible refine thn_e ?_ | with_reducible refine blk_e rfl ?_)
          obtain rfl := Option.some.inj h
          refine lp_exit ?_
          rintro rfl
          refine thn_x ?_
          exact ⟨_, rfl, fB⟩
    · rintro ρ19 w20 ⟨x12, rfl, fB⟩
      have h := h11
      refine cw_seq ?_
      refine cw_region ?_
      refine ol_val (v := .bool true) (by exact xr_assign rfl rfl) rfl rfl rfl ?_
      refine ol_nil ?_
      refine cw_ret ?_
      repeat (first | with_reducible refine thn_r ?_ | with_reducible refine blk_r ?_)
      obtain rfl := Option.some.inj h
      refine fin_ret1 Try.results102 rfl ?_
      exact ⟨_, rfl, rfl, fB⟩
end Go.Proofs.Ytjhajfkfhdnciaa

/- rickyard/octet.Read: its model, and that the Go function computes it: written by gen.py. -/
set_option linter.unusedVariables false
namespace Go.Proofs.Ytjhajfkfhdnciaa
open Go Go.Xw
def octet_Read.s0 (fu : Nat) (a0 : List Int) : (Int × Int) → Option (Sum Int (Int × Int)) := fun s3 => (if (decide (s3.2 < (List.length (cut a0 0 (mnI (List.length a0 : Int) 8)) : Int))) = true then (if 0 ≤ s3.2 ∧ s3.2 < (List.length (cut a0 0 (mnI (List.length a0 : Int) 8)) : Int) then (if 0 ≤ (IntKind.i64.wrap (8 * s3.2)) then some (Sum.inr ((bOr .u64 s3.1 (shL .u64 (IntKind.u64.wrap (ix (cut a0 0 (mnI (List.length a0 : Int) 8)) s3.2)) (IntKind.i64.wrap (8 * s3.2)))), (IntKind.i64.wrap (s3.2 + 1)))) else none) else none) else some (Sum.inl (s3.1)))
def octet_Read.f (fu : Nat) (a0 : List Int) : Option Int := (if 0 ≤ (mnI (List.length a0 : Int) 8) ∧ (mnI (List.length a0 : Int) 8) ≤ (List.length a0 : Int) then ((loopM (octet_Read.s0 fu a0) fu (0, 0)).bind fun e4 => some (e4)) else none)
set_option maxRecDepth 100000 in
set_option maxHeartbeats 400000 in
theorem octet_Read.ok (fu : Nat) (w : World) (a0 : List Int) (V0_0 : Value) (R0_0 : Rd (kI .u8) w V0_0 a0) (r : Int) (h : octet_Read.f fu a0 = some r) :
    Calls Try.prog 112 (([V0_0] : List Value).toArray) w (fun e w' => ∃ v, e = .returned v ∧ v = .int .u64 r ∧ Gr w w') := by
  unfold octet_Read.f at h
  have fB : Gr w w := Fr.refl _ _
  refine calls_cw Try.func112 rfl Try.ntmps112 rfl ?_
  refine cw_seq ?_
  refine cw_region ?_
  refine ol_val (v := .int .u64 0) (by exact xr_assign rfl rfl) rfl rfl rfl ?_
  refine ol_nil ?_
  refine cw_seq ?_
  refine cw_region ?_
  refine ol_val (v := .int .u64 0) (by exact xr_assign rfl rfl) rfl rfl rfl ?_
  refine ol_nil ?_
  refine cw_seq ?_
  refine cw_seq ?_
  refine cw_region ?_
  refine ol_val (v := V0_0) (by exact xr_move rfl rfl) rfl rfl rfl ?_
  refine ol_val (v := V0_0) (by exact xr_move rfl rfl) rfl rfl rfl ?_
  refine ol_val (v := .int .i64 (List.length a0 : Int)) (by exact xr_lenR rfl Try.underlying22 rfl (R0_0.gr fB)) rfl rfl rfl ?_
  refine ol_val (v := .int .i64 (mnI (List.length a0 : Int) 8)) (by exact xr_min2 rfl rfl rfl) rfl rfl rfl ?_
  obtain ⟨g2, h⟩ := gs h
  refine ol_val (v := subv 1 V0_0 0 (Int.toNat (mnI (List.length a0 : Int) 8))) (by exact xr_slice_h (K := (kI .u8)) (v := V0_0) rfl Try.underlying22 sz5 rfl (R0_0.gr fB) rfl g2.1 g2.2) rfl rfl rfl ?_
  have r1 : Rd (kI .u8) w (subv 1 V0_0 0 (Int.toNat (mnI (List.length a0 : Int) 8))) (cut a0 0 (mnI (List.length a0 : Int) 8)) := (R0_0.gr fB).cut (lo := 0) (hi := (mnI (List.length a0 : Int) 8)) (by decide) g2.1 g2.2
  refine ol_val (v := .int .i64 (List.length (cut a0 0 (mnI (List.length a0 : Int) 8)) : Int)) (by exact xr_lenR rfl Try.underlying22 rfl r1) rfl rfl rfl ?_
  refine ol_val (v := .int .i64 0) (by exact xr_move rfl rfl) rfl rfl rfl ?_
  refine ol_nil ?_
  obtain ⟨e4, l5, h6⟩ := bs h
  refine cw_mid (fun ρ' w' => ρ' 3 = .int .u64 e4 ∧ Gr w w') ?_ ?_
  · refine cw_block ?_
    refine cw_round (fun (s3 : Int × Int) ρ' w' => ∃ r1 : Rd (kI .u8) w' (subv 1 V0_0 0 (Int.toNat (mnI (List.length a0 : Int) 8))) (cut a0 0 (mnI (List.length a0 : Int) 8)), ρ' 3 = .int .u64 s3.1 ∧ ρ' 10 = subv 1 V0_0 0 (Int.toNat (mnI (List.length a0 : Int) 8)) ∧ ρ' 11 = .int .i64 (List.length (cut a0 0 (mnI (List.length a0 : Int) 8)) : Int) ∧ ρ' 12 = .int .i64 s3.2 ∧ Gr w w') l5 ?_ ?_
    · skip
      exact ⟨r1, rfl, rfl, rfl, rfl, fB⟩
    · rintro s3 x9 ρ7 w8 ⟨r1, e3, e10, e11, e12, fB⟩ h
      unfold octet_Read.s0 at h
      refine cw_seq ?_
      refine cw_region ?_
      refine ol_val (v := .bool (decide (s3.2 < (List.length (cut a0 0 (mnI (List.length a0 : Int) 8)) : Int)))) (by exact xr_lss rfl e12 e11) rfl rfl rfl ?_
      refine ol_nil ?_
      refine cw_seq ?_
      rcases is h with ⟨c10, h⟩ | ⟨c10, h⟩
      · refine cw_condT rfl c10 ?_
        refine cw_skip ?_
        refine cw_seq ?_
        refine cw_block ?_
        refine cw_seq ?_
        refine cw_region ?_
        refine ol_val (v := .int .i64 s3.2) (by exact xr_move rfl e12) rfl rfl rfl ?_
        obtain ⟨g11, h⟩ := gs h
        refine ol_val (v := .pointer (some ⟨(sb (subv 1 V0_0 0 (Int.toNat (mnI (List.length a0 : Int) 8)))), so (subv 1 V0_0 0 (Int.toNat (mnI (List.length a0 : Int) 8))) + Int.toNat s3.2 * 1, none⟩)) (by exact xr_indexR (K := (kI .u8)) (v := subv 1 V0_0 0 (Int.toNat (mnI (List.length a0 : Int) 8))) rfl Try.underlying22 sz5 e10 r1 e12 g11.1 g11.2) rfl rfl rfl ?_
        refine ol_val (v := .int .u8 (ix (cut a0 0 (mnI (List.length a0 : Int) 8)) s3.2)) (by exact xr_load1 (v := .int .u8 (ix (cut a0 0 (mnI (List.length a0 : Int) 8)) s3.2)) rfl ag5 rfl (r1.elem g11.1 g11.2)) rfl rfl rfl ?_
        refine ol_val (v := .int .i64 s3.2) (by exact xr_assign rfl rfl) rfl rfl rfl ?_
        refine ol_val (v := .int .u8 (ix (cut a0 0 (mnI (List.length a0 : Int) 8)) s3.2)) (by exact xr_assign rfl rfl) rfl rfl rfl ?_
        refine ol_nil ?_
        refine cw_region ?_
        refine ol_val (v := .int .u64 s3.1) (by exact xr_move rfl e3) rfl rfl rfl ?_
        refine ol_val (v := .int .u8 (ix (cut a0 0 (mnI (List.length a0 : Int) 8)) s3.2)) (by exact xr_move rfl rfl) rfl rfl rfl ?_
        refine ol_val (v := .int .u64 (IntKind.u64.wrap (ix (cut a0 0 (mnI (List.length a0 : Int) 8)) s3.2))) (by exact xr_conv rfl Try.underlying5 Try.underlying129 rfl) rfl rfl rfl ?_
        refine ol_val (v := .int .i64 s3.2) (by exact xr_move rfl rfl) rfl rfl rfl ?_
        refine ol_val (v := .int .i64 (IntKind.i64.wrap (8 * s3.2))) (by exact xr_mul rfl rfl rfl) rfl rfl rfl ?_
        obtain ⟨g12, h⟩ := gs h
        refine ol_val (v := .int .u64 (shL .u64 (IntKind.u64.wrap (ix (cut a0 0 (mnI (List.length a0 : Int) 8)) s3.2)) (IntKind.i64.wrap (8 * s3.2)))) (by exact xr_shl rfl rfl rfl g12) rfl rfl rfl ?_
        refine ol_val (v := .int .u64 (bOr .u64 s3.1 (shL .u64 (IntKind.u64.wrap (ix (cut a0 0 (mnI (List.length a0 : Int) 8)) s3.2)) (IntKind.i64.wrap (8 * s3.2))))) (by exact xr_or rfl rfl rfl) rfl rfl rfl ?_
        refine ol_val (v := .int .u64 (bOr .u64 s3.1 (shL .u64 (IntKind.u64.wrap (ix (cut a0 0 (mnI (List.length a0 : Int) 8)) s3.2)) (IntKind.i64.wrap (8 * s3.2))))) (by exact xr_assign rfl rfl) rfl rfl rfl ?_
        refine ol_nil ?_
        refine blk_i ?_
        refine cw_region ?_
        refine ol_val (v := .int .i64 (IntKind.i64.wrap (s3.2 + 1))) (by exact xr_add rfl e12 rfl) rfl rfl rfl ?_
        refine ol_val (v := .int .i64 (IntKind.i64.wrap (s3.2 + 1))) (by exact xr_move rfl rfl) rfl rfl rfl ?_
        refine ol_nil ?_
        obtain rfl := Option.some.inj h
        refine lp_in ?_
        exact ⟨r1, rfl, e10, e11, rfl, fB⟩
      · refine cw_condF rfl c10 ?_
        refine cw_exit ?_
        repeat (first | with_reducible refine thn_e ?_ | with_reducible refine blk_e rfl ?_)
        obtain rfl := Option.some.inj h
        refine lp_exit ?_
        rintro rfl
        refine thn_x ?_
        exact ⟨e3, fB⟩
  · rintro ρ13 w14 ⟨e3, fB⟩
    have h := h6
    refine cw_seq ?_
    refine cw_region ?_
    refine ol_val (v := .int .u64 e4) (by exact xr_move rfl e3) rfl rfl rfl ?_
    refine ol_val (v := .int .u64 e4) (by exact xr_assign rfl rfl) rfl rfl rfl ?_
    refine ol_nil ?_
    refine cw_ret ?_
    repeat (first | with_reducible refine thn_r ?_ | with_reducible refine blk_r ?_)
    obtain rfl := Option.some.inj h
    refine fin_ret1 Try.results112 rfl ?_
    exact ⟨_, rfl, rfl, fB⟩
end Go.Proofs.Ytjhajfkfhdnciaa

/- rickyard/crc.Fits: its model, and that the Go function computes it: written by gen.py. -/
set_option linter.unusedVariables false
namespace Go.Proofs.Ytjhajfkfhdnciaa
open Go Go.Xw
def crc_Fits.f (fu : Nat) (a0 : Int) (a1 : List (List Int)) : Option Bool := ((crc_Sum.f fu a1 : Option Int).bind fun t1 => some ((decide (t1 = a0))))
set_option maxRecDepth 100000 in
set_option maxHeartbeats 400000 in
theorem crc_Fits.ok (fu : Nat) (w : World) (a0 : Int) (a1 : List (List Int)) (V1_0 : Value) (R1_0 : Rds (kI .u8) w V1_0 a1) (r : Bool) (h : crc_Fits.f fu a0 a1 = some r) :
    Calls Try.prog 131 (([.int .u32 a0, V1_0] : List Value).toArray) w (fun e w' => ∃ v, e = .returned v ∧ v = .bool r ∧ Gr w w') := by
  unfold crc_Fits.f at h
  have fB : Gr w w := Fr.refl _ _
  refine calls_cw Try.func131 rfl Try.ntmps131 rfl ?_
  refine cw_seq ?_
  refine cw_region ?_
  refine ol_val (v := .bool false) (by exact xr_assign rfl rfl) rfl rfl rfl ?_
  refine ol_nil ?_
  refine cw_seq ?_
  refine cw_region ?_
  refine ol_val (v := V1_0) (by exact xr_move rfl rfl) rfl rfl rfl ?_
  obtain ⟨t1, k2, h⟩ := bs h
  refine ol_op (by exact opv_call rfl cal96 (ac rfl an) (crc_Sum.ok fu _ a1 V1_0 (R1_0.gr fB) _ k2)) rfl rfl rfl ?_
  rintro _ w4 ⟨rfl, q3⟩
  have fB := fB.gr q3
  refine ol_val (v := .int .u32 a0) (by exact xr_move rfl rfl) rfl rfl rfl ?_
  refine ol_val (v := .bool (decide (t1 = a0))) (by exact xr_eqI rfl Try.underlying36 rfl rfl rfl) rfl rfl rfl ?_
  refine ol_val (v := .bool (decide (t1 = a0))) (by exact xr_assign rfl rfl) rfl rfl rfl ?_
  refine ol_nil ?_
  refine cw_ret ?_
  repeat (first | with_reducible refine thn_r ?_ | with_reducible refine blk_r ?_)
  obtain rfl := Option.some.inj h
  refine fin_ret1 Try.results131 rfl ?_
  exact ⟨_, rfl, rfl, fB⟩
end Go.Proofs.Ytjhajfkfhdnciaa
