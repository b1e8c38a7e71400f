/- PressNil: texts merged, part 2 of 4. The last part proves that the law PressNil holds for every input. -/
import Derived.Test.YtklhbaghbmndeaaPkPressNil1
import Derived.Test.YtklhbaghbmndeaaProg
import Derived.KernelRfl
/- The words of the walks: a string appended to a row of octets. -/
set_option linter.unusedVariables false
set_option linter.unusedSimpArgs false
namespace Go.Xw
open Go
variable {P : Program} {w : World}
def octV (l : List UInt8) : List Value := l.map fun b => Value.int .u8 (b.toNat : Int)
theorem octV_enc (l : List UInt8) : (l.map ofB).flatMap (kI .u8).enc = octV l := by
  induction l with
  | nil => rfl
  | cons b l ih =>
    rw [List.map_cons, List.flatMap_cons, ih]
    rfl
theorem octV_len (l : List UInt8) : (octV l).length = l.length := List.length_map ..
theorem octV_one (l : List UInt8) : ∀ u ∈ octV l, u.oneCell' = true := by
  intro u hu
  obtain ⟨b, _, rfl⟩ := List.mem_map.1 hu
  rfl
theorem str_first (l : List UInt8) : (((⟨l.toArray⟩ : ByteArray).extract 0 l.length).data.map fun b => Value.int .u8 (b.toNat : Int)) = (octV l).toArray := by
  have e : (⟨l.toArray⟩ : ByteArray).extract 0 l.length = ⟨l.toArray⟩ := by
    apply ByteArray.ext
    simp
  rw [e]
  simp [octV]
theorem run_app_room_str (t u ty e : TypeId) (i : TypeInfo) (ht : P.underlying t = some (.slice e)) (hu : P.underlying u = some .string) (hi : P.info? e = some i) (his : i.size = 1)
    (g sLen sCap : Nat) (cur : Array Value) (hg : w.heap[g]? = some (.cells cur e (0, 0))) (l : List UInt8) (hroom : sLen + l.length ≤ sCap) (hfit : sLen + l.length ≤ cur.size) :
    (Builtin.append_ #[t, u] ty #[.slice (some ⟨g, 0, none⟩) sLen sCap, .string ⟨l.toArray⟩]).run P w =
      .ok (.slice (some ⟨g, 0, none⟩) (sLen + l.length) sCap) (w.setRow g (cur.toList.take sLen ++ octV l ++ cur.toList.drop (sLen + l.length)).toArray) := by
  have hst := run_storeCells_at P g sLen e (octV l) 0 cur w hg (by simpa [octV_len] using hfit) (octV_one l)
  simp only [Nat.add_zero, octV_len] at hst
  have hsz : (⟨l.toArray⟩ : ByteArray).size = l.length := by simp [ByteArray.size]
  have hf := str_first l
  have htk : List.take l.length (List.map (fun b : UInt8 => Value.int IntKind.u8 (b.toNat : Int)) l) = octV l := List.take_of_length_le (by rw [List.length_map]; exact Nat.le_refl _)
  simp [Builtin.append_, run_underlying ht, run_underlying hu, sizeOf, typeInfo, hi, his, Builtin.lenOf, Builtin.firstCells, hsz, hroom, hf, htk, Addr.add_lit, hst]
theorem run_app_grow_str (t u ty e : TypeId) (i : TypeInfo) (z : Value) (ht : P.underlying t = some (.slice e)) (hu : P.underlying u = some .string) (hi : P.info? e = some i) (hz : i.zero = some z) (his : i.size = 1)
    (b : Addr) (sLen sCap : Nat) (olds : List Value) (hlo : olds.length = sLen) (holds : ∀ j v, olds[j]? = some v → w.cell? (b.add j) = some v) (l : List UInt8)
    (hg : sCap < sLen + l.length) (h63 : ((sLen + l.length : Nat) : Int) ≤ 9223372036854775807) (hfit : Builtin.nextslicecap (sLen + l.length) sCap * i.bytes ≤ 281474976710656) :
    (Builtin.append_ #[t, u] ty #[.slice (some b) sLen sCap, .string ⟨l.toArray⟩]).run P w =
      .ok (.slice (some ⟨w.heap.size, 0, none⟩) (sLen + l.length) (grownCap w (sLen + l.length) sCap e))
        (w.drew.alloc (.cells (olds.toArray ++ (octV l).toArray ++ Builtin.zeroCells z.cells (grownCap w (sLen + l.length) sCap e - (sLen + l.length))) e)) := by
  have hn : ¬ (sLen + l.length ≤ sCap) := by omega
  have h63' : ¬ (9223372036854775807 < ((sLen : Int) + (l.length : Int))) := by omega
  have h48' : ¬ (281474976710656 < Builtin.nextslicecap (sLen + l.length) sCap * i.bytes) := by omega
  have hsz : (⟨l.toArray⟩ : ByteArray).size = l.length := by simp [ByteArray.size]
  have hf := str_first l
  have hfo := run_firstCells_some (P := P) w.drew i.size sLen b sLen sCap olds (by rw [his]; omega) (by simpa using holds)
  rw [his] at hfo
  simp [Builtin.append_, run_underlying ht, run_underlying hu, sizeOf, typeInfo, zeroValue, hi, hz, his, Builtin.lenOf, hn, h63', h48', Question.forced, hfo, newRow, grownCap, hsz]
  simp [Builtin.firstCells, hf]
  congr 2
  apply Array.ext'
  simp [List.append_assoc]
  try rfl
theorem Own.appendStr {E T U : TypeId} {B bs : Nat} {v zv : Value} {L : List Int} {l : List UInt8} (h : Own (kI .u8) E w B v L) (ty : TypeId) (hT : P.underlying T = some (.slice E)) (hU : P.underlying U = some .string) (hE : elB P E = some (some zv, 1, bs)) (hz : zv.cells.size = 1)
    (hbs : Nat.ble bs 32768 = true) (hlim : L.length + l.length ≤ LIM) (hB : B ≤ w.heap.size) : ∃ v' w', (Builtin.append_ #[T, U] ty #[v, sv l]).run P w = .ok v' w' ∧ AppR (kI .u8) E B w v (L ++ l.map ofB) v' w' := by
  obtain ⟨i, hi, hiz, his, hib⟩ := elB_parts hE
  unfold LIM at hlim
  have hbs' : bs ≤ 32768 := Nat.le_of_ble_eq_true hbs
  have hbytes : (L.length + l.length) * bs ≤ 140737488355328 := by
    calc (L.length + l.length) * bs ≤ (L.length + l.length) * 32768 := Nat.mul_le_mul_left _ hbs'
      _ ≤ 140737488355328 := by omega
  have hLe : (L.flatMap (kI .u8).enc).length = L.length := by rw [len_flat]; exact Nat.mul_one _
  have hcat : (L ++ l.map ofB).flatMap (kI .u8).enc = L.flatMap (kI .u8).enc ++ octV l := by rw [List.flatMap_append, octV_enc]
  have hlen : ((L ++ l.map ofB).flatMap (kI .u8).enc).length = (L.length + l.length) * 1 := by rw [hcat, List.length_append, hLe, octV_len, Nat.mul_one]
  have hll : (L ++ l.map ofB).length = L.length + l.length := by simp
  have h63 : L.length + l.length ≤ maxLen := by simp only [maxLen]; omega
  have grown : ∀ (old : Nat), old < L.length + l.length →
      Own (kI .u8) E (w.drew.alloc (.cells ((L.flatMap (kI .u8).enc).toArray ++ (octV l).toArray ++ Builtin.zeroCells zv.cells (grownCap w (L.length + l.length) old E - (L.length + l.length))) E)) B (.slice (some ⟨w.heap.size, 0, none⟩) (L.length + l.length) (grownCap w (L.length + l.length) old E)) (L ++ l.map ofB) ∧
      ∀ row : Option Nat, w.grownBy (w.drew.alloc (.cells ((L.flatMap (kI .u8).enc).toArray ++ (octV l).toArray ++ Builtin.zeroCells zv.cells (grownCap w (L.length + l.length) old E - (L.length + l.length))) E)) row := by
    intro old ho
    have hge := grownCap_ge w (L.length + l.length) old E
    have hcm : grownCap w (L.length + l.length) old E ≤ maxLen := grownCap_le_maxLen w (L.length + l.length) old E h63
    refine ⟨?_, fun row => ⟨rfl, rfl, rfl, by simp, fun k hk _ => heap_alloc_old w.drew _ hk⟩⟩
    unfold Own
    rw [hll]
    refine ⟨hlen, .inr ⟨w.heap.size, _, _, rfl, hB, heap_alloc_new w.drew _, hge, hcm, ?_, ?_⟩⟩
    · show _ = grownCap w (L.length + l.length) old E * 1
      simp only [Array.size_append, List.size_toArray, size_zeroCells, hz, hLe, octV_len, Nat.mul_one]
      omega
    · show List.take ((L.length + l.length) * 1) _ = _
      rw [hcat, Nat.mul_one]
      simp only [Array.toList_append]
      exact List.take_left' (by rw [List.length_append, hLe, octV_len])
  have fresh : ∀ g : Nat, g < w.heap.size → Off v g → ∀ n c : Nat, Off (.slice (some ⟨w.heap.size, 0, none⟩) n c) g := by
    intro g hg _ n c e
    have := Option.some.inj (show some w.heap.size = some g from e)
    omega
  have he : l.length = 0 → (L ++ l.map ofB) = L := fun h0 => by
    obtain rfl := List.eq_nil_of_length_eq_zero h0
    simp
  rcases h.2 with ⟨rfl, hn0⟩ | ⟨g, cap, cur, rfl, hbg, hgg, hnc, hcm, hcs, htake⟩
  · obtain rfl : L = [] := List.eq_nil_of_length_eq_zero hn0
    by_cases h0 : l.length = 0
    · obtain rfl := List.eq_nil_of_length_eq_zero h0
      refine ⟨.slice none 0 0, w, ?_, Own.nil _ _ _ _, Fr.refl _ _, fun _ _ x => x⟩
      simp [sv, Builtin.append_, run_underlying hT, run_underlying hU, sizeOf, typeInfo, hi, Builtin.lenOf, Builtin.firstCells, ByteArray.size]
    · have hsz : (⟨l.toArray⟩ : ByteArray).size = l.length := by simp [ByteArray.size]
      have hr := run_append_nil_string (P := P) w T U ty E i zv hT hU hi hiz ⟨l.toArray⟩ (by omega) (by omega) (by rw [hsz, hib]; simp only [List.length_nil, Nat.zero_add] at hbytes; omega)
      have hgr := grown 0 (by simp only [List.length_nil, Nat.zero_add]; omega)
      simp only [List.length_nil, Nat.zero_add, List.flatMap_nil, List.nil_append] at hgr
      rw [hsz] at hr
      have hoct : (⟨l.toArray⟩ : ByteArray).data.map (fun b => Value.int .u8 (b.toNat : Int)) = (([] : List Value).toArray ++ (octV l).toArray) := by simp [octV]
      rw [hoct] at hr
      exact ⟨_, _, hr, hgr.1, Fr.of_grownBy (hgr.2 _), fun g hg ho => fresh g hg ho _ _⟩
  · have hL : L.length * 1 ≤ cur.size := by show L.length * (kI .u8).size ≤ _; rw [hcs]; exact Nat.mul_le_mul_right _ hnc
    by_cases hroom : L.length + l.length ≤ cap
    · have hfit : L.length + l.length ≤ cur.size := by rw [hcs]; show _ ≤ cap * 1; omega
      have hr := run_app_room_str (P := P) T U ty E i hT hU hi his g L.length cap cur hgg l hroom hfit
      refine ⟨_, _, hr, ?_, Fr.of_grownBy (r := some g) ⟨rfl, rfl, rfl, by simp, fun k _ hk => setRow_other w g k _ (fun e => hk (by rw [e]))⟩, fun g' _ ho => ho⟩
      unfold Own
      rw [hll]
      refine ⟨hlen, .inr ⟨g, cap, _, rfl, hbg, setRow_heap w g cur _ E _ hgg, hroom, hcm, ?_, ?_⟩⟩
      · rw [← hcs]
        simp only [List.size_toArray, List.length_append, List.length_take, List.length_drop, Array.length_toList, octV_len]
        omega
      · show List.take ((L.length + l.length) * 1) _ = _
        have htake' : cur.toList.take L.length = L.flatMap (kI .u8).enc := by
          have : cur.toList.take (L.length * 1) = _ := htake
          rwa [Nat.mul_one] at this
        rw [hcat, Nat.mul_one, htake']
        exact List.take_left' (by rw [List.length_append, hLe, octV_len])
    · have holds : ∀ j u, (L.flatMap (kI .u8).enc)[j]? = some u → w.cell? ((⟨g, 0, none⟩ : Addr).add j) = some u := World.ownsRow.cells (g := g) h rfl
      have hr := run_app_grow_str (P := P) T U ty E i zv hT hU hi hiz his ⟨g, 0, none⟩ L.length cap (L.flatMap (kI .u8).enc) hLe holds l (by omega) (by omega) (growslice_fits (by omega) (by rw [hib]; exact hbytes))
      have hgr := grown cap (by omega)
      exact ⟨_, _, hr, hgr.1, Fr.of_grownBy (hgr.2 _), fun g' hg ho => fresh g' hg ho _ _⟩
theorem opv_appendStr {ρ : Env} {o : Oper} {x y : Operand} {E T U : TypeId} {B bs : Nat} {v zv : Value} {L : List Int} {l : List UInt8} (ho : o.op = .call ⟨.builtin .append, #[x, y], #[T, U]⟩) (hT : P.underlying T = some (.slice E)) (hU : P.underlying U = some .string) (hE : elB P E = some (some zv, 1, bs)) (hz : zv.cells.size = 1)
    (hbs : Nat.ble bs 32768 = true) (hx : evO ρ x = v) (hy : evO ρ y = sv l) (h : Own (kI .u8) E w B v L) (hlim : L.length + l.length ≤ LIM) (hB : B ≤ w.heap.size) : OpV P o ρ w (AppR (kI .u8) E B w v (L ++ l.map ofB)) := by
  obtain ⟨v', w', hrun, hR⟩ := h.appendStr (P := P) (T := T) (U := U) (l := l) o.type hT hU hE hz hbs hlim hB
  exact opv_val (w' := w') (v := v') (by simp [execOp, ho, resolve, invoke, builtin, hx, hy, hrun]) hR
/-! ### The end of an array is cleared -/
theorem Arr.blt {n : Nat} {α : Type} {a : Arr n α} {i : Int} (h : i < (a.l.length : Int)) : i < (n : Int) := by
  rw [a.h] at h
  exact h
def Arr.clr {n : Nat} {α : Type} (a : Arr n α) (lo : Nat) (z : α) : Arr n α := ⟨a.l.take lo ++ List.replicate (n - (a.l.take lo).length) z, by
  have := a.h
  rw [List.length_append, List.length_replicate, List.length_take]
  omega⟩
theorem zeroCells_one (u : Value) (m : Nat) : Builtin.zeroCells #[u] m = (List.replicate m u).toArray := by
  apply Array.ext'
  unfold Builtin.zeroCells
  apply List.ext_getElem
  · simp
  · intro i h1 h2
    simp [Nat.mod_one]
theorem opv_clearArr {ρ : Env} {o : Oper} {x : Operand} {α : Type} {K : Kd α} {n g p : Nat} {a : Arr n α} {z : α} {zv : Value} {bs : Nat} {ss ss' : List Seg} {dT E T : TypeId} {lo : Nat} (ho : o.op = .call ⟨.builtin .clear, #[x], #[dT]⟩) (hT : P.underlying dT = some (.slice E)) (hE : elB P E = some (some zv, K.size, bs)) (hK : K.size = 1) (hz : zv.cells = (K.enc z).toArray)
    {m0 : Nat} (hm0 : m0 = n) (hx : evO ρ x = subv 1 (.slice (some ⟨g, p, none⟩) n n) lo m0) (hlo : lo ≤ n) (hb : Blk w g T ss) (i : Nat) (hi : ss[i]? = some (Kd.seg (kA n K) a)) (hp : sumN (ss.take i) = p) (hss : ss.take i ++ (Kd.seg (kA n K) (a.clr lo z) :: ss.drop (i + 1)) = ss') :
    OpV P o ρ w (fun v w' => v = .tuple #[] ∧ Blk w' g T ss' ∧ Fr (fun j => j = g) w w') := by
  obtain rfl : n = m0 := hm0.symm
  obtain ⟨it, hit, hiz, his, hib⟩ := elB_parts hE
  have hal : (a.l.take lo).length = lo := by rw [List.length_take, a.h]; omega
  have hcl : (a.clr lo z).l = splL a.l lo (List.replicate (n - lo) z) := by
    show a.l.take lo ++ List.replicate (n - (a.l.take lo).length) z = _
    unfold splL
    rw [hal, List.length_replicate, List.drop_eq_nil_of_le (by rw [a.h]; omega), List.append_nil]
  obtain ⟨u, hu⟩ : ∃ u, K.enc z = [u] := by
    have := K.len z
    rw [hK] at this
    match h : K.enc z, this with
    | [u], _ => exact ⟨u, rfl⟩
  have hone : u.oneCell' = true := K.one z u (by rw [hu]; simp)
  have hrep : (List.replicate (n - lo) z).flatMap K.enc = List.replicate (n - lo) u := by
    induction n - lo with
    | zero => rfl
    | succ m ih => rw [List.replicate_succ, List.flatMap_cons, ih, hu, List.replicate_succ]; rfl
  have hsp0 : Spl ((kA n K).enc a) (lo * K.size) (List.replicate (n - lo) u) ((kA n K).enc (a.clr lo z)) := by
    have := Spl.rows K a.l lo (List.replicate (n - lo) z) (by rw [a.h, List.length_replicate]; omega)
    rw [hrep] at this
    show Spl (a.l.flatMap K.enc) _ _ ((a.clr lo z).l.flatMap K.enc)
    rw [hcl]
    exact this
  have hsp := Spl.seg_in ss i (Kd.seg (kA n K) (a.clr lo z)) hi hp hsp0
  rw [hss, hK, Nat.mul_one] at hsp
  rcases Nat.eq_or_lt_of_le hlo with e | hlt
  · subst e
    rw [Nat.sub_self, List.replicate_zero] at hsp
    have he : cellsOf ss' = cellsOf ss := by rw [hsp.e]; simp
    refine opv_val (w' := w) (v := .tuple #[]) ?_ ⟨rfl, ?_, Fr.refl _ _⟩
    · simp only [execOp, ho, resolve, invoke, builtin]
      simp [hx, subv, Builtin.clear_, run_underlying hT]
    · unfold Blk
      rw [he]
      exact hb
  · have hx' : evO ρ x = .slice (some ⟨g, p + lo, none⟩) (n - lo) (n - lo) := by
      rw [hx]
      have hne : ¬ n = lo := by omega
      simp [subv, hne, Addr.add_lit]
    have hst := run_storeCells_at P g (p + lo) T (List.replicate (n - lo) u) 0 (cellsOf ss).toArray w hb (by simpa using hsp.fit) (by intro v hv; rw [List.eq_of_mem_replicate hv]; exact hone)
    simp only [Nat.add_zero] at hst
    have e := hsp.e
    have e2 : (cellsOf ss).toArray.toList.take (p + lo) ++ List.replicate (n - lo) u ++ (cellsOf ss).toArray.toList.drop (p + lo + (List.replicate (n - lo) u).length) = cellsOf ss' := e.symm
    have hw := setRow_heap w g _ (cellsOf ss').toArray T _ hb
    rw [e2] at hst
    have hzc : Builtin.zeroCells zv.cells (n - lo) = (List.replicate (n - lo) u).toArray := by rw [hz, hu]; exact zeroCells_one u _
    have hnl : n - lo ≠ 0 := by omega
    obtain ⟨m, hm⟩ : ∃ m, n - lo = m + 1 := ⟨n - lo - 1, by omega⟩
    refine opv_val (w' := w.setRow g (cellsOf ss').toArray) (v := .tuple #[]) ?_ ⟨rfl, hw, Fr.setRow g _⟩
    simp only [execOp, ho, resolve, invoke, builtin]
    rw [hm] at hx' hzc hst
    simp [hx', Builtin.clear_, run_underlying hT, zeroValue, typeInfo, hit, hiz, hzc, hst]
end Go.Xw

/- The words of the walks: objects that come in by pointers: parts of rows, what a call may write, results that may be nil, rows of records that hold slices. -/
set_option linter.unusedVariables false
set_option linter.unusedSimpArgs false
namespace Go.Xw
open Go
/-! ### A part of a row -/
theorem row_at {w : World} {g : Nat} {T : TypeId} {cs : List Value} (h : w.heap[g]? = some (.cells cs.toArray T (0, 0))) : At w g 0 cs := by
  intro j v hv
  rw [cell_of_row w g _ _ T (0, 0) h]
  simpa using hv
def SubB (w : World) (g : Nat) (T : TypeId) (X : List Value) (ss : List Seg) (Y : List Value) : Prop := w.heap[g]? = some (.cells (X ++ (cellsOf ss ++ Y)).toArray T (0, 0))
section
variable {P : Program} {w w' : World} {g g' : Nat} {T : TypeId} {X Y : List Value} {ss : List Seg}
theorem SubB.lt (h : SubB w g T X ss Y) : g < w.heap.size := (Array.getElem?_eq_some_iff.1 h).1
theorem SubB.fr {S : Nat → Prop} (h : SubB w g T X ss Y) (hf : Fr S w w') (hs : ¬ S g) : SubB w' g T X ss Y := (hf.blk g h.lt hs).trans h
theorem SubB.gr (h : SubB w g T X ss Y) (hf : Gr w w') : SubB w' g T X ss Y := h.fr hf (fun x => x)
theorem SubB.wr (h : SubB w g T X ss Y) (hf : Fr (fun j => j = g') w w') (hn : g ≠ g') : SubB w' g T X ss Y := h.fr hf hn
theorem SubB.wrO {v : Value} (h : SubB w g T X ss Y) (hf : Fr (fun j => some j = v.ownBlock) w w') (ho : Off v g) : SubB w' g T X ss Y := h.fr hf fun e => ho e.symm
theorem SubB.ne (h : SubB w g T X ss Y) (hg : w.heap.size ≤ g') : g ≠ g' := by have := h.lt; omega
theorem SubB.at_ (h : SubB w g T X ss Y) : At w g X.length (cellsOf ss) :=
  ((row_at h).sub rfl rfl).cast (Nat.zero_add _)
theorem SubB.segs (h : SubB w g T X ss Y) (i m : Nat) {p : Nat} (hp : sumN (ss.take i) = p) : At w g (X.length + p) (cellsOf ((ss.drop i).take m)) := h.at_.segs i m hp
theorem SubB.seg (h : SubB w g T X ss Y) (i : Nat) {s : Seg} {p : Nat} (hs : ss[i]? = some s) (hp : sumN (ss.take i) = p) : At w g (X.length + p) s.l := by
  have h1 := h.segs i 1 hp
  obtain ⟨hi, he⟩ := List.getElem?_eq_some_iff.1 hs
  rw [List.drop_eq_getElem_cons hi, he] at h1
  simpa [cellsOf] using h1
theorem Blk.sub (h : Blk w g T ss) (i m : Nat) : SubB w g T (cellsOf (ss.take i)) ((ss.drop i).take m) (cellsOf ((ss.drop i).drop m)) := by
  unfold SubB
  rw [← cellsOf_append, List.take_append_drop, ← cellsOf_append, List.take_append_drop]
  exact h
theorem Blk.unsub {pre mid post : List Seg} (h : SubB w g T (cellsOf pre) mid (cellsOf post)) : Blk w g T (pre ++ (mid ++ post)) := by
  unfold SubB at h
  unfold Blk
  rw [cellsOf_append, cellsOf_append]
  exact h
theorem SubB.sub (h : SubB w g T X ss Y) (i m : Nat) : SubB w g T (X ++ cellsOf (ss.take i)) ((ss.drop i).take m) (cellsOf ((ss.drop i).drop m) ++ Y) := by
  have e : X ++ cellsOf (ss.take i) ++ (cellsOf ((ss.drop i).take m) ++ (cellsOf ((ss.drop i).drop m) ++ Y)) = X ++ (cellsOf ss ++ Y) := by
    conv => rhs; rw [← List.take_append_drop i ss, cellsOf_append, ← List.take_append_drop m (ss.drop i), cellsOf_append]
    simp only [List.append_assoc, List.take_append_drop]
  unfold SubB
  rw [e]
  exact h
theorem SubB.unsub {pre mid post : List Seg} (h : SubB w g T (X ++ cellsOf pre) mid (cellsOf post ++ Y)) : SubB w g T X (pre ++ (mid ++ post)) Y := by
  unfold SubB at h ⊢
  rw [cellsOf_append, cellsOf_append]
  simpa [List.append_assoc] using h
variable {ρ : Env} {o : Oper} {x y : Operand} {T' : TypeId}
theorem opv_storeSub {p m : Nat} {v : Value} {xs : List Value} {ss' : List Seg} (ho : o.op = .store T' x y) (hsz : szB P T' = some m) (hx : evO ρ x = .pointer (some ⟨g, X.length + p, none⟩)) (hy : evO ρ y = v)
    (hc : v.cells = xs.toArray) (hm : xs.length = m) (h1 : ∀ u ∈ xs, u.oneCell' = true) (hb : SubB w g T X ss Y) (hs : Spl (cellsOf ss) p xs (cellsOf ss')) :
    OpV P o ρ w (fun _ w' => SubB w' g T X ss' Y ∧ Fr (fun j => j = g) w w') := by
  unfold szB at hsz
  obtain ⟨inf, hinf, he⟩ := Option.map_eq_some_iff.1 hsz
  have hs2 : Spl (X ++ (cellsOf ss ++ Y)) (X.length + p) xs (X ++ (cellsOf ss' ++ Y)) := Spl.comp rfl hs
  have hst := run_storeCells_spl (P := P) hb hs2 h1
  exact opv_skip (w' := w.setRow g (X ++ (cellsOf ss' ++ Y)).toArray) (by simp [execOp, ho, hx, hy, Instr.storeAt, Instr.sureAddr, storeVar, sizeOf, typeInfo, hinf, hc, hm, he, hst]) ⟨setRow_heap w g _ _ T _ hb, Fr.setRow g _⟩
theorem fin_end0 {fn : Func} {R : Ending → World → Prop} (hr : fn.results = #[]) (h : R (.returned (.tuple #[])) w) : fin P fn R .normal ρ w :=
  ⟨.inr rfl, fun tmps ht => ⟨.tuple #[], by simp [results, hr], h⟩⟩
theorem ptrE {f : Operand → Value} {p q : Nat} (h : f x = .pointer (some ⟨g, p, none⟩)) (e : q = p) : f x = .pointer (some ⟨g, q, none⟩) := by rw [h, e]
end
/-! ### An element of a row of the call's own -/
theorem Own.sub {α : Type} [Inhabited α] {K : Kd α} {E : TypeId} {w : World} {B : Nat} {v : Value} {L : List α} (h : Own K E w B v L) {i : Int} (h0 : 0 ≤ i) (h1 : i < (L.length : Int)) {ss : List Seg} (hss : K.enc (ix L i) = cellsOf ss) :
    ∃ X Y : List Value, X.length = so v + i.toNat * K.size ∧ v.ownBlock = some (sb v) ∧ SubB w (sb v) E X ss Y ∧ ∀ (w' : World) (z : α) (ss' : List Seg), K.enc z = cellsOf ss' → SubB w' (sb v) E X ss' Y → Own K E w' B v (L.set i.toNat z) := by
  rcases h.2 with ⟨rfl, hn⟩ | ⟨g, cap, cur, rfl, hb, hg, hn, hm, hcs, ht⟩
  · omega
  · have hi : i.toNat < L.length := by omega
    have hsp := flat_split K L i.toNat hi
    have hcur : cur = (L.flatMap K.enc ++ cur.toList.drop (L.length * K.size)).toArray := by
      rw [← ht, List.take_append_drop, Array.toArray_toList]
    have hfl : (L.flatMap K.enc).length = L.length * K.size := len_flat K L
    refine ⟨(L.take i.toNat).flatMap K.enc, (L.drop (i.toNat + 1)).flatMap K.enc ++ cur.toList.drop (L.length * K.size), ?_, rfl, ?_, ?_⟩
    · rw [len_flat, List.length_take, Nat.min_eq_left (by omega)]
      simp [so]
    · unfold SubB
      show w.heap[g]? = _
      rw [hg, ← hss]
      congr 2
      conv => lhs; rw [hcur, hsp]
      simp only [List.append_assoc]
      rfl
    · intro w' z ss' hz hsub
      have hl2 : (L.set i.toNat z).flatMap K.enc = (L.take i.toNat).flatMap K.enc ++ (K.enc z ++ (L.drop (i.toNat + 1)).flatMap K.enc) := by
        rw [List.set_eq_take_append_cons_drop, if_pos hi, List.flatMap_append, List.flatMap_cons]
      unfold SubB at hsub
      have hsub' : w'.heap[g]? = some (.cells ((L.set i.toNat z).flatMap K.enc ++ cur.toList.drop (L.length * K.size)).toArray E (0, 0)) := by
        have : w'.heap[g]? = _ := hsub
        rw [this, ← hz, hl2]
        simp only [List.append_assoc]
      refine ⟨by rw [len_flat, List.length_set], .inr ⟨g, cap, _, by rw [List.length_set], hb, hsub', by rw [List.length_set]; exact hn, hm, ?_, ?_⟩⟩
      · have hl3 : ((L.set i.toNat z).flatMap K.enc).length = (L.flatMap K.enc).length := by rw [len_flat, List.length_set, hfl]
        have hsz : cur.size = (L.flatMap K.enc ++ cur.toList.drop (L.length * K.size)).length := by
          conv => lhs; rw [hcur]
          exact List.size_toArray
        rw [List.size_toArray, List.length_append, hl3, ← List.length_append, ← hsz, hcs]
      · have e : (L.set i.toNat z).length * K.size = ((L.set i.toNat z).flatMap K.enc).length := (len_flat K _).symm
        rw [e]
        simp
theorem fr_own {w w' : World} {v : Value} (h : Fr (fun j => j = sb v) w w') (e : v.ownBlock = some (sb v)) : Fr (fun j => some j = v.ownBlock) w w' := h.mono fun j hj => by rw [e, hj]
theorem Own.rebase {α : Type} {K : Kd α} {E : TypeId} {w : World} {B B' : Nat} {v : Value} {l : List α} (h : Own K E w B v l) (hb : ∀ g, v.ownBlock = some g → B' ≤ g) : Own K E w B' v l := by
  refine ⟨h.1, ?_⟩
  rcases h.2 with hn | ⟨g, cap, cur, rfl, hb', r⟩
  · exact .inl hn
  · exact .inr ⟨g, cap, cur, rfl, hb g rfl, r⟩
/-! ### What a call may write -/
section
variable {w w' : World}
theorem off_z {g : Nat} {v : Value} (hg : g < w.heap.size) (z : ∀ k, v.ownBlock = some k → w.heap.size ≤ k) : Off v g := fun e => by have := z g e; omega
theorem nb_or {A B : Prop} (a : ¬ A) (b : ¬ B) : ¬ (A ∨ B) := fun h => h.elim a b
theorem nb_off {v : Value} {g : Nat} (h : Off v g) : ¬ (some g = v.ownBlock) := fun e => h e.symm
theorem vo_or {v : Value} {A B : Nat → Prop} (a : ∀ k, v.ownBlock = some k → ¬ A k) (b : ∀ k, v.ownBlock = some k → ¬ B k) : ∀ k, v.ownBlock = some k → ¬ (A k ∨ B k) := fun k hk h => h.elim (a k hk) (b k hk)
theorem vo_eq {v : Value} {g : Nat} (h : Off v g) : ∀ k, v.ownBlock = some k → ¬ (k = g) := fun k hk e => h (by rw [hk, e])
theorem vo_own {v u : Value} (h : OffV v u) : ∀ k, v.ownBlock = some k → ¬ (some k = u.ownBlock) := h
theorem ro_or {α : Type} {l : List α} {A B : Prop} (a : 0 < l.length → ¬ A) (b : 0 < l.length → ¬ B) : 0 < l.length → ¬ (A ∨ B) := fun hl h => h.elim (a hl) (b hl)
theorem ro_eq {α : Type} {v : Value} {l : List α} {g : Nat} (h : OffR v l g) : 0 < l.length → ¬ (sb v = g) := h
theorem ro_own {α : Type} {v u : Value} {l : List α} (h : OffRV v l u) : 0 < l.length → ¬ (some (sb v) = u.ownBlock) := fun hl e => h hl e.symm
theorem cv_or {A B T : Nat → Prop} (a : ∀ k, A k → T k) (b : ∀ k, B k → T k) : ∀ k, A k ∨ B k → T k := fun k h => h.elim (a k) (b k)
theorem cv_eq {T : Nat → Prop} {g : Nat} (h : T g) : ∀ k, k = g → T k := fun k e => e ▸ h
theorem cv_own {T : Nat → Prop} {v : Value} (h : ∀ k, v.ownBlock = some k → T k) : ∀ k, some k = v.ownBlock → T k := fun k e => h k e.symm
theorem Fr.call {S S1 : Nat → Prop} {a b c : World} (h : Fr S a b) (q : Fr S1 b c) (cv : ∀ k, S1 k → a.heap.size ≤ k ∨ S k) : Fr S a c := h.trans q fun j hj hs => (cv j hs).elim (fun x => by omega) id
theorem Fr.wrM {S : Nat → Prop} {a b c : World} {v : Value} (h : Fr S a b) (k : Fr (fun j => some j = v.ownBlock) b c) (m : ∀ g, v.ownBlock = some g → a.heap.size ≤ g ∨ S g) : Fr S a c := h.call k (cv_own m)
theorem ms_app {S : Nat → Prop} {n : Nat} {v v' : Value} (m : ∀ g, v.ownBlock = some g → n ≤ g ∨ S g) (on : ∀ g, g < w.heap.size → Off v g → Off v' g) (hs : n ≤ w.heap.size) : ∀ g, v'.ownBlock = some g → n ≤ g ∨ S g := by
  intro g hg
  by_cases hlt : g < w.heap.size
  · refine m g (Classical.byContradiction fun hne => ?_)
    exact on g hlt hne hg
  · exact .inl (by omega)
theorem ms_nil {S : Nat → Prop} {n : Nat} : ∀ g, (Value.slice none 0 0).ownBlock = some g → n ≤ g ∨ S g := fun g hg => by simp [Value.ownBlock] at hg
theorem ms_geO {α : Type} {K : Kd α} {E : TypeId} {S : Nat → Prop} {n : Nat} {v : Value} {l : List α} (h : Own K E w n v l) : ∀ g, v.ownBlock = some g → n ≤ g ∨ S g := fun g hg => .inl (h.ge hg)
theorem ov_new {α : Type} {K : Kd α} {E : TypeId} {B : Nat} {S : Nat → Prop} {r u : Value} {l : List α} (o : Own K E w B r l) (hr : ∀ k, r.ownBlock = some k → ¬ S k) (m : ∀ g, u.ownBlock = some g → w.heap.size ≤ g ∨ S g) : OffV r u := fun k hk e => (m k e.symm).elim (fun x => by have := o.lt hk; omega) (hr k hk)
theorem orv_new {α : Type} {K : Kd α} {S : Nat → Prop} {r u : Value} {l : List α} (o : Rd K w r l) (hK : Nat.blt 0 K.size = true) (hr : 0 < l.length → ¬ S (sb r)) (m : ∀ g, u.ownBlock = some g → w.heap.size ≤ g ∨ S g) : OffRV r l u := fun hl e => (m _ e).elim (fun x => by have := o.lt hK hl; omega) (hr hl)
end
theorem Blk.neT {w : World} {g g' : Nat} {T T' : TypeId} {ss ss' : List Seg} (h : Blk w g T ss) (h' : Blk w g' T' ss') (hn : T ≠ T') : g ≠ g' := by
  intro e
  subst e
  unfold Blk at h h'
  rw [h] at h'
  have := Option.some.inj h'
  simp at this
  exact hn this.2
/-! ### Pointers that may be nil -/
section
variable {P : Program} {ρ : Env} {w : World} {o : Oper} {x y : Operand} {T T' E : TypeId}
theorem run_eqPD (d : Nat) {A B : Option Addr} (hT : P.underlying T = some (.pointer E)) (h : A = none ∨ B = none) : (Op.equalIn (d + 1) T (.pointer A) (.pointer B)).run P w = .ok (A.isNone && B.isNone) w := by
  rcases h with rfl | rfl
  · cases B <;> simp [Op.equalIn, run_underlying hT]
  · cases A <;> simp [Op.equalIn, run_underlying hT]
theorem xr_eqP {A B : Option Addr} {b : Bool} (ho : o.op = .binOp .eql T x y T') (hT : P.underlying T = some (.pointer E)) (hx : evO ρ x = .pointer A) (hy : evO ρ y = .pointer B) (hn : A = none ∨ B = none) (hb : (A.isNone && B.isNone) = b) : (execOp (evO ρ) o).run P w = .ok (.value (.bool b)) w := by
  have h : (Op.equal T (.pointer A) (.pointer B)).run P w = .ok (A.isNone && B.isNone) w := run_eqPD 9999 hT hn
  simp only [execOp, ho, hx, hy, binOp]
  simp [eqGuard, h, hb]
theorem xr_neP {A B : Option Addr} {b : Bool} (ho : o.op = .binOp .neq T x y T') (hT : P.underlying T = some (.pointer E)) (hx : evO ρ x = .pointer A) (hy : evO ρ y = .pointer B) (hn : A = none ∨ B = none) (hb : (!(A.isNone && B.isNone)) = b) : (execOp (evO ρ) o).run P w = .ok (.value (.bool b)) w := by
  have h : (Op.equal T (.pointer A) (.pointer B)).run P w = .ok (A.isNone && B.isNone) w := run_eqPD 9999 hT hn
  simp only [execOp, ho, hx, hy, binOp]
  simp [eqGuard, h, hb]
theorem en {α β : Type} {o : Option α} {A : Option β} {B : α → Option β} {r : β} (h : Option.elim o A B = some r) : (o = none ∧ A = some r) ∨ ∃ m, o = some m ∧ B m = some r := by
  cases o with
  | none => exact .inl ⟨rfl, h⟩
  | some m => exact .inr ⟨m, rfl, h⟩
end
/-! ### Rows of records that hold slices -/
def kC (n : Nat) : Kd { l : List Value // l.length = n ∧ ∀ v ∈ l, v.oneCell' = true } := ⟨fun x => x.1, n, fun x => x.2.1, fun x => x.2.2⟩
def RdN {α : Type} (n : Nat) (D : World → List Value → α → Prop) (w : World) (v : Value) (l : List α) : Prop := ∃ cs : List { l : List Value // l.length = n ∧ ∀ v ∈ l, v.oneCell' = true }, Rd (kC n) w v cs ∧ cs.length = l.length ∧ ∀ i (h : i < cs.length) (h' : i < l.length), D w cs[i].1 l[i]
def cellAt (w : World) (g p : Nat) : Value := (w.cell? ⟨g, p, none⟩).getD undef
section
variable {P : Program} {w w' : World} {α : Type} {n : Nat} {D : World → List Value → α → Prop} {v : Value} {l : List α}
theorem RdN.gr (h : RdN n D w v l) (hD : ∀ {w w' : World} {cs : List Value} {m : α}, D w cs m → Gr w w' → D w' cs m) (hf : Gr w w') : RdN n D w' v l := by
  obtain ⟨cs, h1, h2, h3⟩ := h
  exact ⟨cs, h1.gr hf, h2, fun i h h' => hD (h3 i h h') hf⟩
theorem RdN.one (h : RdN n D w v l) : v.oneCell' = true := by
  obtain ⟨cs, h1, _⟩ := h
  exact h1.one
theorem RdN.nil : RdN n D w (.slice none 0 0) [] := ⟨[], Rd.nil _ _, rfl, fun i h => by simp at h⟩
instance : Inhabited { l : List Value // l.length = n ∧ ∀ v ∈ l, v.oneCell' = true } := ⟨⟨List.replicate n (.bool false), by simp, fun v hv => by rw [List.eq_of_mem_replicate hv]; rfl⟩⟩
theorem RdN.at [Inhabited α] (h : RdN n D w v l) {i : Int} (h0 : 0 ≤ i) (h1 : i < (l.length : Int)) : ∃ cs, At w (sb v) (so v + i.toNat * n) cs ∧ D w cs (ix l i) := by
  obtain ⟨cs, r1, r2, r3⟩ := h
  have hi : i.toNat < cs.length := by omega
  have hi2 : i.toNat < l.length := by omega
  refine ⟨cs[i.toNat].1, ?_, ?_⟩
  · have := r1.elem h0 (by rw [r2]; exact h1)
    have e : ix cs i = cs[i.toNat] := by
      unfold ix
      rw [List.getD_eq_getElem?_getD, List.getElem?_eq_getElem hi]
      rfl
    rw [e] at this
    exact this
  · have e : ix l i = l[i.toNat] := by
      unfold ix
      rw [List.getD_eq_getElem?_getD, List.getElem?_eq_getElem hi2]
      rfl
    rw [e]
    exact r3 i.toNat hi hi2
theorem At.cellAt {g p j : Nat} {cs : List Value} {u : Value} (h : At w g p cs) (hj : cs[j]? = some u) : Xw.cellAt w g (p + j) = u := by
  unfold Xw.cellAt
  rw [h j u hj]
  rfl
variable {ρ : Env} {o : Oper} {x y : Operand} {T T' E : TypeId}
theorem xr_lenN {w' : World} (ho : o.op = .call ⟨.builtin .len, #[x], #[T]⟩) (hT : P.underlying T = some (.slice E)) (hx : evO ρ x = v) (hr : RdN n D w' v l) : (execOp (evO ρ) o).run P w = .ok (.value (.int .i64 (l.length : Int))) w := by
  obtain ⟨cs, h1, h2, _⟩ := hr
  rw [← h2]
  exact xr_lenR ho hT hx h1
theorem xr_indexN {k : IntKind} {i : Int} (ho : o.op = .indexAddr T x y) (hT : P.underlying T = some (.slice E)) (hs : szB P E = some n)
    (hx : evO ρ x = v) (hr : RdN n D w v l) (hy : evO ρ y = .int k i) (h0 : 0 ≤ i) (h1 : i < (l.length : Int)) : (execOp (evO ρ) o).run P w = .ok (.value (.pointer (some ⟨sb v, so v + i.toNat * n, none⟩))) w := by
  obtain ⟨cs, hv, h2, _⟩ := hr
  exact xr_indexR (K := kC n) ho hT hs hx hv hy h0 (by rw [h2]; exact h1)
end
/-! ### A slice literal of one record -/
theorem opv_buildRec {P : Program} {ρ : Env} {w : World} {o : Oper} {x : Operand} {T E : TypeId} {α : Type} {K : Kd α} {B bs : Nat} {zv v : Value} {z : α} (ho : o.op = .buildSlice T 1 #[(0, x)]) (hT : P.underlying T = some (.slice E)) (hE : elB P E = some (some zv, K.size, bs)) (hm : Nat.ble K.size 4096 = true) (hk : Nat.blt 0 K.size = true)
    (hx : evO ρ x = v) (hv : v.cells = (K.enc z).toArray) (hB : B ≤ w.heap.size) : OpV P o ρ w (NewR K E B w [z]) := by
  obtain ⟨i, hi, hiz, his, hib⟩ := elB_parts hE
  have hlen := K.len z
  refine opv_val (w' := w.alloc (.cells (K.enc z).toArray E)) (v := .slice (some ⟨w.heap.size, 0, none⟩) 1 1) ?_ ⟨⟨by rw [len_flat], .inr ⟨w.heap.size, 1, (K.enc z).toArray, rfl, hB, heap_alloc_new w _, Nat.le_refl _, by simp only [maxLen]; omega, by simp [hlen], ?_⟩⟩, Fr.alloc w _, fun k hk => by simp [Value.ownBlock] at hk; omega⟩
  · have hfl : ∀ c : Array Value, c.size = K.size → Instr.fill (fun i => some (i * K.size, K.size)) c [(0, v)] = some (K.enc z).toArray := by
      intro c hc
      have := fl_cons (place := fun i => some (i * K.size, K.size)) (cs := c.toList) (cs' := K.enc z) (xs := K.enc z) (res := K.enc z) (j := 0) (off := 0) (n := K.size) (v := v) (parts := []) (by simp) hv hlen (Spl.whole (by rw [hlen, Array.length_toList, hc])) fl_nil
      unfold Fl at this
      rwa [Array.toArray_toList] at this
    have hle : ¬ 16777216 < K.size := by
      have := Nat.le_of_ble_eq_true hm
      omega
    have h0 : ¬ K.size = 0 := by
      have : 0 < K.size := by simpa [Nat.blt_eq] using hk
      omega
    simp only [execOp, ho]
    simp [Instr.buildSlice, run_underlying hT, sizeOf, typeInfo, hi, his, newRow, zeroValue, hiz, hx, hle, h0, hfl]
  · show List.take (1 * K.size) (K.enc z) = [z].flatMap K.enc
    rw [List.take_of_length_le (by omega)]
    simp
end Go.Xw

/- Plain words on the models: rounds, numbers that fit, lists. -/
set_option linter.unusedVariables false
set_option linter.unusedSimpArgs false
namespace Go.Xw
open Go
theorem w64 {n : Int} (h1 : -9223372036854775808 ≤ n) (h2 : n ≤ 9223372036854775807) : IntKind.i64.wrap n = n := by
  unfold IntKind.wrap
  simp only [IntKind.signed, IntKind.bits]
  simp
  split <;> omega
theorem wu8 {n : Int} (h1 : 0 ≤ n) (h2 : n ≤ 255) : IntKind.u8.wrap n = n := by
  unfold IntKind.wrap
  simp only [IntKind.signed, IntKind.bits]
  simp
  omega
theorem wu64 {n : Int} (h1 : 0 ≤ n) (h2 : n ≤ 18446744073709551615) : IntKind.u64.wrap n = n := by
  unfold IntKind.wrap
  simp only [IntKind.signed, IntKind.bits]
  simp
  omega
theorem wu32 {n : Int} (h1 : 0 ≤ n) (h2 : n ≤ 4294967295) : IntKind.u32.wrap n = n := by
  unfold IntKind.wrap
  simp only [IntKind.signed, IntKind.bits]
  simp
  omega
theorem wf64 {n : Int} : (Lit.int .i64 n).wf = true ↔ -9223372036854775808 ≤ n ∧ n ≤ 9223372036854775807 := by
  simp only [Lit.wf, IntKind.min, IntKind.max, IntKind.signed, IntKind.bits, Bool.and_eq_true, decide_eq_true_eq]
  simp
theorem wfu64 {n : Int} : (Lit.int .u64 n).wf = true ↔ 0 ≤ n ∧ n ≤ 18446744073709551615 := by
  simp only [Lit.wf, IntKind.min, IntKind.max, IntKind.signed, IntKind.bits, Bool.and_eq_true, decide_eq_true_eq]
  simp
theorem wf8 {n : Int} : (Lit.int .u8 n).wf = true ↔ 0 ≤ n ∧ n ≤ 255 := by
  simp only [Lit.wf, IntKind.min, IntKind.max, IntKind.signed, IntKind.bits, Bool.and_eq_true, decide_eq_true_eq]
  simp
theorem loopM_from {σ ε : Type} {step : σ → Option (Sum ε σ)} (S : Nat → σ) (n : Nat) (e : ε) (h : ∀ j, j < n → step (S j) = some (.inr (S (j + 1)))) (he : step (S n) = some (.inl e)) : ∀ k m, m ≤ n → n - m < k → loopM step k (S m) = some e
  | 0, m, _, hk => by omega
  | k + 1, m, hm, hk => by
    unfold loopM
    by_cases e1 : m = n
    · subst e1
      rw [he]
    · rw [h m (by omega)]
      exact loopM_from S n e h he k (m + 1) (by omega) (by omega)
theorem loopM_run {σ ε : Type} {step : σ → Option (Sum ε σ)} (S : Nat → σ) (n : Nat) {e : ε} {k : Nat} {s : σ} (hs : S 0 = s) (h : ∀ j, j < n → step (S j) = some (.inr (S (j + 1)))) (he : step (S n) = some (.inl e)) (hk : n < k) : loopM step k s = some e := by
  subst hs
  exact loopM_from S n e h he k 0 (by omega) (by omega)
theorem loopM_bad {σ ε : Type} {step : σ → Option (Sum ε σ)} (S : Nat → σ) (N : Nat) (good : Nat → Prop) {e : ε} {k : Nat} {s : σ} (hs : S 0 = s) (hex : ∃ j, j < N ∧ ¬ good j)
    (h : ∀ j, j < N → (∀ i, i < j → good i) → good j → step (S j) = some (.inr (S (j + 1)))) (hb : ∀ j, j < N → (∀ i, i < j → good i) → ¬ good j → step (S j) = some (.inl e)) (hk : N < k) : loopM step k s = some e := by
  have hmin : ∀ m j, j ≤ m → (j < N ∧ ¬ good j) → ∃ n, (n < N ∧ ¬ good n) ∧ ∀ i, i < n → good i := by
    intro m
    induction m with
    | zero =>
      intro j hj hjj
      exact ⟨j, hjj, fun i hi => by omega⟩
    | succ m ih =>
      intro j hj hjj
      by_cases hx : ∃ i, i < j ∧ ¬ good i
      · obtain ⟨i, hi, hgi⟩ := hx
        exact ih i (by omega) ⟨by omega, hgi⟩
      · exact ⟨j, hjj, fun i hi => Classical.byContradiction fun hg => hx ⟨i, hi, hg⟩⟩
  obtain ⟨j, hj⟩ := hex
  obtain ⟨n, ⟨hn, hg⟩, hall⟩ := hmin j j (Nat.le_refl _) hj
  exact loopM_run S n hs (fun i hi => h i (by omega) (fun q hq => hall q (by omega)) (hall i hi)) (hb n hn hall hg) (by omega)
end Go.Xw

/- The words of the walks: noughts appended. -/
set_option linter.unusedVariables false
set_option linter.unusedSimpArgs false
namespace Go.Xw
open Go
/-! ### Noughts appended: append(s, make([]byte, n)...) -/
section
variable {P : Program} {w : World}
def noughtV (n : Nat) : List Value := List.replicate n (Value.int .u8 0)
theorem noughtV_enc (n : Nat) : ((List.replicate n (0 : Int)).flatMap (kI .u8).enc) = noughtV n := by
  induction n with
  | zero => rfl
  | succ n ih =>
    rw [List.replicate_succ, List.flatMap_cons, ih]
    rfl
theorem noughtV_len (n : Nat) : (noughtV n).length = n := List.length_replicate
theorem noughtV_one (n : Nat) : ∀ u ∈ noughtV n, u.oneCell' = true := by
  intro u hu
  rw [List.eq_of_mem_replicate hu]
  rfl
theorem noughtV_cells (n : Nat) : Builtin.zeroCells #[Value.int .u8 0] n = (noughtV n).toArray := zeroCells_one _ n
theorem run_app_room_z (t u ty e : TypeId) (i : TypeInfo) (ht : P.underlying t = some (.slice e)) (hu : P.underlying u = some (.int .i64)) (hi : P.info? e = some i) (hz : i.zero = some (.int .u8 0)) (his : i.size = 1) (hib : i.bytes = 1)
    (g sLen sCap n : Nat) (cur : Array Value) (hg : w.heap[g]? = some (.cells cur e (0, 0))) (hn0 : 0 < n) (hnl : n ≤ 4294967296) (hroom : sLen + n ≤ sCap) (hfit : sLen + n ≤ cur.size) :
    (Builtin.append_ #[t, u] ty #[.slice (some ⟨g, 0, none⟩) sLen sCap, .int .i64 (n : Int)]).run P w =
      .ok (.slice (some ⟨g, 0, none⟩) (sLen + n) sCap) (w.setRow g (cur.toList.take sLen ++ noughtV n ++ cur.toList.drop (sLen + n)).toArray) := by
  have hst := run_storeCells_at P g sLen e (noughtV n) 0 cur w hg (by simpa [noughtV_len] using hfit) (noughtV_one n)
  simp only [Nat.add_zero, noughtV_len] at hst
  have hw : IntKind.i64.wrap (n : Int) = (n : Int) := w64 (by omega) (by omega)
  have h0 : ¬ ((n : Int) < 0) := by omega
  have h48 : ¬ (281474976710656 < (n : Int)) := by omega
  have hne : ¬ n = 0 := by omega
  simp [Builtin.append_, run_underlying ht, run_underlying hu, sizeOf, typeInfo, zeroValue, hi, hz, his, hib, asInt, asIntOf, hw, h0, h48, hne, hroom, Value.cells, noughtV_cells, Addr.add_lit, hst]
theorem run_app_grow_z (t u ty e : TypeId) (i : TypeInfo) (ht : P.underlying t = some (.slice e)) (hu : P.underlying u = some (.int .i64)) (hi : P.info? e = some i) (hz : i.zero = some (.int .u8 0)) (his : i.size = 1) (hib : i.bytes = 1)
    (v : Value) (A : Option Addr) (sLen sCap n : Nat) (hv : v = .slice A sLen sCap) (olds : List Value) (hfo : (Builtin.firstCells 1 sLen v).run P w.drew = .ok olds.toArray w.drew) (hn0 : 0 < n)
    (hg : sCap < sLen + n) (h63 : sLen + n ≤ 4294967296) (hfit : Builtin.nextslicecap (sLen + n) sCap * i.bytes ≤ 281474976710656) :
    (Builtin.append_ #[t, u] ty #[v, .int .i64 (n : Int)]).run P w =
      .ok (.slice (some ⟨w.heap.size, 0, none⟩) (sLen + n) (grownCap w (sLen + n) sCap e))
        (w.drew.alloc (.cells (olds.toArray ++ (noughtV n).toArray ++ Builtin.zeroCells #[Value.int .u8 0] (grownCap w (sLen + n) sCap e - (sLen + n))) e)) := by
  have hn : ¬ (sLen + n ≤ sCap) := by omega
  have h63' : ¬ (9223372036854775807 < ((sLen : Int) + (n : Int))) := by omega
  have h48' : ¬ (281474976710656 < Builtin.nextslicecap (sLen + n) sCap * i.bytes) := by omega
  rw [hib, Nat.mul_one] at h48'
  have hw : IntKind.i64.wrap (n : Int) = (n : Int) := w64 (by omega) (by omega)
  have h0 : ¬ ((n : Int) < 0) := by omega
  have h48 : ¬ (281474976710656 < (n : Int)) := by omega
  have hne : ¬ n = 0 := by omega
  subst hv
  simp [Builtin.append_, run_underlying ht, run_underlying hu, sizeOf, typeInfo, zeroValue, hi, hz, his, hib, asInt, asIntOf, hw, h0, h48, hne, hn, h63', h48', Question.forced, hfo, newRow, grownCap, Value.cells, noughtV_cells]
  try rfl
theorem Own.appendZ {E T U : TypeId} {B bs n : Nat} {v : Value} {L : List Int} (h : Own (kI .u8) E w B v L) (ty : TypeId) (hT : P.underlying T = some (.slice E)) (hU : P.underlying U = some (.int .i64)) (hE : elB P E = some (some (.int .u8 0), 1, bs))
    (hbs : bs = 1) (hn0 : 0 < n) (hlim : L.length + n ≤ LIM) (hB : B ≤ w.heap.size) : ∃ v' w', (Builtin.append_ #[T, U] ty #[v, .int .i64 (n : Int)]).run P w = .ok v' w' ∧ AppR (kI .u8) E B w v (L ++ List.replicate n 0) v' w' := by
  obtain ⟨i, hi, hiz, his, hib⟩ := elB_parts hE
  subst hbs
  unfold LIM at hlim
  have hLe : (L.flatMap (kI .u8).enc).length = L.length := by rw [len_flat]; exact Nat.mul_one _
  have hcat : (L ++ List.replicate n 0).flatMap (kI .u8).enc = L.flatMap (kI .u8).enc ++ noughtV n := by rw [List.flatMap_append, noughtV_enc]
  have hlen : ((L ++ List.replicate n 0).flatMap (kI .u8).enc).length = (L.length + n) * 1 := by rw [hcat, List.length_append, hLe, noughtV_len, Nat.mul_one]
  have hll : (L ++ List.replicate n 0).length = L.length + n := by simp
  have h63 : L.length + n ≤ maxLen := by simp only [maxLen]; omega
  have grown : ∀ (old : Nat), old < L.length + n →
      Own (kI .u8) E (w.drew.alloc (.cells ((L.flatMap (kI .u8).enc).toArray ++ (noughtV n).toArray ++ Builtin.zeroCells #[Value.int .u8 0] (grownCap w (L.length + n) old E - (L.length + n))) E)) B (.slice (some ⟨w.heap.size, 0, none⟩) (L.length + n) (grownCap w (L.length + n) old E)) (L ++ List.replicate n 0) ∧
      ∀ row : Option Nat, w.grownBy (w.drew.alloc (.cells ((L.flatMap (kI .u8).enc).toArray ++ (noughtV n).toArray ++ Builtin.zeroCells #[Value.int .u8 0] (grownCap w (L.length + n) old E - (L.length + n))) E)) row := by
    intro old ho
    have hge := grownCap_ge w (L.length + n) old E
    have hcm : grownCap w (L.length + n) old E ≤ maxLen := grownCap_le_maxLen w (L.length + n) old E h63
    refine ⟨?_, fun row => ⟨rfl, rfl, rfl, by simp, fun k hk _ => heap_alloc_old w.drew _ hk⟩⟩
    unfold Own
    rw [hll]
    refine ⟨hlen, .inr ⟨w.heap.size, _, _, rfl, hB, heap_alloc_new w.drew _, hge, hcm, ?_, ?_⟩⟩
    · show _ = grownCap w (L.length + n) old E * 1
      simp only [Array.size_append, List.size_toArray, size_zeroCells, hLe, noughtV_len, Nat.mul_one]
      simp
      omega
    · show List.take ((L.length + n) * 1) _ = _
      rw [hcat, Nat.mul_one]
      simp only [Array.toList_append]
      exact List.take_left' (by rw [List.length_append, hLe, noughtV_len])
  have fresh : ∀ g : Nat, g < w.heap.size → Off v g → ∀ n c : Nat, Off (.slice (some ⟨w.heap.size, 0, none⟩) n c) g := by
    intro g hg _ n c e
    have := Option.some.inj (show some w.heap.size = some g from e)
    omega
  rcases h.2 with ⟨rfl, hn0'⟩ | ⟨g, cap, cur, rfl, hbg, hgg, hnc, hcm, hcs, htake⟩
  · obtain rfl : L = [] := List.eq_nil_of_length_eq_zero hn0'
    have hr := run_app_grow_z (P := P) (w := w) T U ty E i hT hU hi hiz his hib (.slice none 0 0) none 0 0 n rfl [] (by simp [Builtin.firstCells]) hn0 (by omega) (by simpa using hlim) (growslice_fits (by simp only [List.length_nil] at hlim; omega) (by rw [hib]; simp only [List.length_nil] at hlim; omega))
    have hgr := grown 0 (by simp only [List.length_nil, Nat.zero_add]; omega)
    simp only [List.length_nil, Nat.zero_add, List.flatMap_nil, List.nil_append] at hgr hr
    exact ⟨_, _, hr, hgr.1, Fr.of_grownBy (hgr.2 _), fun g hg ho => fresh g hg ho _ _⟩
  · have hL : L.length * 1 ≤ cur.size := by show L.length * (kI .u8).size ≤ _; rw [hcs]; exact Nat.mul_le_mul_right _ hnc
    by_cases hroom : L.length + n ≤ cap
    · have hfit : L.length + n ≤ cur.size := by rw [hcs]; show _ ≤ cap * 1; omega
      have hr := run_app_room_z (P := P) T U ty E i hT hU hi hiz his hib g L.length cap n cur hgg hn0 (by omega) hroom hfit
      refine ⟨_, _, hr, ?_, Fr.of_grownBy (r := some g) ⟨rfl, rfl, rfl, by simp, fun k _ hk => setRow_other w g k _ (fun e => hk (by rw [e]))⟩, fun g' _ ho => ho⟩
      unfold Own
      rw [hll]
      refine ⟨hlen, .inr ⟨g, cap, _, rfl, hbg, setRow_heap w g cur _ E _ hgg, hroom, hcm, ?_, ?_⟩⟩
      · rw [← hcs]
        simp only [List.size_toArray, List.length_append, List.length_take, List.length_drop, Array.length_toList, noughtV_len]
        omega
      · show List.take ((L.length + n) * 1) _ = _
        have htake' : cur.toList.take L.length = L.flatMap (kI .u8).enc := by
          have : cur.toList.take (L.length * 1) = _ := htake
          rwa [Nat.mul_one] at this
        rw [hcat, Nat.mul_one, htake']
        exact List.take_left' (by rw [List.length_append, hLe, noughtV_len])
    · have holds : ∀ j u, (L.flatMap (kI .u8).enc)[j]? = some u → w.cell? ((⟨g, 0, none⟩ : Addr).add j) = some u := World.ownsRow.cells (g := g) h rfl
      have hfo := run_firstCells_some (P := P) w.drew 1 L.length ⟨g, 0, none⟩ L.length cap (L.flatMap (kI .u8).enc) (by rw [hLe, Nat.mul_one]) (by simpa using holds)
      have hr := run_app_grow_z (P := P) T U ty E i hT hU hi hiz his hib (.slice (some ⟨g, 0, none⟩) L.length cap) _ L.length cap n rfl (L.flatMap (kI .u8).enc) hfo hn0 (by omega) (by omega) (growslice_fits (by omega) (by rw [hib]; omega))
      have hgr := grown cap (by omega)
      exact ⟨_, _, hr, hgr.1, Fr.of_grownBy (hgr.2 _), fun g' hg ho => fresh g' hg ho _ _⟩
theorem opv_appendZ {ρ : Env} {o : Oper} {x y : Operand} {E T U : TypeId} {B bs n : Nat} {v : Value} {L : List Int} (ho : o.op = .call ⟨.builtin .append, #[x, y], #[T, U]⟩) (hT : P.underlying T = some (.slice E)) (hU : P.underlying U = some (.int .i64)) (hE : elB P E = some (some (.int .u8 0), 1, bs))
    (hbs : bs = 1) (hx : evO ρ x = v) (hy : evO ρ y = .int .i64 (n : Int)) (h : Own (kI .u8) E w B v L) (hn0 : Nat.blt 0 n = true) (hlim : L.length + n ≤ LIM) (hB : B ≤ w.heap.size) : OpV P o ρ w (AppR (kI .u8) E B w v (L ++ List.replicate n 0)) := by
  obtain ⟨v', w', hrun, hR⟩ := h.appendZ (P := P) (T := T) (U := U) (n := n) o.type hT hU hE hbs (by simpa [Nat.blt_eq] using hn0) hlim hB
  exact opv_val (w' := w') (v := v') (by simp [execOp, ho, resolve, invoke, builtin, hx, hy, hrun]) hR
end
end Go.Xw

/- Regions whose order is open, and what lies apart in pairs. -/
set_option linter.unusedVariables false
set_option linter.unusedSimpArgs false
namespace Go.Xw
open Go
section
variable {P : Program} {N : Nat} {l : List Oper} {Q : Exit → Env → World → Prop}
theorem cw_drawQ {id : Nat} (n : Nat) (G : Nat → Value → World → Prop) (Pr : Nat → Nat → Value → Value → Prop) (Inv : (Nat → Bool) → World → Prop) {ρ0 : Env} {w0 : World} (hm : P.follows .mixedOrders = true) (hB : drawB l n N = true)
    (h0 : Inv (fun _ => false) { w0 with drawn := w0.drawn + 1 })
    (step : ∀ i, i < n → ∀ o, l[i]? = some o → ∀ (dn : Nat → Bool) ρ w, dn i = false → (∀ k, dn k = true → ∀ j, aftB l k j = true → dn j = true) → Inv dn w → (∀ t, keepB l n i t = true → ρ t = ρ0 t) → (∀ j, aftB l i j = true → ∀ d, dstAt l j = some d → G j (ρ d) w) → (∀ j, j < n → dn j = true → ∀ d, dstAt l j = some d → G j (ρ d) w) → StepOk P l.toArray o (fun v w' => G i v w' ∧ Inv (fun k => Nat.beq k i || dn k) w' ∧ (∀ k v', k < n → k ≠ i → dn k = true → G k v' w → G k v' w') ∧ ∀ j, j < n → j ≠ i → dn j = true → ∀ d, dstAt l j = some d → Pr i j v (ρ d) ∧ Pr j i (ρ d) v) ρ w)
    (tail : ∀ ρ w (dn : Nat → Bool), (∀ k, k < n → dn k = true) → Inv dn w → (∀ t, ((List.range n).all fun k => dstAt l k != some t) = true → ρ t = ρ0 t) → (∀ j, j < n → ∀ d, dstAt l j = some d → G j (ρ d) w) → (∀ j k, j < n → k < n → j ≠ k → ∀ d e, dstAt l j = some d → dstAt l k = some e → Pr j k (ρ d) (ρ e)) → OL P N l.toArray Q (l.drop n) ρ w) :
    CW P N (.region id l.toArray true) Q ρ0 w0 := by
  intro a ha
  refine wp_region_any hm ?_
  have hB' := hB
  simp only [drawB, Bool.and_eq_true] at hB'
  obtain ⟨⟨⟨hnl, htail⟩, hback⟩, hd⟩ := hB'
  have hnl' : n ≤ l.length := Nat.le_of_ble_eq_true hnl
  have key : ∀ (fuel : Nat) (listed : Array Bool) (a : Act) (ρ : Env) (w : World), Fits N a ρ → listed.size = l.length → (List.range l.length).countP (fun k => !listed.getD k false) ≤ fuel → (∀ k, k < l.length → listed.getD k false = true → k < n) → (∀ k, listed.getD k false = true → ∀ j, aftB l k j = true → listed.getD j false = true) → Inv (fun k => listed.getD k false) w →
      (∀ t, (∀ k, k < n → listed.getD k false = true → dstAt l k ≠ some t) → ρ t = ρ0 t) → (∀ k, k < n → listed.getD k false = true → ∀ d, dstAt l k = some d → G k (ρ d) w) → (∀ j k, j < n → k < n → j ≠ k → listed.getD j false = true → listed.getD k false = true → ∀ d e, dstAt l j = some d → dstAt l k = some e → Pr j k (ρ d) (ρ e)) → wpAny P .any l.toArray (lift N Q) fuel listed a w := by
    intro fuel
    induction fuel with
    | zero =>
      intro listed a ρ w hf hsz hc hln hcl hgr hkeep hG hP
      have hall : ∀ k, k < l.length → listed.getD k false = true := by
        intro k hk
        have h0 : (List.range l.length).countP (fun k => !listed.getD k false) = 0 := by omega
        have := List.countP_eq_zero.1 h0 k (List.mem_range.2 hk)
        simpa using this
      have hn : n = l.length := by
        rcases Nat.lt_or_ge n l.length with h | h
        · have := hln n h (hall n h); omega
        · omega
      refine tail_any hB 0 n listed a w (Nat.le_refl _) hnl' hsz (fun k hk => ?_) (by omega) ?_
      · rw [hall k hk]; exact (blt_iff.2 (by omega)).symm
      · exact tail ρ w _ (fun k hk => hall k (by omega)) hgr (fun t ht => hkeep t fun k hk _ e => by
          have := List.all_eq_true.1 ht k (List.mem_range.2 hk)
          rw [e] at this
          simp at this) (fun j hj d he => hG j hj (hall j (by omega)) d he) (fun j k hj hk hne d e hd he => hP j k hj hk hne (hall j (by omega)) (hall k (by omega)) d e hd he) a hf
    | succ fuel ih =>
      intro listed a ρ w hf hsz hc hln hcl hgr hkeep hG hP
      by_cases hall : ∀ k, k < n → listed.getD k false = true
      · refine tail_any hB (fuel + 1) n listed a w (Nat.le_refl _) hnl' hsz (fun k hk => ?_) ?_ ?_
        · rw [Bool.eq_iff_iff, Nat.blt_eq]
          exact ⟨hln k hk, hall k⟩
        · have : (List.range l.length).countP (fun k => !listed.getD k false) = l.length - n := by
            have e : (List.range l.length).countP (fun k => !listed.getD k false) = (List.range l.length).countP (fun k => !Nat.blt k n) := by
              apply List.countP_congr
              intro k hk
              have hk' := List.mem_range.1 hk
              have : listed.getD k false = Nat.blt k n := by
                rw [Bool.eq_iff_iff, Nat.blt_eq]
                exact ⟨hln k hk', hall k⟩
              rw [this]
            rw [e]
            have hsplit : l.length = n + (l.length - n) := by omega
            rw [hsplit, List.range_add, List.countP_append]
            have h1 : (List.range n).countP (fun k => !Nat.blt k n) = 0 := by
              apply List.countP_eq_zero.2
              intro k hk
              have := blt_iff.2 (List.mem_range.1 hk)
              simp [this]
            have h2 : ((List.range (l.length - n)).map (n + ·)).countP (fun k => !Nat.blt k n) = l.length - n := by
              rw [List.countP_eq_length.2]
              · simp
              · intro k hk
                obtain ⟨q, _, rfl⟩ := List.mem_map.1 hk
                cases hb : Nat.blt (n + q) n
                · rfl
                · have := blt_iff.1 hb; omega
            rw [h1, h2]
            omega
          omega
        · exact tail ρ w _ hall hgr (fun t ht => hkeep t fun k hk _ e => by
            have := List.all_eq_true.1 ht k (List.mem_range.2 hk)
            rw [e] at this
            simp at this) (fun j hj d he => hG j hj (hall j hj) d he) (fun j k hj hk hne d e hd he => hP j k hj hk hne (hall j hj) (hall k hk) d e hd he) a hf
      · refine ⟨fun hr => ?_, fun i hi => ?_⟩
        · exfalso
          have hex : ∃ k, k < l.length ∧ listed.getD k false = false := by
            apply Classical.byContradiction
            intro hne
            apply hall
            intro k hk
            cases hb : listed.getD k false
            · exact absurd ⟨k, by omega, hb⟩ hne
            · rfl
          obtain ⟨i, ⟨hil, hif⟩, hmin⟩ : ∃ i, (i < l.length ∧ listed.getD i false = false) ∧ ∀ j, j < i → ¬ (j < l.length ∧ listed.getD j false = false) := by
            obtain ⟨k, hk⟩ := hex
            have : ∀ m k, k ≤ m → (k < l.length ∧ listed.getD k false = false) → ∃ i, (i < l.length ∧ listed.getD i false = false) ∧ ∀ j, j < i → ¬ (j < l.length ∧ listed.getD j false = false) := by
              intro m
              induction m with
              | zero => intro k hk h; exact ⟨k, h, fun j hj => by omega⟩
              | succ m ihm =>
                intro k hk h
                by_cases hx : ∃ j, j < k ∧ (j < l.length ∧ listed.getD j false = false)
                · obtain ⟨j, hj, hjj⟩ := hx
                  exact ihm j (by omega) hjj
                · exact ⟨k, h, fun j hj hjj => hx ⟨j, hj, hjj⟩⟩
            exact this k k (Nat.le_refl _) hk
          have : i ∈ Region.ready .any l.toArray listed := by
            refine ready_of hil (by rw [getD_tf (by omega)]; exact hif) ?_
            intro o ho e he hbd
            have hb := List.all_eq_true.1 hback i (List.mem_range.2 hil)
            rw [ho] at hb
            have hlt : e.on < i := by
              have := List.all_eq_true.1 hb e he
              rw [hbd] at this
              exact blt_iff.1 this
            cases hb2 : listed.getD e.on false
            · exact absurd ⟨by omega, hb2⟩ (hmin e.on hlt)
            · rfl
          rw [hr] at this
          simp at this
        · obtain ⟨hil, hif, hprev⟩ := ready_iff hsz hi
          rw [getD_tf (by omega)] at hif
          have hin : i < n := by
            rcases Nat.lt_or_ge i n with h | h
            · exact h
            · exfalso
              apply hall
              intro k hk
              have ht := List.all_eq_true.1 htail i (List.mem_range.2 hil)
              have : Nat.blt i n = false := by
                cases hb : Nat.blt i n
                · rfl
                · have := blt_iff.1 hb; omega
              rw [this, Bool.false_or] at ht
              exact all_before hcl hprev ht i k (by omega) (by omega)
          have ho : l[i]? = some l[i] := List.getElem?_eq_getElem hil
          have hdi := List.all_eq_true.1 hd i (List.mem_range.2 hin)
          cases hdst : dstAt l i with
          | none => rw [hdst] at hdi; simp at hdi
          | some d =>
            rw [hdst] at hdi
            simp only [Bool.and_eq_true] at hdi
            have hod : l[i].dst = some d := by simpa [dstAt, ho] using hdst
            have hother : ∀ j, j < n → j ≠ i → dstAt l j ≠ some d := by
              intro j hj hne e
              have := List.all_eq_true.1 hdi.2 j (List.mem_range.2 hj)
              rw [e] at this
              have hb : Nat.beq j i = false := by
                cases hb : Nat.beq j i
                · rfl
                · exact absurd (Nat.eq_of_beq_eq_true hb) hne
              rw [hb] at this
              simp at this
            have hst := step i hin l[i] ho _ ρ w hif hcl hgr (fun t ht => hkeep t fun k hk hlk e => by
              have := List.all_eq_true.1 ht k (List.mem_range.2 hk)
              rw [e] at this
              simp only [bne_self_eq_false, Bool.false_or] at this
              -- k comes behind i, and is listed: then i is
              have hli := hcl k hlk i this
              rw [hli] at hif
              simp at hif) (fun j hj dj hdj => by
              have hlj := hprev j hj
              have hjl : j < l.length := by
                rcases Nat.lt_or_ge j l.length with h | h
                · exact h
                · rw [Array.getD_eq_getD_getElem?, Array.getElem?_eq_none (by omega)] at hlj; simp at hlj
              exact hG j (hln j hjl hlj) hlj dj hdj) (fun j hj hlj dj hdj => hG j hj hlj dj hdj)
            refine hst.wpOp (n := N) (by simp [hil]) hf ?_
            rintro v w' ⟨hGv, hinv', hkeepG, hpr⟩
            have hinv : Inv (fun k => (listed.setIfInBounds i true).getD k false) w' := by
              rw [show (fun k => (listed.setIfInBounds i true).getD k false) = fun k => (Nat.beq k i || listed.getD k false) from funext fun k => getD_set (by omega)]
              exact hinv'
            rw [hod]
            refine ih _ _ (upd ρ d v) w' (hf.put hdi.1 v) (by simpa using hsz) ?_ ?_ ?_ hinv ?_ ?_ ?_
            · have := countP_lt (l := List.range l.length) (p := fun k => !(listed.setIfInBounds i true).getD k false) (q := fun k => !listed.getD k false) (fun k hk h => by
                rw [getD_set (by omega)] at h
                cases hx : listed.getD k false
                · rfl
                · rw [hx] at h; simp at h) (List.mem_range.2 hil) (by rw [getD_set (by omega)]; simp) (by rw [hif]; rfl)
              omega
            · intro k hk hlk
              rw [getD_set (by omega)] at hlk
              by_cases e : k = i
              · omega
              · have hb : Nat.beq k i = false := by
                  cases hb : Nat.beq k i
                  · rfl
                  · exact absurd (Nat.eq_of_beq_eq_true hb) e
                rw [hb, Bool.false_or] at hlk
                exact hln k hk hlk
            · intro k hlk j hj
              rw [getD_set (by omega)] at hlk ⊢
              by_cases e : k = i
              · subst e
                rw [hprev j hj]
                simp
              · have hb : Nat.beq k i = false := by
                  cases hb : Nat.beq k i
                  · rfl
                  · exact absurd (Nat.eq_of_beq_eq_true hb) e
                rw [hb, Bool.false_or] at hlk
                rw [hcl k hlk j hj]
                simp
            · intro t ht
              have htd : t ≠ d := by
                intro e
                exact ht i hin (by rw [getD_set (by omega)]; simp) (by rw [hdst, e])
              have hb : Nat.beq t d = false := by
                cases hb : Nat.beq t d
                · rfl
                · exact absurd (Nat.eq_of_beq_eq_true hb) htd
              rw [upd, hb, cond_false]
              exact hkeep t fun k hk hlk => ht k hk (by rw [getD_set (by omega), hlk]; simp)
            · intro k hk hlk dk hdk
              rw [getD_set (by omega)] at hlk
              by_cases e : k = i
              · subst e
                rw [hdst] at hdk
                obtain rfl := Option.some.inj hdk
                rw [upd, Nat.beq_refl, cond_true]
                exact hGv
              · have hb : Nat.beq k i = false := by
                  cases hb : Nat.beq k i
                  · rfl
                  · exact absurd (Nat.eq_of_beq_eq_true hb) e
                rw [hb, Bool.false_or] at hlk
                have hne : dk ≠ d := fun e2 => hother k hk e (by rw [hdk, e2])
                have hb2 : Nat.beq dk d = false := by
                  cases hb : Nat.beq dk d
                  · rfl
                  · exact absurd (Nat.eq_of_beq_eq_true hb) hne
                rw [upd, hb2, cond_false]
                exact hkeepG k _ hk e hlk (hG k hk hlk dk hdk)
            · have hup : ∀ k, k < n → k ≠ i → (listed.setIfInBounds i true).getD k false = true → ∀ dk, dstAt l k = some dk → listed.getD k false = true ∧ upd ρ d v dk = ρ dk := by
                intro k hk e hlk dk hdk
                rw [getD_set (by omega)] at hlk
                have hb : Nat.beq k i = false := by
                  cases hb : Nat.beq k i
                  · rfl
                  · exact absurd (Nat.eq_of_beq_eq_true hb) e
                rw [hb, Bool.false_or] at hlk
                have hne : dk ≠ d := fun e2 => hother k hk e (by rw [hdk, e2])
                have hb2 : Nat.beq dk d = false := by
                  cases hb : Nat.beq dk d
                  · rfl
                  · exact absurd (Nat.eq_of_beq_eq_true hb) hne
                exact ⟨hlk, by rw [upd, hb2, cond_false]⟩
              have hself : ∀ dk, dstAt l i = some dk → upd ρ d v dk = v := by
                intro dk hdk
                rw [hdst] at hdk
                obtain rfl := Option.some.inj hdk
                rw [upd, Nat.beq_refl, cond_true]
              intro j k hj hk hne hlj hlk dj dk hdj hdk
              by_cases ej : j = i
              · subst ej
                obtain ⟨h1, h2⟩ := hup k hk (fun e => hne e.symm) hlk dk hdk
                rw [hself dj hdj, h2]
                exact (hpr k hk (fun e => hne e.symm) h1 dk hdk).1
              · obtain ⟨h1, h2⟩ := hup j hj ej hlj dj hdj
                by_cases ek : k = i
                · subst ek
                  rw [hself dk hdk, h2]
                  exact (hpr j hj ej h1 dj hdj).2
                · obtain ⟨h3, h4⟩ := hup k hk ek hlk dk hdk
                  rw [h2, h4]
                  exact hP j k hj hk hne h1 h3 dj dk hdj hdk
  have hempty : ∀ k, (Array.replicate l.toArray.size false).getD k false = false := fun k => by rw [Array.getD_eq_getD_getElem?, Array.getElem?_replicate]; split <;> rfl
  refine key l.toArray.size _ a ρ0 _ ha (by simp) ?_ ?_ ?_ (by rw [show (fun k => (Array.replicate l.toArray.size false).getD k false) = fun _ => false from funext hempty]; exact h0) ?_ ?_ ?_
  · exact Nat.le_trans (List.countP_le_length) (by simp)
  · intro k _ h; rw [hempty] at h; simp at h
  · intro k h; rw [hempty] at h; simp at h
  · intro t _; rfl
  · intro k _ h; rw [hempty] at h; simp at h
  · intro j k _ _ _ h; rw [hempty] at h; simp at h
end
def LtL : List Bool → List (Value → World → Prop) → Prop
  | b :: bs, g :: gs => (b = true → ∀ v w, g v w → ∀ k, v.ownBlock = some k → k < w.heap.size) ∧ LtL bs gs
  | _, _ => True
theorem LtL.get : ∀ {bs : List Bool} {gs : List (Value → World → Prop)} (_ : LtL bs gs) (i : Nat), bs.getD i false = true → i < gs.length → ∀ v w, gAt gs i v w → ∀ k, v.ownBlock = some k → k < w.heap.size
  | [], _, _, i, hb, _ => by simp at hb
  | b :: bs, [], _, i, _, hl => by simp at hl
  | b :: bs, g :: gs, h, 0, hb, _ => h.1 hb
  | b :: bs, g :: gs, h, i + 1, hb, hl => LtL.get h.2 i (by simpa using hb) (by simpa using hl)
def DStepP (P : Program) (l : List Oper) (n : Nat) (Gl : List (Value → World → Prop)) (al : List Bool) (ρ0 : Env) (w0 : World) (i : Nat) (o : Oper) : Prop :=
  ∀ ρ w, Gr w0 w → (∀ t, keepB l n i t = true → ρ t = ρ0 t) → (∀ j, aftB l i j = true → ∀ d, dstAt l j = some d → gAt Gl j (ρ d) w) → StepOk P l.toArray o (fun v w' => (gAt Gl i v w' ∧ Gr w w') ∧ (al.getD i false = true → ∀ k, v.ownBlock = some k → w.heap.size ≤ k)) ρ w
theorem cw_drawP {P : Program} {N : Nat} {l : List Oper} {Q : Exit → Env → World → Prop} {id : Nat} (n : Nat) (Gl : List (Value → World → Prop)) (al : List Bool) {ρ0 : Env} {w0 : World} (hm : P.follows .mixedOrders = true) (hB : drawB l n N = true) (hn : Nat.ble n Gl.length = true) (stab : StabL Gl) (lt : LtL al Gl)
    (step : AllOps (DStepP P l n Gl al ρ0 w0) 0 (l.take n))
    (tail : ∀ ρ w, Gr w0 w → (∀ t, ((List.range n).all fun k => dstAt l k != some t) = true → ρ t = ρ0 t) → (∀ j, Nat.blt j n = true → ∀ d, dstAt l j = some d → gAt Gl j (ρ d) w) → (∀ j k, Nat.blt j n = true → Nat.blt k n = true → Nat.beq j k = false → al.getD j false = true → al.getD k false = true → ∀ d e, dstAt l j = some d → dstAt l k = some e → OffV (ρ d) (ρ e)) → OL P N l.toArray Q (l.drop n) ρ w) :
    CW P N (.region id l.toArray true) Q ρ0 w0 := by
  have hng : n ≤ Gl.length := Nat.le_of_ble_eq_true hn
  refine cw_drawQ n (gAt Gl) (fun i j v u => al.getD i false = true → al.getD j false = true → OffV v u) (fun _ w => Gr w0 w) hm hB (Fr.drew w0) ?_ ?_
  · intro i hi o ho dn ρ w _ _ hg hk hd hall
    have := step.get i o (by rw [List.getElem?_take, if_pos hi]; exact ho)
    rw [Nat.zero_add] at this
    refine (this ρ w hg hk hd).mono ?_
    rintro v w' ⟨⟨h1, h2⟩, h3⟩
    refine ⟨h1, hg.gr h2, fun k v' _ _ _ h => stab.get k v' w w' h h2, ?_⟩
    intro j hj hne hdn d hdj
    have hG := hall j hj hdn d hdj
    refine ⟨fun ai aj k hk e => ?_, fun aj ai k hk e => ?_⟩
    · have l1 := h3 ai k hk
      have l2 := lt.get j aj (by omega) _ _ hG k e.symm
      omega
    · have l1 := h3 ai k e.symm
      have l2 := lt.get j aj (by omega) _ _ hG k hk
      omega
  · intro ρ w dn _ hg hk hd hp
    refine tail ρ w hg hk (fun j hj d hdj => hd j (blt_iff.1 hj) d hdj) ?_
    intro j k hj hk' hne aj ak d e hdj hek
    refine hp j k (blt_iff.1 hj) (blt_iff.1 hk') (fun x => ?_) d e hdj hek aj ak
    subst x
    rw [Nat.beq_refl] at hne
    cases hne
theorem sk_nal {P : Program} {ops : Array Oper} {o : Oper} {ρ : Env} {w : World} {R : Value → World → Prop} {F : Value → Prop} {b : Bool} (hb : b = false) (h : StepOk P ops o R ρ w) : StepOk P ops o (fun v w' => R v w' ∧ (b = true → F v)) ρ w :=
  h.mono fun v w' x => ⟨x, fun e => by rw [hb] at e; cases e⟩
theorem sk_alloc {P : Program} {ops : Array Oper} {o : Oper} {ρ : Env} {w : World} {G R : Value → World → Prop} {b : Bool} (h : OpV P o ρ w R) (hg : o.guard = none) (hR : ∀ v w', R v w' → (G v w' ∧ Gr w w') ∧ ∀ k, v.ownBlock = some k → w.heap.size ≤ k) : StepOk P ops o (fun v w' => (G v w' ∧ Gr w w') ∧ (b = true → ∀ k, v.ownBlock = some k → w.heap.size ≤ k)) ρ w :=
  .inl ⟨.inl hg, h.mono fun v w' x => ⟨(hR v w' x).1, fun _ => (hR v w' x).2⟩⟩
theorem fin_cell_tmp2 {P : Program} {T : TypeId} {fn : Func} {R : Ending → World → Prop} {ρ : Env} {w : World} {p q q2 g : Nat} {ss : List Seg} {v v2 : Value} (hr : fn.results = #[.cell p T, .tmp q, .tmp q2]) (h1 : ρ p = .pointer (some ⟨g, 0, none⟩)) (hT : aggB P T = some true) {s : Nat} (hs0 : szB P T = some s) (hb : Blk w g T ss) (he : s = sumN ss) (h2 : ρ q = v) (h3 : ρ q2 = v2) (h : R (.returned (.tuple #[aggV ss, v, v2])) w) : fin P fn R .ret ρ w :=
  have hs : szB P T = some (sumN ss) := he ▸ hs0
  ⟨.inl rfl, fun tmps ht => ⟨.tuple #[aggV ss, v, v2], by
    have e1 := ht p
    have e2 := ht q
    have e3 := ht q2
    rw [h1, Array.getD_eq_getD_getElem?] at e1
    rw [h2, Array.getD_eq_getD_getElem?] at e2
    rw [h3, Array.getD_eq_getD_getElem?] at e3
    simp [results, hr, e1, e2, e3, asAddr, loadVar_blk hT hs hb], h⟩⟩
theorem xr_sliceArr_lh {P : Program} {ρ : Env} {w : World} {o : Oper} {x a b : Operand} {T E : TypeId} {g p len : Nat} {s : Nat} {k k' : IntKind} {lo hi : Int} (ho : o.op = .slice T x (some a) (some b) none) (hT : P.underlying T = some (.array len E)) (hs : szB P E = some s) (hx : evO ρ x = .pointer (some ⟨g, p, none⟩))
    (ha : evO ρ a = .int k lo) (hb : evO ρ b = .int k' hi) (h0 : 0 ≤ lo) (h1 : lo ≤ hi) (h2 : hi ≤ (len : Int)) : (execOp (evO ρ) o).run P w = .ok (.value (subv s (.slice (some ⟨g, p, none⟩) len len) lo.toNat hi.toNat)) w := by
  unfold szB at hs
  obtain ⟨inf, hinf, he⟩ := Option.map_eq_some_iff.1 hs
  have h0' : 0 ≤ hi := by omega
  have hlo : lo ≤ ((hi.toNat : Nat) : Int) := by omega
  have e : ∀ (c : Prop) [Decidable c] (y z : Addr), (if c then some y else some z) = some (if c then y else z) := by
    intro c _ y z
    split <;> rfl
  simp [execOp, ho, hx, ha, hb, Instr.sliceAt, Instr.sureAddr, run_underlying hT, Instr.sliceBounds, sizeOf, typeInfo, hinf, he, subv, sliceBound_ok h0' h2, sliceBound_ok h0 hlo, e]
end Go.Xw

/- Records, their cells, closed facts on the program: written by gen.py. -/
set_option linter.unusedVariables false
namespace Go.Proofs.Ytklhbaghbmndeaa
open Go Go.Xw
structure S_rickyardlaw05_Act where
  Kind : Int
  At : Int
  W : Int
  L : List Int
deriving DecidableEq, Inhabited
structure S_rickyardlaw05_Fenced where
  Line : Int
  Ws : Arr 8 Int
  Acts : List S_rickyardlaw05_Act
  L : List Int
deriving DecidableEq, Inhabited
structure S_pmem_cell where
  lasts : Int
  stored : Int
  sent : Int
  flushed : Bool
deriving DecidableEq, Inhabited
def segs_pmem_cell (x : S_pmem_cell) : List Seg := [Seg.cell (.int .u64 x.lasts), Seg.cell (.int .u64 x.stored), Seg.cell (.int .u64 x.sent), Seg.cell (.bool x.flushed)]
def k_pmem_cell : Kd S_pmem_cell := kT segs_pmem_cell 4 (fun _ => rfl)
structure S_pmem_plan where
  list : List Int
  at_ : Int
deriving DecidableEq, Inhabited
structure S_pmem_Device where
  cells : List S_pmem_cell
  plan : S_pmem_plan
  off : Bool
  armed : Bool
  left : Int
  steps : Int
deriving DecidableEq, Inhabited
structure S_api_Fate where
  At : Int
  Lasts : Int
  Flushed : Bool
  Sent : Int
  Stored : Int
deriving DecidableEq, Inhabited
def segs_api_Fate (x : S_api_Fate) : List Seg := [Seg.cell (.int .i64 x.At), Seg.cell (.int .u64 x.Lasts), Seg.cell (.bool x.Flushed), Seg.cell (.int .u64 x.Sent), Seg.cell (.int .u64 x.Stored)]
def k_api_Fate : Kd S_api_Fate := kT segs_api_Fate 5 (fun _ => rfl)
structure S_rickyardref05_Device where
  Lasts : List Int
  Stored : List Int
  Sent : List Int
  Flushed : List Bool
  Plan : List Int
  Since : Int
  Left : Int
  Steps : Int
deriving DecidableEq, Inhabited
structure S_rickyardlaw15_Act where
  Kind : Int
  At : Int
  I : Int
  B : List Int
  A : S_rickyardlaw05_Act
deriving DecidableEq, Inhabited
structure S_api_Geometry where
  Blocks : Int
  Slots : Int
  Gens : Int
deriving DecidableEq, Inhabited
def segs_api_Geometry (x : S_api_Geometry) : List Seg := [Seg.cell (.int .i64 x.Blocks), Seg.cell (.int .i64 x.Slots), Seg.cell (.int .i64 x.Gens)]
def k_api_Geometry : Kd S_api_Geometry := kT segs_api_Geometry 3 (fun _ => rfl)
structure S_api_Tickets where
  Geometry : S_api_Geometry
  Top : Int
  High : Int
  Free : Int
deriving DecidableEq, Inhabited
def segs_api_Tickets (x : S_api_Tickets) : List Seg := [Seg.cell (.int .i64 x.Geometry.Blocks), Seg.cell (.int .i64 x.Geometry.Slots), Seg.cell (.int .i64 x.Geometry.Gens), Seg.cell (.int .i64 x.Top), Seg.cell (.int .i64 x.High), Seg.cell (.int .i64 x.Free)]
def k_api_Tickets : Kd S_api_Tickets := kT segs_api_Tickets 6 (fun _ => rfl)
structure S_api_Super where
  Epoch : Int
  Tickets : S_api_Tickets
  Dir : Int
  Charts : List Int
deriving DecidableEq, Inhabited
structure S_super_reader where
  rest : List Int
deriving DecidableEq, Inhabited
structure S_rickyardlaw16_Cut where
  Steps : Int
  Plan : List Int
  L : List Int
deriving DecidableEq, Inhabited
def D_rickyardlaw05_Act (w : World) (cs : List Value) (m : S_rickyardlaw05_Act) : Prop := ∃ V0 : Value, ∃ R0 : Rd (kI .i64) w V0 m.L, cs = cellsOf [Seg.cell (.int .i64 m.Kind), Seg.cell (.int .i64 m.At), Seg.cell (.int .u64 m.W), Seg.cell V0 R0.one]
theorem D_rickyardlaw05_Act.gr {w w' : World} {cs : List Value} {m : S_rickyardlaw05_Act} : D_rickyardlaw05_Act w cs m → Gr w w' → D_rickyardlaw05_Act w' cs m := fun ⟨V0, R0, e⟩ q => ⟨V0, R0.gr q, e⟩
theorem N_rickyardlaw05_Act {w : World} {v : Value} {l : List S_rickyardlaw05_Act} (h : RdN 4 D_rickyardlaw05_Act w v l) {i : Int} (h0 : 0 ≤ i) (h1 : i < (l.length : Int)) : At w (sb v) (so v + Int.toNat i * 4) ((Seg.l (Seg.cell (.int .i64 ((ix l i).Kind)))) ++ ((Seg.l (Seg.cell (.int .i64 ((ix l i).At)))) ++ ((Seg.l (Seg.cell (.int .u64 ((ix l i).W)))) ++ ([(cellAt w (sb v) (so v + Int.toNat i * 4 + 3))] ++ ([] : List Value))))) ∧ Rd (kI .i64) w (cellAt w (sb v) (so v + Int.toNat i * 4 + 3)) ((ix l i).L) := by
  obtain ⟨_, A, V0, R0, rfl⟩ := RdN.at h h0 h1
  have e0 : (cellAt w (sb v) (so v + Int.toNat i * 4 + 3)) = V0 := A.cellAt (j := 3) rfl
  rw [e0]
  exact ⟨A, R0⟩
def D_rickyardlaw15_Act (w : World) (cs : List Value) (m : S_rickyardlaw15_Act) : Prop := ∃ V0 : Value, ∃ R0 : Rd (kI .u8) w V0 m.B, ∃ V1 : Value, ∃ R1 : Rd (kI .i64) w V1 m.A.L, cs = cellsOf [Seg.cell (.int .i64 m.Kind), Seg.cell (.int .i64 m.At), Seg.cell (.int .i64 m.I), Seg.cell V0 R0.one, Seg.cell (.int .i64 m.A.Kind), Seg.cell (.int .i64 m.A.At), Seg.cell (.int .u64 m.A.W), Seg.cell V1 R1.one]
theorem D_rickyardlaw15_Act.gr {w w' : World} {cs : List Value} {m : S_rickyardlaw15_Act} : D_rickyardlaw15_Act w cs m → Gr w w' → D_rickyardlaw15_Act w' cs m := fun ⟨V0, R0, V1, R1, e⟩ q => ⟨V0, R0.gr q, V1, R1.gr q, e⟩
theorem N_rickyardlaw15_Act {w : World} {v : Value} {l : List S_rickyardlaw15_Act} (h : RdN 8 D_rickyardlaw15_Act w v l) {i : Int} (h0 : 0 ≤ i) (h1 : i < (l.length : Int)) : At w (sb v) (so v + Int.toNat i * 8) ((Seg.l (Seg.cell (.int .i64 ((ix l i).Kind)))) ++ ((Seg.l (Seg.cell (.int .i64 ((ix l i).At)))) ++ ((Seg.l (Seg.cell (.int .i64 ((ix l i).I)))) ++ ([(cellAt w (sb v) (so v + Int.toNat i * 8 + 3))] ++ ((Seg.l (Seg.cell (.int .i64 ((ix l i).A.Kind)))) ++ ((Seg.l (Seg.cell (.int .i64 ((ix l i).A.At)))) ++ ((Seg.l (Seg.cell (.int .u64 ((ix l i).A.W)))) ++ ([(cellAt w (sb v) (so v + Int.toNat i * 8 + 7))] ++ ([] : List Value))))))))) ∧ Rd (kI .u8) w (cellAt w (sb v) (so v + Int.toNat i * 8 + 3)) ((ix l i).B) ∧ Rd (kI .i64) w (cellAt w (sb v) (so v + Int.toNat i * 8 + 7)) ((ix l i).A.L) := by
  obtain ⟨_, A, V0, R0, V1, R1, rfl⟩ := RdN.at h h0 h1
  have e0 : (cellAt w (sb v) (so v + Int.toNat i * 8 + 3)) = V0 := A.cellAt (j := 3) rfl
  have e1 : (cellAt w (sb v) (so v + Int.toNat i * 8 + 7)) = V1 := A.cellAt (j := 7) rfl
  rw [e0, e1]
  exact ⟨A, R0, R1⟩
theorem fl27_2 : fldB Try.prog 27 2 = some 9 := by kernel_rfl
theorem ag24 : aggB Try.prog 24 = some false := by kernel_rfl
theorem fl27_1 : fldB Try.prog 27 1 = some 1 := by kernel_rfl
theorem ag23 : aggB Try.prog 23 = some true := by kernel_rfl
theorem sz23 : szB Try.prog 23 = some 8 := by kernel_rfl
theorem ze23 : (Try.prog.info? 23).map (·.zero) = some (some (aggV [Kd.seg (kA 8 (kI .u64)) (Arr.rep 8 (0 : Int))])) := by kernel_rfl
theorem mo : Try.prog.follows .mixedOrders = true := by kernel_rfl
theorem el142 : elB Try.prog 142 = some (some (aggV [Seg.cell (.int .u64 (0 : Int)), Seg.cell (.int .u64 (0 : Int)), Seg.cell (.int .u64 (0 : Int)), Seg.cell (.bool false)]), 4, 32) := by kernel_rfl
theorem pl139 : placesB Try.prog 139 = some [(0, 1), (1, 2), (3, 1), (4, 1), (5, 1), (6, 1)] := by kernel_rfl
theorem ze139 : (Try.prog.info? 139).map (·.zero) = some (some (aggV [Seg.cell (.slice none 0 0) (by rfl), Seg.cell (.slice none 0 0) (by rfl), Seg.cell (.int .i64 (0 : Int)), Seg.cell (.bool false), Seg.cell (.bool false), Seg.cell (.int .i64 (0 : Int)), Seg.cell (.int .i64 (0 : Int))])) := by kernel_rfl
theorem cal26 : calB Try.prog 26 = some true := by kernel_rfl
theorem fl139_0 : fldB Try.prog 139 0 = some 0 := by kernel_rfl
theorem ag135 : aggB Try.prog 135 = some false := by kernel_rfl
theorem fl139_2 : fldB Try.prog 139 2 = some 3 := by kernel_rfl
theorem ag4 : aggB Try.prog 4 = some false := by kernel_rfl
theorem cal83 : calB Try.prog 83 = some true := by kernel_rfl
theorem sz142 : szB Try.prog 142 = some 4 := by kernel_rfl
theorem fl142_1 : fldB Try.prog 142 1 = some 1 := by kernel_rfl
theorem sz22 : szB Try.prog 22 = some 1 := by kernel_rfl
theorem fl139_5 : fldB Try.prog 139 5 = some 6 := by kernel_rfl
theorem ag3 : aggB Try.prog 3 = some false := by kernel_rfl
theorem sz3 : szB Try.prog 3 = some 1 := by kernel_rfl
theorem fl139_1 : fldB Try.prog 139 1 = some 1 := by kernel_rfl
theorem fl137_0 : fldB Try.prog 137 0 = some 0 := by kernel_rfl
theorem ag25 : aggB Try.prog 25 = some false := by kernel_rfl
theorem fl137_1 : fldB Try.prog 137 1 = some 1 := by kernel_rfl
theorem cal123 : calB Try.prog 123 = some true := by kernel_rfl
theorem ag22 : aggB Try.prog 22 = some false := by kernel_rfl
theorem fl142_0 : fldB Try.prog 142 0 = some 0 := by kernel_rfl
theorem fl142_2 : fldB Try.prog 142 2 = some 2 := by kernel_rfl
theorem fl142_3 : fldB Try.prog 142 3 = some 3 := by kernel_rfl
theorem sz4 : szB Try.prog 4 = some 1 := by kernel_rfl
theorem cal85 : calB Try.prog 85 = some true := by kernel_rfl
theorem fl139_3 : fldB Try.prog 139 3 = some 4 := by kernel_rfl
theorem fl139_4 : fldB Try.prog 139 4 = some 5 := by kernel_rfl
theorem cal84 : calB Try.prog 84 = some true := by kernel_rfl
theorem cal28 : calB Try.prog 28 = some true := by kernel_rfl
theorem cal43 : calB Try.prog 43 = some true := by kernel_rfl
theorem cal29 : calB Try.prog 29 = some true := by kernel_rfl
theorem cal30 : calB Try.prog 30 = some true := by kernel_rfl
theorem cal86 : calB Try.prog 86 = some true := by kernel_rfl
theorem cal87 : calB Try.prog 87 = some true := by kernel_rfl
theorem bl137_  (w : World) : (Instr.build 137 ([] : List (Nat × Value)).toArray).run Try.prog w = .ok (aggV [Seg.cell (.slice none 0 0) (by rfl), Seg.cell (.int .i64 (0 : Int))]) w := by kernel_rfl
theorem sz137 : szB Try.prog 137 = some 2 := by kernel_rfl
theorem cal32 : calB Try.prog 32 = some true := by kernel_rfl
theorem cal82 : calB Try.prog 82 = some true := by kernel_rfl
theorem cal24 : calB Try.prog 24 = some true := by kernel_rfl
theorem sz39 : szB Try.prog 39 = some 4 := by kernel_rfl
theorem fl39_3 : fldB Try.prog 39 3 = some 3 := by kernel_rfl
theorem cal25 : calB Try.prog 25 = some true := by kernel_rfl
theorem fl27_3 : fldB Try.prog 27 3 = some 10 := by kernel_rfl
theorem fl27_0 : fldB Try.prog 27 0 = some 0 := by kernel_rfl
theorem cal27 : calB Try.prog 27 = some true := by kernel_rfl
theorem fl39_0 : fldB Try.prog 39 0 = some 0 := by kernel_rfl
theorem fl39_1 : fldB Try.prog 39 1 = some 1 := by kernel_rfl
theorem ag39 : aggB Try.prog 39 = some true := by kernel_rfl
theorem fl39_2 : fldB Try.prog 39 2 = some 2 := by kernel_rfl
theorem cal38 : calB Try.prog 38 = some true := by kernel_rfl
theorem el3 : elB Try.prog 3 = some (some (.int .i64 (0 : Int)), 1, 8) := by kernel_rfl
theorem cal90 : calB Try.prog 90 = some true := by kernel_rfl
theorem pl137 : placesB Try.prog 137 = some [(0, 1), (1, 1)] := by kernel_rfl
theorem ze137 : (Try.prog.info? 137).map (·.zero) = some (some (aggV [Seg.cell (.slice none 0 0) (by rfl), Seg.cell (.int .i64 (0 : Int))])) := by kernel_rfl
theorem cal35 : calB Try.prog 35 = some true := by kernel_rfl
theorem cal31 : calB Try.prog 31 = some true := by kernel_rfl
theorem el22 : elB Try.prog 22 = some (some (.int .u64 (0 : Int)), 1, 8) := by kernel_rfl
theorem cal89 : calB Try.prog 89 = some true := by kernel_rfl
theorem el5 : elB Try.prog 5 = some (some (.int .u8 (0 : Int)), 1, 1) := by kernel_rfl
theorem sz5 : szB Try.prog 5 = some 1 := by kernel_rfl
theorem cal128 : calB Try.prog 128 = some true := by kernel_rfl
theorem cal104 : calB Try.prog 104 = some true := by kernel_rfl
theorem cal88 : calB Try.prog 88 = some true := by kernel_rfl
theorem cal33 : calB Try.prog 33 = some true := by kernel_rfl
theorem cal34 : calB Try.prog 34 = some true := by kernel_rfl
theorem cal91 : calB Try.prog 91 = some true := by kernel_rfl
theorem cal36 : calB Try.prog 36 = some true := by kernel_rfl
theorem cal37 : calB Try.prog 37 = some true := by kernel_rfl
theorem cal39 : calB Try.prog 39 = some true := by kernel_rfl
theorem bl55_0_1_2_3_4 (x0 : Int) (x1 : Int) (x2 : Bool) (x3 : Int) (x4 : Int) (w : World) : (Instr.build 55 ([(0, .int .i64 x0), (1, .int .u64 x1), (2, .bool x2), (3, .int .u64 x3), (4, .int .u64 x4)] : List (Nat × Value)).toArray).run Try.prog w = .ok (aggV [Seg.cell (.int .i64 x0), Seg.cell (.int .u64 x1), Seg.cell (.bool x2), Seg.cell (.int .u64 x3), Seg.cell (.int .u64 x4)]) w := by kernel_rfl
theorem el55 : elB Try.prog 55 = some (some (aggV [Seg.cell (.int .i64 (0 : Int)), Seg.cell (.int .u64 (0 : Int)), Seg.cell (.bool false), Seg.cell (.int .u64 (0 : Int)), Seg.cell (.int .u64 (0 : Int))]), 5, 40) := by kernel_rfl
theorem cal40 : calB Try.prog 40 = some true := by kernel_rfl
theorem sz55 : szB Try.prog 55 = some 5 := by kernel_rfl
theorem fl55_0 : fldB Try.prog 55 0 = some 0 := by kernel_rfl
theorem cal41 : calB Try.prog 41 = some true := by kernel_rfl
theorem ag55 : aggB Try.prog 55 = some true := by kernel_rfl
theorem fl55_4 : fldB Try.prog 55 4 = some 4 := by kernel_rfl
theorem fl55_2 : fldB Try.prog 55 2 = some 2 := by kernel_rfl
theorem fl55_3 : fldB Try.prog 55 3 = some 3 := by kernel_rfl
theorem fl55_1 : fldB Try.prog 55 1 = some 1 := by kernel_rfl
theorem cal42 : calB Try.prog 42 = some true := by kernel_rfl
theorem el4 : elB Try.prog 4 = some (some (.bool false), 1, 1) := by kernel_rfl
theorem pl65 : placesB Try.prog 65 = some [(0, 1), (1, 1), (2, 1), (3, 1), (4, 1), (5, 1), (6, 1), (7, 1)] := by kernel_rfl
theorem ze65 : (Try.prog.info? 65).map (·.zero) = some (some (aggV [Seg.cell (.slice none 0 0) (by rfl), Seg.cell (.slice none 0 0) (by rfl), Seg.cell (.slice none 0 0) (by rfl), Seg.cell (.slice none 0 0) (by rfl), Seg.cell (.slice none 0 0) (by rfl), Seg.cell (.int .i64 (0 : Int)), Seg.cell (.int .i64 (0 : Int)), Seg.cell (.int .i64 (0 : Int))])) := by kernel_rfl
theorem cal44 : calB Try.prog 44 = some true := by kernel_rfl
theorem fl65_0 : fldB Try.prog 65 0 = some 0 := by kernel_rfl
theorem ag46 : aggB Try.prog 46 = some false := by kernel_rfl
theorem fl65_6 : fldB Try.prog 65 6 = some 6 := by kernel_rfl
theorem cal124 : calB Try.prog 124 = some true := by kernel_rfl
theorem fl65_1 : fldB Try.prog 65 1 = some 1 := by kernel_rfl
theorem fl65_4 : fldB Try.prog 65 4 = some 4 := by kernel_rfl
theorem fl65_5 : fldB Try.prog 65 5 = some 5 := by kernel_rfl
theorem fl65_2 : fldB Try.prog 65 2 = some 2 := by kernel_rfl
theorem fl65_3 : fldB Try.prog 65 3 = some 3 := by kernel_rfl
theorem ag63 : aggB Try.prog 63 = some false := by kernel_rfl
theorem cal126 : calB Try.prog 126 = some true := by kernel_rfl
theorem fl65_7 : fldB Try.prog 65 7 = some 7 := by kernel_rfl
theorem cal125 : calB Try.prog 125 = some true := by kernel_rfl
theorem cal92 : calB Try.prog 92 = some true := by kernel_rfl
theorem cal93 : calB Try.prog 93 = some true := by kernel_rfl
theorem cal94 : calB Try.prog 94 = some true := by kernel_rfl
theorem cal95 : calB Try.prog 95 = some true := by kernel_rfl
theorem cal96 : calB Try.prog 96 = some true := by kernel_rfl
theorem sz25 : szB Try.prog 25 = some 1 := by kernel_rfl
theorem cal97 : calB Try.prog 97 = some true := by kernel_rfl
theorem cal47 : calB Try.prog 47 = some true := by kernel_rfl
theorem cal98 : calB Try.prog 98 = some true := by kernel_rfl
theorem cal45 : calB Try.prog 45 = some true := by kernel_rfl
theorem eqa55 : EqA Try.prog 55 k_api_Fate 2 := by
  refine eqa_struct Try.underlying55 Try.stoodInHeld55 ?_
  intro d w a b
  have e : decide (a = b) = (decide (a.At = b.At) && (decide (a.Lasts = b.Lasts) && (decide (a.Flushed = b.Flushed) && (decide (a.Sent = b.Sent) && (decide (a.Stored = b.Stored) && true))))) := by
    cases a
    cases b
    rw [Bool.eq_iff_iff]
    simp
  rw [e]
  refine eqf_cons (by decide) (by exact (eqk_int Try.underlying3) (d + 0) w _ _ _ a.At b.At ((chunk_segs (segs_api_Fate a) 0 1 rfl rfl)) ((chunk_segs (segs_api_Fate b) 0 1 rfl rfl))) ?_
  refine eqf_cons (by decide) (by exact (eqk_int Try.underlying22) (d + 0) w _ _ _ a.Lasts b.Lasts ((chunk_segs (segs_api_Fate a) 1 1 rfl rfl)) ((chunk_segs (segs_api_Fate b) 1 1 rfl rfl))) ?_
  refine eqf_cons (by decide) (by exact (eqk_bool Try.underlying4) (d + 0) w _ _ _ a.Flushed b.Flushed ((chunk_segs (segs_api_Fate a) 2 1 rfl rfl)) ((chunk_segs (segs_api_Fate b) 2 1 rfl rfl))) ?_
  refine eqf_cons (by decide) (by exact (eqk_int Try.underlying22) (d + 0) w _ _ _ a.Sent b.Sent ((chunk_segs (segs_api_Fate a) 3 1 rfl rfl)) ((chunk_segs (segs_api_Fate b) 3 1 rfl rfl))) ?_
  refine eqf_cons (by decide) (by exact (eqk_int Try.underlying22) (d + 0) w _ _ _ a.Stored b.Stored ((chunk_segs (segs_api_Fate a) 4 1 rfl rfl)) ((chunk_segs (segs_api_Fate b) 4 1 rfl rfl))) ?_
  exact eqf_nil
theorem cal46 : calB Try.prog 46 = some true := by kernel_rfl
theorem bl139_  (w : World) : (Instr.build 139 ([] : List (Nat × Value)).toArray).run Try.prog w = .ok (aggV [Seg.cell (.slice none 0 0) (by rfl), Seg.cell (.slice none 0 0) (by rfl), Seg.cell (.int .i64 (0 : Int)), Seg.cell (.bool false), Seg.cell (.bool false), Seg.cell (.int .i64 (0 : Int)), Seg.cell (.int .i64 (0 : Int))]) w := by kernel_rfl
theorem ag5 : aggB Try.prog 5 = some false := by kernel_rfl
theorem cal109 : calB Try.prog 109 = some true := by kernel_rfl
theorem cal99 : calB Try.prog 99 = some true := by kernel_rfl
theorem bl142_0_1 (x0 : Int) (x1 : Int) (w : World) : (Instr.build 142 ([(0, .int .u64 x0), (1, .int .u64 x1)] : List (Nat × Value)).toArray).run Try.prog w = .ok (aggV [Seg.cell (.int .u64 x0), Seg.cell (.int .u64 x1), Seg.cell (.int .u64 (0 : Int)), Seg.cell (.bool false)]) w := by kernel_rfl
theorem sz135 : szB Try.prog 135 = some 1 := by kernel_rfl
theorem cal48 : calB Try.prog 48 = some true := by kernel_rfl
theorem ze55 : (Try.prog.info? 55).map (·.zero) = some (some (aggV [Seg.cell (.int .i64 (0 : Int)), Seg.cell (.int .u64 (0 : Int)), Seg.cell (.bool false), Seg.cell (.int .u64 (0 : Int)), Seg.cell (.int .u64 (0 : Int))])) := by kernel_rfl
theorem cal108 : calB Try.prog 108 = some true := by kernel_rfl
theorem cal110 : calB Try.prog 110 = some true := by kernel_rfl
theorem cal63 : calB Try.prog 63 = some true := by kernel_rfl
theorem cal127 : calB Try.prog 127 = some true := by kernel_rfl
theorem cal100 : calB Try.prog 100 = some true := by kernel_rfl
theorem cal50 : calB Try.prog 50 = some true := by kernel_rfl
theorem cal61 : calB Try.prog 61 = some true := by kernel_rfl
theorem cal49 : calB Try.prog 49 = some true := by kernel_rfl
theorem cal51 : calB Try.prog 51 = some true := by kernel_rfl
theorem cal101 : calB Try.prog 101 = some true := by kernel_rfl
theorem cal102 : calB Try.prog 102 = some true := by kernel_rfl
theorem cal103 : calB Try.prog 103 = some true := by kernel_rfl
theorem cal53 : calB Try.prog 53 = some true := by kernel_rfl
theorem cal54 : calB Try.prog 54 = some true := by kernel_rfl
theorem cal55 : calB Try.prog 55 = some true := by kernel_rfl
theorem cal52 : calB Try.prog 52 = some true := by kernel_rfl
theorem sz71 : szB Try.prog 71 = some 64 := by kernel_rfl
theorem cal56 : calB Try.prog 56 = some true := by kernel_rfl
theorem cal57 : calB Try.prog 57 = some true := by kernel_rfl
theorem sz85 : szB Try.prog 85 = some 8 := by kernel_rfl
theorem fl85_3 : fldB Try.prog 85 3 = some 3 := by kernel_rfl
theorem ag43 : aggB Try.prog 43 = some false := by kernel_rfl
theorem fl85_4 : fldB Try.prog 85 4 = some 4 := by kernel_rfl
theorem cal58 : calB Try.prog 58 = some true := by kernel_rfl
theorem ag85 : aggB Try.prog 85 = some true := by kernel_rfl
theorem ze85 : (Try.prog.info? 85).map (·.zero) = some (some (aggV [Seg.cell (.int .i64 (0 : Int)), Seg.cell (.int .i64 (0 : Int)), Seg.cell (.int .i64 (0 : Int)), Seg.cell (.slice none 0 0) (by rfl), Seg.cell (.int .i64 (0 : Int)), Seg.cell (.int .i64 (0 : Int)), Seg.cell (.int .u64 (0 : Int)), Seg.cell (.slice none 0 0) (by rfl)])) := by kernel_rfl
theorem fl85_0 : fldB Try.prog 85 0 = some 0 := by kernel_rfl
theorem fl85_1 : fldB Try.prog 85 1 = some 1 := by kernel_rfl
theorem cal60 : calB Try.prog 60 = some true := by kernel_rfl
theorem cal62 : calB Try.prog 62 = some true := by kernel_rfl
theorem cal64 : calB Try.prog 64 = some true := by kernel_rfl
theorem cal65 : calB Try.prog 65 = some true := by kernel_rfl
theorem cal66 : calB Try.prog 66 = some true := by kernel_rfl
theorem el43 : elB Try.prog 43 = some (some (.slice none 0 0), 1, 24) := by kernel_rfl
theorem sz43 : szB Try.prog 43 = some 1 := by kernel_rfl
theorem cal111 : calB Try.prog 111 = some true := by kernel_rfl
theorem ze110 : (Try.prog.info? 110).map (·.zero) = some (some (aggV [Seg.cell (.int .i64 (0 : Int)), Seg.cell (.int .i64 (0 : Int)), Seg.cell (.int .i64 (0 : Int)), Seg.cell (.int .i64 (0 : Int)), Seg.cell (.int .i64 (0 : Int)), Seg.cell (.int .i64 (0 : Int)), Seg.cell (.int .i64 (0 : Int)), Seg.cell (.int .i64 (0 : Int)), Seg.cell (.slice none 0 0) (by rfl)])) := by kernel_rfl
theorem pl110 : placesB Try.prog 110 = some [(0, 1), (1, 6), (7, 1), (8, 1)] := by kernel_rfl
theorem sz110 : szB Try.prog 110 = some 9 := by kernel_rfl
theorem bl106_0_1_2 (x0 : Int) (x1 : Int) (x2 : Int) (w : World) : (Instr.build 106 ([(0, .int .i64 x0), (1, .int .i64 x1), (2, .int .i64 x2)] : List (Nat × Value)).toArray).run Try.prog w = .ok (aggV [Seg.cell (.int .i64 x0), Seg.cell (.int .i64 x1), Seg.cell (.int .i64 x2)]) w := by kernel_rfl
theorem fl110_1 : fldB Try.prog 110 1 = some 1 := by kernel_rfl
theorem fl108_0 : fldB Try.prog 108 0 = some 0 := by kernel_rfl
theorem sz106 : szB Try.prog 106 = some 3 := by kernel_rfl
theorem ag110 : aggB Try.prog 110 = some true := by kernel_rfl
theorem cal112 : calB Try.prog 112 = some true := by kernel_rfl
theorem cal119 : calB Try.prog 119 = some true := by kernel_rfl
theorem fl110_0 : fldB Try.prog 110 0 = some 0 := by kernel_rfl
theorem ag106 : aggB Try.prog 106 = some true := by kernel_rfl
theorem fl106_0 : fldB Try.prog 106 0 = some 0 := by kernel_rfl
theorem fl106_1 : fldB Try.prog 106 1 = some 1 := by kernel_rfl
theorem fl106_2 : fldB Try.prog 106 2 = some 2 := by kernel_rfl
theorem cal143 : calB Try.prog 143 = some true := by kernel_rfl
theorem fl108_2 : fldB Try.prog 108 2 = some 4 := by kernel_rfl
theorem fl108_3 : fldB Try.prog 108 3 = some 5 := by kernel_rfl
theorem fl108_1 : fldB Try.prog 108 1 = some 3 := by kernel_rfl
theorem cal144 : calB Try.prog 144 = some true := by kernel_rfl
theorem fl110_2 : fldB Try.prog 110 2 = some 7 := by kernel_rfl
theorem fl110_3 : fldB Try.prog 110 3 = some 8 := by kernel_rfl
theorem cal151 : calB Try.prog 151 = some true := by kernel_rfl
theorem cal145 : calB Try.prog 145 = some true := by kernel_rfl
theorem cal152 : calB Try.prog 152 = some true := by kernel_rfl
theorem cal146 : calB Try.prog 146 = some true := by kernel_rfl
theorem cal132 : calB Try.prog 132 = some true := by kernel_rfl
theorem ze193 : (Try.prog.info? 193).map (·.zero) = some (some (aggV [Kd.seg (kA 5 (kI .i64)) (Arr.rep 5 (0 : Int))])) := by kernel_rfl
theorem ze205 : (Try.prog.info? 205).map (·.zero) = some (some (aggV [Kd.seg (kA 16 (kI .u32)) (Arr.rep 16 (0 : Int))])) := by kernel_rfl
theorem cal156 : calB Try.prog 156 = some true := by kernel_rfl
theorem sz191 : szB Try.prog 191 = some 1 := by kernel_rfl
theorem ag205 : aggB Try.prog 205 = some true := by kernel_rfl
theorem sz205 : szB Try.prog 205 = some 16 := by kernel_rfl
theorem cal154 : calB Try.prog 154 = some true := by kernel_rfl
theorem ag191 : aggB Try.prog 191 = some false := by kernel_rfl
theorem cal155 : calB Try.prog 155 = some true := by kernel_rfl
theorem cal149 : calB Try.prog 149 = some true := by kernel_rfl
theorem cal140 : calB Try.prog 140 = some true := by kernel_rfl
theorem cal120 : calB Try.prog 120 = some true := by kernel_rfl
theorem cal121 : calB Try.prog 121 = some true := by kernel_rfl
theorem cal122 : calB Try.prog 122 = some true := by kernel_rfl
theorem cal77 : calB Try.prog 77 = some true := by kernel_rfl
theorem bl110_  (w : World) : (Instr.build 110 ([] : List (Nat × Value)).toArray).run Try.prog w = .ok (aggV [Seg.cell (.int .i64 (0 : Int)), Seg.cell (.int .i64 (0 : Int)), Seg.cell (.int .i64 (0 : Int)), Seg.cell (.int .i64 (0 : Int)), Seg.cell (.int .i64 (0 : Int)), Seg.cell (.int .i64 (0 : Int)), Seg.cell (.int .i64 (0 : Int)), Seg.cell (.int .i64 (0 : Int)), Seg.cell (.slice none 0 0) (by rfl)]) w := by kernel_rfl
theorem cal147 : calB Try.prog 147 = some true := by kernel_rfl
theorem cal133 : calB Try.prog 133 = some true := by kernel_rfl
theorem cal150 : calB Try.prog 150 = some true := by kernel_rfl
theorem cal141 : calB Try.prog 141 = some true := by kernel_rfl
theorem cal142 : calB Try.prog 142 = some true := by kernel_rfl
theorem cal130 : calB Try.prog 130 = some true := by kernel_rfl
theorem pl182 : placesB Try.prog 182 = some [(0, 1)] := by kernel_rfl
theorem ze182 : (Try.prog.info? 182).map (·.zero) = some (some (aggV [Seg.cell (.slice none 0 0) (by rfl)])) := by kernel_rfl
theorem sz182 : szB Try.prog 182 = some 1 := by kernel_rfl
theorem fl182_0 : fldB Try.prog 182 0 = some 0 := by kernel_rfl
theorem cal131 : calB Try.prog 131 = some true := by kernel_rfl
theorem ze184 : (Try.prog.info? 184).map (·.zero) = some (some (aggV [Seg.cell (.pointer none), Seg.cell (.pointer none), Seg.cell (.pointer none), Seg.cell (.pointer none), Seg.cell (.pointer none)])) := by kernel_rfl
theorem sz183 : szB Try.prog 183 = some 1 := by kernel_rfl
theorem ag183 : aggB Try.prog 183 = some false := by kernel_rfl
theorem cal113 : calB Try.prog 113 = some true := by kernel_rfl
theorem cal70 : calB Try.prog 70 = some true := by kernel_rfl
theorem cal72 : calB Try.prog 72 = some true := by kernel_rfl
theorem cal69 : calB Try.prog 69 = some true := by kernel_rfl
theorem cal138 : calB Try.prog 138 = some true := by kernel_rfl
theorem cal153 : calB Try.prog 153 = some true := by kernel_rfl
theorem cal148 : calB Try.prog 148 = some true := by kernel_rfl
theorem cal139 : calB Try.prog 139 = some true := by kernel_rfl
theorem cal137 : calB Try.prog 137 = some true := by kernel_rfl
theorem cal117 : calB Try.prog 117 = some true := by kernel_rfl
theorem cal118 : calB Try.prog 118 = some true := by kernel_rfl
theorem cal134 : calB Try.prog 134 = some true := by kernel_rfl
theorem cal135 : calB Try.prog 135 = some true := by kernel_rfl
theorem cal115 : calB Try.prog 115 = some true := by kernel_rfl
theorem cal136 : calB Try.prog 136 = some true := by kernel_rfl
theorem cal116 : calB Try.prog 116 = some true := by kernel_rfl
theorem cal75 : calB Try.prog 75 = some true := by kernel_rfl
theorem cal76 : calB Try.prog 76 = some true := by kernel_rfl
theorem cal114 : calB Try.prog 114 = some true := by kernel_rfl
theorem cal71 : calB Try.prog 71 = some true := by kernel_rfl
theorem cal73 : calB Try.prog 73 = some true := by kernel_rfl
theorem eqa106 : EqA Try.prog 106 k_api_Geometry 2 := by
  refine eqa_struct Try.underlying106 Try.stoodInHeld106 ?_
  intro d w a b
  have e : decide (a = b) = (decide (a.Blocks = b.Blocks) && (decide (a.Slots = b.Slots) && (decide (a.Gens = b.Gens) && true))) := by
    cases a
    cases b
    rw [Bool.eq_iff_iff]
    simp
  rw [e]
  refine eqf_cons (by decide) (by exact (eqk_int Try.underlying3) (d + 0) w _ _ _ a.Blocks b.Blocks ((chunk_segs (segs_api_Geometry a) 0 1 rfl rfl)) ((chunk_segs (segs_api_Geometry b) 0 1 rfl rfl))) ?_
  refine eqf_cons (by decide) (by exact (eqk_int Try.underlying3) (d + 0) w _ _ _ a.Slots b.Slots ((chunk_segs (segs_api_Geometry a) 1 1 rfl rfl)) ((chunk_segs (segs_api_Geometry b) 1 1 rfl rfl))) ?_
  refine eqf_cons (by decide) (by exact (eqk_int Try.underlying3) (d + 0) w _ _ _ a.Gens b.Gens ((chunk_segs (segs_api_Geometry a) 2 1 rfl rfl)) ((chunk_segs (segs_api_Geometry b) 2 1 rfl rfl))) ?_
  exact eqf_nil
theorem cal74 : calB Try.prog 74 = some true := by kernel_rfl
theorem cal78 : calB Try.prog 78 = some true := by kernel_rfl
theorem cal129 : calB Try.prog 129 = some true := by kernel_rfl
theorem cal106 : calB Try.prog 106 = some true := by kernel_rfl
theorem cal79 : calB Try.prog 79 = some true := by kernel_rfl
theorem ag129 : aggB Try.prog 129 = some true := by kernel_rfl
theorem sz129 : szB Try.prog 129 = some 3 := by kernel_rfl
theorem fl129_1 : fldB Try.prog 129 1 = some 1 := by kernel_rfl
theorem fl129_2 : fldB Try.prog 129 2 = some 2 := by kernel_rfl
theorem cal80 : calB Try.prog 80 = some true := by kernel_rfl
theorem fl129_0 : fldB Try.prog 129 0 = some 0 := by kernel_rfl
theorem cal81 : calB Try.prog 81 = some true := by kernel_rfl
end Go.Proofs.Ytklhbaghbmndeaa

/- rickyard/pmem.New: its model, and that the Go function computes it: written by gen.py. -/
set_option linter.unusedVariables false
namespace Go.Proofs.Ytklhbaghbmndeaa
open Go Go.Xw
def pmem_New.f (fu : Nat) (a0 : Int) : Option ((Option S_pmem_Device) × Int) := (if (if (decide (a0 < 0)) = true then true else (decide (a0 > 4096))) = true then some (none, 2) else (if 0 ≤ (IntKind.i64.wrap (a0 * 8)) ∧ Int.toNat (IntKind.i64.wrap (a0 * 8)) ≤ LIM then some ((some (⟨(List.replicate (Int.toNat (IntKind.i64.wrap (a0 * 8))) (⟨(0 : Int), (0 : Int), (0 : Int), false⟩ : S_pmem_cell)), (⟨[], (0 : Int)⟩ : S_pmem_plan), false, false, (0 : Int), (0 : Int)⟩ : S_pmem_Device)), 0) else none))
set_option maxRecDepth 100000 in
set_option maxHeartbeats 400000 in
theorem pmem_New.ok (fu : Nat) (w : World) (a0 : Int) (r : (Option S_pmem_Device) × Int) (h : pmem_New.f fu a0 = some r) :
    Calls Try.prog 26 (([.int .i64 a0] : List Value).toArray) w (fun e w' => ∃ v, e = .returned v ∧ ∃ u1 : Value, ∃ p2 : (r.1 = none → u1 = .pointer none) ∧ ∀ m9, r.1 = some m9 → ∃ G9 : Nat, ∃ U0 : Value, ∃ U1 : Value, ∃ O0 : Own k_pmem_cell 142 w' w.heap.size U0 m9.cells, ∃ O1 : Own (kI .i64) 3 w' w.heap.size U1 m9.plan.list, u1 = .pointer (some ⟨G9, 0, none⟩) ∧ w.heap.size ≤ G9 ∧ Blk w' G9 139 [Seg.cell U0 O0.one, Seg.cell U1 O1.one, Seg.cell (.int .i64 m9.plan.at_), Seg.cell (.bool m9.off), Seg.cell (.bool m9.armed), Seg.cell (.int .i64 m9.left), Seg.cell (.int .i64 m9.steps)], v = .tuple #[u1, .int .i64 r.2] ∧ Gr w w') := by
  unfold pmem_New.f at h
  have fB : Gr w w := Fr.refl _ _
  refine calls_cw Try.func26 rfl Try.ntmps26 rfl ?_
  refine cw_seq ?_
  refine cw_region ?_
  refine ol_val (v := .pointer none) (by exact xr_assign rfl rfl) rfl rfl rfl ?_
  refine ol_val (v := .int .i64 0) (by exact xr_assign rfl rfl) rfl rfl rfl ?_
  refine ol_nil ?_
  refine cw_seq ?_
  refine cw_seq ?_
  refine cw_mid (fun ρ' w' => ρ' 0 = .int .i64 a0 ∧ ρ' 9 = .bool (if (decide (a0 < 0)) = true then true else (decide (a0 > 4096))) ∧ w = w') ?_ ?_
  · skip
    refine cw_region ?_
    refine ol_val (v := .int .i64 a0) (by exact xr_move rfl rfl) rfl rfl rfl ?_
    refine ol_val (v := .bool (decide (a0 < 0))) (by exact xr_lss rfl rfl rfl) rfl rfl rfl ?_
    refine ol_val (v := .bool (decide (a0 < 0))) (by exact xr_move rfl rfl) rfl rfl rfl ?_
    rcases bt (decide (a0 < 0)) with c3 | c3
    · skip
      refine ol_gskip rfl rfl rfl rfl rfl c3 ?_
      refine ol_gskip rfl rfl rfl rfl rfl c3 ?_
      refine ol_val (v := .bool true) (by exact xr_pickT rfl rfl c3 rfl) rfl rfl rfl ?_
      refine ol_nil ?_
      refine thn_i ?_
      exact ⟨rfl, (rfl).trans (congrArg (fun z => (.bool z : Value)) (show true = (if (decide (a0 < 0)) = true then true else (decide (a0 > 4096))) from by rw [ite_t c3])), rfl⟩
    · skip
      refine ol_gval (v := .int .i64 a0) (by exact xr_move rfl rfl) rfl rfl rfl rfl rfl c3 ?_
      refine ol_gval (v := .bool (decide (a0 > 4096))) (by exact xr_gtr rfl rfl rfl) rfl rfl rfl rfl rfl c3 ?_
      refine ol_val (v := .bool (decide (a0 > 4096))) (by exact xr_pickF rfl rfl c3 rfl) rfl rfl rfl ?_
      refine ol_nil ?_
      refine thn_i ?_
      exact ⟨rfl, (rfl).trans (congrArg (fun z => (.bool z : Value)) (show (decide (a0 > 4096)) = (if (decide (a0 < 0)) = true then true else (decide (a0 > 4096))) from by rw [ite_f c3])), rfl⟩
  · skip
    rintro ρ4 _ ⟨e0, e9, rfl⟩
    rcases is h with ⟨c5, h⟩ | ⟨c5, h⟩
    · refine cw_condT e9 c5 ?_
      refine cw_seq ?_
      refine cw_region ?_
      refine ol_val (v := .pointer none) (by exact xr_assign rfl rfl) rfl rfl rfl ?_
      refine ol_val (v := .int .i64 2) (by exact xr_assign rfl rfl) rfl rfl rfl ?_
      refine ol_nil ?_
      refine cw_ret ?_
      repeat (first | with_reducible refine thn_r ?_ | with_reducible refine blk_r ?_)
      obtain rfl := Option.some.inj h
      refine fin_ret2 Try.results26 rfl rfl ?_
      exact ⟨_, rfl, (.pointer none), ⟨(fun _ => rfl), (fun _ e => by cases e)⟩, rfl, fB⟩
    · refine cw_condF e9 c5 ?_
      refine cw_skip ?_
      refine cw_seq ?_
      refine cw_region ?_
      refine ol_val (v := .int .i64 a0) (by exact xr_move rfl e0) rfl rfl rfl ?_
      refine ol_val (v := .int .i64 (IntKind.i64.wrap (a0 * 8))) (by exact xr_mul rfl rfl rfl) rfl rfl rfl ?_
      obtain ⟨g6, h⟩ := gs h
      refine ol_op (by exact opv_make (K := k_pmem_cell) (z := (⟨(0 : Int), (0 : Int), (0 : Int), false⟩ : S_pmem_cell)) rfl Try.underlying135 el142 rfl rfl rfl g6.1 g6.2 rfl fB.size) rfl rfl rfl ?_
      rintro v7 w12 ⟨o9, q8, z10⟩
      have fB := fB.gr q8
      refine ol_val (v := aggV [Seg.cell v7 o9.one, Seg.cell (.slice none 0 0) (by rfl), Seg.cell (.int .i64 (0 : Int)), Seg.cell (.bool false), Seg.cell (.bool false), Seg.cell (.int .i64 (0 : Int)), Seg.cell (.int .i64 (0 : Int))]) (by exact xr_buildS (vals := [(0, v7)]) (res := [Seg.cell v7 o9.one, Seg.cell (.slice none 0 0) (by rfl), Seg.cell (.int .i64 (0 : Int)), Seg.cell (.bool false), Seg.cell (.bool false), Seg.cell (.int .i64 (0 : Int)), Seg.cell (.int .i64 (0 : Int))]) rfl ⟨rfl, rfl, trivial⟩ Try.underlying139 ze139 pl139 (fl_cons (xs := cellsOf [Seg.cell v7 o9.one]) (cs' := cellsOf [Seg.cell v7 o9.one, Seg.cell (.slice none 0 0) (by rfl), Seg.cell (.int .i64 (0 : Int)), Seg.cell (.bool false), Seg.cell (.bool false), Seg.cell (.int .i64 (0 : Int)), Seg.cell (.int .i64 (0 : Int))]) rfl (cells_one o9.one) (len_cellsOf _) (Spl.segs [Seg.cell (.slice none 0 0) (by rfl), Seg.cell (.slice none 0 0) (by rfl), Seg.cell (.int .i64 (0 : Int)), Seg.cell (.bool false), Seg.cell (.bool false), Seg.cell (.int .i64 (0 : Int)), Seg.cell (.int .i64 (0 : Int))] 0 1 [Seg.cell v7 o9.one] rfl rfl) fl_nil)) rfl rfl rfl ?_
      refine ol_op (by exact opv_box (ss := [Seg.cell v7 o9.one, Seg.cell (.slice none 0 0) (by rfl), Seg.cell (.int .i64 (0 : Int)), Seg.cell (.bool false), Seg.cell (.bool false), Seg.cell (.int .i64 (0 : Int)), Seg.cell (.int .i64 (0 : Int))]) rfl rfl rfl) rfl rfl rfl ?_
      rintro _ w18 ⟨G13, rfl, b14, q15, z16⟩
      have z16 := Nat.le_trans fB.size z16
      have o9 := o9.gr q15
      have fB := fB.gr q15
      refine ol_val (v := .pointer (some ⟨G13, 0, none⟩)) (by exact xr_assign rfl rfl) rfl rfl rfl ?_
      refine ol_val (v := .int .i64 0) (by exact xr_assign rfl rfl) rfl rfl rfl ?_
      refine ol_nil ?_
      refine cw_ret ?_
      repeat (first | with_reducible refine thn_r ?_ | with_reducible refine blk_r ?_)
      obtain rfl := Option.some.inj h
      refine fin_ret2 Try.results26 rfl rfl ?_
      exact ⟨_, rfl, (.pointer (some ⟨G13, 0, none⟩)), ⟨(fun e => by cases e), (fun _ e => by obtain rfl := Option.some.inj e; exact ⟨G13, v7, (.slice none 0 0), o9, Own.nil _ _ _ _, rfl, z16, b14⟩)⟩, rfl, fB⟩
end Go.Proofs.Ytklhbaghbmndeaa

/- (*rickyard/pmem.cell).keep: its model, and that the Go function computes it: written by gen.py. -/
set_option linter.unusedVariables false
namespace Go.Proofs.Ytklhbaghbmndeaa
open Go Go.Xw
def pmem_cell_keep__i0.f (fu : Nat) (a0 : S_pmem_cell) (a1 : Int) : Option S_pmem_cell := some ((⟨a1, a0.stored, 0, false⟩ : S_pmem_cell))
set_option maxRecDepth 100000 in
set_option maxHeartbeats 400000 in
theorem pmem_cell_keep__i0.ok (fu : Nat) (w : World) (a0 : S_pmem_cell) (G_0 : Nat) (T_0 : TypeId) (X_0 Y_0 : List Value) (b_0 : SubB w G_0 T_0 X_0 [Seg.cell (.int .u64 a0.lasts), Seg.cell (.int .u64 a0.stored), Seg.cell (.int .u64 a0.sent), Seg.cell (.bool a0.flushed)] Y_0) (a1 : Int) (r : S_pmem_cell) (h : pmem_cell_keep__i0.f fu a0 a1 = some r) :
    Calls Try.prog 85 (([.pointer (some ⟨G_0, List.length X_0, none⟩), .int .u64 a1] : List Value).toArray) w (fun e w' => ∃ v, e = .returned v ∧ v = .tuple #[] ∧ SubB w' G_0 T_0 X_0 [Seg.cell (.int .u64 r.lasts), Seg.cell (.int .u64 r.stored), Seg.cell (.int .u64 r.sent), Seg.cell (.bool r.flushed)] Y_0 ∧ Fr (fun j => j = G_0) w w') := by
  unfold pmem_cell_keep__i0.f at h
  have fB : Fr (fun j => j = G_0) w w := Fr.refl _ _
  refine calls_cw Try.func85 rfl Try.ntmps85 rfl ?_
  refine cw_seq ?_
  refine cw_region ?_
  refine ol_val (v := .pointer (some ⟨G_0, List.length X_0, none⟩)) (by exact xr_move rfl rfl) rfl rfl rfl ?_
  refine ol_val (v := .int .u64 a1) (by exact xr_move rfl rfl) rfl rfl rfl ?_
  refine ol_val (v := .pointer (some ⟨G_0, List.length X_0, none⟩)) (by exact xr_nilCheck rfl rfl) rfl rfl rfl ?_
  refine ol_val (v := .pointer (some ⟨G_0, List.length X_0 + 0, none⟩)) (by exact xr_fieldAddr (p := List.length X_0) (q := 0) rfl fl142_0 rfl) rfl rfl rfl ?_
  refine ol_op0 (by exact opv_storeSub (ss' := [Seg.cell (.int .u64 a1), Seg.cell (.int .u64 a0.stored), Seg.cell (.int .u64 a0.sent), Seg.cell (.bool a0.flushed)]) (xs := cellsOf [Seg.cell (.int .u64 a1)]) rfl sz22 rfl rfl rfl (len_cellsOf _) (one_cellsOf _) b_0 (Spl.segs _ 0 1 [Seg.cell (.int .u64 a1)] rfl rfl)) rfl rfl ?_
  rintro _ w2 ⟨b_0, q1⟩
  have fB := fB.wrS q1 rfl
  refine ol_nil ?_
  refine cw_region ?_
  refine ol_val (v := .pointer (some ⟨G_0, List.length X_0, none⟩)) (by exact xr_move rfl rfl) rfl rfl rfl ?_
  refine ol_val (v := .pointer (some ⟨G_0, List.length X_0, none⟩)) (by exact xr_move rfl rfl) rfl rfl rfl ?_
  refine ol_val (v := .pointer (some ⟨G_0, List.length X_0, none⟩)) (by exact xr_nilCheck rfl rfl) rfl rfl rfl ?_
  refine ol_val (v := .pointer (some ⟨G_0, List.length X_0 + 2, none⟩)) (by exact xr_fieldAddr (p := List.length X_0) (q := 2) rfl fl142_2 rfl) rfl rfl rfl ?_
  refine ol_op0 (by exact opv_storeSub (ss' := [Seg.cell (.int .u64 a1), Seg.cell (.int .u64 a0.stored), Seg.cell (.int .u64 0), Seg.cell (.bool a0.flushed)]) (xs := cellsOf [Seg.cell (.int .u64 0)]) rfl sz22 rfl rfl rfl (len_cellsOf _) (one_cellsOf _) b_0 (Spl.segs _ 2 1 [Seg.cell (.int .u64 0)] rfl rfl)) rfl rfl ?_
  rintro _ w4 ⟨b_0, q3⟩
  have fB := fB.wrS q3 rfl
  refine ol_val (v := .pointer (some ⟨G_0, List.length X_0, none⟩)) (by exact xr_nilCheck rfl rfl) rfl rfl rfl ?_
  refine ol_val (v := .pointer (some ⟨G_0, List.length X_0 + 3, none⟩)) (by exact xr_fieldAddr (p := List.length X_0) (q := 3) rfl fl142_3 rfl) rfl rfl rfl ?_
  refine ol_op0 (by exact opv_storeSub (ss' := [Seg.cell (.int .u64 a1), Seg.cell (.int .u64 a0.stored), Seg.cell (.int .u64 0), Seg.cell (.bool false)]) (xs := cellsOf [Seg.cell (.bool false)]) rfl sz4 rfl rfl rfl (len_cellsOf _) (one_cellsOf _) b_0 (Spl.segs _ 3 1 [Seg.cell (.bool false)] rfl rfl)) rfl rfl ?_
  rintro _ w6 ⟨b_0, q5⟩
  have fB := fB.wrS q5 rfl
  refine ol_nil ?_
  obtain rfl := Option.some.inj h
  refine fin_end0 Try.results85 ?_
  exact ⟨_, rfl, rfl, b_0, fB⟩
end Go.Proofs.Ytklhbaghbmndeaa

/- (*rickyard/pmem.cell).open: its model, and that the Go function computes it: written by gen.py. -/
set_option linter.unusedVariables false
namespace Go.Proofs.Ytklhbaghbmndeaa
open Go Go.Xw
def pmem_cell_open__r0.f (fu : Nat) (a0 : S_pmem_cell) : Option Bool := some ((if a0.flushed = true then true else (!decide (a0.stored = a0.lasts))))
set_option maxRecDepth 100000 in
set_option maxHeartbeats 400000 in
theorem pmem_cell_open__r0.ok (fu : Nat) (w : World) (a0 : S_pmem_cell) (G_0 p_0 : Nat) (A_0 : At w G_0 p_0 (cellsOf [Seg.cell (.int .u64 a0.lasts), Seg.cell (.int .u64 a0.stored), Seg.cell (.int .u64 a0.sent), Seg.cell (.bool a0.flushed)])) (r : Bool) (h : pmem_cell_open__r0.f fu a0 = some r) :
    Calls Try.prog 86 (([.pointer (some ⟨G_0, p_0, none⟩)] : List Value).toArray) w (fun e w' => ∃ v, e = .returned v ∧ v = .bool r ∧ Gr w w') := by
  unfold pmem_cell_open__r0.f at h
  have fB : Gr w w := Fr.refl _ _
  refine calls_cw Try.func86 rfl Try.ntmps86 rfl ?_
  refine cw_seq ?_
  refine cw_region ?_
  refine ol_val (v := .bool false) (by exact xr_assign rfl rfl) rfl rfl rfl ?_
  refine ol_nil ?_
  refine cw_seq ?_
  refine cw_mid (fun ρ' w' => ρ' 2 = .bool (if a0.flushed = true then true else (!decide (a0.stored = a0.lasts))) ∧ Gr w w') ?_ ?_
  · skip
    rcases bt a0.flushed with c1 | c1
    · skip
      refine cw_drawL 14 [fun vz wz => vz = (.pointer (some ⟨G_0, p_0, none⟩) : Value), fun vz wz => vz = (.pointer (some ⟨G_0, p_0, none⟩) : Value), fun vz wz => vz = (.pointer (some ⟨G_0, p_0 + 3, none⟩) : Value), fun vz wz => vz = (.bool a0.flushed : Value), fun vz wz => vz = (.bool a0.flushed : Value), fun vz _ => vz = undef, fun vz _ => vz = undef, fun vz _ => vz = undef, fun vz _ => vz = undef, fun vz _ => vz = undef, fun vz _ => vz = undef, fun vz _ => vz = undef, fun vz _ => vz = undef, fun vz _ => vz = undef] mo rfl ⟨fun _ _ _ h _ => h, fun _ _ _ h _ => h, fun _ _ _ h _ => h, fun _ _ _ h _ => h, fun _ _ _ h _ => h, fun _ _ _ h _ => h, fun _ _ _ h _ => h, fun _ _ _ h _ => h, fun _ _ _ h _ => h, fun _ _ _ h _ => h, fun _ _ _ h _ => h, fun _ _ _ h _ => h, fun _ _ _ h _ => h, fun _ _ _ h _ => h, trivial⟩ ?_ ?_
      · refine ⟨?_, ?_, ?_, ?_, ?_, ?_, ?_, ?_, ?_, ?_, ?_, ?_, ?_, ?_, trivial⟩
        · intro ρz wz hz hk hd
          exact sk_val (v := .pointer (some ⟨G_0, p_0, none⟩)) (by exact xr_move rfl ((hk 0 rfl).trans rfl)) rfl rfl
        · intro ρz wz hz hk hd
          have d3 := hd 0 rfl 3 rfl
          exact sk_val (v := .pointer (some ⟨G_0, p_0, none⟩)) (by exact xr_nilCheck rfl d3) rfl rfl
        · intro ρz wz hz hk hd
          have d4 := hd 1 rfl 4 rfl
          exact sk_val (v := .pointer (some ⟨G_0, p_0 + 3, none⟩)) (by exact xr_fieldAddr (p := p_0) (q := 3) rfl fl142_3 d4) rfl rfl
        · intro ρz wz hz hk hd
          have d5 := hd 2 rfl 5 rfl
          exact sk_val (v := .bool a0.flushed) (by exact xr_load1 (v := .bool a0.flushed) rfl ag4 d5 (At.segs (ss := [Seg.cell (.int .u64 a0.lasts), Seg.cell (.int .u64 a0.stored), Seg.cell (.int .u64 a0.sent), Seg.cell (.bool a0.flushed)]) (At.gr A_0 (fB.gr hz)) 3 1 rfl)) rfl rfl
        · intro ρz wz hz hk hd
          have d6 := hd 3 rfl 6 rfl
          exact sk_val (v := .bool a0.flushed) (by exact xr_move rfl d6) rfl rfl
        · intro ρz wz hz hk hd
          have d7 := hd 4 rfl 7 rfl
          exact sk_skip rfl rfl d7 c1 rfl
        · intro ρz wz hz hk hd
          have d7 := hd 4 rfl 7 rfl
          exact sk_skip rfl rfl d7 c1 rfl
        · intro ρz wz hz hk hd
          have d7 := hd 4 rfl 7 rfl
          exact sk_skip rfl rfl d7 c1 rfl
        · intro ρz wz hz hk hd
          have d7 := hd 4 rfl 7 rfl
          exact sk_skip rfl rfl d7 c1 rfl
        · intro ρz wz hz hk hd
          have d7 := hd 4 rfl 7 rfl
          exact sk_skip rfl rfl d7 c1 rfl
        · intro ρz wz hz hk hd
          have d7 := hd 4 rfl 7 rfl
          exact sk_skip rfl rfl d7 c1 rfl
        · intro ρz wz hz hk hd
          have d7 := hd 4 rfl 7 rfl
          exact sk_skip rfl rfl d7 c1 rfl
        · intro ρz wz hz hk hd
          have d7 := hd 4 rfl 7 rfl
          exact sk_skip rfl rfl d7 c1 rfl
        · intro ρz wz hz hk hd
          have d7 := hd 4 rfl 7 rfl
          exact sk_skip rfl rfl d7 c1 rfl
      · intro ρ2 w3 q4 hk hd
        have e7 := hd 4 rfl 7 rfl
        have fB := fB.gr q4
        refine ol_val (v := .bool true) (by exact xr_pickT rfl e7 c1 rfl) rfl rfl rfl ?_
        refine ol_val (v := .bool true) (by exact xr_assign rfl rfl) rfl rfl rfl ?_
        refine ol_nil ?_
        refine thn_i ?_
        exact ⟨(rfl).trans (congrArg (fun z => (.bool z : Value)) (show true = (if a0.flushed = true then true else (!decide (a0.stored = a0.lasts))) from by rw [ite_t c1])), q4⟩
    · skip
      refine cw_drawL 14 [fun vz wz => vz = (.pointer (some ⟨G_0, p_0, none⟩) : Value), fun vz wz => vz = (.pointer (some ⟨G_0, p_0, none⟩) : Value), fun vz wz => vz = (.pointer (some ⟨G_0, p_0 + 3, none⟩) : Value), fun vz wz => vz = (.bool a0.flushed : Value), fun vz wz => vz = (.bool a0.flushed : Value), fun vz wz => vz = (.pointer (some ⟨G_0, p_0, none⟩) : Value), fun vz wz => vz = (.pointer (some ⟨G_0, p_0, none⟩) : Value), fun vz wz => vz = (.pointer (some ⟨G_0, p_0 + 1, none⟩) : Value), fun vz wz => vz = (.int .u64 a0.stored : Value), fun vz wz => vz = (.pointer (some ⟨G_0, p_0, none⟩) : Value), fun vz wz => vz = (.pointer (some ⟨G_0, p_0, none⟩) : Value), fun vz wz => vz = (.pointer (some ⟨G_0, p_0 + 0, none⟩) : Value), fun vz wz => vz = (.int .u64 a0.lasts : Value), fun vz wz => vz = (.bool (!decide (a0.stored = a0.lasts)) : Value)] mo rfl ⟨fun _ _ _ h _ => h, fun _ _ _ h _ => h, fun _ _ _ h _ => h, fun _ _ _ h _ => h, fun _ _ _ h _ => h, fun _ _ _ h _ => h, fun _ _ _ h _ => h, fun _ _ _ h _ => h, fun _ _ _ h _ => h, fun _ _ _ h _ => h, fun _ _ _ h _ => h, fun _ _ _ h _ => h, fun _ _ _ h _ => h, fun _ _ _ h _ => h, trivial⟩ ?_ ?_
      · refine ⟨?_, ?_, ?_, ?_, ?_, ?_, ?_, ?_, ?_, ?_, ?_, ?_, ?_, ?_, trivial⟩
        · intro ρz wz hz hk hd
          exact sk_val (v := .pointer (some ⟨G_0, p_0, none⟩)) (by exact xr_move rfl ((hk 0 rfl).trans rfl)) rfl rfl
        · intro ρz wz hz hk hd
          have d3 := hd 0 rfl 3 rfl
          exact sk_val (v := .pointer (some ⟨G_0, p_0, none⟩)) (by exact xr_nilCheck rfl d3) rfl rfl
        · intro ρz wz hz hk hd
          have d4 := hd 1 rfl 4 rfl
          exact sk_val (v := .pointer (some ⟨G_0, p_0 + 3, none⟩)) (by exact xr_fieldAddr (p := p_0) (q := 3) rfl fl142_3 d4) rfl rfl
        · intro ρz wz hz hk hd
          have d5 := hd 2 rfl 5 rfl
          exact sk_val (v := .bool a0.flushed) (by exact xr_load1 (v := .bool a0.flushed) rfl ag4 d5 (At.segs (ss := [Seg.cell (.int .u64 a0.lasts), Seg.cell (.int .u64 a0.stored), Seg.cell (.int .u64 a0.sent), Seg.cell (.bool a0.flushed)]) (At.gr A_0 (fB.gr hz)) 3 1 rfl)) rfl rfl
        · intro ρz wz hz hk hd
          have d6 := hd 3 rfl 6 rfl
          exact sk_val (v := .bool a0.flushed) (by exact xr_move rfl d6) rfl rfl
        · intro ρz wz hz hk hd
          have d7 := hd 4 rfl 7 rfl
          exact sk_gval (v := .pointer (some ⟨G_0, p_0, none⟩)) (by exact xr_move rfl ((hk 0 rfl).trans rfl)) rfl rfl d7 c1 rfl
        · intro ρz wz hz hk hd
          have d8 := hd 5 rfl 8 rfl
          have d7 := hd 4 rfl 7 rfl
          exact sk_gval (v := .pointer (some ⟨G_0, p_0, none⟩)) (by exact xr_nilCheck rfl d8) rfl rfl d7 c1 rfl
        · intro ρz wz hz hk hd
          have d9 := hd 6 rfl 9 rfl
          have d7 := hd 4 rfl 7 rfl
          exact sk_gval (v := .pointer (some ⟨G_0, p_0 + 1, none⟩)) (by exact xr_fieldAddr (p := p_0) (q := 1) rfl fl142_1 d9) rfl rfl d7 c1 rfl
        · intro ρz wz hz hk hd
          have d10 := hd 7 rfl 10 rfl
          have d7 := hd 4 rfl 7 rfl
          exact sk_gval (v := .int .u64 a0.stored) (by exact xr_load1 (v := .int .u64 a0.stored) rfl ag22 d10 (At.segs (ss := [Seg.cell (.int .u64 a0.lasts), Seg.cell (.int .u64 a0.stored), Seg.cell (.int .u64 a0.sent), Seg.cell (.bool a0.flushed)]) (At.gr A_0 (fB.gr hz)) 1 1 rfl)) rfl rfl d7 c1 rfl
        · intro ρz wz hz hk hd
          have d7 := hd 4 rfl 7 rfl
          exact sk_gval (v := .pointer (some ⟨G_0, p_0, none⟩)) (by exact xr_move rfl ((hk 0 rfl).trans rfl)) rfl rfl d7 c1 rfl
        · intro ρz wz hz hk hd
          have d12 := hd 9 rfl 12 rfl
          have d7 := hd 4 rfl 7 rfl
          exact sk_gval (v := .pointer (some ⟨G_0, p_0, none⟩)) (by exact xr_nilCheck rfl d12) rfl rfl d7 c1 rfl
        · intro ρz wz hz hk hd
          have d13 := hd 10 rfl 13 rfl
          have d7 := hd 4 rfl 7 rfl
          exact sk_gval (v := .pointer (some ⟨G_0, p_0 + 0, none⟩)) (by exact xr_fieldAddr (p := p_0) (q := 0) rfl fl142_0 d13) rfl rfl d7 c1 rfl
        · intro ρz wz hz hk hd
          have d14 := hd 11 rfl 14 rfl
          have d7 := hd 4 rfl 7 rfl
          exact sk_gval (v := .int .u64 a0.lasts) (by exact xr_load1 (v := .int .u64 a0.lasts) rfl ag22 d14 (At.segs (ss := [Seg.cell (.int .u64 a0.lasts), Seg.cell (.int .u64 a0.stored), Seg.cell (.int .u64 a0.sent), Seg.cell (.bool a0.flushed)]) (At.gr A_0 (fB.gr hz)) 0 1 rfl)) rfl rfl d7 c1 rfl
        · intro ρz wz hz hk hd
          have d11 := hd 8 rfl 11 rfl
          have d15 := hd 12 rfl 15 rfl
          have d7 := hd 4 rfl 7 rfl
          exact sk_gval (v := .bool (!decide (a0.stored = a0.lasts))) (by exact xr_neI rfl Try.underlying22 rfl d11 d15) rfl rfl d7 c1 rfl
      · intro ρ5 w6 q7 hk hd
        have e7 := hd 4 rfl 7 rfl
        have e16 := hd 13 rfl 16 rfl
        have fB := fB.gr q7
        refine ol_val (v := .bool (!decide (a0.stored = a0.lasts))) (by exact xr_pickF rfl e7 c1 e16) rfl rfl rfl ?_
        refine ol_val (v := .bool (!decide (a0.stored = a0.lasts))) (by exact xr_assign rfl rfl) rfl rfl rfl ?_
        refine ol_nil ?_
        refine thn_i ?_
        exact ⟨(rfl).trans (congrArg (fun z => (.bool z : Value)) (show (!decide (a0.stored = a0.lasts)) = (if a0.flushed = true then true else (!decide (a0.stored = a0.lasts))) from by rw [ite_f c1])), q7⟩
  · skip
    rintro ρ8 w9 ⟨e2, q10⟩
    have fB := fB.gr q10
    refine cw_ret ?_
    repeat (first | with_reducible refine thn_r ?_ | with_reducible refine blk_r ?_)
    obtain rfl := Option.some.inj h
    refine fin_ret1 Try.results86 e2 ?_
    exact ⟨_, rfl, rfl, fB⟩
end Go.Proofs.Ytklhbaghbmndeaa

/- (*rickyard/pmem.cell).fate: its model, and that the Go function computes it: written by gen.py. -/
set_option linter.unusedVariables false
namespace Go.Proofs.Ytklhbaghbmndeaa
open Go Go.Xw
def pmem_cell_fate__r0.f (fu : Nat) (a0 : S_pmem_cell) (a1 : Int) : Option Int := (((if (decide ((Int.tmod a1 3) = 1)) = true then some ((decide ((Int.tmod a1 3) = 1))) else some ((decide ((Int.tmod a1 3) = (-2))))) : Option Bool).bind fun x1 => (((if x1 = true then (if a0.flushed = true then some (Sum.inl (a0.sent)) else some (Sum.inr ())) else (((if (decide ((Int.tmod a1 3) = 2)) = true then some ((decide ((Int.tmod a1 3) = 2))) else some ((decide ((Int.tmod a1 3) = (-1))))) : Option Bool).bind fun x13 => (if x13 = true then some (Sum.inl (a0.stored)) else some (Sum.inr ())))) : Option (Sum Int Unit)).bind fun x7 => match x7 with | Sum.inl p => some p | Sum.inr x10 => some (a0.lasts)))
set_option maxRecDepth 100000 in
set_option maxHeartbeats 400000 in
theorem pmem_cell_fate__r0.ok (fu : Nat) (w : World) (a0 : S_pmem_cell) (G_0 p_0 : Nat) (A_0 : At w G_0 p_0 (cellsOf [Seg.cell (.int .u64 a0.lasts), Seg.cell (.int .u64 a0.stored), Seg.cell (.int .u64 a0.sent), Seg.cell (.bool a0.flushed)])) (a1 : Int) (r : Int) (h : pmem_cell_fate__r0.f fu a0 a1 = some r) :
    Calls Try.prog 87 (([.pointer (some ⟨G_0, p_0, none⟩), .int .i64 a1] : List Value).toArray) w (fun e w' => ∃ v, e = .returned v ∧ v = .int .u64 r ∧ Gr w w') := by
  unfold pmem_cell_fate__r0.f at h
  have fB : Gr w w := Fr.refl _ _
  refine calls_cw Try.func87 rfl Try.ntmps87 rfl ?_
  refine cw_seq ?_
  refine cw_region ?_
  refine ol_val (v := .int .u64 0) (by exact xr_assign rfl rfl) rfl rfl rfl ?_
  refine ol_nil ?_
  refine cw_seq ?_
  refine cw_seq ?_
  refine cw_region ?_
  refine ol_val (v := .int .i64 a1) (by exact xr_move rfl rfl) rfl rfl rfl ?_
  refine ol_val (v := .int .i64 (Int.tmod a1 3)) (by exact xr_rem rfl rfl rfl (by decide)) rfl rfl rfl ?_
  refine ol_nil ?_
  refine cw_block ?_
  refine cw_seq ?_
  refine cw_seq ?_
  refine cw_region ?_
  refine ol_val (v := .bool (decide ((Int.tmod a1 3) = 1))) (by exact xr_eqI rfl Try.underlying3 rfl rfl rfl) rfl rfl rfl ?_
  refine ol_val (v := .bool (decide ((Int.tmod a1 3) = 1))) (by exact xr_assign rfl rfl) rfl rfl rfl ?_
  refine ol_nil ?_
  obtain ⟨x1, j2, h3⟩ := bs h
  refine cw_mid (fun ρ' w' => ρ' 0 = .pointer (some ⟨G_0, p_0, none⟩) ∧ ρ' 6 = .int .i64 (Int.tmod a1 3) ∧ ρ' 7 = .bool x1 ∧ Gr w w') ?_ ?_
  · have h := j2
    rcases is h with ⟨c4, h⟩ | ⟨c4, h⟩
    · refine cw_condT rfl c4 ?_
      refine cw_skip ?_
      obtain rfl := Option.some.inj h
      refine thn_i ?_
      exact ⟨rfl, rfl, rfl, fB⟩
    · refine cw_condF rfl c4 ?_
      refine cw_region ?_
      refine ol_val (v := .bool (decide ((Int.tmod a1 3) = (-2)))) (by exact xr_eqI rfl Try.underlying3 rfl rfl rfl) rfl rfl rfl ?_
      refine ol_val (v := .bool (decide ((Int.tmod a1 3) = (-2)))) (by exact xr_assign rfl rfl) rfl rfl rfl ?_
      refine ol_nil ?_
      obtain rfl := Option.some.inj h
      refine thn_i ?_
      exact ⟨rfl, rfl, rfl, fB⟩
  · rintro ρ5 w6 ⟨e0, e6, e7, fB⟩
    have h := h3
    obtain ⟨x7, j8, h9⟩ := bs h
    refine cw_mid (fun ρ' w' => ∃ x10, x7 = Sum.inr x10 ∧ ρ' 0 = .pointer (some ⟨G_0, p_0, none⟩) ∧ Gr w w') ?_ ?_
    · have h := j8
      rcases is h with ⟨c11, h⟩ | ⟨c11, h⟩
      · refine cw_condT e7 c11 ?_
        refine cw_seq ?_
        refine cw_region ?_
        refine ol_val (v := .pointer (some ⟨G_0, p_0, none⟩)) (by exact xr_move rfl e0) rfl rfl rfl ?_
        refine ol_val (v := .pointer (some ⟨G_0, p_0, none⟩)) (by exact xr_nilCheck rfl rfl) rfl rfl rfl ?_
        refine ol_val (v := .pointer (some ⟨G_0, p_0 + 3, none⟩)) (by exact xr_fieldAddr (p := p_0) (q := 3) rfl fl142_3 rfl) rfl rfl rfl ?_
        refine ol_val (v := .bool a0.flushed) (by exact xr_load1 (v := .bool a0.flushed) rfl ag4 rfl (At.segs (ss := [Seg.cell (.int .u64 a0.lasts), Seg.cell (.int .u64 a0.stored), Seg.cell (.int .u64 a0.sent), Seg.cell (.bool a0.flushed)]) (At.gr A_0 fB) 3 1 rfl)) rfl rfl rfl ?_
        refine ol_nil ?_
        rcases is h with ⟨c12, h⟩ | ⟨c12, h⟩
        · refine cw_condT rfl c12 ?_
          refine cw_seq ?_
          refine cw_region ?_
          refine ol_val (v := .pointer (some ⟨G_0, p_0, none⟩)) (by exact xr_move rfl e0) rfl rfl rfl ?_
          refine ol_val (v := .pointer (some ⟨G_0, p_0, none⟩)) (by exact xr_nilCheck rfl rfl) rfl rfl rfl ?_
          refine ol_val (v := .pointer (some ⟨G_0, p_0 + 2, none⟩)) (by exact xr_fieldAddr (p := p_0) (q := 2) rfl fl142_2 rfl) rfl rfl rfl ?_
          refine ol_val (v := .int .u64 a0.sent) (by exact xr_load1 (v := .int .u64 a0.sent) rfl ag22 rfl (At.segs (ss := [Seg.cell (.int .u64 a0.lasts), Seg.cell (.int .u64 a0.stored), Seg.cell (.int .u64 a0.sent), Seg.cell (.bool a0.flushed)]) (At.gr A_0 fB) 2 1 rfl)) rfl rfl rfl ?_
          refine ol_val (v := .int .u64 a0.sent) (by exact xr_assign rfl rfl) rfl rfl rfl ?_
          refine ol_nil ?_
          refine cw_ret ?_
          repeat (first | with_reducible refine thn_r ?_ | with_reducible refine blk_r ?_)
          obtain rfl := Option.some.inj h
          have h := h9
          obtain rfl := Option.some.inj h
          refine fin_ret1 Try.results87 rfl ?_
          exact ⟨_, rfl, rfl, fB⟩
        · refine cw_condF rfl c12 ?_
          refine cw_skip ?_
          obtain rfl := Option.some.inj h
          refine thn_i ?_
          exact ⟨_, rfl, e0, fB⟩
      · refine cw_condF e7 c11 ?_
        refine cw_seq ?_
        refine cw_seq ?_
        refine cw_region ?_
        refine ol_val (v := .bool (decide ((Int.tmod a1 3) = 2))) (by exact xr_eqI rfl Try.underlying3 rfl e6 rfl) rfl rfl rfl ?_
        refine ol_val (v := .bool (decide ((Int.tmod a1 3) = 2))) (by exact xr_assign rfl rfl) rfl rfl rfl ?_
        refine ol_nil ?_
        obtain ⟨x13, j14, h15⟩ := bs h
        refine cw_mid (fun ρ' w' => ρ' 0 = .pointer (some ⟨G_0, p_0, none⟩) ∧ ρ' 18 = .bool x13 ∧ Gr w w') ?_ ?_
        · have h := j14
          rcases is h with ⟨c16, h⟩ | ⟨c16, h⟩
          · refine cw_condT rfl c16 ?_
            refine cw_skip ?_
            obtain rfl := Option.some.inj h
            refine thn_i ?_
            exact ⟨e0, rfl, fB⟩
          · refine cw_condF rfl c16 ?_
            refine cw_region ?_
            refine ol_val (v := .bool (decide ((Int.tmod a1 3) = (-1)))) (by exact xr_eqI rfl Try.underlying3 rfl e6 rfl) rfl rfl rfl ?_
            refine ol_val (v := .bool (decide ((Int.tmod a1 3) = (-1)))) (by exact xr_assign rfl rfl) rfl rfl rfl ?_
            refine ol_nil ?_
            obtain rfl := Option.some.inj h
            refine thn_i ?_
            exact ⟨e0, rfl, fB⟩
        · rintro ρ17 w18 ⟨e0, e18, fB⟩
          have h := h15
          rcases is h with ⟨c19, h⟩ | ⟨c19, h⟩
          · refine cw_condT e18 c19 ?_
            refine cw_seq ?_
            refine cw_region ?_
            refine ol_val (v := .pointer (some ⟨G_0, p_0, none⟩)) (by exact xr_move rfl e0) rfl rfl rfl ?_
            refine ol_val (v := .pointer (some ⟨G_0, p_0, none⟩)) (by exact xr_nilCheck rfl rfl) rfl rfl rfl ?_
            refine ol_val (v := .pointer (some ⟨G_0, p_0 + 1, none⟩)) (by exact xr_fieldAddr (p := p_0) (q := 1) rfl fl142_1 rfl) rfl rfl rfl ?_
            refine ol_val (v := .int .u64 a0.stored) (by exact xr_load1 (v := .int .u64 a0.stored) rfl ag22 rfl (At.segs (ss := [Seg.cell (.int .u64 a0.lasts), Seg.cell (.int .u64 a0.stored), Seg.cell (.int .u64 a0.sent), Seg.cell (.bool a0.flushed)]) (At.gr A_0 fB) 1 1 rfl)) rfl rfl rfl ?_
            refine ol_val (v := .int .u64 a0.stored) (by exact xr_assign rfl rfl) rfl rfl rfl ?_
            refine ol_nil ?_
            refine cw_ret ?_
            repeat (first | with_reducible refine thn_r ?_ | with_reducible refine blk_r ?_)
            obtain rfl := Option.some.inj h
            have h := h9
            obtain rfl := Option.some.inj h
            refine fin_ret1 Try.results87 rfl ?_
            exact ⟨_, rfl, rfl, fB⟩
          · refine cw_condF e18 c19 ?_
            refine cw_skip ?_
            obtain rfl := Option.some.inj h
            refine thn_i ?_
            exact ⟨_, rfl, e0, fB⟩
    · rintro ρ20 w21 ⟨x10, rfl, e0, fB⟩
      have h := h9
      refine blk_i ?_
      refine cw_seq ?_
      refine cw_region ?_
      refine ol_val (v := .pointer (some ⟨G_0, p_0, none⟩)) (by exact xr_move rfl e0) rfl rfl rfl ?_
      refine ol_val (v := .pointer (some ⟨G_0, p_0, none⟩)) (by exact xr_nilCheck rfl rfl) rfl rfl rfl ?_
      refine ol_val (v := .pointer (some ⟨G_0, p_0 + 0, none⟩)) (by exact xr_fieldAddr (p := p_0) (q := 0) rfl fl142_0 rfl) rfl rfl rfl ?_
      refine ol_val (v := .int .u64 a0.lasts) (by exact xr_load1 (v := .int .u64 a0.lasts) rfl ag22 rfl (At.segs (ss := [Seg.cell (.int .u64 a0.lasts), Seg.cell (.int .u64 a0.stored), Seg.cell (.int .u64 a0.sent), Seg.cell (.bool a0.flushed)]) (At.gr A_0 fB) 0 1 rfl)) rfl rfl rfl ?_
      refine ol_val (v := .int .u64 a0.lasts) (by exact xr_assign rfl rfl) rfl rfl rfl ?_
      refine ol_nil ?_
      refine cw_ret ?_
      repeat (first | with_reducible refine thn_r ?_ | with_reducible refine blk_r ?_)
      obtain rfl := Option.some.inj h
      refine fin_ret1 Try.results87 rfl ?_
      exact ⟨_, rfl, rfl, fB⟩
end Go.Proofs.Ytklhbaghbmndeaa

/- (*rickyard/pmem.Device).Crash: its model, and that the Go function computes it: written by gen.py. -/
set_option linter.unusedVariables false
namespace Go.Proofs.Ytklhbaghbmndeaa
open Go Go.Xw
def pmem_Device_Crash.s0 (fu : Nat) (a0 : S_pmem_Device) : ((List Int) × Int × (List S_pmem_cell)) → Option (Sum (List S_pmem_cell) ((List Int) × Int × (List S_pmem_cell))) := fun s7 => (if (decide (s7.2.1 < (List.length a0.cells : Int))) = true then (if 0 ≤ s7.2.1 ∧ s7.2.1 < (List.length s7.2.2 : Int) then ((pmem_cell_open__r0.f fu (ix s7.2.2 s7.2.1) : Option Bool).bind fun t21 => (((if t21 = true then (((if (decide ((List.length s7.1 : Int) > 0)) = true then (if (0 : Int) < (List.length s7.1 : Int) then (if (1 : Int) ≤ (List.length s7.1 : Int) then some ((cut s7.1 1 (List.length s7.1 : Int)), (ix s7.1 0)) else none) else none) else some (s7.1, 0)) : Option ((List Int) × Int)).bind fun x34 => ((pmem_cell_fate__r0.f fu (ix s7.2.2 s7.2.1) x34.2 : Option Int).bind fun t52 => ((pmem_cell_keep__i0.f fu (ix s7.2.2 s7.2.1) t52 : Option S_pmem_cell).bind fun t62 => some (x34.1, (List.set s7.2.2 (Int.toNat s7.2.1) t62))))) else some (s7.1, s7.2.2)) : Option ((List Int) × (List S_pmem_cell))).bind fun x25 => (if s7.2.1 < (List.length x25.2 : Int) then (if s7.2.1 < (List.length x25.2 : Int) then some (Sum.inr (x25.1, (IntKind.i64.wrap (s7.2.1 + 1)), (List.set x25.2 (Int.toNat s7.2.1) (⟨(ix x25.2 s7.2.1).lasts, (ix x25.2 s7.2.1).lasts, (ix x25.2 s7.2.1).sent, (ix x25.2 s7.2.1).flushed⟩ : S_pmem_cell)))) else none) else none))) else none) else some (Sum.inl (s7.2.2)))
def pmem_Device_Crash.f (fu : Nat) (a0 : S_pmem_Device) (a1 : List Int) : Option S_pmem_Device := ((loopM (pmem_Device_Crash.s0 fu a0) fu (a1, 0, a0.cells)).bind fun e8 => some ((⟨e8, (⟨[], (0 : Int)⟩ : S_pmem_plan), false, false, 0, a0.steps⟩ : S_pmem_Device)))
set_option maxRecDepth 100000 in
set_option maxHeartbeats 400000 in
theorem pmem_Device_Crash.ok (fu : Nat) (w : World) (a0 : S_pmem_Device) (G_0 : Nat) (V0_0 : Value) (O0_0 : Own k_pmem_cell 142 w 0 V0_0 a0.cells) (V0_1 : Value) (O0_1 : Own (kI .i64) 3 w 0 V0_1 a0.plan.list) (b_0 : Blk w G_0 139 [Seg.cell V0_0 O0_0.one, Seg.cell V0_1 O0_1.one, Seg.cell (.int .i64 a0.plan.at_), Seg.cell (.bool a0.off), Seg.cell (.bool a0.armed), Seg.cell (.int .i64 a0.left), Seg.cell (.int .i64 a0.steps)]) (a1 : List Int) (V1_0 : Value) (R1_0 : Rd (kI .i64) w V1_0 a1) (NR1_0_P0 : OffR V1_0 a1 G_0) (NR1_0_R0_0 : OffRV V1_0 a1 V0_0) (NR1_0_R0_1 : OffRV V1_0 a1 V0_1) (r : S_pmem_Device) (h : pmem_Device_Crash.f fu a0 a1 = some r) :
    Calls Try.prog 32 (([.pointer (some ⟨G_0, 0, none⟩), V1_0] : List Value).toArray) w (fun e w' => ∃ v, e = .returned v ∧ ∃ u1 : Value, ∃ u4 : Value, ∃ o2 : Own k_pmem_cell 142 w' 0 u1 r.cells, ∃ m3 : ∀ g, Value.ownBlock u1 = some g → w.heap.size ≤ g ∨ (g = G_0 ∨ some g = Value.ownBlock V0_0 ∨ some g = Value.ownBlock V0_1), ∃ o5 : Own (kI .i64) 3 w' 0 u4 r.plan.list, ∃ m6 : ∀ g, Value.ownBlock u4 = some g → w.heap.size ≤ g ∨ (g = G_0 ∨ some g = Value.ownBlock V0_0 ∨ some g = Value.ownBlock V0_1), v = .tuple #[] ∧ Blk w' G_0 139 [Seg.cell u1 o2.one, Seg.cell u4 o5.one, Seg.cell (.int .i64 r.plan.at_), Seg.cell (.bool r.off), Seg.cell (.bool r.armed), Seg.cell (.int .i64 r.left), Seg.cell (.int .i64 r.steps)] ∧ Fr (fun j => j = G_0 ∨ some j = Value.ownBlock V0_0 ∨ some j = Value.ownBlock V0_1) w w') := by
  unfold pmem_Device_Crash.f at h
  have fB : Fr (fun j => j = G_0 ∨ some j = Value.ownBlock V0_0 ∨ some j = Value.ownBlock V0_1) w w := Fr.refl _ _
  have M0_0 : ∀ g, Value.ownBlock V0_0 = some g → w.heap.size ≤ g ∨ (g = G_0 ∨ some g = Value.ownBlock V0_0 ∨ some g = Value.ownBlock V0_1) := fun g hg => .inr (.inr (.inl hg.symm))
  have M0_1 : ∀ g, Value.ownBlock V0_1 = some g → w.heap.size ≤ g ∨ (g = G_0 ∨ some g = Value.ownBlock V0_0 ∨ some g = Value.ownBlock V0_1) := fun g hg => .inr (.inr (.inr hg.symm))
  refine calls_cw Try.func32 rfl Try.ntmps32 rfl ?_
  refine cw_seq ?_
  refine cw_seq ?_
  refine cw_region ?_
  refine ol_val (v := .pointer (some ⟨G_0, 0, none⟩)) (by exact xr_move rfl rfl) rfl rfl rfl ?_
  refine ol_val (v := .pointer (some ⟨G_0, 0, none⟩)) (by exact xr_nilCheck rfl rfl) rfl rfl rfl ?_
  refine ol_val (v := .pointer (some ⟨G_0, 0, none⟩)) (by exact xr_fieldAddr (p := 0) (q := 0) rfl fl139_0 rfl) rfl rfl rfl ?_
  refine ol_val (v := V0_0) (by exact xr_load1 (v := V0_0) rfl ag135 rfl (b_0.seg 0 rfl rfl)) rfl rfl rfl ?_
  refine ol_val (v := .int .i64 (List.length a0.cells : Int)) (by exact xr_lenR rfl Try.underlying135 rfl O0_0.rd) rfl rfl rfl ?_
  refine ol_val (v := .int .i64 0) (by exact xr_move rfl rfl) rfl rfl rfl ?_
  refine ol_nil ?_
  obtain ⟨e8, l9, h10⟩ := bs h
  refine cw_mid (fun ρ' w' => ∃ O0_0 : Own k_pmem_cell 142 w' 0 V0_0 e8, ∃ O0_1 : Own (kI .i64) 3 w' 0 V0_1 a0.plan.list, ρ' 0 = .pointer (some ⟨G_0, 0, none⟩) ∧ Blk w' G_0 139 [Seg.cell V0_0 O0_0.one, Seg.cell V0_1 O0_1.one, Seg.cell (.int .i64 a0.plan.at_), Seg.cell (.bool a0.off), Seg.cell (.bool a0.armed), Seg.cell (.int .i64 a0.left), Seg.cell (.int .i64 a0.steps)] ∧ Fr (fun j => j = G_0 ∨ some j = Value.ownBlock V0_0 ∨ some j = Value.ownBlock V0_1) w w') ?_ ?_
  · refine cw_block ?_
    refine cw_round (fun (s7 : (List Int) × Int × (List S_pmem_cell)) ρ' w' => ∃ v11 : Value, ∃ O0_0 : Own k_pmem_cell 142 w' 0 V0_0 s7.2.2, ∃ O0_1 : Own (kI .i64) 3 w' 0 V0_1 a0.plan.list, ∃ r12 : Rd (kI .i64) w' v11 s7.1, OffR v11 s7.1 G_0 ∧ OffRV v11 s7.1 V0_0 ∧ OffRV v11 s7.1 V0_1 ∧ ρ' 0 = .pointer (some ⟨G_0, 0, none⟩) ∧ ρ' 1 = v11 ∧ ρ' 11 = .int .i64 (List.length a0.cells : Int) ∧ ρ' 12 = .int .i64 s7.2.1 ∧ Blk w' G_0 139 [Seg.cell V0_0 O0_0.one, Seg.cell V0_1 O0_1.one, Seg.cell (.int .i64 a0.plan.at_), Seg.cell (.bool a0.off), Seg.cell (.bool a0.armed), Seg.cell (.int .i64 a0.left), Seg.cell (.int .i64 a0.steps)] ∧ Fr (fun j => j = G_0 ∨ some j = Value.ownBlock V0_0 ∨ some j = Value.ownBlock V0_1) w w') l9 ?_ ?_
    · skip
      exact ⟨V1_0, O0_0, O0_1, R1_0, NR1_0_P0, NR1_0_R0_0, NR1_0_R0_1, rfl, rfl, rfl, rfl, b_0, fB⟩
    · rintro s7 x18 ρ16 w17 ⟨v11, O0_0, O0_1, r12, a13, a14, a15, e0, e1, e11, e12, b_0, fB⟩ h
      unfold pmem_Device_Crash.s0 at h
      refine cw_seq ?_
      refine cw_region ?_
      refine ol_val (v := .bool (decide (s7.2.1 < (List.length a0.cells : Int)))) (by exact xr_lss rfl e12 e11) rfl rfl rfl ?_
      refine ol_nil ?_
      refine cw_seq ?_
      rcases is h with ⟨c19, h⟩ | ⟨c19, h⟩
      · refine cw_condT rfl c19 ?_
        refine cw_skip ?_
        refine cw_seq ?_
        refine cw_block ?_
        refine cw_seq ?_
        refine cw_region ?_
        refine ol_val (v := .int .i64 s7.2.1) (by exact xr_move rfl e12) rfl rfl rfl ?_
        refine ol_val (v := .int .i64 s7.2.1) (by exact xr_assign rfl rfl) rfl rfl rfl ?_
        refine ol_nil ?_
        refine cw_seq ?_
        refine cw_region ?_
        refine ol_val (v := .pointer (some ⟨G_0, 0, none⟩)) (by exact xr_move rfl e0) rfl rfl rfl ?_
        refine ol_val (v := .pointer (some ⟨G_0, 0, none⟩)) (by exact xr_nilCheck rfl rfl) rfl rfl rfl ?_
        refine ol_val (v := .pointer (some ⟨G_0, 0, none⟩)) (by exact xr_fieldAddr (p := 0) (q := 0) rfl fl139_0 rfl) rfl rfl rfl ?_
        refine ol_val (v := V0_0) (by exact xr_load1 (v := V0_0) rfl ag135 rfl (b_0.seg 0 rfl rfl)) rfl rfl rfl ?_
        refine ol_val (v := .int .i64 s7.2.1) (by exact xr_move rfl rfl) rfl rfl rfl ?_
        obtain ⟨g20, h⟩ := gs h
        refine ol_val (v := .pointer (some ⟨(sb V0_0), so V0_0 + Int.toNat s7.2.1 * 4, none⟩)) (by exact xr_indexR (K := k_pmem_cell) (v := V0_0) rfl Try.underlying135 sz142 rfl O0_0.rd rfl g20.1 g20.2) rfl rfl rfl ?_
        refine ol_val (v := .pointer (some ⟨(sb V0_0), so V0_0 + Int.toNat s7.2.1 * 4, none⟩)) (by exact xr_assign rfl rfl) rfl rfl rfl ?_
        refine ol_nil ?_
        refine cw_seq ?_
        refine cw_seq ?_
        refine cw_region ?_
        refine ol_val (v := .pointer (some ⟨(sb V0_0), so V0_0 + Int.toNat s7.2.1 * 4, none⟩)) (by exact xr_move rfl rfl) rfl rfl rfl ?_
        obtain ⟨t21, k22, h⟩ := bs h
        refine ol_op (by exact opv_call rfl cal86 (ac rfl an) (pmem_cell_open__r0.ok fu _ (ix s7.2.2 s7.2.1) (sb V0_0) (so V0_0 + Int.toNat s7.2.1 * 4) (show At _ _ _ (cellsOf [Seg.cell (.int .u64 ((ix s7.2.2 s7.2.1).lasts)), Seg.cell (.int .u64 ((ix s7.2.2 s7.2.1).stored)), Seg.cell (.int .u64 ((ix s7.2.2 s7.2.1).sent)), Seg.cell (.bool ((ix s7.2.2 s7.2.1).flushed))]) from (O0_0.rd.elem g20.1 g20.2)) _ k22)) rfl rfl rfl ?_
        rintro _ w24 ⟨rfl, q23⟩
        have b_0 := b_0.gr q23
        have O0_0 := O0_0.gr q23
        have O0_1 := O0_1.gr q23
        have r12 := r12.gr q23
        have fB := fB.gr q23
        refine ol_nil ?_
        obtain ⟨x25, j26, h27⟩ := bs h
        refine cw_mid (fun ρ' w' => ∃ v28 : Value, ∃ O0_0 : Own k_pmem_cell 142 w' 0 V0_0 x25.2, ∃ O0_1 : Own (kI .i64) 3 w' 0 V0_1 a0.plan.list, ∃ r29 : Rd (kI .i64) w' v28 x25.1, OffR v28 x25.1 G_0 ∧ OffRV v28 x25.1 V0_0 ∧ OffRV v28 x25.1 V0_1 ∧ ρ' 0 = .pointer (some ⟨G_0, 0, none⟩) ∧ ρ' 1 = v28 ∧ ρ' 5 = .pointer (some ⟨(sb V0_0), so V0_0 + Int.toNat s7.2.1 * 4, none⟩) ∧ ρ' 11 = .int .i64 (List.length a0.cells : Int) ∧ ρ' 12 = .int .i64 s7.2.1 ∧ Blk w' G_0 139 [Seg.cell V0_0 O0_0.one, Seg.cell V0_1 O0_1.one, Seg.cell (.int .i64 a0.plan.at_), Seg.cell (.bool a0.off), Seg.cell (.bool a0.armed), Seg.cell (.int .i64 a0.left), Seg.cell (.int .i64 a0.steps)] ∧ Fr (fun j => j = G_0 ∨ some j = Value.ownBlock V0_0 ∨ some j = Value.ownBlock V0_1) w w') ?_ ?_
        · have h := j26
          rcases is h with ⟨c33, h⟩ | ⟨c33, h⟩
          · refine cw_condT rfl c33 ?_
            refine cw_seq ?_
            refine cw_region ?_
            refine ol_val (v := .int .i64 0) (by exact xr_assign rfl rfl) rfl rfl rfl ?_
            refine ol_nil ?_
            refine cw_seq ?_
            refine cw_seq ?_
            refine cw_region ?_
            refine ol_val (v := v11) (by exact xr_move rfl e1) rfl rfl rfl ?_
            refine ol_val (v := .int .i64 (List.length s7.1 : Int)) (by exact xr_lenR rfl Try.underlying25 rfl r12) rfl rfl rfl ?_
            refine ol_val (v := .bool (decide ((List.length s7.1 : Int) > 0))) (by exact xr_gtr rfl rfl rfl) rfl rfl rfl ?_
            refine ol_nil ?_
            obtain ⟨x34, j35, h36⟩ := bs h
            refine cw_mid (fun ρ' w' => ∃ v37 : Value, ∃ O0_0 : Own k_pmem_cell 142 w' 0 V0_0 s7.2.2, ∃ O0_1 : Own (kI .i64) 3 w' 0 V0_1 a0.plan.list, ∃ r38 : Rd (kI .i64) w' v37 x34.1, OffR v37 x34.1 G_0 ∧ OffRV v37 x34.1 V0_0 ∧ OffRV v37 x34.1 V0_1 ∧ ρ' 0 = .pointer (some ⟨G_0, 0, none⟩) ∧ ρ' 1 = v37 ∧ ρ' 5 = .pointer (some ⟨(sb V0_0), so V0_0 + Int.toNat s7.2.1 * 4, none⟩) ∧ ρ' 6 = .int .i64 x34.2 ∧ ρ' 11 = .int .i64 (List.length a0.cells : Int) ∧ ρ' 12 = .int .i64 s7.2.1 ∧ Blk w' G_0 139 [Seg.cell V0_0 O0_0.one, Seg.cell V0_1 O0_1.one, Seg.cell (.int .i64 a0.plan.at_), Seg.cell (.bool a0.off), Seg.cell (.bool a0.armed), Seg.cell (.int .i64 a0.left), Seg.cell (.int .i64 a0.steps)] ∧ Fr (fun j => j = G_0 ∨ some j = Value.ownBlock V0_0 ∨ some j = Value.ownBlock V0_1) w w') ?_ ?_
            · have h := j35
              rcases is h with ⟨c42, h⟩ | ⟨c42, h⟩
              · refine cw_condT rfl c42 ?_
                obtain ⟨g43, h⟩ := gs h
                obtain ⟨g45, h⟩ := gs h
                refine cw_drawL 6 [fun vz wz => vz = (v11 : Value), fun vz wz => vz = (.pointer (some ⟨(sb v11), so v11 + Int.toNat 0 * 1, none⟩) : Value), fun vz wz => vz = (.int .i64 (ix s7.1 0) : Value), fun vz wz => vz = (v11 : Value), fun vz wz => ∃ r44 : Rd (kI .i64) wz (subv 1 v11 (Int.toNat 1) (List.length s7.1)) (cut s7.1 1 (List.length s7.1 : Int)), vz = (subv 1 v11 (Int.toNat 1) (List.length s7.1) : Value), fun vz wz => vz = (.int .i64 (ix s7.1 0) : Value)] mo rfl ⟨fun _ _ _ h _ => h, fun _ _ _ h _ => h, fun _ _ _ h _ => h, fun _ _ _ h _ => h, fun _ _ _ ⟨r44, h⟩ q => ⟨r44.gr q, h⟩, fun _ _ _ h _ => h, trivial⟩ ?_ ?_
                · refine ⟨?_, ?_, ?_, ?_, ?_, ?_, trivial⟩
                  · intro ρz wz hz hk hd
                    exact sk_val (v := v11) (by exact xr_move rfl ((hk 1 rfl).trans e1)) rfl rfl
                  · intro ρz wz hz hk hd
                    have d26 := hd 0 rfl 26 rfl
                    exact sk_val (v := .pointer (some ⟨(sb v11), so v11 + Int.toNat 0 * 1, none⟩)) (by exact xr_indexR (K := (kI .i64)) (v := v11) rfl Try.underlying25 sz3 d26 (r12.gr hz) rfl (by decide) g43) rfl rfl
                  · intro ρz wz hz hk hd
                    have d27 := hd 1 rfl 27 rfl
                    exact sk_val (v := .int .i64 (ix s7.1 0)) (by exact xr_load1 (v := .int .i64 (ix s7.1 0)) rfl ag3 d27 ((r12.gr hz).elem (by decide) g43)) rfl rfl
                  · intro ρz wz hz hk hd
                    exact sk_val (v := v11) (by exact xr_move rfl ((hk 1 rfl).trans e1)) rfl rfl
                  · intro ρz wz hz hk hd
                    have d29 := hd 3 rfl 29 rfl
                    exact sk_val (by exact xr_slice_l (K := (kI .i64)) (v := v11) rfl Try.underlying25 sz3 d29 (r12.gr hz) rfl (by decide) g45) rfl ⟨(r12.gr hz).cut (lo := 1) (hi := (List.length s7.1 : Int)) (by decide) g45 (Int.le_refl _), rfl⟩
                  · intro ρz wz hz hk hd
                    have d28 := hd 2 rfl 28 rfl
                    exact sk_val (v := .int .i64 (ix s7.1 0)) (by exact xr_assign rfl d28) rfl rfl
                · intro ρ46 w47 q48 hk hd
                  have e0 := (hk 0 rfl).trans e0
                  have e5 := (hk 5 rfl).trans rfl
                  have e6 := hd 5 rfl 6 rfl
                  have e11 := (hk 11 rfl).trans e11
                  have e12 := (hk 12 rfl).trans e12
                  obtain ⟨r49, e30⟩ := hd 4 rfl 30 rfl
                  have b_0 := b_0.gr q48
                  have O0_0 := O0_0.gr q48
                  have O0_1 := O0_1.gr q48
                  have fB := fB.gr q48
                  refine ol_val (v := subv 1 v11 (Int.toNat 1) (List.length s7.1)) (by exact xr_assign rfl e30) rfl rfl rfl ?_
                  refine ol_nil ?_
                  obtain rfl := Option.some.inj h
                  refine thn_i ?_
                  exact ⟨(subv 1 v11 (Int.toNat 1) (List.length s7.1)), O0_0, O0_1, r49, (OffR.cut a13), (OffRV.cut a14), (OffRV.cut a15), e0, rfl, e5, e6, e11, e12, b_0, fB⟩
              · refine cw_condF rfl c42 ?_
                refine cw_skip ?_
                obtain rfl := Option.some.inj h
                refine thn_i ?_
                exact ⟨v11, O0_0, O0_1, r12, a13, a14, a15, e0, e1, rfl, rfl, e11, e12, b_0, fB⟩
            · rintro ρ50 w51 ⟨v37, O0_0, O0_1, r38, a39, a40, a41, e0, e1, e5, e6, e11, e12, b_0, fB⟩
              have h := h36
              refine cw_region ?_
              refine ol_val (v := .pointer (some ⟨(sb V0_0), so V0_0 + Int.toNat s7.2.1 * 4, none⟩)) (by exact xr_move rfl e5) rfl rfl rfl ?_
              refine ol_val (v := .pointer (some ⟨(sb V0_0), so V0_0 + Int.toNat s7.2.1 * 4, none⟩)) (by exact xr_move rfl e5) rfl rfl rfl ?_
              refine ol_val (v := .int .i64 x34.2) (by exact xr_move rfl e6) rfl rfl rfl ?_
              obtain ⟨t52, k53, h⟩ := bs h
              refine ol_op (by exact opv_call rfl cal87 (ac rfl (ac rfl an)) (pmem_cell_fate__r0.ok fu _ (ix s7.2.2 s7.2.1) (sb V0_0) (so V0_0 + Int.toNat s7.2.1 * 4) (show At _ _ _ (cellsOf [Seg.cell (.int .u64 ((ix s7.2.2 s7.2.1).lasts)), Seg.cell (.int .u64 ((ix s7.2.2 s7.2.1).stored)), Seg.cell (.int .u64 ((ix s7.2.2 s7.2.1).sent)), Seg.cell (.bool ((ix s7.2.2 s7.2.1).flushed))]) from (O0_0.rd.elem g20.1 g20.2)) x34.2 _ k53)) rfl rfl rfl ?_
              rintro _ w55 ⟨rfl, q54⟩
              have b_0 := b_0.gr q54
              have O0_0 := O0_0.gr q54
              have O0_1 := O0_1.gr q54
              have r38 := r38.gr q54
              have fB := fB.gr q54
              obtain ⟨t62, k63, h⟩ := bs h
              have f66 := off_ty b_0 O0_0 (by decide)
              have f67 := OffV.ty O0_1 O0_0 (by decide)
              obtain ⟨X56, Y57, h58, h59, b60, k61⟩ := Own.sub (K := k_pmem_cell) (i := s7.2.1) (ss := [Seg.cell (.int .u64 ((ix s7.2.2 s7.2.1).lasts)), Seg.cell (.int .u64 ((ix s7.2.2 s7.2.1).stored)), Seg.cell (.int .u64 ((ix s7.2.2 s7.2.1).sent)), Seg.cell (.bool ((ix s7.2.2 s7.2.1).flushed))]) O0_0 g20.1 g20.2 rfl
              refine ol_op (by exact opv_call rfl cal85 (ac (ptrE (q := List.length X56) rfl h58) (ac rfl an)) (pmem_cell_keep__i0.ok fu _ (ix s7.2.2 s7.2.1) (sb V0_0) 142 X56 Y57 b60 t52 _ k63)) rfl rfl rfl ?_
              rintro _ w69 ⟨rfl, b65, q64⟩
              have O0_0 := k61 _ t62 [Seg.cell (.int .u64 t62.lasts), Seg.cell (.int .u64 t62.stored), Seg.cell (.int .u64 t62.sent), Seg.cell (.bool t62.flushed)] rfl b65
              have q64 := fr_own q64 h59
              have b_0 := b_0.wrO q64 f66
              have O0_1 := O0_1.wrV q64 f67
              have fB := fB.wrM q64 M0_0
              have r38 := r38.wrV q64 a40
              refine ol_nil ?_
              obtain rfl := Option.some.inj h
              refine thn_i ?_
              exact ⟨v37, O0_0, O0_1, r38, a39, a40, a41, e0, e1, e5, e11, e12, b_0, fB⟩
          · refine cw_condF rfl c33 ?_
            refine cw_skip ?_
            obtain rfl := Option.some.inj h
            refine thn_i ?_
            exact ⟨v11, O0_0, O0_1, r12, a13, a14, a15, e0, e1, rfl, e11, e12, b_0, fB⟩
        · rintro ρ70 w71 ⟨v28, O0_0, O0_1, r29, a30, a31, a32, e0, e1, e5, e11, e12, b_0, fB⟩
          have h := h27
          refine cw_region ?_
          refine ol_val (v := .pointer (some ⟨(sb V0_0), so V0_0 + Int.toNat s7.2.1 * 4, none⟩)) (by exact xr_move rfl e5) rfl rfl rfl ?_
          refine ol_val (v := .pointer (some ⟨(sb V0_0), so V0_0 + Int.toNat s7.2.1 * 4, none⟩)) (by exact xr_move rfl e5) rfl rfl rfl ?_
          refine ol_val (v := .pointer (some ⟨(sb V0_0), so V0_0 + Int.toNat s7.2.1 * 4, none⟩)) (by exact xr_nilCheck rfl rfl) rfl rfl rfl ?_
          refine ol_val (v := .pointer (some ⟨(sb V0_0), so V0_0 + Int.toNat s7.2.1 * 4 + 0, none⟩)) (by exact xr_fieldAddr (p := so V0_0 + Int.toNat s7.2.1 * 4) (q := 0) rfl fl142_0 rfl) rfl rfl rfl ?_
          obtain ⟨g72, h⟩ := gs h
          refine ol_val (v := .int .u64 ((ix x25.2 s7.2.1).lasts)) (by exact xr_load1 (v := .int .u64 ((ix x25.2 s7.2.1).lasts)) rfl ag22 rfl (At.segs (ss := segs_pmem_cell (ix x25.2 s7.2.1)) (O0_0.rd.elem g20.1 g72) 0 1 rfl)) rfl rfl rfl ?_
          refine ol_val (v := .pointer (some ⟨(sb V0_0), so V0_0 + Int.toNat s7.2.1 * 4, none⟩)) (by exact xr_nilCheck rfl rfl) rfl rfl rfl ?_
          refine ol_val (v := .pointer (some ⟨(sb V0_0), so V0_0 + Int.toNat s7.2.1 * 4 + 1, none⟩)) (by exact xr_fieldAddr (p := so V0_0 + Int.toNat s7.2.1 * 4) (q := 1) rfl fl142_1 rfl) rfl rfl rfl ?_
          obtain ⟨g74, h⟩ := gs h
          have f75 := off_ty b_0 O0_0 (by decide)
          have f76 := OffV.ty O0_1 O0_0 (by decide)
          refine ol_op0 (by exact opv_storeRow (z := (⟨(ix x25.2 s7.2.1).lasts, (ix x25.2 s7.2.1).lasts, (ix x25.2 s7.2.1).sent, (ix x25.2 s7.2.1).flushed⟩ : S_pmem_cell)) (xs := cellsOf [Seg.cell (.int .u64 ((ix x25.2 s7.2.1).lasts))]) rfl sz22 rfl rfl rfl (len_cellsOf _) (one_cellsOf _) O0_0 g20.1 g74 (Spl.segs (segs_pmem_cell (ix x25.2 s7.2.1)) 1 1 [Seg.cell (.int .u64 ((ix x25.2 s7.2.1).lasts))] rfl rfl) rfl) rfl rfl ?_
          rintro _ w78 ⟨O0_0, q73⟩
          have b_0 := b_0.wrO q73 f75
          have O0_1 := O0_1.wrV q73 f76
          have fB := fB.wrM q73 M0_0
          have r29 := r29.wrV q73 a31
          refine ol_nil ?_
          refine blk_i ?_
          refine cw_region ?_
          refine ol_val (v := .int .i64 (IntKind.i64.wrap (s7.2.1 + 1))) (by exact xr_add rfl e12 rfl) rfl rfl rfl ?_
          refine ol_val (v := .int .i64 (IntKind.i64.wrap (s7.2.1 + 1))) (by exact xr_move rfl rfl) rfl rfl rfl ?_
          refine ol_nil ?_
          obtain rfl := Option.some.inj h
          refine lp_in ?_
          exact ⟨v28, O0_0, O0_1, r29, a30, a31, a32, e0, e1, e11, rfl, b_0, fB⟩
      · refine cw_condF rfl c19 ?_
        refine cw_exit ?_
        repeat (first | with_reducible refine thn_e ?_ | with_reducible refine blk_e rfl ?_)
        obtain rfl := Option.some.inj h
        refine lp_exit ?_
        rintro rfl
        refine thn_x ?_
        exact ⟨O0_0, O0_1, e0, b_0, fB⟩
  · rintro ρ79 w80 ⟨O0_0, O0_1, e0, b_0, fB⟩
    have h := h10
    refine cw_seq ?_
    refine cw_region ?_
    refine ol_val (v := .pointer (some ⟨G_0, 0, none⟩)) (by exact xr_move rfl e0) rfl rfl rfl ?_
    refine ol_val (v := aggV [Seg.cell (.slice none 0 0) (by rfl), Seg.cell (.int .i64 (0 : Int))]) (by exact xr_build (vals := []) rfl trivial (bl137_ _)) rfl rfl rfl ?_
    refine ol_val (v := .pointer (some ⟨G_0, 0, none⟩)) (by exact xr_nilCheck rfl rfl) rfl rfl rfl ?_
    refine ol_val (v := .pointer (some ⟨G_0, 1, none⟩)) (by exact xr_fieldAddr (p := 0) (q := 1) rfl fl139_1 rfl) rfl rfl rfl ?_
    have f82 := off_ty b_0 O0_0 (by decide)
    refine ol_op0 (by exact opv_store (ss' := [Seg.cell V0_0 O0_0.one, Seg.cell (.slice none 0 0) (by rfl), Seg.cell (.int .i64 (0 : Int)), Seg.cell (.bool a0.off), Seg.cell (.bool a0.armed), Seg.cell (.int .i64 a0.left), Seg.cell (.int .i64 a0.steps)]) (xs := cellsOf [Seg.cell (.slice none 0 0) (by rfl), Seg.cell (.int .i64 (0 : Int))]) rfl sz137 rfl rfl rfl (len_cellsOf _) (one_cellsOf _) b_0 (Spl.segs _ 1 2 [Seg.cell (.slice none 0 0) (by rfl), Seg.cell (.int .i64 (0 : Int))] rfl rfl)) rfl rfl ?_
    rintro _ w83 ⟨b_0, q81⟩
    have O0_0 := O0_0.wr q81 f82
    have fB := fB.wrS q81 (.inl rfl)
    refine ol_nil ?_
    refine cw_region ?_
    refine ol_val (v := .pointer (some ⟨G_0, 0, none⟩)) (by exact xr_move rfl e0) rfl rfl rfl ?_
    refine ol_val (v := .pointer (some ⟨G_0, 0, none⟩)) (by exact xr_move rfl e0) rfl rfl rfl ?_
    refine ol_val (v := .pointer (some ⟨G_0, 0, none⟩)) (by exact xr_move rfl e0) rfl rfl rfl ?_
    refine ol_val (v := .pointer (some ⟨G_0, 0, none⟩)) (by exact xr_nilCheck rfl rfl) rfl rfl rfl ?_
    refine ol_val (v := .pointer (some ⟨G_0, 3, none⟩)) (by exact xr_fieldAddr (p := 0) (q := 3) rfl fl139_2 rfl) rfl rfl rfl ?_
    have f85 := off_ty b_0 O0_0 (by decide)
    refine ol_op0 (by exact opv_store (ss' := [Seg.cell V0_0 O0_0.one, Seg.cell (.slice none 0 0) (by rfl), Seg.cell (.int .i64 (0 : Int)), Seg.cell (.bool false), Seg.cell (.bool a0.armed), Seg.cell (.int .i64 a0.left), Seg.cell (.int .i64 a0.steps)]) (xs := cellsOf [Seg.cell (.bool false)]) rfl sz4 rfl rfl rfl (len_cellsOf _) (one_cellsOf _) b_0 (Spl.segs _ 3 1 [Seg.cell (.bool false)] rfl rfl)) rfl rfl ?_
    rintro _ w86 ⟨b_0, q84⟩
    have O0_0 := O0_0.wr q84 f85
    have fB := fB.wrS q84 (.inl rfl)
    refine ol_val (v := .pointer (some ⟨G_0, 0, none⟩)) (by exact xr_nilCheck rfl rfl) rfl rfl rfl ?_
    refine ol_val (v := .pointer (some ⟨G_0, 4, none⟩)) (by exact xr_fieldAddr (p := 0) (q := 4) rfl fl139_3 rfl) rfl rfl rfl ?_
    have f88 := off_ty b_0 O0_0 (by decide)
    refine ol_op0 (by exact opv_store (ss' := [Seg.cell V0_0 O0_0.one, Seg.cell (.slice none 0 0) (by rfl), Seg.cell (.int .i64 (0 : Int)), Seg.cell (.bool false), Seg.cell (.bool false), Seg.cell (.int .i64 a0.left), Seg.cell (.int .i64 a0.steps)]) (xs := cellsOf [Seg.cell (.bool false)]) rfl sz4 rfl rfl rfl (len_cellsOf _) (one_cellsOf _) b_0 (Spl.segs _ 4 1 [Seg.cell (.bool false)] rfl rfl)) rfl rfl ?_
    rintro _ w89 ⟨b_0, q87⟩
    have O0_0 := O0_0.wr q87 f88
    have fB := fB.wrS q87 (.inl rfl)
    refine ol_val (v := .pointer (some ⟨G_0, 0, none⟩)) (by exact xr_nilCheck rfl rfl) rfl rfl rfl ?_
    refine ol_val (v := .pointer (some ⟨G_0, 5, none⟩)) (by exact xr_fieldAddr (p := 0) (q := 5) rfl fl139_4 rfl) rfl rfl rfl ?_
    have f91 := off_ty b_0 O0_0 (by decide)
    refine ol_op0 (by exact opv_store (ss' := [Seg.cell V0_0 O0_0.one, Seg.cell (.slice none 0 0) (by rfl), Seg.cell (.int .i64 (0 : Int)), Seg.cell (.bool false), Seg.cell (.bool false), Seg.cell (.int .i64 0), Seg.cell (.int .i64 a0.steps)]) (xs := cellsOf [Seg.cell (.int .i64 0)]) rfl sz3 rfl rfl rfl (len_cellsOf _) (one_cellsOf _) b_0 (Spl.segs _ 5 1 [Seg.cell (.int .i64 0)] rfl rfl)) rfl rfl ?_
    rintro _ w92 ⟨b_0, q90⟩
    have O0_0 := O0_0.wr q90 f91
    have fB := fB.wrS q90 (.inl rfl)
    refine ol_nil ?_
    obtain rfl := Option.some.inj h
    refine fin_end0 Try.results32 ?_
    exact ⟨_, rfl, V0_0, (.slice none 0 0), O0_0, M0_0, Own.nil _ _ _ _, ms_nil, rfl, b_0, fB⟩
end Go.Proofs.Ytklhbaghbmndeaa

/- rickyard/octet.Read: its model, and that the Go function computes it: written by gen.py. -/
set_option linter.unusedVariables false
namespace Go.Proofs.Ytklhbaghbmndeaa
open Go Go.Xw
def octet_Read.s0 (fu : Nat) (a0 : List Int) : (Int × Int) → Option (Sum Int (Int × Int)) := fun s3 => (if (decide (s3.2 < (List.length (cut a0 0 (mnI (List.length a0 : Int) 8)) : Int))) = true then (if 0 ≤ s3.2 ∧ s3.2 < (List.length (cut a0 0 (mnI (List.length a0 : Int) 8)) : Int) then (if 0 ≤ (IntKind.i64.wrap (8 * s3.2)) then some (Sum.inr ((bOr .u64 s3.1 (shL .u64 (IntKind.u64.wrap (ix (cut a0 0 (mnI (List.length a0 : Int) 8)) s3.2)) (IntKind.i64.wrap (8 * s3.2)))), (IntKind.i64.wrap (s3.2 + 1)))) else none) else none) else some (Sum.inl (s3.1)))
def octet_Read.f (fu : Nat) (a0 : List Int) : Option Int := (if 0 ≤ (mnI (List.length a0 : Int) 8) ∧ (mnI (List.length a0 : Int) 8) ≤ (List.length a0 : Int) then ((loopM (octet_Read.s0 fu a0) fu (0, 0)).bind fun e4 => some (e4)) else none)
set_option maxRecDepth 100000 in
set_option maxHeartbeats 400000 in
theorem octet_Read.ok (fu : Nat) (w : World) (a0 : List Int) (V0_0 : Value) (R0_0 : Rd (kI .u8) w V0_0 a0) (r : Int) (h : octet_Read.f fu a0 = some r) :
    Calls Try.prog 109 (([V0_0] : List Value).toArray) w (fun e w' => ∃ v, e = .returned v ∧ v = .int .u64 r ∧ Gr w w') := by
  unfold octet_Read.f at h
  have fB : Gr w w := Fr.refl _ _
  refine calls_cw Try.func109 rfl Try.ntmps109 rfl ?_
  refine cw_seq ?_
  refine cw_region ?_
  refine ol_val (v := .int .u64 0) (by exact xr_assign rfl rfl) rfl rfl rfl ?_
  refine ol_nil ?_
  refine cw_seq ?_
  refine cw_region ?_
  refine ol_val (v := .int .u64 0) (by exact xr_assign rfl rfl) rfl rfl rfl ?_
  refine ol_nil ?_
  refine cw_seq ?_
  refine cw_seq ?_
  refine cw_region ?_
  refine ol_val (v := V0_0) (by exact xr_move rfl rfl) rfl rfl rfl ?_
  refine ol_val (v := V0_0) (by exact xr_move rfl rfl) rfl rfl rfl ?_
  refine ol_val (v := .int .i64 (List.length a0 : Int)) (by exact xr_lenR rfl Try.underlying43 rfl (R0_0.gr fB)) rfl rfl rfl ?_
  refine ol_val (v := .int .i64 (mnI (List.length a0 : Int) 8)) (by exact xr_min2 rfl rfl rfl) rfl rfl rfl ?_
  obtain ⟨g2, h⟩ := gs h
  refine ol_val (v := subv 1 V0_0 0 (Int.toNat (mnI (List.length a0 : Int) 8))) (by exact xr_slice_h (K := (kI .u8)) (v := V0_0) rfl Try.underlying43 sz5 rfl (R0_0.gr fB) rfl g2.1 g2.2) rfl rfl rfl ?_
  have r1 : Rd (kI .u8) w (subv 1 V0_0 0 (Int.toNat (mnI (List.length a0 : Int) 8))) (cut a0 0 (mnI (List.length a0 : Int) 8)) := (R0_0.gr fB).cut (lo := 0) (hi := (mnI (List.length a0 : Int) 8)) (by decide) g2.1 g2.2
  refine ol_val (v := .int .i64 (List.length (cut a0 0 (mnI (List.length a0 : Int) 8)) : Int)) (by exact xr_lenR rfl Try.underlying43 rfl r1) rfl rfl rfl ?_
  refine ol_val (v := .int .i64 0) (by exact xr_move rfl rfl) rfl rfl rfl ?_
  refine ol_nil ?_
  obtain ⟨e4, l5, h6⟩ := bs h
  refine cw_mid (fun ρ' w' => ρ' 3 = .int .u64 e4 ∧ Gr w w') ?_ ?_
  · refine cw_block ?_
    refine cw_round (fun (s3 : Int × Int) ρ' w' => ∃ r1 : Rd (kI .u8) w' (subv 1 V0_0 0 (Int.toNat (mnI (List.length a0 : Int) 8))) (cut a0 0 (mnI (List.length a0 : Int) 8)), ρ' 3 = .int .u64 s3.1 ∧ ρ' 10 = subv 1 V0_0 0 (Int.toNat (mnI (List.length a0 : Int) 8)) ∧ ρ' 11 = .int .i64 (List.length (cut a0 0 (mnI (List.length a0 : Int) 8)) : Int) ∧ ρ' 12 = .int .i64 s3.2 ∧ Gr w w') l5 ?_ ?_
    · skip
      exact ⟨r1, rfl, rfl, rfl, rfl, fB⟩
    · rintro s3 x9 ρ7 w8 ⟨r1, e3, e10, e11, e12, fB⟩ h
      unfold octet_Read.s0 at h
      refine cw_seq ?_
      refine cw_region ?_
      refine ol_val (v := .bool (decide (s3.2 < (List.length (cut a0 0 (mnI (List.length a0 : Int) 8)) : Int)))) (by exact xr_lss rfl e12 e11) rfl rfl rfl ?_
      refine ol_nil ?_
      refine cw_seq ?_
      rcases is h with ⟨c10, h⟩ | ⟨c10, h⟩
      · refine cw_condT rfl c10 ?_
        refine cw_skip ?_
        refine cw_seq ?_
        refine cw_block ?_
        refine cw_seq ?_
        refine cw_region ?_
        refine ol_val (v := .int .i64 s3.2) (by exact xr_move rfl e12) rfl rfl rfl ?_
        obtain ⟨g11, h⟩ := gs h
        refine ol_val (v := .pointer (some ⟨(sb (subv 1 V0_0 0 (Int.toNat (mnI (List.length a0 : Int) 8)))), so (subv 1 V0_0 0 (Int.toNat (mnI (List.length a0 : Int) 8))) + Int.toNat s3.2 * 1, none⟩)) (by exact xr_indexR (K := (kI .u8)) (v := subv 1 V0_0 0 (Int.toNat (mnI (List.length a0 : Int) 8))) rfl Try.underlying43 sz5 e10 r1 e12 g11.1 g11.2) rfl rfl rfl ?_
        refine ol_val (v := .int .u8 (ix (cut a0 0 (mnI (List.length a0 : Int) 8)) s3.2)) (by exact xr_load1 (v := .int .u8 (ix (cut a0 0 (mnI (List.length a0 : Int) 8)) s3.2)) rfl ag5 rfl (r1.elem g11.1 g11.2)) rfl rfl rfl ?_
        refine ol_val (v := .int .i64 s3.2) (by exact xr_assign rfl rfl) rfl rfl rfl ?_
        refine ol_val (v := .int .u8 (ix (cut a0 0 (mnI (List.length a0 : Int) 8)) s3.2)) (by exact xr_assign rfl rfl) rfl rfl rfl ?_
        refine ol_nil ?_
        refine cw_region ?_
        refine ol_val (v := .int .u64 s3.1) (by exact xr_move rfl e3) rfl rfl rfl ?_
        refine ol_val (v := .int .u8 (ix (cut a0 0 (mnI (List.length a0 : Int) 8)) s3.2)) (by exact xr_move rfl rfl) rfl rfl rfl ?_
        refine ol_val (v := .int .u64 (IntKind.u64.wrap (ix (cut a0 0 (mnI (List.length a0 : Int) 8)) s3.2))) (by exact xr_conv rfl Try.underlying5 Try.underlying22 rfl) rfl rfl rfl ?_
        refine ol_val (v := .int .i64 s3.2) (by exact xr_move rfl rfl) rfl rfl rfl ?_
        refine ol_val (v := .int .i64 (IntKind.i64.wrap (8 * s3.2))) (by exact xr_mul rfl rfl rfl) rfl rfl rfl ?_
        obtain ⟨g12, h⟩ := gs h
        refine ol_val (v := .int .u64 (shL .u64 (IntKind.u64.wrap (ix (cut a0 0 (mnI (List.length a0 : Int) 8)) s3.2)) (IntKind.i64.wrap (8 * s3.2)))) (by exact xr_shl rfl rfl rfl g12) rfl rfl rfl ?_
        refine ol_val (v := .int .u64 (bOr .u64 s3.1 (shL .u64 (IntKind.u64.wrap (ix (cut a0 0 (mnI (List.length a0 : Int) 8)) s3.2)) (IntKind.i64.wrap (8 * s3.2))))) (by exact xr_or rfl rfl rfl) rfl rfl rfl ?_
        refine ol_val (v := .int .u64 (bOr .u64 s3.1 (shL .u64 (IntKind.u64.wrap (ix (cut a0 0 (mnI (List.length a0 : Int) 8)) s3.2)) (IntKind.i64.wrap (8 * s3.2))))) (by exact xr_assign rfl rfl) rfl rfl rfl ?_
        refine ol_nil ?_
        refine blk_i ?_
        refine cw_region ?_
        refine ol_val (v := .int .i64 (IntKind.i64.wrap (s3.2 + 1))) (by exact xr_add rfl e12 rfl) rfl rfl rfl ?_
        refine ol_val (v := .int .i64 (IntKind.i64.wrap (s3.2 + 1))) (by exact xr_move rfl rfl) rfl rfl rfl ?_
        refine ol_nil ?_
        obtain rfl := Option.some.inj h
        refine lp_in ?_
        exact ⟨r1, rfl, e10, e11, rfl, fB⟩
      · refine cw_condF rfl c10 ?_
        refine cw_exit ?_
        repeat (first | with_reducible refine thn_e ?_ | with_reducible refine blk_e rfl ?_)
        obtain rfl := Option.some.inj h
        refine lp_exit ?_
        rintro rfl
        refine thn_x ?_
        exact ⟨e3, fB⟩
  · rintro ρ13 w14 ⟨e3, fB⟩
    have h := h6
    refine cw_seq ?_
    refine cw_region ?_
    refine ol_val (v := .int .u64 e4) (by exact xr_move rfl e3) rfl rfl rfl ?_
    refine ol_val (v := .int .u64 e4) (by exact xr_assign rfl rfl) rfl rfl rfl ?_
    refine ol_nil ?_
    refine cw_ret ?_
    repeat (first | with_reducible refine thn_r ?_ | with_reducible refine blk_r ?_)
    obtain rfl := Option.some.inj h
    refine fin_ret1 Try.results109 rfl ?_
    exact ⟨_, rfl, rfl, fB⟩
end Go.Proofs.Ytklhbaghbmndeaa

/- rickyard/octet.Words: its model, and that the Go function computes it: written by gen.py. -/
set_option linter.unusedVariables false
namespace Go.Proofs.Ytklhbaghbmndeaa
open Go Go.Xw
def octet_Words.s0 (fu : Nat) : ((List Int) × (List Int)) → Option (Sum (List Int) ((List Int) × (List Int))) := fun s4 => (if (decide ((List.length s4.1 : Int) ≥ 8)) = true then ((octet_Read.f fu s4.1 : Option Int).bind fun t21 => (if List.length s4.2 + List.length [t21] ≤ LIM then (if (8 : Int) ≤ (List.length s4.1 : Int) then some (Sum.inr ((cut s4.1 8 (List.length s4.1 : Int)), (s4.2 ++ [t21]))) else none) else none)) else some (Sum.inl (s4.2)))
def octet_Words.f (fu : Nat) (a0 : List Int) : Option (List Int) := ((loopM (octet_Words.s0 fu) fu (a0, [])).bind fun e5 => some (e5))
set_option maxRecDepth 100000 in
set_option maxHeartbeats 400000 in
theorem octet_Words.ok (fu : Nat) (w : World) (a0 : List Int) (V0_0 : Value) (R0_0 : Rd (kI .u8) w V0_0 a0) (r : (List Int)) (h : octet_Words.f fu a0 = some r) :
    Calls Try.prog 99 (([V0_0] : List Value).toArray) w (fun e w' => ∃ v, e = .returned v ∧ ∃ u1 : Value, ∃ o2 : Own (kI .u64) 22 w' w.heap.size u1 r, v = u1 ∧ Gr w w') := by
  unfold octet_Words.f at h
  have fB : Gr w w := Fr.refl _ _
  refine calls_cw Try.func99 rfl Try.ntmps99 rfl ?_
  refine cw_seq ?_
  refine cw_region ?_
  refine ol_val (v := .slice none 0 0) (by exact xr_assign rfl rfl) rfl rfl rfl ?_
  refine ol_nil ?_
  refine cw_seq ?_
  refine cw_region ?_
  refine ol_val (v := .slice none 0 0) (by exact xr_assign rfl rfl) rfl rfl rfl ?_
  refine ol_nil ?_
  refine cw_seq ?_
  obtain ⟨e5, l6, h7⟩ := bs h
  refine cw_mid (fun ρ' w' => ∃ v8 : Value, ∃ o9 : Own (kI .u64) 22 w' w.heap.size v8 e5, ρ' 3 = v8 ∧ Gr w w') ?_ ?_
  · refine cw_block ?_
    refine cw_round (fun (s4 : (List Int) × (List Int)) ρ' w' => ∃ v11 : Value, ∃ v13 : Value, ∃ o14 : Own (kI .u64) 22 w' w.heap.size v13 s4.2, ∃ r12 : Rd (kI .u8) w' v11 s4.1, OffRV v11 s4.1 v13 ∧ ρ' 0 = v11 ∧ ρ' 3 = v13 ∧ Gr w w') l6 ?_ ?_
    · skip
      exact ⟨V0_0, (.slice none 0 0), Own.nil _ _ _ _, (R0_0.gr fB), (OffRV.nil _ _), rfl, rfl, fB⟩
    · rintro s4 x19 ρ17 w18 ⟨v11, v13, o14, r12, a16, e0, e3, fB⟩ h
      unfold octet_Words.s0 at h
      refine cw_seq ?_
      refine cw_seq ?_
      refine cw_region ?_
      refine ol_val (v := v11) (by exact xr_move rfl e0) rfl rfl rfl ?_
      refine ol_val (v := .int .i64 (List.length s4.1 : Int)) (by exact xr_lenR rfl Try.underlying43 rfl r12) rfl rfl rfl ?_
      refine ol_val (v := .bool (decide ((List.length s4.1 : Int) ≥ 8))) (by exact xr_geq rfl rfl rfl) rfl rfl rfl ?_
      refine ol_nil ?_
      rcases is h with ⟨c20, h⟩ | ⟨c20, h⟩
      · refine cw_condT rfl c20 ?_
        refine cw_skip ?_
        refine cw_block ?_
        refine cw_seq ?_
        refine cw_region ?_
        refine ol_val (v := v13) (by exact xr_move rfl e3) rfl rfl rfl ?_
        refine ol_val (v := v11) (by exact xr_move rfl e0) rfl rfl rfl ?_
        obtain ⟨t21, k22, h⟩ := bs h
        refine ol_op (by exact opv_call rfl cal109 (ac rfl an) (octet_Read.ok fu _ s4.1 v11 (r12) _ k22)) rfl rfl rfl ?_
        rintro _ w24 ⟨rfl, q23⟩
        have o14 := o14.gr q23
        have r12 := r12.gr q23
        have fB := fB.gr q23
        refine ol_op (by exact opv_buildSlice (K := (kI .u64)) (xs := [t21]) (vals := [.int .u64 t21]) rfl Try.underlying46 el22 rfl rfl ⟨rfl, rfl, trivial⟩ rfl rfl rfl fB.size) rfl rfl rfl ?_
        rintro v25 w30 ⟨o27, q26, z28⟩
        have a31 := OffV.new o14 z28
        have a32 := OffRV.new r12 z28 rfl
        have o14 := o14.gr q26
        have r12 := r12.gr q26
        have fB := fB.gr q26
        obtain ⟨g37, h⟩ := gs h
        have f39 := o14.geO
        refine ol_op (by exact opv_append (K := (kI .u64)) rfl Try.underlying46 el22 rfl rfl rfl rfl rfl o14 o27.rd g37 fB.size) rfl rfl rfl ?_
        rintro v33 w40 ⟨o34, q35, n36⟩
        have a41 := OffRV.app r12 a16 n36 rfl
        have fB := fB.wrO q35 f39
        have r12 := r12.wrV q35 a16
        refine ol_val (v := v33) (by exact xr_assign rfl rfl) rfl rfl rfl ?_
        refine ol_nil ?_
        refine cw_region ?_
        refine ol_val (v := v11) (by exact xr_move rfl e0) rfl rfl rfl ?_
        obtain ⟨g43, h⟩ := gs h
        refine ol_val (v := subv 1 v11 (Int.toNat 8) (List.length s4.1)) (by exact xr_slice_l (K := (kI .u8)) (v := v11) rfl Try.underlying43 sz5 rfl r12 rfl (by decide) g43) rfl rfl rfl ?_
        have r42 : Rd (kI .u8) w40 (subv 1 v11 (Int.toNat 8) (List.length s4.1)) (cut s4.1 8 (List.length s4.1 : Int)) := r12.cut (lo := 8) (hi := (List.length s4.1 : Int)) (by decide) g43 (Int.le_refl _)
        refine ol_val (v := subv 1 v11 (Int.toNat 8) (List.length s4.1)) (by exact xr_assign rfl rfl) rfl rfl rfl ?_
        refine ol_nil ?_
        refine blk_i ?_
        obtain rfl := Option.some.inj h
        refine lp_in ?_
        exact ⟨(subv 1 v11 (Int.toNat 8) (List.length s4.1)), v33, o34, r42, (OffRV.cut a41), rfl, rfl, fB⟩
      · refine cw_condF rfl c20 ?_
        refine cw_exit ?_
        repeat (first | with_reducible refine thn_e ?_ | with_reducible refine blk_e rfl ?_)
        obtain rfl := Option.some.inj h
        refine lp_exit ?_
        rintro rfl
        refine thn_x ?_
        exact ⟨v13, o14, e3, fB⟩
  · rintro ρ44 w45 ⟨v8, o9, e3, fB⟩
    have h := h7
    refine cw_seq ?_
    refine cw_region ?_
    refine ol_val (v := v8) (by exact xr_move rfl e3) rfl rfl rfl ?_
    refine ol_val (v := v8) (by exact xr_assign rfl rfl) rfl rfl rfl ?_
    refine ol_nil ?_
    refine cw_ret ?_
    repeat (first | with_reducible refine thn_r ?_ | with_reducible refine blk_r ?_)
    obtain rfl := Option.some.inj h
    refine fin_ret1 Try.results99 rfl ?_
    exact ⟨_, rfl, v8, o9, rfl, fB⟩
end Go.Proofs.Ytklhbaghbmndeaa

/- (*rickyard/pmem.Device).Lines: its model, and that the Go function computes it: written by gen.py. -/
set_option linter.unusedVariables false
namespace Go.Proofs.Ytklhbaghbmndeaa
open Go Go.Xw
def pmem_Device_Lines.f (fu : Nat) (a0 : S_pmem_Device) : Option Int := some ((IntKind.i64.wrap (Int.tdiv (List.length a0.cells : Int) 8)))
set_option maxRecDepth 100000 in
set_option maxHeartbeats 400000 in
theorem pmem_Device_Lines.ok (fu : Nat) (w : World) (a0 : S_pmem_Device) (G_0 : Nat) (V0_0 : Value) (R0_0 : Rd k_pmem_cell w V0_0 a0.cells) (V0_1 : Value) (R0_1 : Rd (kI .i64) w V0_1 a0.plan.list) (b_0 : Blk w G_0 139 [Seg.cell V0_0 R0_0.one, Seg.cell V0_1 R0_1.one, Seg.cell (.int .i64 a0.plan.at_), Seg.cell (.bool a0.off), Seg.cell (.bool a0.armed), Seg.cell (.int .i64 a0.left), Seg.cell (.int .i64 a0.steps)]) (r : Int) (h : pmem_Device_Lines.f fu a0 = some r) :
    Calls Try.prog 43 (([.pointer (some ⟨G_0, 0, none⟩)] : List Value).toArray) w (fun e w' => ∃ v, e = .returned v ∧ v = .int .i64 r ∧ Gr w w') := by
  unfold pmem_Device_Lines.f at h
  have fB : Gr w w := Fr.refl _ _
  refine calls_cw Try.func43 rfl Try.ntmps43 rfl ?_
  refine cw_seq ?_
  refine cw_region ?_
  refine ol_val (v := .int .i64 0) (by exact xr_assign rfl rfl) rfl rfl rfl ?_
  refine ol_nil ?_
  refine cw_seq ?_
  refine cw_region ?_
  refine ol_val (v := .pointer (some ⟨G_0, 0, none⟩)) (by exact xr_move rfl rfl) rfl rfl rfl ?_
  refine ol_val (v := .pointer (some ⟨G_0, 0, none⟩)) (by exact xr_nilCheck rfl rfl) rfl rfl rfl ?_
  refine ol_val (v := .pointer (some ⟨G_0, 0, none⟩)) (by exact xr_fieldAddr (p := 0) (q := 0) rfl fl139_0 rfl) rfl rfl rfl ?_
  refine ol_val (v := V0_0) (by exact xr_load1 (v := V0_0) rfl ag135 rfl (b_0.seg 0 rfl rfl)) rfl rfl rfl ?_
  refine ol_val (v := .int .i64 (List.length a0.cells : Int)) (by exact xr_lenR rfl Try.underlying135 rfl (R0_0.gr fB)) rfl rfl rfl ?_
  refine ol_val (v := .int .i64 (IntKind.i64.wrap (Int.tdiv (List.length a0.cells : Int) 8))) (by exact xr_quo rfl rfl rfl (by decide)) rfl rfl rfl ?_
  refine ol_val (v := .int .i64 (IntKind.i64.wrap (Int.tdiv (List.length a0.cells : Int) 8))) (by exact xr_assign rfl rfl) rfl rfl rfl ?_
  refine ol_nil ?_
  refine cw_ret ?_
  repeat (first | with_reducible refine thn_r ?_ | with_reducible refine blk_r ?_)
  obtain rfl := Option.some.inj h
  refine fin_ret1 Try.results43 rfl ?_
  exact ⟨_, rfl, rfl, fB⟩
end Go.Proofs.Ytklhbaghbmndeaa

/- rickyard/press.may: its model, and that the Go function computes it: written by gen.py. -/
set_option linter.unusedVariables false
namespace Go.Proofs.Ytklhbaghbmndeaa
open Go Go.Xw
def press_may.f (fu : Nat) (a0 : S_pmem_Device) (a1 : Int) : Option Int := (((if (decide (a1 < 0)) = true then some (true) else ((pmem_Device_Lines.f fu a0 : Option Int).bind fun t4 => some ((decide (a1 ≥ t4))))) : Option Bool).bind fun x1 => (if x1 = true then some (2) else some (0)))
set_option maxRecDepth 100000 in
set_option maxHeartbeats 400000 in
theorem press_may.ok (fu : Nat) (w : World) (a0 : S_pmem_Device) (G_0 : Nat) (V0_0 : Value) (R0_0 : Rd k_pmem_cell w V0_0 a0.cells) (V0_1 : Value) (R0_1 : Rd (kI .i64) w V0_1 a0.plan.list) (b_0 : Blk w G_0 139 [Seg.cell V0_0 R0_0.one, Seg.cell V0_1 R0_1.one, Seg.cell (.int .i64 a0.plan.at_), Seg.cell (.bool a0.off), Seg.cell (.bool a0.armed), Seg.cell (.int .i64 a0.left), Seg.cell (.int .i64 a0.steps)]) (a1 : Int) (r : Int) (h : press_may.f fu a0 a1 = some r) :
    Calls Try.prog 102 (([.pointer (some ⟨G_0, 0, none⟩), .int .i64 a1] : List Value).toArray) w (fun e w' => ∃ v, e = .returned v ∧ v = .int .i64 r ∧ Gr w w') := by
  unfold press_may.f at h
  have fB : Gr w w := Fr.refl _ _
  refine calls_cw Try.func102 rfl Try.ntmps102 rfl ?_
  refine cw_seq ?_
  refine cw_region ?_
  refine ol_val (v := .int .i64 0) (by exact xr_assign rfl rfl) rfl rfl rfl ?_
  refine ol_nil ?_
  refine cw_seq ?_
  refine cw_block ?_
  refine cw_seq ?_
  refine cw_region ?_
  refine ol_val (v := .pointer (some ⟨G_0, 0, none⟩)) (by exact xr_move rfl rfl) rfl rfl rfl ?_
  refine ol_val (v := .bool false) (by exact xr_eqP (b := false) rfl Try.underlying30 rfl rfl (by simp) (by simp)) rfl rfl rfl ?_
  refine ol_val (v := .bool false) (by exact xr_assign rfl rfl) rfl rfl rfl ?_
  refine ol_nil ?_
  refine cw_condF rfl rfl ?_
  refine cw_seq ?_
  obtain ⟨x1, j2, h⟩ := bs h
  refine cw_mid (fun ρ' w' => ρ' 8 = .bool x1 ∧ Gr w w') ?_ ?_
  · skip
    refine cw_region ?_
    refine ol_val (v := .int .i64 a1) (by exact xr_move rfl rfl) rfl rfl rfl ?_
    refine ol_val (v := .bool (decide (a1 < 0))) (by exact xr_lss rfl rfl rfl) rfl rfl rfl ?_
    refine ol_val (v := .bool (decide (a1 < 0))) (by exact xr_move rfl rfl) rfl rfl rfl ?_
    rcases is j2 with ⟨c3, j2⟩ | ⟨c3, j2⟩
    · skip
      refine ol_gskip rfl rfl rfl rfl rfl c3 ?_
      refine ol_gskip rfl rfl rfl rfl rfl c3 ?_
      refine ol_gskip rfl rfl rfl rfl rfl c3 ?_
      refine ol_gskip rfl rfl rfl rfl rfl c3 ?_
      refine ol_val (v := .bool true) (by exact xr_pickT rfl rfl c3 rfl) rfl rfl rfl ?_
      refine ol_val (v := .bool true) (by exact xr_assign rfl rfl) rfl rfl rfl ?_
      refine ol_nil ?_
      obtain rfl := Option.some.inj j2
      refine thn_i ?_
      exact ⟨rfl, Fr.refl _ _⟩
    · skip
      refine ol_gval (v := .int .i64 a1) (by exact xr_move rfl rfl) rfl rfl rfl rfl rfl c3 ?_
      refine ol_gval (v := .pointer (some ⟨G_0, 0, none⟩)) (by exact xr_move rfl rfl) rfl rfl rfl rfl rfl c3 ?_
      obtain ⟨t4, k5, j2⟩ := bs j2
      refine ol_gop (by exact opv_call rfl cal43 (ac rfl an) (pmem_Device_Lines.ok fu _ a0 G_0 V0_0 (R0_0.gr fB) V0_1 (R0_1.gr fB) b_0 _ k5)) rfl rfl rfl rfl rfl c3 ?_
      rintro _ w7 ⟨rfl, q6⟩
      have b_0 := b_0.gr q6
      have fB := fB.gr q6
      refine ol_gval (v := .bool (decide (a1 ≥ t4))) (by exact xr_geq rfl rfl rfl) rfl rfl rfl rfl rfl c3 ?_
      refine ol_val (v := .bool (decide (a1 ≥ t4))) (by exact xr_pickF rfl rfl c3 rfl) rfl rfl rfl ?_
      refine ol_val (v := .bool (decide (a1 ≥ t4))) (by exact xr_assign rfl rfl) rfl rfl rfl ?_
      refine ol_nil ?_
      obtain rfl := Option.some.inj j2
      refine thn_i ?_
      exact ⟨rfl, q6⟩
  · skip
    rintro ρ8 w9 ⟨e8, q10⟩
    have b_0 := b_0.gr q10
    have fB := fB.gr q10
    rcases is h with ⟨c11, h⟩ | ⟨c11, h⟩
    · refine cw_condT e8 c11 ?_
      refine cw_seq ?_
      refine cw_region ?_
      refine ol_val (v := .int .i64 2) (by exact xr_assign rfl rfl) rfl rfl rfl ?_
      refine ol_nil ?_
      refine cw_ret ?_
      repeat (first | with_reducible refine thn_r ?_ | with_reducible refine blk_r ?_)
      obtain rfl := Option.some.inj h
      refine fin_ret1 Try.results102 rfl ?_
      exact ⟨_, rfl, rfl, fB⟩
    · refine cw_condF e8 c11 ?_
      refine cw_skip ?_
      refine blk_i ?_
      refine cw_seq ?_
      refine cw_region ?_
      refine ol_val (v := .int .i64 0) (by exact xr_assign rfl rfl) rfl rfl rfl ?_
      refine ol_nil ?_
      refine cw_ret ?_
      repeat (first | with_reducible refine thn_r ?_ | with_reducible refine blk_r ?_)
      obtain rfl := Option.some.inj h
      refine fin_ret1 Try.results102 rfl ?_
      exact ⟨_, rfl, rfl, fB⟩
end Go.Proofs.Ytklhbaghbmndeaa

/- (*rickyard/pmem.Device).may: its model, and that the Go function computes it: written by gen.py. -/
set_option linter.unusedVariables false
namespace Go.Proofs.Ytklhbaghbmndeaa
open Go Go.Xw
def pmem_Device_may.f (fu : Nat) (a0 : S_pmem_Device) (a1 : Int) (a2 : Int) : Option Int := (if a0.off = true then some (3) else (if (if (decide (a1 < 0)) = true then true else (decide (a1 ≥ a2))) = true then some (2) else some (0)))
set_option maxRecDepth 100000 in
set_option maxHeartbeats 400000 in
theorem pmem_Device_may.ok (fu : Nat) (w : World) (a0 : S_pmem_Device) (G_0 : Nat) (V0_0 : Value) (R0_0 : Rd k_pmem_cell w V0_0 a0.cells) (V0_1 : Value) (R0_1 : Rd (kI .i64) w V0_1 a0.plan.list) (b_0 : Blk w G_0 139 [Seg.cell V0_0 R0_0.one, Seg.cell V0_1 R0_1.one, Seg.cell (.int .i64 a0.plan.at_), Seg.cell (.bool a0.off), Seg.cell (.bool a0.armed), Seg.cell (.int .i64 a0.left), Seg.cell (.int .i64 a0.steps)]) (a1 : Int) (a2 : Int) (r : Int) (h : pmem_Device_may.f fu a0 a1 a2 = some r) :
    Calls Try.prog 83 (([.pointer (some ⟨G_0, 0, none⟩), .int .i64 a1, .int .i64 a2] : List Value).toArray) w (fun e w' => ∃ v, e = .returned v ∧ v = .int .i64 r ∧ Gr w w') := by
  unfold pmem_Device_may.f at h
  have fB : Gr w w := Fr.refl _ _
  refine calls_cw Try.func83 rfl Try.ntmps83 rfl ?_
  refine cw_seq ?_
  refine cw_region ?_
  refine ol_val (v := .int .i64 0) (by exact xr_assign rfl rfl) rfl rfl rfl ?_
  refine ol_nil ?_
  refine cw_seq ?_
  refine cw_block ?_
  refine cw_seq ?_
  refine cw_region ?_
  refine ol_val (v := .pointer (some ⟨G_0, 0, none⟩)) (by exact xr_move rfl rfl) rfl rfl rfl ?_
  refine ol_val (v := .pointer (some ⟨G_0, 0, none⟩)) (by exact xr_nilCheck rfl rfl) rfl rfl rfl ?_
  refine ol_val (v := .pointer (some ⟨G_0, 3, none⟩)) (by exact xr_fieldAddr (p := 0) (q := 3) rfl fl139_2 rfl) rfl rfl rfl ?_
  refine ol_val (v := .bool a0.off) (by exact xr_load1 (v := .bool a0.off) rfl ag4 rfl (b_0.seg 3 rfl rfl)) rfl rfl rfl ?_
  refine ol_val (v := .bool a0.off) (by exact xr_assign rfl rfl) rfl rfl rfl ?_
  refine ol_nil ?_
  rcases is h with ⟨c1, h⟩ | ⟨c1, h⟩
  · refine cw_condT rfl c1 ?_
    refine cw_seq ?_
    refine cw_region ?_
    refine ol_val (v := .int .i64 3) (by exact xr_assign rfl rfl) rfl rfl rfl ?_
    refine ol_nil ?_
    refine cw_ret ?_
    repeat (first | with_reducible refine thn_r ?_ | with_reducible refine blk_r ?_)
    obtain rfl := Option.some.inj h
    refine fin_ret1 Try.results83 rfl ?_
    exact ⟨_, rfl, rfl, fB⟩
  · refine cw_condF rfl c1 ?_
    refine cw_seq ?_
    refine cw_mid (fun ρ' w' => ρ' 12 = .bool (if (decide (a1 < 0)) = true then true else (decide (a1 ≥ a2))) ∧ w = w') ?_ ?_
    · skip
      refine cw_region ?_
      refine ol_val (v := .int .i64 a1) (by exact xr_move rfl rfl) rfl rfl rfl ?_
      refine ol_val (v := .bool (decide (a1 < 0))) (by exact xr_lss rfl rfl rfl) rfl rfl rfl ?_
      refine ol_val (v := .bool (decide (a1 < 0))) (by exact xr_move rfl rfl) rfl rfl rfl ?_
      rcases bt (decide (a1 < 0)) with c2 | c2
      · skip
        refine ol_gskip rfl rfl rfl rfl rfl c2 ?_
        refine ol_gskip rfl rfl rfl rfl rfl c2 ?_
        refine ol_gskip rfl rfl rfl rfl rfl c2 ?_
        refine ol_val (v := .bool true) (by exact xr_pickT rfl rfl c2 rfl) rfl rfl rfl ?_
        refine ol_val (v := .bool true) (by exact xr_assign rfl rfl) rfl rfl rfl ?_
        refine ol_nil ?_
        refine thn_i ?_
        exact ⟨(rfl).trans (congrArg (fun z => (.bool z : Value)) (show true = (if (decide (a1 < 0)) = true then true else (decide (a1 ≥ a2))) from by rw [ite_t c2])), rfl⟩
      · skip
        refine ol_gval (v := .int .i64 a1) (by exact xr_move rfl rfl) rfl rfl rfl rfl rfl c2 ?_
        refine ol_gval (v := .int .i64 a2) (by exact xr_move rfl rfl) rfl rfl rfl rfl rfl c2 ?_
        refine ol_gval (v := .bool (decide (a1 ≥ a2))) (by exact xr_geq rfl rfl rfl) rfl rfl rfl rfl rfl c2 ?_
        refine ol_val (v := .bool (decide (a1 ≥ a2))) (by exact xr_pickF rfl rfl c2 rfl) rfl rfl rfl ?_
        refine ol_val (v := .bool (decide (a1 ≥ a2))) (by exact xr_assign rfl rfl) rfl rfl rfl ?_
        refine ol_nil ?_
        refine thn_i ?_
        exact ⟨(rfl).trans (congrArg (fun z => (.bool z : Value)) (show (decide (a1 ≥ a2)) = (if (decide (a1 < 0)) = true then true else (decide (a1 ≥ a2))) from by rw [ite_f c2])), rfl⟩
    · skip
      rintro ρ3 _ ⟨e12, rfl⟩
      rcases is h with ⟨c4, h⟩ | ⟨c4, h⟩
      · refine cw_condT e12 c4 ?_
        refine cw_seq ?_
        refine cw_region ?_
        refine ol_val (v := .int .i64 2) (by exact xr_assign rfl rfl) rfl rfl rfl ?_
        refine ol_nil ?_
        refine cw_ret ?_
        repeat (first | with_reducible refine thn_r ?_ | with_reducible refine blk_r ?_)
        obtain rfl := Option.some.inj h
        refine fin_ret1 Try.results83 rfl ?_
        exact ⟨_, rfl, rfl, fB⟩
      · refine cw_condF e12 c4 ?_
        refine cw_skip ?_
        refine blk_i ?_
        refine cw_seq ?_
        refine cw_region ?_
        refine ol_val (v := .int .i64 0) (by exact xr_assign rfl rfl) rfl rfl rfl ?_
        refine ol_nil ?_
        refine cw_ret ?_
        repeat (first | with_reducible refine thn_r ?_ | with_reducible refine blk_r ?_)
        obtain rfl := Option.some.inj h
        refine fin_ret1 Try.results83 rfl ?_
        exact ⟨_, rfl, rfl, fB⟩
end Go.Proofs.Ytklhbaghbmndeaa

/- (*rickyard/pmem.plan).next: its model, and that the Go function computes it: written by gen.py. -/
set_option linter.unusedVariables false
namespace Go.Proofs.Ytklhbaghbmndeaa
open Go Go.Xw
def pmem_plan_next__i0.f (fu : Nat) (a0 : S_pmem_plan) : Option (Int × S_pmem_plan) := (if (decide ((List.length a0.list : Int) = 0)) = true then some ((-1), a0) else (if 0 ≤ a0.at_ ∧ a0.at_ < (List.length a0.list : Int) then (if (List.length a0.list : Int) ≠ 0 then some ((ix a0.list a0.at_), (⟨a0.list, (Int.tmod (IntKind.i64.wrap (a0.at_ + 1)) (List.length a0.list : Int))⟩ : S_pmem_plan)) else none) else none))
set_option maxRecDepth 100000 in
set_option maxHeartbeats 400000 in
theorem pmem_plan_next__i0.ok (fu : Nat) (w : World) (a0 : S_pmem_plan) (G_0 : Nat) (T_0 : TypeId) (X_0 Y_0 : List Value) (V0_0 : Value) (R0_0 : Rd (kI .i64) w V0_0 a0.list) (N0_0 : OffR V0_0 a0.list G_0) (b_0 : SubB w G_0 T_0 X_0 [Seg.cell V0_0 R0_0.one, Seg.cell (.int .i64 a0.at_)] Y_0) (r : Int × S_pmem_plan) (h : pmem_plan_next__i0.f fu a0 = some r) :
    Calls Try.prog 123 (([.pointer (some ⟨G_0, List.length X_0, none⟩)] : List Value).toArray) w (fun e w' => ∃ v, e = .returned v ∧ v = .int .i64 r.1 ∧ SubB w' G_0 T_0 X_0 [Seg.cell V0_0 R0_0.one, Seg.cell (.int .i64 r.2.at_)] Y_0 ∧ Fr (fun j => j = G_0) w w') := by
  unfold pmem_plan_next__i0.f at h
  have fB : Fr (fun j => j = G_0) w w := Fr.refl _ _
  refine calls_cw Try.func123 rfl Try.ntmps123 rfl ?_
  refine cw_seq ?_
  refine cw_region ?_
  refine ol_val (v := .int .i64 0) (by exact xr_assign rfl rfl) rfl rfl rfl ?_
  refine ol_nil ?_
  refine cw_seq ?_
  refine cw_seq ?_
  refine cw_region ?_
  refine ol_val (v := .pointer (some ⟨G_0, List.length X_0, none⟩)) (by exact xr_move rfl rfl) rfl rfl rfl ?_
  refine ol_val (v := .pointer (some ⟨G_0, List.length X_0, none⟩)) (by exact xr_nilCheck rfl rfl) rfl rfl rfl ?_
  refine ol_val (v := .pointer (some ⟨G_0, List.length X_0 + 0, none⟩)) (by exact xr_fieldAddr (p := List.length X_0) (q := 0) rfl fl137_0 rfl) rfl rfl rfl ?_
  refine ol_val (v := V0_0) (by exact xr_load1 (v := V0_0) rfl ag25 rfl (b_0.seg 0 rfl rfl)) rfl rfl rfl ?_
  refine ol_val (v := .int .i64 (List.length a0.list : Int)) (by exact xr_lenR rfl Try.underlying25 rfl R0_0) rfl rfl rfl ?_
  refine ol_val (v := .bool (decide ((List.length a0.list : Int) = 0))) (by exact xr_eqI rfl Try.underlying3 rfl rfl rfl) rfl rfl rfl ?_
  refine ol_nil ?_
  rcases is h with ⟨c1, h⟩ | ⟨c1, h⟩
  · refine cw_condT rfl c1 ?_
    refine cw_seq ?_
    refine cw_region ?_
    refine ol_val (v := .int .i64 (-1)) (by exact xr_assign rfl rfl) rfl rfl rfl ?_
    refine ol_nil ?_
    refine cw_ret ?_
    repeat (first | with_reducible refine thn_r ?_ | with_reducible refine blk_r ?_)
    obtain rfl := Option.some.inj h
    refine fin_ret1 Try.results123 rfl ?_
    exact ⟨_, rfl, rfl, b_0, fB⟩
  · refine cw_condF rfl c1 ?_
    refine cw_skip ?_
    refine cw_seq ?_
    refine cw_drawL 8 [fun vz wz => vz = (.pointer (some ⟨G_0, List.length X_0, none⟩) : Value), fun vz wz => vz = (.pointer (some ⟨G_0, List.length X_0, none⟩) : Value), fun vz wz => vz = (.pointer (some ⟨G_0, List.length X_0 + 0, none⟩) : Value), fun vz wz => vz = (V0_0 : Value), fun vz wz => vz = (.pointer (some ⟨G_0, List.length X_0, none⟩) : Value), fun vz wz => vz = (.pointer (some ⟨G_0, List.length X_0, none⟩) : Value), fun vz wz => vz = (.pointer (some ⟨G_0, List.length X_0 + 1, none⟩) : Value), fun vz wz => vz = (.int .i64 a0.at_ : Value)] mo rfl ⟨fun _ _ _ h _ => h, fun _ _ _ h _ => h, fun _ _ _ h _ => h, fun _ _ _ h _ => h, fun _ _ _ h _ => h, fun _ _ _ h _ => h, fun _ _ _ h _ => h, fun _ _ _ h _ => h, trivial⟩ ?_ ?_
    · refine ⟨?_, ?_, ?_, ?_, ?_, ?_, ?_, ?_, trivial⟩
      · intro ρz wz hz hk hd
        exact sk_val (v := .pointer (some ⟨G_0, List.length X_0, none⟩)) (by exact xr_move rfl ((hk 0 rfl).trans rfl)) rfl rfl
      · intro ρz wz hz hk hd
        have d10 := hd 0 rfl 10 rfl
        exact sk_val (v := .pointer (some ⟨G_0, List.length X_0, none⟩)) (by exact xr_nilCheck rfl d10) rfl rfl
      · intro ρz wz hz hk hd
        have d11 := hd 1 rfl 11 rfl
        exact sk_val (v := .pointer (some ⟨G_0, List.length X_0 + 0, none⟩)) (by exact xr_fieldAddr (p := List.length X_0) (q := 0) rfl fl137_0 d11) rfl rfl
      · intro ρz wz hz hk hd
        have d12 := hd 2 rfl 12 rfl
        exact sk_val (v := V0_0) (by exact xr_load1 (v := V0_0) rfl ag25 d12 ((b_0.gr hz).seg 0 rfl rfl)) rfl rfl
      · intro ρz wz hz hk hd
        exact sk_val (v := .pointer (some ⟨G_0, List.length X_0, none⟩)) (by exact xr_move rfl ((hk 0 rfl).trans rfl)) rfl rfl
      · intro ρz wz hz hk hd
        have d14 := hd 4 rfl 14 rfl
        exact sk_val (v := .pointer (some ⟨G_0, List.length X_0, none⟩)) (by exact xr_nilCheck rfl d14) rfl rfl
      · intro ρz wz hz hk hd
        have d15 := hd 5 rfl 15 rfl
        exact sk_val (v := .pointer (some ⟨G_0, List.length X_0 + 1, none⟩)) (by exact xr_fieldAddr (p := List.length X_0) (q := 1) rfl fl137_1 d15) rfl rfl
      · intro ρz wz hz hk hd
        have d16 := hd 6 rfl 16 rfl
        exact sk_val (v := .int .i64 a0.at_) (by exact xr_load1 (v := .int .i64 a0.at_) rfl ag3 d16 ((b_0.gr hz).seg 1 rfl rfl)) rfl rfl
    · intro ρ2 w3 q4 hk hd
      have e0 := (hk 0 rfl).trans rfl
      have e13 := hd 3 rfl 13 rfl
      have e17 := hd 7 rfl 17 rfl
      have b_0 := b_0.gr q4
      have R0_0 := R0_0.gr q4
      have fB := fB.gr q4
      obtain ⟨g5, h⟩ := gs h
      refine ol_val (v := .pointer (some ⟨(sb V0_0), so V0_0 + Int.toNat a0.at_ * 1, none⟩)) (by exact xr_indexR (K := (kI .i64)) (v := V0_0) rfl Try.underlying25 sz3 e13 R0_0 e17 g5.1 g5.2) rfl rfl rfl ?_
      refine ol_val (v := .int .i64 (ix a0.list a0.at_)) (by exact xr_load1 (v := .int .i64 (ix a0.list a0.at_)) rfl ag3 rfl (R0_0.elem g5.1 g5.2)) rfl rfl rfl ?_
      refine ol_val (v := .int .i64 (ix a0.list a0.at_)) (by exact xr_assign rfl rfl) rfl rfl rfl ?_
      refine ol_nil ?_
      refine cw_seq ?_
      obtain ⟨g6, h⟩ := gs h
      refine cw_drawL 12 [fun vz wz => vz = (.pointer (some ⟨G_0, List.length X_0, none⟩) : Value), fun vz wz => vz = (.pointer (some ⟨G_0, List.length X_0, none⟩) : Value), fun vz wz => vz = (.pointer (some ⟨G_0, List.length X_0, none⟩) : Value), fun vz wz => vz = (.pointer (some ⟨G_0, List.length X_0 + 1, none⟩) : Value), fun vz wz => vz = (.int .i64 a0.at_ : Value), fun vz wz => vz = (.int .i64 (IntKind.i64.wrap (a0.at_ + 1)) : Value), fun vz wz => vz = (.pointer (some ⟨G_0, List.length X_0, none⟩) : Value), fun vz wz => vz = (.pointer (some ⟨G_0, List.length X_0, none⟩) : Value), fun vz wz => vz = (.pointer (some ⟨G_0, List.length X_0 + 0, none⟩) : Value), fun vz wz => vz = (V0_0 : Value), fun vz wz => vz = (.int .i64 (List.length a0.list : Int) : Value), fun vz wz => vz = (.int .i64 (Int.tmod (IntKind.i64.wrap (a0.at_ + 1)) (List.length a0.list : Int)) : Value)] mo rfl ⟨fun _ _ _ h _ => h, fun _ _ _ h _ => h, fun _ _ _ h _ => h, fun _ _ _ h _ => h, fun _ _ _ h _ => h, fun _ _ _ h _ => h, fun _ _ _ h _ => h, fun _ _ _ h _ => h, fun _ _ _ h _ => h, fun _ _ _ h _ => h, fun _ _ _ h _ => h, fun _ _ _ h _ => h, trivial⟩ ?_ ?_
      · refine ⟨?_, ?_, ?_, ?_, ?_, ?_, ?_, ?_, ?_, ?_, ?_, ?_, trivial⟩
        · intro ρz wz hz hk hd
          exact sk_val (v := .pointer (some ⟨G_0, List.length X_0, none⟩)) (by exact xr_move rfl ((hk 0 rfl).trans e0)) rfl rfl
        · intro ρz wz hz hk hd
          exact sk_val (v := .pointer (some ⟨G_0, List.length X_0, none⟩)) (by exact xr_move rfl ((hk 0 rfl).trans e0)) rfl rfl
        · intro ρz wz hz hk hd
          have d21 := hd 1 rfl 21 rfl
          exact sk_val (v := .pointer (some ⟨G_0, List.length X_0, none⟩)) (by exact xr_nilCheck rfl d21) rfl rfl
        · intro ρz wz hz hk hd
          have d22 := hd 2 rfl 22 rfl
          exact sk_val (v := .pointer (some ⟨G_0, List.length X_0 + 1, none⟩)) (by exact xr_fieldAddr (p := List.length X_0) (q := 1) rfl fl137_1 d22) rfl rfl
        · intro ρz wz hz hk hd
          have d23 := hd 3 rfl 23 rfl
          exact sk_val (v := .int .i64 a0.at_) (by exact xr_load1 (v := .int .i64 a0.at_) rfl ag3 d23 ((b_0.gr hz).seg 1 rfl rfl)) rfl rfl
        · intro ρz wz hz hk hd
          have d24 := hd 4 rfl 24 rfl
          exact sk_val (v := .int .i64 (IntKind.i64.wrap (a0.at_ + 1))) (by exact xr_add rfl d24 rfl) rfl rfl
        · intro ρz wz hz hk hd
          exact sk_val (v := .pointer (some ⟨G_0, List.length X_0, none⟩)) (by exact xr_move rfl ((hk 0 rfl).trans e0)) rfl rfl
        · intro ρz wz hz hk hd
          have d26 := hd 6 rfl 26 rfl
          exact sk_val (v := .pointer (some ⟨G_0, List.length X_0, none⟩)) (by exact xr_nilCheck rfl d26) rfl rfl
        · intro ρz wz hz hk hd
          have d27 := hd 7 rfl 27 rfl
          exact sk_val (v := .pointer (some ⟨G_0, List.length X_0 + 0, none⟩)) (by exact xr_fieldAddr (p := List.length X_0) (q := 0) rfl fl137_0 d27) rfl rfl
        · intro ρz wz hz hk hd
          have d28 := hd 8 rfl 28 rfl
          exact sk_val (v := V0_0) (by exact xr_load1 (v := V0_0) rfl ag25 d28 ((b_0.gr hz).seg 0 rfl rfl)) rfl rfl
        · intro ρz wz hz hk hd
          have d29 := hd 9 rfl 29 rfl
          exact sk_val (v := .int .i64 (List.length a0.list : Int)) (by exact xr_lenR rfl Try.underlying25 d29 (R0_0.gr hz)) rfl rfl
        · intro ρz wz hz hk hd
          have d25 := hd 5 rfl 25 rfl
          have d30 := hd 10 rfl 30 rfl
          exact sk_val (by exact xr_rem rfl d25 d30 g6) rfl rfl
      · intro ρ7 w8 q9 hk hd
        have e3 := (hk 3 rfl).trans rfl
        have e20 := hd 0 rfl 20 rfl
        have e31 := hd 11 rfl 31 rfl
        have b_0 := b_0.gr q9
        have R0_0 := R0_0.gr q9
        have fB := fB.gr q9
        refine ol_val (v := .pointer (some ⟨G_0, List.length X_0, none⟩)) (by exact xr_nilCheck rfl e20) rfl rfl rfl ?_
        refine ol_val (v := .pointer (some ⟨G_0, List.length X_0 + 1, none⟩)) (by exact xr_fieldAddr (p := List.length X_0) (q := 1) rfl fl137_1 rfl) rfl rfl rfl ?_
        refine ol_op0 (by exact opv_storeSub (ss' := [Seg.cell V0_0 R0_0.one, Seg.cell (.int .i64 (Int.tmod (IntKind.i64.wrap (a0.at_ + 1)) (List.length a0.list : Int)))]) (xs := cellsOf [Seg.cell (.int .i64 (Int.tmod (IntKind.i64.wrap (a0.at_ + 1)) (List.length a0.list : Int)))]) rfl sz3 rfl e31 rfl (len_cellsOf _) (one_cellsOf _) b_0 (Spl.segs _ 1 1 [Seg.cell (.int .i64 (Int.tmod (IntKind.i64.wrap (a0.at_ + 1)) (List.length a0.list : Int)))] rfl rfl)) rfl rfl ?_
        rintro _ w11 ⟨b_0, q10⟩
        have R0_0 := R0_0.wr q10 N0_0
        have fB := fB.wrS q10 rfl
        refine ol_nil ?_
        refine cw_seq ?_
        refine cw_region ?_
        refine ol_val (v := .int .i64 (ix a0.list a0.at_)) (by exact xr_move rfl e3) rfl rfl rfl ?_
        refine ol_val (v := .int .i64 (ix a0.list a0.at_)) (by exact xr_assign rfl rfl) rfl rfl rfl ?_
        refine ol_nil ?_
        refine cw_ret ?_
        repeat (first | with_reducible refine thn_r ?_ | with_reducible refine blk_r ?_)
        obtain rfl := Option.some.inj h
        refine fin_ret1 Try.results123 rfl ?_
        exact ⟨_, rfl, rfl, b_0, fB⟩
end Go.Proofs.Ytklhbaghbmndeaa
