/- The words of the walks: a string appended to a row of octets. -/
import Derived.Test.YtklhbaghbmndeaaXDraw
set_option linter.unusedVariables false
set_option linter.unusedSimpArgs false
namespace Go.Xw
open Go
variable {P : Program} {w : World}
def octV (l : List UInt8) : List Value := l.map fun b => Value.int .u8 (b.toNat : Int)
theorem octV_enc (l : List UInt8) : (l.map ofB).flatMap (kI .u8).enc = octV l := by
  induction l with
  | nil => rfl
  | cons b l ih =>
    rw [List.map_cons, List.flatMap_cons, ih]
    rfl
theorem octV_len (l : List UInt8) : (octV l).length = l.length := List.length_map ..
theorem octV_one (l : List UInt8) : ∀ u ∈ octV l, u.oneCell' = true := by
  intro u hu
  obtain ⟨b, _, rfl⟩ := List.mem_map.1 hu
  rfl
theorem str_first (l : List UInt8) : (((⟨l.toArray⟩ : ByteArray).extract 0 l.length).data.map fun b => Value.int .u8 (b.toNat : Int)) = (octV l).toArray := by
  have e : (⟨l.toArray⟩ : ByteArray).extract 0 l.length = ⟨l.toArray⟩ := by
    apply ByteArray.ext
    simp
  rw [e]
  simp [octV]
theorem run_app_room_str (t u ty e : TypeId) (i : TypeInfo) (ht : P.underlying t = some (.slice e)) (hu : P.underlying u = some .string) (hi : P.info? e = some i) (his : i.size = 1)
    (g sLen sCap : Nat) (cur : Array Value) (hg : w.heap[g]? = some (.cells cur e (0, 0))) (l : List UInt8) (hroom : sLen + l.length ≤ sCap) (hfit : sLen + l.length ≤ cur.size) :
    (Builtin.append_ #[t, u] ty #[.slice (some ⟨g, 0, none⟩) sLen sCap, .string ⟨l.toArray⟩]).run P w =
      .ok (.slice (some ⟨g, 0, none⟩) (sLen + l.length) sCap) (w.setRow g (cur.toList.take sLen ++ octV l ++ cur.toList.drop (sLen + l.length)).toArray) := by
  have hst := run_storeCells_at P g sLen e (octV l) 0 cur w hg (by simpa [octV_len] using hfit) (octV_one l)
  simp only [Nat.add_zero, octV_len] at hst
  have hsz : (⟨l.toArray⟩ : ByteArray).size = l.length := by simp [ByteArray.size]
  have hf := str_first l
  have htk : List.take l.length (List.map (fun b : UInt8 => Value.int IntKind.u8 (b.toNat : Int)) l) = octV l := List.take_of_length_le (by rw [List.length_map]; exact Nat.le_refl _)
  simp [Builtin.append_, run_underlying ht, run_underlying hu, sizeOf, typeInfo, hi, his, Builtin.lenOf, Builtin.firstCells, hsz, hroom, hf, htk, Addr.add_lit, hst]
theorem run_app_grow_str (t u ty e : TypeId) (i : TypeInfo) (z : Value) (ht : P.underlying t = some (.slice e)) (hu : P.underlying u = some .string) (hi : P.info? e = some i) (hz : i.zero = some z) (his : i.size = 1)
    (b : Addr) (sLen sCap : Nat) (olds : List Value) (hlo : olds.length = sLen) (holds : ∀ j v, olds[j]? = some v → w.cell? (b.add j) = some v) (l : List UInt8)
    (hg : sCap < sLen + l.length) (h63 : ((sLen + l.length : Nat) : Int) ≤ 9223372036854775807) (hfit : Builtin.nextslicecap (sLen + l.length) sCap * i.bytes ≤ 281474976710656) :
    (Builtin.append_ #[t, u] ty #[.slice (some b) sLen sCap, .string ⟨l.toArray⟩]).run P w =
      .ok (.slice (some ⟨w.heap.size, 0, none⟩) (sLen + l.length) (grownCap w (sLen + l.length) sCap e))
        (w.drew.alloc (.cells (olds.toArray ++ (octV l).toArray ++ Builtin.zeroCells z.cells (grownCap w (sLen + l.length) sCap e - (sLen + l.length))) e)) := by
  have hn : ¬ (sLen + l.length ≤ sCap) := by omega
  have h63' : ¬ (9223372036854775807 < ((sLen : Int) + (l.length : Int))) := by omega
  have h48' : ¬ (281474976710656 < Builtin.nextslicecap (sLen + l.length) sCap * i.bytes) := by omega
  have hsz : (⟨l.toArray⟩ : ByteArray).size = l.length := by simp [ByteArray.size]
  have hf := str_first l
  have hfo := run_firstCells_some (P := P) w.drew i.size sLen b sLen sCap olds (by rw [his]; omega) (by simpa using holds)
  rw [his] at hfo
  simp [Builtin.append_, run_underlying ht, run_underlying hu, sizeOf, typeInfo, zeroValue, hi, hz, his, Builtin.lenOf, hn, h63', h48', Question.forced, hfo, newRow, grownCap, hsz]
  simp [Builtin.firstCells, hf]
  congr 2
  apply Array.ext'
  simp [List.append_assoc]
  try rfl
theorem Own.appendStr {E T U : TypeId} {B bs : Nat} {v zv : Value} {L : List Int} {l : List UInt8} (h : Own (kI .u8) E w B v L) (ty : TypeId) (hT : P.underlying T = some (.slice E)) (hU : P.underlying U = some .string) (hE : elB P E = some (some zv, 1, bs)) (hz : zv.cells.size = 1)
    (hbs : Nat.ble bs 32768 = true) (hlim : L.length + l.length ≤ LIM) (hB : B ≤ w.heap.size) : ∃ v' w', (Builtin.append_ #[T, U] ty #[v, sv l]).run P w = .ok v' w' ∧ AppR (kI .u8) E B w v (L ++ l.map ofB) v' w' := by
  obtain ⟨i, hi, hiz, his, hib⟩ := elB_parts hE
  unfold LIM at hlim
  have hbs' : bs ≤ 32768 := Nat.le_of_ble_eq_true hbs
  have hbytes : (L.length + l.length) * bs ≤ 140737488355328 := by
    calc (L.length + l.length) * bs ≤ (L.length + l.length) * 32768 := Nat.mul_le_mul_left _ hbs'
      _ ≤ 140737488355328 := by omega
  have hLe : (L.flatMap (kI .u8).enc).length = L.length := by rw [len_flat]; exact Nat.mul_one _
  have hcat : (L ++ l.map ofB).flatMap (kI .u8).enc = L.flatMap (kI .u8).enc ++ octV l := by rw [List.flatMap_append, octV_enc]
  have hlen : ((L ++ l.map ofB).flatMap (kI .u8).enc).length = (L.length + l.length) * 1 := by rw [hcat, List.length_append, hLe, octV_len, Nat.mul_one]
  have hll : (L ++ l.map ofB).length = L.length + l.length := by simp
  have h63 : L.length + l.length ≤ maxLen := by simp only [maxLen]; omega
  have grown : ∀ (old : Nat), old < L.length + l.length →
      Own (kI .u8) E (w.drew.alloc (.cells ((L.flatMap (kI .u8).enc).toArray ++ (octV l).toArray ++ Builtin.zeroCells zv.cells (grownCap w (L.length + l.length) old E - (L.length + l.length))) E)) B (.slice (some ⟨w.heap.size, 0, none⟩) (L.length + l.length) (grownCap w (L.length + l.length) old E)) (L ++ l.map ofB) ∧
      ∀ row : Option Nat, w.grownBy (w.drew.alloc (.cells ((L.flatMap (kI .u8).enc).toArray ++ (octV l).toArray ++ Builtin.zeroCells zv.cells (grownCap w (L.length + l.length) old E - (L.length + l.length))) E)) row := by
    intro old ho
    have hge := grownCap_ge w (L.length + l.length) old E
    have hcm : grownCap w (L.length + l.length) old E ≤ maxLen := grownCap_le_maxLen w (L.length + l.length) old E h63
    refine ⟨?_, fun row => ⟨rfl, rfl, rfl, by simp, fun k hk _ => heap_alloc_old w.drew _ hk⟩⟩
    unfold Own
    rw [hll]
    refine ⟨hlen, .inr ⟨w.heap.size, _, _, rfl, hB, heap_alloc_new w.drew _, hge, hcm, ?_, ?_⟩⟩
    · show _ = grownCap w (L.length + l.length) old E * 1
      simp only [Array.size_append, List.size_toArray, size_zeroCells, hz, hLe, octV_len, Nat.mul_one]
      omega
    · show List.take ((L.length + l.length) * 1) _ = _
      rw [hcat, Nat.mul_one]
      simp only [Array.toList_append]
      exact List.take_left' (by rw [List.length_append, hLe, octV_len])
  have fresh : ∀ g : Nat, g < w.heap.size → Off v g → ∀ n c : Nat, Off (.slice (some ⟨w.heap.size, 0, none⟩) n c) g := by
    intro g hg _ n c e
    have := Option.some.inj (show some w.heap.size = some g from e)
    omega
  have he : l.length = 0 → (L ++ l.map ofB) = L := fun h0 => by
    obtain rfl := List.eq_nil_of_length_eq_zero h0
    simp
  rcases h.2 with ⟨rfl, hn0⟩ | ⟨g, cap, cur, rfl, hbg, hgg, hnc, hcm, hcs, htake⟩
  · obtain rfl : L = [] := List.eq_nil_of_length_eq_zero hn0
    by_cases h0 : l.length = 0
    · obtain rfl := List.eq_nil_of_length_eq_zero h0
      refine ⟨.slice none 0 0, w, ?_, Own.nil _ _ _ _, Fr.refl _ _, fun _ _ x => x⟩
      simp [sv, Builtin.append_, run_underlying hT, run_underlying hU, sizeOf, typeInfo, hi, Builtin.lenOf, Builtin.firstCells, ByteArray.size]
    · have hsz : (⟨l.toArray⟩ : ByteArray).size = l.length := by simp [ByteArray.size]
      have hr := run_append_nil_string (P := P) w T U ty E i zv hT hU hi hiz ⟨l.toArray⟩ (by omega) (by omega) (by rw [hsz, hib]; simp only [List.length_nil, Nat.zero_add] at hbytes; omega)
      have hgr := grown 0 (by simp only [List.length_nil, Nat.zero_add]; omega)
      simp only [List.length_nil, Nat.zero_add, List.flatMap_nil, List.nil_append] at hgr
      rw [hsz] at hr
      have hoct : (⟨l.toArray⟩ : ByteArray).data.map (fun b => Value.int .u8 (b.toNat : Int)) = (([] : List Value).toArray ++ (octV l).toArray) := by simp [octV]
      rw [hoct] at hr
      exact ⟨_, _, hr, hgr.1, Fr.of_grownBy (hgr.2 _), fun g hg ho => fresh g hg ho _ _⟩
  · have hL : L.length * 1 ≤ cur.size := by show L.length * (kI .u8).size ≤ _; rw [hcs]; exact Nat.mul_le_mul_right _ hnc
    by_cases hroom : L.length + l.length ≤ cap
    · have hfit : L.length + l.length ≤ cur.size := by rw [hcs]; show _ ≤ cap * 1; omega
      have hr := run_app_room_str (P := P) T U ty E i hT hU hi his g L.length cap cur hgg l hroom hfit
      refine ⟨_, _, hr, ?_, Fr.of_grownBy (r := some g) ⟨rfl, rfl, rfl, by simp, fun k _ hk => setRow_other w g k _ (fun e => hk (by rw [e]))⟩, fun g' _ ho => ho⟩
      unfold Own
      rw [hll]
      refine ⟨hlen, .inr ⟨g, cap, _, rfl, hbg, setRow_heap w g cur _ E _ hgg, hroom, hcm, ?_, ?_⟩⟩
      · rw [← hcs]
        simp only [List.size_toArray, List.length_append, List.length_take, List.length_drop, Array.length_toList, octV_len]
        omega
      · show List.take ((L.length + l.length) * 1) _ = _
        have htake' : cur.toList.take L.length = L.flatMap (kI .u8).enc := by
          have : cur.toList.take (L.length * 1) = _ := htake
          rwa [Nat.mul_one] at this
        rw [hcat, Nat.mul_one, htake']
        exact List.take_left' (by rw [List.length_append, hLe, octV_len])
    · have holds : ∀ j u, (L.flatMap (kI .u8).enc)[j]? = some u → w.cell? ((⟨g, 0, none⟩ : Addr).add j) = some u := World.ownsRow.cells (g := g) h rfl
      have hr := run_app_grow_str (P := P) T U ty E i zv hT hU hi hiz his ⟨g, 0, none⟩ L.length cap (L.flatMap (kI .u8).enc) hLe holds l (by omega) (by omega) (growslice_fits (by omega) (by rw [hib]; exact hbytes))
      have hgr := grown cap (by omega)
      exact ⟨_, _, hr, hgr.1, Fr.of_grownBy (hgr.2 _), fun g' hg ho => fresh g' hg ho _ _⟩
theorem opv_appendStr {ρ : Env} {o : Oper} {x y : Operand} {E T U : TypeId} {B bs : Nat} {v zv : Value} {L : List Int} {l : List UInt8} (ho : o.op = .call ⟨.builtin .append, #[x, y], #[T, U]⟩) (hT : P.underlying T = some (.slice E)) (hU : P.underlying U = some .string) (hE : elB P E = some (some zv, 1, bs)) (hz : zv.cells.size = 1)
    (hbs : Nat.ble bs 32768 = true) (hx : evO ρ x = v) (hy : evO ρ y = sv l) (h : Own (kI .u8) E w B v L) (hlim : L.length + l.length ≤ LIM) (hB : B ≤ w.heap.size) : OpV P o ρ w (AppR (kI .u8) E B w v (L ++ l.map ofB)) := by
  obtain ⟨v', w', hrun, hR⟩ := h.appendStr (P := P) (T := T) (U := U) (l := l) o.type hT hU hE hz hbs hlim hB
  exact opv_val (w' := w') (v := v') (by simp [execOp, ho, resolve, invoke, builtin, hx, hy, hrun]) hR
/-! ### The end of an array is cleared -/
theorem Arr.blt {n : Nat} {α : Type} {a : Arr n α} {i : Int} (h : i < (a.l.length : Int)) : i < (n : Int) := by
  rw [a.h] at h
  exact h
def Arr.clr {n : Nat} {α : Type} (a : Arr n α) (lo : Nat) (z : α) : Arr n α := ⟨a.l.take lo ++ List.replicate (n - (a.l.take lo).length) z, by
  have := a.h
  rw [List.length_append, List.length_replicate, List.length_take]
  omega⟩
theorem zeroCells_one (u : Value) (m : Nat) : Builtin.zeroCells #[u] m = (List.replicate m u).toArray := by
  apply Array.ext'
  unfold Builtin.zeroCells
  apply List.ext_getElem
  · simp
  · intro i h1 h2
    simp [Nat.mod_one]
theorem opv_clearArr {ρ : Env} {o : Oper} {x : Operand} {α : Type} {K : Kd α} {n g p : Nat} {a : Arr n α} {z : α} {zv : Value} {bs : Nat} {ss ss' : List Seg} {dT E T : TypeId} {lo : Nat} (ho : o.op = .call ⟨.builtin .clear, #[x], #[dT]⟩) (hT : P.underlying dT = some (.slice E)) (hE : elB P E = some (some zv, K.size, bs)) (hK : K.size = 1) (hz : zv.cells = (K.enc z).toArray)
    {m0 : Nat} (hm0 : m0 = n) (hx : evO ρ x = subv 1 (.slice (some ⟨g, p, none⟩) n n) lo m0) (hlo : lo ≤ n) (hb : Blk w g T ss) (i : Nat) (hi : ss[i]? = some (Kd.seg (kA n K) a)) (hp : sumN (ss.take i) = p) (hss : ss.take i ++ (Kd.seg (kA n K) (a.clr lo z) :: ss.drop (i + 1)) = ss') :
    OpV P o ρ w (fun v w' => v = .tuple #[] ∧ Blk w' g T ss' ∧ Fr (fun j => j = g) w w') := by
  obtain rfl : n = m0 := hm0.symm
  obtain ⟨it, hit, hiz, his, hib⟩ := elB_parts hE
  have hal : (a.l.take lo).length = lo := by rw [List.length_take, a.h]; omega
  have hcl : (a.clr lo z).l = splL a.l lo (List.replicate (n - lo) z) := by
    show a.l.take lo ++ List.replicate (n - (a.l.take lo).length) z = _
    unfold splL
    rw [hal, List.length_replicate, List.drop_eq_nil_of_le (by rw [a.h]; omega), List.append_nil]
  obtain ⟨u, hu⟩ : ∃ u, K.enc z = [u] := by
    have := K.len z
    rw [hK] at this
    match h : K.enc z, this with
    | [u], _ => exact ⟨u, rfl⟩
  have hone : u.oneCell' = true := K.one z u (by rw [hu]; simp)
  have hrep : (List.replicate (n - lo) z).flatMap K.enc = List.replicate (n - lo) u := by
    induction n - lo with
    | zero => rfl
    | succ m ih => rw [List.replicate_succ, List.flatMap_cons, ih, hu, List.replicate_succ]; rfl
  have hsp0 : Spl ((kA n K).enc a) (lo * K.size) (List.replicate (n - lo) u) ((kA n K).enc (a.clr lo z)) := by
    have := Spl.rows K a.l lo (List.replicate (n - lo) z) (by rw [a.h, List.length_replicate]; omega)
    rw [hrep] at this
    show Spl (a.l.flatMap K.enc) _ _ ((a.clr lo z).l.flatMap K.enc)
    rw [hcl]
    exact this
  have hsp := Spl.seg_in ss i (Kd.seg (kA n K) (a.clr lo z)) hi hp hsp0
  rw [hss, hK, Nat.mul_one] at hsp
  rcases Nat.eq_or_lt_of_le hlo with e | hlt
  · subst e
    rw [Nat.sub_self, List.replicate_zero] at hsp
    have he : cellsOf ss' = cellsOf ss := by rw [hsp.e]; simp
    refine opv_val (w' := w) (v := .tuple #[]) ?_ ⟨rfl, ?_, Fr.refl _ _⟩
    · simp only [execOp, ho, resolve, invoke, builtin]
      simp [hx, subv, Builtin.clear_, run_underlying hT]
    · unfold Blk
      rw [he]
      exact hb
  · have hx' : evO ρ x = .slice (some ⟨g, p + lo, none⟩) (n - lo) (n - lo) := by
      rw [hx]
      have hne : ¬ n = lo := by omega
      simp [subv, hne, Addr.add_lit]
    have hst := run_storeCells_at P g (p + lo) T (List.replicate (n - lo) u) 0 (cellsOf ss).toArray w hb (by simpa using hsp.fit) (by intro v hv; rw [List.eq_of_mem_replicate hv]; exact hone)
    simp only [Nat.add_zero] at hst
    have e := hsp.e
    have e2 : (cellsOf ss).toArray.toList.take (p + lo) ++ List.replicate (n - lo) u ++ (cellsOf ss).toArray.toList.drop (p + lo + (List.replicate (n - lo) u).length) = cellsOf ss' := e.symm
    have hw := setRow_heap w g _ (cellsOf ss').toArray T _ hb
    rw [e2] at hst
    have hzc : Builtin.zeroCells zv.cells (n - lo) = (List.replicate (n - lo) u).toArray := by rw [hz, hu]; exact zeroCells_one u _
    have hnl : n - lo ≠ 0 := by omega
    obtain ⟨m, hm⟩ : ∃ m, n - lo = m + 1 := ⟨n - lo - 1, by omega⟩
    refine opv_val (w' := w.setRow g (cellsOf ss').toArray) (v := .tuple #[]) ?_ ⟨rfl, hw, Fr.setRow g _⟩
    simp only [execOp, ho, resolve, invoke, builtin]
    rw [hm] at hx' hzc hst
    simp [hx', Builtin.clear_, run_underlying hT, zeroValue, typeInfo, hit, hiz, hzc, hst]
end Go.Xw
