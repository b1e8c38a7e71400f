/- The words of the walks: noughts appended. -/
import Derived.Test.YtklhbaghbmndeaaXObj
import Derived.Test.YtklhbaghbmndeaaXPure
set_option linter.unusedVariables false
set_option linter.unusedSimpArgs false
namespace Go.Xw
open Go
/-! ### Noughts appended: append(s, make([]byte, n)...) -/
section
variable {P : Program} {w : World}
def noughtV (n : Nat) : List Value := List.replicate n (Value.int .u8 0)
theorem noughtV_enc (n : Nat) : ((List.replicate n (0 : Int)).flatMap (kI .u8).enc) = noughtV n := by
  induction n with
  | zero => rfl
  | succ n ih =>
    rw [List.replicate_succ, List.flatMap_cons, ih]
    rfl
theorem noughtV_len (n : Nat) : (noughtV n).length = n := List.length_replicate
theorem noughtV_one (n : Nat) : ∀ u ∈ noughtV n, u.oneCell' = true := by
  intro u hu
  rw [List.eq_of_mem_replicate hu]
  rfl
theorem noughtV_cells (n : Nat) : Builtin.zeroCells #[Value.int .u8 0] n = (noughtV n).toArray := zeroCells_one _ n
theorem run_app_room_z (t u ty e : TypeId) (i : TypeInfo) (ht : P.underlying t = some (.slice e)) (hu : P.underlying u = some (.int .i64)) (hi : P.info? e = some i) (hz : i.zero = some (.int .u8 0)) (his : i.size = 1) (hib : i.bytes = 1)
    (g sLen sCap n : Nat) (cur : Array Value) (hg : w.heap[g]? = some (.cells cur e (0, 0))) (hn0 : 0 < n) (hnl : n ≤ 4294967296) (hroom : sLen + n ≤ sCap) (hfit : sLen + n ≤ cur.size) :
    (Builtin.append_ #[t, u] ty #[.slice (some ⟨g, 0, none⟩) sLen sCap, .int .i64 (n : Int)]).run P w =
      .ok (.slice (some ⟨g, 0, none⟩) (sLen + n) sCap) (w.setRow g (cur.toList.take sLen ++ noughtV n ++ cur.toList.drop (sLen + n)).toArray) := by
  have hst := run_storeCells_at P g sLen e (noughtV n) 0 cur w hg (by simpa [noughtV_len] using hfit) (noughtV_one n)
  simp only [Nat.add_zero, noughtV_len] at hst
  have hw : IntKind.i64.wrap (n : Int) = (n : Int) := w64 (by omega) (by omega)
  have h0 : ¬ ((n : Int) < 0) := by omega
  have h48 : ¬ (281474976710656 < (n : Int)) := by omega
  have hne : ¬ n = 0 := by omega
  simp [Builtin.append_, run_underlying ht, run_underlying hu, sizeOf, typeInfo, zeroValue, hi, hz, his, hib, asInt, asIntOf, hw, h0, h48, hne, hroom, Value.cells, noughtV_cells, Addr.add_lit, hst]
theorem run_app_grow_z (t u ty e : TypeId) (i : TypeInfo) (ht : P.underlying t = some (.slice e)) (hu : P.underlying u = some (.int .i64)) (hi : P.info? e = some i) (hz : i.zero = some (.int .u8 0)) (his : i.size = 1) (hib : i.bytes = 1)
    (v : Value) (A : Option Addr) (sLen sCap n : Nat) (hv : v = .slice A sLen sCap) (olds : List Value) (hfo : (Builtin.firstCells 1 sLen v).run P w.drew = .ok olds.toArray w.drew) (hn0 : 0 < n)
    (hg : sCap < sLen + n) (h63 : sLen + n ≤ 4294967296) (hfit : Builtin.nextslicecap (sLen + n) sCap * i.bytes ≤ 281474976710656) :
    (Builtin.append_ #[t, u] ty #[v, .int .i64 (n : Int)]).run P w =
      .ok (.slice (some ⟨w.heap.size, 0, none⟩) (sLen + n) (grownCap w (sLen + n) sCap e))
        (w.drew.alloc (.cells (olds.toArray ++ (noughtV n).toArray ++ Builtin.zeroCells #[Value.int .u8 0] (grownCap w (sLen + n) sCap e - (sLen + n))) e)) := by
  have hn : ¬ (sLen + n ≤ sCap) := by omega
  have h63' : ¬ (9223372036854775807 < ((sLen : Int) + (n : Int))) := by omega
  have h48' : ¬ (281474976710656 < Builtin.nextslicecap (sLen + n) sCap * i.bytes) := by omega
  rw [hib, Nat.mul_one] at h48'
  have hw : IntKind.i64.wrap (n : Int) = (n : Int) := w64 (by omega) (by omega)
  have h0 : ¬ ((n : Int) < 0) := by omega
  have h48 : ¬ (281474976710656 < (n : Int)) := by omega
  have hne : ¬ n = 0 := by omega
  subst hv
  simp [Builtin.append_, run_underlying ht, run_underlying hu, sizeOf, typeInfo, zeroValue, hi, hz, his, hib, asInt, asIntOf, hw, h0, h48, hne, hn, h63', h48', Question.forced, hfo, newRow, grownCap, Value.cells, noughtV_cells]
  try rfl
theorem Own.appendZ {E T U : TypeId} {B bs n : Nat} {v : Value} {L : List Int} (h : Own (kI .u8) E w B v L) (ty : TypeId) (hT : P.underlying T = some (.slice E)) (hU : P.underlying U = some (.int .i64)) (hE : elB P E = some (some (.int .u8 0), 1, bs))
    (hbs : bs = 1) (hn0 : 0 < n) (hlim : L.length + n ≤ LIM) (hB : B ≤ w.heap.size) : ∃ v' w', (Builtin.append_ #[T, U] ty #[v, .int .i64 (n : Int)]).run P w = .ok v' w' ∧ AppR (kI .u8) E B w v (L ++ List.replicate n 0) v' w' := by
  obtain ⟨i, hi, hiz, his, hib⟩ := elB_parts hE
  subst hbs
  unfold LIM at hlim
  have hLe : (L.flatMap (kI .u8).enc).length = L.length := by rw [len_flat]; exact Nat.mul_one _
  have hcat : (L ++ List.replicate n 0).flatMap (kI .u8).enc = L.flatMap (kI .u8).enc ++ noughtV n := by rw [List.flatMap_append, noughtV_enc]
  have hlen : ((L ++ List.replicate n 0).flatMap (kI .u8).enc).length = (L.length + n) * 1 := by rw [hcat, List.length_append, hLe, noughtV_len, Nat.mul_one]
  have hll : (L ++ List.replicate n 0).length = L.length + n := by simp
  have h63 : L.length + n ≤ maxLen := by simp only [maxLen]; omega
  have grown : ∀ (old : Nat), old < L.length + n →
      Own (kI .u8) E (w.drew.alloc (.cells ((L.flatMap (kI .u8).enc).toArray ++ (noughtV n).toArray ++ Builtin.zeroCells #[Value.int .u8 0] (grownCap w (L.length + n) old E - (L.length + n))) E)) B (.slice (some ⟨w.heap.size, 0, none⟩) (L.length + n) (grownCap w (L.length + n) old E)) (L ++ List.replicate n 0) ∧
      ∀ row : Option Nat, w.grownBy (w.drew.alloc (.cells ((L.flatMap (kI .u8).enc).toArray ++ (noughtV n).toArray ++ Builtin.zeroCells #[Value.int .u8 0] (grownCap w (L.length + n) old E - (L.length + n))) E)) row := by
    intro old ho
    have hge := grownCap_ge w (L.length + n) old E
    have hcm : grownCap w (L.length + n) old E ≤ maxLen := grownCap_le_maxLen w (L.length + n) old E h63
    refine ⟨?_, fun row => ⟨rfl, rfl, rfl, by simp, fun k hk _ => heap_alloc_old w.drew _ hk⟩⟩
    unfold Own
    rw [hll]
    refine ⟨hlen, .inr ⟨w.heap.size, _, _, rfl, hB, heap_alloc_new w.drew _, hge, hcm, ?_, ?_⟩⟩
    · show _ = grownCap w (L.length + n) old E * 1
      simp only [Array.size_append, List.size_toArray, size_zeroCells, hLe, noughtV_len, Nat.mul_one]
      simp
      omega
    · show List.take ((L.length + n) * 1) _ = _
      rw [hcat, Nat.mul_one]
      simp only [Array.toList_append]
      exact List.take_left' (by rw [List.length_append, hLe, noughtV_len])
  have fresh : ∀ g : Nat, g < w.heap.size → Off v g → ∀ n c : Nat, Off (.slice (some ⟨w.heap.size, 0, none⟩) n c) g := by
    intro g hg _ n c e
    have := Option.some.inj (show some w.heap.size = some g from e)
    omega
  rcases h.2 with ⟨rfl, hn0'⟩ | ⟨g, cap, cur, rfl, hbg, hgg, hnc, hcm, hcs, htake⟩
  · obtain rfl : L = [] := List.eq_nil_of_length_eq_zero hn0'
    have hr := run_app_grow_z (P := P) (w := w) T U ty E i hT hU hi hiz his hib (.slice none 0 0) none 0 0 n rfl [] (by simp [Builtin.firstCells]) hn0 (by omega) (by simpa using hlim) (growslice_fits (by simp only [List.length_nil] at hlim; omega) (by rw [hib]; simp only [List.length_nil] at hlim; omega))
    have hgr := grown 0 (by simp only [List.length_nil, Nat.zero_add]; omega)
    simp only [List.length_nil, Nat.zero_add, List.flatMap_nil, List.nil_append] at hgr hr
    exact ⟨_, _, hr, hgr.1, Fr.of_grownBy (hgr.2 _), fun g hg ho => fresh g hg ho _ _⟩
  · have hL : L.length * 1 ≤ cur.size := by show L.length * (kI .u8).size ≤ _; rw [hcs]; exact Nat.mul_le_mul_right _ hnc
    by_cases hroom : L.length + n ≤ cap
    · have hfit : L.length + n ≤ cur.size := by rw [hcs]; show _ ≤ cap * 1; omega
      have hr := run_app_room_z (P := P) T U ty E i hT hU hi hiz his hib g L.length cap n cur hgg hn0 (by omega) hroom hfit
      refine ⟨_, _, hr, ?_, Fr.of_grownBy (r := some g) ⟨rfl, rfl, rfl, by simp, fun k _ hk => setRow_other w g k _ (fun e => hk (by rw [e]))⟩, fun g' _ ho => ho⟩
      unfold Own
      rw [hll]
      refine ⟨hlen, .inr ⟨g, cap, _, rfl, hbg, setRow_heap w g cur _ E _ hgg, hroom, hcm, ?_, ?_⟩⟩
      · rw [← hcs]
        simp only [List.size_toArray, List.length_append, List.length_take, List.length_drop, Array.length_toList, noughtV_len]
        omega
      · show List.take ((L.length + n) * 1) _ = _
        have htake' : cur.toList.take L.length = L.flatMap (kI .u8).enc := by
          have : cur.toList.take (L.length * 1) = _ := htake
          rwa [Nat.mul_one] at this
        rw [hcat, Nat.mul_one, htake']
        exact List.take_left' (by rw [List.length_append, hLe, noughtV_len])
    · have holds : ∀ j u, (L.flatMap (kI .u8).enc)[j]? = some u → w.cell? ((⟨g, 0, none⟩ : Addr).add j) = some u := World.ownsRow.cells (g := g) h rfl
      have hfo := run_firstCells_some (P := P) w.drew 1 L.length ⟨g, 0, none⟩ L.length cap (L.flatMap (kI .u8).enc) (by rw [hLe, Nat.mul_one]) (by simpa using holds)
      have hr := run_app_grow_z (P := P) T U ty E i hT hU hi hiz his hib (.slice (some ⟨g, 0, none⟩) L.length cap) _ L.length cap n rfl (L.flatMap (kI .u8).enc) hfo hn0 (by omega) (by omega) (growslice_fits (by omega) (by rw [hib]; omega))
      have hgr := grown cap (by omega)
      exact ⟨_, _, hr, hgr.1, Fr.of_grownBy (hgr.2 _), fun g' hg ho => fresh g' hg ho _ _⟩
theorem opv_appendZ {ρ : Env} {o : Oper} {x y : Operand} {E T U : TypeId} {B bs n : Nat} {v : Value} {L : List Int} (ho : o.op = .call ⟨.builtin .append, #[x, y], #[T, U]⟩) (hT : P.underlying T = some (.slice E)) (hU : P.underlying U = some (.int .i64)) (hE : elB P E = some (some (.int .u8 0), 1, bs))
    (hbs : bs = 1) (hx : evO ρ x = v) (hy : evO ρ y = .int .i64 (n : Int)) (h : Own (kI .u8) E w B v L) (hn0 : Nat.blt 0 n = true) (hlim : L.length + n ≤ LIM) (hB : B ≤ w.heap.size) : OpV P o ρ w (AppR (kI .u8) E B w v (L ++ List.replicate n 0)) := by
  obtain ⟨v', w', hrun, hR⟩ := h.appendZ (P := P) (T := T) (U := U) (n := n) o.type hT hU hE hbs (by simpa [Nat.blt_eq] using hn0) hlim hB
  exact opv_val (w' := w') (v := v') (by simp [execOp, ho, resolve, invoke, builtin, hx, hy, hrun]) hR
end
end Go.Xw
