/- The words of the walks: literals of structs and arrays, part by part. -/
import Derived.Test.YtklhbaghbmndeaaXEq
import Derived.Laws.Tables
set_option linter.unusedVariables false
set_option linter.unusedSimpArgs false
namespace Go.Xw
open Go
theorem foldl_zip (o : Nat) : ∀ (xs : List Value) (k : Nat) (cs : List Value), o + k + xs.length ≤ cs.length →
    (xs.zipIdx k).foldl (fun (cs : Array Value) (p : Value × Nat) => cs.setIfInBounds (o + p.2) p.1) cs.toArray = (cs.take (o + k) ++ xs ++ cs.drop (o + k + xs.length)).toArray
  | [], k, cs, h => by simp
  | x :: xs, k, cs, h => by
    have hk : o + k < cs.length := by simp at h; omega
    have e : cs.toArray.setIfInBounds (o + k) x = (cs.set (o + k) x).toArray := by simp
    rw [List.zipIdx_cons, List.foldl_cons]
    show (xs.zipIdx (k + 1)).foldl _ (cs.toArray.setIfInBounds (o + k) x) = _
    rw [e, foldl_zip o xs (k + 1) (cs.set (o + k) x) (by simp at h ⊢; omega)]
    have e1 : (cs.set (o + k) x).take (o + (k + 1)) = cs.take (o + k) ++ [x] := by
      rw [← Nat.add_assoc, List.take_add_one, List.take_set_of_le (Nat.le_refl _)]
      simp [hk]
    have e2 : (cs.set (o + k) x).drop (o + (k + 1) + xs.length) = cs.drop (o + k + (x :: xs).length) := by
      rw [List.drop_set_of_lt (by omega)]
      congr 1
      simp only [List.length_cons]
      omega
    rw [e1, e2]
    simp
def placesB (P : Program) (t : TypeId) : Option (List (Nat × Nat)) :=
  match P.underlying t with
  | some (.struct fs) => fs.toList.mapM (fun f => (P.info? f.type).map fun i => (f.offset, i.size))
  | _ => none
def Fl (place : Nat → Option (Nat × Nat)) (cs : List Value) (parts : List (Nat × Value)) (res : List Value) : Prop := Instr.fill place cs.toArray parts = some res.toArray
theorem fl_nil {place : Nat → Option (Nat × Nat)} {cs : List Value} : Fl place cs [] cs := rfl
theorem fl_cons {place : Nat → Option (Nat × Nat)} {cs cs' xs res : List Value} {j off n : Nat} {v : Value} {parts : List (Nat × Value)} (hp : place j = some (off, n)) (hv : v.cells = xs.toArray) (hn : xs.length = n) (hs : Spl cs off xs cs') (h : Fl place cs' parts res) : Fl place cs ((j, v) :: parts) res := by
  have hf := hs.fit
  unfold Fl at h ⊢
  have e := foldl_zip off xs 0 cs (by omega)
  have e3 : Array.foldl (fun (cs : Array Value) (p : Value × Nat) => cs.setIfInBounds (off + p.2) p.1) cs.toArray (xs.toArray.zipIdx) = cs'.toArray := by
    rw [hs.e]
    simpa using e
  rw [← h, ← e3]
  have h2 : ¬ cs.length < off + xs.length := by omega
  conv => lhs; unfold Instr.fill
  simp [hp, hv, hn, h2]
  omega
theorem run_build_st {P : Program} {w : World} {t : TypeId} {fs : Array Field} {zs : List Seg} {places : List (Nat × Nat)} {parts : List (Nat × Value)} {res : List Value} (hu : P.underlying t = some (.struct fs)) (hz : (P.info? t).map (·.zero) = some (some (aggV zs))) (hp : placesB P t = some places) (h : Fl (fun i => places[i]?) (cellsOf zs) parts res) :
    (Instr.build t parts.toArray).run P w = .ok (.agg res.toArray) w := by
  refine run_build w t parts.toArray res.toArray ?_
  obtain ⟨it, hit, hie⟩ := Option.map_eq_some_iff.1 hz
  unfold placesB at hp
  simp only [hu] at hp
  unfold Program.built
  simp only [hit, hu, hie, hp]
  have : (fun i : Nat => places.toArray[i]?) = (fun i : Nat => places[i]?) := by funext i; simp
  simp only [this]
  exact h
theorem run_build_arr {P : Program} {w : World} {t e : TypeId} {n s : Nat} {zs : List Seg} {parts : List (Nat × Value)} {res : List Value} (hu : P.underlying t = some (.array n e)) (hz : (P.info? t).map (·.zero) = some (some (aggV zs))) (hs : szB P e = some s) (h : Fl (fun i => some (i * s, s)) (cellsOf zs) parts res) :
    (Instr.build t parts.toArray).run P w = .ok (.agg res.toArray) w := by
  refine run_build w t parts.toArray res.toArray ?_
  obtain ⟨it, hit, hie⟩ := Option.map_eq_some_iff.1 hz
  obtain ⟨ie, hi2, he2⟩ := Option.map_eq_some_iff.1 hs
  subst he2
  unfold Program.built
  simp only [hit, hu, hie, hi2]
  exact h
section
variable {P : Program} {ρ : Env} {w : World} {o : Oper}
theorem xr_buildS {t : TypeId} {fs : Array Field} {pl : List (Nat × Operand)} {vals : List (Nat × Value)} {zs res : List Seg} {places : List (Nat × Nat)} (ho : o.op = .build t pl.toArray) (hb : BL ρ pl vals) (hu : P.underlying t = some (.struct fs)) (hz : (P.info? t).map (·.zero) = some (some (aggV zs))) (hp : placesB P t = some places) (h : Fl (fun i => places[i]?) (cellsOf zs) vals (cellsOf res)) :
    (execOp (evO ρ) o).run P w = .ok (.value (aggV res)) w := xr_build ho hb (run_build_st hu hz hp h)
theorem xr_buildA {t e : TypeId} {n s : Nat} {pl : List (Nat × Operand)} {vals : List (Nat × Value)} {zs res : List Seg} (ho : o.op = .build t pl.toArray) (hb : BL ρ pl vals) (hu : P.underlying t = some (.array n e)) (hz : (P.info? t).map (·.zero) = some (some (aggV zs))) (hs : szB P e = some s) (h : Fl (fun i => some (i * s, s)) (cellsOf zs) vals (cellsOf res)) :
    (execOp (evO ρ) o).run P w = .ok (.value (aggV res)) w := xr_build ho hb (run_build_arr hu hz hs h)
end
/-! ### Rows that lie apart -/
theorem OffV.symm {v u : Value} (h : OffV v u) : OffV u v := fun k hk e => h k e.symm hk.symm
theorem OffV.nilL (v : Value) : OffV (.slice none 0 0) v := fun k hk => by simp [Value.ownBlock] at hk
theorem OffV.new {α : Type} {K : Kd α} {E : TypeId} {w : World} {B : Nat} {v u : Value} {l : List α} (h : Own K E w B v l) (z : ∀ k, u.ownBlock = some k → w.heap.size ≤ k) : OffV v u := fun k hk e => by
  have h1 := h.lt hk
  have h2 := z k e.symm
  omega
theorem OffV.call {α β : Type} {K : Kd α} {K2 : Kd β} {E E2 : TypeId} {w w' : World} {B : Nat} {v u : Value} {l : List α} {m : List β} (h : Own K E w B v l) (o : Own K2 E2 w' w.heap.size u m) : OffV v u := fun k hk e => by
  have h1 := h.lt hk
  have h2 := o.ge e.symm
  omega
theorem OffV.app {α : Type} {K : Kd α} {E : TypeId} {w : World} {B : Nat} {v u u' : Value} {l : List α} (h : Own K E w B v l) (hv : OffV v u) (on : ∀ g, g < w.heap.size → Off u g → Off u' g) : OffV v u' := fun k hk e => on k (h.lt hk) (fun e2 => hv k hk e2.symm) e.symm
/-! ### Function values -/
section
variable {P : Program} {ρ : Env} {w : World} {o : Oper}
theorem xr_makeFunc {f : FuncId} {cs : List Operand} {L : List Value} (ho : o.op = .makeFunc (.func f) #[] cs.toArray) (hc : cs.map (evO ρ) = L) : (execOp (evO ρ) o).run P w = .ok (.value (.func (.func f) #[] L.toArray)) w := by
  have h : cs.toArray.map (evO ρ) = L.toArray := by rw [List.map_toArray, hc]
  simp only [execOp, ho]
  simp [Instr.makeFunc, h]
theorem opv_callV {f : FuncId} {x : Operand} {ops : List Operand} {ts : Array TypeId} {L C : List Value} {R : Value → World → Prop} (ho : o.op = .call ⟨.value x, ops.toArray, ts⟩) (hx : evO ρ x = .func (.func f) #[] C.toArray) (hc : calB P f = some true) (ha : ops.map (evO ρ) = L)
    (h : Calls P f (L ++ C).toArray w fun e w' => ∃ v, e = .returned v ∧ R v w') : OpV P o ρ w R := by
  unfold calB at hc
  obtain ⟨fn, hf, he⟩ := Option.map_eq_some_iff.1 hc
  simp only [Bool.and_eq_true, Bool.not_eq_true'] at he
  unfold OpV
  have hrun : (execOp (evO ρ) o).run P w = .ok (.enter f (L ++ C).toArray) w := by
    have h1 := he.1
    have h2 := he.2
    have h1' : ¬ fn.name = "runtime.NumGoroutine" := by simpa using h1
    have h2' : ¬ fn.body = none := by intro e; rw [e] at h2; simp at h2
    have ha' : ops.toArray.map (evO ρ) = L.toArray := by rw [List.map_toArray, ha]
    simp only [execOp, ho, resolve, ha']
    simp [invoke, callFunc, Deferred.ofValue, hx, hf, h1', h2']
  rw [hrun]
  exact h
end
end Go.Xw
