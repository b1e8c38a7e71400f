/- DirActs: texts merged, part 8 of 8. The last part proves that the law DirActs holds for every input. -/
import Derived.Test.YtdifnahlheogdaaGreatDoorPkDirActs7
import Derived.Test.YtdifnahlheogdaaGreatDoorCards
import Derived.Test.YtdifnahlheogdaaGreatDoorTie
import Derived.OpenShut
import Derived.ProofKit
import Derived.ChangeOld
import Derived.Below
import Derived.SizedLaws
import Derived.SevenTiedAt
set_option maxRecDepth 100000
set_option maxHeartbeats 4000000
set_option linter.unusedVariables false
set_option linter.unusedSimpArgs false
set_option linter.unusedSectionVars false
namespace Go.Proofs.YtdifnahlheogdaaGreatDoor.Pure
open Go Go.Xw Go.Yw
abbrev Ls := S_dir_listed
def nm (x : Ls) : List Int := rn x.q.Name
def qOf (b : List Int) : S_api_Queue := queueOf (b.drop 8) (ix b 5).toNat
def dOf (b : List Int) : List Int := dirOf (b.drop 8) (ix b 5).toNat
def lastOk (out : List Ls) (q : S_api_Queue) : Prop := out = [] ∨ cmpL (rn ((ix out ((out.length - 1 : Nat) : Int)).q.Name)) (rn q.Name) < 0
instance (out : List Ls) (q : S_api_Queue) : Decidable (lastOk out q) := inferInstanceAs (Decidable (_ ∨ _))
def rdL (g : Int → List Int × Int) : List Int → List Ls → List Ls × Int
  | [], out => (out, 0)
  | at_ :: r, out => if (g at_).2 ≠ 0 then ([], (g at_).2) else if GetQ (g at_).1 ∧ lastOk out (qOf (g at_).1) then rdL g r (out ++ [⟨qOf (g at_).1, at_⟩]) else ([], 31)
def readP (g : Int → List Int × Int) (k : Int) : List Ls × Int :=
  if k = 0 then ([], 0) else if (g k).2 ≠ 0 then ([], (g k).2) else if GetD (g k).1 then rdL g (dOf (g k).1) [] else ([], 31)
theorem getd_bytes (d : Dev) (k : Int) : Bytes (readD d k).1 ∧ (readD d k).1.length ≤ 64 := by
  unfold readD
  split
  · split
    · exact ⟨by intro x hx; simp at hx, by simp⟩
    · refine ⟨octs_byt _, ?_⟩
      rw [octs_len]
      simp [lineC]
  · exact ⟨by intro x hx; simp at hx, by simp⟩
theorem getQ_name {b : List Int} (h : GetQ b) : NameOk (qOf b).Name ∧ (qOf b).Name.length ≤ 24 := by
  refine ⟨h.2.2.2.1.1, ?_⟩
  unfold qOf queueOf
  simp only [List.length_map]
  unfold part
  have := h.2.2.1
  rw [List.length_take]
  omega
theorem read_from {fu n m : Nat} {B : Int} {d : Dev} {a : AA} {t5 : S_api_Dir × Bool} (hfu : 3000 < fu) (h : DevOk m B d) (hm : m ≤ 100000) (hl : t5.1.Queues.length ≤ 16) :
    ∀ (k i : Nat) (out : List Ls), i ≤ t5.1.Queues.length → t5.1.Queues.length - i < k → out.length ≤ i → (∀ x ∈ out, x.q.Name.length ≤ 24) →
    (loopM (dir_read.s0 fu (SO n d a) t5) k (out, (i : Int))).bind (fun e9 => match e9 with | Sum.inl p => some p | Sum.inr x11 => some (x11, 0)) = some (rdL (readD d) (t5.1.Queues.drop i) out)
  | 0, i, out, _, h2, _, _ => by omega
  | k + 1, i, out, h1, h2, h3, h4 => by
    have hu : loopM (dir_read.s0 fu (SO n d a) t5) (k + 1) (out, (i : Int)) = (match dir_read.s0 fu (SO n d a) t5 (out, (i : Int)) with | none => none | some (.inl e) => some e | some (.inr s') => loopM (dir_read.s0 fu (SO n d a) t5) k s') := by
      conv => lhs; unfold loopM
      generalize dir_read.s0 fu (SO n d a) t5 (out, (i : Int)) = q
      rcases q with _ | _ | _ <;> rfl
    rw [hu]
    generalize hqs : t5.1.Queues = qs at *
    by_cases e : i < qs.length
    · have c0 : (i : Int) < (qs.length : Int) := by omega
      have c1 : 0 ≤ (i : Int) ∧ (i : Int) < (qs.length : Int) := by omega
      have w3 : IntKind.i64.wrap ((i : Int) + 1) = ((i + 1 : Nat) : Int) := by rw [w64 (by omega) (by omega)]; omega
      rw [List.drop_eq_getElem_cons e]
      generalize hat : qs[i] = at_
      obtain ⟨gb, gl⟩ := getd_bytes d at_
      have hgq : label_GetQueue.f fu (readD d at_).1 = some (if GetQ (readD d at_).1 then (qOf (readD d at_).1, true) else (noQ, false)) := queueGet_eq (by omega) gb (by omega)
      have hst : dir_read.s0 fu (SO n d a) t5 (out, (i : Int)) = if (readD d at_).2 ≠ 0 then some (.inl (.inl ([], (readD d at_).2))) else if GetQ (readD d at_).1 ∧ lastOk out (qOf (readD d at_).1) then some (.inr (out ++ [⟨qOf (readD d at_).1, at_⟩], ((i + 1 : Nat) : Int))) else some (.inl (.inl ([], 31))) := by
        unfold dir_read.s0
        simp only [hqs]
        rw [decide_eq_true c0, if_pos rfl, if_pos c1, ix_nat e, hat, sget_eq h hm (by omega), Option.bind_some]
        by_cases e1 : (readD d at_).2 = 0
        · rw [decide_eq_true e1, if_neg (by decide), if_neg (by simpa using e1), hgq, Option.bind_some]
          by_cases e2 : GetQ (readD d at_).1
          · have hn := getQ_name e2
            have hlim : out.length + ([(⟨qOf (readD d at_).1, at_⟩ : Ls)] : List Ls).length ≤ LIM := lim_of' (by simp; omega)
            rw [if_pos e2]
            simp only
            rw [if_neg (by decide)]
            by_cases e3 : out = []
            · rw [decide_eq_false (show ¬ ((out.length : Int) > 0) by rw [e3]; simp), if_neg (by decide), if_pos (show GetQ (readD d at_).1 ∧ lastOk out (qOf (readD d at_).1) from ⟨e2, .inl e3⟩), w3]
              exact if_pos hlim
            · have hp : 0 < out.length := List.length_pos_iff.2 e3
              have w4 : IntKind.i64.wrap ((out.length : Int) - 1) = ((out.length - 1 : Nat) : Int) := by rw [w64 (by omega) (by omega)]; omega
              have c3 : 0 ≤ ((out.length - 1 : Nat) : Int) ∧ ((out.length - 1 : Nat) : Int) < (out.length : Int) := by omega
              have hl1 : (ix out ((out.length - 1 : Nat) : Int)).q.Name.length ≤ 24 := by
                rw [ix_nat (show out.length - 1 < out.length by omega)]
                exact h4 _ (List.getElem_mem _)
              rw [decide_eq_true (show (out.length : Int) > 0 by omega), if_pos rfl, w4, if_pos c3, compare_eq (by omega) (by omega) (show (qOf (readD d at_).1).Name.length ≤ 300 by omega), Option.bind_some, w3]
              by_cases e4 : cmpL (rn (ix out ((out.length - 1 : Nat) : Int)).q.Name) (rn (qOf (readD d at_).1).Name) < 0
              · rw [decide_eq_false (show ¬ (cmpL (rn (ix out ((out.length - 1 : Nat) : Int)).q.Name) (rn (qOf (readD d at_).1).Name) ≥ 0) by omega), if_neg (by decide), if_pos (show GetQ (readD d at_).1 ∧ lastOk out (qOf (readD d at_).1) from ⟨e2, .inr e4⟩)]
                exact if_pos hlim
              · have hno : ¬ (GetQ (readD d at_).1 ∧ lastOk out (qOf (readD d at_).1)) := by
                  rintro ⟨_, hx | hx⟩
                  · exact e3 hx
                  · exact e4 hx
                rw [decide_eq_true (show cmpL (rn (ix out ((out.length - 1 : Nat) : Int)).q.Name) (rn (qOf (readD d at_).1).Name) ≥ 0 by omega), if_pos rfl, if_neg hno]
          · have hno : ¬ (GetQ (readD d at_).1 ∧ lastOk out (qOf (readD d at_).1)) := fun x => e2 x.1
            rw [if_neg hno, if_neg e2]
            rfl
        · rw [decide_eq_false e1, if_pos (by decide), if_pos (by simpa using e1)]
      rw [hst]
      conv => rhs; unfold rdL
      by_cases e1 : (readD d at_).2 ≠ 0
      · rw [if_pos e1, if_pos e1]
        rfl
      · rw [if_neg e1, if_neg e1]
        by_cases e2 : GetQ (readD d at_).1 ∧ lastOk out (qOf (readD d at_).1)
        · rw [if_pos e2, if_pos e2]
          have := read_from (fu := fu) (n := n) (a := a) (t5 := t5) hfu h hm (by rw [hqs]; omega) k (i + 1) (out ++ [⟨qOf (readD d at_).1, at_⟩]) (by rw [hqs]; omega) (by rw [hqs]; omega) (by simp; omega) (fun x hx => by
            rcases List.mem_append.1 hx with hx | hx
            · exact h4 x hx
            · rw [List.mem_singleton.1 hx]
              exact (getQ_name e2.1).2)
          rw [hqs] at this
          exact this
        · rw [if_neg e2, if_neg e2]
          rfl
    · have c0 : ¬ ((i : Int) < (qs.length : Int)) := by omega
      have hst : dir_read.s0 fu (SO n d a) t5 (out, (i : Int)) = some (.inl (.inr out)) := by
        unfold dir_read.s0
        simp only [hqs]
        rw [decide_eq_false c0, if_neg (by decide)]
      rw [hst, List.drop_of_length_le (show qs.length ≤ i by omega)]
      rfl
theorem getD_len {b : List Int} (h : GetD b) : (dOf b).length ≤ 16 := h.2.2.2.1.1.2
theorem readP_eq {fu n m : Nat} {B : Int} {d : Dev} {a : AA} (hfu : 3000 < fu) (h : DevOk m B d) (hm : m ≤ 100000) (k : Int) : dir_read.f fu (SO n d a) k = some (readP (readD d) k) := by
  unfold dir_read.f readP
  by_cases e : k = 0
  · rw [decide_eq_true e, if_pos rfl, if_pos e]
  · rw [decide_eq_false e, if_neg (by decide), if_neg e, sget_eq h hm (by omega), Option.bind_some]
    obtain ⟨gb, gl⟩ := getd_bytes d k
    by_cases e1 : (readD d k).2 = 0
    · rw [decide_eq_true e1, if_neg (by decide), if_neg (by simpa using e1), dirGet_eq gb (by omega) (by omega), Option.bind_some]
      by_cases e2 : GetD (readD d k).1
      · rw [if_pos e2, if_pos e2]
        have := read_from (fu := fu) (n := n) (a := a) (t5 := ((⟨dOf (readD d k).1⟩ : S_api_Dir), true)) hfu h hm (getD_len e2) fu 0 [] (by omega) (by have := getD_len e2; show (dOf (readD d k).1).length - 0 < fu; omega) (by simp) (fun x hx => by simp at hx)
        exact this
      · rw [if_neg e2, if_neg e2]
        rfl
    · rw [decide_eq_false e1, if_pos (by decide), if_pos (by simpa using e1)]
def queB (q : S_api_Queue) : List Int := sealed (summed 5 (q.Name.length : Int) (queueE q))
def dirB (l : List Int) : List Int := sealed (summed 6 (l.length : Int) (rowE l l.length))
theorem queB_len {q : S_api_Queue} (hs : q.Name.length ≤ 300) (h : QueueOk q) : (queB q).length = 64 := (queueGet_put (fu := 400) (Nat.le_refl _) hs h).2
theorem queB_bytes {q : S_api_Queue} (hs : q.Name.length ≤ 300) (h : QueueOk q) : Bytes (queB q) := by
  have := h.len hs
  exact sealed_bytes (summed_bytes (by omega) (by omega) (queueE_bytes q))
theorem queB_get {q : S_api_Queue} (hs : q.Name.length ≤ 300) (h : QueueOk q) : GetQ (queB q) ∧ qOf (queB q) = q := by
  have h1 := (queueGet_put (fu := 400) (Nat.le_refl _) hs h).1
  have h2 := queueGet_eq (fu := 400) (Nat.le_refl _) (queB_bytes hs h) (by rw [queB_len hs h]; omega)
  unfold queB at h2 ⊢
  rw [h1] at h2
  have h2 := Option.some.inj h2
  split at h2
  · rename_i hg
    exact ⟨hg, (Prod.ext_iff.1 h2).1.symm⟩
  · exact absurd (show true = false from (Prod.ext_iff.1 h2).2) (by decide)
theorem dirB_len {l : List Int} (h : DirOk l) : (dirB l).length = 64 := (dirGet_put (fu := 400) h (by omega)).2
theorem dirB_bytes {l : List Int} (h : DirOk l) : Bytes (dirB l) := by
  have := h.1
  exact sealed_bytes (summed_bytes (by omega) (by omega) (rowE_bytes _ _))
theorem dirB_get {l : List Int} (h : DirOk l) : GetD (dirB l) ∧ dOf (dirB l) = l := by
  have h1 := (dirGet_put (fu := 400) h (by omega)).1
  have h2 := dirGet_eq (fu := 400) (dirB_bytes h) (by rw [dirB_len h]; omega) (by omega)
  unfold dirB at h2 ⊢
  rw [h1] at h2
  have h2 := Option.some.inj h2
  split at h2
  · rename_i hg
    refine ⟨hg, ?_⟩
    have := (Prod.ext_iff.1 h2).1
    injection this with this
    exact this.symm
  · exact absurd (show true = false from (Prod.ext_iff.1 h2).2) (by decide)
def Sorted (L : List Ls) : Prop := L.Pairwise fun x y => cmpL (nm x) (nm y) < 0
theorem rdL_ok {g : Int → List Int × Int} : ∀ (L2 L1 : List Ls), Sorted (L1 ++ L2) → (∀ x ∈ L2, g x.at_ = (queB x.q, 0) ∧ QueueOk x.q ∧ x.q.Name.length ≤ 300) → rdL g (L2.map (·.at_)) L1 = (L1 ++ L2, 0)
  | [], L1, _, _ => by simp [rdL]
  | x :: L2, L1, hs, h => by
    obtain ⟨h1, h2, h3⟩ := h x List.mem_cons_self
    obtain ⟨g1, g2⟩ := queB_get h3 h2
    rw [List.map_cons]
    unfold rdL
    rw [h1, if_neg (by simp)]
    have hl : lastOk L1 (qOf (queB x.q)) := by
      rw [g2]
      by_cases e : L1 = []
      · exact .inl e
      · right
        have hp : 0 < L1.length := List.length_pos_iff.2 e
        rw [ix_nat (show L1.length - 1 < L1.length by omega)]
        unfold Sorted at hs
        rw [List.pairwise_append] at hs
        exact hs.2.2 _ (List.getElem_mem _) x List.mem_cons_self
    rw [if_pos ⟨g1, hl⟩]
    simp only [g2]
    have := rdL_ok L2 (L1 ++ [x]) (by rw [List.append_assoc]; exact hs) fun y hy => h y (List.mem_cons_of_mem _ hy)
    rw [List.append_assoc] at this
    exact this
theorem list_eq' {fu n m : Nat} {B : Int} {d : Dev} {a : AA} {k : Int} {L : List Ls} {e : Int} (hfu : 3000 < fu) (h : DevOk m B d) (hm : m ≤ 100000) (hr : readP (readD d) k = (L, e)) (hL : L.length ≤ 100) : dir_List.f fu (SO n d a) k = some (L.map (·.q), e) := by
  unfold dir_List.f
  rw [readP_eq hfu h hm, Option.bind_some, hr]
  have : loopM (dir_List.s0 fu (L, e)) fu (([] : List S_api_Queue), 0) = some (L.map (·.q)) := by
    refine loopM_run (S := fun j => ((L.take j).map (·.q), (j : Int))) L.length (by simp) (fun j hj => ?_) ?_ (by omega)
    · have w3 : IntKind.i64.wrap ((j : Int) + 1) = ((j + 1 : Nat) : Int) := by rw [w64 (by omega) (by omega)]; omega
      unfold dir_List.s0
      rw [decide_eq_true (show (j : Int) < (L.length : Int) by omega), if_pos rfl, if_pos (show 0 ≤ (j : Int) ∧ (j : Int) < (L.length : Int) by omega), if_pos (lim_of' (by simp; omega)), w3]
      simp only [ix_nat hj, List.take_add_one, List.getElem?_eq_getElem hj, Option.toList_some, List.map_append, List.map_cons, List.map_nil]
    · unfold dir_List.s0
      simp
  rw [this]
  rfl
def cAt (L : List Ls) (s : List UInt8) (i : Nat) : Int := cmpL (nm (ix L (i : Int))) (rn s)
theorem cAt_mono {L : List Ls} (hs : Sorted L) {s : List UInt8} {p q : Nat} (hp : p < L.length) (hq : q < p) (h : cAt L s p < 0) : cAt L s q < 0 := by
  unfold cAt at h ⊢
  rw [ix_nat hp] at h
  rw [ix_nat (by omega)]
  exact cmpL_trans (List.pairwise_iff_getElem.1 hs q p (by omega) hp hq) h
theorem shr1 (x : Nat) : shR .u64 (x : Int) 1 = ((x / 2 : Nat) : Int) := by
  unfold shR
  show Int.fdiv (x : Int) (2 ^ min ((1 : Int).toNat) 64) = _
  rw [show (2 : Int) ^ min ((1 : Int).toNat) 64 = 2 from by decide, Int.fdiv_eq_ediv_of_nonneg _ (by decide)]
  omega
theorem search_from {fu : Nat} (hfu : 3000 < fu) {L : List Ls} {s : List UInt8} (hl : L.length ≤ 100) (hn : ∀ x ∈ L, x.q.Name.length ≤ 300) (hs : s.length ≤ 300) (hS : Sorted L) : ∀ (k i j : Nat), i ≤ j → j ≤ L.length → j - i < k → (∀ q, q < i → cAt L s q < 0) → (∀ q, j ≤ q → q < L.length → 0 ≤ cAt L s q) →
    ∃ p : Nat, loopM (slices_BinarySearchFunc_dir_place_1.s0 fu L s) k ((i : Int), (j : Int)) = some (p : Int) ∧ p ≤ L.length ∧ (∀ q, q < p → cAt L s q < 0) ∧ (∀ q, p ≤ q → q < L.length → 0 ≤ cAt L s q)
  | 0, i, j, _, _, h, _, _ => by omega
  | k + 1, i, j, h1, h2, h3, h4, h5 => by
    have hu : loopM (slices_BinarySearchFunc_dir_place_1.s0 fu L s) (k + 1) ((i : Int), (j : Int)) = (match slices_BinarySearchFunc_dir_place_1.s0 fu L s ((i : Int), (j : Int)) with | none => none | some (.inl e) => some e | some (.inr s') => loopM (slices_BinarySearchFunc_dir_place_1.s0 fu L s) k s') := by
      conv => lhs; unfold loopM
      generalize slices_BinarySearchFunc_dir_place_1.s0 fu L s ((i : Int), (j : Int)) = q
      rcases q with _ | _ | _ <;> rfl
    rw [hu]
    by_cases e : i < j
    · have hmid : IntKind.i64.wrap (shR .u64 (IntKind.u64.wrap (IntKind.i64.wrap ((i : Int) + (j : Int)))) 1) = (((i + j) / 2 : Nat) : Int) := by
        rw [w64 (n := (i : Int) + (j : Int)) (by omega) (by omega), wu64 (by omega) (by omega), show (i : Int) + (j : Int) = ((i + j : Nat) : Int) by omega, shr1, w64 (by omega) (by omega)]
      have hm1 : (i + j) / 2 < j := by omega
      have hm2 : i ≤ (i + j) / 2 := by omega
      generalize hmm : (i + j) / 2 = m at hmid hm1 hm2
      have hml : m < L.length := by omega
      have w3 : IntKind.i64.wrap ((m : Int) + 1) = ((m + 1 : Nat) : Int) := by rw [w64 (by omega) (by omega)]; omega
      have hc : dir_place_1.f fu (ix L (m : Int)) s = some (cAt L s m) := by
        unfold dir_place_1.f
        rw [compare_eq (by omega) (by rw [ix_nat hml]; exact hn _ (List.getElem_mem _)) hs]
        rfl
      have hst : slices_BinarySearchFunc_dir_place_1.s0 fu L s ((i : Int), (j : Int)) = if cAt L s m < 0 then some (.inr (((m + 1 : Nat) : Int), (j : Int))) else some (.inr ((i : Int), (m : Int))) := by
        unfold slices_BinarySearchFunc_dir_place_1.s0
        simp only [hmid]
        rw [decide_eq_true (show (i : Int) < (j : Int) by omega), if_pos rfl, if_pos (show 0 ≤ (m : Int) ∧ (m : Int) < (L.length : Int) by omega), hc, Option.bind_some, w3]
        by_cases q : cAt L s m < 0
        · rw [decide_eq_true q, if_pos rfl, if_pos q]
          rfl
        · rw [decide_eq_false q, if_neg (by decide), if_neg q]
          rfl
      rw [hst]
      by_cases q : cAt L s m < 0
      · rw [if_pos q]
        exact search_from hfu hl hn hs hS k (m + 1) j (by omega) h2 (by omega) (fun x hx => by
          rcases Nat.lt_or_ge x m with y | y
          · exact cAt_mono hS hml y q
          · rw [show x = m by omega]
            exact q) h5
      · rw [if_neg q]
        refine search_from hfu hl hn hs hS k i m hm2 (by omega) (by omega) h4 (fun x hx hx2 => ?_)
        rcases Nat.eq_or_lt_of_le hx with y | y
        · rw [← y]
          omega
        · have := mt (cAt_mono (s := s) hS hx2 y) q
          omega
    · refine ⟨i, ?_, by omega, h4, fun q hq hq2 => h5 q (by omega) hq2⟩
      have hst : slices_BinarySearchFunc_dir_place_1.s0 fu L s ((i : Int), (j : Int)) = some (.inl (i : Int)) := by
        unfold slices_BinarySearchFunc_dir_place_1.s0
        rw [decide_eq_false (show ¬ (i : Int) < (j : Int) by omega), if_neg (by decide)]
      rw [hst]
theorem place_eq {fu : Nat} (hfu : 3000 < fu) {L : List Ls} {s : List UInt8} (hl : L.length ≤ 100) (hn : ∀ x ∈ L, x.q.Name.length ≤ 300) (hs : s.length ≤ 300) (hS : Sorted L) :
    ∃ p : Nat, dir_place.f fu L s = some ((p : Int), decide (p < L.length ∧ cAt L s p = 0)) ∧ p ≤ L.length ∧ (∀ q, q < p → cAt L s q < 0) ∧ (∀ q, p ≤ q → q < L.length → 0 ≤ cAt L s q) := by
  obtain ⟨p, h1, h2, h3, h4⟩ := search_from hfu hl hn hs hS fu 0 L.length (by omega) (by omega) (by omega) (fun q hq => by omega) (fun q h1 h2 => by omega)
  refine ⟨p, ?_, h2, h3, h4⟩
  unfold dir_place.f slices_BinarySearchFunc_dir_place_1.f
  have e : ((0 : Nat) : Int) = 0 := rfl
  rw [e] at h1
  rw [h1, Option.bind_some]
  by_cases q : p < L.length
  · have hc : dir_place_1.f fu (ix L (p : Int)) s = some (cAt L s p) := by
      unfold dir_place_1.f
      rw [compare_eq (by omega) (by rw [ix_nat q]; exact hn _ (List.getElem_mem _)) hs]
      rfl
    rw [decide_eq_true (show (p : Int) < (L.length : Int) by omega), if_pos rfl, if_pos (show 0 ≤ (p : Int) ∧ (p : Int) < (L.length : Int) by omega), hc]
    simp [q]
  · rw [decide_eq_false (show ¬ (p : Int) < (L.length : Int) by omega), if_neg (by decide)]
    simp [q]
theorem dirOk_iff {l : List Int} : DirOk l ↔ (1 ≤ l.length ∧ l.length ≤ 16) ∧ (∀ x ∈ l, numOk x) ∧ l.Nodup := by
  unfold DirOk
  constructor
  · rintro ⟨h1, h2⟩
    refine ⟨h1, fun x hx => ?_, ?_⟩
    · obtain ⟨j, hj, rfl⟩ := List.getElem_of_mem hx
      have := (h2 j hj).1
      rwa [ix_nat hj] at this
    · rw [List.nodup_iff_pairwise_ne, List.pairwise_iff_getElem]
      intro i j hi hj hij e
      have := (h2 j hj).2
      rw [ix_nat hj] at this
      exact this (List.mem_take_iff_getElem.2 ⟨i, by omega, e⟩)
  · rintro ⟨h1, h2, h3⟩
    refine ⟨h1, fun j hj => ⟨?_, ?_⟩⟩
    · rw [ix_nat hj]
      exact h2 _ (List.getElem_mem _)
    · rw [ix_nat hj]
      intro hm
      obtain ⟨i, hi, e⟩ := List.mem_take_iff_getElem.1 hm
      rw [List.nodup_iff_pairwise_ne, List.pairwise_iff_getElem] at h3
      exact h3 i j (by omega) hj (by omega) e
def ats (L : List Ls) : List Int := L.map (·.at_)
structure MS (n : Nat) (B : Int) (M : Nat) (d : Dev) (a : AA) (k : Nat) (L : List Ls) : Prop where
  so : SOk n B d a
  r : a.r = 0
  q : ∀ x ∈ L, ∃ j : Nat, x.at_ = (j : Int) ∧ j < n ∧ ln d j = queB x.q ∧ QueueOk x.q ∧ x.q.Name.length ≤ 300
  ok : L ≠ [] → DirOk (ats L)
  so' : Sorted L
  kn : k ≠ 0 → 2 ≤ k ∧ k < n
  w : ∀ j : Nat, a.w j = true ↔ j = 0 ∨ j = 1 ∨ (k ≠ 0 ∧ j = k) ∨ (j : Int) ∈ ats L
  kd : k ≠ 0 → (k : Int) ∉ ats L
  ce : ∀ j, a.c j = true ∨ a.e j = true → j ∈ [0, 1]
  m : cnt a.m n ≤ M
structure DS (n : Nat) (B : Int) (M : Nat) (d : Dev) (a : AA) (k : Nat) (L : List Ls) : Prop extends MS n B M d a k L where
  dir : (k = 0 ∧ L = []) ∨ (k ≠ 0 ∧ L ≠ [] ∧ ln d k = dirB (ats L))
def Keep (n : Nat) (a : AA) (d d' : Dev) : Prop := ∀ j, j < n → a.m j = true → ln d' j = ln d j
theorem MS.len {n : Nat} {B : Int} {M : Nat} {d : Dev} {a : AA} {k : Nat} {L : List Ls} (h : MS n B M d a k L) : L.length ≤ 16 := by
  by_cases e : L = []
  · subst e; simp
  · have := (h.ok e).1.2
    simpa [ats] using this
theorem MS.names {n : Nat} {B : Int} {M : Nat} {d : Dev} {a : AA} {k : Nat} {L : List Ls} (h : MS n B M d a k L) : ∀ x ∈ L, x.q.Name.length ≤ 300 := fun x hx => by
  obtain ⟨_, _, _, _, _, h⟩ := h.q x hx
  exact h
theorem MS.free {n : Nat} {B : Int} {M : Nat} {d : Dev} {a : AA} {k : Nat} {L : List Ls} (h : MS n B M d a k L) (hn : 21 + M < n) : (a.free n).length ≠ 0 := by
  refine free_ex ([0, 1, k] ++ (ats L).map Int.toNat) M (fun j hj => ?_) h.ce h.m ?_
  · rcases (h.w j).1 hj with e | e | ⟨_, e⟩ | e
    · simp [e]
    · simp [e]
    · simp [e]
    · rw [List.mem_append]
      right
      exact List.mem_map.2 ⟨(j : Int), e, by simp⟩
  · have := h.len
    simp [ats]
    omega
theorem readD_ln {n : Nat} {B : Int} {d : Dev} {a : AA} (h : SOk n B d a) {j : Nat} (hj : j < n) : readD d (j : Int) = (ln d j, 0) := read_clean h.cl (by have := h.len; omega)
theorem DS.read {n : Nat} {B : Int} {M : Nat} {d : Dev} {a : AA} {k : Nat} {L : List Ls} (h : DS n B M d a k L) : readP (readD d) (k : Int) = (L, 0) := by
  unfold readP
  rcases h.dir with ⟨rfl, rfl⟩ | ⟨h1, h2, h3⟩
  · rfl
  · have hk := h.kn h1
    obtain ⟨g1, g2⟩ := dirB_get (h.ok h2)
    rw [if_neg (by omega), readD_ln h.so hk.2, h3, if_neg (by simp), if_pos g1, g2]
    refine rdL_ok L [] h.so' fun x hx => ?_
    obtain ⟨j, e1, e2, e3, e4, e5⟩ := h.q x hx
    rw [e1, readD_ln h.so e2, e3]
    exact ⟨rfl, e4, e5⟩
theorem MS.up {n : Nat} {B C : Int} {M : Nat} {d : Dev} {a : AA} {k : Nat} {L : List Ls} (h : MS n B M d a k L) (hc : B ≤ C) : MS n C M d a k L := ⟨h.so.up hc, h.r, h.q, h.ok, h.so', h.kn, h.w, h.kd, h.ce, h.m⟩
theorem DS.up {n : Nat} {B C : Int} {M : Nat} {d : Dev} {a : AA} {k : Nat} {L : List Ls} (h : DS n B M d a k L) (hc : B ≤ C) : DS n C M d a k L := ⟨h.toMS.up hc, h.dir⟩
theorem held_w {a : AA} {j k : Nat} (h : a.held k = false) (hj : a.w j = true) : j ≠ k := fun e => by
  unfold AA.held at h
  rw [← e, hj] at h
  simp at h
theorem held_m {a : AA} {j k : Nat} (h : a.held k = false) (hj : a.m j = true) : j ≠ k := fun e => by
  unfold AA.held at h
  rw [← e, hj] at h
  simp at h
theorem layloop {fu : Nat} (hfu : 3000 < fu) {L : List Ls} (hL : L.length ≤ 16) : loopM (dir_lay.s0 fu L) fu (0, ([] : List Int)) = some (ats L) := by
  refine loopM_run (S := fun j => ((j : Int), ats (L.take j))) L.length (by simp [ats]) (fun j hj => ?_) ?_ (by omega)
  · have w3 : IntKind.i64.wrap ((j : Int) + 1) = ((j + 1 : Nat) : Int) := by rw [w64 (by omega) (by omega)]; omega
    unfold dir_lay.s0
    rw [decide_eq_true (show (j : Int) < (L.length : Int) by omega), if_pos rfl, if_pos (show 0 ≤ (j : Int) ∧ (j : Int) < (L.length : Int) by omega), if_pos (lim_of' (by simp [ats]; omega)), w3]
    simp only [ix_nat hj, List.take_add_one, List.getElem?_eq_getElem hj, Option.toList_some, ats, List.map_append, List.map_cons, List.map_nil]
  · unfold dir_lay.s0
    simp
theorem lay_ok {fu n : Nat} {B : Int} {M : Nat} {d : Dev} {a : AA} {k : Nat} {L : List Ls} (hfu : 3000 + n < fu) (h : MS n B M d a k L) (hB : B + 9 < 9223372036854775807) (hn : 21 + M < n ∧ n ≤ 3072) (h0 : L = [] → k ≠ 0) :
    ∃ (k' : Nat) (d' : Dev) (a' : AA), dir_lay.f fu (SO n d a) (k : Int) L = some ((k' : Int), 0, SO n d' a') ∧ DS n (B + 9) M d' a' k' L ∧ a'.m = a.m ∧ Keep n a d d' := by
  unfold dir_lay.f
  have hL := h.len
  by_cases e : L = []
  · subst e
    have hk := h.kn (h0 rfl)
    have hw : a.w k = true := (h.w k).2 (.inr (.inr (.inl ⟨h0 rfl, rfl⟩)))
    rw [decide_eq_true (show ((([] : List Ls).length : Nat) : Int) = 0 by rfl), if_pos rfl, drop_eq h.so.al (by omega) (by omega), give_line hk.2 hw, Option.bind_some]
    refine ⟨0, d, a.cut (k : Int), rfl, ⟨⟨⟨h.so.dev.up (by omega), h.so.cl, ?_⟩, h.r, fun x hx => by simp at hx, fun x => absurd rfl x, List.Pairwise.nil, fun x => absurd rfl x, fun j => ?_, fun x => absurd rfl x, h.ce, h.m⟩, .inl ⟨rfl, rfl⟩⟩, rfl, fun j _ _ => rfl⟩
    · have := give_ok (k := (k : Int)) h.so.al
      rw [give_line hk.2 hw] at this
      exact this
    · rw [cut_w, h.w j]
      constructor
      · rintro ⟨e | e | ⟨_, e⟩ | e, h2⟩
        · exact .inl e
        · exact .inr (.inl e)
        · exact absurd e h2
        · simp [ats] at e
      · rintro (e | e | ⟨e, _⟩ | e)
        · exact ⟨.inl e, by omega⟩
        · exact ⟨.inr (.inl e), by omega⟩
        · exact absurd rfl e
        · simp [ats] at e
  · have hok := h.ok e
    have hp := List.length_pos_iff.2 e
    have hal : (ats L).length = L.length := by simp [ats]
    rw [decide_eq_false (show ¬ ((L.length : Int) = 0) by omega), if_neg (by decide), layloop (by omega) hL, Option.bind_some, dirPut_eq (by omega), Option.bind_some, if_pos hok]
    simp only
    rw [if_neg (by decide)]
    have hmem : ∀ {x : Ls}, x ∈ L → ∀ {j : Nat}, x.at_ = (j : Int) → a.w j = true := fun {x} hx {j} hj => (h.w j).2 (.inr (.inr (.inr (by rw [← hj]; exact List.mem_map_of_mem hx))))
    by_cases e0 : k = 0
    · subst e0
      obtain ⟨k', d', e1, e2, W⟩ := make_line (b := dirB (ats L)) h.so (dirB_bytes hok) (dirB_len hok) h.r (h.free hn.1)
      have w0 := held_w e2 ((h.w 0).2 (.inl rfl))
      have w1 := held_w e2 ((h.w 1).2 (.inr (.inl rfl)))
      rw [decide_eq_true (show ((0 : Nat) : Int) = 0 by rfl), if_pos rfl, show sealed (summed 6 ((ats L).length : Int) (rowE (ats L) (ats L).length)) = dirB (ats L) from rfl, make_eq h.so.dev hB (by omega) (dirB_bytes hok) (by omega) h.so.al (by omega) (by omega), e1, Option.bind_some]
      have hnk : (k' : Int) ∉ ats L := fun hx => by
        obtain ⟨x, hx, hxe⟩ := List.mem_map.1 hx
        exact held_w e2 (hmem hx hxe) rfl
      refine ⟨k', d', a.put n k', rfl, ⟨⟨W.so, h.r, fun x hx => ?_, fun _ => hok, h.so', fun _ => ⟨by omega, W.lt⟩, fun j => ?_, fun _ => hnk, h.ce, h.m⟩, .inr ⟨by omega, e, W.new⟩⟩, rfl, fun j hj hm => W.old j hj (held_m e2 hm)⟩
      · obtain ⟨j, f1, f2, f3, f4, f5⟩ := h.q x hx
        exact ⟨j, f1, f2, by rw [W.old j f2 (held_w e2 (hmem hx f1)), f3], f4, f5⟩
      · rw [put_w W.lt, h.w j]
        constructor
        · rintro ((f | f | ⟨f, _⟩ | f) | f)
          · exact .inl f
          · exact .inr (.inl f)
          · exact absurd rfl f
          · exact .inr (.inr (.inr f))
          · exact .inr (.inr (.inl ⟨by omega, f⟩))
        · rintro (f | f | ⟨_, f⟩ | f)
          · exact .inl (.inl f)
          · exact .inl (.inr (.inl f))
          · exact .inr f
          · exact .inl (.inr (.inr (.inr f)))
    · have hk := h.kn e0
      have hw : a.w k = true := (h.w k).2 (.inr (.inr (.inl ⟨e0, rfl⟩)))
      obtain ⟨k', d', a', e1, W, hw', hor⟩ := turn_line (b := dirB (ats L)) h.so (dirB_bytes hok) (dirB_len hok) h.r (h.free hn.1) hk.2 hw
      have w0 : k' ≠ 0 := by
        rcases hor with ⟨f, _⟩ | ⟨_, f⟩
        · omega
        · exact fun g => held_w f ((h.w 0).2 (.inl rfl)) g.symm
      have w1 : k' ≠ 1 := by
        rcases hor with ⟨f, _⟩ | ⟨_, f⟩
        · omega
        · exact fun g => held_w f ((h.w 1).2 (.inr (.inl rfl))) g.symm
      have hnk : (k' : Int) ∉ ats L := fun hx => by
        rcases hor with ⟨f, _⟩ | ⟨_, f⟩
        · rw [f] at hx
          exact h.kd e0 hx
        · obtain ⟨x, hx, hxe⟩ := List.mem_map.1 hx
          exact held_w f (hmem hx hxe) rfl
      have hne : ∀ {x : Ls}, x ∈ L → ∀ {j : Nat}, x.at_ = (j : Int) → j ≠ k' := fun {x} hx {j} hj g => hnk (by rw [← g, ← hj]; exact List.mem_map_of_mem hx)
      rw [decide_eq_false (show ¬ ((k : Int) = 0) by omega), if_neg (by decide), show sealed (summed 6 ((ats L).length : Int) (rowE (ats L) (ats L).length)) = dirB (ats L) from rfl, turn_eq h.so.dev hB (by omega) (dirB_bytes hok) (by omega) h.so.al (by omega) (by omega), e1, Option.bind_some]
      refine ⟨k', d', a', rfl, ⟨⟨W.so, W.r.trans h.r, fun x hx => ?_, fun _ => hok, h.so', fun _ => ⟨by omega, W.lt⟩, fun j => ?_, fun _ => hnk, by rw [W.c, W.e]; exact h.ce, by rw [W.m]; exact h.m⟩, .inr ⟨by omega, e, W.new⟩⟩, W.m, fun j hj hm => W.old j hj fun g => ?_⟩
      · obtain ⟨j, f1, f2, f3, f4, f5⟩ := h.q x hx
        exact ⟨j, f1, f2, by rw [W.old j f2 (hne hx f1), f3], f4, f5⟩
      · rw [hw' j, h.w j]
        constructor
        · rintro (⟨f | f | ⟨_, f⟩ | f, f2⟩ | f)
          · exact .inl f
          · exact .inr (.inl f)
          · exact absurd f f2
          · exact .inr (.inr (.inr f))
          · exact .inr (.inr (.inl ⟨w0, f⟩))
        · rintro (f | f | ⟨_, f⟩ | f)
          · exact .inl ⟨.inl f, by omega⟩
          · exact .inl ⟨.inr (.inl f), by omega⟩
          · exact .inr f
          · refine .inl ⟨.inr (.inr (.inr f)), fun g => ?_⟩
            rw [g] at f
            exact h.kd e0 f
      · rcases hor with ⟨f, f2⟩ | ⟨_, f⟩
        · rw [g, f, f2] at hm
          cases hm
        · exact held_m f hm g
def inL' (L : List Ls) (s : List UInt8) : Prop := ∃ x ∈ L, x.q.Name = s
theorem cAt_zero {L : List Ls} {s : List UInt8} {p : Nat} (hn : ∀ x ∈ L, x.q.Name.length ≤ 300 ∧ NameOk x.q.Name) (hs : s.length ≤ 300) (hp : p < L.length) : cAt L s p = 0 ↔ L[p].q.Name = s := by
  unfold cAt nm
  rw [ix_nat hp]
  have hx := hn _ (List.getElem_mem hp)
  constructor
  · intro h
    exact name_same hx.1 hs hx.2 (cmpL_zero h)
  · intro h
    rw [h]
    exact cmpL_self _
structure At' (L : List Ls) (s : List UInt8) (p : Nat) : Prop where
  le : p ≤ L.length
  lo : ∀ q, q < p → cAt L s q < 0
  hi : ∀ q, p ≤ q → q < L.length → 0 ≤ cAt L s q
theorem At'.found {L : List Ls} {s : List UInt8} {p : Nat} (h : At' L s p) (hS : Sorted L) (hn : ∀ x ∈ L, x.q.Name.length ≤ 300 ∧ NameOk x.q.Name) (hs : s.length ≤ 300) : (p < L.length ∧ cAt L s p = 0) ↔ inL' L s := by
  constructor
  · rintro ⟨h1, h2⟩
    exact ⟨L[p], List.getElem_mem h1, (cAt_zero hn hs h1).1 h2⟩
  · rintro ⟨x, hx, e⟩
    obtain ⟨i, hi, rfl⟩ := List.getElem_of_mem hx
    have h0 := (cAt_zero hn hs hi).2 e
    have h1 : p ≤ i := by
      rcases Nat.lt_or_ge i p with q | q
      · have := h.lo i q
        omega
      · exact q
    rcases Nat.eq_or_lt_of_le h1 with q | q
    · subst q
      exact ⟨hi, h0⟩
    · have h2 := h.hi p (Nat.le_refl _) (by omega)
      have h3 := List.pairwise_iff_getElem.1 hS p i (by omega) hi q
      unfold cAt at h0 h2
      rw [ix_nat (by omega)] at h0 h2
      rw [← cmpL_zero h0] at h2
      omega
theorem At'.ins {L : List Ls} {x : Ls} {p : Nat} (h : At' L x.q.Name p) (hS : Sorted L) (hno : ∀ q, p ≤ q → q < L.length → cAt L x.q.Name q ≠ 0) : Sorted (L.take p ++ x :: L.drop p) := by
  unfold Sorted at hS ⊢
  have hlt : ∀ y ∈ L.take p, cmpL (nm y) (nm x) < 0 := fun y hy => by
    obtain ⟨i, hi, e⟩ := List.mem_take_iff_getElem.1 hy
    have := h.lo i (by omega)
    unfold cAt at this
    rw [ix_nat (by omega)] at this
    rw [← e]
    exact this
  have hgt : ∀ y ∈ L.drop p, cmpL (nm x) (nm y) < 0 := fun y hy => by
    obtain ⟨i, hi, e⟩ := List.getElem_of_mem hy
    rw [List.getElem_drop] at e
    rw [List.length_drop] at hi
    have h1 := h.hi (p + i) (by omega) (by omega)
    have h2 := hno (p + i) (by omega) (by omega)
    unfold cAt at h1 h2
    rw [ix_nat (show p + i < L.length by omega), e] at h1 h2
    have := cmpL_swap (nm y) (nm x)
    unfold nm at this h1 h2 ⊢
    omega
  rw [List.pairwise_append]
  refine ⟨hS.sublist (List.take_sublist _ _), List.pairwise_cons.2 ⟨hgt, hS.sublist (List.drop_sublist _ _)⟩, fun y hy z hz => ?_⟩
  rcases List.mem_cons.1 hz with rfl | hz
  · exact hlt y hy
  · exact cmpL_trans (hlt y hy) (hgt z hz)
theorem MS.nameOk {n : Nat} {B : Int} {M : Nat} {d : Dev} {a : AA} {k : Nat} {L : List Ls} (h : MS n B M d a k L) : ∀ x ∈ L, x.q.Name.length ≤ 300 ∧ NameOk x.q.Name := fun x hx => by
  obtain ⟨_, _, _, _, h1, h⟩ := h.q x hx
  exact ⟨h, h1.1⟩
theorem MS.place {fu n : Nat} {B : Int} {M : Nat} {d : Dev} {a : AA} {k : Nat} {L : List Ls} (hfu : 3000 < fu) (h : MS n B M d a k L) {s : List UInt8} (hs : s.length ≤ 300) :
    ∃ p : Nat, dir_place.f fu L s = some ((p : Int), decide (p < L.length ∧ cAt L s p = 0)) ∧ At' L s p := by
  obtain ⟨p, h1, h2, h3, h4⟩ := place_eq hfu (L := L) (s := s) (by have := h.len; omega) h.names hs h.so'
  exact ⟨p, h1, h2, h3, h4⟩
def newQ (s : List UInt8) : S_api_Queue := ⟨s, 0, Arr.rep 12 (0 : Int)⟩
theorem newQ_ok {s : List UInt8} : QueueOk (newQ s) ↔ NameOk s := by
  unfold QueueOk newQ
  constructor
  · exact fun h => h.1
  · refine fun h => ⟨h, ⟨Int.le_refl _, by show (0 : Int) ≤ 4095; decide⟩, fun i hi => ?_⟩
    unfold rootOk
    have : ((0 : Int).toNat / 2 ^ i % 2) = 0 := by simp
    rw [this]
    refine ⟨fun _ => ?_, fun e => by omega⟩
    have e : (Arr.rep 12 (0 : Int)).l = List.replicate 12 0 := rfl
    show ix (Arr.rep 12 (0 : Int)).l (i : Int) = 0
    rw [e, ix_nat (by simpa using hi), List.getElem_replicate]
theorem add_ok {fu n : Nat} {B : Int} {M : Nat} {d : Dev} {a : AA} {k : Nat} {L : List Ls} {s : List UInt8} (hfu : 3000 + n < fu) (h : DS n B M d a k L) (hB : B + 18 < 9223372036854775807) (hn : 21 + M < n ∧ n ≤ 3072) (hs : s.length ≤ 300) :
    (¬ NameOk s ∧ dir_Add.f fu (SO n d a) (k : Int) s = some (0, 14, SO n d a)) ∨ (NameOk s ∧ inL' L s ∧ dir_Add.f fu (SO n d a) (k : Int) s = some (0, 16, SO n d a)) ∨ (NameOk s ∧ ¬ inL' L s ∧ L.length = 16 ∧ dir_Add.f fu (SO n d a) (k : Int) s = some (0, 20, SO n d a)) ∨
    (NameOk s ∧ ¬ inL' L s ∧ L.length < 16 ∧ ∃ (p k' : Nat) (at_ : Int) (d' : Dev) (a' : AA), dir_Add.f fu (SO n d a) (k : Int) s = some ((k' : Int), 0, SO n d' a') ∧ At' L s p ∧ DS n (B + 18) M d' a' k' (L.take p ++ ⟨newQ s, at_⟩ :: L.drop p) ∧ a'.m = a.m ∧ Keep n a d d') := by
  have hrd : dir_read.f fu (SO n d a) (k : Int) = some (L, 0) := by rw [readP_eq (by omega) h.so.dev (by omega), h.read]
  obtain ⟨p, hp, hat⟩ := h.toMS.place (fu := fu) (by omega) hs
  have hL := h.len
  unfold dir_Add.f
  rw [hrd]
  simp only [Option.bind_some, decide_true, Bool.not_true, Bool.false_eq_true, if_false]
  rw [show (⟨s, (0 : Int), (Arr.rep 12 (0 : Int))⟩ : S_api_Queue) = newQ s from rfl, queuePut_eq (by omega) hs, Option.bind_some]
  by_cases e1 : NameOk s
  · have hq := newQ_ok.2 e1
    rw [if_pos hq, hp]
    simp only [Option.bind_some, Bool.not_true, Bool.false_eq_true, if_false]
    rw [show sealed (summed 5 ((newQ s).Name.length : Int) (queueE (newQ s))) = queB (newQ s) from rfl]
    have hfd := hat.found h.so' h.nameOk hs
    by_cases e2 : p < L.length ∧ cAt L s p = 0
    · rw [decide_eq_true e2, if_pos rfl]
      exact .inr (.inl ⟨e1, hfd.1 e2, rfl⟩)
    · have hno := mt hfd.2 e2
      rw [decide_eq_false e2, if_neg (by decide)]
      by_cases e3 : L.length = 16
      · rw [decide_eq_true (show (L.length : Int) = 16 by omega), if_pos rfl]
        exact .inr (.inr (.inl ⟨e1, hno, e3, rfl⟩))
      · refine .inr (.inr (.inr ⟨e1, hno, by omega, ?_⟩))
        obtain ⟨j, d1, f1, f2, W⟩ := make_line (b := queB (newQ s)) h.so (queB_bytes hs hq) (queB_len hs hq) h.r (h.toMS.free hn.1)
        rw [decide_eq_false (show ¬ ((L.length : Int) = 16) by omega), if_neg (by decide), make_eq h.so.dev (by omega) (by omega) (queB_bytes hs hq) (by omega) h.so.al (by omega) (by omega), f1]
        simp only [Option.bind_some, decide_true, Bool.not_true, Bool.false_eq_true, if_false]
        have hins : slices_Insert.f fu L (p : Int) [(⟨newQ s, (j : Int)⟩ : Ls)] = some (L.take p ++ ⟨newQ s, (j : Int)⟩ :: L.drop p) := by
          unfold slices_Insert.f
          rw [if_pos ⟨⟨by omega, by have := hat.le; omega⟩, rfl, lim_of' (by omega)⟩, Int.toNat_natCast]
          rfl
        rw [hins, Option.bind_some]
        have w0 := held_w f2 ((h.w 0).2 (.inl rfl))
        have w1 := held_w f2 ((h.w 1).2 (.inr (.inl rfl)))
        have hmem : ∀ {x : Ls}, x ∈ L → ∀ {j : Nat}, x.at_ = (j : Int) → a.w j = true := fun {x} hx {j} hj => (h.w j).2 (.inr (.inr (.inr (by rw [← hj]; exact List.mem_map_of_mem hx))))
        have hjn : (j : Int) ∉ ats L := fun hx => by
          obtain ⟨x, hx, hxe⟩ := List.mem_map.1 hx
          exact held_w f2 (hmem hx hxe) rfl
        have hmL : ∀ {x : Ls}, x ∈ L.take p ++ ⟨newQ s, (j : Int)⟩ :: L.drop p ↔ x = ⟨newQ s, (j : Int)⟩ ∨ x ∈ L := fun {x} => by
          conv => rhs; rw [← List.take_append_drop p L]
          simp only [List.mem_append, List.mem_cons]
          constructor
          · rintro (g | g | g)
            · exact .inr (.inl g)
            · exact .inl g
            · exact .inr (.inr g)
          · rintro (g | g | g)
            · exact .inr (.inl g)
            · exact .inl g
            · exact .inr (.inr g)
        have hma : ∀ {i : Int}, i ∈ ats (L.take p ++ ⟨newQ s, (j : Int)⟩ :: L.drop p) ↔ i = (j : Int) ∨ i ∈ ats L := fun {i} => by
          unfold ats
          rw [List.mem_map, List.mem_map]
          constructor
          · rintro ⟨x, hx, e⟩
            rcases hmL.1 hx with rfl | hx
            · exact .inl e.symm
            · exact .inr ⟨x, hx, e⟩
          · rintro (e | ⟨x, hx, e⟩)
            · exact ⟨_, hmL.2 (.inl rfl), e.symm⟩
            · exact ⟨x, hmL.2 (.inr hx), e⟩
        have hMS : MS n (B + 9) M d1 (a.put n j) k (L.take p ++ ⟨newQ s, (j : Int)⟩ :: L.drop p) := by
          refine ⟨W.so, h.r, fun x hx => ?_, fun _ => ?_, hat.ins (x := ⟨newQ s, (j : Int)⟩) h.so' (fun q hq hq2 => ?_), h.kn, fun i => ?_, fun hk hx => ?_, h.ce, h.m⟩
          · rcases hmL.1 hx with rfl | hx
            · exact ⟨j, rfl, W.lt, W.new, hq, hs⟩
            · obtain ⟨i, g1, g2, g3, g4, g5⟩ := h.q x hx
              exact ⟨i, g1, g2, by rw [W.old i g2 (held_w f2 (hmem hx g1)), g3], g4, g5⟩
          · rw [dirOk_iff]
            have hlen : (ats (L.take p ++ ⟨newQ s, (j : Int)⟩ :: L.drop p)).length = L.length + 1 := by
              have := hat.le
              simp [ats]
              omega
            have hperm : (ats (L.take p ++ ⟨newQ s, (j : Int)⟩ :: L.drop p)).Nodup := by
              have hnd : (ats L).Nodup := by
                by_cases q : L = []
                · subst q; simp [ats]
                · exact (dirOk_iff.1 (h.ok q)).2.2
              unfold ats at hnd hjn ⊢
              have e : (L.take p ++ (⟨newQ s, (j : Int)⟩ : Ls) :: L.drop p).Perm ((⟨newQ s, (j : Int)⟩ : Ls) :: L) := by
                have := List.perm_middle (a := (⟨newQ s, (j : Int)⟩ : Ls)) (l₁ := L.take p) (l₂ := L.drop p)
                rwa [List.take_append_drop] at this
              rw [(e.map _).nodup_iff]
              exact List.nodup_cons.2 ⟨hjn, hnd⟩
            refine ⟨⟨by omega, by omega⟩, fun x hx => ?_, hperm⟩
            rcases hma.1 hx with rfl | hx
            · unfold numOk
              have := W.lt
              omega
            · have : L ≠ [] := fun q => by subst q; simp [ats] at hx
              exact (dirOk_iff.1 (h.ok this)).2.1 x hx
          · intro g
            exact hno ⟨L[q], List.getElem_mem hq2, (cAt_zero h.nameOk hs hq2).1 g⟩
          · rw [put_w W.lt, h.w i, hma]
            constructor
            · rintro ((g | g | g | g) | g)
              · exact .inl g
              · exact .inr (.inl g)
              · exact .inr (.inr (.inl g))
              · exact .inr (.inr (.inr (.inr g)))
              · exact .inr (.inr (.inr (.inl (by omega))))
            · rintro (g | g | g | g | g)
              · exact .inl (.inl g)
              · exact .inl (.inr (.inl g))
              · exact .inl (.inr (.inr (.inl g)))
              · exact .inr (by omega)
              · exact .inl (.inr (.inr (.inr g)))
          · rcases hma.1 hx with g | g
            · exact held_w f2 ((h.w k).2 (.inr (.inr (.inl ⟨hk, rfl⟩)))) (by omega)
            · exact h.kd hk g
        obtain ⟨k', d', a', g1, g2, g3, g4⟩ := lay_ok hfu hMS (by omega) hn (fun q => by simp at q)
        rw [g1]
        refine ⟨p, k', (j : Int), d', a', rfl, hat, g2.up (by omega), g3, fun i hi hm => ?_⟩
        rw [g4 i hi hm, W.old i hi (held_m f2 hm)]
  · rw [if_neg (mt newQ_ok.1 e1)]
    exact .inl ⟨e1, rfl⟩
theorem MS.rest {n : Nat} {B : Int} {M : Nat} {d : Dev} {a : AA} {k : Nat} {L : List Ls} (h : MS n B M d a k L) {p : Nat} (hp : p < L.length) {j : Nat} (hj : L[p].at_ = (j : Int)) : MS n B M d (a.cut (j : Int)) k (L.take p ++ L.drop (p + 1)) := by
  have hmL : ∀ {x : Ls}, x ∈ L ↔ x = L[p] ∨ x ∈ L.take p ++ L.drop (p + 1) := fun {x} => by
    have e : L = L.take p ++ (L[p] :: L.drop (p + 1)) := by rw [← List.drop_eq_getElem_cons hp, List.take_append_drop]
    conv => lhs; rw [e]
    simp only [List.mem_append, List.mem_cons]
    constructor
    · rintro (g | g | g)
      · exact .inr (.inl g)
      · exact .inl g
      · exact .inr (.inr g)
    · rintro (g | g | g)
      · exact .inr (.inl g)
      · exact .inl g
      · exact .inr (.inr g)
  have hsub : (L.take p ++ L.drop (p + 1)).Sublist L := by
    have e : L = L.take p ++ (L[p] :: L.drop (p + 1)) := by rw [← List.drop_eq_getElem_cons hp, List.take_append_drop]
    conv => rhs; rw [e]
    exact (List.Sublist.refl _).append (List.sublist_cons_self _ _)
  have hok := dirOk_iff.1 (h.ok (fun e => by subst e; simp at hp))
  have hjL : (j : Int) ∈ ats L := by rw [← hj]; exact List.mem_map_of_mem (List.getElem_mem hp)
  have hjw : a.w j = true := (h.w j).2 (.inr (.inr (.inr hjL)))
  have hj2 := hok.2.1 _ hjL
  unfold numOk at hj2
  have hjn : (j : Int) ∉ ats (L.take p ++ L.drop (p + 1)) := fun hx => by
    have hnd := hok.2.2
    have e : L = L.take p ++ (L[p] :: L.drop (p + 1)) := by rw [← List.drop_eq_getElem_cons hp, List.take_append_drop]
    unfold ats at hnd hx
    rw [e, (List.perm_middle.map _).nodup_iff] at hnd
    rw [List.map_cons, List.nodup_cons] at hnd
    rw [← hj] at hx
    exact hnd.1 hx
  have hma : ∀ {i : Int}, i ∈ ats L ↔ i = (j : Int) ∨ i ∈ ats (L.take p ++ L.drop (p + 1)) := fun {i} => by
    unfold ats
    rw [List.mem_map, List.mem_map]
    constructor
    · rintro ⟨x, hx, e⟩
      rcases hmL.1 hx with rfl | hx
      · exact .inl (by rw [← e, hj])
      · exact .inr ⟨x, hx, e⟩
    · rintro (e | ⟨x, hx, e⟩)
      · exact ⟨_, hmL.2 (.inl rfl), by rw [hj, e]⟩
      · exact ⟨x, hmL.2 (.inr hx), e⟩
  have hjlt : j < n := h.so.al.w j hjw
  refine ⟨⟨h.so.dev, h.so.cl, ?_⟩, h.r, fun x hx => h.q x (hsub.subset hx), fun hne => ?_, h.so'.sublist hsub, h.kn, fun i => ?_, fun hk hx => h.kd hk (hma.2 (.inr hx)), h.ce, h.m⟩
  · have := give_ok (k := (j : Int)) h.so.al
    rw [give_line hjlt hjw] at this
    exact this
  · refine dirOk_iff.2 ⟨⟨?_, ?_⟩, fun x hx => hok.2.1 x (hma.2 (.inr hx)), hok.2.2.sublist (hsub.map _)⟩
    · have := List.length_pos_iff.2 hne
      simp only [ats, List.length_map]
      omega
    · have := hok.1.2
      have := hsub.length_le
      simp only [ats, List.length_map] at *
      omega
  · rw [cut_w, h.w i, hma]
    constructor
    · rintro ⟨g | g | g | g | g, g2⟩
      · exact .inl g
      · exact .inr (.inl g)
      · exact .inr (.inr (.inl g))
      · exact absurd g (by omega)
      · exact .inr (.inr (.inr g))
    · rintro (g | g | g | g)
      · exact ⟨.inl g, by omega⟩
      · exact ⟨.inr (.inl g), by omega⟩
      · refine ⟨.inr (.inr (.inl g)), fun e => h.kd g.1 ?_⟩
        rw [← g.2, e]
        exact hjL
      · refine ⟨.inr (.inr (.inr (.inr g))), fun e => hjn ?_⟩
        rw [← e]
        exact g
theorem remove_ok {fu n : Nat} {B : Int} {M : Nat} {d : Dev} {a : AA} {k : Nat} {L : List Ls} {s : List UInt8} (hfu : 3000 + n < fu) (h : DS n B M d a k L) (hB : B + 18 < 9223372036854775807) (hn : 21 + M < n ∧ n ≤ 3072) (hs : s.length ≤ 300) :
    (¬ inL' L s ∧ dir_Remove.f fu (SO n d a) (k : Int) s = some (0, 15, SO n d a)) ∨ ∃ (p : Nat) (hp : p < L.length), L[p].q.Name = s ∧ At' L s p ∧ ((L[p].q.Count ≠ 0 ∧ dir_Remove.f fu (SO n d a) (k : Int) s = some (0, 19, SO n d a)) ∨
      (L[p].q.Count = 0 ∧ ∃ (k' : Nat) (d' : Dev) (a' : AA), dir_Remove.f fu (SO n d a) (k : Int) s = some ((k' : Int), 0, SO n d' a') ∧ DS n (B + 18) M d' a' k' (L.take p ++ L.drop (p + 1)) ∧ a'.m = a.m ∧ Keep n a d d')) := by
  have hrd : dir_read.f fu (SO n d a) (k : Int) = some (L, 0) := by rw [readP_eq (by omega) h.so.dev (by omega), h.read]
  obtain ⟨p, hp, hat⟩ := h.toMS.place (fu := fu) (by omega) hs
  have hL := h.len
  have hfd := hat.found h.so' h.nameOk hs
  unfold dir_Remove.f
  rw [hrd]
  simp only [Option.bind_some, decide_true, Bool.not_true, Bool.false_eq_true, if_false]
  rw [hp]
  simp only [Option.bind_some]
  by_cases e2 : p < L.length ∧ cAt L s p = 0
  · have hpl := e2.1
    rw [decide_eq_true e2]
    simp only [Bool.not_true, Bool.false_eq_true, if_false]
    refine .inr ⟨p, hpl, (cAt_zero h.nameOk hs hpl).1 e2.2, hat, ?_⟩
    have c1 : 0 ≤ (p : Int) ∧ (p : Int) < (L.length : Int) := by omega
    rw [if_pos c1, if_pos c1, ix_nat hpl]
    by_cases e3 : L[p].q.Count = 0
    · right
      refine ⟨e3, ?_⟩
      obtain ⟨j, f1, f2, f3, f4, f5⟩ := h.q _ (List.getElem_mem hpl)
      have hjw : a.w j = true := (h.w j).2 (.inr (.inr (.inr (by rw [← f1]; exact List.mem_map_of_mem (List.getElem_mem hpl)))))
      have w3 : IntKind.i64.wrap ((p : Int) + 1) = (p : Int) + 1 := w64 (by omega) (by omega)
      have hdel : slices_Delete.f fu L (p : Int) ((p : Int) + 1) = some (L.take p ++ L.drop (p + 1)) := by
        unfold slices_Delete.f
        rw [if_pos ⟨c1, rfl, by have : (16 : Nat) ≤ LIM := by decide
                                omega⟩, Int.toNat_natCast]
      rw [decide_eq_true e3]
      simp only [Bool.not_true, Bool.false_eq_true, if_false]
      rw [f1, drop_eq h.so.al (by omega) (by omega), give_line f2 hjw]
      simp only [Option.bind_some, decide_true, Bool.not_true, Bool.false_eq_true, if_false]
      rw [w3, hdel, Option.bind_some]
      have hne : L ≠ [] := fun e => by subst e; simp at hpl
      obtain ⟨k', d', a', g1, g2, g3, g4⟩ := lay_ok hfu (h.toMS.rest hpl f1) (by omega) hn (fun _ => by
        rcases h.dir with ⟨_, q⟩ | ⟨q, _⟩
        · exact absurd q hne
        · exact q)
      rw [g1]
      exact ⟨k', d', a', rfl, g2.up (by omega), g3, g4⟩
    · left
      refine ⟨e3, ?_⟩
      rw [decide_eq_false e3]
      rfl
  · left
    rw [decide_eq_false e2]
    exact ⟨mt hfd.2 e2, rfl⟩
theorem find_ok {fu n : Nat} {B : Int} {M : Nat} {d : Dev} {a : AA} {k : Nat} {L : List Ls} {s : List UInt8} (hfu : 3000 + n < fu) (h : DS n B M d a k L) (hn : n ≤ 3072) (hs : s.length ≤ 300) :
    (¬ inL' L s ∧ dir_Find.f fu (SO n d a) (k : Int) s = some (newQ [], 15)) ∨ ∃ (p : Nat) (hp : p < L.length), L[p].q.Name = s ∧ At' L s p ∧ dir_Find.f fu (SO n d a) (k : Int) s = some (L[p].q, 0) := by
  have hrd : dir_read.f fu (SO n d a) (k : Int) = some (L, 0) := by rw [readP_eq (by omega) h.so.dev (by omega), h.read]
  obtain ⟨p, hp, hat⟩ := h.toMS.place (fu := fu) (by omega) hs
  have hL := h.len
  have hfd := hat.found h.so' h.nameOk hs
  unfold dir_Find.f
  rw [hrd]
  simp only [Option.bind_some, decide_true, Bool.not_true, Bool.false_eq_true, if_false]
  rw [hp]
  simp only [Option.bind_some]
  by_cases e2 : p < L.length ∧ cAt L s p = 0
  · have hpl := e2.1
    rw [decide_eq_true e2]
    simp only [Bool.not_true, Bool.false_eq_true, if_false]
    refine .inr ⟨p, hpl, (cAt_zero h.nameOk hs hpl).1 e2.2, hat, ?_⟩
    rw [if_pos (show 0 ≤ (p : Int) ∧ (p : Int) < (L.length : Int) by omega), ix_nat hpl]
  · left
    rw [decide_eq_false e2]
    exact ⟨mt hfd.2 e2, rfl⟩
theorem MS.join {n : Nat} {B C : Int} {M : Nat} {d d1 : Dev} {a a1 : AA} {k : Nat} {L1 L2 : List Ls} (h : MS n B M d a k (L1 ++ L2)) (y : Ls) (j : Nat) (hy : y.at_ = (j : Int)) (so : SOk n C d1 a1) (hn : n ≤ 3072)
    (hr : a1.r = a.r) (hm : a1.m = a.m) (hc : a1.c = a.c) (he : a1.e = a.e) (hw : ∀ i, a1.w i = true ↔ a.w i = true ∨ i = j) (hj : a.w j ≠ true) (hjn : 2 ≤ j ∧ j < n) (hnew : ln d1 j = queB y.q) (hold : ∀ i, i < n → i ≠ j → ln d1 i = ln d i)
    (hq : QueueOk y.q) (hs : y.q.Name.length ≤ 300) (hS : Sorted (L1 ++ y :: L2)) (hlen : (L1 ++ L2).length < 16) : MS n C M d1 a1 k (L1 ++ y :: L2) := by
  have hmem : ∀ {x : Ls}, x ∈ L1 ++ L2 → ∀ {i : Nat}, x.at_ = (i : Int) → a.w i = true := fun {x} hx {i} hi => (h.w i).2 (.inr (.inr (.inr (by rw [← hi]; exact List.mem_map_of_mem hx))))
  have hjL : (j : Int) ∉ ats (L1 ++ L2) := fun hx => by
    obtain ⟨x, hx, hxe⟩ := List.mem_map.1 hx
    exact hj (hmem hx hxe)
  have hmL : ∀ {x : Ls}, x ∈ L1 ++ y :: L2 ↔ x = y ∨ x ∈ L1 ++ L2 := fun {x} => by
    simp only [List.mem_append, List.mem_cons]
    constructor
    · rintro (g | g | g)
      · exact .inr (.inl g)
      · exact .inl g
      · exact .inr (.inr g)
    · rintro (g | g | g)
      · exact .inr (.inl g)
      · exact .inl g
      · exact .inr (.inr g)
  have hma : ∀ {i : Int}, i ∈ ats (L1 ++ y :: L2) ↔ i = (j : Int) ∨ i ∈ ats (L1 ++ L2) := fun {i} => by
    unfold ats
    rw [List.mem_map, List.mem_map]
    constructor
    · rintro ⟨x, hx, e⟩
      rcases hmL.1 hx with rfl | hx
      · exact .inl (by rw [← e, hy])
      · exact .inr ⟨x, hx, e⟩
    · rintro (e | ⟨x, hx, e⟩)
      · exact ⟨_, hmL.2 (.inl rfl), by rw [hy, e]⟩
      · exact ⟨x, hmL.2 (.inr hx), e⟩
  refine ⟨so, hr.trans h.r, fun x hx => ?_, fun _ => ?_, hS, h.kn, fun i => ?_, fun hk hx => ?_, by rw [hc, he]; exact h.ce, by rw [hm]; exact h.m⟩
  · rcases hmL.1 hx with rfl | hx
    · exact ⟨j, hy, hjn.2, hnew, hq, hs⟩
    · obtain ⟨i, g1, g2, g3, g4, g5⟩ := h.q x hx
      refine ⟨i, g1, g2, ?_, g4, g5⟩
      rw [hold i g2 fun e => ?_, g3]
      rw [e] at g1
      exact hj (hmem hx g1)
  · rw [dirOk_iff]
    have hl : (ats (L1 ++ y :: L2)).length = (L1 ++ L2).length + 1 := by
      simp [ats]
      omega
    have hnd : (ats (L1 ++ L2)).Nodup := by
      by_cases q : L1 ++ L2 = []
      · rw [q]; simp [ats]
      · exact (dirOk_iff.1 (h.ok q)).2.2
    refine ⟨⟨by omega, by omega⟩, fun x hx => ?_, ?_⟩
    · rcases hma.1 hx with rfl | hx
      · unfold numOk
        omega
      · have : L1 ++ L2 ≠ [] := fun q => by rw [q] at hx; simp [ats] at hx
        exact (dirOk_iff.1 (h.ok this)).2.1 x hx
    · unfold ats at hnd hjL ⊢
      rw [((List.perm_middle (a := y) (l₁ := L1) (l₂ := L2)).map _).nodup_iff, List.map_cons, hy]
      exact List.nodup_cons.2 ⟨hjL, hnd⟩
  · rw [hw i, h.w i, hma]
    constructor
    · rintro ((g | g | g | g) | g)
      · exact .inl g
      · exact .inr (.inl g)
      · exact .inr (.inr (.inl g))
      · exact .inr (.inr (.inr (.inr g)))
      · exact .inr (.inr (.inr (.inl (by omega))))
    · rintro (g | g | g | g | g)
      · exact .inl (.inl g)
      · exact .inl (.inr (.inl g))
      · exact .inl (.inr (.inr (.inl g)))
      · exact .inr (by omega)
      · exact .inl (.inr (.inr (.inr g)))
  · rcases hma.1 hx with g | g
    · have e : k = j := by omega
      exact hj (by rw [← e]; exact (h.w k).2 (.inr (.inr (.inl ⟨hk, rfl⟩))))
    · exact h.kd hk g
theorem lay_ats {fu : Nat} (hfu : 3000 < fu) {S : S_shadow_Store} {k : Int} {La Lb : List Ls} (h : ats La = ats Lb) (hl : La.length ≤ 16) : dir_lay.f fu S k La = dir_lay.f fu S k Lb := by
  have e : La.length = Lb.length := by
    have := congrArg List.length h
    simpa [ats] using this
  unfold dir_lay.f
  rw [layloop hfu hl, layloop hfu (by omega), e, h]
theorem sorted_nm {La Lb : List Ls} (h : La.map nm = Lb.map nm) (hS : Sorted La) : Sorted Lb := by
  unfold Sorted at hS ⊢
  have h1 : (La.map nm).Pairwise fun x y => cmpL x y < 0 := List.pairwise_map.2 hS
  rw [h] at h1
  exact List.pairwise_map.1 h1
theorem updR_at {L : List Ls} {p : Nat} (hp : p < L.length) (f : Ls → Ls) : updR L (p : Int) f = L.take p ++ f L[p] :: L.drop (p + 1) := by
  unfold updR
  rw [Int.toNat_natCast, ix_nat hp, List.set_eq_take_append_cons_drop, if_pos hp]
theorem set_ok {fu n : Nat} {B : Int} {M : Nat} {d : Dev} {a : AA} {k : Nat} {L : List Ls} {q : S_api_Queue} (hfu : 3000 + n < fu) (h : DS n B M d a k L) (hB : B + 18 < 9223372036854775807) (hn : 21 + M < n ∧ n ≤ 3072) (hs : q.Name.length ≤ 300) :
    (¬ inL' L q.Name ∧ dir_Set.f fu (SO n d a) (k : Int) q = some (0, 15, SO n d a)) ∨ ∃ (p : Nat) (hp : p < L.length), L[p].q.Name = q.Name ∧ At' L q.Name p ∧ ((¬ QueueOk q ∧ dir_Set.f fu (SO n d a) (k : Int) q = some (0, 2, SO n d a)) ∨
      (QueueOk q ∧ ∃ (k' : Nat) (d' : Dev) (a' : AA) (at_ : Int), dir_Set.f fu (SO n d a) (k : Int) q = some ((k' : Int), 0, SO n d' a') ∧ DS n (B + 18) M d' a' k' (L.take p ++ ⟨q, at_⟩ :: L.drop (p + 1)) ∧ a'.m = a.m ∧ Keep n a d d')) := by
  have hrd : dir_read.f fu (SO n d a) (k : Int) = some (L, 0) := by rw [readP_eq (by omega) h.so.dev (by omega), h.read]
  obtain ⟨p, hp, hat⟩ := h.toMS.place (fu := fu) (by omega) hs
  have hL := h.len
  have hfd := hat.found h.so' h.nameOk hs
  unfold dir_Set.f
  rw [hrd]
  simp only [Option.bind_some, decide_true, Bool.not_true, Bool.false_eq_true, if_false]
  rw [hp]
  simp only [Option.bind_some]
  by_cases e2 : p < L.length ∧ cAt L q.Name p = 0
  · have hpl := e2.1
    have hpn := (cAt_zero h.nameOk hs hpl).1 e2.2
    rw [decide_eq_true e2]
    simp only [Bool.not_true, Bool.false_eq_true, if_false]
    refine .inr ⟨p, hpl, hpn, hat, ?_⟩
    have c1 : 0 ≤ (p : Int) ∧ (p : Int) < (L.length : Int) := by omega
    rw [queuePut_eq (by omega) hs, Option.bind_some]
    by_cases e3 : QueueOk q
    · right
      refine ⟨e3, ?_⟩
      rw [if_pos e3]
      simp only [Bool.not_true, Bool.false_eq_true, if_false]
      rw [show sealed (summed 5 (q.Name.length : Int) (queueE q)) = queB q from rfl]
      obtain ⟨j, f1, f2, f3, f4, f5⟩ := h.q _ (List.getElem_mem hpl)
      have hjL : (j : Int) ∈ ats L := by rw [← f1]; exact List.mem_map_of_mem (List.getElem_mem hpl)
      have hjw : a.w j = true := (h.w j).2 (.inr (.inr (.inr hjL)))
      have hj2 := (dirOk_iff.1 (h.ok (fun e => by subst e; simp at hpl))).2.1 _ hjL
      unfold numOk at hj2
      obtain ⟨j', d1, a1, g1, W, hw', hor⟩ := turn_line (b := queB q) h.so (queB_bytes hs e3) (queB_len hs e3) h.r (h.toMS.free hn.1) f2 hjw
      have hj0 : 2 ≤ j' := by
        rcases hor with ⟨g, _⟩ | ⟨_, g⟩
        · omega
        · have w0 := held_w g ((h.w 0).2 (.inl rfl))
          have w1 := held_w g ((h.w 1).2 (.inr (.inl rfl)))
          omega
      have hLp : L = L.take p ++ L[p] :: L.drop (p + 1) := by rw [← List.drop_eq_getElem_cons hpl, List.take_append_drop]
      have hS : Sorted (L.take p ++ ⟨q, (j' : Int)⟩ :: L.drop (p + 1)) := by
        refine sorted_nm (La := L) ?_ h.so'
        conv => lhs; rw [hLp]
        rw [List.map_append, List.map_append, List.map_cons, List.map_cons]
        unfold nm
        rw [hpn]
      have hcut : (a.cut (j : Int)).w j' ≠ true := fun g => by
        rw [cut_w] at g
        rcases hor with ⟨g2, _⟩ | ⟨_, g2⟩
        · exact g.2 g2
        · exact held_w g2 g.1 rfl
      have hMS : MS n (B + 9) M d1 a1 k (L.take p ++ ⟨q, (j' : Int)⟩ :: L.drop (p + 1)) := by
        refine (h.toMS.rest hpl f1).join ⟨q, (j' : Int)⟩ j' rfl W.so hn.2 W.r W.m W.c W.e (fun i => ?_) hcut ⟨hj0, W.lt⟩ W.new W.old e3 hs hS ?_
        · rw [hw' i, cut_w]
        · rw [List.length_append, List.length_take, List.length_drop]
          omega
      have hkp : Keep n a d d1 := fun i hi hm => W.old i hi fun g => by
        rcases hor with ⟨g2, g3⟩ | ⟨_, g2⟩
        · rw [g, g2, g3] at hm
          cases hm
        · exact held_m g2 hm g
      simp only [if_pos c1, ix_nat hpl, f1]
      rw [turn_eq h.so.dev (by omega) (by omega) (queB_bytes hs e3) (by omega) h.so.al (by omega) (by omega), g1]
      simp only [Option.bind_some, decide_true, Bool.not_true, Bool.false_eq_true, if_false]
      have hats : ats (L.take p ++ (⟨q, (j' : Int)⟩ : Ls) :: L.drop (p + 1)) = ats (L.take p ++ (⟨L[p].q, (j' : Int)⟩ : Ls) :: L.drop (p + 1)) := by simp [ats]
      by_cases e4 : (j' : Int) = (j : Int)
      · rw [decide_eq_true e4]
        simp only [if_true]
        refine ⟨k, d1, a1, (j' : Int), rfl, ⟨hMS.up (by omega), ?_⟩, W.m, hkp⟩
        rcases h.dir with ⟨_, g⟩ | ⟨g1, g2, g3⟩
        · rw [g] at hpl
          simp at hpl
        · refine .inr ⟨g1, by simp, ?_⟩
          have hk := h.kn g1
          have hkj : k ≠ j' := fun e => h.kd g1 (by rw [e, e4]; exact hjL)
          have hsp : ats L = ats (L.take p ++ (⟨q, (j' : Int)⟩ : Ls) :: L.drop (p + 1)) := by
            rw [hats]
            have e5 : ats L = ats (L.take p ++ L[p] :: L.drop (p + 1)) := congrArg ats hLp
            rw [e5]
            unfold ats
            rw [List.map_append, List.map_cons, List.map_append, List.map_cons, f1, e4]
          rw [W.old k hk.2 hkj, g3, hsp]
      · rw [decide_eq_false e4]
        simp only [Bool.false_eq_true, if_false]
        obtain ⟨k', d2, a2, g1', g2, g3, g4⟩ := lay_ok hfu hMS (by omega) hn (fun e => by simp at e)
        rw [updR_at hpl, ← lay_ats (La := L.take p ++ (⟨q, (j' : Int)⟩ : Ls) :: L.drop (p + 1)) (by omega) hats hMS.len, g1']
        refine ⟨k', d2, a2, (j' : Int), rfl, g2.up (by omega), g3.trans W.m, fun i hi hm => ?_⟩
        rw [g4 i hi (by rw [W.m]; exact hm), hkp i hi hm]
    · left
      refine ⟨e3, ?_⟩
      rw [if_neg e3]
      rfl
  · left
    rw [decide_eq_false e2]
    exact ⟨mt hfd.2 e2, rfl⟩
theorem rcmp_from {fu : Nat} {l m : List Int} (hl : l.length ≤ 900) (hm : m.length ≤ 900) : ∀ (k i : Nat), i ≤ l.length → i ≤ m.length → l.length - i < k →
    (loopM (rickyardref04_Compare.s0 fu l m) k (i : Int)).bind (fun e6 => match e6 with | Sum.inl p => some p | Sum.inr x8 => (if (decide ((List.length l : Int) < (List.length m : Int))) = true then some ((-1)) else (if (decide ((List.length l : Int) > (List.length m : Int))) = true then some (1) else some (0)))) = some (cmpL (l.drop i) (m.drop i))
  | 0, i, _, _, h => by omega
  | k + 1, i, h1, h2, h3 => by
    have hu : loopM (rickyardref04_Compare.s0 fu l m) (k + 1) (i : Int) = (match rickyardref04_Compare.s0 fu l m (i : Int) with | none => none | some (.inl e) => some e | some (.inr s') => loopM (rickyardref04_Compare.s0 fu l m) k s') := by
      conv => lhs; unfold loopM
      generalize rickyardref04_Compare.s0 fu l m (i : Int) = q
      rcases q with _ | _ | _ <;> rfl
    rw [hu]
    by_cases e1 : i < l.length
    · have c0 : (i : Int) < (l.length : Int) := by omega
      have c1 : 0 ≤ (i : Int) ∧ (i : Int) < (l.length : Int) := by omega
      rw [List.drop_eq_getElem_cons e1]
      by_cases e2 : i < m.length
      · have c2 : (i : Int) < (m.length : Int) := by omega
        have c3 : 0 ≤ (i : Int) ∧ (i : Int) < (m.length : Int) := by omega
        have w3 : IntKind.i64.wrap ((i : Int) + 1) = ((i + 1 : Nat) : Int) := by rw [w64 (by omega) (by omega)]; omega
        have hst : rickyardref04_Compare.s0 fu l m (i : Int) = if l[i] < m[i] then some (.inl (.inl (-1))) else if m[i] < l[i] then some (.inl (.inl 1)) else some (.inr ((i + 1 : Nat) : Int)) := by
          unfold rickyardref04_Compare.s0
          simp only [decide_eq_true c0, decide_eq_true c2, if_true, if_pos c1, if_pos c3, ix_nat e1, ix_nat e2, w3]
          by_cases q1 : l[i] < m[i]
          · rw [decide_eq_true q1, if_pos rfl, if_pos q1]
          · rw [decide_eq_false q1, if_neg (by decide), if_neg q1]
            by_cases q2 : m[i] < l[i]
            · rw [decide_eq_true (show l[i] > m[i] from q2), if_pos rfl, if_pos q2]
            · rw [decide_eq_false (show ¬ l[i] > m[i] from q2), if_neg (by decide), if_neg q2]
        rw [hst, List.drop_eq_getElem_cons e2]
        conv => rhs; unfold cmpL
        by_cases q1 : l[i] < m[i]
        · rw [if_pos q1, if_pos q1]
          rfl
        · rw [if_neg q1, if_neg q1]
          by_cases q2 : m[i] < l[i]
          · rw [if_pos q2, if_pos q2]
            rfl
          · rw [if_neg q2, if_neg q2]
            exact rcmp_from hl hm k (i + 1) (by omega) (by omega) (by omega)
      · have c2 : ¬ ((i : Int) < (m.length : Int)) := by omega
        have hst : rickyardref04_Compare.s0 fu l m (i : Int) = some (.inl (.inr ())) := by
          unfold rickyardref04_Compare.s0
          rw [decide_eq_true c0, if_pos rfl, decide_eq_false c2, if_neg (by decide)]
        rw [hst, List.drop_of_length_le (show m.length ≤ i by omega)]
        simp only [Option.bind_some]
        rw [decide_eq_false (show ¬ (l.length : Int) < (m.length : Int) by omega), if_neg (by decide), decide_eq_true (show (l.length : Int) > (m.length : Int) by omega), if_pos rfl]
        rfl
    · have c0 : ¬ ((i : Int) < (l.length : Int)) := by omega
      have hst : rickyardref04_Compare.s0 fu l m (i : Int) = some (.inl (.inr ())) := by
        unfold rickyardref04_Compare.s0
        rw [decide_eq_false c0, if_neg (by decide)]
      rw [hst, List.drop_of_length_le (show l.length ≤ i by omega)]
      simp only [Option.bind_some]
      by_cases e2 : i < m.length
      · rw [decide_eq_true (show (l.length : Int) < (m.length : Int) by omega), if_pos rfl, List.drop_eq_getElem_cons e2]
        rfl
      · rw [decide_eq_false (show ¬ (l.length : Int) < (m.length : Int) by omega), if_neg (by decide), decide_eq_false (show ¬ (l.length : Int) > (m.length : Int) by omega), if_neg (by decide), List.drop_of_length_le (show m.length ≤ i by omega)]
        rfl
theorem rcompare_eq {fu : Nat} (hfu : 1000 ≤ fu) {s t : List UInt8} (hs : s.length ≤ 300) (ht : t.length ≤ 300) : rickyardref04_Compare.f fu s t = some (cmpL (rn s) (rn t)) := by
  unfold rickyardref04_Compare.f
  have h1 := rn_len hs
  have h2 := rn_len ht
  rw [rrunes_eq (by omega) hs, Option.bind_some, rrunes_eq (by omega) ht, Option.bind_some]
  have := rcmp_from (fu := fu) (l := rn s) (m := rn t) (by omega) (by omega) fu 0 (by omega) (by omega) (by omega)
  rw [List.drop_zero, List.drop_zero] at this
  exact this
def img (d : Dev) : List UInt8 := (octs (storedD d)).map toB
theorem toB_ofB {l : List Int} (h : Bytes l) : (l.map toB).map ofB = l := by
  rw [List.map_map]
  conv => rhs; rw [← List.map_id l]
  apply List.map_congr_left
  intro x hx
  have := h x hx
  unfold toB ofB
  simp only [Function.comp, id]
  rw [UInt8.toNat_ofNat']
  omega
theorem line_stored {d : Dev} {n k : Nat} (hl : d.cells.length = 8 * n) (hk : k < n) : (storedD d).drop (8 * k) = lineC d (k : Int) ++ (storedD d).drop (8 * k + 8) := by
  have e : lineC d (k : Int) = ((storedD d).drop (8 * k)).take 8 := by
    apply List.ext_getElem
    · simp [lineC, storedD]
      omega
    · intro i h1 h2
      have hi : i < 8 := by simpa [lineC] using h1
      simp only [lineC, storedD, List.getElem_map, List.getElem_range, List.getElem_take, List.getElem_drop]
      rw [show 8 * (k : Int) + (i : Int) = ((8 * k + i : Nat) : Int) by omega, ix_nat (by omega)]
  rw [e, ← List.drop_drop, List.take_append_drop]
theorem rline_eq {fu n : Nat} {d : Dev} (hn : n ≤ 3072) (hl : d.cells.length = 8 * n) (k : Int) (hoff : d.off = false) (hI : I64 k) : rickyardref20_Line.f fu (img d) k = some ((readD d k).1, decide ((readD d k).2 = 0)) := by
  have hil : (img d).length = 64 * n := by
    unfold img
    rw [List.length_map, octs_len]
    simp only [storedD, List.length_map]
    omega
  have hq : IntKind.i64.wrap (Int.tdiv ((img d).length : Int) 64) = (n : Int) := by
    rw [hil, Int.tdiv_eq_ediv_of_nonneg (by omega), w64 (by omega) (by omega)]
    omega
  unfold rickyardref20_Line.f
  rw [hq]
  by_cases c1 : k < 0
  · have : ¬ inL d k := fun h => by
      have := h.1
      omega
    rw [decide_eq_true c1, if_pos rfl]
    unfold readD
    rw [if_neg this]
    rfl
  · rw [decide_eq_false c1, if_neg (by decide)]
    obtain ⟨j, rfl⟩ : ∃ j : Nat, k = (j : Int) := ⟨k.toNat, by omega⟩
    by_cases c2 : n ≤ j
    · have : ¬ inL d (j : Int) := fun h => by
        have := h.2
        omega
      rw [decide_eq_true (show (j : Int) ≥ (n : Int) by omega), if_pos rfl]
      unfold readD
      rw [if_neg this]
      rfl
    · have hj : j < n := by omega
      rw [decide_eq_false (show ¬ (j : Int) ≥ (n : Int) by omega), if_neg (by decide)]
      have w1 : IntKind.i64.wrap (64 * (j : Int)) = ((64 * j : Nat) : Int) := by rw [w64 (by omega) (by omega)]; omega
      have w2 : IntKind.i64.wrap (((64 * j : Nat) : Int) + 64) = ((64 * j + 64 : Nat) : Int) := by rw [w64 (by omega) (by omega)]; omega
      rw [w1, w2, if_pos (by omega)]
      have hr : readD d (j : Int) = (octs (lineC d (j : Int)), 0) := by
        unfold readD
        rw [if_pos (show inL d (j : Int) from ⟨by omega, by omega⟩), hoff, if_neg (by decide)]
      rw [hr]
      have hcut : cut (img d) ((64 * j : Nat) : Int) ((64 * j + 64 : Nat) : Int) = (octs (lineC d (j : Int))).map toB := by
        unfold cut img
        rw [Int.toNat_natCast, Int.toNat_natCast, ← List.map_take, ← List.map_drop, List.drop_take]
        congr 1
        have e1 : (octs (storedD d)).drop (64 * j) = octs ((storedD d).drop (8 * j)) := by
          have := octs_drop (storedD d) (8 * j)
          rwa [show 8 * (8 * j) = 64 * j by omega] at this
        rw [e1, line_stored hl hj, octs_append]
        have hl8 : (octs (lineC d (j : Int))).length = 64 := by
          rw [octs_len]
          simp [lineC]
        rw [show 64 * j + 64 - 64 * j = (octs (lineC d (j : Int))).length by omega, List.take_left]
      rw [hcut, toB_ofB (octs_byt _)]
      rfl
def ansOf (k : Int) (r : List Ls × Int) : List S_api_Queue × List Int × Bool := if r.2 = 0 then (r.1.map (fun x : Ls => x.q), if k = 0 then [] else k :: ats r.1, true) else ([], [], false)
theorem rdL_ats {g : Int → List Int × Int} : ∀ (l : List Int) (out L : List Ls), rdL g l out = (L, 0) → ats L = ats out ++ l
  | [], out, L, h => by
    unfold rdL at h
    rw [show L = out from (Prod.ext_iff.1 h).1.symm]
    simp
  | a :: l, out, L, h => by
    unfold rdL at h
    split at h
    · rename_i h1
      exact absurd (Prod.ext_iff.1 h).2 h1
    · split at h
      · rw [rdL_ats l _ L h]
        simp [ats]
      · exact absurd (show (31 : Int) = 0 from (Prod.ext_iff.1 h).2) (by decide)
theorem ixq_map {L : List Ls} {i : Nat} (h : i < L.length) : ix (L.map (fun x : Ls => x.q)) (i : Int) = (ix L (i : Int)).q := by
  rw [ix_nat (by simpa using h), ix_nat h, List.getElem_map]
theorem rref_from {fu n : Nat} {d : Dev} {t5 : List Int × Bool} (hfu : 3000 < fu) (hn : n ≤ 3072) (hc : d.cells.length = 8 * n) (hoff : d.off = false) (hl : t5.1.length ≤ 16) (hI : ∀ x ∈ t5.1, I64 x) (T : List S_api_Queue → Option (List S_api_Queue × List Int × Bool)) :
    ∀ (k i : Nat) (out : List Ls), i ≤ t5.1.length → t5.1.length - i < k → out.length = i → (∀ x ∈ out, x.q.Name.length ≤ 24) →
    (loopM (rickyardref25_Read.s0 fu (img d) t5) k (out.map (fun x : Ls => x.q), (i : Int))).bind (fun e9 => match e9 with | Sum.inl p => some p | Sum.inr x11 => T x11) = (if (rdL (readD d) (t5.1.drop i) out).2 = 0 then T ((rdL (readD d) (t5.1.drop i) out).1.map (fun x : Ls => x.q)) else some ([], [], false))
  | 0, i, out, _, h2, _, _ => by omega
  | k + 1, i, out, h1, h2, h3, h4 => by
    have hu : loopM (rickyardref25_Read.s0 fu (img d) t5) (k + 1) (out.map (fun x : Ls => x.q), (i : Int)) = (match rickyardref25_Read.s0 fu (img d) t5 (out.map (fun x : Ls => x.q), (i : Int)) with | none => none | some (.inl e) => some e | some (.inr s') => loopM (rickyardref25_Read.s0 fu (img d) t5) k s') := by
      conv => lhs; unfold loopM
      generalize rickyardref25_Read.s0 fu (img d) t5 (out.map (fun x : Ls => x.q), (i : Int)) = q
      rcases q with _ | _ | _ <;> rfl
    rw [hu]
    by_cases e : i < t5.1.length
    · have c0 : (i : Int) < (t5.1.length : Int) := by omega
      have c1 : 0 ≤ (i : Int) ∧ (i : Int) < (t5.1.length : Int) := by omega
      have w3 : IntKind.i64.wrap ((i : Int) + 1) = ((i + 1 : Nat) : Int) := by rw [w64 (by omega) (by omega)]; omega
      have hmem := hI _ (List.getElem_mem e)
      rw [List.drop_eq_getElem_cons e]
      generalize hat : t5.1[i] = at_ at hmem ⊢
      obtain ⟨gb, gl⟩ := getd_bytes d at_
      have hgq : rickyardref11_Get.f fu (readD d at_).1 = some (if GetQ (readD d at_).1 then (qOf (readD d at_).1, true) else (noQ, false)) := rqueueGet_eq (by omega) gb
      have hst : rickyardref25_Read.s0 fu (img d) t5 (out.map (fun x : Ls => x.q), (i : Int)) = if (readD d at_).2 ≠ 0 then some (.inl (.inl ([], [], false))) else if GetQ (readD d at_).1 ∧ lastOk out (qOf (readD d at_).1) then some (.inr ((out ++ ([⟨qOf (readD d at_).1, at_⟩] : List Ls)).map (fun x : Ls => x.q), ((i + 1 : Nat) : Int))) else some (.inl (.inl ([], [], false))) := by
        unfold rickyardref25_Read.s0
        rw [decide_eq_true c0, if_pos rfl, if_pos c1, ix_nat e, hat, rline_eq hn hc at_ hoff hmem, Option.bind_some]
        by_cases e1 : (readD d at_).2 = 0
        · rw [decide_eq_true e1, if_neg (by simp), if_neg (by simpa using e1)]
          simp only
          rw [hgq, Option.bind_some]
          by_cases e2 : GetQ (readD d at_).1
          · have hnn := getQ_name e2
            have hlim : (out.map (fun x : Ls => x.q)).length + ([qOf (readD d at_).1] : List S_api_Queue).length ≤ LIM := lim_of' (by simp; omega)
            rw [if_pos e2]
            simp only
            rw [if_neg (by decide), w3]
            by_cases e3 : i = 0
            · have e3' : out = [] := List.eq_nil_of_length_eq_zero (by omega)
              rw [decide_eq_false (show ¬ ((i : Int) > 0) by omega), if_neg (by decide), if_pos hlim, if_pos (show GetQ (readD d at_).1 ∧ lastOk out (qOf (readD d at_).1) from ⟨e2, .inl e3'⟩), List.map_append]
              rfl
            · have e3' : out ≠ [] := fun h => by rw [h] at h3; simp at h3; omega
              have w4 : IntKind.i64.wrap ((i : Int) - 1) = ((out.length - 1 : Nat) : Int) := by rw [w64 (by omega) (by omega)]; omega
              have c3 : 0 ≤ ((out.length - 1 : Nat) : Int) ∧ ((out.length - 1 : Nat) : Int) < ((out.map (fun x : Ls => x.q)).length : Int) := by rw [List.length_map]; omega
              have hl1 : (ix out ((out.length - 1 : Nat) : Int)).q.Name.length ≤ 24 := by
                rw [ix_nat (show out.length - 1 < out.length by omega)]
                exact h4 _ (List.getElem_mem _)
              rw [decide_eq_true (show (i : Int) > 0 by omega), if_pos rfl, w4, if_pos c3, ixq_map (show out.length - 1 < out.length by omega), rcompare_eq (by omega) (by omega) (show (qOf (readD d at_).1).Name.length ≤ 300 by omega), Option.bind_some]
              by_cases e4 : cmpL (rn (ix out ((out.length - 1 : Nat) : Int)).q.Name) (rn (qOf (readD d at_).1).Name) < 0
              · rw [decide_eq_false (show ¬ (cmpL (rn (ix out ((out.length - 1 : Nat) : Int)).q.Name) (rn (qOf (readD d at_).1).Name) ≥ 0) by omega), if_neg (by decide), if_pos hlim, if_pos (show GetQ (readD d at_).1 ∧ lastOk out (qOf (readD d at_).1) from ⟨e2, .inr e4⟩), List.map_append]
                rfl
              · have hno : ¬ (GetQ (readD d at_).1 ∧ lastOk out (qOf (readD d at_).1)) := by
                  rintro ⟨_, hx | hx⟩
                  · exact e3' hx
                  · exact e4 hx
                rw [decide_eq_true (show cmpL (rn (ix out ((out.length - 1 : Nat) : Int)).q.Name) (rn (qOf (readD d at_).1).Name) ≥ 0 by omega), if_pos rfl, if_neg hno]
          · have hno : ¬ (GetQ (readD d at_).1 ∧ lastOk out (qOf (readD d at_).1)) := fun x => e2 x.1
            rw [if_neg hno, if_neg e2]
            rfl
        · rw [decide_eq_false e1, if_pos (by simp), if_pos (by simpa using e1)]
      rw [hst]
      unfold rdL
      by_cases e1 : (readD d at_).2 ≠ 0
      · rw [if_pos e1, if_pos e1]
        simp only [Option.bind_some]
        rw [if_neg e1]
      · rw [if_neg e1, if_neg e1]
        by_cases e2 : GetQ (readD d at_).1 ∧ lastOk out (qOf (readD d at_).1)
        · rw [if_pos e2, if_pos e2]
          exact rref_from (fu := fu) (t5 := t5) hfu hn hc hoff hl hI T k (i + 1) (out ++ [⟨qOf (readD d at_).1, at_⟩]) (by omega) (by omega) (by simp; omega) (fun x hx => by
            rcases List.mem_append.1 hx with hx | hx
            · exact h4 x hx
            · rw [List.mem_singleton.1 hx]
              exact (getQ_name e2.1).2)
        · rw [if_neg e2, if_neg e2]
          rfl
    · have c0 : ¬ ((i : Int) < (t5.1.length : Int)) := by omega
      have hst : rickyardref25_Read.s0 fu (img d) t5 (out.map (fun x : Ls => x.q), (i : Int)) = some (.inl (.inr (out.map (fun x : Ls => x.q)))) := by
        unfold rickyardref25_Read.s0
        rw [decide_eq_false c0, if_neg (by decide)]
      rw [hst, List.drop_of_length_le (show t5.1.length ≤ i by omega)]
      rfl
theorem rdread_eq {fu n : Nat} {d : Dev} (hfu : 3000 < fu) (hn : n ≤ 3072) (hc : d.cells.length = 8 * n) (hoff : d.off = false) {k : Int} (hk : I64 k) : rickyardref25_Read.f fu (img d) k = some (ansOf k (readP (readD d) k)) := by
  unfold rickyardref25_Read.f readP
  by_cases e : k = 0
  · subst e
    rfl
  · rw [decide_eq_false e, if_neg (by decide), if_neg e, rline_eq hn hc k hoff hk, Option.bind_some]
    obtain ⟨gb, gl⟩ := getd_bytes d k
    by_cases e1 : (readD d k).2 = 0
    · rw [decide_eq_true e1, if_neg (by simp), if_neg (by simpa using e1)]
      simp only
      rw [rdirGet_eq gb (by omega), Option.bind_some]
      by_cases e2 : GetD (readD d k).1
      · have hlen := getD_len e2
        rw [if_pos e2, if_pos e2]
        simp only
        rw [if_neg (by decide)]
        have hlim : ([k] : List Int).length + (dOf (readD d k).1).length ≤ LIM := lim_of' (by simp; omega)
        have hIx : ∀ x ∈ dOf (readD d k).1, I64 x := fun x hx => by
          have := (dirOk_iff.1 e2.2.2.2.1).2.1 x hx
          unfold numOk at this
          unfold I64
          omega
        have := rref_from (fu := fu) (t5 := (dOf (readD d k).1, true)) hfu hn hc hoff hlen hIx (fun x11 => if ([k] : List Int).length + (dOf (readD d k).1).length ≤ LIM then some (x11, ([k] ++ dOf (readD d k).1), true) else none) fu 0 [] (by omega) (by show (dOf (readD d k).1).length - 0 < fu; omega) rfl (fun x hx => by simp at hx)
        simp only [List.drop_zero, if_pos hlim] at this
        have hfin : (if (rdL (readD d) (dOf (readD d k).1) []).2 = 0 then some ((rdL (readD d) (dOf (readD d k).1) []).1.map (fun x : Ls => x.q), ([k] ++ dOf (readD d k).1), true) else some ([], [], false)) = some (ansOf k (rdL (readD d) (dOf (readD d k).1) [])) := by
          unfold ansOf
          by_cases q : (rdL (readD d) (dOf (readD d k).1) []).2 = 0
          · rw [if_pos q, if_pos q, if_neg e, rdL_ats (dOf (readD d k).1) [] (rdL (readD d) (dOf (readD d k).1) []).1 (Prod.ext rfl q)]
            rfl
          · rw [if_neg q, if_neg q]
        rw [hfin] at this
        have g : ∀ {α β : Type} {o : Option α} {f f' : α → Option β} {r : Option β}, (∀ x, f x = f' x) → o.bind f = r → o.bind f' = r := fun hx h => by rw [← h]; congr 1; funext x; exact (hx x).symm
        refine g (fun x => ?_) this
        rcases x with x | x
        · rfl
        · exact (if_pos hlim).symm
      · rw [if_neg e2, if_neg e2]
        rfl
    · rw [decide_eq_false e1, if_pos (by simp), if_pos (by simpa using e1)]
      unfold ansOf
      rw [if_neg e1]
theorem same_eq {fu : Nat} {l : List S_api_Queue} (hl : l.length ≤ 1000) (hf : 1000 < fu) : rickyardref25_Same.f fu l l = some true := by
  unfold rickyardref25_Same.f
  rw [decide_eq_true rfl]
  simp only [Bool.not_true, Bool.false_eq_true, if_false]
  have : loopM (rickyardref25_Same.s0 fu l l) fu 0 = some (Sum.inr ()) := by
    refine loopM_run (S := fun j => (j : Int)) l.length rfl (fun j hj => ?_) ?_ (by omega)
    · have w3 : IntKind.i64.wrap ((j : Int) + 1) = ((j + 1 : Nat) : Int) := by rw [w64 (by omega) (by omega)]; omega
      have c1 : 0 ≤ (j : Int) ∧ (j : Int) < (l.length : Int) := by omega
      unfold rickyardref25_Same.s0
      rw [decide_eq_true c1.2, if_pos rfl, if_pos c1, if_pos c1, decide_eq_true rfl, w3]
      rfl
    · unfold rickyardref25_Same.s0
      rw [decide_eq_false (by omega), if_neg (by decide)]
  rw [this]
  rfl
theorem at_found {fu : Nat} {L : List Ls} {s : List UInt8} {p : Nat} (hl : L.length ≤ 100) (hf : 1000 < fu) (hp : p < L.length) (hn : L[p].q.Name = s) (hlo : ∀ i (h : i < L.length), i < p → L[i].q.Name ≠ s) : rickyardref25_At.f fu (L.map (fun x : Ls => x.q)) s = some (p : Int) := by
  unfold rickyardref25_At.f
  have hml : (L.map (fun x : Ls => x.q)).length = L.length := by simp
  have : loopM (rickyardref25_At.s0 fu (L.map (fun x : Ls => x.q)) s) fu 0 = some (Sum.inl (p : Int)) := by
    refine loopM_run (S := fun j => (j : Int)) p rfl (fun j hj => ?_) ?_ (by omega)
    · have hjl : j < L.length := by omega
      have w3 : IntKind.i64.wrap ((j : Int) + 1) = ((j + 1 : Nat) : Int) := by rw [w64 (by omega) (by omega)]; omega
      unfold rickyardref25_At.s0
      rw [hml, decide_eq_true (show (j : Int) < (L.length : Int) by omega), if_pos rfl, if_pos (show 0 ≤ (j : Int) ∧ (j : Int) < (L.length : Int) by omega), ixq_map hjl, ix_nat hjl, decide_eq_false (hlo j hjl hj), if_neg (by decide), w3]
    · unfold rickyardref25_At.s0
      rw [hml, decide_eq_true (show (p : Int) < (L.length : Int) by omega), if_pos rfl, if_pos (show 0 ≤ (p : Int) ∧ (p : Int) < (L.length : Int) by omega), ixq_map hp, ix_nat hp, decide_eq_true hn, if_pos rfl]
  rw [this]
  rfl
theorem at_no {fu : Nat} {L : List Ls} {s : List UInt8} (hl : L.length ≤ 100) (hf : 1000 < fu) (hno : ¬ inL' L s) : rickyardref25_At.f fu (L.map (fun x : Ls => x.q)) s = some (-1) := by
  unfold rickyardref25_At.f
  have hml : (L.map (fun x : Ls => x.q)).length = L.length := by simp
  have : loopM (rickyardref25_At.s0 fu (L.map (fun x : Ls => x.q)) s) fu 0 = some (Sum.inr ()) := by
    refine loopM_run (S := fun j => (j : Int)) L.length rfl (fun j hj => ?_) ?_ (by omega)
    · have w3 : IntKind.i64.wrap ((j : Int) + 1) = ((j + 1 : Nat) : Int) := by rw [w64 (by omega) (by omega)]; omega
      unfold rickyardref25_At.s0
      rw [hml, decide_eq_true (show (j : Int) < (L.length : Int) by omega), if_pos rfl, if_pos (show 0 ≤ (j : Int) ∧ (j : Int) < (L.length : Int) by omega), ixq_map hj, ix_nat hj, decide_eq_false (fun h => hno ⟨_, List.getElem_mem hj, h⟩), if_neg (by decide), w3]
    · unfold rickyardref25_At.s0
      rw [hml, decide_eq_false (by omega), if_neg (by decide)]
  rw [this]
  rfl
theorem radd_eq {fu : Nat} {L : List Ls} {y : Ls} {p : Nat} (hl : L.length ≤ 100) (hf : 1000 < fu) (hn : ∀ x ∈ L, x.q.Name.length ≤ 300) (hy : y.q.Name.length ≤ 300) (hat : At' L y.q.Name p) (hno : ∀ i, p ≤ i → i < L.length → cAt L y.q.Name i ≠ 0) :
    rickyardref25_Add.f fu (L.map (fun x : Ls => x.q)) y.q = some ((L.take p ++ y :: L.drop p).map (fun x : Ls => x.q)) := by
  have hml : (L.map (fun x : Ls => x.q)).length = L.length := by simp
  have hp := hat.le
  unfold rickyardref25_Add.f
  have hc : ∀ i, i < L.length → rickyardref04_Compare.f fu y.q.Name ((ix (L.map (fun x : Ls => x.q)) (i : Int)).Name) = some (- cAt L y.q.Name i) := fun i hi => by
    rw [ixq_map hi, rcompare_eq (by omega) hy (by rw [ix_nat hi]; exact hn _ (List.getElem_mem _)), cmpL_swap]
    rfl
  have hloop : loopM (rickyardref25_Add.s0 fu (L.map (fun x : Ls => x.q)) y.q) fu ((L.map (fun x : Ls => x.q)).length : Int) = some (p : Int) := by
    refine loopM_run (S := fun j => ((L.length - j : Nat) : Int)) (L.length - p) (by rw [hml]; rfl) (fun j hj => ?_) ?_ (by omega)
    · have w3 : IntKind.i64.wrap (((L.length - j : Nat) : Int) - 1) = ((L.length - (j + 1) : Nat) : Int) := by rw [w64 (by omega) (by omega)]; omega
      unfold rickyardref25_Add.s0
      have h1 := hat.hi (L.length - (j + 1)) (by omega) (by omega)
      have h2 := hno (L.length - (j + 1)) (by omega) (by omega)
      rw [decide_eq_true (show ((L.length - j : Nat) : Int) > 0 by omega), if_pos rfl, w3, hml, if_pos (by omega), hc _ (by omega), Option.bind_some, decide_eq_true (show - cAt L y.q.Name (L.length - (j + 1)) < 0 by omega), if_pos rfl]
    · rw [show L.length - (L.length - p) = p by omega]
      unfold rickyardref25_Add.s0
      by_cases e : p = 0
      · rw [e]
        rfl
      · have w3 : IntKind.i64.wrap ((p : Int) - 1) = ((p - 1 : Nat) : Int) := by rw [w64 (by omega) (by omega)]; omega
        have h1 := hat.lo (p - 1) (by omega)
        rw [decide_eq_true (show (p : Int) > 0 by omega), if_pos rfl, w3, hml, if_pos (by omega), hc _ (by omega), Option.bind_some, decide_eq_false (show ¬ (- cAt L y.q.Name (p - 1) < 0) by omega), if_neg (by decide)]
  rw [hloop, Option.bind_some, hml, if_pos (by omega)]
  have e1 : cut (L.map (fun x : Ls => x.q)) 0 (p : Int) = (L.take p).map (fun x : Ls => x.q) := by
    unfold cut
    rw [Int.toNat_natCast, ← List.map_take]
    rfl
  have e2 : cut (L.map (fun x : Ls => x.q)) (p : Int) (L.length : Int) = (L.drop p).map (fun x : Ls => x.q) := by
    unfold cut
    rw [Int.toNat_natCast, Int.toNat_natCast, ← List.map_take, ← List.map_drop, List.take_length]
  have l1 : (L.take p).length ≤ 100 := by rw [List.length_take]; omega
  have l2 : (L.drop p).length ≤ 100 := by rw [List.length_drop]; omega
  rw [e1, e2, if_pos (lim_of' (by simp; omega)), if_pos (lim_of' (by simp; omega)), if_pos (by omega), if_pos (lim_of' (by simp; omega))]
  simp
theorem rwithout_eq {fu : Nat} {L : List Ls} {p : Nat} (hl : L.length ≤ 100) (hp : p < L.length) : rickyardref25_Without.f fu (L.map (fun x : Ls => x.q)) (p : Int) = some ((L.take p ++ L.drop (p + 1)).map (fun x : Ls => x.q)) := by
  have hml : (L.map (fun x : Ls => x.q)).length = L.length := by simp
  have w3 : IntKind.i64.wrap ((p : Int) + 1) = ((p + 1 : Nat) : Int) := by rw [w64 (by omega) (by omega)]; omega
  unfold rickyardref25_Without.f
  have e1 : cut (L.map (fun x : Ls => x.q)) 0 (p : Int) = (L.take p).map (fun x : Ls => x.q) := by
    unfold cut
    rw [Int.toNat_natCast, ← List.map_take]
    rfl
  have e2 : cut (L.map (fun x : Ls => x.q)) ((p + 1 : Nat) : Int) (L.length : Int) = (L.drop (p + 1)).map (fun x : Ls => x.q) := by
    unfold cut
    rw [Int.toNat_natCast, Int.toNat_natCast, ← List.map_take, ← List.map_drop, List.take_length]
  have l1 : (L.take p).length ≤ 100 := by rw [List.length_take]; omega
  have l2 : (L.drop (p + 1)).length ≤ 100 := by rw [List.length_drop]; omega
  rw [hml, w3, e1, e2, if_pos (by omega), if_pos (lim_of' (by simp; omega)), if_pos (by omega), if_pos (lim_of' (by simp; omega))]
  simp
abbrev qsOf (L : List Ls) : List S_api_Queue := L.map (fun x : Ls => x.q)
theorem qsOf_len (L : List Ls) : (qsOf L).length = L.length := by simp [qsOf]
theorem at_here {fu : Nat} {L : List Ls} {s : List UInt8} {p : Nat} (hl : L.length ≤ 100) (hf : 1000 < fu) (hN : ∀ x ∈ L, x.q.Name.length ≤ 300 ∧ NameOk x.q.Name) (hs : s.length ≤ 300) (hp : p < L.length) (hn : L[p].q.Name = s) (hat : At' L s p) : rickyardref25_At.f fu (qsOf L) s = some (p : Int) := by
  refine at_found hl hf hp hn fun i hi hip e => ?_
  have h1 := hat.lo i hip
  have h2 := (cAt_zero hN hs hi).2 e
  omega
theorem actd_ok {fu n : Nat} {B : Int} {M : Nat} {d : Dev} {a : AA} {k : Nat} {L : List Ls} {x : S_rickyardlaw25_Act} (hfu : 3000 + n < fu) (h : DS n B M d a k L) (hB : B + 18 < 9223372036854775807) (hn : 21 + M < n ∧ n ≤ 3072) (hs : x.Q.Name.length ≤ 300) (hk : 0 ≤ x.Kind ∧ x.Kind ≤ 255) :
    ∃ (k' : Nat) (d' : Dev) (a' : AA) (L' : List Ls), rickyardlaw25_do.f fu (SO n d a) (k : Int) (qsOf L) x = some ((k' : Int), qsOf L', true, SO n d' a') ∧ DS n (B + 18) M d' a' k' L' ∧ a'.m = a.m ∧ Keep n a d d' := by
  have hL := h.toMS.len
  have hN := h.toMS.nameOk
  have keep0 : Keep n a d d := fun _ _ _ => rfl
  have hml := qsOf_len L
  have he : Int.tmod x.Kind 4 = x.Kind % 4 := Int.tmod_eq_emod_of_nonneg hk.1
  have hno : ¬ inL' L x.Q.Name → rickyardref25_At.f fu (qsOf L) x.Q.Name = some (-1) := fun q => at_no (by omega) (by omega) q
  have hyes : ∀ {p : Nat} (hp : p < L.length), L[p].q.Name = x.Q.Name → At' L x.Q.Name p → rickyardref25_At.f fu (qsOf L) x.Q.Name = some (p : Int) := fun hp q1 q2 => at_here (by omega) (by omega) hN hs hp q1 q2
  unfold rickyardlaw25_do.f
  rw [he]
  rcases (show x.Kind % 4 = 0 ∨ x.Kind % 4 = 1 ∨ x.Kind % 4 = 2 ∨ x.Kind % 4 = 3 by omega) with e | e | e | e
  · -- Add
    rw [e]
    rcases add_ok (s := x.Q.Name) hfu h hB hn hs with ⟨q1, q⟩ | ⟨q1, q2, q⟩ | ⟨q1, q2, q3, q⟩ | ⟨q1, q2, q3, p, k', at_, d', a', q, hat, hD, hm, hkp⟩
    · obtain ⟨t, ht⟩ : ∃ t, rickyardref25_At.f fu (qsOf L) x.Q.Name = some t := by
        obtain ⟨p, _, hat⟩ := h.toMS.place (fu := fu) (by omega) hs
        by_cases w : inL' L x.Q.Name
        · have := (hat.found h.so' hN hs).2 w
          exact ⟨_, hyes this.1 ((cAt_zero hN hs this.1).1 this.2) hat⟩
        · exact ⟨_, hno w⟩
      refine ⟨k, d, a, L, ?_, h.up (by omega), rfl, keep0⟩
      rw [ht]
      simp only [Option.bind_some, decide_true, if_true]
      rw [q, Option.bind_some, rname_eq (by omega) hs, decide_eq_false q1]
      rfl
    · obtain ⟨p, _, hat⟩ := h.toMS.place (fu := fu) (by omega) hs
      have w := (hat.found h.so' hN hs).2 q2
      refine ⟨k, d, a, L, ?_, h.up (by omega), rfl, keep0⟩
      rw [hyes w.1 ((cAt_zero hN hs w.1).1 w.2) hat]
      simp only [Option.bind_some, decide_true, if_true]
      rw [q, Option.bind_some, rname_eq (by omega) hs, decide_eq_true q1]
      simp only [Option.bind_some, Bool.not_true, Bool.false_eq_true, if_false]
      rw [decide_eq_true (show (p : Int) ≥ 0 by omega)]
      rfl
    · refine ⟨k, d, a, L, ?_, h.up (by omega), rfl, keep0⟩
      rw [hno q2]
      simp only [Option.bind_some, decide_true, if_true]
      rw [q, Option.bind_some, rname_eq (by omega) hs, decide_eq_true q1]
      simp only [Option.bind_some, Bool.not_true, Bool.false_eq_true, if_false]
      rw [decide_eq_false (show ¬ ((-1 : Int) ≥ 0) by omega), hml, decide_eq_true (show (L.length : Int) = 16 by omega)]
      rfl
    · refine ⟨k', d', a', _, ?_, hD, hm, hkp⟩
      rw [hno q2]
      simp only [Option.bind_some, decide_true, if_true]
      rw [q, Option.bind_some, rname_eq (by omega) hs, decide_eq_true q1]
      simp only [Option.bind_some, Bool.not_true, Bool.false_eq_true, if_false]
      rw [decide_eq_false (show ¬ ((-1 : Int) ≥ 0) by omega), hml, decide_eq_false (show ¬ (L.length : Int) = 16 by omega)]
      simp only [Option.bind_some, Bool.not_true, Bool.false_eq_true, if_false, decide_true]
      have := radd_eq (fu := fu) (L := L) (y := ⟨newQ x.Q.Name, at_⟩) (p := p) (by omega) (by omega) (fun y hy => (hN y hy).1) hs hat (fun i hi hi2 g => q2 ⟨_, List.getElem_mem hi2, (cAt_zero hN hs hi2).1 g⟩)
      have this' : rickyardref25_Add.f fu (qsOf L) (⟨x.Q.Name, (0 : Int), (Arr.rep 12 (0 : Int))⟩ : S_api_Queue) = some (qsOf (L.take p ++ (⟨newQ x.Q.Name, at_⟩ : Ls) :: L.drop p)) := this
      rw [this']
      rfl
  · -- Set
    rw [e]
    rcases set_ok (q := x.Q) hfu h hB hn hs with ⟨q1, q⟩ | ⟨p, hp, q1, hat, ⟨q2, q⟩ | ⟨q2, k', d', a', at_, q, hD, hm, hkp⟩⟩
    · refine ⟨k, d, a, L, ?_, h.up (by omega), rfl, keep0⟩
      rw [hno q1]
      simp only [Option.bind_some, decide_true, if_true]
      rw [decide_eq_false (by decide), if_neg (by decide), q]
      rfl
    · refine ⟨k, d, a, L, ?_, h.up (by omega), rfl, keep0⟩
      rw [hyes hp q1 hat]
      simp only [Option.bind_some, decide_true, if_true]
      rw [decide_eq_false (by decide), if_neg (by decide), q, Option.bind_some, decide_eq_false (show ¬ ((p : Int) < 0) by omega), rqueueRight_eq (by omega) hs, decide_eq_false q2]
      rfl
    · refine ⟨k', d', a', _, ?_, hD, hm, hkp⟩
      rw [hyes hp q1 hat]
      simp only [Option.bind_some, decide_true, if_true]
      rw [decide_eq_false (by decide), if_neg (by decide), q, Option.bind_some, decide_eq_false (show ¬ ((p : Int) < 0) by omega), rqueueRight_eq (by omega) hs, decide_eq_true q2]
      simp only [Option.bind_some, Bool.not_true, Bool.false_eq_true, if_false, decide_true, List.nil_append]
      rw [if_pos (lim_of' (by simp; omega)), if_pos (by rw [hml]; omega), Int.toNat_natCast]
      have : List.set (qsOf L) p x.Q = qsOf (L.take p ++ (⟨x.Q, at_⟩ : Ls) :: L.drop (p + 1)) := by
        rw [List.set_eq_take_append_cons_drop, if_pos (by rw [hml]; exact hp)]
        simp [qsOf, List.map_take, List.map_drop]
      rw [this]
  · -- Remove
    rw [e]
    rcases remove_ok (s := x.Q.Name) hfu h hB hn hs with ⟨q1, q⟩ | ⟨p, hp, q1, hat, ⟨q2, q⟩ | ⟨q2, k', d', a', q, hD, hm, hkp⟩⟩
    · refine ⟨k, d, a, L, ?_, h.up (by omega), rfl, keep0⟩
      rw [hno q1]
      simp only [Option.bind_some, decide_true, if_true]
      rw [decide_eq_false (by decide), if_neg (by decide), decide_eq_false (by decide), if_neg (by decide), q]
      rfl
    · refine ⟨k, d, a, L, ?_, h.up (by omega), rfl, keep0⟩
      rw [hyes hp q1 hat]
      simp only [Option.bind_some, decide_true, if_true]
      rw [decide_eq_false (by decide), if_neg (by decide), decide_eq_false (by decide), if_neg (by decide), q, Option.bind_some, decide_eq_false (show ¬ ((p : Int) < 0) by omega)]
      simp only [Bool.false_eq_true, if_false]
      rw [if_pos (by rw [hml]; omega), ixq_map hp, ix_nat hp, decide_eq_false q2]
      rfl
    · refine ⟨k', d', a', _, ?_, hD, hm, hkp⟩
      rw [hyes hp q1 hat]
      simp only [Option.bind_some, decide_true, if_true]
      rw [decide_eq_false (by decide), if_neg (by decide), decide_eq_false (by decide), if_neg (by decide), q, Option.bind_some, decide_eq_false (show ¬ ((p : Int) < 0) by omega)]
      simp only [Bool.false_eq_true, if_false]
      rw [if_pos (by rw [hml]; omega), ixq_map hp, ix_nat hp, decide_eq_true q2]
      simp only [Option.bind_some, Bool.not_true, Bool.false_eq_true, if_false, decide_true]
      rw [rwithout_eq (by omega) hp]
      rfl
  · -- Find
    rw [e]
    rcases find_ok (s := x.Q.Name) hfu h hn.2 hs with ⟨q1, q⟩ | ⟨p, hp, q1, hat, q⟩
    · refine ⟨k, d, a, L, ?_, h.up (by omega), rfl, keep0⟩
      rw [hno q1]
      simp only [Option.bind_some, decide_true, if_true]
      rw [decide_eq_false (by decide), if_neg (by decide), decide_eq_false (by decide), if_neg (by decide), decide_eq_false (by decide), if_neg (by decide), q]
      rfl
    · refine ⟨k, d, a, L, ?_, h.up (by omega), rfl, keep0⟩
      rw [hyes hp q1 hat]
      simp only [Option.bind_some, decide_true, if_true]
      rw [decide_eq_false (by decide), if_neg (by decide), decide_eq_false (by decide), if_neg (by decide), decide_eq_false (by decide), if_neg (by decide), q, Option.bind_some, decide_eq_false (show ¬ ((p : Int) < 0) by omega)]
      simp only [Bool.false_eq_true, if_false, decide_true, if_true]
      rw [if_pos (by rw [hml]; omega), ixq_map hp, ix_nat hp, decide_eq_true rfl]
theorem small_ok {fu m : Nat} {acts : List S_rickyardlaw25_Act} (hm : m ≤ 1000) (hf : 1000 < fu) : ∃ b, rickyardlaw25_small.f fu acts (m : Int) = some b ∧ (b = true → acts.length ≤ m ∧ ∀ x ∈ acts, x.Q.Name.length ≤ 100) := by
  unfold rickyardlaw25_small.f
  by_cases e : (acts.length : Int) > (m : Int)
  · rw [decide_eq_true e, if_pos rfl]
    exact ⟨false, rfl, fun h => by cases h⟩
  · rw [decide_eq_false e, if_neg (by decide)]
    have hst : ∀ j : Nat, j < acts.length → rickyardlaw25_small.s0 fu acts (j : Int) = if (ix acts (j : Int)).Q.Name.length ≤ 100 then some (.inr ((j + 1 : Nat) : Int)) else some (.inl (.inl false)) := fun j hj => by
      have w3 : IntKind.i64.wrap ((j : Int) + 1) = ((j + 1 : Nat) : Int) := by rw [w64 (by omega) (by omega)]; omega
      unfold rickyardlaw25_small.s0
      rw [decide_eq_true (show (j : Int) < (acts.length : Int) by omega), if_pos rfl, if_pos (show 0 ≤ (j : Int) ∧ (j : Int) < (acts.length : Int) by omega), w3]
      by_cases q : (ix acts (j : Int)).Q.Name.length ≤ 100
      · rw [decide_eq_false (by omega), if_neg (by decide), if_pos q]
      · rw [decide_eq_true (by omega), if_pos rfl, if_neg q]
    by_cases q : ∀ j, j < acts.length → (ix acts (j : Int)).Q.Name.length ≤ 100
    · have : loopM (rickyardlaw25_small.s0 fu acts) fu 0 = some (.inr ()) := by
        refine loopM_run (S := fun j => (j : Int)) acts.length rfl (fun j hj => ?_) ?_ (by omega)
        · rw [hst j hj, if_pos (q j hj)]
        · unfold rickyardlaw25_small.s0
          rw [decide_eq_false (by omega), if_neg (by decide)]
      rw [this]
      refine ⟨true, rfl, fun _ => ⟨by omega, fun x hx => ?_⟩⟩
      obtain ⟨j, hj, rfl⟩ := List.getElem_of_mem hx
      have := q j hj
      rwa [ix_nat hj] at this
    · have : loopM (rickyardlaw25_small.s0 fu acts) fu 0 = some (.inl false) := by
        refine loopM_bad (S := fun j => (j : Int)) acts.length (fun j => (ix acts (j : Int)).Q.Name.length ≤ 100) rfl ?_ (fun j hj _ hg => by rw [hst j hj, if_pos hg]) (fun j hj _ hg => by rw [hst j hj, if_neg hg]) (by omega)
        refine Classical.byContradiction fun hx => q fun j hj => ?_
        refine Classical.byContradiction fun hg => hx ⟨j, hj, hg⟩
      rw [this]
      exact ⟨false, rfl, fun h => by cases h⟩
theorem loopM_iv {σ ε : Type} {step : σ → Option (Sum ε σ)} (I : Nat → σ → Prop) (Q : ε → Prop) (N : Nat) (h : ∀ j s, j < N → I j s → (∃ s', step s = some (.inr s') ∧ I (j + 1) s') ∨ ∃ e, step s = some (.inl e) ∧ Q e) (he : ∀ s, I N s → ∃ e, step s = some (.inl e) ∧ Q e) :
    ∀ (m j k : Nat) (s : σ), m + j = N → m < k → I j s → ∃ e, loopM step k s = some e ∧ Q e
  | 0, j, k + 1, s, hm, _, hI => by
    obtain ⟨e, h1, h2⟩ := he s (by rw [← hm, Nat.zero_add]; exact hI)
    refine ⟨e, ?_, h2⟩
    unfold loopM
    rw [h1]
  | m + 1, j, k + 1, s, hm, hk, hI => by
    rcases h j s (by omega) hI with ⟨s', h1, h2⟩ | ⟨e, h1, h2⟩
    · obtain ⟨e, g1, g2⟩ := loopM_iv I Q N h he m (j + 1) k s' (by omega) (by omega) h2
      refine ⟨e, ?_, g2⟩
      unfold loopM
      rw [h1]
      exact g1
    · refine ⟨e, ?_, h2⟩
      unfold loopM
      rw [h1]
theorem ini_iff {n j : Nat} (hn : 2 ≤ n) : ini n j = true ↔ j = 0 ∨ j = 1 := by
  unfold ini addF
  simp only [Bool.false_or, Bool.and_eq_true, decide_eq_true_eq, List.mem_cons, List.not_mem_nil, or_false]
  omega
theorem made_ds {n : Nat} (hn : 2 ≤ n) : DS n 0 2 (newD (8 * n)) (A0 n 0) 0 [] := by
  refine ⟨⟨⟨newD_ok _, newD_clean _, A0_ok (by decide)⟩, rfl, fun x hx => by simp at hx, fun h => absurd rfl h, List.Pairwise.nil, fun h => absurd rfl h, fun j => ?_, fun h => absurd rfl h, fun j hj => ?_, ?_⟩, .inl ⟨rfl, rfl⟩⟩
  · show ini n j = true ↔ _
    rw [ini_iff hn]
    simp [ats]
  · rcases hj with hj | hj
    · have := (ini_iff hn).1 hj
      simpa using this
    · have hj : nul n j = true := hj
      unfold nul addF at hj
      simp at hj
  · have h1 : cnt (ini n) n ≤ cnt (fun k => decide (k ∈ [0, 1])) n := cnt_mono fun k _ h => by
      have := (ini_iff hn).1 h
      simpa using this
    exact Nat.le_trans h1 (cnt_mem _ _)
theorem awake25 : rickyardlaw25_awake.f FU = some true := by decide +kernel
theorem cnt_dis {f g : Nat → Bool} {n : Nat} (h : ∀ k, k < n → f k = true → g k = false) : cnt (fun k => f k || g k) n = cnt f n + cnt g n := by
  unfold cnt
  have : ∀ l : List Nat, (∀ k ∈ l, k < n) → (l.filter fun k => f k || g k).length = (l.filter f).length + (l.filter g).length := by
    intro l
    induction l with
    | nil => simp
    | cons x l ih =>
      intro hl
      have i := ih fun k hk => hl k (List.mem_cons_of_mem _ hk)
      have hx := h x (hl x List.mem_cons_self)
      simp only [List.filter_cons]
      cases hf : f x with
      | false => cases g x <;> simp <;> omega
      | true => rw [hx hf]; simp; omega
  exact this _ fun k hk => List.mem_range.1 hk
theorem cnt_is {x n : Nat} (h : x < n) : cnt (fun k => decide (k = x)) n = 1 := by
  have h1 := cnt_one x n
  have h2 : 0 < cnt (fun k => decide (k = x)) n := List.length_pos_iff.2 fun e => by
    have : x ∈ (List.range n).filter fun k => decide (k = x) := List.mem_filter.2 ⟨List.mem_range.2 h, by simp⟩
    rw [e] at this
    simp at this
  omega
theorem cnt_list : ∀ {l : List Int} {n : Nat}, l.Nodup → (∀ x ∈ l, 0 ≤ x ∧ x < (n : Int)) → cnt (fun k => decide ((k : Int) ∈ l)) n = l.length
  | [], n, _, _ => by simp [cnt]
  | x :: l, n, hd, hb => by
    have hx := hb x List.mem_cons_self
    obtain ⟨j, rfl⟩ : ∃ j : Nat, x = (j : Int) := ⟨x.toNat, by omega⟩
    rw [List.nodup_cons] at hd
    have ih := cnt_list hd.2 fun y hy => hb y (List.mem_cons_of_mem _ hy)
    have e : cnt (fun k => decide ((k : Int) ∈ (j : Int) :: l)) n = cnt (fun k => decide (k = j) || decide ((k : Int) ∈ l)) n := cnt_congr fun k _ => by
      rw [Bool.eq_iff_iff]
      simp only [decide_eq_true_eq, Bool.or_eq_true, List.mem_cons, Int.natCast_inj]
    rw [e, cnt_dis (fun k _ hk => by
      have : k = j := of_decide_eq_true hk
      rw [this]
      exact decide_eq_false hd.1), cnt_is (by omega), ih, List.length_cons]
    omega
def Wl (k : Nat) (L : List Ls) : List Int := 0 :: 1 :: ((if k = 0 then [] else [(k : Int)]) ++ ats L)
theorem DS.works {n : Nat} {B : Int} {M : Nat} {d : Dev} {a : AA} {k : Nat} {L : List Ls} (h : DS n B M d a k L) (hn : 2 ≤ n) : cnt a.w n = (Wl k L).length := by
  have e : cnt a.w n = cnt (fun j => decide ((j : Int) ∈ Wl k L)) n := cnt_congr fun j _ => by
    rw [Bool.eq_iff_iff, h.w j, decide_eq_true_eq]
    unfold Wl
    simp only [List.mem_cons, List.mem_append]
    by_cases q : k = 0
    · rw [if_pos q]
      constructor
      · rintro (g | g | ⟨g, _⟩ | g)
        · exact .inl (by omega)
        · exact .inr (.inl (by omega))
        · exact absurd q g
        · exact .inr (.inr (.inr g))
      · rintro (g | g | g | g)
        · exact .inl (by omega)
        · exact .inr (.inl (by omega))
        · simp at g
        · exact .inr (.inr (.inr g))
    · rw [if_neg q, List.mem_singleton]
      constructor
      · rintro (g | g | ⟨_, g⟩ | g)
        · exact .inl (by omega)
        · exact .inr (.inl (by omega))
        · exact .inr (.inr (.inl (by omega)))
        · exact .inr (.inr (.inr g))
      · rintro (g | g | g | g)
        · exact .inl (by omega)
        · exact .inr (.inl (by omega))
        · exact .inr (.inr (.inl ⟨q, by omega⟩))
        · exact .inr (.inr (.inr g))
  have hat : ∀ x ∈ ats L, 2 ≤ x ∧ x < (n : Int) := fun x hx => by
    obtain ⟨y, hy, rfl⟩ := List.mem_map.1 hx
    obtain ⟨j, f1, f2, _⟩ := h.q y hy
    have hne : L ≠ [] := fun e => by subst e; simp at hy
    have := (dirOk_iff.1 (h.ok hne)).2.1 _ hx
    unfold numOk at this
    omega
  have hnd : (ats L).Nodup := by
    by_cases q : L = []
    · subst q; simp [ats]
    · exact (dirOk_iff.1 (h.ok q)).2.2
  have hk : ∀ x ∈ (if k = 0 then [] else [(k : Int)]) ++ ats L, 2 ≤ x ∧ x < (n : Int) := fun x hx => by
    rcases List.mem_append.1 hx with g | g
    · by_cases q : k = 0
      · rw [if_pos q] at g
        simp at g
      · rw [if_neg q, List.mem_singleton] at g
        have := h.kn q
        omega
    · exact hat x g
  have hnd2 : ((if k = 0 then [] else [(k : Int)]) ++ ats L).Nodup := by
    by_cases q : k = 0
    · rw [if_pos q, List.nil_append]
      exact hnd
    · rw [if_neg q]
      exact List.nodup_cons.2 ⟨h.kd q, hnd⟩
  rw [e]
  refine cnt_list (List.nodup_cons.2 ⟨fun g => ?_, List.nodup_cons.2 ⟨fun g => ?_, hnd2⟩⟩) fun x hx => ?_
  · rcases List.mem_cons.1 g with g | g
    · exact absurd g (by decide)
    · have := hk _ g
      omega
  · have := hk _ g
    omega
  · rcases List.mem_cons.1 hx with rfl | hx
    · omega
    · rcases List.mem_cons.1 hx with rfl | hx
      · omega
      · have := hk x hx
        omega
theorem DS.wide {n : Nat} {B : Int} {M M' : Nat} {d : Dev} {a : AA} {k : Nat} {L : List Ls} (h : DS n B M d a k L) (hM : M ≤ M') : DS n B M' d a k L := ⟨⟨h.so, h.r, h.q, h.ok, h.so', h.kn, h.w, h.kd, h.ce, Nat.le_trans h.m hM⟩, h.dir⟩
theorem Wl_le {n : Nat} {B : Int} {M : Nat} {d : Dev} {a : AA} {k : Nat} {L : List Ls} (h : DS n B M d a k L) : (Wl k L).length ≤ 19 := by
  have := h.toMS.len
  unfold Wl
  by_cases q : k = 0
  · rw [if_pos q]
    simp [ats]
    omega
  · rw [if_neg q]
    simp [ats]
    omega
theorem DS.mark {n : Nat} {B : Int} {M : Nat} {d : Dev} {a : AA} {k : Nat} {L : List Ls} (h : DS n B M d a k L) (hn : 2 ≤ n) : DS n B 19 d a.mark k L :=
  ⟨⟨⟨h.so.dev, h.so.cl, mark_ok h.so.al⟩, h.r, h.q, h.ok, h.so', h.kn, h.w, h.kd, h.ce, by
    show cnt a.w n ≤ 19
    rw [h.works hn]
    exact Wl_le h⟩, h.dir⟩
structure okA (x : S_rickyardlaw25_Act) : Prop where
  k : 0 ≤ x.Kind ∧ x.Kind ≤ 255
theorem okA_of {l : List S_rickyardlaw25_Act} (h : okv 9 (⟨.sl (.st .S_rickyardlaw25_Act), l⟩ : PV G.toSg)) : ∀ x ∈ l, okA x := by
  intro x hx
  have h1 := h.2 x hx
  have hk := h1 ⟨.int .u8, x.Kind⟩ (List.mem_cons_self)
  exact ⟨wf8.1 hk⟩
theorem acts_loop {l : List S_rickyardlaw25_Act} (hl : l.length ≤ 40) (hs : ∀ x ∈ l, x.Q.Name.length ≤ 100) (hk : ∀ x ∈ l, okA x) : ∃ e, loopM (rickyardlaw25_DirActs.s0 FU l) FU (0, [], 0, SO 120 (newD (8 * 120)) (A0 120 0)) = some e ∧ ∃ S, e = Sum.inr S := by
  refine loopM_iv (fun j s => ∃ (k : Nat) (d : Dev) (a : AA) (L : List Ls), s = ((k : Int), qsOf L, (j : Int), SO 120 d a) ∧ DS 120 (18 * (j : Int)) 19 d a k L) _ l.length ?_ ?_ l.length 0 FU _ (by omega) (Nat.lt_of_le_of_lt hl (by decide)) ⟨0, _, _, [], rfl, (made_ds (by omega)).wide (by omega)⟩
  · rintro j s hj ⟨k, d, a, L, rfl, hD⟩
    left
    have w3 : IntKind.i64.wrap ((j : Int) + 1) = ((j + 1 : Nat) : Int) := by rw [w64 (by omega) (by omega)]; omega
    have c1 : 0 ≤ (j : Int) ∧ (j : Int) < (l.length : Int) := by omega
    have hx := List.getElem_mem hj
    obtain ⟨a1, hm1, hD1⟩ : ∃ a1 : AA, (if (l[j]).Mark = true then ((alloc_Alloc_Mark.f FU (SO 120 d a).blocks).bind fun t36 => some ((⟨(SO 120 d a).device, t36⟩ : S_shadow_Store))) else some (SO 120 d a)) = some (SO 120 d a1) ∧ DS 120 (18 * (j : Int)) 19 d a1 k L := by
      by_cases q : (l[j]).Mark = true
      · refine ⟨a.mark, ?_, hD.mark (by omega)⟩
        rw [if_pos q, show (SO 120 d a).blocks = a.of 120 from rfl, mark_eq (by decide) (by decide) hD.so.al]
        rfl
      · exact ⟨a, if_neg q, hD⟩
    obtain ⟨k', d', a', L', e1, hD', _, _⟩ := actd_ok (fu := FU) (x := l[j]) (by decide) hD1 (by omega) (by decide) (by have := hs _ hx; omega) (hk _ hx).k
    have hL' := hD'.toMS.len
    have hls : dir_List.f FU (SO 120 d' a') (k' : Int) = some (qsOf L', 0) := list_eq' (by decide) hD'.so.dev (by decide) hD'.read (by omega)
    have hvw : pmem_Device_View.f FU (SO 120 d' a').device = some (octs (storedD d')) := view_eq hD'.so.dev (by decide) (by decide)
    have hk' : k' < 120 := by
      by_cases q : k' = 0
      · omega
      · exact (hD'.kn q).2
    have hrr : rickyardref25_Read.f FU (List.map toB (octs (storedD d'))) (k' : Int) = some (qsOf L', (if (k' : Int) = 0 then [] else (k' : Int) :: ats L'), true) := by
      have := rdread_eq (fu := FU) (n := 120) (d := d') (k := (k' : Int)) (by decide) (by decide) hD'.so.len hD'.so.cl.off (by unfold I64; omega)
      rw [hD'.read] at this
      exact this
    have hwk : alloc_Alloc_Works.f FU (SO 120 d' a').blocks = some (setOf 120 a'.w) := works_eq (by decide) (by decide) hD'.so.al
    have hct : bits_Set_Count.f FU (setOf 120 a'.w) = some ((cnt a'.w 120 : Nat) : Int) := count_eq (by decide) (by decide) hD'.so.al.w
    have hcn : ((cnt a'.w 120 : Nat) : Int) = IntKind.i64.wrap (2 + ((if (k' : Int) = 0 then [] else (k' : Int) :: ats L').length : Int)) := by
      have hw := hD'.works (by omega)
      have hle := Wl_le hD'
      rw [hw]
      unfold Wl at hle ⊢
      rcases hD'.dir with ⟨q, qL⟩ | ⟨q, _, _⟩
      · subst q
        subst qL
        rfl
      · rw [if_neg q] at hle ⊢
        rw [if_neg (show ¬ (k' : Int) = 0 by omega)]
        simp only [List.length_cons, List.length_append, List.length_nil] at hle ⊢
        rw [w64 (by omega) (by omega)]
        omega
    refine ⟨((k' : Int), qsOf L', ((j + 1 : Nat) : Int), SO 120 d' a'), ?_, k', d', a', L', rfl, hD'.up (by omega)⟩
    unfold rickyardlaw25_DirActs.s0
    simp only [decide_eq_true c1.2, if_true, if_pos c1, ix_nat hj]
    rw [hm1]
    simp only [Option.bind_some]
    rw [e1]
    simp only [Option.bind_some, Bool.not_true, Bool.false_eq_true, if_false]
    rw [hls]
    simp only [Option.bind_some]
    rw [hvw]
    simp only [Option.bind_some]
    rw [hrr]
    simp only [Option.bind_some, decide_true, Bool.not_true, Bool.false_eq_true, if_false]
    rw [same_eq (by rw [qsOf_len]; omega) (by decide)]
    simp only [Option.bind_some, Bool.not_true, Bool.false_eq_true, if_false]
    rw [hwk]
    simp only [Option.bind_some]
    rw [hct]
    simp only [Option.bind_some]
    rw [hcn, decide_eq_true rfl]
    simp only [Bool.not_true, Bool.false_eq_true, if_false, w3]
  · rintro s ⟨k, d, a, L, rfl, hD⟩
    exact ⟨_, by unfold rickyardlaw25_DirActs.s0; rw [decide_eq_false (show ¬ ((l.length : Int) < (l.length : Int)) by omega), if_neg (by decide)], _, rfl⟩
theorem DirActs : ∀ (a0 : List S_rickyardlaw25_Act), okv 9 (⟨.sl (.st .S_rickyardlaw25_Act), a0⟩ : PV G.toSg) → ∃ fu, rickyardlaw25_DirActs.f fu a0 = some true := by
  intro l h0
  refine ⟨FU, ?_⟩
  obtain ⟨b, hb, hb2⟩ := small_ok (fu := FU) (m := 40) (acts := l) (by decide) (by decide)
  have hb' : rickyardlaw25_small.f FU l 40 = some b := hb
  have hm : rickyardlaw19_Made.f FU 120 0 = some (some (SO 120 (newD (8 * 120)) (A0 120 0)), some (newD (8 * 120)), some ((A0 120 0).of 120)) := made_eq (fu := FU) (n := 120) (r := 0) (by decide) (by decide) (by decide)
  unfold rickyardlaw25_DirActs.f
  rw [awake25]
  simp only [Option.bind_some, Bool.not_true, Bool.false_eq_true, if_false]
  rw [hb']
  simp only [Option.bind_some]
  cases b with
  | false => rfl
  | true =>
    obtain ⟨h1, h2⟩ := hb2 rfl
    simp only [Bool.not_true, Bool.false_eq_true, if_false]
    rw [hm]
    simp only [Option.bind_some, Option.elim]
    obtain ⟨e, g1, S, rfl⟩ := acts_loop h1 h2 (okA_of h0)
    have g1' : loopM (rickyardlaw25_DirActs.s0 FU l) FU (0, [], 0, (⟨newD (8 * 120), (A0 120 0).of 120⟩ : S_shadow_Store)) = some (Sum.inr S) := g1
    rw [g1']
    rfl
end Go.Proofs.YtdifnahlheogdaaGreatDoor.Pure
namespace Go.Proofs.YtdifnahlheogdaaGreatDoor.dirActs
open Go.ChangeShapes Go.WideShapes Go.ChangeAt Go.RowKit
open Go.ChangeMaps (open_string shut_string)
open Go Go.Xw Go.Yw
theorem own : ownKnob Tryz.prog.godebug = none := Facts.own
theorem laidOut : laidOutB Tryz.prog = true := Facts.laid
theorem closed : joinedFacts Tryz.pinned.checked.prog 5 Tryz.f5 Rows.dirActsSpec Rows.dirActsRow = true := by
  unfold joinedFacts
  rw [Facts.enter, Facts.lifts, Facts.make, Facts.laid, Facts.rowed, Facts.plain, Facts.heard]
  kernel_rfl
set_option maxRecDepth 100000 in
set_option maxHeartbeats 1000000 in
theorem lifted (os : Os) (started : os.Started) (H : Type) (enc : TypeId × Value → H) :
    ReturnsInHanded {} Tryz.checked os 5 .any (fun w args => (Rows.dirActsSpec.pre enc Tryz.prog Tryz.f5 [] false w args ∧ laidMetH Tryz.prog Laid.L0 w) ∧ sizedMet enc Tryz.prog Tryz.f5 (OpenSpec.ofChange Rows.dirActsSpec) false w args) (Rows.dirActsSpec.post enc Tryz.prog Tryz.f5 false true false false) := by
  refine returnsInHanded_of_change_and (C := Tryz.checked) (X := fun w _ => laidMetH Tryz.prog Laid.L0 w) (fun _ _ _ hh h => h.of_heap hh) own started (by kernel_rfl) Tryz.func5
    (ChangeSpec.witness_shaped (enc := enc) (C := Tryz.checked) (os := os) (X := fun w _ => laidMetH Tryz.prog Laid.L0 w) false (World.doorLaid Tryz.prog 400 os) #[.slice none 0 0] 8 rfl (World.shaped_of_RefB (by kernel_rfl) (by kernel_rfl)) (by kernel_rfl) (by kernel_rfl) (by kernel_rfl) (Laid.met os _)) ?_
  intro W base args ds gs before hval0 hW _ _ hL _
  have hval : ∀ (j : Nat) t v, Tryz.f5.params[j]? = some t → args[j]? = some v → Value.okWide Tryz.prog W .any base t v := hval0
  have hW' := hW
  obtain ⟨p, q, hA0, hV, rfl, hfz, hnd⟩ := hW
  have hA : DataW.TrodAll enc Tryz.prog W 0 (fun _ => true) true Tryz.f5.params.toList args.toList ds p := hA0
  rw [Tryz.params5] at hA hval
  obtain ⟨v0, vs0, d0, ds0, p0, q0, hargs, rfl, rfl, h0, r0⟩ := trodAll_cons hA
  obtain ⟨rfl, rfl, rfl⟩ := trodAll_nil r0
  obtain rfl : args = #[v0] := by cases args; simp_all
  obtain ⟨rfl, rfl⟩ := trodVars_none hV
  have k0 := h0
  have lt0 : ∀ x ∈ p0, x.block < W.heap.size := by obtain ⟨m, hm⟩ := k0; exact DataW.trod_lt m _ _ _ hm
  obtain ⟨fu0, hf0⟩ := h0
  obtain ⟨a0, c0, o0⟩ := open_ok (Γ := G) gok full0 9 51 (.sl (.st SI.S_rickyardlaw25_Act)) (by kernel_rfl) enc _ _ _ _ _ _ hf0
  have w0 : VR (Γ := G) (fun _ => none) W (Low W) (.v (.sl (.st SI.S_rickyardlaw25_Act)) a0) v0 := arg_ok (P := Tryz.prog) (base := base) (n := 8) gok c0 (hval 0 51 v0 rfl rfl) (by kernel_rfl)
  obtain ⟨fu, hfu⟩ := Pure.DirActs a0 o0
  refine Calls.mono (law_ok (rickyardlaw25_DirActs.sc fu a0 true hfu) (.cons w0 .nil) (Laid.gl hL)) fun e W' hr => ?_
  obtain ⟨v, rfl, rfl, gr⟩ := hr
  have bel := Fr.below gr
  exact ⟨_, rfl, _, _, _, [], _, [], hW', trodAll_mk1 (shut_bool Tryz.underlying4 _), (trodAll_cons_mk (Below.trod laidOut (by kernel_rfl) (of_decide_eq_true (by kernel_rfl)) k0 bel lt0) trodAll_mk0), rfl, bel.frame _, fun h => by cases h⟩
theorem over : Rows.dirActsRow.holds Tryz.pinned (OpenSpec.ofChange Rows.dirActsSpec) :=
  OpenClaim.holds_of_wide 5 Tryz.f5 rfl rfl rfl rfl rfl rfl rfl ⟨rfl, rfl, rfl, rfl, rfl⟩ rfl rfl rfl rfl rfl (by kernel_rfl) Tryz.func5 closed
    (of_decide_eq_true (by kernel_rfl)) (by unfold Func.isWrapper; first | (rw [if_pos (by decide +kernel)]; kernel_rfl) | (rw [if_neg (by decide +kernel)]; exact ⟨rfl, rfl⟩))
    (fun os started H enc _ => lifted os started H enc)
theorem card : Rows.DirActsCardSaid :=
  Claim7.holds_tied_plain_at .later [] [.data] true (true, "3490497729f6ac32662a439c723bf86548de1a2b70af1bdc62943a223396cb6b") false
    over (fun _ h => by cases h) (by kernel_rfl) (fun _ h => by cases h) dirActs_row_tie rfl ⟨rfl, rfl⟩ (by kernel_rfl) rfl
    (fun f fn hf hfn => by
      obtain rfl : f = 5 := Option.some.inj ((show Tryz.prog.funcNamed "rickyard/rickyardlaw25.DirActs" = some 5 by kernel_rfl).symm.trans hf) |>.symm
      obtain rfl : fn = Tryz.f5 := (Option.some.inj (Tryz.func5.symm.trans hfn)).symm
      exact ⟨by kernel_rfl, fun j t ht => by
        rw [Tryz.params5] at ht
        have hm : t ∈ [51] := by simpa using Array.mem_of_getElem? ht
        have hall : ([51].all fun u => !Tryz.prog.wantsStandIn u) = true := by kernel_rfl
        exact (show Tryz.prog.wantsStandIn t = false by simpa using List.all_eq_true.1 hall t hm)⟩)
    (by kernel_rfl)
end Go.Proofs.YtdifnahlheogdaaGreatDoor.dirActs
namespace Go.Proofs.YtdifnahlheogdaaGreatDoor
theorem dirActs_holds : Rows.DirActsCardSaid := dirActs.card
#print axioms dirActs_holds
end Go.Proofs.YtdifnahlheogdaaGreatDoor
