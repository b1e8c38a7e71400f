/- RootCommits: texts merged, part 2 of 7. The last part proves that the law RootCommits holds for every input. -/
import Derived.Test.YtklhbaghbmndeaaPkRootCommits1
set_option maxRecDepth 100000
set_option maxHeartbeats 4000000
set_option linter.unusedVariables false
set_option linter.unusedSimpArgs false
namespace Go.Proofs.Ytklhbaghbmndeaa
open Go Go.Xw
def pmem_New.f (fu : Nat) (a0 : Int) : Option ((Option S_pmem_Device) × Int) := (if (if (decide (a0 < 0)) = true then true else (decide (a0 > 4096))) = true then some (none, 2) else (if 0 ≤ (IntKind.i64.wrap (a0 * 8)) ∧ Int.toNat (IntKind.i64.wrap (a0 * 8)) ≤ LIM then some ((some (⟨(List.replicate (Int.toNat (IntKind.i64.wrap (a0 * 8))) (⟨(0 : Int), (0 : Int), (0 : Int), false⟩ : S_pmem_cell)), (⟨[], (0 : Int)⟩ : S_pmem_plan), false, false, (0 : Int), (0 : Int)⟩ : S_pmem_Device)), 0) else none))
theorem pmem_New.ok (fu : Nat) (w : World) (a0 : Int) (r : (Option S_pmem_Device) × Int) (h : pmem_New.f fu a0 = some r) :
  Calls Try.prog 26 (([.int .i64 a0] : List Value).toArray) w (fun e w' => ∃ v, e = .returned v ∧ ∃ u1 : Value, ∃ p2 : (r.1 = none → u1 = .pointer none) ∧ ∀ m9, r.1 = some m9 → ∃ G9 : Nat, ∃ U0 : Value, ∃ U1 : Value, ∃ O0 : Own k_pmem_cell 142 w' w.heap.size U0 m9.cells, ∃ O1 : Own (kI .i64) 3 w' w.heap.size U1 m9.plan.list, u1 = (pt G9 0) ∧ w.heap.size ≤ G9 ∧ Blk w' G9 139 [Seg.cell U0 O0.one, Seg.cell U1 O1.one, (sI m9.plan.at_), Seg.cell (.bool m9.off), Seg.cell (.bool m9.armed), (sI m9.left), (sI m9.steps)], v = .tuple #[u1, .int .i64 r.2] ∧ Gr w w') := by
 unfold pmem_New.f at h
 have fB : Gr w w := Fr.refl _ _
 refine calls_cw Try.func26 rfl Try.ntmps26 rfl ?_
 refine cw_seq ?_
 refine cw_region ?_
 refine ol_val (v := .pointer none) (xr_assign rfl rfl) rfl rfl rfl ?_
 refine ol_val (v := .int .i64 0) (xr_assign rfl rfl) rfl rfl rfl ?_
 refine ol_nil ?_
 refine cw_seq ?_
 refine cw_seq ?_
 refine cw_mid (fun ρ' w' => ρ' 0 = .int .i64 a0 ∧ ρ' 9 = .bool (if (decide (a0 < 0)) = true then true else (decide (a0 > 4096))) ∧ w = w') ?_ ?_
 ·skip
  refine cw_region ?_
  refine ol_val (v := .int .i64 a0) (xr_move rfl rfl) rfl rfl rfl ?_
  refine ol_val (v := .bool (decide (a0 < 0))) (xr_lss rfl rfl rfl) rfl rfl rfl ?_
  refine ol_val (v := .bool (decide (a0 < 0))) (xr_move rfl rfl) rfl rfl rfl ?_
  rcases bt (decide (a0 < 0)) with c3 | c3
  ·skip
   refine ol_gskip rfl rfl rfl rfl rfl c3 ?_
   refine ol_gskip rfl rfl rfl rfl rfl c3 ?_
   refine ol_val (v := .bool true) (xr_pickT rfl rfl c3 rfl) rfl rfl rfl ?_
   refine ol_nil ?_
   refine thn_i ?_
   exact ⟨rfl, (rfl).trans (congrArg (fun z => (.bool z : Value)) (show true = (if (decide (a0 < 0)) = true then true else (decide (a0 > 4096))) from by rw [ite_t c3])), rfl⟩
  refine ol_gval (v := .int .i64 a0) (xr_move rfl rfl) rfl rfl rfl rfl rfl c3 ?_
  refine ol_gval (v := .bool (decide (a0 > 4096))) (xr_gtr rfl rfl rfl) rfl rfl rfl rfl rfl c3 ?_
  refine ol_val (v := .bool (decide (a0 > 4096))) (xr_pickF rfl rfl c3 rfl) rfl rfl rfl ?_
  refine ol_nil ?_
  refine thn_i ?_
  exact ⟨rfl, (rfl).trans (congrArg (fun z => (.bool z : Value)) (show (decide (a0 > 4096)) = (if (decide (a0 < 0)) = true then true else (decide (a0 > 4096))) from by rw [ite_f c3])), rfl⟩
 rintro ρ4 _ ⟨e0, e9, rfl⟩
 rcases is h with ⟨c5, h⟩ | ⟨c5, h⟩
 ·refine cw_condT e9 c5 ?_
  refine cw_seq ?_
  refine cw_region ?_
  refine ol_val (v := .pointer none) (xr_assign rfl rfl) rfl rfl rfl ?_
  refine ol_val (v := .int .i64 2) (xr_assign rfl rfl) rfl rfl rfl ?_
  refine ol_nil ?_
  refine cw_ret ?_
  repeat (first | with_reducible refine thn_r ?_ | with_reducible refine blk_r ?_)
  obtain rfl := Option.some.inj h
  refine fin_ret2 Try.results26 rfl rfl ?_
  exact ⟨_, rfl, (.pointer none), ⟨(fun _ => rfl), (fun _ e => by cases e)⟩, rfl, fB⟩
 refine cw_condF e9 c5 ?_
 refine cw_skip ?_
 refine cw_seq ?_
 refine cw_region ?_
 refine ol_val (v := .int .i64 a0) (xr_move rfl e0) rfl rfl rfl ?_
 refine ol_val (v := .int .i64 (IntKind.i64.wrap (a0 * 8))) (xr_mul rfl rfl rfl) rfl rfl rfl ?_
 obtain ⟨g6, h⟩ := gs h
 refine ol_op (opv_make (K := k_pmem_cell) (z := (⟨(0 : Int), (0 : Int), (0 : Int), false⟩ : S_pmem_cell)) rfl Try.underlying135 el142 rfl rfl rfl g6.1 g6.2 rfl fB.size) rfl rfl rfl ?_
 rintro v7 w12 ⟨o9, q8, z10⟩
 have fB := fB.gr q8
 refine ol_val (v := aggV [Seg.cell v7 o9.one, Seg.cell (.slice none 0 0) (by rfl), (sI (0 : Int)), Seg.cell (.bool false), Seg.cell (.bool false), (sI (0 : Int)), (sI (0 : Int))]) (xr_buildS (vals := [(0, v7)]) (res := [Seg.cell v7 o9.one, Seg.cell (.slice none 0 0) (by rfl), (sI (0 : Int)), Seg.cell (.bool false), Seg.cell (.bool false), (sI (0 : Int)), (sI (0 : Int))]) rfl ⟨rfl, rfl, trivial⟩ Try.underlying139 ze139 pl139 (fl_cons (xs := cellsOf [Seg.cell v7 o9.one]) (cs' := cellsOf [Seg.cell v7 o9.one, Seg.cell (.slice none 0 0) (by rfl), (sI (0 : Int)), Seg.cell (.bool false), Seg.cell (.bool false), (sI (0 : Int)), (sI (0 : Int))]) rfl (cells_one o9.one) (len_cellsOf _) (Spl.segs [Seg.cell (.slice none 0 0) (by rfl), Seg.cell (.slice none 0 0) (by rfl), (sI (0 : Int)), Seg.cell (.bool false), Seg.cell (.bool false), (sI (0 : Int)), (sI (0 : Int))] 0 1 [Seg.cell v7 o9.one] rfl rfl) fl_nil)) rfl rfl rfl ?_
 refine ol_op (opv_box (ss := [Seg.cell v7 o9.one, Seg.cell (.slice none 0 0) (by rfl), (sI (0 : Int)), Seg.cell (.bool false), Seg.cell (.bool false), (sI (0 : Int)), (sI (0 : Int))]) rfl rfl rfl) rfl rfl rfl ?_
 rintro _ w18 ⟨G13, rfl, b14, q15, z16⟩
 have z16 := Nat.le_trans fB.size z16
 have o9 := o9.gr q15
 have fB := fB.gr q15
 refine ol_val (v := (pt G13 0)) (xr_assign rfl rfl) rfl rfl rfl ?_
 refine ol_val (v := .int .i64 0) (xr_assign rfl rfl) rfl rfl rfl ?_
 refine ol_nil ?_
 refine cw_ret ?_
 repeat (first | with_reducible refine thn_r ?_ | with_reducible refine blk_r ?_)
 obtain rfl := Option.some.inj h
 refine fin_ret2 Try.results26 rfl rfl ?_
 exact ⟨_, rfl, ((pt G13 0)), ⟨(fun e => by cases e), (fun _ e => by obtain rfl := Option.some.inj e; exact ⟨G13, v7, (.slice none 0 0), o9, Own.nil _ _ _ _, rfl, z16, b14⟩)⟩, rfl, fB⟩
def pmem_cell_keep__i0.f (fu : Nat) (a0 : S_pmem_cell) (a1 : Int) : Option S_pmem_cell := some ((⟨a1, a0.stored, 0, false⟩ : S_pmem_cell))
theorem pmem_cell_keep__i0.ok (fu : Nat) (w : World) (a0 : S_pmem_cell) (G_0 : Nat) (T_0 : TypeId) (X_0 Y_0 : List Value) (b_0 : SubB w G_0 T_0 X_0 [Seg.cell (.int .u64 a0.lasts), Seg.cell (.int .u64 a0.stored), Seg.cell (.int .u64 a0.sent), Seg.cell (.bool a0.flushed)] Y_0) (a1 : Int) (r : S_pmem_cell) (h : pmem_cell_keep__i0.f fu a0 a1 = some r) :
  Calls Try.prog 85 (([(pt G_0 (List.length X_0)), .int .u64 a1] : List Value).toArray) w (fun e w' => ∃ v, e = .returned v ∧ v = .tuple #[] ∧ SubB w' G_0 T_0 X_0 [Seg.cell (.int .u64 r.lasts), Seg.cell (.int .u64 r.stored), Seg.cell (.int .u64 r.sent), Seg.cell (.bool r.flushed)] Y_0 ∧ Fr (fun j => j = G_0) w w') := by
 unfold pmem_cell_keep__i0.f at h
 have fB : Fr (fun j => j = G_0) w w := Fr.refl _ _
 refine calls_cw Try.func85 rfl Try.ntmps85 rfl ?_
 refine cw_seq ?_
 refine cw_region ?_
 refine ol_val (v := (pt G_0 (List.length X_0))) (xr_move rfl rfl) rfl rfl rfl ?_
 refine ol_val (v := .int .u64 a1) (xr_move rfl rfl) rfl rfl rfl ?_
 refine ol_val (v := (pt G_0 (List.length X_0))) (xr_nilCheck rfl rfl) rfl rfl rfl ?_
 refine ol_val (v := (pt G_0 (List.length X_0 + 0))) (xr_fieldAddr (p := List.length X_0) (q := 0) rfl fl142_0 rfl) rfl rfl rfl ?_
 refine ol_op0 (opv_storeSub (ss' := [Seg.cell (.int .u64 a1), Seg.cell (.int .u64 a0.stored), Seg.cell (.int .u64 a0.sent), Seg.cell (.bool a0.flushed)]) (xs := cellsOf [Seg.cell (.int .u64 a1)]) rfl sz22 rfl rfl rfl (len_cellsOf _) (one_cellsOf _) b_0 (Spl.segs _ 0 1 [Seg.cell (.int .u64 a1)] rfl rfl)) rfl rfl ?_
 rintro _ w2 ⟨b_0, q1⟩
 have fB := fB.wrS q1 rfl
 refine ol_nil ?_
 refine cw_region ?_
 refine ol_val (v := (pt G_0 (List.length X_0))) (xr_move rfl rfl) rfl rfl rfl ?_
 refine ol_val (v := (pt G_0 (List.length X_0))) (xr_move rfl rfl) rfl rfl rfl ?_
 refine ol_val (v := (pt G_0 (List.length X_0))) (xr_nilCheck rfl rfl) rfl rfl rfl ?_
 refine ol_val (v := (pt G_0 (List.length X_0 + 2))) (xr_fieldAddr (p := List.length X_0) (q := 2) rfl fl142_2 rfl) rfl rfl rfl ?_
 refine ol_op0 (opv_storeSub (ss' := [Seg.cell (.int .u64 a1), Seg.cell (.int .u64 a0.stored), Seg.cell (.int .u64 0), Seg.cell (.bool a0.flushed)]) (xs := cellsOf [Seg.cell (.int .u64 0)]) rfl sz22 rfl rfl rfl (len_cellsOf _) (one_cellsOf _) b_0 (Spl.segs _ 2 1 [Seg.cell (.int .u64 0)] rfl rfl)) rfl rfl ?_
 rintro _ w4 ⟨b_0, q3⟩
 have fB := fB.wrS q3 rfl
 refine ol_val (v := (pt G_0 (List.length X_0))) (xr_nilCheck rfl rfl) rfl rfl rfl ?_
 refine ol_val (v := (pt G_0 (List.length X_0 + 3))) (xr_fieldAddr (p := List.length X_0) (q := 3) rfl fl142_3 rfl) rfl rfl rfl ?_
 refine ol_op0 (opv_storeSub (ss' := [Seg.cell (.int .u64 a1), Seg.cell (.int .u64 a0.stored), Seg.cell (.int .u64 0), Seg.cell (.bool false)]) (xs := cellsOf [Seg.cell (.bool false)]) rfl sz4 rfl rfl rfl (len_cellsOf _) (one_cellsOf _) b_0 (Spl.segs _ 3 1 [Seg.cell (.bool false)] rfl rfl)) rfl rfl ?_
 rintro _ w6 ⟨b_0, q5⟩
 have fB := fB.wrS q5 rfl
 refine ol_nil ?_
 obtain rfl := Option.some.inj h
 refine fin_end0 Try.results85 ?_
 exact ⟨_, rfl, rfl, b_0, fB⟩
end Go.Proofs.Ytklhbaghbmndeaa
namespace Go.Xw
open Go
section
variable {P : Program} {N : Nat} {l : List Oper} {Q : Exit → Env → World → Prop}
def RD (P : Program) (N : Nat) (l : List Oper) (Q : Exit → Env → World → Prop) (m : Nat) (ρ : Env) (w : World) : Prop :=
  ∀ (fuel : Nat) (listed : Array Bool) (a : Act), Fits N a ρ → listed.size = l.length → (List.range l.length).countP (fun k => !listed.getD k false) ≤ fuel → (∀ k, k < l.length → listed.getD k false = Nat.blt k m) → wpAny P .any l.toArray (lift N Q) fuel listed a w
def backB (l : List Oper) : Bool := (List.range l.length).all fun k => match l[k]? with
  | some o => o.after.toList.all fun e => !Region.binds .any e || Nat.blt e.on k
  | none => false
def pivB (l : List Oper) (p : Nat) : Bool :=
  ((List.range p).all fun j => (List.range (p + 1)).any fun k => Nat.blt j k && aftB l k j) &&
  ((List.range l.length).all fun i => Nat.ble i p || (List.range i).any fun k => Nat.ble p k && aftB l i k)
def bndB (l : List Oper) (n : Nat) : Bool := Nat.beq n l.length || pivB l n || Nat.beq n 0 || pivB l (n - 1)
theorem blt_f {a b : Nat} (h : ¬ a < b) : Nat.blt a b = false := by
  cases hb : Nat.blt a b
  · rfl
  · exact absurd (blt_iff.1 hb) h
theorem beq_f {a b : Nat} (h : ¬ a = b) : Nat.beq a b = false := by
  cases hb : Nat.beq a b
  · rfl
  · exact absurd (Nat.eq_of_beq_eq_true hb) h
theorem piv_listed {listed : Array Bool} {p : Nat} (hp : pivB l p = true) (hcl : ∀ k, listed.getD k false = true → ∀ j, aftB l k j = true → listed.getD j false = true) : ∀ d i, i ≤ d → p < i → i < l.length → (∀ j, aftB l i j = true → listed.getD j false = true) → listed.getD p false = true
  | 0, i, h, h1, _, _ => by omega
  | d + 1, i, h, h1, hil, hi => by
    have h2 := hp
    simp only [pivB, Bool.and_eq_true] at h2
    have h3 := List.all_eq_true.1 h2.2 i (List.mem_range.2 hil)
    have h4 : Nat.ble i p = false := by
      cases hb : Nat.ble i p
      · rfl
      · have := Nat.le_of_ble_eq_true hb
        omega
    rw [h4, Bool.false_or] at h3
    obtain ⟨k, hk, hk2⟩ := List.any_eq_true.1 h3
    rw [Bool.and_eq_true] at hk2
    have hki := List.mem_range.1 hk
    have hpk := Nat.le_of_ble_eq_true hk2.1
    have hlk := hi k hk2.2
    by_cases e : k = p
    · rw [← e]
      exact hlk
    · exact piv_listed hp hcl d k (by omega) (by omega) (by omega) (hcl k hlk)
theorem bnd_all {listed : Array Bool} {n i : Nat} (hb : bndB l n = true) (hcl : ∀ k, listed.getD k false = true → ∀ j, aftB l k j = true → listed.getD j false = true) (hni : n ≤ i) (hil : i < l.length) (hi : ∀ j, aftB l i j = true → listed.getD j false = true) : ∀ j, j < n → listed.getD j false = true := by
  have full : ∀ p, pivB l p = true → (∀ j, aftB l p j = true → listed.getD j false = true) → ∀ j, j < p → listed.getD j false = true := by
    intro p hp hpa j hj
    have h2 := hp
    simp only [pivB, Bool.and_eq_true] at h2
    exact all_before hcl hpa h2.1 p j (by omega) hj
  simp only [bndB, Bool.or_eq_true] at hb
  rcases hb with ((hb | hb) | hb) | hb
  · have := Nat.eq_of_beq_eq_true hb
    omega
  · intro j hj
    by_cases e : i = n
    · subst e
      exact full i hb hi j hj
    · have := piv_listed hb hcl i i (Nat.le_refl _) (by omega) hil hi
      exact full n hb (hcl n this) j hj
  · intro j hj
    have := Nat.eq_of_beq_eq_true hb
    omega
  · intro j hj
    have := piv_listed hb hcl i i (Nat.le_refl _) (by omega) hil hi
    by_cases e : j = n - 1
    · rw [e]
      exact this
    · exact full (n - 1) hb (hcl _ this) j (by omega)
theorem closed_at (hback : backB l = true) {listed : Array Bool} (hsz : listed.size = l.length) {m : Nat} (hl : ∀ k, k < l.length → listed.getD k false = Nat.blt k m) : ∀ k, listed.getD k false = true → ∀ j, aftB l k j = true → listed.getD j false = true := by
  intro k hk j hj
  have hkl : k < l.length := by
    rcases Nat.lt_or_ge k l.length with h | h
    · exact h
    · rw [Array.getD_eq_getD_getElem?, Array.getElem?_eq_none (by omega)] at hk; simp at hk
  have hb := List.all_eq_true.1 hback k (List.mem_range.2 hkl)
  rw [List.getElem?_eq_getElem hkl] at hb
  simp only [aftB, List.getElem?_eq_getElem hkl] at hj
  obtain ⟨e, he, he2⟩ := List.any_eq_true.1 hj
  rw [Bool.and_eq_true] at he2
  have hq := List.all_eq_true.1 hb e he
  rw [he2.1, Nat.eq_of_beq_eq_true he2.2] at hq
  have hjk := blt_iff.1 hq
  have h2 := hl k hkl
  rw [hk] at h2
  have h4 := blt_iff.1 h2.symm
  rw [hl j (by omega)]
  exact blt_iff.2 (by omega)
theorem rd_region {id : Nat} {ρ : Env} {w : World} (hm : P.follows .mixedOrders = true) (h : ∀ w', Gr w w' → RD P N l Q 0 ρ w') : CW P N (.region id l.toArray true) Q ρ w := by
  intro a ha
  refine wp_region_any hm ?_
  have hempty : ∀ k, (Array.replicate l.toArray.size false).getD k false = false := fun k => by rw [Array.getD_eq_getD_getElem?, Array.getElem?_replicate]; split <;> rfl
  refine h _ (Fr.drew w) l.toArray.size _ a ha (by simp) (Nat.le_trans (List.countP_le_length) (by simp)) fun k _ => ?_
  rw [hempty]
  rfl
theorem rd_end {m : Nat} {ρ : Env} {w : World} (hm : Nat.beq m l.length = true) (h : Q .normal ρ w) : RD P N l Q m ρ w := by
  obtain rfl := Nat.eq_of_beq_eq_true hm
  intro fuel listed a ha hsz hc hl
  have hr : Region.ready .any l.toArray listed = [] := by
    apply List.eq_nil_iff_forall_not_mem.2
    intro i hi
    obtain ⟨h1, h2, _⟩ := ready_iff hsz hi
    rw [getD_tf (by omega), hl i h1, blt_iff.2 h1] at h2
    cases h2
  cases fuel with
  | zero => exact ⟨hr, ρ, ha, h⟩
  | succ fuel => exact ⟨fun _ => ⟨ρ, ha, h⟩, fun i hi => by rw [hr] at hi; cases hi⟩
theorem rd_seq {m n : Nat} {ρ : Env} {w : World} (hB : (backB l && Nat.ble m n && Nat.ble n l.length && (List.range (n + 1)).all fun p => Nat.ble p m || bndB l p) = true) (h : OL P N l.toArray (thn (RD P N l Q n) Q) ((l.drop m).take (n - m)) ρ w) : RD P N l Q m ρ w := by
  simp only [Bool.and_eq_true] at hB
  obtain ⟨⟨⟨hback, hmn⟩, hnl⟩, hbd⟩ := hB
  have hmn := Nat.le_of_ble_eq_true hmn
  have hnl := Nat.le_of_ble_eq_true hnl
  have hbnd : ∀ p, m < p → p ≤ n → bndB l p = true := by
    intro p h1 h2
    have := List.all_eq_true.1 hbd p (List.mem_range.2 (by omega))
    have h3 : Nat.ble p m = false := by
      cases hb : Nat.ble p m
      · rfl
      · have := Nat.le_of_ble_eq_true hb
        omega
    rwa [h3, Bool.false_or] at this
  have key : ∀ (d p fuel : Nat) (listed : Array Bool) (a : Act) (w : World), p + d = n → m ≤ p → listed.size = l.length → (List.range l.length).countP (fun k => !listed.getD k false) ≤ fuel → (∀ k, k < l.length → listed.getD k false = Nat.blt k p) → wpList P l.toArray (lift N (thn (RD P N l Q n) Q)) ((l.drop p).take d) a w → wpAny P .any l.toArray (lift N Q) fuel listed a w := by
    intro d
    induction d with
    | zero =>
      intro p fuel listed a w hpd hmp hsz hc hl h
      have : p = n := by omega
      subst this
      simp only [List.take_zero, wpList] at h
      obtain ⟨ρ, ha, hr⟩ := h
      exact hr fuel listed a ha hsz hc hl
    | succ d ih =>
      intro p fuel listed a w hpd hmp hsz hc hl h
      have hpl : p < l.length := by omega
      have hcl := closed_at hback hsz hl
      have hlp : listed.getD p false = false := by
        rw [hl p hpl]
        exact blt_f (by omega)
      have hready : ∀ i ∈ Region.ready .any l.toArray listed, i = p := by
        intro i hi
        obtain ⟨h1, h2, h3⟩ := ready_iff hsz hi
        rw [getD_tf (by omega), hl i h1] at h2
        have hpi : p ≤ i := by
          rcases Nat.lt_or_ge i p with h | h
          · rw [blt_iff.2 h] at h2; simp at h2
          · exact h
        rcases Nat.lt_or_ge p i with h | h
        · have := bnd_all (hbnd (p + 1) (by omega) (by omega)) hcl (by omega) h1 h3 p (by omega)
          rw [hlp] at this
          cases this
        · omega
      have hin : p ∈ Region.ready .any l.toArray listed := by
        refine ready_of hpl ?_ ?_
        · rw [getD_tf (by omega)]
          exact hlp
        · intro o ho e he hbd
          have hb := List.all_eq_true.1 hback p (List.mem_range.2 hpl)
          rw [ho] at hb
          have hlt : e.on < p := by
            have := List.all_eq_true.1 hb e he
            rw [hbd] at this
            exact blt_iff.1 this
          rw [hl e.on (by omega)]
          exact blt_iff.2 hlt
      cases fuel with
      | zero =>
        exfalso
        have h0 : (List.range l.length).countP (fun k => !listed.getD k false) = 0 := by omega
        have := List.countP_eq_zero.1 h0 p (List.mem_range.2 hpl)
        rw [hlp] at this
        simp at this
      | succ fuel =>
        refine ⟨fun hr => ?_, fun i hi => ?_⟩
        · rw [hr] at hin
          cases hin
        · obtain rfl := hready i hi
          rw [List.drop_eq_getElem_cons hpl, List.take_succ_cons] at h
          unfold Go.wpOp
          have ho : l.toArray[i]? = some l[i] := by simp [hpl]
          rw [ho]
          have hK : ∀ a w, wpList P l.toArray (lift N (thn (RD P N l Q n) Q)) ((l.drop (i + 1)).take d) a w → wpAny P .any l.toArray (lift N Q) fuel (listed.setIfInBounds i true) a w := by
            intro a w hh
            refine ih (i + 1) fuel _ a w (by omega) (by omega) (by simpa using hsz) ?_ (fun k hk => ?_) hh
            · have := countP_lt (l := List.range l.length) (p := fun k => !(listed.setIfInBounds i true).getD k false) (q := fun k => !listed.getD k false) (fun k hk h => by
                rw [getD_set (by omega)] at h
                cases hx : listed.getD k false
                · rfl
                · rw [hx] at h; simp at h) (List.mem_range.2 hpl) (by rw [getD_set (by omega)]; simp) (by rw [hlp]; rfl)
              omega
            · rw [getD_set (by omega), hl k hk]
              by_cases e : k = i
              · subst e
                rw [blt_iff.2 (Nat.lt_succ_self k), Nat.beq_refl]
                rfl
              · rw [beq_f e, Bool.false_or, Bool.eq_iff_iff, Nat.blt_eq, Nat.blt_eq]
                omega
          simp only [wpList] at h
          split at h
          · rename_i hw
            simp only [hw, if_true]
            rcases h with h | h
            · exact .inl (Oper.wp_mono hK h)
            · exact .inr h
          · rename_i hw
            simp only [hw]
            exact hK _ _ h
  intro fuel listed a ha hsz hc hl
  exact key (n - m) m fuel listed a w (by omega) (Nat.le_refl _) hsz hc hl (h a ha)
def keepS (l : List Oper) (m n i t : Nat) : Bool := (List.range n).all fun k => Nat.blt k m || dstAt l k != some t || aftB l k i
def segB (l : List Oper) (m n N : Nat) : Bool :=
  Nat.ble m n && Nat.ble n l.length && backB l && bndB l n &&
  ((List.range n).all fun k => Nat.blt k m || match dstAt l k with
    | some d => Nat.blt d N && (List.range n).all fun j => Nat.blt j m || Nat.beq j k || dstAt l j != some d
    | none => false)
theorem rd_draw (m n : Nat) (G : Nat → Value → World → Prop) (Inv : (Nat → Bool) → World → Prop) {ρ0 : Env} {w0 : World} (hB : segB l m n N = true)
    (h0 : Inv (fun k => Nat.blt k m) w0)
    (step : ∀ i, m ≤ i → i < n → ∀ o, l[i]? = some o → ∀ (dn : Nat → Bool) ρ w, dn i = false → (∀ k, dn k = true → ∀ j, aftB l k j = true → dn j = true) → Inv dn w → (∀ t, keepS l m n i t = true → ρ t = ρ0 t) → (∀ j, m ≤ j → aftB l i j = true → ∀ d, dstAt l j = some d → G j (ρ d) w) → StepOk P l.toArray o (fun v w' => G i v w' ∧ Inv (fun k => Nat.beq k i || dn k) w' ∧ ∀ k v', m ≤ k → k < n → k ≠ i → dn k = true → G k v' w → G k v' w') ρ w)
    (tail : ∀ ρ w (dn : Nat → Bool), (∀ k, k < n → dn k = true) → Inv dn w → (∀ t, ((List.range n).all fun k => Nat.blt k m || dstAt l k != some t) = true → ρ t = ρ0 t) → (∀ j, m ≤ j → j < n → ∀ d, dstAt l j = some d → G j (ρ d) w) → RD P N l Q n ρ w) :
    RD P N l Q m ρ0 w0 := by
  have hB' := hB
  simp only [segB, Bool.and_eq_true] at hB'
  obtain ⟨⟨⟨⟨hmn, hnl⟩, hback⟩, hbd⟩, hd⟩ := hB'
  have hmn := Nat.le_of_ble_eq_true hmn
  have hnl := Nat.le_of_ble_eq_true hnl
  have key : ∀ (fuel : Nat) (listed : Array Bool) (a : Act) (ρ : Env) (w : World), Fits N a ρ → listed.size = l.length → (List.range l.length).countP (fun k => !listed.getD k false) ≤ fuel → (∀ k, k < m → listed.getD k false = true) → (∀ k, k < l.length → listed.getD k false = true → k < n) → (∀ k, listed.getD k false = true → ∀ j, aftB l k j = true → listed.getD j false = true) → Inv (fun k => listed.getD k false) w →
      (∀ t, (∀ k, m ≤ k → k < n → listed.getD k false = true → dstAt l k ≠ some t) → ρ t = ρ0 t) → (∀ k, m ≤ k → k < n → listed.getD k false = true → ∀ d, dstAt l k = some d → G k (ρ d) w) → wpAny P .any l.toArray (lift N Q) fuel listed a w := by
    intro fuel
    induction fuel with
    | zero =>
      intro listed a ρ w hf hsz hc hlm hln hcl hgr hkeep hG
      have hall : ∀ k, k < l.length → listed.getD k false = true := by
        intro k hk
        have h0 : (List.range l.length).countP (fun k => !listed.getD k false) = 0 := by omega
        have := List.countP_eq_zero.1 h0 k (List.mem_range.2 hk)
        simpa using this
      refine tail ρ w _ (fun k hk => hall k (by omega)) hgr (fun t ht => hkeep t fun k hmk hk _ e => by
          have := List.all_eq_true.1 ht k (List.mem_range.2 hk)
          rw [e, blt_f (by omega)] at this
          simp at this) (fun j hmj hj d he => hG j hmj hj (hall j (by omega)) d he) 0 listed a hf hsz hc fun k hk => ?_
      rw [hall k hk, blt_iff.2 (hln k hk (hall k hk))]
    | succ fuel ih =>
      intro listed a ρ w hf hsz hc hlm hln hcl hgr hkeep hG
      by_cases hall : ∀ k, k < n → listed.getD k false = true
      · refine tail ρ w _ hall hgr (fun t ht => hkeep t fun k hmk hk _ e => by
            have := List.all_eq_true.1 ht k (List.mem_range.2 hk)
            rw [e, blt_f (by omega)] at this
            simp at this) (fun j hmj hj d he => hG j hmj hj (hall j hj) d he) (fuel + 1) listed a hf hsz hc fun k hk => ?_
        rw [Bool.eq_iff_iff, Nat.blt_eq]
        exact ⟨hln k hk, hall k⟩
      · refine ⟨fun hr => ?_, fun i hi => ?_⟩
        · exfalso
          have hex : ∃ k, k < l.length ∧ listed.getD k false = false := by
            apply Classical.byContradiction
            intro hne
            apply hall
            intro k hk
            cases hb : listed.getD k false
            · exact absurd ⟨k, by omega, hb⟩ hne
            · rfl
          obtain ⟨i, ⟨hil, hif⟩, hmin⟩ : ∃ i, (i < l.length ∧ listed.getD i false = false) ∧ ∀ j, j < i → ¬ (j < l.length ∧ listed.getD j false = false) := by
            obtain ⟨k, hk⟩ := hex
            have : ∀ m k, k ≤ m → (k < l.length ∧ listed.getD k false = false) → ∃ i, (i < l.length ∧ listed.getD i false = false) ∧ ∀ j, j < i → ¬ (j < l.length ∧ listed.getD j false = false) := by
              intro m
              induction m with
              | zero => intro k hk h; exact ⟨k, h, fun j hj => by omega⟩
              | succ m ihm =>
                intro k hk h
                by_cases hx : ∃ j, j < k ∧ (j < l.length ∧ listed.getD j false = false)
                · obtain ⟨j, hj, hjj⟩ := hx
                  exact ihm j (by omega) hjj
                · exact ⟨k, h, fun j hj hjj => hx ⟨j, hj, hjj⟩⟩
            exact this k k (Nat.le_refl _) hk
          have : i ∈ Region.ready .any l.toArray listed := by
            refine ready_of hil (by rw [getD_tf (by omega)]; exact hif) ?_
            intro o ho e he hbd
            have hb := List.all_eq_true.1 hback i (List.mem_range.2 hil)
            rw [ho] at hb
            have hlt : e.on < i := by
              have := List.all_eq_true.1 hb e he
              rw [hbd] at this
              exact blt_iff.1 this
            cases hb2 : listed.getD e.on false
            · exact absurd ⟨by omega, hb2⟩ (hmin e.on hlt)
            · rfl
          rw [hr] at this
          simp at this
        · obtain ⟨hil, hif, hprev⟩ := ready_iff hsz hi
          rw [getD_tf (by omega)] at hif
          have hin : i < n := by
            rcases Nat.lt_or_ge i n with h | h
            · exact h
            · exfalso
              exact hall (bnd_all hbd hcl h hil hprev)
          have hmi : m ≤ i := by
            rcases Nat.lt_or_ge i m with h | h
            · have := hlm i h
              rw [hif] at this
              cases this
            · exact h
          have ho : l[i]? = some l[i] := List.getElem?_eq_getElem hil
          have hdi := List.all_eq_true.1 hd i (List.mem_range.2 hin)
          rw [blt_f (by omega), Bool.false_or] at hdi
          cases hdst : dstAt l i with
          | none => rw [hdst] at hdi; simp at hdi
          | some d =>
            rw [hdst] at hdi
            simp only [Bool.and_eq_true] at hdi
            have hod : l[i].dst = some d := by simpa [dstAt, ho] using hdst
            have hother : ∀ j, m ≤ j → j < n → j ≠ i → dstAt l j ≠ some d := by
              intro j hmj hj hne e
              have := List.all_eq_true.1 hdi.2 j (List.mem_range.2 hj)
              rw [e, beq_f hne, blt_f (by omega)] at this
              simp at this
            have hst := step i hmi hin l[i] ho _ ρ w hif hcl hgr (fun t ht => hkeep t fun k hmk hk hlk e => by
              have := List.all_eq_true.1 ht k (List.mem_range.2 hk)
              rw [e, blt_f (by omega)] at this
              simp only [bne_self_eq_false, Bool.false_or] at this
              have hli := hcl k hlk i this
              rw [hli] at hif
              simp at hif) (fun j hmj hj dj hdj => by
              have hlj := hprev j hj
              have hjl : j < l.length := by
                rcases Nat.lt_or_ge j l.length with h | h
                · exact h
                · rw [Array.getD_eq_getD_getElem?, Array.getElem?_eq_none (by omega)] at hlj; simp at hlj
              exact hG j hmj (hln j hjl hlj) hlj dj hdj)
            refine hst.wpOp (n := N) (by simp [hil]) hf ?_
            rintro v w' ⟨hGv, hinv', hkeepG⟩
            have hinv : Inv (fun k => (listed.setIfInBounds i true).getD k false) w' := by
              rw [show (fun k => (listed.setIfInBounds i true).getD k false) = fun k => (Nat.beq k i || listed.getD k false) from funext fun k => getD_set (by omega)]
              exact hinv'
            rw [hod]
            refine ih _ _ (upd ρ d v) w' (hf.put hdi.1 v) (by simpa using hsz) ?_ ?_ ?_ ?_ hinv ?_ ?_
            · have := countP_lt (l := List.range l.length) (p := fun k => !(listed.setIfInBounds i true).getD k false) (q := fun k => !listed.getD k false) (fun k hk h => by
                rw [getD_set (by omega)] at h
                cases hx : listed.getD k false
                · rfl
                · rw [hx] at h; simp at h) (List.mem_range.2 hil) (by rw [getD_set (by omega)]; simp) (by rw [hif]; rfl)
              omega
            · intro k hk
              rw [getD_set (by omega), hlm k hk]
              simp
            · intro k hk hlk
              rw [getD_set (by omega)] at hlk
              by_cases e : k = i
              · omega
              · rw [beq_f e, Bool.false_or] at hlk
                exact hln k hk hlk
            · intro k hlk j hj
              rw [getD_set (by omega)] at hlk ⊢
              by_cases e : k = i
              · subst e
                rw [hprev j hj]
                simp
              · rw [beq_f e, Bool.false_or] at hlk
                rw [hcl k hlk j hj]
                simp
            · intro t ht
              have htd : t ≠ d := by
                intro e
                exact ht i hmi hin (by rw [getD_set (by omega)]; simp) (by rw [hdst, e])
              rw [upd, beq_f htd, cond_false]
              exact hkeep t fun k hmk hk hlk => ht k hmk hk (by rw [getD_set (by omega), hlk]; simp)
            · intro k hmk hk hlk dk hdk
              rw [getD_set (by omega)] at hlk
              by_cases e : k = i
              · subst e
                rw [hdst] at hdk
                obtain rfl := Option.some.inj hdk
                rw [upd, Nat.beq_refl, cond_true]
                exact hGv
              · rw [beq_f e, Bool.false_or] at hlk
                have hne : dk ≠ d := fun e2 => hother k hmk hk e (by rw [hdk, e2])
                rw [upd, beq_f hne, cond_false]
                exact hkeepG k _ hmk hk e hlk (hG k hmk hk hlk dk hdk)
  intro fuel listed a ha hsz hc hl
  refine key fuel listed a ρ0 w0 ha hsz hc (fun k hk => by rw [hl k (by omega), blt_iff.2 hk]) (fun k hk h => ?_) (closed_at hback hsz hl) ?_ (fun _ _ => rfl) (fun k hmk hk h => ?_)
  · rw [hl k hk] at h
    have := blt_iff.1 h
    omega
  · have : (fun k => listed.getD k false) = fun k => Nat.blt k m := by
      funext k
      by_cases hk : k < l.length
      · exact hl k hk
      · rw [Array.getD_eq_getD_getElem?, Array.getElem?_eq_none (by omega), blt_f (by omega)]
        rfl
    rw [this]
    exact h0
  · rw [hl k (by omega)] at h
    have := blt_iff.1 h
    omega
def DStepS (P : Program) (l : List Oper) (m n : Nat) (Gl : List (Value → World → Prop)) (ρ0 : Env) (w0 : World) (i : Nat) (o : Oper) : Prop :=
  ∀ ρ w, Gr w0 w → (∀ t, keepS l m n i t = true → ρ t = ρ0 t) → (∀ j, Nat.ble m j = true → aftB l i j = true → ∀ d, dstAt l j = some d → gAt Gl (j - m) (ρ d) w) → StepOk P l.toArray o (fun v w' => gAt Gl (i - m) v w' ∧ Gr w w') ρ w
theorem rd_drawL (m n : Nat) (Gl : List (Value → World → Prop)) {ρ0 : Env} {w0 : World} (hB : segB l m n N = true) (stab : StabL Gl)
    (step : AllOps (DStepS P l m n Gl ρ0 w0) m ((l.take n).drop m))
    (tail : ∀ ρ w, Gr w0 w → (∀ t, ((List.range n).all fun k => Nat.blt k m || dstAt l k != some t) = true → ρ t = ρ0 t) → (∀ j, Nat.ble m j = true → Nat.blt j n = true → ∀ d, dstAt l j = some d → gAt Gl (j - m) (ρ d) w) → RD P N l Q n ρ w) :
    RD P N l Q m ρ0 w0 :=
  rd_draw m n (fun j => gAt Gl (j - m)) (fun _ w => Gr w0 w) hB (Fr.refl _ _)
    (fun i hmi hi o ho dn ρ w hdn hcl hg hk hd => by
      have hs := step.get (i - m) o (by rw [List.getElem?_drop, List.getElem?_take, if_pos (by omega), show m + (i - m) = i from by omega]; exact ho)
      rw [show m + (i - m) = i from by omega] at hs
      refine (hs ρ w hg hk fun j hj => hd j (Nat.le_of_ble_eq_true hj)).mono ?_
      rintro v w' ⟨h1, h2⟩
      exact ⟨h1, Fr.gr hg h2, fun k v' _ _ _ _ h => stab.get (k - m) v' w w' h h2⟩)
    (fun ρ w dn _ hg hk hd => tail ρ w hg hk fun j hmj hj => hd j (Nat.le_of_ble_eq_true hmj) (blt_iff.1 hj))
end
end Go.Xw
namespace Go.Proofs.Ytklhbaghbmndeaa
open Go Go.Xw
def pmem_cell_open__r0.f (fu : Nat) (a0 : S_pmem_cell) : Option Bool := some ((if a0.flushed = true then true else (!decide (a0.stored = a0.lasts))))
theorem pmem_cell_open__r0.ok (fu : Nat) (w : World) (a0 : S_pmem_cell) (G_0 p_0 : Nat) (A_0 : At w G_0 p_0 (cellsOf [Seg.cell (.int .u64 a0.lasts), Seg.cell (.int .u64 a0.stored), Seg.cell (.int .u64 a0.sent), Seg.cell (.bool a0.flushed)])) (r : Bool) (h : pmem_cell_open__r0.f fu a0 = some r) :
  Calls Try.prog 86 (([(pt G_0 p_0)] : List Value).toArray) w (fun e w' => ∃ v, e = .returned v ∧ v = .bool r ∧ Gr w w') := by
 unfold pmem_cell_open__r0.f at h
 have fB : Gr w w := Fr.refl _ _
 refine calls_cw Try.func86 rfl Try.ntmps86 rfl ?_
 refine cw_seq ?_
 refine cw_region ?_
 refine ol_val (v := .bool false) (xr_assign rfl rfl) rfl rfl rfl ?_
 refine ol_nil ?_
 refine cw_seq ?_
 refine cw_mid (fun ρ' w' => ρ' 2 = .bool (if a0.flushed = true then true else (!decide (a0.stored = a0.lasts))) ∧ Gr w w') ?_ ?_
 ·skip
  refine rd_region mo ?_
  intro w1 q2
  have fB := fB.gr q2
  refine rd_seq (m := 0) (n := 5) rfl ?_
  refine ol_val (v := (pt G_0 p_0)) (xr_move rfl rfl) rfl rfl rfl ?_
  refine ol_val (v := (pt G_0 p_0)) (xr_nilCheck rfl rfl) rfl rfl rfl ?_
  refine ol_val (v := (pt G_0 (p_0 + 3))) (xr_fieldAddr (p := p_0) (q := 3) rfl fl142_3 rfl) rfl rfl rfl ?_
  refine ol_val (v := .bool a0.flushed) (xr_load1 (v := .bool a0.flushed) rfl ag4 rfl (At.segs (ss := [Seg.cell (.int .u64 a0.lasts), Seg.cell (.int .u64 a0.stored), Seg.cell (.int .u64 a0.sent), Seg.cell (.bool a0.flushed)]) (At.gr A_0 fB) 3 1 rfl)) rfl rfl rfl ?_
  refine ol_val (v := .bool a0.flushed) (xr_move rfl rfl) rfl rfl rfl ?_
  refine ol_nilK ?_
  rcases bt a0.flushed with c3 | c3
  ·skip
   refine rd_drawL 5 13 [fun vz _ => vz = undef, fun vz _ => vz = undef, fun vz _ => vz = undef, fun vz _ => vz = undef, fun vz _ => vz = undef, fun vz _ => vz = undef, fun vz _ => vz = undef, fun vz _ => vz = undef] rfl ⟨fun _ _ _ h _ => h, fun _ _ _ h _ => h, fun _ _ _ h _ => h, fun _ _ _ h _ => h, fun _ _ _ h _ => h, fun _ _ _ h _ => h, fun _ _ _ h _ => h, fun _ _ _ h _ => h, trivial⟩ ?_ ?_
   ·refine ⟨?_, ?_, ?_, ?_, ?_, ?_, ?_, ?_, trivial⟩
    ·intro ρz wz hz hk hd
     exact sk_skip rfl rfl ((hk 7 rfl).trans rfl) c3 rfl
    ·intro ρz wz hz hk hd
     exact sk_skip rfl rfl ((hk 7 rfl).trans rfl) c3 rfl
    ·intro ρz wz hz hk hd
     exact sk_skip rfl rfl ((hk 7 rfl).trans rfl) c3 rfl
    ·intro ρz wz hz hk hd
     exact sk_skip rfl rfl ((hk 7 rfl).trans rfl) c3 rfl
    ·intro ρz wz hz hk hd
     exact sk_skip rfl rfl ((hk 7 rfl).trans rfl) c3 rfl
    ·intro ρz wz hz hk hd
     exact sk_skip rfl rfl ((hk 7 rfl).trans rfl) c3 rfl
    ·intro ρz wz hz hk hd
     exact sk_skip rfl rfl ((hk 7 rfl).trans rfl) c3 rfl
    intro ρz wz hz hk hd
    exact sk_skip rfl rfl ((hk 7 rfl).trans rfl) c3 rfl
   intro ρ4 w5 q6 hk hd
   have e7 := (hk 7 rfl).trans rfl
   have e11 := hd 8 rfl rfl 11 rfl
   have e15 := hd 12 rfl rfl 15 rfl
   have fB := fB.gr q6
   refine rd_seq (m := 13) (n := 16) rfl ?_
   refine ol_gskip rfl rfl rfl rfl e7 c3 ?_
   refine ol_val (v := .bool true) (xr_pickT rfl e7 c3 rfl) rfl rfl rfl ?_
   refine ol_val (v := .bool true) (xr_assign rfl rfl) rfl rfl rfl ?_
   refine ol_nilK ?_
   refine rd_end rfl ?_
   refine thn_i ?_
   exact ⟨(rfl).trans (congrArg (fun z => (.bool z : Value)) (show true = (if a0.flushed = true then true else (!decide (a0.stored = a0.lasts))) from by rw [ite_t c3])), (q2.gr q6)⟩
  refine rd_drawL 5 13 [fun vz wz => vz = ((pt G_0 p_0) : Value), fun vz wz => vz = ((pt G_0 p_0) : Value), fun vz wz => vz = ((pt G_0 (p_0 + 1)) : Value), fun vz wz => vz = (.int .u64 a0.stored : Value), fun vz wz => vz = ((pt G_0 p_0) : Value), fun vz wz => vz = ((pt G_0 p_0) : Value), fun vz wz => vz = ((pt G_0 (p_0 + 0)) : Value), fun vz wz => vz = (.int .u64 a0.lasts : Value)] rfl ⟨fun _ _ _ h _ => h, fun _ _ _ h _ => h, fun _ _ _ h _ => h, fun _ _ _ h _ => h, fun _ _ _ h _ => h, fun _ _ _ h _ => h, fun _ _ _ h _ => h, fun _ _ _ h _ => h, trivial⟩ ?_ ?_
  ·refine ⟨?_, ?_, ?_, ?_, ?_, ?_, ?_, ?_, trivial⟩
   ·intro ρz wz hz hk hd
    exact sk_gval (v := (pt G_0 p_0)) (xr_move rfl ((hk 0 rfl).trans rfl)) rfl rfl ((hk 7 rfl).trans rfl) c3 rfl
   ·intro ρz wz hz hk hd
    exact sk_gval (v := (pt G_0 p_0)) (xr_nilCheck rfl (hd 5 rfl rfl 8 rfl)) rfl rfl ((hk 7 rfl).trans rfl) c3 rfl
   ·intro ρz wz hz hk hd
    exact sk_gval (v := (pt G_0 (p_0 + 1))) (xr_fieldAddr (p := p_0) (q := 1) rfl fl142_1 (hd 6 rfl rfl 9 rfl)) rfl rfl ((hk 7 rfl).trans rfl) c3 rfl
   ·intro ρz wz hz hk hd
    exact sk_gval (v := .int .u64 a0.stored) (xr_load1 (v := .int .u64 a0.stored) rfl ag22 (hd 7 rfl rfl 10 rfl) (At.segs (ss := [Seg.cell (.int .u64 a0.lasts), Seg.cell (.int .u64 a0.stored), Seg.cell (.int .u64 a0.sent), Seg.cell (.bool a0.flushed)]) (At.gr A_0 (fB.gr hz)) 1 1 rfl)) rfl rfl ((hk 7 rfl).trans rfl) c3 rfl
   ·intro ρz wz hz hk hd
    exact sk_gval (v := (pt G_0 p_0)) (xr_move rfl ((hk 0 rfl).trans rfl)) rfl rfl ((hk 7 rfl).trans rfl) c3 rfl
   ·intro ρz wz hz hk hd
    exact sk_gval (v := (pt G_0 p_0)) (xr_nilCheck rfl (hd 9 rfl rfl 12 rfl)) rfl rfl ((hk 7 rfl).trans rfl) c3 rfl
   ·intro ρz wz hz hk hd
    exact sk_gval (v := (pt G_0 (p_0 + 0))) (xr_fieldAddr (p := p_0) (q := 0) rfl fl142_0 (hd 10 rfl rfl 13 rfl)) rfl rfl ((hk 7 rfl).trans rfl) c3 rfl
   intro ρz wz hz hk hd
   exact sk_gval (v := .int .u64 a0.lasts) (xr_load1 (v := .int .u64 a0.lasts) rfl ag22 (hd 11 rfl rfl 14 rfl) (At.segs (ss := [Seg.cell (.int .u64 a0.lasts), Seg.cell (.int .u64 a0.stored), Seg.cell (.int .u64 a0.sent), Seg.cell (.bool a0.flushed)]) (At.gr A_0 (fB.gr hz)) 0 1 rfl)) rfl rfl ((hk 7 rfl).trans rfl) c3 rfl
  intro ρ7 w8 q9 hk hd
  have e7 := (hk 7 rfl).trans rfl
  have e11 := hd 8 rfl rfl 11 rfl
  have e15 := hd 12 rfl rfl 15 rfl
  have fB := fB.gr q9
  refine rd_seq (m := 13) (n := 16) rfl ?_
  refine ol_gval (v := .bool (!decide (a0.stored = a0.lasts))) (xr_neI rfl Try.underlying22 rfl e11 e15) rfl rfl rfl rfl e7 c3 ?_
  refine ol_val (v := .bool (!decide (a0.stored = a0.lasts))) (xr_pickF rfl e7 c3 rfl) rfl rfl rfl ?_
  refine ol_val (v := .bool (!decide (a0.stored = a0.lasts))) (xr_assign rfl rfl) rfl rfl rfl ?_
  refine ol_nilK ?_
  refine rd_end rfl ?_
  refine thn_i ?_
  exact ⟨(rfl).trans (congrArg (fun z => (.bool z : Value)) (show (!decide (a0.stored = a0.lasts)) = (if a0.flushed = true then true else (!decide (a0.stored = a0.lasts))) from by rw [ite_f c3])), (q2.gr q9)⟩
 rintro ρ10 w11 ⟨e2, q12⟩
 have fB := fB.gr q12
 refine cw_ret ?_
 repeat (first | with_reducible refine thn_r ?_ | with_reducible refine blk_r ?_)
 obtain rfl := Option.some.inj h
 refine fin_ret1 Try.results86 e2 ?_
 exact ⟨_, rfl, rfl, fB⟩
def pmem_cell_fate__r0.f (fu : Nat) (a0 : S_pmem_cell) (a1 : Int) : Option Int := (((if (decide ((Int.tmod a1 3) = 1)) = true then some ((decide ((Int.tmod a1 3) = 1))) else some ((decide ((Int.tmod a1 3) = (-2))))) : Option Bool).bind fun x1 => (((if x1 = true then (if a0.flushed = true then some (Sum.inl (a0.sent)) else some (Sum.inr ())) else (((if (decide ((Int.tmod a1 3) = 2)) = true then some ((decide ((Int.tmod a1 3) = 2))) else some ((decide ((Int.tmod a1 3) = (-1))))) : Option Bool).bind fun x13 => (if x13 = true then some (Sum.inl (a0.stored)) else some (Sum.inr ())))) : Option (Sum Int Unit)).bind fun x7 => match x7 with | Sum.inl p => some p | Sum.inr x10 => some (a0.lasts)))
theorem pmem_cell_fate__r0.ok (fu : Nat) (w : World) (a0 : S_pmem_cell) (G_0 p_0 : Nat) (A_0 : At w G_0 p_0 (cellsOf [Seg.cell (.int .u64 a0.lasts), Seg.cell (.int .u64 a0.stored), Seg.cell (.int .u64 a0.sent), Seg.cell (.bool a0.flushed)])) (a1 : Int) (r : Int) (h : pmem_cell_fate__r0.f fu a0 a1 = some r) :
  Calls Try.prog 87 (([(pt G_0 p_0), .int .i64 a1] : List Value).toArray) w (fun e w' => ∃ v, e = .returned v ∧ v = .int .u64 r ∧ Gr w w') := by
 unfold pmem_cell_fate__r0.f at h
 have fB : Gr w w := Fr.refl _ _
 refine calls_cw Try.func87 rfl Try.ntmps87 rfl ?_
 refine cw_seq ?_
 refine cw_region ?_
 refine ol_val (v := .int .u64 0) (xr_assign rfl rfl) rfl rfl rfl ?_
 refine ol_nil ?_
 refine cw_seq ?_
 refine cw_seq ?_
 refine cw_region ?_
 refine ol_val (v := .int .i64 a1) (xr_move rfl rfl) rfl rfl rfl ?_
 refine ol_val (v := .int .i64 (Int.tmod a1 3)) (xr_rem rfl rfl rfl (by decide)) rfl rfl rfl ?_
 refine ol_nil ?_
 refine cw_block ?_
 refine cw_seq ?_
 refine cw_seq ?_
 refine cw_region ?_
 refine ol_val (v := .bool (decide ((Int.tmod a1 3) = 1))) (xr_eqI rfl Try.underlying3 rfl rfl rfl) rfl rfl rfl ?_
 refine ol_val (v := .bool (decide ((Int.tmod a1 3) = 1))) (xr_assign rfl rfl) rfl rfl rfl ?_
 refine ol_nil ?_
 obtain ⟨x1, j2, h3⟩ := bs h
 refine cw_mid (fun ρ' w' => ρ' 0 = (pt G_0 p_0) ∧ ρ' 6 = .int .i64 (Int.tmod a1 3) ∧ ρ' 7 = .bool x1 ∧ Gr w w') ?_ ?_
 ·have h := j2
  rcases is h with ⟨c4, h⟩ | ⟨c4, h⟩
  ·refine cw_condT rfl c4 ?_
   refine cw_skip ?_
   obtain rfl := Option.some.inj h
   refine thn_i ?_
   exact ⟨rfl, rfl, rfl, fB⟩
  refine cw_condF rfl c4 ?_
  refine cw_region ?_
  refine ol_val (v := .bool (decide ((Int.tmod a1 3) = (-2)))) (xr_eqI rfl Try.underlying3 rfl rfl rfl) rfl rfl rfl ?_
  refine ol_val (v := .bool (decide ((Int.tmod a1 3) = (-2)))) (xr_assign rfl rfl) rfl rfl rfl ?_
  refine ol_nil ?_
  obtain rfl := Option.some.inj h
  refine thn_i ?_
  exact ⟨rfl, rfl, rfl, fB⟩
 rintro ρ5 w6 ⟨e0, e6, e7, fB⟩
 have h := h3
 obtain ⟨x7, j8, h9⟩ := bs h
 refine cw_mid (fun ρ' w' => ∃ x10, x7 = Sum.inr x10 ∧ ρ' 0 = (pt G_0 p_0) ∧ Gr w w') ?_ ?_
 ·have h := j8
  rcases is h with ⟨c11, h⟩ | ⟨c11, h⟩
  ·refine cw_condT e7 c11 ?_
   refine cw_seq ?_
   refine cw_region ?_
   refine ol_val (v := (pt G_0 p_0)) (xr_move rfl e0) rfl rfl rfl ?_
   refine ol_val (v := (pt G_0 p_0)) (xr_nilCheck rfl rfl) rfl rfl rfl ?_
   refine ol_val (v := (pt G_0 (p_0 + 3))) (xr_fieldAddr (p := p_0) (q := 3) rfl fl142_3 rfl) rfl rfl rfl ?_
   refine ol_val (v := .bool a0.flushed) (xr_load1 (v := .bool a0.flushed) rfl ag4 rfl (At.segs (ss := [Seg.cell (.int .u64 a0.lasts), Seg.cell (.int .u64 a0.stored), Seg.cell (.int .u64 a0.sent), Seg.cell (.bool a0.flushed)]) (At.gr A_0 fB) 3 1 rfl)) rfl rfl rfl ?_
   refine ol_nil ?_
   rcases is h with ⟨c12, h⟩ | ⟨c12, h⟩
   ·refine cw_condT rfl c12 ?_
    refine cw_seq ?_
    refine cw_region ?_
    refine ol_val (v := (pt G_0 p_0)) (xr_move rfl e0) rfl rfl rfl ?_
    refine ol_val (v := (pt G_0 p_0)) (xr_nilCheck rfl rfl) rfl rfl rfl ?_
    refine ol_val (v := (pt G_0 (p_0 + 2))) (xr_fieldAddr (p := p_0) (q := 2) rfl fl142_2 rfl) rfl rfl rfl ?_
    refine ol_val (v := .int .u64 a0.sent) (xr_load1 (v := .int .u64 a0.sent) rfl ag22 rfl (At.segs (ss := [Seg.cell (.int .u64 a0.lasts), Seg.cell (.int .u64 a0.stored), Seg.cell (.int .u64 a0.sent), Seg.cell (.bool a0.flushed)]) (At.gr A_0 fB) 2 1 rfl)) rfl rfl rfl ?_
    refine ol_val (v := .int .u64 a0.sent) (xr_assign rfl rfl) rfl rfl rfl ?_
    refine ol_nil ?_
    refine cw_ret ?_
    repeat (first | with_reducible refine thn_r ?_ | with_reducible refine blk_r ?_)
    obtain rfl := Option.some.inj h
    have h := h9
    obtain rfl := Option.some.inj h
    refine fin_ret1 Try.results87 rfl ?_
    exact ⟨_, rfl, rfl, fB⟩
   refine cw_condF rfl c12 ?_
   refine cw_skip ?_
   obtain rfl := Option.some.inj h
   refine thn_i ?_
   exact ⟨_, rfl, e0, fB⟩
  refine cw_condF e7 c11 ?_
  refine cw_seq ?_
  refine cw_seq ?_
  refine cw_region ?_
  refine ol_val (v := .bool (decide ((Int.tmod a1 3) = 2))) (xr_eqI rfl Try.underlying3 rfl e6 rfl) rfl rfl rfl ?_
  refine ol_val (v := .bool (decide ((Int.tmod a1 3) = 2))) (xr_assign rfl rfl) rfl rfl rfl ?_
  refine ol_nil ?_
  obtain ⟨x13, j14, h15⟩ := bs h
  refine cw_mid (fun ρ' w' => ρ' 0 = (pt G_0 p_0) ∧ ρ' 18 = .bool x13 ∧ Gr w w') ?_ ?_
  ·have h := j14
   rcases is h with ⟨c16, h⟩ | ⟨c16, h⟩
   ·refine cw_condT rfl c16 ?_
    refine cw_skip ?_
    obtain rfl := Option.some.inj h
    refine thn_i ?_
    exact ⟨e0, rfl, fB⟩
   refine cw_condF rfl c16 ?_
   refine cw_region ?_
   refine ol_val (v := .bool (decide ((Int.tmod a1 3) = (-1)))) (xr_eqI rfl Try.underlying3 rfl e6 rfl) rfl rfl rfl ?_
   refine ol_val (v := .bool (decide ((Int.tmod a1 3) = (-1)))) (xr_assign rfl rfl) rfl rfl rfl ?_
   refine ol_nil ?_
   obtain rfl := Option.some.inj h
   refine thn_i ?_
   exact ⟨e0, rfl, fB⟩
  rintro ρ17 w18 ⟨e0, e18, fB⟩
  have h := h15
  rcases is h with ⟨c19, h⟩ | ⟨c19, h⟩
  ·refine cw_condT e18 c19 ?_
   refine cw_seq ?_
   refine cw_region ?_
   refine ol_val (v := (pt G_0 p_0)) (xr_move rfl e0) rfl rfl rfl ?_
   refine ol_val (v := (pt G_0 p_0)) (xr_nilCheck rfl rfl) rfl rfl rfl ?_
   refine ol_val (v := (pt G_0 (p_0 + 1))) (xr_fieldAddr (p := p_0) (q := 1) rfl fl142_1 rfl) rfl rfl rfl ?_
   refine ol_val (v := .int .u64 a0.stored) (xr_load1 (v := .int .u64 a0.stored) rfl ag22 rfl (At.segs (ss := [Seg.cell (.int .u64 a0.lasts), Seg.cell (.int .u64 a0.stored), Seg.cell (.int .u64 a0.sent), Seg.cell (.bool a0.flushed)]) (At.gr A_0 fB) 1 1 rfl)) rfl rfl rfl ?_
   refine ol_val (v := .int .u64 a0.stored) (xr_assign rfl rfl) rfl rfl rfl ?_
   refine ol_nil ?_
   refine cw_ret ?_
   repeat (first | with_reducible refine thn_r ?_ | with_reducible refine blk_r ?_)
   obtain rfl := Option.some.inj h
   have h := h9
   obtain rfl := Option.some.inj h
   refine fin_ret1 Try.results87 rfl ?_
   exact ⟨_, rfl, rfl, fB⟩
  refine cw_condF e18 c19 ?_
  refine cw_skip ?_
  obtain rfl := Option.some.inj h
  refine thn_i ?_
  exact ⟨_, rfl, e0, fB⟩
 rintro ρ20 w21 ⟨x10, rfl, e0, fB⟩
 have h := h9
 refine blk_i ?_
 refine cw_seq ?_
 refine cw_region ?_
 refine ol_val (v := (pt G_0 p_0)) (xr_move rfl e0) rfl rfl rfl ?_
 refine ol_val (v := (pt G_0 p_0)) (xr_nilCheck rfl rfl) rfl rfl rfl ?_
 refine ol_val (v := (pt G_0 (p_0 + 0))) (xr_fieldAddr (p := p_0) (q := 0) rfl fl142_0 rfl) rfl rfl rfl ?_
 refine ol_val (v := .int .u64 a0.lasts) (xr_load1 (v := .int .u64 a0.lasts) rfl ag22 rfl (At.segs (ss := [Seg.cell (.int .u64 a0.lasts), Seg.cell (.int .u64 a0.stored), Seg.cell (.int .u64 a0.sent), Seg.cell (.bool a0.flushed)]) (At.gr A_0 fB) 0 1 rfl)) rfl rfl rfl ?_
 refine ol_val (v := .int .u64 a0.lasts) (xr_assign rfl rfl) rfl rfl rfl ?_
 refine ol_nil ?_
 refine cw_ret ?_
 repeat (first | with_reducible refine thn_r ?_ | with_reducible refine blk_r ?_)
 obtain rfl := Option.some.inj h
 refine fin_ret1 Try.results87 rfl ?_
 exact ⟨_, rfl, rfl, fB⟩
def pmem_Device_Crash.s0 (fu : Nat) (a0 : S_pmem_Device) : ((List Int) × Int × (List S_pmem_cell)) → Option (Sum (List S_pmem_cell) ((List Int) × Int × (List S_pmem_cell))) := fun s7 => (if (decide (s7.2.1 < (List.length a0.cells : Int))) = true then (if 0 ≤ s7.2.1 ∧ s7.2.1 < (List.length s7.2.2 : Int) then ((pmem_cell_open__r0.f fu (ix s7.2.2 s7.2.1)).bind fun t21 => (((if t21 = true then (((if (decide ((List.length s7.1 : Int) > 0)) = true then (if (0 : Int) < (List.length s7.1 : Int) then (if (1 : Int) ≤ (List.length s7.1 : Int) then some ((cut s7.1 1 (List.length s7.1 : Int)), (ix s7.1 0)) else none) else none) else some (s7.1, 0)) : Option ((List Int) × Int)).bind fun x34 => ((pmem_cell_fate__r0.f fu (ix s7.2.2 s7.2.1) x34.2).bind fun t52 => ((pmem_cell_keep__i0.f fu (ix s7.2.2 s7.2.1) t52).bind fun t62 => some (x34.1, (List.set s7.2.2 (Int.toNat s7.2.1) t62))))) else some (s7.1, s7.2.2)) : Option ((List Int) × (List S_pmem_cell))).bind fun x25 => (if s7.2.1 < (List.length x25.2 : Int) then (if s7.2.1 < (List.length x25.2 : Int) then some (Sum.inr (x25.1, (IntKind.i64.wrap (s7.2.1 + 1)), (List.set x25.2 (Int.toNat s7.2.1) (⟨(ix x25.2 s7.2.1).lasts, (ix x25.2 s7.2.1).lasts, (ix x25.2 s7.2.1).sent, (ix x25.2 s7.2.1).flushed⟩ : S_pmem_cell)))) else none) else none))) else none) else some (Sum.inl (s7.2.2)))
def pmem_Device_Crash.f (fu : Nat) (a0 : S_pmem_Device) (a1 : List Int) : Option S_pmem_Device := ((loopM (pmem_Device_Crash.s0 fu a0) fu (a1, 0, a0.cells)).bind fun e8 => some ((⟨e8, (⟨[], (0 : Int)⟩ : S_pmem_plan), false, false, 0, a0.steps⟩ : S_pmem_Device)))
theorem pmem_Device_Crash.ok (fu : Nat) (w : World) (a0 : S_pmem_Device) (G_0 : Nat) (V0_0 : Value) (O0_0 : Own k_pmem_cell 142 w 0 V0_0 a0.cells) (V0_1 : Value) (O0_1 : Own (kI .i64) 3 w 0 V0_1 a0.plan.list) (b_0 : Blk w G_0 139 [Seg.cell V0_0 O0_0.one, Seg.cell V0_1 O0_1.one, (sI a0.plan.at_), Seg.cell (.bool a0.off), Seg.cell (.bool a0.armed), (sI a0.left), (sI a0.steps)]) (a1 : List Int) (V1_0 : Value) (R1_0 : Rd (kI .i64) w V1_0 a1) (NR1_0_P0 : OffR V1_0 a1 G_0) (NR1_0_R0_0 : OffRV V1_0 a1 V0_0) (NR1_0_R0_1 : OffRV V1_0 a1 V0_1) (r : S_pmem_Device) (h : pmem_Device_Crash.f fu a0 a1 = some r) :
  Calls Try.prog 32 (([(pt G_0 0), V1_0] : List Value).toArray) w (fun e w' => ∃ v, e = .returned v ∧ ∃ u1 : Value, ∃ u4 : Value, ∃ o2 : Own k_pmem_cell 142 w' 0 u1 r.cells, ∃ m3 : ∀ g, Value.ownBlock u1 = some g → w.heap.size ≤ g ∨ (g = G_0 ∨ some g = Value.ownBlock V0_0 ∨ some g = Value.ownBlock V0_1), ∃ o5 : Own (kI .i64) 3 w' 0 u4 r.plan.list, ∃ m6 : ∀ g, Value.ownBlock u4 = some g → w.heap.size ≤ g ∨ (g = G_0 ∨ some g = Value.ownBlock V0_0 ∨ some g = Value.ownBlock V0_1), v = .tuple #[] ∧ Blk w' G_0 139 [Seg.cell u1 o2.one, Seg.cell u4 o5.one, (sI r.plan.at_), Seg.cell (.bool r.off), Seg.cell (.bool r.armed), (sI r.left), (sI r.steps)] ∧ Fr (fun j => j = G_0 ∨ some j = Value.ownBlock V0_0 ∨ some j = Value.ownBlock V0_1) w w') := by
 unfold pmem_Device_Crash.f at h
 have fB : Fr (fun j => j = G_0 ∨ some j = Value.ownBlock V0_0 ∨ some j = Value.ownBlock V0_1) w w := Fr.refl _ _
 have M0_0 : ∀ g, Value.ownBlock V0_0 = some g → w.heap.size ≤ g ∨ (g = G_0 ∨ some g = Value.ownBlock V0_0 ∨ some g = Value.ownBlock V0_1) := fun g hg => .inr (.inr (.inl hg.symm))
 have M0_1 : ∀ g, Value.ownBlock V0_1 = some g → w.heap.size ≤ g ∨ (g = G_0 ∨ some g = Value.ownBlock V0_0 ∨ some g = Value.ownBlock V0_1) := fun g hg => .inr (.inr (.inr hg.symm))
 refine calls_cw Try.func32 rfl Try.ntmps32 rfl ?_
 refine cw_seq ?_
 refine cw_seq ?_
 refine cw_region ?_
 refine ol_val (v := (pt G_0 0)) (xr_move rfl rfl) rfl rfl rfl ?_
 refine ol_val (v := (pt G_0 0)) (xr_nilCheck rfl rfl) rfl rfl rfl ?_
 refine ol_val (v := (pt G_0 0)) (xr_fieldAddr (p := 0) (q := 0) rfl fl139_0 rfl) rfl rfl rfl ?_
 refine ol_val (v := V0_0) (xr_load1 (v := V0_0) rfl ag135 rfl (b_0.seg 0 rfl rfl)) rfl rfl rfl ?_
 refine ol_val (v := .int .i64 (List.length a0.cells : Int)) (xr_lenR rfl Try.underlying135 rfl O0_0.rd) rfl rfl rfl ?_
 refine ol_val (v := .int .i64 0) (xr_move rfl rfl) rfl rfl rfl ?_
 refine ol_nil ?_
 obtain ⟨e8, l9, h10⟩ := bs h
 refine cw_mid (fun ρ' w' => ∃ O0_0 : Own k_pmem_cell 142 w' 0 V0_0 e8, ∃ O0_1 : Own (kI .i64) 3 w' 0 V0_1 a0.plan.list, ρ' 0 = (pt G_0 0) ∧ Blk w' G_0 139 [Seg.cell V0_0 O0_0.one, Seg.cell V0_1 O0_1.one, (sI a0.plan.at_), Seg.cell (.bool a0.off), Seg.cell (.bool a0.armed), (sI a0.left), (sI a0.steps)] ∧ Fr (fun j => j = G_0 ∨ some j = Value.ownBlock V0_0 ∨ some j = Value.ownBlock V0_1) w w') ?_ ?_
 ·refine cw_block ?_
  refine cw_round (fun (s7 : (List Int) × Int × (List S_pmem_cell)) ρ' w' => ∃ v11 : Value, ∃ O0_0 : Own k_pmem_cell 142 w' 0 V0_0 s7.2.2, ∃ O0_1 : Own (kI .i64) 3 w' 0 V0_1 a0.plan.list, ∃ r12 : Rd (kI .i64) w' v11 s7.1, OffR v11 s7.1 G_0 ∧ OffRV v11 s7.1 V0_0 ∧ OffRV v11 s7.1 V0_1 ∧ ρ' 0 = (pt G_0 0) ∧ ρ' 1 = v11 ∧ ρ' 11 = .int .i64 (List.length a0.cells : Int) ∧ ρ' 12 = .int .i64 s7.2.1 ∧ Blk w' G_0 139 [Seg.cell V0_0 O0_0.one, Seg.cell V0_1 O0_1.one, (sI a0.plan.at_), Seg.cell (.bool a0.off), Seg.cell (.bool a0.armed), (sI a0.left), (sI a0.steps)] ∧ Fr (fun j => j = G_0 ∨ some j = Value.ownBlock V0_0 ∨ some j = Value.ownBlock V0_1) w w') l9 ?_ ?_
  ·skip
   exact ⟨V1_0, O0_0, O0_1, R1_0, NR1_0_P0, NR1_0_R0_0, NR1_0_R0_1, rfl, rfl, rfl, rfl, b_0, fB⟩
  rintro s7 x18 ρ16 w17 ⟨v11, O0_0, O0_1, r12, a13, a14, a15, e0, e1, e11, e12, b_0, fB⟩ h
  unfold pmem_Device_Crash.s0 at h
  refine cw_seq ?_
  refine cw_region ?_
  refine ol_val (v := .bool (decide (s7.2.1 < (List.length a0.cells : Int)))) (xr_lss rfl e12 e11) rfl rfl rfl ?_
  refine ol_nil ?_
  refine cw_seq ?_
  rcases is h with ⟨c19, h⟩ | ⟨c19, h⟩
  ·refine cw_condT rfl c19 ?_
   refine cw_skip ?_
   refine cw_seq ?_
   refine cw_block ?_
   refine cw_seq ?_
   refine cw_region ?_
   refine ol_val (v := .int .i64 s7.2.1) (xr_move rfl e12) rfl rfl rfl ?_
   refine ol_val (v := .int .i64 s7.2.1) (xr_assign rfl rfl) rfl rfl rfl ?_
   refine ol_nil ?_
   refine cw_seq ?_
   refine cw_region ?_
   refine ol_val (v := (pt G_0 0)) (xr_move rfl e0) rfl rfl rfl ?_
   refine ol_val (v := (pt G_0 0)) (xr_nilCheck rfl rfl) rfl rfl rfl ?_
   refine ol_val (v := (pt G_0 0)) (xr_fieldAddr (p := 0) (q := 0) rfl fl139_0 rfl) rfl rfl rfl ?_
   refine ol_val (v := V0_0) (xr_load1 (v := V0_0) rfl ag135 rfl (b_0.seg 0 rfl rfl)) rfl rfl rfl ?_
   refine ol_val (v := .int .i64 s7.2.1) (xr_move rfl rfl) rfl rfl rfl ?_
   obtain ⟨g20, h⟩ := gs h
   refine ol_val (v := (pt ((sb V0_0)) (so V0_0 + Int.toNat s7.2.1 * 4))) (xr_indexR (K := k_pmem_cell) (v := V0_0) rfl Try.underlying135 sz142 rfl O0_0.rd rfl g20.1 g20.2) rfl rfl rfl ?_
   refine ol_val (v := (pt ((sb V0_0)) (so V0_0 + Int.toNat s7.2.1 * 4))) (xr_assign rfl rfl) rfl rfl rfl ?_
   refine ol_nil ?_
   refine cw_seq ?_
   refine cw_seq ?_
   refine cw_region ?_
   refine ol_val (v := (pt ((sb V0_0)) (so V0_0 + Int.toNat s7.2.1 * 4))) (xr_move rfl rfl) rfl rfl rfl ?_
   obtain ⟨t21, k22, h⟩ := bs h
   refine ol_op (opv_call rfl cal86 (ac rfl an) (pmem_cell_open__r0.ok fu _ (ix s7.2.2 s7.2.1) (sb V0_0) (so V0_0 + Int.toNat s7.2.1 * 4) (show At _ _ _ (cellsOf [Seg.cell (.int .u64 ((ix s7.2.2 s7.2.1).lasts)), Seg.cell (.int .u64 ((ix s7.2.2 s7.2.1).stored)), Seg.cell (.int .u64 ((ix s7.2.2 s7.2.1).sent)), Seg.cell (.bool ((ix s7.2.2 s7.2.1).flushed))]) from (O0_0.rd.elem g20.1 g20.2)) _ k22)) rfl rfl rfl ?_
   rintro _ w24 ⟨rfl, q23⟩
   have b_0 := b_0.gr q23
   have O0_0 := O0_0.gr q23
   have O0_1 := O0_1.gr q23
   have r12 := r12.gr q23
   have fB := fB.gr q23
   refine ol_nil ?_
   obtain ⟨x25, j26, h27⟩ := bs h
   refine cw_mid (fun ρ' w' => ∃ v28 : Value, ∃ O0_0 : Own k_pmem_cell 142 w' 0 V0_0 x25.2, ∃ O0_1 : Own (kI .i64) 3 w' 0 V0_1 a0.plan.list, ∃ r29 : Rd (kI .i64) w' v28 x25.1, OffR v28 x25.1 G_0 ∧ OffRV v28 x25.1 V0_0 ∧ OffRV v28 x25.1 V0_1 ∧ ρ' 0 = (pt G_0 0) ∧ ρ' 1 = v28 ∧ ρ' 5 = (pt ((sb V0_0)) (so V0_0 + Int.toNat s7.2.1 * 4)) ∧ ρ' 11 = .int .i64 (List.length a0.cells : Int) ∧ ρ' 12 = .int .i64 s7.2.1 ∧ Blk w' G_0 139 [Seg.cell V0_0 O0_0.one, Seg.cell V0_1 O0_1.one, (sI a0.plan.at_), Seg.cell (.bool a0.off), Seg.cell (.bool a0.armed), (sI a0.left), (sI a0.steps)] ∧ Fr (fun j => j = G_0 ∨ some j = Value.ownBlock V0_0 ∨ some j = Value.ownBlock V0_1) w w') ?_ ?_
   ·have h := j26
    rcases is h with ⟨c33, h⟩ | ⟨c33, h⟩
    ·refine cw_condT rfl c33 ?_
     refine cw_seq ?_
     refine cw_region ?_
     refine ol_val (v := .int .i64 0) (xr_assign rfl rfl) rfl rfl rfl ?_
     refine ol_nil ?_
     refine cw_seq ?_
     refine cw_seq ?_
     refine cw_region ?_
     refine ol_val (v := v11) (xr_move rfl e1) rfl rfl rfl ?_
     refine ol_val (v := .int .i64 (List.length s7.1 : Int)) (xr_lenR rfl Try.underlying25 rfl r12) rfl rfl rfl ?_
     refine ol_val (v := .bool (decide ((List.length s7.1 : Int) > 0))) (xr_gtr rfl rfl rfl) rfl rfl rfl ?_
     refine ol_nil ?_
     obtain ⟨x34, j35, h36⟩ := bs h
     refine cw_mid (fun ρ' w' => ∃ v37 : Value, ∃ O0_0 : Own k_pmem_cell 142 w' 0 V0_0 s7.2.2, ∃ O0_1 : Own (kI .i64) 3 w' 0 V0_1 a0.plan.list, ∃ r38 : Rd (kI .i64) w' v37 x34.1, OffR v37 x34.1 G_0 ∧ OffRV v37 x34.1 V0_0 ∧ OffRV v37 x34.1 V0_1 ∧ ρ' 0 = (pt G_0 0) ∧ ρ' 1 = v37 ∧ ρ' 5 = (pt ((sb V0_0)) (so V0_0 + Int.toNat s7.2.1 * 4)) ∧ ρ' 6 = .int .i64 x34.2 ∧ ρ' 11 = .int .i64 (List.length a0.cells : Int) ∧ ρ' 12 = .int .i64 s7.2.1 ∧ Blk w' G_0 139 [Seg.cell V0_0 O0_0.one, Seg.cell V0_1 O0_1.one, (sI a0.plan.at_), Seg.cell (.bool a0.off), Seg.cell (.bool a0.armed), (sI a0.left), (sI a0.steps)] ∧ Fr (fun j => j = G_0 ∨ some j = Value.ownBlock V0_0 ∨ some j = Value.ownBlock V0_1) w w') ?_ ?_
     ·have h := j35
      rcases is h with ⟨c42, h⟩ | ⟨c42, h⟩
      ·refine cw_condT rfl c42 ?_
       obtain ⟨g43, h⟩ := gs h
       obtain ⟨g45, h⟩ := gs h
       refine cw_drawL 6 [fun vz wz => vz = (v11 : Value), fun vz wz => vz = ((pt ((sb v11)) (so v11 + Int.toNat 0 * 1)) : Value), fun vz wz => vz = (.int .i64 (ix s7.1 0) : Value), fun vz wz => vz = (v11 : Value), fun vz wz => ∃ r44 : Rd (kI .i64) wz (subv 1 v11 (Int.toNat 1) (List.length s7.1)) (cut s7.1 1 (List.length s7.1 : Int)), vz = (subv 1 v11 (Int.toNat 1) (List.length s7.1) : Value), fun vz wz => vz = (.int .i64 (ix s7.1 0) : Value)] mo rfl ⟨fun _ _ _ h _ => h, fun _ _ _ h _ => h, fun _ _ _ h _ => h, fun _ _ _ h _ => h, fun _ _ _ ⟨r44, h⟩ q => ⟨r44.gr q, h⟩, fun _ _ _ h _ => h, trivial⟩ ?_ ?_
       ·refine ⟨?_, ?_, ?_, ?_, ?_, ?_, trivial⟩
        ·intro ρz wz hz hk hd
         exact sk_val (v := v11) (xr_move rfl ((hk 1 rfl).trans e1)) rfl rfl
        ·intro ρz wz hz hk hd
         exact sk_val (v := (pt ((sb v11)) (so v11 + Int.toNat 0 * 1))) (xr_indexR (K := (kI .i64)) (v := v11) rfl Try.underlying25 sz3 (hd 0 rfl 26 rfl) (r12.gr hz) rfl (by decide) g43) rfl rfl
        ·intro ρz wz hz hk hd
         exact sk_val (v := .int .i64 (ix s7.1 0)) (xr_load1 (v := .int .i64 (ix s7.1 0)) rfl ag3 (hd 1 rfl 27 rfl) ((r12.gr hz).elem (by decide) g43)) rfl rfl
        ·intro ρz wz hz hk hd
         exact sk_val (v := v11) (xr_move rfl ((hk 1 rfl).trans e1)) rfl rfl
        ·intro ρz wz hz hk hd
         exact sk_val (xr_slice_l (K := (kI .i64)) (v := v11) rfl Try.underlying25 sz3 (hd 3 rfl 29 rfl) (r12.gr hz) rfl (by decide) g45) rfl ⟨(r12.gr hz).cut (lo := 1) (hi := (List.length s7.1 : Int)) (by decide) g45 (Int.le_refl _), rfl⟩
        intro ρz wz hz hk hd
        exact sk_val (v := .int .i64 (ix s7.1 0)) (xr_assign rfl (hd 2 rfl 28 rfl)) rfl rfl
       intro ρ46 w47 q48 hk hd
       have e0 := (hk 0 rfl).trans e0
       have e5 := (hk 5 rfl).trans rfl
       have e6 := hd 5 rfl 6 rfl
       have e11 := (hk 11 rfl).trans e11
       have e12 := (hk 12 rfl).trans e12
       obtain ⟨r49, e30⟩ := hd 4 rfl 30 rfl
       have b_0 := b_0.gr q48
       have O0_0 := O0_0.gr q48
       have O0_1 := O0_1.gr q48
       have fB := fB.gr q48
       refine ol_val (v := subv 1 v11 (Int.toNat 1) (List.length s7.1)) (xr_assign rfl e30) rfl rfl rfl ?_
       refine ol_nil ?_
       obtain rfl := Option.some.inj h
       refine thn_i ?_
       exact ⟨(subv 1 v11 (Int.toNat 1) (List.length s7.1)), O0_0, O0_1, r49, (OffR.cut a13), (OffRV.cut a14), (OffRV.cut a15), e0, rfl, e5, e6, e11, e12, b_0, fB⟩
      refine cw_condF rfl c42 ?_
      refine cw_skip ?_
      obtain rfl := Option.some.inj h
      refine thn_i ?_
      exact ⟨v11, O0_0, O0_1, r12, a13, a14, a15, e0, e1, rfl, rfl, e11, e12, b_0, fB⟩
     rintro ρ50 w51 ⟨v37, O0_0, O0_1, r38, a39, a40, a41, e0, e1, e5, e6, e11, e12, b_0, fB⟩
     have h := h36
     refine cw_region ?_
     refine ol_val (v := (pt ((sb V0_0)) (so V0_0 + Int.toNat s7.2.1 * 4))) (xr_move rfl e5) rfl rfl rfl ?_
     refine ol_val (v := (pt ((sb V0_0)) (so V0_0 + Int.toNat s7.2.1 * 4))) (xr_move rfl e5) rfl rfl rfl ?_
     refine ol_val (v := .int .i64 x34.2) (xr_move rfl e6) rfl rfl rfl ?_
     obtain ⟨t52, k53, h⟩ := bs h
     refine ol_op (opv_call rfl cal87 (ac rfl (ac rfl an)) (pmem_cell_fate__r0.ok fu _ (ix s7.2.2 s7.2.1) (sb V0_0) (so V0_0 + Int.toNat s7.2.1 * 4) (show At _ _ _ (cellsOf [Seg.cell (.int .u64 ((ix s7.2.2 s7.2.1).lasts)), Seg.cell (.int .u64 ((ix s7.2.2 s7.2.1).stored)), Seg.cell (.int .u64 ((ix s7.2.2 s7.2.1).sent)), Seg.cell (.bool ((ix s7.2.2 s7.2.1).flushed))]) from (O0_0.rd.elem g20.1 g20.2)) x34.2 _ k53)) rfl rfl rfl ?_
     rintro _ w55 ⟨rfl, q54⟩
     have b_0 := b_0.gr q54
     have O0_0 := O0_0.gr q54
     have O0_1 := O0_1.gr q54
     have r38 := r38.gr q54
     have fB := fB.gr q54
     obtain ⟨t62, k63, h⟩ := bs h
     have f66 := off_ty b_0 O0_0 (by decide)
     have f67 := OffV.ty O0_1 O0_0 (by decide)
     obtain ⟨X56, Y57, h58, h59, b60, k61⟩ := Own.sub (K := k_pmem_cell) (i := s7.2.1) (ss := [Seg.cell (.int .u64 ((ix s7.2.2 s7.2.1).lasts)), Seg.cell (.int .u64 ((ix s7.2.2 s7.2.1).stored)), Seg.cell (.int .u64 ((ix s7.2.2 s7.2.1).sent)), Seg.cell (.bool ((ix s7.2.2 s7.2.1).flushed))]) O0_0 g20.1 g20.2 rfl
     refine ol_op (opv_call rfl cal85 (ac (ptrE (q := List.length X56) rfl h58) (ac rfl an)) (pmem_cell_keep__i0.ok fu _ (ix s7.2.2 s7.2.1) (sb V0_0) 142 X56 Y57 b60 t52 _ k63)) rfl rfl rfl ?_
     rintro _ w69 ⟨rfl, b65, q64⟩
     have O0_0 := k61 _ t62 [Seg.cell (.int .u64 t62.lasts), Seg.cell (.int .u64 t62.stored), Seg.cell (.int .u64 t62.sent), Seg.cell (.bool t62.flushed)] rfl b65
     have q64 := fr_own q64 h59
     have b_0 := b_0.wrO q64 f66
     have O0_1 := O0_1.wrV q64 f67
     have fB := fB.wrM q64 M0_0
     have r38 := r38.wrV q64 a40
     refine ol_nil ?_
     obtain rfl := Option.some.inj h
     refine thn_i ?_
     exact ⟨v37, O0_0, O0_1, r38, a39, a40, a41, e0, e1, e5, e11, e12, b_0, fB⟩
    refine cw_condF rfl c33 ?_
    refine cw_skip ?_
    obtain rfl := Option.some.inj h
    refine thn_i ?_
    exact ⟨v11, O0_0, O0_1, r12, a13, a14, a15, e0, e1, rfl, e11, e12, b_0, fB⟩
   rintro ρ70 w71 ⟨v28, O0_0, O0_1, r29, a30, a31, a32, e0, e1, e5, e11, e12, b_0, fB⟩
   have h := h27
   refine cw_region ?_
   refine ol_val (v := (pt ((sb V0_0)) (so V0_0 + Int.toNat s7.2.1 * 4))) (xr_move rfl e5) rfl rfl rfl ?_
   refine ol_val (v := (pt ((sb V0_0)) (so V0_0 + Int.toNat s7.2.1 * 4))) (xr_move rfl e5) rfl rfl rfl ?_
   refine ol_val (v := (pt ((sb V0_0)) (so V0_0 + Int.toNat s7.2.1 * 4))) (xr_nilCheck rfl rfl) rfl rfl rfl ?_
   refine ol_val (v := (pt ((sb V0_0)) (so V0_0 + Int.toNat s7.2.1 * 4 + 0))) (xr_fieldAddr (p := so V0_0 + Int.toNat s7.2.1 * 4) (q := 0) rfl fl142_0 rfl) rfl rfl rfl ?_
   obtain ⟨g72, h⟩ := gs h
   refine ol_val (v := .int .u64 ((ix x25.2 s7.2.1).lasts)) (xr_load1 (v := .int .u64 ((ix x25.2 s7.2.1).lasts)) rfl ag22 rfl (At.segs (ss := segs_pmem_cell (ix x25.2 s7.2.1)) (O0_0.rd.elem g20.1 g72) 0 1 rfl)) rfl rfl rfl ?_
   refine ol_val (v := (pt ((sb V0_0)) (so V0_0 + Int.toNat s7.2.1 * 4))) (xr_nilCheck rfl rfl) rfl rfl rfl ?_
   refine ol_val (v := (pt ((sb V0_0)) (so V0_0 + Int.toNat s7.2.1 * 4 + 1))) (xr_fieldAddr (p := so V0_0 + Int.toNat s7.2.1 * 4) (q := 1) rfl fl142_1 rfl) rfl rfl rfl ?_
   obtain ⟨g74, h⟩ := gs h
   have f75 := off_ty b_0 O0_0 (by decide)
   have f76 := OffV.ty O0_1 O0_0 (by decide)
   refine ol_op0 (opv_storeRow (z := (⟨(ix x25.2 s7.2.1).lasts, (ix x25.2 s7.2.1).lasts, (ix x25.2 s7.2.1).sent, (ix x25.2 s7.2.1).flushed⟩ : S_pmem_cell)) (xs := cellsOf [Seg.cell (.int .u64 ((ix x25.2 s7.2.1).lasts))]) rfl sz22 rfl rfl rfl (len_cellsOf _) (one_cellsOf _) O0_0 g20.1 g74 (Spl.segs (segs_pmem_cell (ix x25.2 s7.2.1)) 1 1 [Seg.cell (.int .u64 ((ix x25.2 s7.2.1).lasts))] rfl rfl) rfl) rfl rfl ?_
   rintro _ w78 ⟨O0_0, q73⟩
   have b_0 := b_0.wrO q73 f75
   have O0_1 := O0_1.wrV q73 f76
   have fB := fB.wrM q73 M0_0
   have r29 := r29.wrV q73 a31
   refine ol_nil ?_
   refine blk_i ?_
   refine cw_region ?_
   refine ol_val (v := .int .i64 (IntKind.i64.wrap (s7.2.1 + 1))) (xr_add rfl e12 rfl) rfl rfl rfl ?_
   refine ol_val (v := .int .i64 (IntKind.i64.wrap (s7.2.1 + 1))) (xr_move rfl rfl) rfl rfl rfl ?_
   refine ol_nil ?_
   obtain rfl := Option.some.inj h
   refine lp_in ?_
   exact ⟨v28, O0_0, O0_1, r29, a30, a31, a32, e0, e1, e11, rfl, b_0, fB⟩
  refine cw_condF rfl c19 ?_
  refine cw_exit ?_
  repeat (first | with_reducible refine thn_e ?_ | with_reducible refine blk_e rfl ?_)
  obtain rfl := Option.some.inj h
  refine lp_exit ?_
  rintro rfl
  refine thn_x ?_
  exact ⟨O0_0, O0_1, e0, b_0, fB⟩
 rintro ρ79 w80 ⟨O0_0, O0_1, e0, b_0, fB⟩
 have h := h10
 refine cw_seq ?_
 refine cw_region ?_
 refine ol_val (v := (pt G_0 0)) (xr_move rfl e0) rfl rfl rfl ?_
 refine ol_val (v := aggV [Seg.cell (.slice none 0 0) (by rfl), (sI (0 : Int))]) (xr_build (vals := []) rfl trivial (bl137_ _)) rfl rfl rfl ?_
 refine ol_val (v := (pt G_0 0)) (xr_nilCheck rfl rfl) rfl rfl rfl ?_
 refine ol_val (v := (pt G_0 1)) (xr_fieldAddr (p := 0) (q := 1) rfl fl139_1 rfl) rfl rfl rfl ?_
 have f82 := off_ty b_0 O0_0 (by decide)
 refine ol_op0 (opv_store (ss' := [Seg.cell V0_0 O0_0.one, Seg.cell (.slice none 0 0) (by rfl), (sI (0 : Int)), Seg.cell (.bool a0.off), Seg.cell (.bool a0.armed), (sI a0.left), (sI a0.steps)]) (xs := cellsOf [Seg.cell (.slice none 0 0) (by rfl), (sI (0 : Int))]) rfl sz137 rfl rfl rfl (len_cellsOf _) (one_cellsOf _) b_0 (Spl.segs _ 1 2 [Seg.cell (.slice none 0 0) (by rfl), (sI (0 : Int))] rfl rfl)) rfl rfl ?_
 rintro _ w83 ⟨b_0, q81⟩
 have O0_0 := O0_0.wr q81 f82
 have fB := fB.wrS q81 (.inl rfl)
 refine ol_nil ?_
 refine cw_region ?_
 refine ol_val (v := (pt G_0 0)) (xr_move rfl e0) rfl rfl rfl ?_
 refine ol_val (v := (pt G_0 0)) (xr_move rfl e0) rfl rfl rfl ?_
 refine ol_val (v := (pt G_0 0)) (xr_move rfl e0) rfl rfl rfl ?_
 refine ol_val (v := (pt G_0 0)) (xr_nilCheck rfl rfl) rfl rfl rfl ?_
 refine ol_val (v := (pt G_0 3)) (xr_fieldAddr (p := 0) (q := 3) rfl fl139_2 rfl) rfl rfl rfl ?_
 have f85 := off_ty b_0 O0_0 (by decide)
 refine ol_op0 (opv_store (ss' := [Seg.cell V0_0 O0_0.one, Seg.cell (.slice none 0 0) (by rfl), (sI (0 : Int)), Seg.cell (.bool false), Seg.cell (.bool a0.armed), (sI a0.left), (sI a0.steps)]) (xs := cellsOf [Seg.cell (.bool false)]) rfl sz4 rfl rfl rfl (len_cellsOf _) (one_cellsOf _) b_0 (Spl.segs _ 3 1 [Seg.cell (.bool false)] rfl rfl)) rfl rfl ?_
 rintro _ w86 ⟨b_0, q84⟩
 have O0_0 := O0_0.wr q84 f85
 have fB := fB.wrS q84 (.inl rfl)
 refine ol_val (v := (pt G_0 0)) (xr_nilCheck rfl rfl) rfl rfl rfl ?_
 refine ol_val (v := (pt G_0 4)) (xr_fieldAddr (p := 0) (q := 4) rfl fl139_3 rfl) rfl rfl rfl ?_
 have f88 := off_ty b_0 O0_0 (by decide)
 refine ol_op0 (opv_store (ss' := [Seg.cell V0_0 O0_0.one, Seg.cell (.slice none 0 0) (by rfl), (sI (0 : Int)), Seg.cell (.bool false), Seg.cell (.bool false), (sI a0.left), (sI a0.steps)]) (xs := cellsOf [Seg.cell (.bool false)]) rfl sz4 rfl rfl rfl (len_cellsOf _) (one_cellsOf _) b_0 (Spl.segs _ 4 1 [Seg.cell (.bool false)] rfl rfl)) rfl rfl ?_
 rintro _ w89 ⟨b_0, q87⟩
 have O0_0 := O0_0.wr q87 f88
 have fB := fB.wrS q87 (.inl rfl)
 refine ol_val (v := (pt G_0 0)) (xr_nilCheck rfl rfl) rfl rfl rfl ?_
 refine ol_val (v := (pt G_0 5)) (xr_fieldAddr (p := 0) (q := 5) rfl fl139_4 rfl) rfl rfl rfl ?_
 have f91 := off_ty b_0 O0_0 (by decide)
 refine ol_op0 (opv_store (ss' := [Seg.cell V0_0 O0_0.one, Seg.cell (.slice none 0 0) (by rfl), (sI (0 : Int)), Seg.cell (.bool false), Seg.cell (.bool false), (sI 0), (sI a0.steps)]) (xs := cellsOf [(sI 0)]) rfl sz3 rfl rfl rfl (len_cellsOf _) (one_cellsOf _) b_0 (Spl.segs _ 5 1 [(sI 0)] rfl rfl)) rfl rfl ?_
 rintro _ w92 ⟨b_0, q90⟩
 have O0_0 := O0_0.wr q90 f91
 have fB := fB.wrS q90 (.inl rfl)
 refine ol_nil ?_
 obtain rfl := Option.some.inj h
 refine fin_end0 Try.results32 ?_
 exact ⟨_, rfl, V0_0, (.slice none 0 0), O0_0, M0_0, Own.nil _ _ _ _, ms_nil, rfl, b_0, fB⟩
def slices_Clone_1.f (fu : Nat) (a0 : List Int) : Option (List Int) := (if List.length a0 ≤ LIM then some a0 else none)
theorem slices_Clone_1.ok (fu : Nat) (w : World) (a0 : List Int) (V0_0 : Value) (R0_0 : Rd (kI .i64) w V0_0 a0) (r : List Int) (h : slices_Clone_1.f fu a0 = some r) :
  Calls Try.prog 90 (([V0_0] : List Value).toArray) w (fun e w' => ∃ v, e = .returned v ∧ ∃ u1 : Value, ∃ o2 : Own (kI .i64) 3 w' w.heap.size u1 r, v = u1 ∧ Gr w w') := by
 unfold slices_Clone_1.f at h
 obtain ⟨g, h⟩ := gs h
 obtain rfl := Option.some.inj h
 have fB : Gr w w := Fr.refl _ _
 refine calls_cw Try.func90 rfl Try.ntmps90 rfl ?_
 refine cw_seq ?_
 refine cw_region ?_
 refine ol_val (v := .slice none 0 0) (xr_assign rfl rfl) rfl rfl rfl ?_
 refine ol_nil ?_
 refine cw_seq ?_
 refine cw_seq ?_
 refine cw_region ?_
 refine ol_val (v := V0_0) (xr_move rfl rfl) rfl rfl rfl ?_
 refine ol_val (v := .bool (isNilV V0_0)) (xr_eqNil rfl Try.underlying25 rfl rfl R0_0) rfl rfl rfl ?_
 refine ol_nil ?_
 rcases bt (isNilV V0_0) with c | c
 ·refine cw_condT rfl c ?_
  obtain rfl := R0_0.isNil c
  refine cw_seq ?_
  refine cw_region ?_
  refine ol_val (v := .slice none 0 0) (xr_assign rfl rfl) rfl rfl rfl ?_
  refine ol_nil ?_
  refine cw_ret ?_
  repeat (first | with_reducible refine thn_r ?_ | with_reducible refine blk_r ?_)
  refine fin_ret1 Try.results90 rfl ?_
  exact ⟨_, rfl, _, Own.nil _ _ _ _, rfl, fB⟩
 refine cw_condF rfl c ?_
 refine cw_skip ?_
 refine cw_seq ?_
 refine cw_region ?_
 refine ol_op (opv_buildSlice (K := (kI .i64)) (xs := ([] : List Int)) (vals := []) rfl Try.underlying25 el3 rfl rfl trivial rfl rfl rfl fB.size) rfl rfl rfl ?_
 rintro v1 w1 ⟨o1, q1, z1⟩
 refine ol_val (v := V0_0) (xr_move rfl rfl) rfl rfl rfl ?_
 refine ol_op (opv_append (K := (kI .i64)) rfl Try.underlying25 el3 rfl rfl rfl rfl rfl o1 (R0_0.gr q1) (by simpa using g) (fB.gr q1).size) rfl rfl rfl ?_
 rintro v2 w2 ⟨o2, q2, n2⟩
 refine ol_val (v := v2) (xr_assign rfl rfl) rfl rfl rfl ?_
 refine ol_nil ?_
 refine cw_ret ?_
 repeat (first | with_reducible refine thn_r ?_ | with_reducible refine blk_r ?_)
 refine fin_ret1 Try.results90 rfl ?_
 exact ⟨_, rfl, v2, o2, rfl, (fB.gr q1).wrO q2 o1.geO⟩
def pmem_Device_Plan.f (fu : Nat) (a0 : S_pmem_Device) (a1 : List Int) : Option S_pmem_Device := ((slices_Clone_1.f fu a1).bind fun t7 => some ((⟨a0.cells, (⟨t7, (0 : Int)⟩ : S_pmem_plan), a0.off, a0.armed, a0.left, a0.steps⟩ : S_pmem_Device)))
theorem pmem_Device_Plan.ok (fu : Nat) (w : World) (a0 : S_pmem_Device) (G_0 : Nat) (V0_0 : Value) (O0_0 : Own k_pmem_cell 142 w 0 V0_0 a0.cells) (V0_1 : Value) (O0_1 : Own (kI .i64) 3 w 0 V0_1 a0.plan.list) (b_0 : Blk w G_0 139 [Seg.cell V0_0 O0_0.one, Seg.cell V0_1 O0_1.one, (sI a0.plan.at_), Seg.cell (.bool a0.off), Seg.cell (.bool a0.armed), (sI a0.left), (sI a0.steps)]) (a1 : List Int) (V1_0 : Value) (R1_0 : Rd (kI .i64) w V1_0 a1) (NR1_0_P0 : OffR V1_0 a1 G_0) (NR1_0_R0_0 : OffRV V1_0 a1 V0_0) (NR1_0_R0_1 : OffRV V1_0 a1 V0_1) (r : S_pmem_Device) (h : pmem_Device_Plan.f fu a0 a1 = some r) :
  Calls Try.prog 35 (([(pt G_0 0), V1_0] : List Value).toArray) w (fun e w' => ∃ v, e = .returned v ∧ ∃ u1 : Value, ∃ u4 : Value, ∃ o2 : Own k_pmem_cell 142 w' 0 u1 r.cells, ∃ m3 : ∀ g, Value.ownBlock u1 = some g → w.heap.size ≤ g ∨ (g = G_0 ∨ some g = Value.ownBlock V0_0 ∨ some g = Value.ownBlock V0_1), ∃ o5 : Own (kI .i64) 3 w' 0 u4 r.plan.list, ∃ m6 : ∀ g, Value.ownBlock u4 = some g → w.heap.size ≤ g ∨ (g = G_0 ∨ some g = Value.ownBlock V0_0 ∨ some g = Value.ownBlock V0_1), v = .tuple #[] ∧ Blk w' G_0 139 [Seg.cell u1 o2.one, Seg.cell u4 o5.one, (sI r.plan.at_), Seg.cell (.bool r.off), Seg.cell (.bool r.armed), (sI r.left), (sI r.steps)] ∧ Fr (fun j => j = G_0 ∨ some j = Value.ownBlock V0_0 ∨ some j = Value.ownBlock V0_1) w w') := by
 unfold pmem_Device_Plan.f at h
 have fB : Fr (fun j => j = G_0 ∨ some j = Value.ownBlock V0_0 ∨ some j = Value.ownBlock V0_1) w w := Fr.refl _ _
 have M0_0 : ∀ g, Value.ownBlock V0_0 = some g → w.heap.size ≤ g ∨ (g = G_0 ∨ some g = Value.ownBlock V0_0 ∨ some g = Value.ownBlock V0_1) := fun g hg => .inr (.inr (.inl hg.symm))
 have M0_1 : ∀ g, Value.ownBlock V0_1 = some g → w.heap.size ≤ g ∨ (g = G_0 ∨ some g = Value.ownBlock V0_0 ∨ some g = Value.ownBlock V0_1) := fun g hg => .inr (.inr (.inr hg.symm))
 refine calls_cw Try.func35 rfl Try.ntmps35 rfl ?_
 refine cw_region ?_
 refine ol_val (v := (pt G_0 0)) (xr_move rfl rfl) rfl rfl rfl ?_
 refine ol_val (v := V1_0) (xr_move rfl rfl) rfl rfl rfl ?_
 obtain ⟨t7, k8, h⟩ := bs h
 refine ol_op (opv_call rfl cal90 (ac rfl an) (slices_Clone_1.ok fu _ a1 V1_0 (R1_0) _ k8)) rfl rfl rfl ?_
 rintro u9 w13 ⟨_, o10, rfl, q12⟩
 have a14 := OffV.call O0_1 o10
 have o10 := Own.base o10 fB.size
 have b_0 := b_0.gr q12
 have O0_0 := O0_0.gr q12
 have O0_1 := O0_1.gr q12
 have fB := fB.gr q12
 refine ol_val (v := aggV [Seg.cell u9 o10.one, (sI (0 : Int))]) (xr_buildS (vals := [(0, u9)]) (res := [Seg.cell u9 o10.one, (sI (0 : Int))]) rfl ⟨rfl, rfl, trivial⟩ Try.underlying137 ze137 pl137 (fl_cons (xs := cellsOf [Seg.cell u9 o10.one]) (cs' := cellsOf [Seg.cell u9 o10.one, (sI (0 : Int))]) rfl (cells_one o10.one) (len_cellsOf _) (Spl.segs [Seg.cell (.slice none 0 0) (by rfl), (sI (0 : Int))] 0 1 [Seg.cell u9 o10.one] rfl rfl) fl_nil)) rfl rfl rfl ?_
 refine ol_val (v := (pt G_0 0)) (xr_nilCheck rfl rfl) rfl rfl rfl ?_
 refine ol_val (v := (pt G_0 1)) (xr_fieldAddr (p := 0) (q := 1) rfl fl139_1 rfl) rfl rfl rfl ?_
 have f16 := off_ty b_0 O0_0 (by decide)
 have f17 := off_ty b_0 o10 (by decide)
 refine ol_op0 (opv_store (ss' := [Seg.cell V0_0 O0_0.one, Seg.cell u9 o10.one, (sI (0 : Int)), Seg.cell (.bool a0.off), Seg.cell (.bool a0.armed), (sI a0.left), (sI a0.steps)]) (xs := cellsOf [Seg.cell u9 o10.one, (sI (0 : Int))]) rfl sz137 rfl rfl rfl (len_cellsOf _) (one_cellsOf _) b_0 (Spl.segs _ 1 2 [Seg.cell u9 o10.one, (sI (0 : Int))] rfl rfl)) rfl rfl ?_
 rintro _ w18 ⟨b_0, q15⟩
 have O0_0 := O0_0.wr q15 f16
 have o10 := o10.wr q15 f17
 have fB := fB.wrS q15 (.inl rfl)
 refine ol_nil ?_
 obtain rfl := Option.some.inj h
 refine fin_end0 Try.results35 ?_
 exact ⟨_, rfl, V0_0, u9, O0_0, M0_0, (Own.base o10 (Nat.zero_le _)), (ms_geO o10), rfl, b_0, fB⟩
def pmem_Device_Arm.f (fu : Nat) (a0 : S_pmem_Device) (a1 : Int) : Option S_pmem_Device := (if a0.off = true then some (a0) else some ((⟨a0.cells, a0.plan, (decide (a1 = 0)), (decide (a1 ≥ 0)), a1, a0.steps⟩ : S_pmem_Device)))
theorem pmem_Device_Arm.ok (fu : Nat) (w : World) (a0 : S_pmem_Device) (G_0 : Nat) (V0_0 : Value) (R0_0 : Rd k_pmem_cell w V0_0 a0.cells) (N0_0 : OffR V0_0 a0.cells G_0) (V0_1 : Value) (R0_1 : Rd (kI .i64) w V0_1 a0.plan.list) (N0_1 : OffR V0_1 a0.plan.list G_0) (b_0 : Blk w G_0 139 [Seg.cell V0_0 R0_0.one, Seg.cell V0_1 R0_1.one, (sI a0.plan.at_), Seg.cell (.bool a0.off), Seg.cell (.bool a0.armed), (sI a0.left), (sI a0.steps)]) (a1 : Int) (r : S_pmem_Device) (h : pmem_Device_Arm.f fu a0 a1 = some r) :
  Calls Try.prog 38 (([(pt G_0 0), .int .i64 a1] : List Value).toArray) w (fun e w' => ∃ v, e = .returned v ∧ v = .tuple #[] ∧ Blk w' G_0 139 [Seg.cell V0_0 R0_0.one, Seg.cell V0_1 R0_1.one, (sI r.plan.at_), Seg.cell (.bool r.off), Seg.cell (.bool r.armed), (sI r.left), (sI r.steps)] ∧ Fr (fun j => j = G_0) w w') := by
 unfold pmem_Device_Arm.f at h
 have fB : Fr (fun j => j = G_0) w w := Fr.refl _ _
 refine calls_cw Try.func38 rfl Try.ntmps38 rfl ?_
 refine cw_seq ?_
 refine cw_seq ?_
 refine cw_region ?_
 refine ol_val (v := (pt G_0 0)) (xr_move rfl rfl) rfl rfl rfl ?_
 refine ol_val (v := (pt G_0 0)) (xr_nilCheck rfl rfl) rfl rfl rfl ?_
 refine ol_val (v := (pt G_0 3)) (xr_fieldAddr (p := 0) (q := 3) rfl fl139_2 rfl) rfl rfl rfl ?_
 refine ol_val (v := .bool a0.off) (xr_load1 (v := .bool a0.off) rfl ag4 rfl (b_0.seg 3 rfl rfl)) rfl rfl rfl ?_
 refine ol_nil ?_
 rcases is h with ⟨c1, h⟩ | ⟨c1, h⟩
 ·refine cw_condT rfl c1 ?_
  refine cw_ret ?_
  repeat (first | with_reducible refine thn_r ?_ | with_reducible refine blk_r ?_)
  obtain rfl := Option.some.inj h
  refine fin_ret0 Try.results38 ?_
  exact ⟨_, rfl, rfl, b_0, fB⟩
 refine cw_condF rfl c1 ?_
 refine cw_skip ?_
 refine cw_seq ?_
 refine cw_region ?_
 refine ol_val (v := (pt G_0 0)) (xr_move rfl rfl) rfl rfl rfl ?_
 refine ol_val (v := (pt G_0 0)) (xr_move rfl rfl) rfl rfl rfl ?_
 refine ol_val (v := .int .i64 a1) (xr_move rfl rfl) rfl rfl rfl ?_
 refine ol_val (v := .bool (decide (a1 ≥ 0))) (xr_geq rfl rfl rfl) rfl rfl rfl ?_
 refine ol_val (v := .int .i64 a1) (xr_move rfl rfl) rfl rfl rfl ?_
 refine ol_val (v := (pt G_0 0)) (xr_nilCheck rfl rfl) rfl rfl rfl ?_
 refine ol_val (v := (pt G_0 4)) (xr_fieldAddr (p := 0) (q := 4) rfl fl139_3 rfl) rfl rfl rfl ?_
 refine ol_op0 (opv_store (ss' := [Seg.cell V0_0 R0_0.one, Seg.cell V0_1 R0_1.one, (sI a0.plan.at_), Seg.cell (.bool a0.off), Seg.cell (.bool (decide (a1 ≥ 0))), (sI a0.left), (sI a0.steps)]) (xs := cellsOf [Seg.cell (.bool (decide (a1 ≥ 0)))]) rfl sz4 rfl rfl rfl (len_cellsOf _) (one_cellsOf _) b_0 (Spl.segs _ 4 1 [Seg.cell (.bool (decide (a1 ≥ 0)))] rfl rfl)) rfl rfl ?_
 rintro _ w3 ⟨b_0, q2⟩
 have R0_0 := R0_0.wr q2 N0_0
 have R0_1 := R0_1.wr q2 N0_1
 have fB := fB.wrS q2 rfl
 refine ol_val (v := (pt G_0 0)) (xr_nilCheck rfl rfl) rfl rfl rfl ?_
 refine ol_val (v := (pt G_0 5)) (xr_fieldAddr (p := 0) (q := 5) rfl fl139_4 rfl) rfl rfl rfl ?_
 refine ol_op0 (opv_store (ss' := [Seg.cell V0_0 R0_0.one, Seg.cell V0_1 R0_1.one, (sI a0.plan.at_), Seg.cell (.bool a0.off), Seg.cell (.bool (decide (a1 ≥ 0))), (sI a1), (sI a0.steps)]) (xs := cellsOf [(sI a1)]) rfl sz3 rfl rfl rfl (len_cellsOf _) (one_cellsOf _) b_0 (Spl.segs _ 5 1 [(sI a1)] rfl rfl)) rfl rfl ?_
 rintro _ w5 ⟨b_0, q4⟩
 have R0_0 := R0_0.wr q4 N0_0
 have R0_1 := R0_1.wr q4 N0_1
 have fB := fB.wrS q4 rfl
 refine ol_nil ?_
 refine cw_region ?_
 refine ol_val (v := (pt G_0 0)) (xr_move rfl rfl) rfl rfl rfl ?_
 refine ol_val (v := .int .i64 a1) (xr_move rfl rfl) rfl rfl rfl ?_
 refine ol_val (v := .bool (decide (a1 = 0))) (xr_eqI rfl Try.underlying3 rfl rfl rfl) rfl rfl rfl ?_
 refine ol_val (v := (pt G_0 0)) (xr_nilCheck rfl rfl) rfl rfl rfl ?_
 refine ol_val (v := (pt G_0 3)) (xr_fieldAddr (p := 0) (q := 3) rfl fl139_2 rfl) rfl rfl rfl ?_
 refine ol_op0 (opv_store (ss' := [Seg.cell V0_0 R0_0.one, Seg.cell V0_1 R0_1.one, (sI a0.plan.at_), Seg.cell (.bool (decide (a1 = 0))), Seg.cell (.bool (decide (a1 ≥ 0))), (sI a1), (sI a0.steps)]) (xs := cellsOf [Seg.cell (.bool (decide (a1 = 0)))]) rfl sz4 rfl rfl rfl (len_cellsOf _) (one_cellsOf _) b_0 (Spl.segs _ 3 1 [Seg.cell (.bool (decide (a1 = 0)))] rfl rfl)) rfl rfl ?_
 rintro _ w7 ⟨b_0, q6⟩
 have R0_0 := R0_0.wr q6 N0_0
 have R0_1 := R0_1.wr q6 N0_1
 have fB := fB.wrS q6 rfl
 refine ol_nil ?_
 obtain rfl := Option.some.inj h
 refine fin_end0 Try.results38 ?_
 exact ⟨_, rfl, rfl, b_0, fB⟩
def pmem_Device_may.f (fu : Nat) (a0 : S_pmem_Device) (a1 : Int) (a2 : Int) : Option Int := (if a0.off = true then some (3) else (if (if (decide (a1 < 0)) = true then true else (decide (a1 ≥ a2))) = true then some (2) else some (0)))
theorem pmem_Device_may.ok (fu : Nat) (w : World) (a0 : S_pmem_Device) (G_0 : Nat) (V0_0 : Value) (R0_0 : Rd k_pmem_cell w V0_0 a0.cells) (V0_1 : Value) (R0_1 : Rd (kI .i64) w V0_1 a0.plan.list) (b_0 : Blk w G_0 139 [Seg.cell V0_0 R0_0.one, Seg.cell V0_1 R0_1.one, (sI a0.plan.at_), Seg.cell (.bool a0.off), Seg.cell (.bool a0.armed), (sI a0.left), (sI a0.steps)]) (a1 : Int) (a2 : Int) (r : Int) (h : pmem_Device_may.f fu a0 a1 a2 = some r) :
  Calls Try.prog 83 (([(pt G_0 0), .int .i64 a1, .int .i64 a2] : List Value).toArray) w (fun e w' => ∃ v, e = .returned v ∧ v = .int .i64 r ∧ Gr w w') := by
 unfold pmem_Device_may.f at h
 have fB : Gr w w := Fr.refl _ _
 refine calls_cw Try.func83 rfl Try.ntmps83 rfl ?_
 refine cw_seq ?_
 refine cw_region ?_
 refine ol_val (v := .int .i64 0) (xr_assign rfl rfl) rfl rfl rfl ?_
 refine ol_nil ?_
 refine cw_seq ?_
 refine cw_block ?_
 refine cw_seq ?_
 refine cw_region ?_
 refine ol_val (v := (pt G_0 0)) (xr_move rfl rfl) rfl rfl rfl ?_
 refine ol_val (v := (pt G_0 0)) (xr_nilCheck rfl rfl) rfl rfl rfl ?_
 refine ol_val (v := (pt G_0 3)) (xr_fieldAddr (p := 0) (q := 3) rfl fl139_2 rfl) rfl rfl rfl ?_
 refine ol_val (v := .bool a0.off) (xr_load1 (v := .bool a0.off) rfl ag4 rfl (b_0.seg 3 rfl rfl)) rfl rfl rfl ?_
 refine ol_val (v := .bool a0.off) (xr_assign rfl rfl) rfl rfl rfl ?_
 refine ol_nil ?_
 rcases is h with ⟨c1, h⟩ | ⟨c1, h⟩
 ·refine cw_condT rfl c1 ?_
  refine cw_seq ?_
  refine cw_region ?_
  refine ol_val (v := .int .i64 3) (xr_assign rfl rfl) rfl rfl rfl ?_
  refine ol_nil ?_
  refine cw_ret ?_
  repeat (first | with_reducible refine thn_r ?_ | with_reducible refine blk_r ?_)
  obtain rfl := Option.some.inj h
  refine fin_ret1 Try.results83 rfl ?_
  exact ⟨_, rfl, rfl, fB⟩
 refine cw_condF rfl c1 ?_
 refine cw_seq ?_
 refine cw_mid (fun ρ' w' => ρ' 12 = .bool (if (decide (a1 < 0)) = true then true else (decide (a1 ≥ a2))) ∧ w = w') ?_ ?_
 ·skip
  refine cw_region ?_
  refine ol_val (v := .int .i64 a1) (xr_move rfl rfl) rfl rfl rfl ?_
  refine ol_val (v := .bool (decide (a1 < 0))) (xr_lss rfl rfl rfl) rfl rfl rfl ?_
  refine ol_val (v := .bool (decide (a1 < 0))) (xr_move rfl rfl) rfl rfl rfl ?_
  rcases bt (decide (a1 < 0)) with c2 | c2
  ·skip
   refine ol_gskip rfl rfl rfl rfl rfl c2 ?_
   refine ol_gskip rfl rfl rfl rfl rfl c2 ?_
   refine ol_gskip rfl rfl rfl rfl rfl c2 ?_
   refine ol_val (v := .bool true) (xr_pickT rfl rfl c2 rfl) rfl rfl rfl ?_
   refine ol_val (v := .bool true) (xr_assign rfl rfl) rfl rfl rfl ?_
   refine ol_nil ?_
   refine thn_i ?_
   exact ⟨(rfl).trans (congrArg (fun z => (.bool z : Value)) (show true = (if (decide (a1 < 0)) = true then true else (decide (a1 ≥ a2))) from by rw [ite_t c2])), rfl⟩
  refine ol_gval (v := .int .i64 a1) (xr_move rfl rfl) rfl rfl rfl rfl rfl c2 ?_
  refine ol_gval (v := .int .i64 a2) (xr_move rfl rfl) rfl rfl rfl rfl rfl c2 ?_
  refine ol_gval (v := .bool (decide (a1 ≥ a2))) (xr_geq rfl rfl rfl) rfl rfl rfl rfl rfl c2 ?_
  refine ol_val (v := .bool (decide (a1 ≥ a2))) (xr_pickF rfl rfl c2 rfl) rfl rfl rfl ?_
  refine ol_val (v := .bool (decide (a1 ≥ a2))) (xr_assign rfl rfl) rfl rfl rfl ?_
  refine ol_nil ?_
  refine thn_i ?_
  exact ⟨(rfl).trans (congrArg (fun z => (.bool z : Value)) (show (decide (a1 ≥ a2)) = (if (decide (a1 < 0)) = true then true else (decide (a1 ≥ a2))) from by rw [ite_f c2])), rfl⟩
 rintro ρ3 _ ⟨e12, rfl⟩
 rcases is h with ⟨c4, h⟩ | ⟨c4, h⟩
 ·refine cw_condT e12 c4 ?_
  refine cw_seq ?_
  refine cw_region ?_
  refine ol_val (v := .int .i64 2) (xr_assign rfl rfl) rfl rfl rfl ?_
  refine ol_nil ?_
  refine cw_ret ?_
  repeat (first | with_reducible refine thn_r ?_ | with_reducible refine blk_r ?_)
  obtain rfl := Option.some.inj h
  refine fin_ret1 Try.results83 rfl ?_
  exact ⟨_, rfl, rfl, fB⟩
 refine cw_condF e12 c4 ?_
 refine cw_skip ?_
 refine blk_i ?_
 refine cw_seq ?_
 refine cw_region ?_
 refine ol_val (v := .int .i64 0) (xr_assign rfl rfl) rfl rfl rfl ?_
 refine ol_nil ?_
 refine cw_ret ?_
 repeat (first | with_reducible refine thn_r ?_ | with_reducible refine blk_r ?_)
 obtain rfl := Option.some.inj h
 refine fin_ret1 Try.results83 rfl ?_
 exact ⟨_, rfl, rfl, fB⟩
def pmem_Device_Load.f (fu : Nat) (a0 : S_pmem_Device) (a1 : Int) : Option (Int × Int) := ((pmem_Device_may.f fu a0 a1 (List.length a0.cells : Int)).bind fun t1 => (if (!decide (t1 = 0)) = true then some (0, t1) else (if 0 ≤ a1 ∧ a1 < (List.length a0.cells : Int) then some ((ix a0.cells a1).stored, 0) else none)))
theorem pmem_Device_Load.ok (fu : Nat) (w : World) (a0 : S_pmem_Device) (G_0 : Nat) (V0_0 : Value) (R0_0 : Rd k_pmem_cell w V0_0 a0.cells) (V0_1 : Value) (R0_1 : Rd (kI .i64) w V0_1 a0.plan.list) (b_0 : Blk w G_0 139 [Seg.cell V0_0 R0_0.one, Seg.cell V0_1 R0_1.one, (sI a0.plan.at_), Seg.cell (.bool a0.off), Seg.cell (.bool a0.armed), (sI a0.left), (sI a0.steps)]) (a1 : Int) (r : Int × Int) (h : pmem_Device_Load.f fu a0 a1 = some r) :
  Calls Try.prog 82 (([(pt G_0 0), .int .i64 a1] : List Value).toArray) w (fun e w' => ∃ v, e = .returned v ∧ v = .tuple #[.int .u64 r.1, .int .i64 r.2] ∧ Gr w w') := by
 unfold pmem_Device_Load.f at h
 have fB : Gr w w := Fr.refl _ _
 refine calls_cw Try.func82 rfl Try.ntmps82 rfl ?_
 refine cw_seq ?_
 refine cw_region ?_
 refine ol_val (v := .int .u64 0) (xr_assign rfl rfl) rfl rfl rfl ?_
 refine ol_val (v := .int .i64 0) (xr_assign rfl rfl) rfl rfl rfl ?_
 refine ol_nil ?_
 refine cw_seq ?_
 refine cw_seq ?_
 refine cw_region ?_
 refine ol_val (v := (pt G_0 0)) (xr_move rfl rfl) rfl rfl rfl ?_
 refine ol_val (v := .int .i64 a1) (xr_move rfl rfl) rfl rfl rfl ?_
 refine ol_val (v := (pt G_0 0)) (xr_move rfl rfl) rfl rfl rfl ?_
 refine ol_val (v := (pt G_0 0)) (xr_nilCheck rfl rfl) rfl rfl rfl ?_
 refine ol_val (v := (pt G_0 0)) (xr_fieldAddr (p := 0) (q := 0) rfl fl139_0 rfl) rfl rfl rfl ?_
 refine ol_val (v := V0_0) (xr_load1 (v := V0_0) rfl ag135 rfl (b_0.seg 0 rfl rfl)) rfl rfl rfl ?_
 refine ol_val (v := .int .i64 (List.length a0.cells : Int)) (xr_lenR rfl Try.underlying135 rfl (R0_0.gr fB)) rfl rfl rfl ?_
 obtain ⟨t1, k2, h⟩ := bs h
 refine ol_op (opv_call rfl cal83 (ac rfl (ac rfl (ac rfl an))) (pmem_Device_may.ok fu _ a0 G_0 V0_0 (R0_0.gr fB) V0_1 (R0_1.gr fB) b_0 a1 (List.length a0.cells : Int) _ k2)) rfl rfl rfl ?_
 rintro _ w4 ⟨rfl, q3⟩
 have b_0 := b_0.gr q3
 have fB := fB.gr q3
 refine ol_val (v := .int .i64 t1) (xr_assign rfl rfl) rfl rfl rfl ?_
 refine ol_nil ?_
 refine cw_seq ?_
 refine cw_region ?_
 refine ol_val (v := .int .i64 t1) (xr_move rfl rfl) rfl rfl rfl ?_
 refine ol_val (v := .bool (!decide (t1 = 0))) (xr_neI rfl Try.underlying31 rfl rfl rfl) rfl rfl rfl ?_
 refine ol_nil ?_
 rcases is h with ⟨c5, h⟩ | ⟨c5, h⟩
 ·refine cw_condT rfl c5 ?_
  refine cw_seq ?_
  refine cw_region ?_
  refine ol_val (v := .int .i64 t1) (xr_move rfl rfl) rfl rfl rfl ?_
  refine ol_val (v := .int .u64 0) (xr_assign rfl rfl) rfl rfl rfl ?_
  refine ol_val (v := .int .i64 t1) (xr_assign rfl rfl) rfl rfl rfl ?_
  refine ol_nil ?_
  refine cw_ret ?_
  repeat (first | with_reducible refine thn_r ?_ | with_reducible refine blk_r ?_)
  obtain rfl := Option.some.inj h
  refine fin_ret2 Try.results82 rfl rfl ?_
  exact ⟨_, rfl, rfl, fB⟩
 refine cw_condF rfl c5 ?_
 refine cw_skip ?_
 refine cw_seq ?_
 refine cw_region ?_
 refine ol_val (v := (pt G_0 0)) (xr_move rfl rfl) rfl rfl rfl ?_
 refine ol_val (v := (pt G_0 0)) (xr_nilCheck rfl rfl) rfl rfl rfl ?_
 refine ol_val (v := (pt G_0 0)) (xr_fieldAddr (p := 0) (q := 0) rfl fl139_0 rfl) rfl rfl rfl ?_
 refine ol_val (v := V0_0) (xr_load1 (v := V0_0) rfl ag135 rfl (b_0.seg 0 rfl rfl)) rfl rfl rfl ?_
 refine ol_val (v := .int .i64 a1) (xr_move rfl rfl) rfl rfl rfl ?_
 obtain ⟨g6, h⟩ := gs h
 refine ol_val (v := (pt ((sb V0_0)) (so V0_0 + Int.toNat a1 * 4))) (xr_indexR (K := k_pmem_cell) (v := V0_0) rfl Try.underlying135 sz142 rfl (R0_0.gr fB) rfl g6.1 g6.2) rfl rfl rfl ?_
 refine ol_val (v := (pt ((sb V0_0)) (so V0_0 + Int.toNat a1 * 4 + 1))) (xr_fieldAddr (p := so V0_0 + Int.toNat a1 * 4) (q := 1) rfl fl142_1 rfl) rfl rfl rfl ?_
 refine ol_val (v := .int .u64 ((ix a0.cells a1).stored)) (xr_load1 (v := .int .u64 ((ix a0.cells a1).stored)) rfl ag22 rfl (At.segs (ss := segs_pmem_cell (ix a0.cells a1)) ((R0_0.gr fB).elem g6.1 g6.2) 1 1 rfl)) rfl rfl rfl ?_
 refine ol_val (v := .int .u64 ((ix a0.cells a1).stored)) (xr_assign rfl rfl) rfl rfl rfl ?_
 refine ol_val (v := .int .i64 0) (xr_assign rfl rfl) rfl rfl rfl ?_
 refine ol_nil ?_
 refine cw_ret ?_
 repeat (first | with_reducible refine thn_r ?_ | with_reducible refine blk_r ?_)
 obtain rfl := Option.some.inj h
 refine fin_ret2 Try.results82 rfl rfl ?_
 exact ⟨_, rfl, rfl, fB⟩
def pmem_Device_Lines.f (fu : Nat) (a0 : S_pmem_Device) : Option Int := some ((IntKind.i64.wrap (Int.tdiv (List.length a0.cells : Int) 8)))
theorem pmem_Device_Lines.ok (fu : Nat) (w : World) (a0 : S_pmem_Device) (G_0 : Nat) (V0_0 : Value) (R0_0 : Rd k_pmem_cell w V0_0 a0.cells) (V0_1 : Value) (R0_1 : Rd (kI .i64) w V0_1 a0.plan.list) (b_0 : Blk w G_0 139 [Seg.cell V0_0 R0_0.one, Seg.cell V0_1 R0_1.one, (sI a0.plan.at_), Seg.cell (.bool a0.off), Seg.cell (.bool a0.armed), (sI a0.left), (sI a0.steps)]) (r : Int) (h : pmem_Device_Lines.f fu a0 = some r) :
  Calls Try.prog 43 (([(pt G_0 0)] : List Value).toArray) w (fun e w' => ∃ v, e = .returned v ∧ v = .int .i64 r ∧ Gr w w') := by
 unfold pmem_Device_Lines.f at h
 have fB : Gr w w := Fr.refl _ _
 refine calls_cw Try.func43 rfl Try.ntmps43 rfl ?_
 refine cw_seq ?_
 refine cw_region ?_
 refine ol_val (v := .int .i64 0) (xr_assign rfl rfl) rfl rfl rfl ?_
 refine ol_nil ?_
 refine cw_seq ?_
 refine cw_region ?_
 refine ol_val (v := (pt G_0 0)) (xr_move rfl rfl) rfl rfl rfl ?_
 refine ol_val (v := (pt G_0 0)) (xr_nilCheck rfl rfl) rfl rfl rfl ?_
 refine ol_val (v := (pt G_0 0)) (xr_fieldAddr (p := 0) (q := 0) rfl fl139_0 rfl) rfl rfl rfl ?_
 refine ol_val (v := V0_0) (xr_load1 (v := V0_0) rfl ag135 rfl (b_0.seg 0 rfl rfl)) rfl rfl rfl ?_
 refine ol_val (v := .int .i64 (List.length a0.cells : Int)) (xr_lenR rfl Try.underlying135 rfl (R0_0.gr fB)) rfl rfl rfl ?_
 refine ol_val (v := .int .i64 (IntKind.i64.wrap (Int.tdiv (List.length a0.cells : Int) 8))) (xr_quo rfl rfl rfl (by decide)) rfl rfl rfl ?_
 refine ol_val (v := .int .i64 (IntKind.i64.wrap (Int.tdiv (List.length a0.cells : Int) 8))) (xr_assign rfl rfl) rfl rfl rfl ?_
 refine ol_nil ?_
 refine cw_ret ?_
 repeat (first | with_reducible refine thn_r ?_ | with_reducible refine blk_r ?_)
 obtain rfl := Option.some.inj h
 refine fin_ret1 Try.results43 rfl ?_
 exact ⟨_, rfl, rfl, fB⟩
def press_may.f (fu : Nat) (a0 : S_pmem_Device) (a1 : Int) : Option Int := (((if (decide (a1 < 0)) = true then some (true) else ((pmem_Device_Lines.f fu a0).bind fun t4 => some ((decide (a1 ≥ t4))))) : Option Bool).bind fun x1 => (if x1 = true then some (2) else some (0)))
theorem press_may.ok (fu : Nat) (w : World) (a0 : S_pmem_Device) (G_0 : Nat) (V0_0 : Value) (R0_0 : Rd k_pmem_cell w V0_0 a0.cells) (V0_1 : Value) (R0_1 : Rd (kI .i64) w V0_1 a0.plan.list) (b_0 : Blk w G_0 139 [Seg.cell V0_0 R0_0.one, Seg.cell V0_1 R0_1.one, (sI a0.plan.at_), Seg.cell (.bool a0.off), Seg.cell (.bool a0.armed), (sI a0.left), (sI a0.steps)]) (a1 : Int) (r : Int) (h : press_may.f fu a0 a1 = some r) :
  Calls Try.prog 102 (([(pt G_0 0), .int .i64 a1] : List Value).toArray) w (fun e w' => ∃ v, e = .returned v ∧ v = .int .i64 r ∧ Gr w w') := by
 unfold press_may.f at h
 have fB : Gr w w := Fr.refl _ _
 refine calls_cw Try.func102 rfl Try.ntmps102 rfl ?_
 refine cw_seq ?_
 refine cw_region ?_
 refine ol_val (v := .int .i64 0) (xr_assign rfl rfl) rfl rfl rfl ?_
 refine ol_nil ?_
 refine cw_seq ?_
 refine cw_block ?_
 refine cw_seq ?_
 refine cw_region ?_
 refine ol_val (v := (pt G_0 0)) (xr_move rfl rfl) rfl rfl rfl ?_
 refine ol_val (v := .bool false) (xr_eqP (b := false) rfl Try.underlying30 rfl rfl (by simp) (by simp)) rfl rfl rfl ?_
 refine ol_val (v := .bool false) (xr_assign rfl rfl) rfl rfl rfl ?_
 refine ol_nil ?_
 refine cw_condF rfl rfl ?_
 refine cw_seq ?_
 obtain ⟨x1, j2, h⟩ := bs h
 refine cw_mid (fun ρ' w' => ρ' 8 = .bool x1 ∧ Gr w w') ?_ ?_
 ·skip
  refine cw_region ?_
  refine ol_val (v := .int .i64 a1) (xr_move rfl rfl) rfl rfl rfl ?_
  refine ol_val (v := .bool (decide (a1 < 0))) (xr_lss rfl rfl rfl) rfl rfl rfl ?_
  refine ol_val (v := .bool (decide (a1 < 0))) (xr_move rfl rfl) rfl rfl rfl ?_
  rcases is j2 with ⟨c3, j2⟩ | ⟨c3, j2⟩
  ·skip
   refine ol_gskip rfl rfl rfl rfl rfl c3 ?_
   refine ol_gskip rfl rfl rfl rfl rfl c3 ?_
   refine ol_gskip rfl rfl rfl rfl rfl c3 ?_
   refine ol_gskip rfl rfl rfl rfl rfl c3 ?_
   refine ol_val (v := .bool true) (xr_pickT rfl rfl c3 rfl) rfl rfl rfl ?_
   refine ol_val (v := .bool true) (xr_assign rfl rfl) rfl rfl rfl ?_
   refine ol_nil ?_
   obtain rfl := Option.some.inj j2
   refine thn_i ?_
   exact ⟨rfl, Fr.refl _ _⟩
  refine ol_gval (v := .int .i64 a1) (xr_move rfl rfl) rfl rfl rfl rfl rfl c3 ?_
  refine ol_gval (v := (pt G_0 0)) (xr_move rfl rfl) rfl rfl rfl rfl rfl c3 ?_
  obtain ⟨t4, k5, j2⟩ := bs j2
  refine ol_gop (opv_call rfl cal43 (ac rfl an) (pmem_Device_Lines.ok fu _ a0 G_0 V0_0 (R0_0.gr fB) V0_1 (R0_1.gr fB) b_0 _ k5)) rfl rfl rfl rfl rfl c3 ?_
  rintro _ w7 ⟨rfl, q6⟩
  have b_0 := b_0.gr q6
  have fB := fB.gr q6
  refine ol_gval (v := .bool (decide (a1 ≥ t4))) (xr_geq rfl rfl rfl) rfl rfl rfl rfl rfl c3 ?_
  refine ol_val (v := .bool (decide (a1 ≥ t4))) (xr_pickF rfl rfl c3 rfl) rfl rfl rfl ?_
  refine ol_val (v := .bool (decide (a1 ≥ t4))) (xr_assign rfl rfl) rfl rfl rfl ?_
  refine ol_nil ?_
  obtain rfl := Option.some.inj j2
  refine thn_i ?_
  exact ⟨rfl, q6⟩
 rintro ρ8 w9 ⟨e8, q10⟩
 have b_0 := b_0.gr q10
 have fB := fB.gr q10
 rcases is h with ⟨c11, h⟩ | ⟨c11, h⟩
 ·refine cw_condT e8 c11 ?_
  refine cw_seq ?_
  refine cw_region ?_
  refine ol_val (v := .int .i64 2) (xr_assign rfl rfl) rfl rfl rfl ?_
  refine ol_nil ?_
  refine cw_ret ?_
  repeat (first | with_reducible refine thn_r ?_ | with_reducible refine blk_r ?_)
  obtain rfl := Option.some.inj h
  refine fin_ret1 Try.results102 rfl ?_
  exact ⟨_, rfl, rfl, fB⟩
 refine cw_condF e8 c11 ?_
 refine cw_skip ?_
 refine blk_i ?_
 refine cw_seq ?_
 refine cw_region ?_
 refine ol_val (v := .int .i64 0) (xr_assign rfl rfl) rfl rfl rfl ?_
 refine ol_nil ?_
 refine cw_ret ?_
 repeat (first | with_reducible refine thn_r ?_ | with_reducible refine blk_r ?_)
 obtain rfl := Option.some.inj h
 refine fin_ret1 Try.results102 rfl ?_
 exact ⟨_, rfl, rfl, fB⟩
def octet_Lay.s0 (fu : Nat) (a1 : Int) : (Int × Int × (List Int)) → Option (Sum (List Int) (Int × Int × (List Int))) := fun s14 => (if (decide (s14.2.1 < (List.length (List.replicate (Int.toNat a1) (0 : Int)) : Int))) = true then (if 0 ≤ s14.2.1 ∧ s14.2.1 < (List.length s14.2.2 : Int) then some (Sum.inr ((shR .u64 s14.1 8), (IntKind.i64.wrap (s14.2.1 + 1)), (List.set s14.2.2 (Int.toNat s14.2.1) (IntKind.u8.wrap s14.1)))) else none) else some (Sum.inl (s14.2.2)))
def octet_Lay.f (fu : Nat) (a0 : Int) (a1 : Int) : Option (List Int) := (if (if (decide (a1 < 0)) = true then true else (decide (a1 > 8))) = true then some ([]) else (if 0 ≤ a1 ∧ Int.toNat a1 ≤ LIM then ((loopM (octet_Lay.s0 fu a1) fu (a0, 0, (List.replicate (Int.toNat a1) (0 : Int)))).bind fun e15 => some (e15)) else none))
theorem octet_Lay.ok (fu : Nat) (w : World) (a0 : Int) (a1 : Int) (r : (List Int)) (h : octet_Lay.f fu a0 a1 = some r) :
  Calls Try.prog 128 (([.int .u64 a0, .int .i64 a1] : List Value).toArray) w (fun e w' => ∃ v, e = .returned v ∧ ∃ u1 : Value, ∃ o2 : Own (kI .u8) 5 w' w.heap.size u1 r, v = u1 ∧ Gr w w') := by
 unfold octet_Lay.f at h
 have fB : Gr w w := Fr.refl _ _
 refine calls_cw Try.func128 rfl Try.ntmps128 rfl ?_
 refine cw_seq ?_
 refine cw_region ?_
 refine ol_val (v := .slice none 0 0) (xr_assign rfl rfl) rfl rfl rfl ?_
 refine ol_nil ?_
 refine cw_seq ?_
 refine cw_seq ?_
 refine cw_mid (fun ρ' w' => ρ' 0 = .int .u64 a0 ∧ ρ' 1 = .int .i64 a1 ∧ ρ' 12 = .bool (if (decide (a1 < 0)) = true then true else (decide (a1 > 8))) ∧ w = w') ?_ ?_
 ·skip
  refine cw_region ?_
  refine ol_val (v := .int .i64 a1) (xr_move rfl rfl) rfl rfl rfl ?_
  refine ol_val (v := .bool (decide (a1 < 0))) (xr_lss rfl rfl rfl) rfl rfl rfl ?_
  refine ol_val (v := .bool (decide (a1 < 0))) (xr_move rfl rfl) rfl rfl rfl ?_
  rcases bt (decide (a1 < 0)) with c4 | c4
  ·skip
   refine ol_gskip rfl rfl rfl rfl rfl c4 ?_
   refine ol_gskip rfl rfl rfl rfl rfl c4 ?_
   refine ol_val (v := .bool true) (xr_pickT rfl rfl c4 rfl) rfl rfl rfl ?_
   refine ol_nil ?_
   refine thn_i ?_
   exact ⟨rfl, rfl, (rfl).trans (congrArg (fun z => (.bool z : Value)) (show true = (if (decide (a1 < 0)) = true then true else (decide (a1 > 8))) from by rw [ite_t c4])), rfl⟩
  refine ol_gval (v := .int .i64 a1) (xr_move rfl rfl) rfl rfl rfl rfl rfl c4 ?_
  refine ol_gval (v := .bool (decide (a1 > 8))) (xr_gtr rfl rfl rfl) rfl rfl rfl rfl rfl c4 ?_
  refine ol_val (v := .bool (decide (a1 > 8))) (xr_pickF rfl rfl c4 rfl) rfl rfl rfl ?_
  refine ol_nil ?_
  refine thn_i ?_
  exact ⟨rfl, rfl, (rfl).trans (congrArg (fun z => (.bool z : Value)) (show (decide (a1 > 8)) = (if (decide (a1 < 0)) = true then true else (decide (a1 > 8))) from by rw [ite_f c4])), rfl⟩
 rintro ρ5 _ ⟨e0, e1, e12, rfl⟩
 rcases is h with ⟨c6, h⟩ | ⟨c6, h⟩
 ·refine cw_condT e12 c6 ?_
  refine cw_seq ?_
  refine cw_region ?_
  refine ol_val (v := .slice none 0 0) (xr_assign rfl rfl) rfl rfl rfl ?_
  refine ol_nil ?_
  refine cw_ret ?_
  repeat (first | with_reducible refine thn_r ?_ | with_reducible refine blk_r ?_)
  obtain rfl := Option.some.inj h
  refine fin_ret1 Try.results128 rfl ?_
  exact ⟨_, rfl, (.slice none 0 0), Own.nil _ _ _ _, rfl, fB⟩
 refine cw_condF e12 c6 ?_
 refine cw_skip ?_
 refine cw_seq ?_
 refine cw_region ?_
 refine ol_val (v := .int .i64 a1) (xr_move rfl e1) rfl rfl rfl ?_
 obtain ⟨g7, h⟩ := gs h
 refine ol_op (opv_make (K := (kI .u8)) (z := (0 : Int)) rfl Try.underlying43 el5 rfl rfl rfl g7.1 g7.2 rfl fB.size) rfl rfl rfl ?_
 rintro v8 w13 ⟨o10, q9, z11⟩
 have fB := fB.gr q9
 refine ol_val (v := v8) (xr_assign rfl rfl) rfl rfl rfl ?_
 refine ol_nil ?_
 refine cw_seq ?_
 refine cw_seq ?_
 refine cw_region ?_
 refine ol_val (v := v8) (xr_move rfl rfl) rfl rfl rfl ?_
 refine ol_val (v := .int .i64 (List.length (List.replicate (Int.toNat a1) (0 : Int)) : Int)) (xr_lenR rfl Try.underlying43 rfl o10.rd) rfl rfl rfl ?_
 refine ol_val (v := .int .i64 0) (xr_move rfl rfl) rfl rfl rfl ?_
 refine ol_nil ?_
 obtain ⟨e15, l16, h17⟩ := bs h
 refine cw_mid (fun ρ' w' => ∃ o10 : Own (kI .u8) 5 w' w.heap.size v8 e15, ρ' 5 = v8 ∧ Gr w w') ?_ ?_
 ·refine cw_block ?_
  refine cw_round (fun (s14 : Int × Int × (List Int)) ρ' w' => ∃ o10 : Own (kI .u8) 5 w' w.heap.size v8 s14.2.2, ρ' 0 = .int .u64 s14.1 ∧ ρ' 5 = v8 ∧ ρ' 16 = .int .i64 (List.length (List.replicate (Int.toNat a1) (0 : Int)) : Int) ∧ ρ' 17 = .int .i64 s14.2.1 ∧ Gr w w') l16 ?_ ?_
  ·skip
   exact ⟨o10, e0, rfl, rfl, rfl, fB⟩
  rintro s14 x20 ρ18 w19 ⟨o10, e0, e5, e16, e17, fB⟩ h
  unfold octet_Lay.s0 at h
  refine cw_seq ?_
  refine cw_region ?_
  refine ol_val (v := .bool (decide (s14.2.1 < (List.length (List.replicate (Int.toNat a1) (0 : Int)) : Int)))) (xr_lss rfl e17 e16) rfl rfl rfl ?_
  refine ol_nil ?_
  refine cw_seq ?_
  rcases is h with ⟨c21, h⟩ | ⟨c21, h⟩
  ·refine cw_condT rfl c21 ?_
   refine cw_skip ?_
   refine cw_seq ?_
   refine cw_block ?_
   refine cw_seq ?_
   refine cw_region ?_
   refine ol_val (v := .int .i64 s14.2.1) (xr_move rfl e17) rfl rfl rfl ?_
   refine ol_val (v := .int .i64 s14.2.1) (xr_assign rfl rfl) rfl rfl rfl ?_
   refine ol_nil ?_
   refine cw_seq ?_
   refine cw_region ?_
   refine ol_val (v := v8) (xr_move rfl e5) rfl rfl rfl ?_
   refine ol_val (v := .int .i64 s14.2.1) (xr_move rfl rfl) rfl rfl rfl ?_
   refine ol_val (v := .int .u64 s14.1) (xr_move rfl e0) rfl rfl rfl ?_
   refine ol_val (v := .int .u8 (IntKind.u8.wrap s14.1)) (xr_conv rfl Try.underlying22 Try.underlying5 rfl) rfl rfl rfl ?_
   obtain ⟨g22, h⟩ := gs h
   refine ol_val (v := (pt ((sb v8)) (so v8 + Int.toNat s14.2.1 * 1))) (xr_indexR (K := (kI .u8)) (v := v8) rfl Try.underlying43 sz5 rfl o10.rd rfl g22.1 g22.2) rfl rfl rfl ?_
   have f24 := o10.geO
   refine ol_op0 (opv_storeRow (z := (IntKind.u8.wrap s14.1)) (xs := cellsOf [Seg.cell (.int .u8 (IntKind.u8.wrap s14.1))]) rfl sz5 rfl rfl rfl (len_cellsOf _) (one_cellsOf _) o10 g22.1 g22.2 (Spl.whole ((Kd.len _ _).trans (Kd.len _ _).symm)) rfl) rfl rfl ?_
   rintro _ w25 ⟨o10, q23⟩
   have fB := fB.wrO q23 f24
   refine ol_nil ?_
   refine cw_region ?_
   refine ol_val (v := .int .u64 s14.1) (xr_move rfl e0) rfl rfl rfl ?_
   refine ol_val (v := .int .u64 (shR .u64 s14.1 8)) (xr_shr rfl rfl rfl (by decide)) rfl rfl rfl ?_
   refine ol_val (v := .int .u64 (shR .u64 s14.1 8)) (xr_assign rfl rfl) rfl rfl rfl ?_
   refine ol_nil ?_
   refine blk_i ?_
   refine cw_region ?_
   refine ol_val (v := .int .i64 (IntKind.i64.wrap (s14.2.1 + 1))) (xr_add rfl e17 rfl) rfl rfl rfl ?_
   refine ol_val (v := .int .i64 (IntKind.i64.wrap (s14.2.1 + 1))) (xr_move rfl rfl) rfl rfl rfl ?_
   refine ol_nil ?_
   obtain rfl := Option.some.inj h
   refine lp_in ?_
   exact ⟨o10, rfl, e5, e16, rfl, fB⟩
  refine cw_condF rfl c21 ?_
  refine cw_exit ?_
  repeat (first | with_reducible refine thn_e ?_ | with_reducible refine blk_e rfl ?_)
  obtain rfl := Option.some.inj h
  refine lp_exit ?_
  rintro rfl
  refine thn_x ?_
  exact ⟨o10, e5, fB⟩
 rintro ρ26 w27 ⟨o10, e5, fB⟩
 have h := h17
 refine cw_seq ?_
 refine cw_region ?_
 refine ol_val (v := v8) (xr_move rfl e5) rfl rfl rfl ?_
 refine ol_val (v := v8) (xr_assign rfl rfl) rfl rfl rfl ?_
 refine ol_nil ?_
 refine cw_ret ?_
 repeat (first | with_reducible refine thn_r ?_ | with_reducible refine blk_r ?_)
 obtain rfl := Option.some.inj h
 refine fin_ret1 Try.results128 rfl ?_
 exact ⟨_, rfl, v8, o10, rfl, fB⟩
def octet_Octets.s0 (fu : Nat) (a0 : List Int) : ((List Int) × Int) → Option (Sum (List Int) ((List Int) × Int)) := fun s4 => (if (decide (s4.2 < (List.length a0 : Int))) = true then (if 0 ≤ s4.2 ∧ s4.2 < (List.length a0 : Int) then ((octet_Lay.f fu (ix a0 s4.2) 8).bind fun t19 => (if List.length s4.1 + List.length t19 ≤ LIM then some (Sum.inr ((s4.1 ++ t19), (IntKind.i64.wrap (s4.2 + 1)))) else none)) else none) else some (Sum.inl (s4.1)))
def octet_Octets.f (fu : Nat) (a0 : List Int) : Option (List Int) := ((loopM (octet_Octets.s0 fu a0) fu ([], 0)).bind fun e5 => some (e5))
theorem octet_Octets.ok (fu : Nat) (w : World) (a0 : List Int) (V0_0 : Value) (R0_0 : Rd (kI .u64) w V0_0 a0) (r : (List Int)) (h : octet_Octets.f fu a0 = some r) :
  Calls Try.prog 104 (([V0_0] : List Value).toArray) w (fun e w' => ∃ v, e = .returned v ∧ ∃ u1 : Value, ∃ o2 : Own (kI .u8) 5 w' w.heap.size u1 r, v = u1 ∧ Gr w w') := by
 unfold octet_Octets.f at h
 have fB : Gr w w := Fr.refl _ _
 refine calls_cw Try.func104 rfl Try.ntmps104 rfl ?_
 refine cw_seq ?_
 refine cw_region ?_
 refine ol_val (v := .slice none 0 0) (xr_assign rfl rfl) rfl rfl rfl ?_
 refine ol_nil ?_
 refine cw_seq ?_
 refine cw_region ?_
 refine ol_val (v := .slice none 0 0) (xr_assign rfl rfl) rfl rfl rfl ?_
 refine ol_nil ?_
 refine cw_seq ?_
 refine cw_seq ?_
 refine cw_region ?_
 refine ol_val (v := V0_0) (xr_move rfl rfl) rfl rfl rfl ?_
 refine ol_val (v := .int .i64 (List.length a0 : Int)) (xr_lenR rfl Try.underlying46 rfl (R0_0.gr fB)) rfl rfl rfl ?_
 refine ol_val (v := .int .i64 0) (xr_move rfl rfl) rfl rfl rfl ?_
 refine ol_nil ?_
 obtain ⟨e5, l6, h7⟩ := bs h
 refine cw_mid (fun ρ' w' => ∃ v8 : Value, ∃ o9 : Own (kI .u8) 5 w' w.heap.size v8 e5, ρ' 3 = v8 ∧ Gr w w') ?_ ?_
 ·refine cw_block ?_
  refine cw_round (fun (s4 : (List Int) × Int) ρ' w' => ∃ v11 : Value, ∃ o12 : Own (kI .u8) 5 w' w.heap.size v11 s4.1, ρ' 3 = v11 ∧ ρ' 6 = V0_0 ∧ ρ' 7 = .int .i64 (List.length a0 : Int) ∧ ρ' 8 = .int .i64 s4.2 ∧ Gr w w') l6 ?_ ?_
  ·skip
   exact ⟨(.slice none 0 0), Own.nil _ _ _ _, rfl, rfl, rfl, rfl, fB⟩
  rintro s4 x16 ρ14 w15 ⟨v11, o12, e3, e6, e7, e8, fB⟩ h
  unfold octet_Octets.s0 at h
  refine cw_seq ?_
  refine cw_region ?_
  refine ol_val (v := .bool (decide (s4.2 < (List.length a0 : Int)))) (xr_lss rfl e8 e7) rfl rfl rfl ?_
  refine ol_nil ?_
  refine cw_seq ?_
  rcases is h with ⟨c17, h⟩ | ⟨c17, h⟩
  ·refine cw_condT rfl c17 ?_
   refine cw_skip ?_
   refine cw_seq ?_
   refine cw_block ?_
   refine cw_seq ?_
   refine cw_region ?_
   obtain ⟨g18, h⟩ := gs h
   refine ol_val (v := (pt ((sb V0_0)) (so V0_0 + Int.toNat s4.2 * 1))) (xr_indexR (K := (kI .u64)) (v := V0_0) rfl Try.underlying46 sz22 e6 (R0_0.gr fB) e8 g18.1 g18.2) rfl rfl rfl ?_
   refine ol_val (v := .int .u64 (ix a0 s4.2)) (xr_load1 (v := .int .u64 (ix a0 s4.2)) rfl ag22 rfl ((R0_0.gr fB).elem g18.1 g18.2)) rfl rfl rfl ?_
   refine ol_val (v := .int .u64 (ix a0 s4.2)) (xr_assign rfl rfl) rfl rfl rfl ?_
   refine ol_nil ?_
   refine cw_region ?_
   refine ol_val (v := v11) (xr_move rfl e3) rfl rfl rfl ?_
   refine ol_val (v := .int .u64 (ix a0 s4.2)) (xr_move rfl rfl) rfl rfl rfl ?_
   obtain ⟨t19, k20, h⟩ := bs h
   refine ol_op (opv_call rfl cal128 (ac rfl (ac rfl an)) (octet_Lay.ok fu _ (ix a0 s4.2) 8 _ k20)) rfl rfl rfl ?_
   rintro u21 w25 ⟨_, o22, rfl, q24⟩
   have a26 := OffV.call o12 o22
   have o22 := Own.base o22 fB.size
   have o12 := o12.gr q24
   have fB := fB.gr q24
   obtain ⟨g31, h⟩ := gs h
   have f33 := o12.geO
   refine ol_op (opv_append (K := (kI .u8)) rfl Try.underlying43 el5 rfl rfl rfl rfl rfl o12 o22.rd g31 fB.size) rfl rfl rfl ?_
   rintro v27 w34 ⟨o28, q29, n30⟩
   have fB := fB.wrO q29 f33
   refine ol_val (v := v27) (xr_assign rfl rfl) rfl rfl rfl ?_
   refine ol_nil ?_
   refine blk_i ?_
   refine cw_region ?_
   refine ol_val (v := .int .i64 (IntKind.i64.wrap (s4.2 + 1))) (xr_add rfl e8 rfl) rfl rfl rfl ?_
   refine ol_val (v := .int .i64 (IntKind.i64.wrap (s4.2 + 1))) (xr_move rfl rfl) rfl rfl rfl ?_
   refine ol_nil ?_
   obtain rfl := Option.some.inj h
   refine lp_in ?_
   exact ⟨v27, o28, rfl, e6, e7, rfl, fB⟩
  refine cw_condF rfl c17 ?_
  refine cw_exit ?_
  repeat (first | with_reducible refine thn_e ?_ | with_reducible refine blk_e rfl ?_)
  obtain rfl := Option.some.inj h
  refine lp_exit ?_
  rintro rfl
  refine thn_x ?_
  exact ⟨v11, o12, e3, fB⟩
 rintro ρ35 w36 ⟨v8, o9, e3, fB⟩
 have h := h7
 refine cw_seq ?_
 refine cw_region ?_
 refine ol_val (v := v8) (xr_move rfl e3) rfl rfl rfl ?_
 refine ol_val (v := v8) (xr_assign rfl rfl) rfl rfl rfl ?_
 refine ol_nil ?_
 refine cw_ret ?_
 repeat (first | with_reducible refine thn_r ?_ | with_reducible refine blk_r ?_)
 obtain rfl := Option.some.inj h
 refine fin_ret1 Try.results104 rfl ?_
 exact ⟨_, rfl, v8, o9, rfl, fB⟩
def press_Read.s0 (fu : Nat) (a0 : S_pmem_Device) (a1 : Int) : (Int × (Arr 8 Int)) → Option (Sum (Sum ((List Int) × Int) (Arr 8 Int)) (Int × (Arr 8 Int))) := fun s16 => (if (decide (s16.1 < 8)) = true then ((pmem_Device_Load.f fu a0 (IntKind.i64.wrap ((IntKind.i64.wrap (a1 * 8)) + s16.1))).bind fun t25 => (if (!decide (t25.2 = 0)) = true then some (Sum.inl (Sum.inl ([], t25.2))) else (if 0 ≤ s16.1 ∧ s16.1 < 8 then some (Sum.inr ((IntKind.i64.wrap (s16.1 + 1)), (Arr.set s16.2 s16.1 t25.1))) else none))) else some (Sum.inl (Sum.inr (s16.2))))
def press_Read.f (fu : Nat) (a0 : S_pmem_Device) (a1 : Int) : Option ((List Int) × Int) := ((press_may.f fu a0 a1).bind fun t4 => (if (!decide (t4 = 0)) = true then some ([], t4) else ((loopM (press_Read.s0 fu a0 a1) fu (0, (Arr.rep 8 (0 : Int)))).bind fun e17 => match e17 with | Sum.inl p => some p | Sum.inr x20 => ((octet_Octets.f fu (Arr.l x20)).bind fun t35 => some (t35, 0)))))
theorem press_Read.ok (fu : Nat) (w : World) (a0 : S_pmem_Device) (G_0 : Nat) (V0_0 : Value) (R0_0 : Rd k_pmem_cell w V0_0 a0.cells) (V0_1 : Value) (R0_1 : Rd (kI .i64) w V0_1 a0.plan.list) (b_0 : Blk w G_0 139 [Seg.cell V0_0 R0_0.one, Seg.cell V0_1 R0_1.one, (sI a0.plan.at_), Seg.cell (.bool a0.off), Seg.cell (.bool a0.armed), (sI a0.left), (sI a0.steps)]) (a1 : Int) (r : (List Int) × Int) (h : press_Read.f fu a0 a1 = some r) :
  Calls Try.prog 55 (([(pt G_0 0), .int .i64 a1] : List Value).toArray) w (fun e w' => ∃ v, e = .returned v ∧ ∃ u1 : Value, ∃ o2 : Own (kI .u8) 5 w' w.heap.size u1 r.1, v = .tuple #[u1, .int .i64 r.2] ∧ Gr w w') := by
 unfold press_Read.f at h
 have fB : Gr w w := Fr.refl _ _
 refine calls_cw Try.func55 rfl Try.ntmps55 rfl ?_
 refine cw_seq ?_
 refine cw_region ?_
 refine ol_val (v := .slice none 0 0) (xr_assign rfl rfl) rfl rfl rfl ?_
 refine ol_val (v := .int .i64 0) (xr_assign rfl rfl) rfl rfl rfl ?_
 refine ol_nil ?_
 refine cw_seq ?_
 refine cw_seq ?_
 refine cw_region ?_
 refine ol_val (v := (pt G_0 0)) (xr_move rfl rfl) rfl rfl rfl ?_
 refine ol_val (v := .int .i64 a1) (xr_move rfl rfl) rfl rfl rfl ?_
 obtain ⟨t4, k5, h⟩ := bs h
 refine ol_op (opv_call rfl cal102 (ac rfl (ac rfl an)) (press_may.ok fu _ a0 G_0 V0_0 (R0_0.gr fB) V0_1 (R0_1.gr fB) b_0 a1 _ k5)) rfl rfl rfl ?_
 rintro _ w7 ⟨rfl, q6⟩
 have b_0 := b_0.gr q6
 have fB := fB.gr q6
 refine ol_val (v := .int .i64 t4) (xr_assign rfl rfl) rfl rfl rfl ?_
 refine ol_nil ?_
 refine cw_seq ?_
 refine cw_region ?_
 refine ol_val (v := .int .i64 t4) (xr_move rfl rfl) rfl rfl rfl ?_
 refine ol_val (v := .bool (!decide (t4 = 0))) (xr_neI rfl Try.underlying31 rfl rfl rfl) rfl rfl rfl ?_
 refine ol_nil ?_
 rcases is h with ⟨c8, h⟩ | ⟨c8, h⟩
 ·refine cw_condT rfl c8 ?_
  refine cw_seq ?_
  refine cw_region ?_
  refine ol_val (v := .int .i64 t4) (xr_move rfl rfl) rfl rfl rfl ?_
  refine ol_val (v := .slice none 0 0) (xr_assign rfl rfl) rfl rfl rfl ?_
  refine ol_val (v := .int .i64 t4) (xr_assign rfl rfl) rfl rfl rfl ?_
  refine ol_nil ?_
  refine cw_ret ?_
  repeat (first | with_reducible refine thn_r ?_ | with_reducible refine blk_r ?_)
  obtain rfl := Option.some.inj h
  refine fin_ret2 Try.results55 rfl rfl ?_
  exact ⟨_, rfl, (.slice none 0 0), Own.nil _ _ _ _, rfl, fB⟩
 refine cw_condF rfl c8 ?_
 refine cw_skip ?_
 refine cw_seq ?_
 refine cw_region ?_
 refine ol_op (opv_alloc (ss := [Kd.seg (kA 8 (kI .u64)) (Arr.rep 8 (0 : Int))]) rfl ze23 rfl) rfl rfl rfl ?_
 rintro _ w14 ⟨G9, rfl, b10, q11, z12⟩
 have n15 := b_0.ne z12
 have z12 := Nat.le_trans fB.size z12
 have b_0 := b_0.gr q11
 have fB := fB.gr q11
 refine ol_nil ?_
 refine cw_seq ?_
 refine cw_seq ?_
 refine cw_region ?_
 refine ol_val (v := .int .i64 0) (xr_move rfl rfl) rfl rfl rfl ?_
 refine ol_nil ?_
 obtain ⟨e17, l18, h19⟩ := bs h
 refine cw_mid (fun ρ' w' => ∃ x20, e17 = Sum.inr x20 ∧ ρ' 7 = (pt G9 0) ∧ Blk w' G_0 139 [Seg.cell V0_0 R0_0.one, Seg.cell V0_1 R0_1.one, (sI a0.plan.at_), Seg.cell (.bool a0.off), Seg.cell (.bool a0.armed), (sI a0.left), (sI a0.steps)] ∧ Blk w' G9 23 [Kd.seg (kA 8 (kI .u64)) x20] ∧ Gr w w') ?_ ?_
 ·refine cw_block ?_
  refine cw_round (fun (s16 : Int × (Arr 8 Int)) ρ' w' => ρ' 0 = (pt G_0 0) ∧ ρ' 1 = .int .i64 a1 ∧ ρ' 7 = (pt G9 0) ∧ ρ' 17 = .int .i64 s16.1 ∧ Blk w' G_0 139 [Seg.cell V0_0 R0_0.one, Seg.cell V0_1 R0_1.one, (sI a0.plan.at_), Seg.cell (.bool a0.off), Seg.cell (.bool a0.armed), (sI a0.left), (sI a0.steps)] ∧ Blk w' G9 23 [Kd.seg (kA 8 (kI .u64)) s16.2] ∧ Gr w w') l18 ?_ ?_
  ·skip
   exact ⟨rfl, rfl, rfl, rfl, b_0, b10, fB⟩
  rintro s16 x23 ρ21 w22 ⟨e0, e1, e7, e17, b_0, b10, fB⟩ h
  unfold press_Read.s0 at h
  refine cw_seq ?_
  refine cw_region ?_
  refine ol_val (v := .bool (decide (s16.1 < 8))) (xr_lss rfl e17 rfl) rfl rfl rfl ?_
  refine ol_nil ?_
  refine cw_seq ?_
  rcases is h with ⟨c24, h⟩ | ⟨c24, h⟩
  ·refine cw_condT rfl c24 ?_
   refine cw_skip ?_
   refine cw_seq ?_
   refine cw_block ?_
   refine cw_seq ?_
   refine cw_region ?_
   refine ol_val (v := .int .i64 s16.1) (xr_move rfl e17) rfl rfl rfl ?_
   refine ol_val (v := .int .i64 s16.1) (xr_assign rfl rfl) rfl rfl rfl ?_
   refine ol_nil ?_
   refine cw_seq ?_
   refine cw_region ?_
   refine ol_val (v := (pt G_0 0)) (xr_move rfl e0) rfl rfl rfl ?_
   refine ol_val (v := .int .i64 a1) (xr_move rfl e1) rfl rfl rfl ?_
   refine ol_val (v := .int .i64 (IntKind.i64.wrap (a1 * 8))) (xr_mul rfl rfl rfl) rfl rfl rfl ?_
   refine ol_val (v := .int .i64 s16.1) (xr_move rfl rfl) rfl rfl rfl ?_
   refine ol_val (v := .int .i64 (IntKind.i64.wrap ((IntKind.i64.wrap (a1 * 8)) + s16.1))) (xr_add rfl rfl rfl) rfl rfl rfl ?_
   obtain ⟨t25, k26, h⟩ := bs h
   refine ol_op (opv_call rfl cal82 (ac rfl (ac rfl an)) (pmem_Device_Load.ok fu _ a0 G_0 V0_0 (R0_0.gr fB) V0_1 (R0_1.gr fB) b_0 (IntKind.i64.wrap ((IntKind.i64.wrap (a1 * 8)) + s16.1)) _ k26)) rfl rfl rfl ?_
   rintro _ w28 ⟨rfl, q27⟩
   have b_0 := b_0.gr q27
   have b10 := b10.gr q27
   have fB := fB.gr q27
   refine ol_val (v := .tuple #[.int .u64 t25.1, .int .i64 t25.2]) (xr_move rfl rfl) rfl rfl rfl ?_
   refine ol_val (v := .int .u64 t25.1) (xr_extract rfl rfl rfl) rfl rfl rfl ?_
   refine ol_val (v := .int .i64 t25.2) (xr_extract rfl rfl rfl) rfl rfl rfl ?_
   refine ol_val (v := .int .u64 t25.1) (xr_assign rfl rfl) rfl rfl rfl ?_
   refine ol_val (v := .int .i64 t25.2) (xr_assign rfl rfl) rfl rfl rfl ?_
   refine ol_nil ?_
   refine cw_seq ?_
   refine cw_seq ?_
   refine cw_region ?_
   refine ol_val (v := .int .i64 t25.2) (xr_move rfl rfl) rfl rfl rfl ?_
   refine ol_val (v := .bool (!decide (t25.2 = 0))) (xr_neI rfl Try.underlying31 rfl rfl rfl) rfl rfl rfl ?_
   refine ol_nil ?_
   rcases is h with ⟨c29, h⟩ | ⟨c29, h⟩
   ·refine cw_condT rfl c29 ?_
    refine cw_seq ?_
    refine cw_region ?_
    refine ol_val (v := .int .i64 t25.2) (xr_move rfl rfl) rfl rfl rfl ?_
    refine ol_val (v := .slice none 0 0) (xr_assign rfl rfl) rfl rfl rfl ?_
    refine ol_val (v := .int .i64 t25.2) (xr_assign rfl rfl) rfl rfl rfl ?_
    refine ol_nil ?_
    refine cw_ret ?_
    repeat (first | with_reducible refine thn_r ?_ | with_reducible refine blk_r ?_)
    obtain rfl := Option.some.inj h
    refine lp_ret ?_
    rintro rfl
    repeat (first | with_reducible refine thn_r ?_ | with_reducible refine blk_r ?_)
    have h := h19
    obtain rfl := Option.some.inj h
    refine fin_ret2 Try.results55 rfl rfl ?_
    exact ⟨_, rfl, (.slice none 0 0), Own.nil _ _ _ _, rfl, fB⟩
   refine cw_condF rfl c29 ?_
   refine cw_skip ?_
   refine cw_region ?_
   refine ol_val (v := .int .i64 s16.1) (xr_move rfl rfl) rfl rfl rfl ?_
   refine ol_val (v := .int .u64 t25.1) (xr_move rfl rfl) rfl rfl rfl ?_
   obtain ⟨g30, h⟩ := gs h
   refine ol_val (v := (pt G9 (0 + Int.toNat s16.1 * 1))) (xr_indexA (p := 0) (s := 1) rfl Try.underlying23 sz22 e7 rfl g30.1 g30.2) rfl rfl rfl ?_
   refine ol_op0 (opv_store (ss' := [Kd.seg (kA 8 (kI .u64)) (Arr.set s16.2 s16.1 t25.1)]) (xs := cellsOf [Seg.cell (.int .u64 t25.1)]) rfl sz22 rfl rfl rfl (len_cellsOf _) (one_cellsOf _) b10 (Spl.seg_in _ 0 (Kd.seg (kA 8 (kI .u64)) (Arr.set s16.2 s16.1 t25.1)) rfl rfl (Spl.arr s16.2 s16.1 t25.1 g30.1 g30.2 (Spl.whole ((Kd.len _ _).trans (Kd.len _ _).symm))))) rfl rfl ?_
   rintro _ w32 ⟨b10, q31⟩
   have b_0 := b_0.wr q31 n15
   have fB := fB.wr q31 z12
   refine ol_nil ?_
   refine blk_i ?_
   refine cw_region ?_
   refine ol_val (v := .int .i64 (IntKind.i64.wrap (s16.1 + 1))) (xr_add rfl e17 rfl) rfl rfl rfl ?_
   refine ol_val (v := .int .i64 (IntKind.i64.wrap (s16.1 + 1))) (xr_move rfl rfl) rfl rfl rfl ?_
   refine ol_nil ?_
   obtain rfl := Option.some.inj h
   refine lp_in ?_
   exact ⟨e0, e1, e7, rfl, b_0, b10, fB⟩
  refine cw_condF rfl c24 ?_
  refine cw_exit ?_
  repeat (first | with_reducible refine thn_e ?_ | with_reducible refine blk_e rfl ?_)
  obtain rfl := Option.some.inj h
  refine lp_exit ?_
  rintro rfl
  refine thn_x ?_
  exact ⟨_, rfl, e7, b_0, b10, fB⟩
 rintro ρ33 w34 ⟨x20, rfl, e7, b_0, b10, fB⟩
 have h := h19
 refine cw_seq ?_
 refine cw_region ?_
 refine ol_val (v := .slice (some ⟨G9, 0, none⟩) 8 8) (xr_sliceArr rfl Try.underlying23 sz22 e7) rfl rfl rfl ?_
 obtain ⟨t35, k36, h⟩ := bs h
 refine ol_op (opv_call rfl cal104 (ac rfl an) (octet_Octets.ok fu _ (Arr.l x20) (.slice (some ⟨G9, 0, none⟩) 8 8) (Rd.arr (b10.seg 0 rfl rfl)) _ k36)) rfl rfl rfl ?_
 rintro u37 w41 ⟨_, o38, rfl, q40⟩
 have o38 := Own.base o38 fB.size
 have b_0 := b_0.gr q40
 have fB := fB.gr q40
 refine ol_val (v := u37) (xr_assign rfl rfl) rfl rfl rfl ?_
 refine ol_val (v := .int .i64 0) (xr_assign rfl rfl) rfl rfl rfl ?_
 refine ol_nil ?_
 refine cw_ret ?_
 repeat (first | with_reducible refine thn_r ?_ | with_reducible refine blk_r ?_)
 obtain rfl := Option.some.inj h
 refine fin_ret2 Try.results55 rfl rfl ?_
 exact ⟨_, rfl, u37, o38, rfl, fB⟩
def octet_Read.s0 (fu : Nat) (a0 : List Int) : (Int × Int) → Option (Sum Int (Int × Int)) := fun s3 => (if (decide (s3.2 < (List.length (cut a0 0 (mnI (List.length a0 : Int) 8)) : Int))) = true then (if 0 ≤ s3.2 ∧ s3.2 < (List.length (cut a0 0 (mnI (List.length a0 : Int) 8)) : Int) then (if 0 ≤ (IntKind.i64.wrap (8 * s3.2)) then some (Sum.inr ((bOr .u64 s3.1 (shL .u64 (IntKind.u64.wrap (ix (cut a0 0 (mnI (List.length a0 : Int) 8)) s3.2)) (IntKind.i64.wrap (8 * s3.2)))), (IntKind.i64.wrap (s3.2 + 1)))) else none) else none) else some (Sum.inl (s3.1)))
def octet_Read.f (fu : Nat) (a0 : List Int) : Option Int := (if 0 ≤ (mnI (List.length a0 : Int) 8) ∧ (mnI (List.length a0 : Int) 8) ≤ (List.length a0 : Int) then ((loopM (octet_Read.s0 fu a0) fu (0, 0)).bind fun e4 => some (e4)) else none)
theorem octet_Read.ok (fu : Nat) (w : World) (a0 : List Int) (V0_0 : Value) (R0_0 : Rd (kI .u8) w V0_0 a0) (r : Int) (h : octet_Read.f fu a0 = some r) :
  Calls Try.prog 109 (([V0_0] : List Value).toArray) w (fun e w' => ∃ v, e = .returned v ∧ v = .int .u64 r ∧ Gr w w') := by
 unfold octet_Read.f at h
 have fB : Gr w w := Fr.refl _ _
 refine calls_cw Try.func109 rfl Try.ntmps109 rfl ?_
 refine cw_seq ?_
 refine cw_region ?_
 refine ol_val (v := .int .u64 0) (xr_assign rfl rfl) rfl rfl rfl ?_
 refine ol_nil ?_
 refine cw_seq ?_
 refine cw_region ?_
 refine ol_val (v := .int .u64 0) (xr_assign rfl rfl) rfl rfl rfl ?_
 refine ol_nil ?_
 refine cw_seq ?_
 refine cw_seq ?_
 refine cw_region ?_
 refine ol_val (v := V0_0) (xr_move rfl rfl) rfl rfl rfl ?_
 refine ol_val (v := V0_0) (xr_move rfl rfl) rfl rfl rfl ?_
 refine ol_val (v := .int .i64 (List.length a0 : Int)) (xr_lenR rfl Try.underlying43 rfl (R0_0.gr fB)) rfl rfl rfl ?_
 refine ol_val (v := .int .i64 (mnI (List.length a0 : Int) 8)) (xr_min2 rfl rfl rfl) rfl rfl rfl ?_
 obtain ⟨g2, h⟩ := gs h
 refine ol_val (v := subv 1 V0_0 0 (Int.toNat (mnI (List.length a0 : Int) 8))) (xr_slice_h (K := (kI .u8)) (v := V0_0) rfl Try.underlying43 sz5 rfl (R0_0.gr fB) rfl g2.1 g2.2) rfl rfl rfl ?_
 have r1 : Rd (kI .u8) w (subv 1 V0_0 0 (Int.toNat (mnI (List.length a0 : Int) 8))) (cut a0 0 (mnI (List.length a0 : Int) 8)) := (R0_0.gr fB).cut (lo := 0) (hi := (mnI (List.length a0 : Int) 8)) (by decide) g2.1 g2.2
 refine ol_val (v := .int .i64 (List.length (cut a0 0 (mnI (List.length a0 : Int) 8)) : Int)) (xr_lenR rfl Try.underlying43 rfl r1) rfl rfl rfl ?_
 refine ol_val (v := .int .i64 0) (xr_move rfl rfl) rfl rfl rfl ?_
 refine ol_nil ?_
 obtain ⟨e4, l5, h6⟩ := bs h
 refine cw_mid (fun ρ' w' => ρ' 3 = .int .u64 e4 ∧ Gr w w') ?_ ?_
 ·refine cw_block ?_
  refine cw_round (fun (s3 : Int × Int) ρ' w' => ∃ r1 : Rd (kI .u8) w' (subv 1 V0_0 0 (Int.toNat (mnI (List.length a0 : Int) 8))) (cut a0 0 (mnI (List.length a0 : Int) 8)), ρ' 3 = .int .u64 s3.1 ∧ ρ' 10 = subv 1 V0_0 0 (Int.toNat (mnI (List.length a0 : Int) 8)) ∧ ρ' 11 = .int .i64 (List.length (cut a0 0 (mnI (List.length a0 : Int) 8)) : Int) ∧ ρ' 12 = .int .i64 s3.2 ∧ Gr w w') l5 ?_ ?_
  ·skip
   exact ⟨r1, rfl, rfl, rfl, rfl, fB⟩
  rintro s3 x9 ρ7 w8 ⟨r1, e3, e10, e11, e12, fB⟩ h
  unfold octet_Read.s0 at h
  refine cw_seq ?_
  refine cw_region ?_
  refine ol_val (v := .bool (decide (s3.2 < (List.length (cut a0 0 (mnI (List.length a0 : Int) 8)) : Int)))) (xr_lss rfl e12 e11) rfl rfl rfl ?_
  refine ol_nil ?_
  refine cw_seq ?_
  rcases is h with ⟨c10, h⟩ | ⟨c10, h⟩
  ·refine cw_condT rfl c10 ?_
   refine cw_skip ?_
   refine cw_seq ?_
   refine cw_block ?_
   refine cw_seq ?_
   refine cw_region ?_
   refine ol_val (v := .int .i64 s3.2) (xr_move rfl e12) rfl rfl rfl ?_
   obtain ⟨g11, h⟩ := gs h
   refine ol_val (v := (pt ((sb (subv 1 V0_0 0 (Int.toNat (mnI (List.length a0 : Int) 8))))) (so (subv 1 V0_0 0 (Int.toNat (mnI (List.length a0 : Int) 8))) + Int.toNat s3.2 * 1))) (xr_indexR (K := (kI .u8)) (v := subv 1 V0_0 0 (Int.toNat (mnI (List.length a0 : Int) 8))) rfl Try.underlying43 sz5 e10 r1 e12 g11.1 g11.2) rfl rfl rfl ?_
   refine ol_val (v := .int .u8 (ix (cut a0 0 (mnI (List.length a0 : Int) 8)) s3.2)) (xr_load1 (v := .int .u8 (ix (cut a0 0 (mnI (List.length a0 : Int) 8)) s3.2)) rfl ag5 rfl (r1.elem g11.1 g11.2)) rfl rfl rfl ?_
   refine ol_val (v := .int .i64 s3.2) (xr_assign rfl rfl) rfl rfl rfl ?_
   refine ol_val (v := .int .u8 (ix (cut a0 0 (mnI (List.length a0 : Int) 8)) s3.2)) (xr_assign rfl rfl) rfl rfl rfl ?_
   refine ol_nil ?_
   refine cw_region ?_
   refine ol_val (v := .int .u64 s3.1) (xr_move rfl e3) rfl rfl rfl ?_
   refine ol_val (v := .int .u8 (ix (cut a0 0 (mnI (List.length a0 : Int) 8)) s3.2)) (xr_move rfl rfl) rfl rfl rfl ?_
   refine ol_val (v := .int .u64 (IntKind.u64.wrap (ix (cut a0 0 (mnI (List.length a0 : Int) 8)) s3.2))) (xr_conv rfl Try.underlying5 Try.underlying22 rfl) rfl rfl rfl ?_
   refine ol_val (v := .int .i64 s3.2) (xr_move rfl rfl) rfl rfl rfl ?_
   refine ol_val (v := .int .i64 (IntKind.i64.wrap (8 * s3.2))) (xr_mul rfl rfl rfl) rfl rfl rfl ?_
   obtain ⟨g12, h⟩ := gs h
   refine ol_val (v := .int .u64 (shL .u64 (IntKind.u64.wrap (ix (cut a0 0 (mnI (List.length a0 : Int) 8)) s3.2)) (IntKind.i64.wrap (8 * s3.2)))) (xr_shl rfl rfl rfl g12) rfl rfl rfl ?_
   refine ol_val (v := .int .u64 (bOr .u64 s3.1 (shL .u64 (IntKind.u64.wrap (ix (cut a0 0 (mnI (List.length a0 : Int) 8)) s3.2)) (IntKind.i64.wrap (8 * s3.2))))) (xr_or rfl rfl rfl) rfl rfl rfl ?_
   refine ol_val (v := .int .u64 (bOr .u64 s3.1 (shL .u64 (IntKind.u64.wrap (ix (cut a0 0 (mnI (List.length a0 : Int) 8)) s3.2)) (IntKind.i64.wrap (8 * s3.2))))) (xr_assign rfl rfl) rfl rfl rfl ?_
   refine ol_nil ?_
   refine blk_i ?_
   refine cw_region ?_
   refine ol_val (v := .int .i64 (IntKind.i64.wrap (s3.2 + 1))) (xr_add rfl e12 rfl) rfl rfl rfl ?_
   refine ol_val (v := .int .i64 (IntKind.i64.wrap (s3.2 + 1))) (xr_move rfl rfl) rfl rfl rfl ?_
   refine ol_nil ?_
   obtain rfl := Option.some.inj h
   refine lp_in ?_
   exact ⟨r1, rfl, e10, e11, rfl, fB⟩
  refine cw_condF rfl c10 ?_
  refine cw_exit ?_
  repeat (first | with_reducible refine thn_e ?_ | with_reducible refine blk_e rfl ?_)
  obtain rfl := Option.some.inj h
  refine lp_exit ?_
  rintro rfl
  refine thn_x ?_
  exact ⟨e3, fB⟩
 rintro ρ13 w14 ⟨e3, fB⟩
 have h := h6
 refine cw_seq ?_
 refine cw_region ?_
 refine ol_val (v := .int .u64 e4) (xr_move rfl e3) rfl rfl rfl ?_
 refine ol_val (v := .int .u64 e4) (xr_assign rfl rfl) rfl rfl rfl ?_
 refine ol_nil ?_
 refine cw_ret ?_
 repeat (first | with_reducible refine thn_r ?_ | with_reducible refine blk_r ?_)
 obtain rfl := Option.some.inj h
 refine fin_ret1 Try.results109 rfl ?_
 exact ⟨_, rfl, rfl, fB⟩
def octet_there.f (fu : Nat) (a0 : List Int) (a1 : Int) (a2 : Int) : Option Bool := some ((if (decide (a1 ≥ 0)) = true then (if (decide (a2 ≥ 0)) = true then (if (decide (a2 ≤ (List.length a0 : Int))) = true then (decide (a1 ≤ (IntKind.i64.wrap ((List.length a0 : Int) - a2)))) else false) else false) else false))
theorem octet_there.ok (fu : Nat) (w : World) (a0 : List Int) (V0_0 : Value) (R0_0 : Rd (kI .u8) w V0_0 a0) (a1 : Int) (a2 : Int) (r : Bool) (h : octet_there.f fu a0 a1 a2 = some r) :
  Calls Try.prog 147 (([V0_0, .int .i64 a1, .int .i64 a2] : List Value).toArray) w (fun e w' => ∃ v, e = .returned v ∧ v = .bool r ∧ Gr w w') := by
 unfold octet_there.f at h
 have fB : Gr w w := Fr.refl _ _
 refine calls_cw Try.func147 rfl Try.ntmps147 rfl ?_
 refine cw_seq ?_
 refine cw_region ?_
 refine ol_val (v := .bool false) (xr_assign rfl rfl) rfl rfl rfl ?_
 refine ol_nil ?_
 refine cw_seq ?_
 refine cw_mid (fun ρ' w' => ρ' 6 = .bool (if (decide (a1 ≥ 0)) = true then (if (decide (a2 ≥ 0)) = true then (if (decide (a2 ≤ (List.length a0 : Int))) = true then (decide (a1 ≤ (IntKind.i64.wrap ((List.length a0 : Int) - a2)))) else false) else false) else false) ∧ w = w') ?_ ?_
 ·skip
  refine cw_region ?_
  refine ol_val (v := .int .i64 a1) (xr_move rfl rfl) rfl rfl rfl ?_
  refine ol_val (v := .bool (decide (a1 ≥ 0))) (xr_geq rfl rfl rfl) rfl rfl rfl ?_
  refine ol_val (v := .bool (decide (a1 ≥ 0))) (xr_move rfl rfl) rfl rfl rfl ?_
  rcases bt (decide (a1 ≥ 0)) with c1 | c1
  ·skip
   refine ol_gval (v := .int .i64 a2) (xr_move rfl rfl) rfl rfl rfl rfl rfl c1 ?_
   refine ol_gval (v := .bool (decide (a2 ≥ 0))) (xr_geq rfl rfl rfl) rfl rfl rfl rfl rfl c1 ?_
   refine ol_val (v := .bool (decide (a2 ≥ 0))) (xr_pickT rfl rfl c1 rfl) rfl rfl rfl ?_
   refine ol_val (v := .bool (decide (a2 ≥ 0))) (xr_move rfl rfl) rfl rfl rfl ?_
   rcases bt (decide (a2 ≥ 0)) with c2 | c2
   ·skip
    refine ol_gval (v := .int .i64 a2) (xr_move rfl rfl) rfl rfl rfl rfl rfl c2 ?_
    refine ol_gval (v := V0_0) (xr_move rfl rfl) rfl rfl rfl rfl rfl c2 ?_
    refine ol_gval (v := .int .i64 (List.length a0 : Int)) (xr_lenR rfl Try.underlying43 rfl (R0_0.gr fB)) rfl rfl rfl rfl rfl c2 ?_
    refine ol_gval (v := .bool (decide (a2 ≤ (List.length a0 : Int)))) (xr_leq rfl rfl rfl) rfl rfl rfl rfl rfl c2 ?_
    refine ol_val (v := .bool (decide (a2 ≤ (List.length a0 : Int)))) (xr_pickT rfl rfl c2 rfl) rfl rfl rfl ?_
    refine ol_val (v := .bool (decide (a2 ≤ (List.length a0 : Int)))) (xr_move rfl rfl) rfl rfl rfl ?_
    rcases bt (decide (a2 ≤ (List.length a0 : Int))) with c3 | c3
    ·skip
     refine ol_gval (v := .int .i64 a1) (xr_move rfl rfl) rfl rfl rfl rfl rfl c3 ?_
     refine ol_gval (v := V0_0) (xr_move rfl rfl) rfl rfl rfl rfl rfl c3 ?_
     refine ol_gval (v := .int .i64 (List.length a0 : Int)) (xr_lenR rfl Try.underlying43 rfl (R0_0.gr fB)) rfl rfl rfl rfl rfl c3 ?_
     refine ol_gval (v := .int .i64 a2) (xr_move rfl rfl) rfl rfl rfl rfl rfl c3 ?_
     refine ol_gval (v := .int .i64 (IntKind.i64.wrap ((List.length a0 : Int) - a2))) (xr_sub rfl rfl rfl) rfl rfl rfl rfl rfl c3 ?_
     refine ol_gval (v := .bool (decide (a1 ≤ (IntKind.i64.wrap ((List.length a0 : Int) - a2))))) (xr_leq rfl rfl rfl) rfl rfl rfl rfl rfl c3 ?_
     refine ol_val (v := .bool (decide (a1 ≤ (IntKind.i64.wrap ((List.length a0 : Int) - a2))))) (xr_pickT rfl rfl c3 rfl) rfl rfl rfl ?_
     refine ol_val (v := .bool (decide (a1 ≤ (IntKind.i64.wrap ((List.length a0 : Int) - a2))))) (xr_assign rfl rfl) rfl rfl rfl ?_
     refine ol_nil ?_
     refine thn_i ?_
     exact ⟨(rfl).trans (congrArg (fun z => (.bool z : Value)) (show (decide (a1 ≤ (IntKind.i64.wrap ((List.length a0 : Int) - a2)))) = (if (decide (a1 ≥ 0)) = true then (if (decide (a2 ≥ 0)) = true then (if (decide (a2 ≤ (List.length a0 : Int))) = true then (decide (a1 ≤ (IntKind.i64.wrap ((List.length a0 : Int) - a2)))) else false) else false) else false) from by rw [ite_t c1, ite_t c2, ite_t c3])), rfl⟩
    refine ol_gskip rfl rfl rfl rfl rfl c3 ?_
    refine ol_gskip rfl rfl rfl rfl rfl c3 ?_
    refine ol_gskip rfl rfl rfl rfl rfl c3 ?_
    refine ol_gskip rfl rfl rfl rfl rfl c3 ?_
    refine ol_gskip rfl rfl rfl rfl rfl c3 ?_
    refine ol_gskip rfl rfl rfl rfl rfl c3 ?_
    refine ol_val (v := .bool false) (xr_pickF rfl rfl c3 rfl) rfl rfl rfl ?_
    refine ol_val (v := .bool false) (xr_assign rfl rfl) rfl rfl rfl ?_
    refine ol_nil ?_
    refine thn_i ?_
    exact ⟨(rfl).trans (congrArg (fun z => (.bool z : Value)) (show false = (if (decide (a1 ≥ 0)) = true then (if (decide (a2 ≥ 0)) = true then (if (decide (a2 ≤ (List.length a0 : Int))) = true then (decide (a1 ≤ (IntKind.i64.wrap ((List.length a0 : Int) - a2)))) else false) else false) else false) from by rw [ite_t c1, ite_t c2, ite_f c3])), rfl⟩
   refine ol_gskip rfl rfl rfl rfl rfl c2 ?_
   refine ol_gskip rfl rfl rfl rfl rfl c2 ?_
   refine ol_gskip rfl rfl rfl rfl rfl c2 ?_
   refine ol_gskip rfl rfl rfl rfl rfl c2 ?_
   refine ol_val (v := .bool false) (xr_pickF rfl rfl c2 rfl) rfl rfl rfl ?_
   refine ol_val (v := .bool false) (xr_move rfl rfl) rfl rfl rfl ?_
   refine ol_gskip rfl rfl rfl rfl rfl rfl ?_
   refine ol_gskip rfl rfl rfl rfl rfl rfl ?_
   refine ol_gskip rfl rfl rfl rfl rfl rfl ?_
   refine ol_gskip rfl rfl rfl rfl rfl rfl ?_
   refine ol_gskip rfl rfl rfl rfl rfl rfl ?_
   refine ol_gskip rfl rfl rfl rfl rfl rfl ?_
   refine ol_val (v := .bool false) (xr_pickF rfl rfl rfl rfl) rfl rfl rfl ?_
   refine ol_val (v := .bool false) (xr_assign rfl rfl) rfl rfl rfl ?_
   refine ol_nil ?_
   refine thn_i ?_
   exact ⟨(rfl).trans (congrArg (fun z => (.bool z : Value)) (show false = (if (decide (a1 ≥ 0)) = true then (if (decide (a2 ≥ 0)) = true then (if (decide (a2 ≤ (List.length a0 : Int))) = true then (decide (a1 ≤ (IntKind.i64.wrap ((List.length a0 : Int) - a2)))) else false) else false) else false) from by rw [ite_t c1, ite_f c2])), rfl⟩
  refine ol_gskip rfl rfl rfl rfl rfl c1 ?_
  refine ol_gskip rfl rfl rfl rfl rfl c1 ?_
  refine ol_val (v := .bool false) (xr_pickF rfl rfl c1 rfl) rfl rfl rfl ?_
  refine ol_val (v := .bool false) (xr_move rfl rfl) rfl rfl rfl ?_
  refine ol_gskip rfl rfl rfl rfl rfl rfl ?_
  refine ol_gskip rfl rfl rfl rfl rfl rfl ?_
  refine ol_gskip rfl rfl rfl rfl rfl rfl ?_
  refine ol_gskip rfl rfl rfl rfl rfl rfl ?_
  refine ol_val (v := .bool false) (xr_pickF rfl rfl rfl rfl) rfl rfl rfl ?_
  refine ol_val (v := .bool false) (xr_move rfl rfl) rfl rfl rfl ?_
  refine ol_gskip rfl rfl rfl rfl rfl rfl ?_
  refine ol_gskip rfl rfl rfl rfl rfl rfl ?_
  refine ol_gskip rfl rfl rfl rfl rfl rfl ?_
  refine ol_gskip rfl rfl rfl rfl rfl rfl ?_
  refine ol_gskip rfl rfl rfl rfl rfl rfl ?_
  refine ol_gskip rfl rfl rfl rfl rfl rfl ?_
  refine ol_val (v := .bool false) (xr_pickF rfl rfl rfl rfl) rfl rfl rfl ?_
  refine ol_val (v := .bool false) (xr_assign rfl rfl) rfl rfl rfl ?_
  refine ol_nil ?_
  refine thn_i ?_
  exact ⟨(rfl).trans (congrArg (fun z => (.bool z : Value)) (show false = (if (decide (a1 ≥ 0)) = true then (if (decide (a2 ≥ 0)) = true then (if (decide (a2 ≤ (List.length a0 : Int))) = true then (decide (a1 ≤ (IntKind.i64.wrap ((List.length a0 : Int) - a2)))) else false) else false) else false) from by rw [ite_f c1])), rfl⟩
 rintro ρ4 _ ⟨e6, rfl⟩
 refine cw_ret ?_
 repeat (first | with_reducible refine thn_r ?_ | with_reducible refine blk_r ?_)
 obtain rfl := Option.some.inj h
 refine fin_ret1 Try.results147 e6 ?_
 exact ⟨_, rfl, rfl, fB⟩
def octet_Noughts.s0 (fu : Nat) (a0 : List Int) (a1 : Int) (a2 : Int) : Int → Option (Sum (Sum Bool Unit) Int) := fun s8 => (if (decide (s8 < (List.length (cut a0 a1 (IntKind.i64.wrap (a1 + a2))) : Int))) = true then (if 0 ≤ s8 ∧ s8 < (List.length (cut a0 a1 (IntKind.i64.wrap (a1 + a2))) : Int) then (if (!decide ((ix (cut a0 a1 (IntKind.i64.wrap (a1 + a2))) s8) = 0)) = true then some (Sum.inl (Sum.inl (false))) else some (Sum.inr ((IntKind.i64.wrap (s8 + 1))))) else none) else some (Sum.inl (Sum.inr ())))
def octet_Noughts.f (fu : Nat) (a0 : List Int) (a1 : Int) (a2 : Int) : Option Bool := ((octet_there.f fu a0 a1 a2).bind fun t1 => (if (!t1) = true then some (false) else (if (0 : Int) ≤ a1 ∧ a1 ≤ (IntKind.i64.wrap (a1 + a2)) ∧ (IntKind.i64.wrap (a1 + a2)) ≤ (List.length a0 : Int) then ((loopM (octet_Noughts.s0 fu a0 a1 a2) fu (0)).bind fun e9 => match e9 with | Sum.inl p => some p | Sum.inr x12 => some (true)) else none)))
theorem octet_Noughts.ok (fu : Nat) (w : World) (a0 : List Int) (V0_0 : Value) (R0_0 : Rd (kI .u8) w V0_0 a0) (a1 : Int) (a2 : Int) (r : Bool) (h : octet_Noughts.f fu a0 a1 a2 = some r) :
  Calls Try.prog 133 (([V0_0, .int .i64 a1, .int .i64 a2] : List Value).toArray) w (fun e w' => ∃ v, e = .returned v ∧ v = .bool r ∧ Gr w w') := by
 unfold octet_Noughts.f at h
 have fB : Gr w w := Fr.refl _ _
 refine calls_cw Try.func133 rfl Try.ntmps133 rfl ?_
 refine cw_seq ?_
 refine cw_region ?_
 refine ol_val (v := .bool false) (xr_assign rfl rfl) rfl rfl rfl ?_
 refine ol_nil ?_
 refine cw_seq ?_
 refine cw_seq ?_
 refine cw_region ?_
 refine ol_val (v := V0_0) (xr_move rfl rfl) rfl rfl rfl ?_
 refine ol_val (v := .int .i64 a1) (xr_move rfl rfl) rfl rfl rfl ?_
 refine ol_val (v := .int .i64 a2) (xr_move rfl rfl) rfl rfl rfl ?_
 obtain ⟨t1, k2, h⟩ := bs h
 refine ol_op (opv_call rfl cal147 (ac rfl (ac rfl (ac rfl an))) (octet_there.ok fu _ a0 V0_0 (R0_0.gr fB) a1 a2 _ k2)) rfl rfl rfl ?_
 rintro _ w4 ⟨rfl, q3⟩
 have fB := fB.gr q3
 refine ol_val (v := .bool (!t1)) (xr_not rfl rfl) rfl rfl rfl ?_
 refine ol_nil ?_
 rcases is h with ⟨c5, h⟩ | ⟨c5, h⟩
 ·refine cw_condT rfl c5 ?_
  refine cw_seq ?_
  refine cw_region ?_
  refine ol_val (v := .bool false) (xr_assign rfl rfl) rfl rfl rfl ?_
  refine ol_nil ?_
  refine cw_ret ?_
  repeat (first | with_reducible refine thn_r ?_ | with_reducible refine blk_r ?_)
  obtain rfl := Option.some.inj h
  refine fin_ret1 Try.results133 rfl ?_
  exact ⟨_, rfl, rfl, fB⟩
 refine cw_condF rfl c5 ?_
 refine cw_skip ?_
 refine cw_seq ?_
 refine cw_seq ?_
 refine cw_region ?_
 refine ol_val (v := V0_0) (xr_move rfl rfl) rfl rfl rfl ?_
 refine ol_val (v := .int .i64 a1) (xr_move rfl rfl) rfl rfl rfl ?_
 refine ol_val (v := .int .i64 a1) (xr_move rfl rfl) rfl rfl rfl ?_
 refine ol_val (v := .int .i64 a2) (xr_move rfl rfl) rfl rfl rfl ?_
 refine ol_val (v := .int .i64 (IntKind.i64.wrap (a1 + a2))) (xr_add rfl rfl rfl) rfl rfl rfl ?_
 obtain ⟨g7, h⟩ := gs h
 refine ol_val (v := subv 1 V0_0 (Int.toNat a1) (Int.toNat (IntKind.i64.wrap (a1 + a2)))) (xr_slice_lh (K := (kI .u8)) (v := V0_0) rfl Try.underlying43 sz5 rfl (R0_0.gr fB) rfl rfl g7.1 g7.2.1 g7.2.2) rfl rfl rfl ?_
 have r6 : Rd (kI .u8) w4 (subv 1 V0_0 (Int.toNat a1) (Int.toNat (IntKind.i64.wrap (a1 + a2)))) (cut a0 a1 (IntKind.i64.wrap (a1 + a2))) := (R0_0.gr fB).cut (lo := a1) (hi := (IntKind.i64.wrap (a1 + a2))) g7.1 g7.2.1 g7.2.2
 refine ol_val (v := .int .i64 (List.length (cut a0 a1 (IntKind.i64.wrap (a1 + a2))) : Int)) (xr_lenR rfl Try.underlying43 rfl r6) rfl rfl rfl ?_
 refine ol_val (v := .int .i64 0) (xr_move rfl rfl) rfl rfl rfl ?_
 refine ol_nil ?_
 obtain ⟨e9, l10, h11⟩ := bs h
 refine cw_mid (fun ρ' w' => ∃ x12, e9 = Sum.inr x12 ∧ Gr w w') ?_ ?_
 ·refine cw_block ?_
  refine cw_round (fun (s8 : Int) ρ' w' => ∃ r6 : Rd (kI .u8) w' (subv 1 V0_0 (Int.toNat a1) (Int.toNat (IntKind.i64.wrap (a1 + a2)))) (cut a0 a1 (IntKind.i64.wrap (a1 + a2))), ρ' 19 = subv 1 V0_0 (Int.toNat a1) (Int.toNat (IntKind.i64.wrap (a1 + a2))) ∧ ρ' 20 = .int .i64 (List.length (cut a0 a1 (IntKind.i64.wrap (a1 + a2))) : Int) ∧ ρ' 21 = .int .i64 s8 ∧ Gr w w') l10 ?_ ?_
  ·skip
   exact ⟨r6, rfl, rfl, rfl, fB⟩
  rintro s8 x15 ρ13 w14 ⟨r6, e19, e20, e21, fB⟩ h
  unfold octet_Noughts.s0 at h
  refine cw_seq ?_
  refine cw_region ?_
  refine ol_val (v := .bool (decide (s8 < (List.length (cut a0 a1 (IntKind.i64.wrap (a1 + a2))) : Int)))) (xr_lss rfl e21 e20) rfl rfl rfl ?_
  refine ol_nil ?_
  refine cw_seq ?_
  rcases is h with ⟨c16, h⟩ | ⟨c16, h⟩
  ·refine cw_condT rfl c16 ?_
   refine cw_skip ?_
   refine cw_seq ?_
   refine cw_block ?_
   refine cw_seq ?_
   refine cw_region ?_
   obtain ⟨g17, h⟩ := gs h
   refine ol_val (v := (pt ((sb (subv 1 V0_0 (Int.toNat a1) (Int.toNat (IntKind.i64.wrap (a1 + a2)))))) (so (subv 1 V0_0 (Int.toNat a1) (Int.toNat (IntKind.i64.wrap (a1 + a2)))) + Int.toNat s8 * 1))) (xr_indexR (K := (kI .u8)) (v := subv 1 V0_0 (Int.toNat a1) (Int.toNat (IntKind.i64.wrap (a1 + a2)))) rfl Try.underlying43 sz5 e19 r6 e21 g17.1 g17.2) rfl rfl rfl ?_
   refine ol_val (v := .int .u8 (ix (cut a0 a1 (IntKind.i64.wrap (a1 + a2))) s8)) (xr_load1 (v := .int .u8 (ix (cut a0 a1 (IntKind.i64.wrap (a1 + a2))) s8)) rfl ag5 rfl (r6.elem g17.1 g17.2)) rfl rfl rfl ?_
   refine ol_val (v := .int .u8 (ix (cut a0 a1 (IntKind.i64.wrap (a1 + a2))) s8)) (xr_assign rfl rfl) rfl rfl rfl ?_
   refine ol_nil ?_
   refine cw_seq ?_
   refine cw_region ?_
   refine ol_val (v := .int .u8 (ix (cut a0 a1 (IntKind.i64.wrap (a1 + a2))) s8)) (xr_move rfl rfl) rfl rfl rfl ?_
   refine ol_val (v := .bool (!decide ((ix (cut a0 a1 (IntKind.i64.wrap (a1 + a2))) s8) = 0))) (xr_neI rfl Try.underlying5 rfl rfl rfl) rfl rfl rfl ?_
   refine ol_nil ?_
   rcases is h with ⟨c18, h⟩ | ⟨c18, h⟩
   ·refine cw_condT rfl c18 ?_
    refine cw_seq ?_
    refine cw_region ?_
    refine ol_val (v := .bool false) (xr_assign rfl rfl) rfl rfl rfl ?_
    refine ol_nil ?_
    refine cw_ret ?_
    repeat (first | with_reducible refine thn_r ?_ | with_reducible refine blk_r ?_)
    obtain rfl := Option.some.inj h
    refine lp_ret ?_
    rintro rfl
    repeat (first | with_reducible refine thn_r ?_ | with_reducible refine blk_r ?_)
    have h := h11
    obtain rfl := Option.some.inj h
    refine fin_ret1 Try.results133 rfl ?_
    exact ⟨_, rfl, rfl, fB⟩
   refine cw_condF rfl c18 ?_
   refine cw_skip ?_
   refine blk_i ?_
   refine cw_region ?_
   refine ol_val (v := .int .i64 (IntKind.i64.wrap (s8 + 1))) (xr_add rfl e21 rfl) rfl rfl rfl ?_
   refine ol_val (v := .int .i64 (IntKind.i64.wrap (s8 + 1))) (xr_move rfl rfl) rfl rfl rfl ?_
   refine ol_nil ?_
   obtain rfl := Option.some.inj h
   refine lp_in ?_
   exact ⟨r6, e19, e20, rfl, fB⟩
  refine cw_condF rfl c16 ?_
  refine cw_exit ?_
  repeat (first | with_reducible refine thn_e ?_ | with_reducible refine blk_e rfl ?_)
  obtain rfl := Option.some.inj h
  refine lp_exit ?_
  rintro rfl
  refine thn_x ?_
  exact ⟨_, rfl, fB⟩
 rintro ρ19 w20 ⟨x12, rfl, fB⟩
 have h := h11
 refine cw_seq ?_
 refine cw_region ?_
 refine ol_val (v := .bool true) (xr_assign rfl rfl) rfl rfl rfl ?_
 refine ol_nil ?_
 refine cw_ret ?_
 repeat (first | with_reducible refine thn_r ?_ | with_reducible refine blk_r ?_)
 obtain rfl := Option.some.inj h
 refine fin_ret1 Try.results133 rfl ?_
 exact ⟨_, rfl, rfl, fB⟩
def crc_step.f (fu : Nat) (a0 : Int) : Option Int := (if (decide ((bAnd .u32 a0 1) = 1)) = true then some ((bXor .u32 (shR .u32 a0 1) 2197175160)) else some ((shR .u32 a0 1)))
theorem crc_step.ok (fu : Nat) (w : World) (a0 : Int) (r : Int) (h : crc_step.f fu a0 = some r) :
  Calls Try.prog 156 (([.int .u32 a0] : List Value).toArray) w (fun e w' => ∃ v, e = .returned v ∧ v = .int .u32 r ∧ Gr w w') := by
 unfold crc_step.f at h
 have fB : Gr w w := Fr.refl _ _
 refine calls_cw Try.func156 rfl Try.ntmps156 rfl ?_
 refine cw_seq ?_
 refine cw_region ?_
 refine ol_val (v := .int .u32 0) (xr_assign rfl rfl) rfl rfl rfl ?_
 refine ol_nil ?_
 refine cw_seq ?_
 refine cw_seq ?_
 refine cw_region ?_
 refine ol_val (v := .int .u32 a0) (xr_move rfl rfl) rfl rfl rfl ?_
 refine ol_val (v := .int .u32 (bAnd .u32 a0 1)) (xr_and rfl rfl rfl) rfl rfl rfl ?_
 refine ol_val (v := .bool (decide ((bAnd .u32 a0 1) = 1))) (xr_eqI rfl Try.underlying191 rfl rfl rfl) rfl rfl rfl ?_
 refine ol_nil ?_
 rcases is h with ⟨c1, h⟩ | ⟨c1, h⟩
 ·refine cw_condT rfl c1 ?_
  refine cw_seq ?_
  refine cw_region ?_
  refine ol_val (v := .int .u32 a0) (xr_move rfl rfl) rfl rfl rfl ?_
  refine ol_val (v := .int .u32 (shR .u32 a0 1)) (xr_shr rfl rfl rfl (by decide)) rfl rfl rfl ?_
  refine ol_val (v := .int .u32 (bXor .u32 (shR .u32 a0 1) 2197175160)) (xr_xor rfl rfl rfl) rfl rfl rfl ?_
  refine ol_val (v := .int .u32 (bXor .u32 (shR .u32 a0 1) 2197175160)) (xr_assign rfl rfl) rfl rfl rfl ?_
  refine ol_nil ?_
  refine cw_ret ?_
  repeat (first | with_reducible refine thn_r ?_ | with_reducible refine blk_r ?_)
  obtain rfl := Option.some.inj h
  refine fin_ret1 Try.results156 rfl ?_
  exact ⟨_, rfl, rfl, fB⟩
 refine cw_condF rfl c1 ?_
 refine cw_skip ?_
 refine cw_seq ?_
 refine cw_region ?_
 refine ol_val (v := .int .u32 a0) (xr_move rfl rfl) rfl rfl rfl ?_
 refine ol_val (v := .int .u32 (shR .u32 a0 1)) (xr_shr rfl rfl rfl (by decide)) rfl rfl rfl ?_
 refine ol_val (v := .int .u32 (shR .u32 a0 1)) (xr_assign rfl rfl) rfl rfl rfl ?_
 refine ol_nil ?_
 refine cw_ret ?_
 repeat (first | with_reducible refine thn_r ?_ | with_reducible refine blk_r ?_)
 obtain rfl := Option.some.inj h
 refine fin_ret1 Try.results156 rfl ?_
 exact ⟨_, rfl, rfl, fB⟩
def crc_Table.s3 (fu : Nat) : (Int × Int) → Option (Sum Int (Int × Int)) := fun s22 => (if (decide (s22.2 < 4)) = true then ((crc_step.f fu s22.1).bind fun t30 => some (Sum.inr (t30, (IntKind.i64.wrap (s22.2 + 1))))) else some (Sum.inl (s22.1)))
def crc_Table.s2 (fu : Nat) : (Int × (Arr 16 Int)) → Option (Sum (Arr 16 Int) (Int × (Arr 16 Int))) := fun s14 => (if (decide (s14.1 < 16)) = true then ((loopM (crc_Table.s3 fu) fu ((IntKind.u32.wrap s14.1), 0)).bind fun e23 => (if 0 ≤ s14.1 ∧ s14.1 < 16 then some (Sum.inr ((IntKind.i64.wrap (s14.1 + 1)), (Arr.set s14.2 s14.1 e23))) else none)) else some (Sum.inl (s14.2)))
def crc_Table.f (fu : Nat) : Option (Arr 16 Int) := ((loopM (crc_Table.s2 fu) fu (0, (Arr.rep 16 (0 : Int)))).bind fun e15 => some (e15))
theorem crc_Table.ok (fu : Nat) (w : World)  (r : (Arr 16 Int)) (h : crc_Table.f fu = some r) :
  Calls Try.prog 154 (([] : List Value).toArray) w (fun e w' => ∃ v, e = .returned v ∧ v = aggV [Kd.seg (kA 16 (kI .u32)) r] ∧ Gr w w') := by
 unfold crc_Table.f at h
 have fB : Gr w w := Fr.refl _ _
 refine calls_cw Try.func154 rfl Try.ntmps154 rfl ?_
 refine cw_seq ?_
 refine cw_region ?_
 refine ol_op (opv_alloc (ss := [Kd.seg (kA 16 (kI .u32)) (Arr.rep 16 (0 : Int))]) rfl ze205 rfl) rfl rfl rfl ?_
 rintro _ w6 ⟨G1, rfl, b2, q3, z4⟩
 have z4 := Nat.le_trans fB.size z4
 have fB := fB.gr q3
 refine ol_nil ?_
 refine cw_seq ?_
 refine cw_region ?_
 refine ol_op (opv_alloc (ss := [Kd.seg (kA 16 (kI .u32)) (Arr.rep 16 (0 : Int))]) rfl ze205 rfl) rfl rfl rfl ?_
 rintro _ w12 ⟨G7, rfl, b8, q9, z10⟩
 have n13 := b2.ne z10
 have z10 := Nat.le_trans fB.size z10
 have b2 := b2.gr q9
 have fB := fB.gr q9
 refine ol_nil ?_
 refine cw_seq ?_
 refine cw_seq ?_
 refine cw_region ?_
 refine ol_val (v := .int .i64 0) (xr_move rfl rfl) rfl rfl rfl ?_
 refine ol_nil ?_
 obtain ⟨e15, l16, h17⟩ := bs h
 refine cw_mid (fun ρ' w' => ρ' 0 = (pt G1 0) ∧ ρ' 1 = (pt G7 0) ∧ Blk w' G1 205 [Kd.seg (kA 16 (kI .u32)) (Arr.rep 16 (0 : Int))] ∧ Blk w' G7 205 [Kd.seg (kA 16 (kI .u32)) e15] ∧ Gr w w') ?_ ?_
 ·refine cw_block ?_
  refine cw_round (fun (s14 : Int × (Arr 16 Int)) ρ' w' => ρ' 0 = (pt G1 0) ∧ ρ' 1 = (pt G7 0) ∧ ρ' 4 = .int .i64 s14.1 ∧ Blk w' G1 205 [Kd.seg (kA 16 (kI .u32)) (Arr.rep 16 (0 : Int))] ∧ Blk w' G7 205 [Kd.seg (kA 16 (kI .u32)) s14.2] ∧ Gr w w') l16 ?_ ?_
  ·skip
   exact ⟨rfl, rfl, rfl, b2, b8, fB⟩
  rintro s14 x20 ρ18 w19 ⟨e0, e1, e4, b2, b8, fB⟩ h
  unfold crc_Table.s2 at h
  refine cw_seq ?_
  refine cw_region ?_
  refine ol_val (v := .bool (decide (s14.1 < 16))) (xr_lss rfl e4 rfl) rfl rfl rfl ?_
  refine ol_nil ?_
  refine cw_seq ?_
  rcases is h with ⟨c21, h⟩ | ⟨c21, h⟩
  ·refine cw_condT rfl c21 ?_
   refine cw_skip ?_
   refine cw_seq ?_
   refine cw_block ?_
   refine cw_seq ?_
   refine cw_region ?_
   refine ol_val (v := .int .i64 s14.1) (xr_move rfl e4) rfl rfl rfl ?_
   refine ol_val (v := .int .i64 s14.1) (xr_assign rfl rfl) rfl rfl rfl ?_
   refine ol_nil ?_
   refine cw_seq ?_
   refine cw_region ?_
   refine ol_val (v := .int .i64 s14.1) (xr_move rfl rfl) rfl rfl rfl ?_
   refine ol_val (v := .int .u32 (IntKind.u32.wrap s14.1)) (xr_conv rfl Try.underlying3 Try.underlying191 rfl) rfl rfl rfl ?_
   refine ol_val (v := .int .u32 (IntKind.u32.wrap s14.1)) (xr_assign rfl rfl) rfl rfl rfl ?_
   refine ol_nil ?_
   refine cw_seq ?_
   refine cw_seq ?_
   refine cw_region ?_
   refine ol_val (v := .int .i64 0) (xr_move rfl rfl) rfl rfl rfl ?_
   refine ol_nil ?_
   obtain ⟨e23, l24, h25⟩ := bs h
   refine cw_mid (fun ρ' w' => ρ' 0 = (pt G1 0) ∧ ρ' 1 = (pt G7 0) ∧ ρ' 2 = .int .i64 s14.1 ∧ ρ' 3 = .int .u32 e23 ∧ ρ' 4 = .int .i64 s14.1 ∧ Blk w' G1 205 [Kd.seg (kA 16 (kI .u32)) (Arr.rep 16 (0 : Int))] ∧ Blk w' G7 205 [Kd.seg (kA 16 (kI .u32)) s14.2] ∧ Gr w w') ?_ ?_
   ·refine cw_block ?_
    refine cw_round (fun (s22 : Int × Int) ρ' w' => ρ' 0 = (pt G1 0) ∧ ρ' 1 = (pt G7 0) ∧ ρ' 2 = .int .i64 s14.1 ∧ ρ' 3 = .int .u32 s22.1 ∧ ρ' 4 = .int .i64 s14.1 ∧ ρ' 9 = .int .i64 s22.2 ∧ Blk w' G1 205 [Kd.seg (kA 16 (kI .u32)) (Arr.rep 16 (0 : Int))] ∧ Blk w' G7 205 [Kd.seg (kA 16 (kI .u32)) s14.2] ∧ Gr w w') l24 ?_ ?_
    ·skip
     exact ⟨e0, e1, rfl, rfl, e4, rfl, b2, b8, fB⟩
    rintro s22 x28 ρ26 w27 ⟨e0, e1, e2, e3, e4, e9, b2, b8, fB⟩ h
    unfold crc_Table.s3 at h
    refine cw_seq ?_
    refine cw_region ?_
    refine ol_val (v := .bool (decide (s22.2 < 4))) (xr_lss rfl e9 rfl) rfl rfl rfl ?_
    refine ol_nil ?_
    refine cw_seq ?_
    rcases is h with ⟨c29, h⟩ | ⟨c29, h⟩
    ·refine cw_condT rfl c29 ?_
     refine cw_skip ?_
     refine cw_seq ?_
     refine cw_block ?_
     refine cw_region ?_
     refine ol_val (v := .int .u32 s22.1) (xr_move rfl e3) rfl rfl rfl ?_
     obtain ⟨t30, k31, h⟩ := bs h
     refine ol_op (opv_call rfl cal156 (ac rfl an) (crc_step.ok fu _ s22.1 _ k31)) rfl rfl rfl ?_
     rintro _ w33 ⟨rfl, q32⟩
     have b2 := b2.gr q32
     have b8 := b8.gr q32
     have fB := fB.gr q32
     refine ol_val (v := .int .u32 t30) (xr_assign rfl rfl) rfl rfl rfl ?_
     refine ol_nil ?_
     refine blk_i ?_
     refine cw_region ?_
     refine ol_val (v := .int .i64 (IntKind.i64.wrap (s22.2 + 1))) (xr_add rfl e9 rfl) rfl rfl rfl ?_
     refine ol_val (v := .int .i64 (IntKind.i64.wrap (s22.2 + 1))) (xr_move rfl rfl) rfl rfl rfl ?_
     refine ol_nil ?_
     obtain rfl := Option.some.inj h
     refine lp_in ?_
     exact ⟨e0, e1, e2, rfl, e4, rfl, b2, b8, fB⟩
    refine cw_condF rfl c29 ?_
    refine cw_exit ?_
    repeat (first | with_reducible refine thn_e ?_ | with_reducible refine blk_e rfl ?_)
    obtain rfl := Option.some.inj h
    refine lp_exit ?_
    rintro rfl
    refine thn_x ?_
    exact ⟨e0, e1, e2, e3, e4, b2, b8, fB⟩
   rintro ρ34 w35 ⟨e0, e1, e2, e3, e4, b2, b8, fB⟩
   have h := h25
   refine cw_region ?_
   refine ol_val (v := .int .i64 s14.1) (xr_move rfl e2) rfl rfl rfl ?_
   refine ol_val (v := .int .u32 e23) (xr_move rfl e3) rfl rfl rfl ?_
   obtain ⟨g36, h⟩ := gs h
   refine ol_val (v := (pt G7 (0 + Int.toNat s14.1 * 1))) (xr_indexA (p := 0) (s := 1) rfl Try.underlying205 sz191 e1 rfl g36.1 g36.2) rfl rfl rfl ?_
   refine ol_op0 (opv_store (ss' := [Kd.seg (kA 16 (kI .u32)) (Arr.set s14.2 s14.1 e23)]) (xs := cellsOf [Seg.cell (.int .u32 e23)]) rfl sz191 rfl rfl rfl (len_cellsOf _) (one_cellsOf _) b8 (Spl.seg_in _ 0 (Kd.seg (kA 16 (kI .u32)) (Arr.set s14.2 s14.1 e23)) rfl rfl (Spl.arr s14.2 s14.1 e23 g36.1 g36.2 (Spl.whole ((Kd.len _ _).trans (Kd.len _ _).symm))))) rfl rfl ?_
   rintro _ w38 ⟨b8, q37⟩
   have b2 := b2.wr q37 n13
   have fB := fB.wr q37 z10
   refine ol_nil ?_
   refine blk_i ?_
   refine cw_region ?_
   refine ol_val (v := .int .i64 (IntKind.i64.wrap (s14.1 + 1))) (xr_add rfl e4 rfl) rfl rfl rfl ?_
   refine ol_val (v := .int .i64 (IntKind.i64.wrap (s14.1 + 1))) (xr_move rfl rfl) rfl rfl rfl ?_
   refine ol_nil ?_
   obtain rfl := Option.some.inj h
   refine lp_in ?_
   exact ⟨e0, e1, rfl, b2, b8, fB⟩
  refine cw_condF rfl c21 ?_
  refine cw_exit ?_
  repeat (first | with_reducible refine thn_e ?_ | with_reducible refine blk_e rfl ?_)
  obtain rfl := Option.some.inj h
  refine lp_exit ?_
  rintro rfl
  refine thn_x ?_
  exact ⟨e0, e1, b2, b8, fB⟩
 rintro ρ39 w40 ⟨e0, e1, b2, b8, fB⟩
 have h := h17
 refine cw_seq ?_
 refine cw_region ?_
 refine ol_val (v := aggV [Kd.seg (kA 16 (kI .u32)) e15]) (xr_loadS (ss := [Kd.seg (kA 16 (kI .u32)) e15]) rfl ag205 sz205 rfl e1 (b8.segs 0 1 rfl)) rfl rfl rfl ?_
 refine ol_op0 (opv_store (ss' := [Kd.seg (kA 16 (kI .u32)) e15]) (xs := cellsOf [Kd.seg (kA 16 (kI .u32)) e15]) rfl sz205 e0 rfl rfl (len_cellsOf _) (one_cellsOf _) b2 (Spl.segs _ 0 1 [Kd.seg (kA 16 (kI .u32)) e15] rfl rfl)) rfl rfl ?_
 rintro _ w42 ⟨b2, q41⟩
 have fB := fB.wr q41 z4
 refine ol_nil ?_
 refine cw_ret ?_
 repeat (first | with_reducible refine thn_r ?_ | with_reducible refine blk_r ?_)
 obtain rfl := Option.some.inj h
 refine fin_cell Try.results154 e0 ag205 sz205 b2 (by rfl) ?_
 exact ⟨_, rfl, rfl, fB⟩
def crc_register.s0 (fu : Nat) (a0 : Arr 16 Int) (a2 : List Int) : (Int × Int) → Option (Sum Int (Int × Int)) := fun s1 => (if (decide (s1.2 < (List.length a2 : Int))) = true then (if 0 ≤ s1.2 ∧ s1.2 < (List.length a2 : Int) then (if 0 ≤ (bAnd .u32 (bXor .u32 s1.1 (IntKind.u32.wrap (ix a2 s1.2))) 15) ∧ (bAnd .u32 (bXor .u32 s1.1 (IntKind.u32.wrap (ix a2 s1.2))) 15) < 16 then (if 0 ≤ (bAnd .u32 (bXor .u32 (shR .u32 (bXor .u32 s1.1 (IntKind.u32.wrap (ix a2 s1.2))) 4) (Arr.get a0 (bAnd .u32 (bXor .u32 s1.1 (IntKind.u32.wrap (ix a2 s1.2))) 15))) 15) ∧ (bAnd .u32 (bXor .u32 (shR .u32 (bXor .u32 s1.1 (IntKind.u32.wrap (ix a2 s1.2))) 4) (Arr.get a0 (bAnd .u32 (bXor .u32 s1.1 (IntKind.u32.wrap (ix a2 s1.2))) 15))) 15) < 16 then some (Sum.inr ((bXor .u32 (shR .u32 (bXor .u32 (shR .u32 (bXor .u32 s1.1 (IntKind.u32.wrap (ix a2 s1.2))) 4) (Arr.get a0 (bAnd .u32 (bXor .u32 s1.1 (IntKind.u32.wrap (ix a2 s1.2))) 15))) 4) (Arr.get a0 (bAnd .u32 (bXor .u32 (shR .u32 (bXor .u32 s1.1 (IntKind.u32.wrap (ix a2 s1.2))) 4) (Arr.get a0 (bAnd .u32 (bXor .u32 s1.1 (IntKind.u32.wrap (ix a2 s1.2))) 15))) 15))), (IntKind.i64.wrap (s1.2 + 1)))) else none) else none) else none) else some (Sum.inl (s1.1)))
def crc_register.f (fu : Nat) (a0 : Arr 16 Int) (a1 : Int) (a2 : List Int) : Option Int := ((loopM (crc_register.s0 fu a0 a2) fu (a1, 0)).bind fun e2 => some (e2))
theorem crc_register.ok (fu : Nat) (w : World) (a0 : Arr 16 Int) (G_0 : Nat) (b_0 : Blk w G_0 205 [Kd.seg (kA 16 (kI .u32)) a0]) (a1 : Int) (a2 : List Int) (V2_0 : Value) (R2_0 : Rd (kI .u8) w V2_0 a2) (r : Int) (h : crc_register.f fu a0 a1 a2 = some r) :
  Calls Try.prog 155 (([(pt G_0 0), .int .u32 a1, V2_0] : List Value).toArray) w (fun e w' => ∃ v, e = .returned v ∧ v = .int .u32 r ∧ Gr w w') := by
 unfold crc_register.f at h
 have fB : Gr w w := Fr.refl _ _
 refine calls_cw Try.func155 rfl Try.ntmps155 rfl ?_
 refine cw_seq ?_
 refine cw_region ?_
 refine ol_val (v := .int .u32 0) (xr_assign rfl rfl) rfl rfl rfl ?_
 refine ol_nil ?_
 refine cw_seq ?_
 refine cw_seq ?_
 refine cw_region ?_
 refine ol_val (v := V2_0) (xr_move rfl rfl) rfl rfl rfl ?_
 refine ol_val (v := .int .i64 (List.length a2 : Int)) (xr_lenR rfl Try.underlying43 rfl (R2_0.gr fB)) rfl rfl rfl ?_
 refine ol_val (v := .int .i64 0) (xr_move rfl rfl) rfl rfl rfl ?_
 refine ol_nil ?_
 obtain ⟨e2, l3, h4⟩ := bs h
 refine cw_mid (fun ρ' w' => ρ' 1 = .int .u32 e2 ∧ Blk w' G_0 205 [Kd.seg (kA 16 (kI .u32)) a0] ∧ Gr w w') ?_ ?_
 ·refine cw_block ?_
  refine cw_round (fun (s1 : Int × Int) ρ' w' => ρ' 0 = (pt G_0 0) ∧ ρ' 1 = .int .u32 s1.1 ∧ ρ' 9 = V2_0 ∧ ρ' 10 = .int .i64 (List.length a2 : Int) ∧ ρ' 11 = .int .i64 s1.2 ∧ Blk w' G_0 205 [Kd.seg (kA 16 (kI .u32)) a0] ∧ Gr w w') l3 ?_ ?_
  ·skip
   exact ⟨rfl, rfl, rfl, rfl, rfl, b_0, fB⟩
  rintro s1 x7 ρ5 w6 ⟨e0, e1, e9, e10, e11, b_0, fB⟩ h
  unfold crc_register.s0 at h
  refine cw_seq ?_
  refine cw_region ?_
  refine ol_val (v := .bool (decide (s1.2 < (List.length a2 : Int)))) (xr_lss rfl e11 e10) rfl rfl rfl ?_
  refine ol_nil ?_
  refine cw_seq ?_
  rcases is h with ⟨c8, h⟩ | ⟨c8, h⟩
  ·refine cw_condT rfl c8 ?_
   refine cw_skip ?_
   refine cw_seq ?_
   refine cw_block ?_
   refine cw_seq ?_
   refine cw_region ?_
   obtain ⟨g9, h⟩ := gs h
   refine ol_val (v := (pt ((sb V2_0)) (so V2_0 + Int.toNat s1.2 * 1))) (xr_indexR (K := (kI .u8)) (v := V2_0) rfl Try.underlying43 sz5 e9 (R2_0.gr fB) e11 g9.1 g9.2) rfl rfl rfl ?_
   refine ol_val (v := .int .u8 (ix a2 s1.2)) (xr_load1 (v := .int .u8 (ix a2 s1.2)) rfl ag5 rfl ((R2_0.gr fB).elem g9.1 g9.2)) rfl rfl rfl ?_
   refine ol_val (v := .int .u8 (ix a2 s1.2)) (xr_assign rfl rfl) rfl rfl rfl ?_
   refine ol_nil ?_
   refine cw_seq ?_
   refine cw_region ?_
   refine ol_val (v := .int .u32 s1.1) (xr_move rfl e1) rfl rfl rfl ?_
   refine ol_val (v := .int .u8 (ix a2 s1.2)) (xr_move rfl rfl) rfl rfl rfl ?_
   refine ol_val (v := .int .u32 (IntKind.u32.wrap (ix a2 s1.2))) (xr_conv rfl Try.underlying5 Try.underlying191 rfl) rfl rfl rfl ?_
   refine ol_val (v := .int .u32 (bXor .u32 s1.1 (IntKind.u32.wrap (ix a2 s1.2)))) (xr_xor rfl rfl rfl) rfl rfl rfl ?_
   refine ol_val (v := .int .u32 (bXor .u32 s1.1 (IntKind.u32.wrap (ix a2 s1.2)))) (xr_assign rfl rfl) rfl rfl rfl ?_
   refine ol_nil ?_
   refine cw_seq ?_
   refine cw_region ?_
   refine ol_val (v := .int .u32 (bXor .u32 s1.1 (IntKind.u32.wrap (ix a2 s1.2)))) (xr_move rfl rfl) rfl rfl rfl ?_
   refine ol_val (v := .int .u32 (shR .u32 (bXor .u32 s1.1 (IntKind.u32.wrap (ix a2 s1.2))) 4)) (xr_shr rfl rfl rfl (by decide)) rfl rfl rfl ?_
   refine ol_val (v := (pt G_0 0)) (xr_move rfl e0) rfl rfl rfl ?_
   refine ol_val (v := .int .u32 (bXor .u32 s1.1 (IntKind.u32.wrap (ix a2 s1.2)))) (xr_move rfl rfl) rfl rfl rfl ?_
   refine ol_val (v := .int .u32 (bAnd .u32 (bXor .u32 s1.1 (IntKind.u32.wrap (ix a2 s1.2))) 15)) (xr_and rfl rfl rfl) rfl rfl rfl ?_
   refine ol_val (v := (pt G_0 0)) (xr_nilCheck rfl rfl) rfl rfl rfl ?_
   obtain ⟨g10, h⟩ := gs h
   refine ol_val (v := (pt G_0 (0 + Int.toNat (bAnd .u32 (bXor .u32 s1.1 (IntKind.u32.wrap (ix a2 s1.2))) 15) * 1))) (xr_indexA (p := 0) (s := 1) rfl Try.underlying205 sz191 rfl rfl g10.1 g10.2) rfl rfl rfl ?_
   refine ol_val (v := .int .u32 (Arr.get a0 (bAnd .u32 (bXor .u32 s1.1 (IntKind.u32.wrap (ix a2 s1.2))) 15))) (xr_load1 (v := .int .u32 (Arr.get a0 (bAnd .u32 (bXor .u32 s1.1 (IntKind.u32.wrap (ix a2 s1.2))) 15))) rfl ag191 rfl (At.arr (a := a0) (b_0.seg 0 rfl rfl) g10.1 g10.2)) rfl rfl rfl ?_
   refine ol_val (v := .int .u32 (bXor .u32 (shR .u32 (bXor .u32 s1.1 (IntKind.u32.wrap (ix a2 s1.2))) 4) (Arr.get a0 (bAnd .u32 (bXor .u32 s1.1 (IntKind.u32.wrap (ix a2 s1.2))) 15)))) (xr_xor rfl rfl rfl) rfl rfl rfl ?_
   refine ol_val (v := .int .u32 (bXor .u32 (shR .u32 (bXor .u32 s1.1 (IntKind.u32.wrap (ix a2 s1.2))) 4) (Arr.get a0 (bAnd .u32 (bXor .u32 s1.1 (IntKind.u32.wrap (ix a2 s1.2))) 15)))) (xr_assign rfl rfl) rfl rfl rfl ?_
   refine ol_nil ?_
   refine cw_region ?_
   refine ol_val (v := .int .u32 (bXor .u32 (shR .u32 (bXor .u32 s1.1 (IntKind.u32.wrap (ix a2 s1.2))) 4) (Arr.get a0 (bAnd .u32 (bXor .u32 s1.1 (IntKind.u32.wrap (ix a2 s1.2))) 15)))) (xr_move rfl rfl) rfl rfl rfl ?_
   refine ol_val (v := .int .u32 (shR .u32 (bXor .u32 (shR .u32 (bXor .u32 s1.1 (IntKind.u32.wrap (ix a2 s1.2))) 4) (Arr.get a0 (bAnd .u32 (bXor .u32 s1.1 (IntKind.u32.wrap (ix a2 s1.2))) 15))) 4)) (xr_shr rfl rfl rfl (by decide)) rfl rfl rfl ?_
   refine ol_val (v := (pt G_0 0)) (xr_move rfl e0) rfl rfl rfl ?_
   refine ol_val (v := .int .u32 (bXor .u32 (shR .u32 (bXor .u32 s1.1 (IntKind.u32.wrap (ix a2 s1.2))) 4) (Arr.get a0 (bAnd .u32 (bXor .u32 s1.1 (IntKind.u32.wrap (ix a2 s1.2))) 15)))) (xr_move rfl rfl) rfl rfl rfl ?_
   refine ol_val (v := .int .u32 (bAnd .u32 (bXor .u32 (shR .u32 (bXor .u32 s1.1 (IntKind.u32.wrap (ix a2 s1.2))) 4) (Arr.get a0 (bAnd .u32 (bXor .u32 s1.1 (IntKind.u32.wrap (ix a2 s1.2))) 15))) 15)) (xr_and rfl rfl rfl) rfl rfl rfl ?_
   refine ol_val (v := (pt G_0 0)) (xr_nilCheck rfl rfl) rfl rfl rfl ?_
   obtain ⟨g11, h⟩ := gs h
   refine ol_val (v := (pt G_0 (0 + Int.toNat (bAnd .u32 (bXor .u32 (shR .u32 (bXor .u32 s1.1 (IntKind.u32.wrap (ix a2 s1.2))) 4) (Arr.get a0 (bAnd .u32 (bXor .u32 s1.1 (IntKind.u32.wrap (ix a2 s1.2))) 15))) 15) * 1))) (xr_indexA (p := 0) (s := 1) rfl Try.underlying205 sz191 rfl rfl g11.1 g11.2) rfl rfl rfl ?_
   refine ol_val (v := .int .u32 (Arr.get a0 (bAnd .u32 (bXor .u32 (shR .u32 (bXor .u32 s1.1 (IntKind.u32.wrap (ix a2 s1.2))) 4) (Arr.get a0 (bAnd .u32 (bXor .u32 s1.1 (IntKind.u32.wrap (ix a2 s1.2))) 15))) 15))) (xr_load1 (v := .int .u32 (Arr.get a0 (bAnd .u32 (bXor .u32 (shR .u32 (bXor .u32 s1.1 (IntKind.u32.wrap (ix a2 s1.2))) 4) (Arr.get a0 (bAnd .u32 (bXor .u32 s1.1 (IntKind.u32.wrap (ix a2 s1.2))) 15))) 15))) rfl ag191 rfl (At.arr (a := a0) (b_0.seg 0 rfl rfl) g11.1 g11.2)) rfl rfl rfl ?_
   refine ol_val (v := .int .u32 (bXor .u32 (shR .u32 (bXor .u32 (shR .u32 (bXor .u32 s1.1 (IntKind.u32.wrap (ix a2 s1.2))) 4) (Arr.get a0 (bAnd .u32 (bXor .u32 s1.1 (IntKind.u32.wrap (ix a2 s1.2))) 15))) 4) (Arr.get a0 (bAnd .u32 (bXor .u32 (shR .u32 (bXor .u32 s1.1 (IntKind.u32.wrap (ix a2 s1.2))) 4) (Arr.get a0 (bAnd .u32 (bXor .u32 s1.1 (IntKind.u32.wrap (ix a2 s1.2))) 15))) 15)))) (xr_xor rfl rfl rfl) rfl rfl rfl ?_
   refine ol_val (v := .int .u32 (bXor .u32 (shR .u32 (bXor .u32 (shR .u32 (bXor .u32 s1.1 (IntKind.u32.wrap (ix a2 s1.2))) 4) (Arr.get a0 (bAnd .u32 (bXor .u32 s1.1 (IntKind.u32.wrap (ix a2 s1.2))) 15))) 4) (Arr.get a0 (bAnd .u32 (bXor .u32 (shR .u32 (bXor .u32 s1.1 (IntKind.u32.wrap (ix a2 s1.2))) 4) (Arr.get a0 (bAnd .u32 (bXor .u32 s1.1 (IntKind.u32.wrap (ix a2 s1.2))) 15))) 15)))) (xr_assign rfl rfl) rfl rfl rfl ?_
   refine ol_nil ?_
   refine blk_i ?_
   refine cw_region ?_
   refine ol_val (v := .int .i64 (IntKind.i64.wrap (s1.2 + 1))) (xr_add rfl e11 rfl) rfl rfl rfl ?_
   refine ol_val (v := .int .i64 (IntKind.i64.wrap (s1.2 + 1))) (xr_move rfl rfl) rfl rfl rfl ?_
   refine ol_nil ?_
   obtain rfl := Option.some.inj h
   refine lp_in ?_
   exact ⟨e0, rfl, e9, e10, rfl, b_0, fB⟩
  refine cw_condF rfl c8 ?_
  refine cw_exit ?_
  repeat (first | with_reducible refine thn_e ?_ | with_reducible refine blk_e rfl ?_)
  obtain rfl := Option.some.inj h
  refine lp_exit ?_
  rintro rfl
  refine thn_x ?_
  exact ⟨e1, b_0, fB⟩
 rintro ρ12 w13 ⟨e1, b_0, fB⟩
 have h := h4
 refine cw_seq ?_
 refine cw_region ?_
 refine ol_val (v := .int .u32 e2) (xr_move rfl e1) rfl rfl rfl ?_
 refine ol_val (v := .int .u32 e2) (xr_assign rfl rfl) rfl rfl rfl ?_
 refine ol_nil ?_
 refine cw_ret ?_
 repeat (first | with_reducible refine thn_r ?_ | with_reducible refine blk_r ?_)
 obtain rfl := Option.some.inj h
 refine fin_ret1 Try.results155 rfl ?_
 exact ⟨_, rfl, rfl, fB⟩
def crc_Sum.s0 (fu : Nat) (a0 : List (List Int)) (t1 : (Arr 16 Int)) : (Int × Int) → Option (Sum Int (Int × Int)) := fun s13 => (if (decide (s13.2 < (List.length a0 : Int))) = true then (if 0 ≤ s13.2 ∧ s13.2 < (List.length a0 : Int) then ((crc_register.f fu t1 s13.1 (ix a0 s13.2)).bind fun t23 => some (Sum.inr (t23, (IntKind.i64.wrap (s13.2 + 1))))) else none) else some (Sum.inl (s13.1)))
def crc_Sum.f (fu : Nat) (a0 : List (List Int)) : Option Int := ((crc_Table.f fu).bind fun t1 => ((loopM (crc_Sum.s0 fu a0 t1) fu (4294967295, 0)).bind fun e14 => some ((bXor .u32 e14 4294967295))))
theorem crc_Sum.ok (fu : Nat) (w : World) (a0 : List (List Int)) (V0_0 : Value) (R0_0 : Rds (kI .u8) w V0_0 a0) (r : Int) (h : crc_Sum.f fu a0 = some r) :
  Calls Try.prog 149 (([V0_0] : List Value).toArray) w (fun e w' => ∃ v, e = .returned v ∧ v = .int .u32 r ∧ Gr w w') := by
 unfold crc_Sum.f at h
 have fB : Gr w w := Fr.refl _ _
 refine calls_cw Try.func149 rfl Try.ntmps149 rfl ?_
 refine cw_seq ?_
 refine cw_region ?_
 refine ol_val (v := .int .u32 0) (xr_assign rfl rfl) rfl rfl rfl ?_
 refine ol_nil ?_
 refine cw_seq ?_
 refine cw_region ?_
 obtain ⟨t1, k2, h⟩ := bs h
 refine ol_op (opv_call rfl cal154 an (crc_Table.ok fu _ _ k2)) rfl rfl rfl ?_
 rintro _ w4 ⟨rfl, q3⟩
 have fB := fB.gr q3
 refine ol_op (opv_alloc (ss := [Kd.seg (kA 16 (kI .u32)) (Arr.rep 16 (0 : Int))]) rfl ze205 rfl) rfl rfl rfl ?_
 rintro _ w10 ⟨G5, rfl, b6, q7, z8⟩
 have z8 := Nat.le_trans fB.size z8
 have fB := fB.gr q7
 refine ol_op0 (opv_store (ss' := [Kd.seg (kA 16 (kI .u32)) t1]) (xs := cellsOf [Kd.seg (kA 16 (kI .u32)) t1]) rfl sz205 rfl rfl rfl (len_cellsOf _) (one_cellsOf _) b6 (Spl.segs _ 0 1 [Kd.seg (kA 16 (kI .u32)) t1] rfl rfl)) rfl rfl ?_
 rintro _ w12 ⟨b6, q11⟩
 have fB := fB.wr q11 z8
 refine ol_val (v := .int .u32 4294967295) (xr_assign rfl rfl) rfl rfl rfl ?_
 refine ol_nil ?_
 refine cw_seq ?_
 refine cw_seq ?_
 refine cw_region ?_
 refine ol_val (v := V0_0) (xr_move rfl rfl) rfl rfl rfl ?_
 refine ol_val (v := .int .i64 (List.length a0 : Int)) (xr_lenRs rfl Try.underlying100 rfl (R0_0.gr fB)) rfl rfl rfl ?_
 refine ol_val (v := .int .i64 0) (xr_move rfl rfl) rfl rfl rfl ?_
 refine ol_nil ?_
 obtain ⟨e14, l15, h16⟩ := bs h
 refine cw_mid (fun ρ' w' => ρ' 4 = .int .u32 e14 ∧ Gr w w') ?_ ?_
 ·refine cw_block ?_
  refine cw_round (fun (s13 : Int × Int) ρ' w' => ρ' 3 = (pt G5 0) ∧ ρ' 4 = .int .u32 s13.1 ∧ ρ' 8 = V0_0 ∧ ρ' 9 = .int .i64 (List.length a0 : Int) ∧ ρ' 10 = .int .i64 s13.2 ∧ Blk w' G5 205 [Kd.seg (kA 16 (kI .u32)) t1] ∧ Gr w w') l15 ?_ ?_
  ·skip
   exact ⟨rfl, rfl, rfl, rfl, rfl, b6, fB⟩
  rintro s13 x19 ρ17 w18 ⟨e3, e4, e8, e9, e10, b6, fB⟩ h
  unfold crc_Sum.s0 at h
  refine cw_seq ?_
  refine cw_region ?_
  refine ol_val (v := .bool (decide (s13.2 < (List.length a0 : Int)))) (xr_lss rfl e10 e9) rfl rfl rfl ?_
  refine ol_nil ?_
  refine cw_seq ?_
  rcases is h with ⟨c20, h⟩ | ⟨c20, h⟩
  ·refine cw_condT rfl c20 ?_
   refine cw_skip ?_
   refine cw_seq ?_
   refine cw_block ?_
   refine cw_seq ?_
   refine cw_region ?_
   obtain ⟨g21, h⟩ := gs h
   refine ol_val (v := (pt ((sb V0_0)) (so V0_0 + Int.toNat s13.2 * 1))) (xr_indexRs (v := V0_0) rfl Try.underlying100 sz43 e8 (R0_0.gr fB) e10 g21.1 g21.2) rfl rfl rfl ?_
   refine ol_val (v := inner w18 V0_0 s13.2) (xr_load1 (v := inner w18 V0_0 s13.2) rfl ag43 rfl ((R0_0.gr fB).elem g21.1 g21.2).1) rfl rfl rfl ?_
   have r22 : Rd (kI .u8) w18 (inner w18 V0_0 s13.2) (ix a0 s13.2) := ((R0_0.gr fB).elem g21.1 g21.2).2
   refine ol_val (v := inner w18 V0_0 s13.2) (xr_assign rfl rfl) rfl rfl rfl ?_
   refine ol_nil ?_
   refine cw_region ?_
   refine ol_val (v := .int .u32 s13.1) (xr_move rfl e4) rfl rfl rfl ?_
   refine ol_val (v := inner w18 V0_0 s13.2) (xr_move rfl rfl) rfl rfl rfl ?_
   obtain ⟨t23, k24, h⟩ := bs h
   refine ol_op (opv_call rfl cal155 (ac e3 (ac rfl (ac rfl an))) (crc_register.ok fu _ t1 G5 b6 s13.1 (ix a0 s13.2) (inner w18 V0_0 s13.2) (r22) _ k24)) rfl rfl rfl ?_
   rintro _ w26 ⟨rfl, q25⟩
   have b6 := b6.gr q25
   have fB := fB.gr q25
   refine ol_val (v := .int .u32 t23) (xr_assign rfl rfl) rfl rfl rfl ?_
   refine ol_nil ?_
   refine blk_i ?_
   refine cw_region ?_
   refine ol_val (v := .int .i64 (IntKind.i64.wrap (s13.2 + 1))) (xr_add rfl e10 rfl) rfl rfl rfl ?_
   refine ol_val (v := .int .i64 (IntKind.i64.wrap (s13.2 + 1))) (xr_move rfl rfl) rfl rfl rfl ?_
   refine ol_nil ?_
   obtain rfl := Option.some.inj h
   refine lp_in ?_
   exact ⟨e3, rfl, e8, e9, rfl, b6, fB⟩
  refine cw_condF rfl c20 ?_
  refine cw_exit ?_
  repeat (first | with_reducible refine thn_e ?_ | with_reducible refine blk_e rfl ?_)
  obtain rfl := Option.some.inj h
  refine lp_exit ?_
  rintro rfl
  refine thn_x ?_
  exact ⟨e4, fB⟩
 rintro ρ27 w28 ⟨e4, fB⟩
 have h := h16
 refine cw_seq ?_
 refine cw_region ?_
 refine ol_val (v := .int .u32 e14) (xr_move rfl e4) rfl rfl rfl ?_
 refine ol_val (v := .int .u32 (bXor .u32 e14 4294967295)) (xr_xor rfl rfl rfl) rfl rfl rfl ?_
 refine ol_val (v := .int .u32 (bXor .u32 e14 4294967295)) (xr_assign rfl rfl) rfl rfl rfl ?_
 refine ol_nil ?_
 refine cw_ret ?_
 repeat (first | with_reducible refine thn_r ?_ | with_reducible refine blk_r ?_)
 obtain rfl := Option.some.inj h
 refine fin_ret1 Try.results149 rfl ?_
 exact ⟨_, rfl, rfl, fB⟩
def crc_Fits.f (fu : Nat) (a0 : Int) (a1 : List (List Int)) : Option Bool := ((crc_Sum.f fu a1).bind fun t1 => some ((decide (t1 = a0))))
theorem crc_Fits.ok (fu : Nat) (w : World) (a0 : Int) (a1 : List (List Int)) (V1_0 : Value) (R1_0 : Rds (kI .u8) w V1_0 a1) (r : Bool) (h : crc_Fits.f fu a0 a1 = some r) :
  Calls Try.prog 150 (([.int .u32 a0, V1_0] : List Value).toArray) w (fun e w' => ∃ v, e = .returned v ∧ v = .bool r ∧ Gr w w') := by
 unfold crc_Fits.f at h
 have fB : Gr w w := Fr.refl _ _
 refine calls_cw Try.func150 rfl Try.ntmps150 rfl ?_
 refine cw_seq ?_
 refine cw_region ?_
 refine ol_val (v := .bool false) (xr_assign rfl rfl) rfl rfl rfl ?_
 refine ol_nil ?_
 refine cw_seq ?_
 refine cw_region ?_
 refine ol_val (v := V1_0) (xr_move rfl rfl) rfl rfl rfl ?_
 obtain ⟨t1, k2, h⟩ := bs h
 refine ol_op (opv_call rfl cal149 (ac rfl an) (crc_Sum.ok fu _ a1 V1_0 (R1_0.gr fB) _ k2)) rfl rfl rfl ?_
 rintro _ w4 ⟨rfl, q3⟩
 have fB := fB.gr q3
 refine ol_val (v := .int .u32 a0) (xr_move rfl rfl) rfl rfl rfl ?_
 refine ol_val (v := .bool (decide (t1 = a0))) (xr_eqI rfl Try.underlying191 rfl rfl rfl) rfl rfl rfl ?_
 refine ol_val (v := .bool (decide (t1 = a0))) (xr_assign rfl rfl) rfl rfl rfl ?_
 refine ol_nil ?_
 refine cw_ret ?_
 repeat (first | with_reducible refine thn_r ?_ | with_reducible refine blk_r ?_)
 obtain rfl := Option.some.inj h
 refine fin_ret1 Try.results150 rfl ?_
 exact ⟨_, rfl, rfl, fB⟩
def block_right.f (fu : Nat) (a0 : List Int) : Option Bool := (((if (decide ((List.length a0 : Int) = 64)) = true then (if (4 : Int) < (List.length a0 : Int) then (if (!decide ((ix a0 4) = 0)) = true then ((octet_Noughts.f fu a0 6 2).bind fun t8 => (if t8 = true then (if (4 : Int) ≤ (List.length a0 : Int) then ((octet_Read.f fu (cut a0 0 4)).bind fun t15 => (if (4 : Int) ≤ (List.length a0 : Int) then ((crc_Fits.f fu (IntKind.u32.wrap t15) [(cut a0 4 (List.length a0 : Int))]).bind fun t28 => some (t28)) else none)) else none) else some (false))) else some (false)) else none) else some (false)) : Option Bool).bind fun x1 => some (x1))
theorem block_right.ok (fu : Nat) (w : World) (a0 : List Int) (V0_0 : Value) (R0_0 : Rd (kI .u8) w V0_0 a0) (r : Bool) (h : block_right.f fu a0 = some r) :
  Calls Try.prog 141 (([V0_0] : List Value).toArray) w (fun e w' => ∃ v, e = .returned v ∧ v = .bool r ∧ Gr w w') := by
 unfold block_right.f at h
 have fB : Gr w w := Fr.refl _ _
 refine calls_cw Try.func141 rfl Try.ntmps141 rfl ?_
 refine cw_seq ?_
 refine cw_region ?_
 refine ol_val (v := .bool false) (xr_assign rfl rfl) rfl rfl rfl ?_
 refine ol_nil ?_
 refine cw_seq ?_
 obtain ⟨x1, j2, h⟩ := bs h
 refine cw_mid (fun ρ' w' => ρ' 2 = .bool x1 ∧ Gr w w') ?_ ?_
 ·skip
  refine rd_region mo ?_
  intro w3 q4
  have fB := fB.gr q4
  refine rd_seq (m := 0) (n := 14) rfl ?_
  refine ol_val (v := V0_0) (xr_move rfl rfl) rfl rfl rfl ?_
  refine ol_val (v := .int .i64 (List.length a0 : Int)) (xr_lenR rfl Try.underlying43 rfl (R0_0.gr fB)) rfl rfl rfl ?_
  refine ol_val (v := .bool (decide ((List.length a0 : Int) = 64))) (xr_eqI rfl Try.underlying3 rfl rfl rfl) rfl rfl rfl ?_
  refine ol_val (v := .bool (decide ((List.length a0 : Int) = 64))) (xr_move rfl rfl) rfl rfl rfl ?_
  rcases is j2 with ⟨c5, j2⟩ | ⟨c5, j2⟩
  ·skip
   refine ol_gval (v := V0_0) (xr_move rfl rfl) rfl rfl rfl rfl rfl c5 ?_
   obtain ⟨g6, j2⟩ := gs j2
   refine ol_gval (v := (pt ((sb V0_0)) (so V0_0 + Int.toNat 4 * 1))) (xr_indexR (K := (kI .u8)) (v := V0_0) rfl Try.underlying43 sz5 rfl (R0_0.gr fB) rfl (by decide) g6) rfl rfl rfl rfl rfl c5 ?_
   refine ol_gval (v := .int .u8 (ix a0 4)) (xr_load1 (v := .int .u8 (ix a0 4)) rfl ag5 rfl ((R0_0.gr fB).elem (by decide) g6)) rfl rfl rfl rfl rfl c5 ?_
   refine ol_gval (v := .bool (!decide ((ix a0 4) = 0))) (xr_neI rfl Try.underlying5 rfl rfl rfl) rfl rfl rfl rfl rfl c5 ?_
   refine ol_val (v := .bool (!decide ((ix a0 4) = 0))) (xr_pickT rfl rfl c5 rfl) rfl rfl rfl ?_
   refine ol_val (v := .bool (!decide ((ix a0 4) = 0))) (xr_move rfl rfl) rfl rfl rfl ?_
   rcases is j2 with ⟨c7, j2⟩ | ⟨c7, j2⟩
   ·skip
    refine ol_gval (v := V0_0) (xr_move rfl rfl) rfl rfl rfl rfl rfl c7 ?_
    obtain ⟨t8, k9, j2⟩ := bs j2
    refine ol_gop (opv_call rfl cal133 (ac rfl (ac rfl (ac rfl an))) (octet_Noughts.ok fu _ a0 V0_0 (R0_0.gr fB) 6 2 _ k9)) rfl rfl rfl rfl rfl c7 ?_
    rintro _ w11 ⟨rfl, q10⟩
    have fB := fB.gr q10
    refine ol_val (v := .bool t8) (xr_pickT rfl rfl c7 rfl) rfl rfl rfl ?_
    refine ol_val (v := .bool t8) (xr_move rfl rfl) rfl rfl rfl ?_
    refine ol_nilK ?_
    rcases is j2 with ⟨c12, j2⟩ | ⟨c12, j2⟩
    ·skip
     obtain ⟨g14, j2⟩ := gs j2
     obtain ⟨t15, k16, j2⟩ := bs j2
     obtain ⟨g19, j2⟩ := gs j2
     refine rd_drawL 14 21 [fun vz wz => vz = (V0_0 : Value), fun vz wz => ∃ r13 : Rd (kI .u8) wz (subv 1 V0_0 0 (Int.toNat 4)) (cut a0 0 4), vz = (subv 1 V0_0 0 (Int.toNat 4) : Value), fun vz wz => vz = (.int .u64 t15 : Value), fun vz wz => vz = (.int .u32 (IntKind.u32.wrap t15) : Value), fun vz wz => vz = (V0_0 : Value), fun vz wz => ∃ r18 : Rd (kI .u8) wz (subv 1 V0_0 (Int.toNat 4) (List.length a0)) (cut a0 4 (List.length a0 : Int)), vz = (subv 1 V0_0 (Int.toNat 4) (List.length a0) : Value), fun vz wz => ∃ v20 : Value, ∃ r22 : Rds (kI .u8) wz v20 [(cut a0 4 (List.length a0 : Int))], vz = (v20 : Value)] rfl ⟨fun _ _ _ h _ => h, fun _ _ _ ⟨r13, h⟩ q => ⟨r13.gr q, h⟩, fun _ _ _ h _ => h, fun _ _ _ h _ => h, fun _ _ _ h _ => h, fun _ _ _ ⟨r18, h⟩ q => ⟨r18.gr q, h⟩, fun _ _ _ ⟨v20, r22, h⟩ q => ⟨v20, r22.gr q, h⟩, trivial⟩ ?_ ?_
     ·refine ⟨?_, ?_, ?_, ?_, ?_, ?_, ?_, trivial⟩
      ·intro ρz wz hz hk hd
       exact sk_gval (v := V0_0) (xr_move rfl ((hk 0 rfl).trans rfl)) rfl rfl ((hk 16 rfl).trans rfl) c12 rfl
      ·intro ρz wz hz hk hd
       exact sk_gval (xr_slice_h (K := (kI .u8)) (v := V0_0) rfl Try.underlying43 sz5 (hd 14 rfl rfl 17 rfl) (R0_0.gr (fB.gr hz)) rfl (by decide) g14) rfl rfl ((hk 16 rfl).trans rfl) c12 ⟨(R0_0.gr (fB.gr hz)).cut (lo := 0) (hi := 4) (by decide) (by decide) g14, rfl⟩
      ·intro ρz wz hz hk hd
       obtain ⟨r13, d18⟩ := hd 15 rfl rfl 18 rfl
       refine sk_gop (opv_call rfl cal109 (ac d18 an) (octet_Read.ok fu _ (cut a0 0 4) (subv 1 V0_0 0 (Int.toNat 4)) (r13) _ k16)) rfl rfl ((hk 16 rfl).trans rfl) c12 ?_
       rintro _ wy ⟨rfl, q17⟩
       exact ⟨rfl, q17⟩
      ·intro ρz wz hz hk hd
       exact sk_gval (v := .int .u32 (IntKind.u32.wrap t15)) (xr_conv rfl Try.underlying22 Try.underlying191 (hd 16 rfl rfl 19 rfl)) rfl rfl ((hk 16 rfl).trans rfl) c12 rfl
      ·intro ρz wz hz hk hd
       exact sk_gval (v := V0_0) (xr_move rfl ((hk 0 rfl).trans rfl)) rfl rfl ((hk 16 rfl).trans rfl) c12 rfl
      ·intro ρz wz hz hk hd
       exact sk_gval (xr_slice_l (K := (kI .u8)) (v := V0_0) rfl Try.underlying43 sz5 (hd 18 rfl rfl 21 rfl) (R0_0.gr (fB.gr hz)) rfl (by decide) g19) rfl rfl ((hk 16 rfl).trans rfl) c12 ⟨(R0_0.gr (fB.gr hz)).cut (lo := 4) (hi := (List.length a0 : Int)) (by decide) g19 (Int.le_refl _), rfl⟩
      intro ρz wz hz hk hd
      obtain ⟨r18, d22⟩ := hd 19 rfl rfl 22 rfl
      refine sk_gop (opv_build1 rfl Try.underlying100 el43 rfl r18 d22) rfl rfl ((hk 16 rfl).trans rfl) c12 ?_
      rintro v20 wy ⟨r22, q21⟩
      exact ⟨⟨v20, r22, rfl⟩, q21⟩
     intro ρ23 w24 q25 hk hd
     have e16 := (hk 16 rfl).trans rfl
     have e20 := hd 17 rfl rfl 20 rfl
     obtain ⟨v26, r27, e23⟩ := hd 20 rfl rfl 23 rfl
     have fB := fB.gr q25
     refine rd_seq (m := 21) (n := 24) rfl ?_
     obtain ⟨t28, k29, j2⟩ := bs j2
     refine ol_gop (opv_call rfl cal150 (ac e20 (ac e23 an)) (crc_Fits.ok fu _ (IntKind.u32.wrap t15) [(cut a0 4 (List.length a0 : Int))] v26 (r27) _ k29)) rfl rfl rfl rfl e16 c12 ?_
     rintro _ w31 ⟨rfl, q30⟩
     have fB := fB.gr q30
     refine ol_val (v := .bool t28) (xr_pickT rfl e16 c12 rfl) rfl rfl rfl ?_
     refine ol_val (v := .bool t28) (xr_assign rfl rfl) rfl rfl rfl ?_
     refine ol_nilK ?_
     refine rd_end rfl ?_
     obtain rfl := Option.some.inj j2
     refine thn_i ?_
     exact ⟨rfl, (((q4.gr q10).gr q25).gr q30)⟩
    refine rd_drawL 14 21 [fun vz _ => vz = undef, fun vz _ => vz = undef, fun vz _ => vz = undef, fun vz _ => vz = undef, fun vz _ => vz = undef, fun vz _ => vz = undef, fun vz _ => vz = undef] rfl ⟨fun _ _ _ h _ => h, fun _ _ _ h _ => h, fun _ _ _ h _ => h, fun _ _ _ h _ => h, fun _ _ _ h _ => h, fun _ _ _ h _ => h, fun _ _ _ h _ => h, trivial⟩ ?_ ?_
    ·refine ⟨?_, ?_, ?_, ?_, ?_, ?_, ?_, trivial⟩
     ·intro ρz wz hz hk hd
      exact sk_skip rfl rfl ((hk 16 rfl).trans rfl) c12 rfl
     ·intro ρz wz hz hk hd
      exact sk_skip rfl rfl ((hk 16 rfl).trans rfl) c12 rfl
     ·intro ρz wz hz hk hd
      exact sk_skip rfl rfl ((hk 16 rfl).trans rfl) c12 rfl
     ·intro ρz wz hz hk hd
      exact sk_skip rfl rfl ((hk 16 rfl).trans rfl) c12 rfl
     ·intro ρz wz hz hk hd
      exact sk_skip rfl rfl ((hk 16 rfl).trans rfl) c12 rfl
     ·intro ρz wz hz hk hd
      exact sk_skip rfl rfl ((hk 16 rfl).trans rfl) c12 rfl
     intro ρz wz hz hk hd
     exact sk_skip rfl rfl ((hk 16 rfl).trans rfl) c12 rfl
    intro ρ32 w33 q34 hk hd
    have e16 := (hk 16 rfl).trans rfl
    have e20 := hd 17 rfl rfl 20 rfl
    have e23 := hd 20 rfl rfl 23 rfl
    have fB := fB.gr q34
    refine rd_seq (m := 21) (n := 24) rfl ?_
    refine ol_gskip rfl rfl rfl rfl e16 c12 ?_
    refine ol_val (v := .bool false) (xr_pickF rfl e16 c12 rfl) rfl rfl rfl ?_
    refine ol_val (v := .bool false) (xr_assign rfl rfl) rfl rfl rfl ?_
    refine ol_nilK ?_
    refine rd_end rfl ?_
    obtain rfl := Option.some.inj j2
    refine thn_i ?_
    exact ⟨rfl, ((q4.gr q10).gr q34)⟩
   refine ol_gskip rfl rfl rfl rfl rfl c7 ?_
   refine ol_gskip rfl rfl rfl rfl rfl c7 ?_
   refine ol_val (v := .bool false) (xr_pickF rfl rfl c7 rfl) rfl rfl rfl ?_
   refine ol_val (v := .bool false) (xr_move rfl rfl) rfl rfl rfl ?_
   refine ol_nilK ?_
   refine rd_drawL 14 21 [fun vz _ => vz = undef, fun vz _ => vz = undef, fun vz _ => vz = undef, fun vz _ => vz = undef, fun vz _ => vz = undef, fun vz _ => vz = undef, fun vz _ => vz = undef] rfl ⟨fun _ _ _ h _ => h, fun _ _ _ h _ => h, fun _ _ _ h _ => h, fun _ _ _ h _ => h, fun _ _ _ h _ => h, fun _ _ _ h _ => h, fun _ _ _ h _ => h, trivial⟩ ?_ ?_
   ·refine ⟨?_, ?_, ?_, ?_, ?_, ?_, ?_, trivial⟩
    ·intro ρz wz hz hk hd
     exact sk_skip rfl rfl ((hk 16 rfl).trans rfl) rfl rfl
    ·intro ρz wz hz hk hd
     exact sk_skip rfl rfl ((hk 16 rfl).trans rfl) rfl rfl
    ·intro ρz wz hz hk hd
     exact sk_skip rfl rfl ((hk 16 rfl).trans rfl) rfl rfl
    ·intro ρz wz hz hk hd
     exact sk_skip rfl rfl ((hk 16 rfl).trans rfl) rfl rfl
    ·intro ρz wz hz hk hd
     exact sk_skip rfl rfl ((hk 16 rfl).trans rfl) rfl rfl
    ·intro ρz wz hz hk hd
     exact sk_skip rfl rfl ((hk 16 rfl).trans rfl) rfl rfl
    intro ρz wz hz hk hd
    exact sk_skip rfl rfl ((hk 16 rfl).trans rfl) rfl rfl
   intro ρ35 w36 q37 hk hd
   have e16 := (hk 16 rfl).trans rfl
   have e20 := hd 17 rfl rfl 20 rfl
   have e23 := hd 20 rfl rfl 23 rfl
   have fB := fB.gr q37
   refine rd_seq (m := 21) (n := 24) rfl ?_
   refine ol_gskip rfl rfl rfl rfl e16 rfl ?_
   refine ol_val (v := .bool false) (xr_pickF rfl e16 rfl rfl) rfl rfl rfl ?_
   refine ol_val (v := .bool false) (xr_assign rfl rfl) rfl rfl rfl ?_
   refine ol_nilK ?_
   refine rd_end rfl ?_
   obtain rfl := Option.some.inj j2
   refine thn_i ?_
   exact ⟨rfl, (q4.gr q37)⟩
  refine ol_gskip rfl rfl rfl rfl rfl c5 ?_
  refine ol_gskip rfl rfl rfl rfl rfl c5 ?_
  refine ol_gskip rfl rfl rfl rfl rfl c5 ?_
  refine ol_gskip rfl rfl rfl rfl rfl c5 ?_
  refine ol_val (v := .bool false) (xr_pickF rfl rfl c5 rfl) rfl rfl rfl ?_
  refine ol_val (v := .bool false) (xr_move rfl rfl) rfl rfl rfl ?_
  refine ol_gskip rfl rfl rfl rfl rfl rfl ?_
  refine ol_gskip rfl rfl rfl rfl rfl rfl ?_
  refine ol_val (v := .bool false) (xr_pickF rfl rfl rfl rfl) rfl rfl rfl ?_
  refine ol_val (v := .bool false) (xr_move rfl rfl) rfl rfl rfl ?_
  refine ol_nilK ?_
  refine rd_drawL 14 21 [fun vz _ => vz = undef, fun vz _ => vz = undef, fun vz _ => vz = undef, fun vz _ => vz = undef, fun vz _ => vz = undef, fun vz _ => vz = undef, fun vz _ => vz = undef] rfl ⟨fun _ _ _ h _ => h, fun _ _ _ h _ => h, fun _ _ _ h _ => h, fun _ _ _ h _ => h, fun _ _ _ h _ => h, fun _ _ _ h _ => h, fun _ _ _ h _ => h, trivial⟩ ?_ ?_
  ·refine ⟨?_, ?_, ?_, ?_, ?_, ?_, ?_, trivial⟩
   ·intro ρz wz hz hk hd
    exact sk_skip rfl rfl ((hk 16 rfl).trans rfl) rfl rfl
   ·intro ρz wz hz hk hd
    exact sk_skip rfl rfl ((hk 16 rfl).trans rfl) rfl rfl
   ·intro ρz wz hz hk hd
    exact sk_skip rfl rfl ((hk 16 rfl).trans rfl) rfl rfl
   ·intro ρz wz hz hk hd
    exact sk_skip rfl rfl ((hk 16 rfl).trans rfl) rfl rfl
   ·intro ρz wz hz hk hd
    exact sk_skip rfl rfl ((hk 16 rfl).trans rfl) rfl rfl
   ·intro ρz wz hz hk hd
    exact sk_skip rfl rfl ((hk 16 rfl).trans rfl) rfl rfl
   intro ρz wz hz hk hd
   exact sk_skip rfl rfl ((hk 16 rfl).trans rfl) rfl rfl
  intro ρ38 w39 q40 hk hd
  have e16 := (hk 16 rfl).trans rfl
  have e20 := hd 17 rfl rfl 20 rfl
  have e23 := hd 20 rfl rfl 23 rfl
  have fB := fB.gr q40
  refine rd_seq (m := 21) (n := 24) rfl ?_
  refine ol_gskip rfl rfl rfl rfl e16 rfl ?_
  refine ol_val (v := .bool false) (xr_pickF rfl e16 rfl rfl) rfl rfl rfl ?_
  refine ol_val (v := .bool false) (xr_assign rfl rfl) rfl rfl rfl ?_
  refine ol_nilK ?_
  refine rd_end rfl ?_
  obtain rfl := Option.some.inj j2
  refine thn_i ?_
  exact ⟨rfl, (q4.gr q40)⟩
 rintro ρ41 w42 ⟨e2, q43⟩
 have fB := fB.gr q43
 refine cw_ret ?_
 repeat (first | with_reducible refine thn_r ?_ | with_reducible refine blk_r ?_)
 obtain rfl := Option.some.inj h
 refine fin_ret1 Try.results141 e2 ?_
 exact ⟨_, rfl, rfl, fB⟩
def bytes_Clone.f (fu : Nat) (a0 : List Int) : Option (List Int) := (if List.length a0 ≤ LIM then some a0 else none)
theorem bytes_Clone.ok (fu : Nat) (w : World) (a0 : List Int) (V0_0 : Value) (R0_0 : Rd (kI .u8) w V0_0 a0) (r : List Int) (h : bytes_Clone.f fu a0 = some r) :
  Calls Try.prog 142 (([V0_0] : List Value).toArray) w (fun e w' => ∃ v, e = .returned v ∧ ∃ u1 : Value, ∃ o2 : Own (kI .u8) 5 w' w.heap.size u1 r, v = u1 ∧ Gr w w') := by
 unfold bytes_Clone.f at h
 obtain ⟨g, h⟩ := gs h
 obtain rfl := Option.some.inj h
 have fB : Gr w w := Fr.refl _ _
 refine calls_cw Try.func142 rfl Try.ntmps142 rfl ?_
 refine cw_seq ?_
 refine cw_region ?_
 refine ol_val (v := .slice none 0 0) (xr_assign rfl rfl) rfl rfl rfl ?_
 refine ol_nil ?_
 refine cw_seq ?_
 refine cw_seq ?_
 refine cw_region ?_
 refine ol_val (v := V0_0) (xr_move rfl rfl) rfl rfl rfl ?_
 refine ol_val (v := .bool (isNilV V0_0)) (xr_eqNil rfl Try.underlying43 rfl rfl R0_0) rfl rfl rfl ?_
 refine ol_nil ?_
 rcases bt (isNilV V0_0) with c | c
 ·refine cw_condT rfl c ?_
  obtain rfl := R0_0.isNil c
  refine cw_seq ?_
  refine cw_region ?_
  refine ol_val (v := .slice none 0 0) (xr_assign rfl rfl) rfl rfl rfl ?_
  refine ol_nil ?_
  refine cw_ret ?_
  repeat (first | with_reducible refine thn_r ?_ | with_reducible refine blk_r ?_)
  refine fin_ret1 Try.results142 rfl ?_
  exact ⟨_, rfl, _, Own.nil _ _ _ _, rfl, fB⟩
 refine cw_condF rfl c ?_
 refine cw_skip ?_
 refine cw_seq ?_
 refine cw_region ?_
 refine ol_op (opv_buildSlice (K := (kI .u8)) (xs := ([] : List Int)) (vals := []) rfl Try.underlying43 el5 rfl rfl trivial rfl rfl rfl fB.size) rfl rfl rfl ?_
 rintro v1 w1 ⟨o1, q1, z1⟩
 refine ol_val (v := V0_0) (xr_move rfl rfl) rfl rfl rfl ?_
 refine ol_op (opv_append (K := (kI .u8)) rfl Try.underlying43 el5 rfl rfl rfl rfl rfl o1 (R0_0.gr q1) (by simpa using g) (fB.gr q1).size) rfl rfl rfl ?_
 rintro v2 w2 ⟨o2, q2, n2⟩
 refine ol_val (v := v2) (xr_assign rfl rfl) rfl rfl rfl ?_
 refine ol_nil ?_
 refine cw_ret ?_
 repeat (first | with_reducible refine thn_r ?_ | with_reducible refine blk_r ?_)
 refine fin_ret1 Try.results142 rfl ?_
 exact ⟨_, rfl, v2, o2, rfl, (fB.gr q1).wrO q2 o1.geO⟩
def block_Open.f (fu : Nat) (a0 : List Int) : Option (Int × Int × (List Int) × Bool) := ((block_right.f fu a0).bind fun t4 => (if (!t4) = true then some (0, 0, [], false) else (if (4 : Int) < (List.length a0 : Int) then (if (5 : Int) < (List.length a0 : Int) then (if (8 : Int) ≤ (List.length a0 : Int) then ((bytes_Clone.f fu (cut a0 8 (List.length a0 : Int))).bind fun t13 => some ((IntKind.i64.wrap (ix a0 4)), (IntKind.i64.wrap (ix a0 5)), t13, true)) else none) else none) else none)))
theorem block_Open.ok (fu : Nat) (w : World) (a0 : List Int) (V0_0 : Value) (R0_0 : Rd (kI .u8) w V0_0 a0) (r : Int × Int × (List Int) × Bool) (h : block_Open.f fu a0 = some r) :
  Calls Try.prog 130 (([V0_0] : List Value).toArray) w (fun e w' => ∃ v, e = .returned v ∧ ∃ u1 : Value, ∃ o2 : Own (kI .u8) 5 w' w.heap.size u1 r.2.2.1, v = .tuple #[.int .i64 r.1, .int .i64 r.2.1, u1, .bool r.2.2.2] ∧ Gr w w') := by
 unfold block_Open.f at h
 have fB : Gr w w := Fr.refl _ _
 refine calls_cw Try.func130 rfl Try.ntmps130 rfl ?_
 refine cw_seq ?_
 refine cw_region ?_
 refine ol_val (v := .int .i64 0) (xr_assign rfl rfl) rfl rfl rfl ?_
 refine ol_val (v := .int .i64 0) (xr_assign rfl rfl) rfl rfl rfl ?_
 refine ol_val (v := .slice none 0 0) (xr_assign rfl rfl) rfl rfl rfl ?_
 refine ol_val (v := .bool false) (xr_assign rfl rfl) rfl rfl rfl ?_
 refine ol_nil ?_
 refine cw_seq ?_
 refine cw_seq ?_
 refine cw_region ?_
 refine ol_val (v := V0_0) (xr_move rfl rfl) rfl rfl rfl ?_
 obtain ⟨t4, k5, h⟩ := bs h
 refine ol_op (opv_call rfl cal141 (ac rfl an) (block_right.ok fu _ a0 V0_0 (R0_0.gr fB) _ k5)) rfl rfl rfl ?_
 rintro _ w7 ⟨rfl, q6⟩
 have fB := fB.gr q6
 refine ol_val (v := .bool (!t4)) (xr_not rfl rfl) rfl rfl rfl ?_
 refine ol_nil ?_
 rcases is h with ⟨c8, h⟩ | ⟨c8, h⟩
 ·refine cw_condT rfl c8 ?_
  refine cw_seq ?_
  refine cw_region ?_
  refine ol_val (v := .int .i64 0) (xr_assign rfl rfl) rfl rfl rfl ?_
  refine ol_val (v := .int .i64 0) (xr_assign rfl rfl) rfl rfl rfl ?_
  refine ol_val (v := .slice none 0 0) (xr_assign rfl rfl) rfl rfl rfl ?_
  refine ol_val (v := .bool false) (xr_assign rfl rfl) rfl rfl rfl ?_
  refine ol_nil ?_
  refine cw_ret ?_
  repeat (first | with_reducible refine thn_r ?_ | with_reducible refine blk_r ?_)
  obtain rfl := Option.some.inj h
  refine fin_ret4 Try.results130 rfl rfl rfl rfl ?_
  exact ⟨_, rfl, (.slice none 0 0), Own.nil _ _ _ _, rfl, fB⟩
 refine cw_condF rfl c8 ?_
 refine cw_skip ?_
 refine cw_seq ?_
 obtain ⟨g9, h⟩ := gs h
 obtain ⟨g10, h⟩ := gs h
 obtain ⟨g12, h⟩ := gs h
 obtain ⟨t13, k14, h⟩ := bs h
 refine cw_drawL 12 [fun vz wz => vz = (V0_0 : Value), fun vz wz => vz = ((pt ((sb V0_0)) (so V0_0 + Int.toNat 4 * 1)) : Value), fun vz wz => vz = (.int .u8 (ix a0 4) : Value), fun vz wz => vz = (.int .i64 (IntKind.i64.wrap (ix a0 4)) : Value), fun vz wz => vz = (V0_0 : Value), fun vz wz => vz = ((pt ((sb V0_0)) (so V0_0 + Int.toNat 5 * 1)) : Value), fun vz wz => vz = (.int .u8 (ix a0 5) : Value), fun vz wz => vz = (.int .i64 (IntKind.i64.wrap (ix a0 5)) : Value), fun vz wz => vz = (V0_0 : Value), fun vz wz => ∃ r11 : Rd (kI .u8) wz (subv 1 V0_0 (Int.toNat 8) (List.length a0)) (cut a0 8 (List.length a0 : Int)), vz = (subv 1 V0_0 (Int.toNat 8) (List.length a0) : Value), fun vz wz => ∃ u15 : Value, ∃ o16 : Own (kI .u8) 5 wz w.heap.size u15 t13, vz = (u15 : Value), fun vz wz => vz = (.int .i64 (IntKind.i64.wrap (ix a0 4)) : Value)] mo rfl ⟨fun _ _ _ h _ => h, fun _ _ _ h _ => h, fun _ _ _ h _ => h, fun _ _ _ h _ => h, fun _ _ _ h _ => h, fun _ _ _ h _ => h, fun _ _ _ h _ => h, fun _ _ _ h _ => h, fun _ _ _ h _ => h, fun _ _ _ ⟨r11, h⟩ q => ⟨r11.gr q, h⟩, fun _ _ _ ⟨u15, o16, h⟩ q => ⟨u15, o16.gr q, h⟩, fun _ _ _ h _ => h, trivial⟩ ?_ ?_
 ·refine ⟨?_, ?_, ?_, ?_, ?_, ?_, ?_, ?_, ?_, ?_, ?_, ?_, trivial⟩
  ·intro ρz wz hz hk hd
   exact sk_val (v := V0_0) (xr_move rfl ((hk 0 rfl).trans rfl)) rfl rfl
  ·intro ρz wz hz hk hd
   exact sk_val (xr_indexR (K := (kI .u8)) (v := V0_0) rfl Try.underlying43 sz5 (hd 0 rfl 9 rfl) (R0_0.gr (fB.gr hz)) rfl (by decide) g9) rfl rfl
  ·intro ρz wz hz hk hd
   exact sk_val (v := .int .u8 (ix a0 4)) (xr_load1 (v := .int .u8 (ix a0 4)) rfl ag5 (hd 1 rfl 10 rfl) ((R0_0.gr (fB.gr hz)).elem (by decide) g9)) rfl rfl
  ·intro ρz wz hz hk hd
   exact sk_val (v := .int .i64 (IntKind.i64.wrap (ix a0 4))) (xr_conv rfl Try.underlying5 Try.underlying3 (hd 2 rfl 11 rfl)) rfl rfl
  ·intro ρz wz hz hk hd
   exact sk_val (v := V0_0) (xr_move rfl ((hk 0 rfl).trans rfl)) rfl rfl
  ·intro ρz wz hz hk hd
   exact sk_val (xr_indexR (K := (kI .u8)) (v := V0_0) rfl Try.underlying43 sz5 (hd 4 rfl 13 rfl) (R0_0.gr (fB.gr hz)) rfl (by decide) g10) rfl rfl
  ·intro ρz wz hz hk hd
   exact sk_val (v := .int .u8 (ix a0 5)) (xr_load1 (v := .int .u8 (ix a0 5)) rfl ag5 (hd 5 rfl 14 rfl) ((R0_0.gr (fB.gr hz)).elem (by decide) g10)) rfl rfl
  ·intro ρz wz hz hk hd
   exact sk_val (v := .int .i64 (IntKind.i64.wrap (ix a0 5))) (xr_conv rfl Try.underlying5 Try.underlying3 (hd 6 rfl 15 rfl)) rfl rfl
  ·intro ρz wz hz hk hd
   exact sk_val (v := V0_0) (xr_move rfl ((hk 0 rfl).trans rfl)) rfl rfl
  ·intro ρz wz hz hk hd
   exact sk_val (xr_slice_l (K := (kI .u8)) (v := V0_0) rfl Try.underlying43 sz5 (hd 8 rfl 17 rfl) (R0_0.gr (fB.gr hz)) rfl (by decide) g12) rfl ⟨(R0_0.gr (fB.gr hz)).cut (lo := 8) (hi := (List.length a0 : Int)) (by decide) g12 (Int.le_refl _), rfl⟩
  ·intro ρz wz hz hk hd
   obtain ⟨r11, d18⟩ := hd 9 rfl 18 rfl
   refine sk_op (opv_call rfl cal142 (ac d18 an) (bytes_Clone.ok fu _ (cut a0 8 (List.length a0 : Int)) (subv 1 V0_0 (Int.toNat 8) (List.length a0)) (r11) _ k14)) rfl ?_
   rintro u15 wy ⟨_, o16, rfl, q18⟩
   exact ⟨⟨u15, Own.base o16 ((Nat.le_trans fB.size hz.size)), rfl⟩, q18⟩
  intro ρz wz hz hk hd
  exact sk_val (v := .int .i64 (IntKind.i64.wrap (ix a0 4))) (xr_assign rfl (hd 3 rfl 12 rfl)) rfl rfl
 intro ρ19 w20 q21 hk hd
 have e2 := hd 11 rfl 2 rfl
 have e16 := hd 7 rfl 16 rfl
 obtain ⟨u22, o23, e19⟩ := hd 10 rfl 19 rfl
 have fB := fB.gr q21
 refine ol_val (v := .int .i64 (IntKind.i64.wrap (ix a0 5))) (xr_assign rfl e16) rfl rfl rfl ?_
 refine ol_val (v := u22) (xr_assign rfl e19) rfl rfl rfl ?_
 refine ol_val (v := .bool true) (xr_assign rfl rfl) rfl rfl rfl ?_
 refine ol_nil ?_
 refine cw_ret ?_
 repeat (first | with_reducible refine thn_r ?_ | with_reducible refine blk_r ?_)
 obtain rfl := Option.some.inj h
 refine fin_ret4 Try.results130 e2 rfl rfl rfl ?_
 exact ⟨_, rfl, u22, o23, rfl, fB⟩
def super_reader_next.f (fu : Nat) (a0 : S_super_reader) (a1 : Int) : Option (Int × S_super_reader) := (if 0 ≤ a1 ∧ a1 ≤ (List.length a0.rest : Int) then ((octet_Read.f fu (cut a0.rest 0 a1)).bind fun t7 => (if 0 ≤ a1 ∧ a1 ≤ (List.length a0.rest : Int) then some ((IntKind.i64.wrap t7), (⟨(cut a0.rest a1 (List.length a0.rest : Int))⟩ : S_super_reader)) else none)) else none)
theorem super_reader_next.ok (fu : Nat) (w : World) (a0 : S_super_reader) (G_0 : Nat) (V0_0 : Value) (R0_0 : Rd (kI .u8) w V0_0 a0.rest) (N0_0 : OffR V0_0 a0.rest G_0) (b_0 : Blk w G_0 182 [Seg.cell V0_0 R0_0.one]) (a1 : Int) (r : Int × S_super_reader) (h : super_reader_next.f fu a0 a1 = some r) :
  Calls Try.prog 131 (([(pt G_0 0), .int .i64 a1] : List Value).toArray) w (fun e w' => ∃ v, e = .returned v ∧ ∃ u1 : Value, ∃ r2 : Rd (kI .u8) w' u1 r.2.rest, ∃ n3 : ∀ g, OffR V0_0 a0.rest g → OffR u1 r.2.rest g, ∃ n4 : ∀ g, OffRV V0_0 a0.rest g → OffRV u1 r.2.rest g, v = .int .i64 r.1 ∧ Blk w' G_0 182 [Seg.cell u1 r2.one] ∧ Fr (fun j => j = G_0) w w') := by
 unfold super_reader_next.f at h
 have fB : Fr (fun j => j = G_0) w w := Fr.refl _ _
 refine calls_cw Try.func131 rfl Try.ntmps131 rfl ?_
 refine cw_seq ?_
 refine cw_region ?_
 refine ol_val (v := .int .i64 0) (xr_assign rfl rfl) rfl rfl rfl ?_
 refine ol_nil ?_
 refine cw_seq ?_
 refine cw_region ?_
 refine ol_val (v := (pt G_0 0)) (xr_move rfl rfl) rfl rfl rfl ?_
 refine ol_val (v := (pt G_0 0)) (xr_nilCheck rfl rfl) rfl rfl rfl ?_
 refine ol_val (v := (pt G_0 0)) (xr_fieldAddr (p := 0) (q := 0) rfl fl182_0 rfl) rfl rfl rfl ?_
 refine ol_val (v := V0_0) (xr_load1 (v := V0_0) rfl ag43 rfl (b_0.seg 0 rfl rfl)) rfl rfl rfl ?_
 refine ol_val (v := .int .i64 a1) (xr_move rfl rfl) rfl rfl rfl ?_
 obtain ⟨g6, h⟩ := gs h
 refine ol_val (v := subv 1 V0_0 0 (Int.toNat a1)) (xr_slice_h (K := (kI .u8)) (v := V0_0) rfl Try.underlying43 sz5 rfl R0_0 rfl g6.1 g6.2) rfl rfl rfl ?_
 have r5 : Rd (kI .u8) w (subv 1 V0_0 0 (Int.toNat a1)) (cut a0.rest 0 a1) := R0_0.cut (lo := 0) (hi := a1) (by decide) g6.1 g6.2
 obtain ⟨t7, k8, h⟩ := bs h
 refine ol_op (opv_call rfl cal109 (ac rfl an) (octet_Read.ok fu _ (cut a0.rest 0 a1) (subv 1 V0_0 0 (Int.toNat a1)) (r5) _ k8)) rfl rfl rfl ?_
 rintro _ w10 ⟨rfl, q9⟩
 have b_0 := b_0.gr q9
 have R0_0 := R0_0.gr q9
 have fB := fB.gr q9
 refine ol_val (v := .int .u64 t7) (xr_assign rfl rfl) rfl rfl rfl ?_
 refine ol_nil ?_
 refine cw_seq ?_
 refine cw_region ?_
 refine ol_val (v := (pt G_0 0)) (xr_move rfl rfl) rfl rfl rfl ?_
 refine ol_val (v := (pt G_0 0)) (xr_move rfl rfl) rfl rfl rfl ?_
 refine ol_val (v := (pt G_0 0)) (xr_nilCheck rfl rfl) rfl rfl rfl ?_
 refine ol_val (v := (pt G_0 0)) (xr_fieldAddr (p := 0) (q := 0) rfl fl182_0 rfl) rfl rfl rfl ?_
 refine ol_val (v := V0_0) (xr_load1 (v := V0_0) rfl ag43 rfl (b_0.seg 0 rfl rfl)) rfl rfl rfl ?_
 refine ol_val (v := .int .i64 a1) (xr_move rfl rfl) rfl rfl rfl ?_
 obtain ⟨g12, h⟩ := gs h
 refine ol_val (v := subv 1 V0_0 (Int.toNat a1) (List.length a0.rest)) (xr_slice_l (K := (kI .u8)) (v := V0_0) rfl Try.underlying43 sz5 rfl R0_0 rfl g12.1 g12.2) rfl rfl rfl ?_
 have r11 : Rd (kI .u8) w10 (subv 1 V0_0 (Int.toNat a1) (List.length a0.rest)) (cut a0.rest a1 (List.length a0.rest : Int)) := R0_0.cut (lo := a1) (hi := (List.length a0.rest : Int)) g12.1 g12.2 (Int.le_refl _)
 refine ol_val (v := (pt G_0 0)) (xr_nilCheck rfl rfl) rfl rfl rfl ?_
 refine ol_val (v := (pt G_0 0)) (xr_fieldAddr (p := 0) (q := 0) rfl fl182_0 rfl) rfl rfl rfl ?_
 refine ol_op0 (opv_store (ss' := [Seg.cell (subv 1 V0_0 (Int.toNat a1) (List.length a0.rest)) r11.one]) (xs := cellsOf [Seg.cell (subv 1 V0_0 (Int.toNat a1) (List.length a0.rest)) r11.one]) rfl sz43 rfl rfl (cells_one r11.one) (len_cellsOf _) (one_cellsOf _) b_0 (Spl.segs _ 0 1 [Seg.cell (subv 1 V0_0 (Int.toNat a1) (List.length a0.rest)) r11.one] rfl rfl)) rfl rfl ?_
 rintro _ w14 ⟨b_0, q13⟩
 have r11 := r11.wr q13 (OffR.cut N0_0)
 have fB := fB.wrS q13 rfl
 refine ol_nil ?_
 refine cw_seq ?_
 refine cw_region ?_
 refine ol_val (v := .int .u64 t7) (xr_move rfl rfl) rfl rfl rfl ?_
 refine ol_val (v := .int .i64 (IntKind.i64.wrap t7)) (xr_conv rfl Try.underlying22 Try.underlying3 rfl) rfl rfl rfl ?_
 refine ol_val (v := .int .i64 (IntKind.i64.wrap t7)) (xr_assign rfl rfl) rfl rfl rfl ?_
 refine ol_nil ?_
 refine cw_ret ?_
 repeat (first | with_reducible refine thn_r ?_ | with_reducible refine blk_r ?_)
 obtain rfl := Option.some.inj h
 refine fin_ret1 Try.results131 rfl ?_
 exact ⟨_, rfl, (subv 1 V0_0 (Int.toNat a1) (List.length a0.rest)), r11, (fun _ hN => (OffR.cut hN)), (fun _ hN => (OffRV.cut hN)), rfl, b_0, fB⟩
end Go.Proofs.Ytklhbaghbmndeaa
