/- DirDamage: texts merged, part 3 of 7. The last part proves that the law DirDamage holds for every input. -/
import Derived.Test.YtdifnahlheogdaaGreatDoorPkDirDamage2
set_option maxRecDepth 100000
set_option maxHeartbeats 4000000
set_option linter.unusedVariables false
set_option linter.unusedSimpArgs false
set_option linter.unusedSectionVars false
namespace Go.Yw
open Go Go.Xw
section
variable {Γ : Gm} {P : Program} {C : Ct Γ} {s : St Γ} {o : Oper} {w w' : World} {F F' : Nat → Prop} {β : Bt} {ρ : Env}
theorem bl_map (ρ : Env) : ∀ pl : List (Nat × Operand), BL ρ pl (pl.map fun p => (p.1, evO ρ p.2))
  | [] => trivial
  | p :: pl => ⟨rfl, rfl, bl_map ρ pl⟩
theorem arrF_get {s : Nat} {E : TypeId} : ∀ {n o i : Nat} {f : Nat × TypeId}, (arrF s E n o)[i]? = some f → f = (o + i * s, E)
  | 0, o, i, f, h => by simp [arrF] at h
  | n + 1, o, 0, f, h => by
    simp [arrF] at h
    rw [← h]
    simp
  | n + 1, o, i + 1, f, h => by
    simp only [arrF, List.getElem?_cons_succ] at h
    rw [arrF_get h, Nat.succ_mul]
    congr 1
    omega
theorem lay_ok (hC : CtOk P C) (hs : Sd C s ρ β F w) {fs : List (Nat × TypeId)} {pl : Nat → Option (Nat × Nat)} (hp : ∀ (i : Nat) (f : Nat × TypeId), fs[i]? = some f → ∃ n, pl i = some (f.1, n) ∧ szB P f.2 = some n) :
    ∀ {ps : List (Nat × Operand)} {c c' : SV Γ} {u : Value}, lay C fs c (pMap s ps) = some c' → VR β w F c u → stv 9 c = true → ∃ u', VR β w F c' u' ∧ stv 9 c' = true ∧ Fl pl u.cells.toList (ps.map fun p => (p.1, evO ρ p.2)) u'.cells.toList
  | [], c, c', u, h, hv, hst => by cases h; exact ⟨u, hv, hst, fl_nil⟩
  | p :: ps, c, c', u, h, hv, hst => by
    have h : lay C fs c ((p.1, eo s p.2) :: pMap s ps) = some c' := h
    unfold lay at h
    split at h
    · cases h
    · rename_i f hf
      split at h
      · cases h
      · rename_i tf htf
        split at h
        · rename_i c1 hb hc1
          rw [Bool.and_eq_true] at hb
          split at h
          · rename_i hst1
            obtain ⟨u1, hu1, hsp⟩ := wrc_ok hC.g 9 9 (by omega) hst hv hb.1 (hs.eo p.2) hc1
            obtain ⟨u', hu', hst', hfl⟩ := lay_ok hC hs hp h hu1 hst1
            obtain ⟨n, hn, hsz⟩ := hp _ _ hf
            refine ⟨u', hu', hst', ?_⟩
            have hl : (evO ρ p.2).cells.toList.length = n := by
              have e1 := (szv_ok hC.g 9 hb.1 (hs.eo p.2) 9 (by omega)).1
              have e2 := Nat.eq_of_beq_eq_true hb.2
              have e3 := (hC.tb _ _ htf).size
              rw [hsz] at e3
              rw [e1, e2]
              exact (Option.some.inj e3).symm
            exact fl_cons (v := evO ρ p.2) (xs := (evO ρ p.2).cells.toList) hn (by rw [Array.toArray_toList]) hl hsp hfl
          · cases h
        · cases h
theorem layA_ok (hC : CtOk P C) (hs : Sd C s ρ β F w) {t : Ty Γ.S} {N : Nat} : ∀ {ps : List (Nat × Operand)} {a a' : Arr N (el Γ.toSg t)} {css : List (Ck (sz Γ t))}, layA (sz Γ t) t N a (pMap s ps) = some a' → CK w F t a.l css →
    ∃ css', CK w F t a'.l css' ∧ Fl (fun i => some (i * sz Γ t, sz Γ t)) (css.flatMap (kC (sz Γ t)).enc) (ps.map fun p => (p.1, evO ρ p.2)) (css'.flatMap (kC (sz Γ t)).enc)
  | [], a, a', css, h, hk => by cases h; exact ⟨css, hk, fl_nil⟩
  | p :: ps, a, a', css, h, hk => by
    have h : layA (sz Γ t) t N a ((p.1, eo s p.2) :: pMap s ps) = some a' := h
    unfold layA at h
    split at h
    · rename_i u y hb he
      split at h
      · rename_i y' hy
        have hv := hs.eo p.2
        rw [he] at hv
        have hcl := hv.cells_v
        rw [PV.cst_eq hy] at hcl
        have hlen : (evO ρ p.2).cells.toList.length = sz Γ t := by have := hcl.len hC.g; simpa [szp] using this
        have hl : css.length = N := by rw [hk.len, a.h]
        have hlt := blt_iff.1 hb
        let d : Ck (sz Γ t) := ⟨(evO ρ p.2).cells.toList, hlen, hcl.one⟩
        have hk' : CK w F t (Arr.set a (p.1 : Int) y').l (css.set p.1 d) := by
          simp only [Arr.set, Int.toNat_natCast]
          exact hk.set _ hcl
        obtain ⟨css', h1, h2⟩ := layA_ok hC hs h hk'
        refine ⟨css', h1, ?_⟩
        have hsp := Spl.elem (K := kC (sz Γ t)) css (p.1 : Int) d (o := 0) (x := (evO ρ p.2).cells.toList) (by omega) (by omega) (Spl.whole (by simp [kC, (ix css _).2.1, hlen]))
        simp only [Int.toNat_natCast, Nat.add_zero] at hsp
        exact fl_cons (v := evO ρ p.2) (xs := (evO ρ p.2).cells.toList) rfl (by rw [Array.toArray_toList]) hlen hsp h2
      · cases h
    · cases h
theorem xBuild_ok (hC : CtOk P C) {T : TypeId} {pl : List (Nat × Operand)} (ho : o.op = .build T pl.toArray) : EffOk C P o s (xBuild C s T (pMap s pl)) := by
  unfold xBuild
  split
  · rename_i ti hT
    have ht := hC.tb _ _ hT
    obtain ⟨z, bs, e1, e2, e3, e4, e5⟩ := ht.zero
    obtain ⟨i, hi, hiz, _, _⟩ := elB_parts e1
    have hz : (P.info? T).map (·.zero) = some (some z) := by rw [hi]; simp [hiz]
    split
    · rename_i fs hu
      have htu := ht.u
      rw [hu] at htu
      obtain ⟨⟨d, hd⟩, pls, hpl, hf⟩ := htu
      split
      · rename_i v hst hv
        split
        · rename_i hag
          rw [Bool.and_eq_true] at hag
          refine EffOk.frc ?_
          intro ρ β F w hs
          obtain ⟨u', hu', hst', hfl⟩ := lay_ok hC hs (pl := fun i => pls[i]?) (fun i f h => (hf i f h).2.1) hv (e3 β w F) hst
          have hzz := (aggv_ok 9 hst (e3 β w F)).1 hag.2
          have huu := (aggv_ok 9 hst' hu').1 hag.1
          obtain ⟨sg, q1, q2⟩ := seg_of z.cells.toList e4
          have hz' : z = aggV [sg] := by rw [hzz]; simp [aggV, cellsOf, q1, Value.cells]
          refine ⟨u', xr_build ho (bl_map ρ pl) ?_, hu'⟩
          have := run_build_st (P := P) (w := w) (zs := [sg]) (parts := pl.map fun p => (p.1, evO ρ p.2)) (res := u'.cells.toList) hd (by rw [hz, hz']) hpl (by simpa [cellsOf, q1] using hfl)
          rw [this, Array.toArray_toList, ← huu]
        · trivial
      · trivial
    · rename_i N E hu
      have htu := ht.u
      rw [hu] at htu
      split
      · rename_i te M t a hE hze
        split
        · rename_i a' hb hla
          rw [Bool.and_eq_true] at hb
          have hM := Nat.eq_of_beq_eq_true hb.1
          have hsz := Nat.eq_of_beq_eq_true hb.2
          subst hM
          rw [← hsz] at hla
          intro ρ β F w hs
          have hzv := e3 β w F
          rw [hze] at hzv
          obtain ⟨cs, h1, h2⟩ := hzv.v
          simp [pk, isAgg] at h2
          obtain ⟨css, hk, rfl⟩ := CK.of_flat hC.g h1.arr_inv
          obtain ⟨css', hk', hfl⟩ := layA_ok hC hs hla hk
          obtain ⟨sg, q1, q2⟩ := seg_of (css.flatMap (kC (sz Γ t)).enc) (fun v hv => h1.one v hv)
          have hz' : z = aggV [sg] := by rw [h2]; simp [aggV, cellsOf, q1]
          refine ⟨.agg (css'.flatMap (kC (sz Γ t)).enc).toArray, xr_build ho (bl_map ρ pl) ?_, .of (x := SV.v (.arr M t) a') ⟨_, by have := CL.arr (p := ⟨.arr M t, a'⟩) rfl hk'.flat (CL.nil (w := w) (F := F)); rwa [List.append_nil] at this, rfl⟩⟩
          exact run_build_arr (P := P) (w := w) (s := sz Γ t) (zs := [sg]) (parts := pl.map fun p => (p.1, evO ρ p.2)) htu (by rw [hz, hz']) (by rw [(hC.tb _ _ hE).size, hsz]) (by simpa [cellsOf, q1] using hfl)
        · trivial
      · rename_i te zs hE hze
        split
        · rename_i v hst hla
          split
          · rename_i hag
            refine EffOk.frc ?_
            intro ρ β F w hs
            have hzv := e3 β w F
            rw [hze] at hzv
            obtain ⟨u', hu', hst', hfl⟩ := lay_ok hC hs (pl := fun i => some (i * te.size, te.size)) (fun i f h => by
              rw [arrF_get h]
              exact ⟨te.size, by rw [Nat.zero_add], (hC.tb _ _ hE).size⟩) hla hzv hst
            have hzz := (aggv_ok 9 hst hzv).1 rfl
            have huu := (aggv_ok 9 hst' hu').1 hag
            obtain ⟨sg, q1, q2⟩ := seg_of z.cells.toList e4
            have hz' : z = aggV [sg] := by rw [hzz]; simp [aggV, cellsOf, q1, Value.cells]
            refine ⟨u', xr_build ho (bl_map ρ pl) ?_, hu'⟩
            have := run_build_arr (P := P) (w := w) (s := te.size) (zs := [sg]) (parts := pl.map fun p => (p.1, evO ρ p.2)) (res := u'.cells.toList) htu (by rw [hz, hz']) (hC.tb _ _ hE).size (by simpa [cellsOf, q1] using hfl)
            rw [this, Array.toArray_toList, ← huu]
          · trivial
        · trivial
      · trivial
    · trivial
  · trivial
theorem oMap_vl (hs : Sd C s ρ β F w) : ∀ l : List Operand, VL β w F (oMap s l) (l.map (evO ρ))
  | [] => .nil
  | x :: l => .cons (hs.eo x) (oMap_vl hs l)
theorem toA {α : Type} (a : Array α) : a = a.toList.toArray := by simp
theorem exo_ok (hC : CtOk P C) : EffOk C P o s (exo C s o.op) := by
  generalize hop : o.op = op
  cases op with
  | move x => exact EffOk.frc (move_ok (.inl hop))
  | assign x => exact EffOk.frc (move_ok (.inr hop))
  | pick c a b => exact pick_ok hop
  | alloc T =>
    simp only [exo]
    split
    · rename_i ti hT
      split
      · rename_i hz; exact ⟨alloc_ok hC hop hT hz, rfl⟩
      · trivial
    · trivial
  | box T x =>
    refine EffOk.frc (v := eo s x) (k := fun v => match stv 9 v with | true => .eff (s.new (.box T v)) (.ptr s.nx 0) | false => .stuck) ?_
    split
    · rename_i hz; exact ⟨box_ok hop hz, rfl⟩
    · trivial
  | build T ps => exact xBuild_ok hC (by rw [hop, ← toA])
  | buildSlice T n ps => exact xLit_ok hC (by rw [hop, ← toA])
  | load T x => exact xLoad_ok hC hop
  | store T x y => exact xStore_ok hC hop
  | nilCheck x =>
    simp only [exo]
    split
    · rename_i h; intro ρ β F w hs; have e := hs.eo x; rw [h] at e; obtain ⟨g, e0, e1⟩ := e.ptr; exact ⟨_, xr_nilCheck hop e1, by rw [e1] at e; exact e⟩
    · rename_i h; intro ρ β F w hs; have e := hs.eo x; rw [h] at e; obtain ⟨_, _, _, _, _, _, _, e1⟩ := e.pel; exact ⟨_, xr_nilCheck hop e1, by rw [e1] at e; exact e⟩
    · rename_i h; intro ρ β F w hs; have e := hs.eo x; rw [h] at e; obtain ⟨_, _, _, _, e1⟩ := e.pea; exact ⟨_, xr_nilCheck hop e1, by rw [e1] at e; exact e⟩
    · rename_i h; intro ρ β F w hs; have e := hs.eo x; rw [h] at e; obtain ⟨_, _, _, _, e1⟩ := e.pfz; exact ⟨_, xr_nilCheck hop e1, by rw [e1] at e; exact e⟩
    · rename_i h; intro ρ β F w hs; have e := hs.eo x; rw [h] at e; have e1 := e.glb; exact ⟨_, xr_nilCheck hop e1, by rw [e1] at e; exact e⟩
    · trivial
  | binOp op T x y T' => exact bin_ok hC hop
  | unOp op T x =>
    simp only [exo]
    split
    · rename_i h; intro ρ β F w hs; have e := hs.eo x; rw [h] at e; exact ⟨_, xr_not hop e.bool, vr_bool _⟩
    · rename_i h; intro ρ β F w hs; have e := hs.eo x; rw [h] at e; exact ⟨_, xr_neg hop e.int, vr_int _ _⟩
    · trivial
  | convert T T' x => exact xConv_ok hC hop
  | makeInterface T x =>
    refine EffOk.frc (v := eo s x) (k := fun v => match stv 9 v, C.tb T with | true, some ⟨.st _, _, _, _, _⟩ => .ret (.ifc T v) | _, _ => .stuck) ?_
    split
    · rename_i hst hT
      intro ρ β F w hs
      obtain ⟨⟨d, hd⟩, _⟩ := (hC.tb _ _ hT).u
      refine ⟨.iface T (evO ρ x), ?_, VL.ifc (hs.eo x) .nil⟩
      simp only [execOp, hop]
      simp [Instr.makeInterface, run_underlying hd]
    · trivial
  | typeAssert x xT T ok =>
    cases ok with
    | false =>
      simp only [exo]
      split
      · rename_i he _; cases he
      · rename_i T' v he hx
        split
        · rename_i f1 f2 f3 f4 z hT
          split
          · rename_i hb
            have hTT := Nat.eq_of_beq_eq_true hb
            subst hTT
            refine EffOk.frc (v := v) (k := .ret) ?_
            intro ρ β F w hs
            have e := hs.eo x
            rw [hx] at e
            obtain ⟨y, hy, hxe⟩ := e.ifc
            obtain ⟨⟨d, hd⟩, _⟩ := (hC.tb _ _ hT).u
            refine ⟨y, ?_, hy⟩
            simp only [execOp, hop]
            simp [Instr.typeAssert, run_underlying hd, hxe]
          · trivial
        · trivial
      · trivial
    | true =>
      simp only [exo]
      split
      · rename_i T' v he hx
        split
        · rename_i f1 f2 f3 f4 z hT
          split
          · rename_i hb
            have hTT := Nat.eq_of_beq_eq_true hb
            subst hTT
            refine EffOk.frc (v := v) (k := fun v => .ret (.tup [v, .v .bool true])) ?_
            intro ρ β F w hs
            have e := hs.eo x
            rw [hx] at e
            obtain ⟨y, hy, hxe⟩ := e.ifc
            obtain ⟨⟨d, hd⟩, _⟩ := (hC.tb _ _ hT).u
            refine ⟨.tuple #[y, .bool true], ?_, VL.tup (.cons hy (.cons (vr_bool _) .nil)) .nil⟩
            simp only [execOp, hop]
            simp [Instr.typeAssert, run_underlying hd, hxe]
          · rename_i hb
            have hTT : ¬ T' = T := fun e => by rw [e, Nat.beq_refl] at hb; cases hb
            intro ρ β F w hs
            have e := hs.eo x
            rw [hx] at e
            obtain ⟨y, hy, hxe⟩ := e.ifc
            obtain ⟨⟨d, hd⟩, _⟩ := (hC.tb _ _ hT).u
            obtain ⟨z0, bs, h1, _, h2, h3, h4⟩ := (hC.tb _ _ hT).zero
            obtain ⟨i, hi, hiz, _, _⟩ := elB_parts h1
            refine ⟨.tuple #[z0, .bool false], ?_, VL.tup (.cons (h2 _ _ _) (.cons (vr_bool _) .nil)) .nil⟩
            simp only [execOp, hop]
            simp [Instr.typeAssert, run_underlying hd, hxe, hTT, zeroValue, typeInfo, hi, hiz]
        · trivial
      · rename_i he _; cases he
      · trivial
  | makeFunc fn fi cs =>
    simp only [exo]
    split
    · rename_i f hfi
      intro ρ β F w hs
      have hfi' : fi = #[] := by rw [toA fi, hfi]
      subst hfi'
      exact ⟨_, xr_makeFunc (by rw [hop, ← toA]) rfl, VL.fn (oMap_vl hs _) .nil⟩
    · trivial
  | makeSlice T a b => exact xMake_ok hC hop
  | slice T x lo hi mx =>
    simp only [exo]
    split
    · exact xSlice_ok hC hop
    · trivial
  | fieldAddr T x i => exact xFldA_ok hC hop
  | field T x i => exact xFld_ok hC hop
  | indexAddr T x i => exact xIdxA_ok hC hop
  | index T x i => exact xIdx_ok hC hop
  | range T x =>
    simp only [exo]
    split
    · rename_i hT hx; exact ⟨range_ok hC hop hT rfl hx, rfl⟩
    · trivial
  | next x str =>
    cases str with
    | true => exact xNext_ok hop
    | false => trivial
  | extract x i =>
    simp only [exo]
    split
    · rename_i l hx
      split
      · rename_i v hv
        refine EffOk.frc ?_
        intro ρ β F w hs
        have e := hs.eo x
        rw [hx] at e
        obtain ⟨us, h1, h2⟩ := e.tup
        obtain ⟨u, h3, h4⟩ := h1.get i v hv
        exact ⟨u, xr_extract hop h2 (by simpa using h3), h4⟩
      · trivial
    · trivial
  | call c =>
    obtain ⟨cal, args, ats⟩ := c
    cases cal with
    | value x =>
      simp only [exo]
      split
      · rename_i f cs hx
        intro hc ρ β F w hs
        have e := hs.eo x
        rw [hx] at e
        obtain ⟨us, h1, h2⟩ := e.fn
        refine ⟨args.toList.map (evO ρ) ++ us, (oMap_vl hs _).append h1, ?_⟩
        unfold calB at hc
        obtain ⟨fn, hf, he⟩ := Option.map_eq_some_iff.1 hc
        simp only [Bool.and_eq_true, Bool.not_eq_true'] at he
        have h5 : ¬ fn.name = "runtime.NumGoroutine" := by simpa using he.1
        have h6 : ¬ fn.body = none := by intro e; have := he.2; rw [e] at this; simp at this
        have h7 : args.map (evO ρ) ++ us.toArray = (args.toList.map (evO ρ) ++ us).toArray := by
          apply Array.toList_inj.1; simp
        simp only [execOp, hop, resolve, h2]
        simp [invoke, callFunc, Deferred.ofValue, hf, h5, h6, h7]
      · trivial
    | invoke r m =>
      simp only [exo]
      split
      · rename_i T x hx
        intro ρ β F w hs
        have e := hs.eo r
        rw [hx] at e
        obtain ⟨u, h1, h2⟩ := e.ifc
        refine ⟨u, args.toList.map (evO ρ), h1, oMap_vl hs _, ?_⟩
        have h7 : args.map (evO ρ) = (args.toList.map (evO ρ)).toArray := by apply Array.toList_inj.1; simp
        simp only [execOp, hop, resolve, h2]
        have h8 : List.take args.size (List.map (evO ρ) args.toList) = List.map (evO ρ) args.toList := List.take_of_length_le (by simp)
        simp [invoke, h7, h8]
      · trivial
    | builtin b =>
      simp only [exo]
      split
      · rename_i x T h1 h2 h3
        have hb : b = .len := by cases b <;> simp [bNm] at h1; rfl
        subst hb
        exact xLen_ok hC (by rw [hop, toA args, h2, toA ats, h3])
      · rename_i x y T T' h1 h2 h3
        have hb : b = .append := by cases b <;> simp [bNm] at h1; rfl
        subst hb
        exact xApp_ok hC (by rw [hop, toA args, h2, toA ats, h3])
      · rename_i x y T T' h1 h2 h3
        have hb : b = .copy := by cases b <;> simp [bNm] at h1; rfl
        subst hb
        exact xCopy_ok hC (T' := T') (by rw [hop, toA args, h2, toA ats, h3])
      · rename_i x y h1 h2
        have hb : b = .min := by cases b <;> simp [bNm] at h1; rfl
        subst hb
        split
        · rename_i e1 e2
          split
          · rename_i hk
            have := ik_eq hk
            subst this
            intro ρ β F w hs
            have f1 := hs.eo x
            have f2 := hs.eo y
            rw [e1] at f1
            rw [e2] at f2
            exact ⟨_, xr_min2 (by rw [hop, toA args, h2]) f1.int f2.int, vr_int _ _⟩
          · trivial
        · trivial
      · rename_i x y h1 h2
        have hb : b = .max := by cases b <;> simp [bNm] at h1; rfl
        subst hb
        split
        · rename_i e1 e2
          split
          · rename_i hk
            have := ik_eq hk
            subst this
            intro ρ β F w hs
            have f1 := hs.eo x
            have f2 := hs.eo y
            rw [e1] at f1
            rw [e2] at f2
            exact ⟨_, xr_max2 (by rw [hop, toA args, h2]) f1.int f2.int, vr_int _ _⟩
          · trivial
        · trivial
      · trivial
  | _ => trivial
end
section
variable {Γ : Gm}
structure Cx (k : Nat) where
  w0 : World
  F0 : Nat → Prop
  O0 : Nat → Prop
  β0 : Bt
  bk : ∀ b, k ≤ b → β0 b = none
structure MtB {k : Nat} (X : Cx k) (C : Ct Γ) (s : St Γ) (ρ : Env) (w : World) (β : Bt) (F : Nat → Prop) : Prop where
  sd : Sd C s ρ β F w
  fix : ∀ b v, X.β0 b = some v → β b = some v
  fr : Fr X.O0 X.w0 w
  fm : ∀ k, X.F0 k → F k
  fb : ∀ k, F k → X.F0 k ∨ X.O0 k ∨ X.w0.heap.size ≤ k
  ow : ∀ b g, own β s.L b g → X.O0 g ∨ X.w0.heap.size ≤ g
def Mt {k : Nat} (X : Cx k) (C : Ct Γ) (s : St Γ) (ρ : Env) (w : World) : Prop := ∃ β F, MtB X C s ρ w β F
variable {kp : Nat} {X : Cx kp} {P : Program} {C : Ct Γ} {N : Nat} {s s' : St Γ} {o : Oper} {w w' : World} {F F' : Nat → Prop} {β : Bt} {ρ : Env}
theorem dis_same (hs : HS C β F w s.L) {β' : Bt} (h : Evo β F w (fun g => ∃ b, own β s.L b g) β' F' w') : ∀ k, F k → w'.heap[k]? = w.heap[k]? :=
  fun k hk => h.fr.blk k (hs.fsz k hk) (fun ⟨b, hb⟩ => hs.dis b k hb hk)
theorem MtB.left (h : MtB X C s ρ w β F) {v : SV Γ} {u : Value} (hl : Left C s β F w v s' u w') (hr : ∀ t, VR β w F (s'.ρ t) (ρ t)) : ∃ β' F', MtB X C s' ρ w' β' F' ∧ VR β' w' F' v u := by
  obtain ⟨β', F', h1, h2, h3, h4, h5⟩ := hl
  have same := dis_same h.sd.hs h1
  refine ⟨β', F', ⟨⟨h2, fun t => (hr t).mono h1.ext h1.fm same, h3⟩, fun b v hv => h1.ext b v (h.fix b v hv), ?_, fun k hk => h1.fm k (h.fm k hk), fun k hk => ?_, fun b g hb => ?_⟩, h4⟩
  · refine h.fr.trans (h1.fr.mono (T := fun g => X.O0 g ∨ X.w0.heap.size ≤ g) fun j ⟨b, hb⟩ => h.ow b j hb) fun j hj ho => ?_
    rcases ho with ho | ho
    · exact ho
    · omega
  · rcases h1.fb k hk with h' | ⟨b, hb⟩ | h'
    · exact h.fb k h'
    · exact .inr (h.ow b k hb)
    · exact .inr (.inr (Nat.le_trans h.fr.size h'))
  · rcases h5 b g hb with ⟨b', hb'⟩ | h'
    · exact h.ow b' g hb'
    · exact .inr (Nat.le_trans h.fr.size h')
theorem MtB.put (h : MtB X C s ρ w β F) {v : SV Γ} {u : Value} (hv : VR β w F v u) (d : Nat) : Mt X C (s.put (some d) v) (Go.Xw.upd ρ d u) w := by
  refine ⟨β, F, ⟨h.sd.hs, fun t => ?_, h.sd.nx⟩, h.fix, h.fr, h.fm, h.fb, h.ow⟩
  by_cases e : t = d
  · subst e
    have : Go.Xw.upd ρ t u t = u := by simp [Go.Xw.upd]
    rw [this]
    simp only [St.put, upd_same]
    exact hv
  · have hb : Nat.beq t d = false := by
      cases hb : Nat.beq t d
      · rfl
      · exact absurd (Nat.eq_of_beq_eq_true hb) e
    have : Go.Xw.upd ρ d u t = ρ t := by simp [Go.Xw.upd, hb]
    rw [this]
    simp only [St.put]
    rw [upd_ne _ _ e]
    exact h.sd.vr t
theorem Mt.rho (h : Mt X C s ρ w) (hr : RhoOk C s s') (e1 : s'.L = s.L) (e2 : s'.nx = s.nx) : Mt X C s' ρ w := by
  obtain ⟨β, F, h⟩ := h
  exact ⟨β, F, ⟨by rw [e1]; exact h.sd.hs, hr ρ β F w h.sd, by rw [e2]; exact h.sd.nx⟩, h.fix, h.fr, h.fm, h.fb, by rw [e1]; exact h.ow⟩
def CallR (P : Program) (C : Ct Γ) (f : FuncId) (l : List (SV Γ)) (s : St Γ) (v : SV Γ) (s' : St Γ) : Prop :=
  calB P f = some true ∧ s'.ρ = s.ρ ∧ ∀ ρ β F w, Sd C s ρ β F w → ∀ us, VL β w F l us → Calls P f us.toArray w fun e w' => ∃ u, e = .returned u ∧ Left C s β F w v s' u w'
def MethR (P : Program) (T : TypeId) (m : String) (f : FuncId) : Prop := ∀ (u : Value) (us : Array Value) (w : World), (callMethod (.iface T u) m us).run P w = (callFunc f (#[u] ++ us)).run P w
def wex (P : Program) (C : Ct Γ) (o : Oper) (s : St Γ) (K : St Γ → Prop) : Prop := match exo C s o.op with
  | .ret v => K (s.put o.dst v)
  | .need g v => g.p ∧ K (s.put o.dst v)
  | .eff s' v => K (s'.put o.dst v)
  | .neff g s' v => g.p ∧ K (s'.put o.dst v)
  | .br b s1 v1 s2 v2 => @Bool.rec (fun _ => Prop) (frc v2 (fun v => K (s2.put o.dst v)) False) (frc v1 (fun v => K (s1.put o.dst v)) False) b
  | .call f l => ∃ v s', CallR P C f l s v s' ∧ K (s'.put o.dst v)
  | .inv T x m l => ∃ f, MethR P T m f ∧ ∃ v s', CallR P C f (x :: l) s v s' ∧ K (s'.put o.dst v)
  | .stuck => False
def wpo (P : Program) (C : Ct Γ) (ops : List Oper) : List Oper → St Γ → (St Γ → Prop) → Prop
  | [], s, K => K s
  | o :: l, s, K => match o.guard with
    | none => wex P C o s fun s => wpo P C ops l s K
    | some (j, want) => match (ops[j]?).bind (·.dst), o.dst with
      | some t, some _ => match s.ρ t with
        | .v .bool b => @Bool.rec (fun _ => Prop)
            (cond (cond want false true) (wex P C o (setB s (.tmp t) false) fun s => wpo P C ops l s K) (wpo P C ops l ((setB s (.tmp t) false).put o.dst (.tup [])) K))
            (cond (cond want true false) (wex P C o (setB s (.tmp t) true) fun s => wpo P C ops l s K) (wpo P C ops l ((setB s (.tmp t) true).put o.dst (.tup [])) K)) b
        | .tup [] => wpo P C ops l (s.put o.dst (.tup [])) K
        | _ => False
      | _, _ => False
def dstB (N : Nat) (l : List Oper) : Bool := l.all fun o => match o.dst with | some d => Nat.blt d N | none => true
theorem calls_fn {f : FuncId} {us : List Value} {R : Ending → World → Prop} (hc : calB P f = some true) (h : Calls P f us.toArray w R) {e : Sem Next} (he : e.run P w = (callFunc f us.toArray).run P w) : e.run P w = .ok (.enter f us.toArray) w := by
  rw [he]
  unfold calB at hc
  obtain ⟨fn, hf, hh⟩ := Option.map_eq_some_iff.1 hc
  simp only [Bool.and_eq_true, Bool.not_eq_true'] at hh
  have h5 : ¬ fn.name = "runtime.NumGoroutine" := by simpa using hh.1
  have h6 : ¬ fn.body = none := by intro e; have := hh.2; rw [e] at this; simp at this
  simp [callFunc, hf, h5, h6]
theorem wex_ok (hC : CtOk P C) {K : St Γ → Prop} (h : wex P C o s K) (hm : Mt X C s ρ w) : OpV P o ρ w fun u w' => ∃ s' v, (∃ β F, MtB X C s' ρ w' β F ∧ VR β w' F v u) ∧ K (s'.put o.dst v) := by
  obtain ⟨β, F, hm⟩ := hm
  have he := exo_ok (s := s) (o := o) hC
  unfold wex at h
  have done : ∀ {v : SV Γ} {s' : St Γ}, OpOk C P o s v s' → RhoOk C s s' → K (s'.put o.dst v) → OpV P o ρ w fun u w' => ∃ s' v, (∃ β F, MtB X C s' ρ w' β F ∧ VR β w' F v u) ∧ K (s'.put o.dst v) := by
    intro v s' h1 h2 hk
    refine (h1 ρ β F w hm.sd).mono fun u w' hl => ?_
    obtain ⟨β', F', j1, j2⟩ := hm.left hl (h2 ρ β F w hm.sd)
    exact ⟨s', v, ⟨β', F', j1, j2⟩, hk⟩
  have rr : ∀ {s' : St Γ}, s'.ρ = s.ρ → RhoOk C s s' := fun e ρ β F w hs t => by rw [e]; exact hs.vr t
  have called : ∀ {f : FuncId} {l : List (SV Γ)} {us : List Value} {v : SV Γ} {s' : St Γ}, VL β w F l us → (execOp (evO ρ) o).run P w = .ok (.enter f us.toArray) w → CallR P C f l s v s' → K (s'.put o.dst v) → OpV P o ρ w fun u w' => ∃ s' v, (∃ β F, MtB X C s' ρ w' β F ∧ VR β w' F v u) ∧ K (s'.put o.dst v) := by
    intro f l us v s' hl hrun hc hk
    unfold OpV
    rw [hrun]
    refine Calls.mono (hc.2.2 ρ β F w hm.sd us hl) ?_
    rintro e w' ⟨u, rfl, hleft⟩
    obtain ⟨β', F', j1, j2⟩ := hm.left hleft (rr hc.2.1 ρ β F w hm.sd)
    exact ⟨u, rfl, s', v, ⟨β', F', j1, j2⟩, hk⟩
  generalize exo C s o.op = ef at h he
  cases ef with
  | ret v => exact done (OpPure.ok he) (rr rfl) h
  | need g v => exact done (OpPure.ok (he h.1)) (rr rfl) h.2
  | eff s' v => exact done he.1 (rr he.2) h
  | neff g s' v => exact done (he h.1).1 (rr (he h.1).2) h.2
  | br b s1 v1 s2 v2 =>
    cases b with
    | true =>
      have h : frc v1 (fun v => K (s1.put o.dst v)) False := h
      rcases frc_eq (v := v1) (k := fun v => K (s1.put o.dst v)) (e := False) with e | e <;> rw [e] at h
      · exact done (he.1 rfl).1 (he.1 rfl).2 h
      · exact h.elim
    | false =>
      have h : frc v2 (fun v => K (s2.put o.dst v)) False := h
      rcases frc_eq (v := v2) (k := fun v => K (s2.put o.dst v)) (e := False) with e | e <;> rw [e] at h
      · exact done (he.2 rfl).1 (he.2 rfl).2 h
      · exact h.elim
  | call f l =>
    obtain ⟨v, s', hc, hk⟩ := h
    obtain ⟨us, hl, hrun⟩ := he hc.1 ρ β F w hm.sd
    exact called hl hrun hc hk
  | inv T x m l =>
    obtain ⟨f, hmeth, v, s', hc, hk⟩ := h
    obtain ⟨u, us, hx, hl, hrun⟩ := he ρ β F w hm.sd
    have hl' : VL β w F (x :: l) (u :: us) := .cons hx hl
    refine called hl' ?_ hc hk
    refine calls_fn hc.1 (hc.2.2 ρ β F w hm.sd _ hl') ?_
    rw [hrun, hmeth]
    congr 2
    apply Array.toList_inj.1; simp
  | stuck => exact h.elim
theorem wex_ol (hC : CtOk P C) {K : St Γ → Prop} {Q : Exit → Env → World → Prop} {ops : Array Oper} {l : List Oper} (hd : dstB N [o] = true) (hg : o.guard = none) (h : wex P C o s K) (hm : Mt X C s ρ w) (k : ∀ s' ρ' w', K s' → Mt X C s' ρ' w' → OL P N ops Q l ρ' w') : OL P N ops Q (o :: l) ρ w := by
  have hv := wex_ok hC h hm
  cases hdst : o.dst with
  | some d =>
    have hd' : Nat.blt d N = true := by simpa [dstB, hdst] using hd
    refine ol_op hv hdst hd' hg ?_
    rintro u w' ⟨s', v, ⟨β, F, h1, h2⟩, hk⟩
    rw [hdst] at hk
    exact k _ _ _ hk (h1.put h2 d)
  | none =>
    refine ol_op0 hv hdst hg ?_
    rintro u w' ⟨s', v, ⟨β, F, h1, h2⟩, hk⟩
    rw [hdst] at hk
    exact k _ _ _ hk ⟨β, F, h1⟩
end
section
variable {Γ : Gm} {kp : Nat} {X : Cx kp} {P : Program} {C : Ct Γ} {N : Nat} {s s' : St Γ} {o : Oper} {w w' : World} {F F' : Nat → Prop} {β : Bt} {ρ : Env}
theorem setB_eo {t : Tmp} {b : Bool} (h : s.ρ t = .v .bool b) : eo s (.tmp t) = .v .bool b := h
theorem wpo_ok (hC : CtOk P C) {ops : List Oper} {Q : Exit → Env → World → Prop} {K : St Γ → Prop} : ∀ {l : List Oper} {s : St Γ} {ρ : Env} {w : World}, dstB N l = true → wpo P C ops l s K → Mt X C s ρ w → (∀ s' ρ' w', K s' → Mt X C s' ρ' w' → Q .normal ρ' w') → OL P N ops.toArray Q l ρ w
  | [], s, ρ, w, hd, h, hm, k => ol_nil (k _ _ _ h hm)
  | o :: l, s, ρ, w, hd, h, hm, k => by
    have hd1 : dstB N [o] = true := by simp [dstB] at hd ⊢; exact hd.1
    have hd2 : dstB N l = true := by simp [dstB] at hd ⊢; exact hd.2
    unfold wpo at h
    split at h
    · rename_i hg
      exact wex_ol hC hd1 hg h hm fun s' ρ' w' h' hm' => wpo_ok hC hd2 h' hm' k
    · rename_i j want hg
      split at h
      · rename_i t dd hj hdst
        have hj' : (ops.toArray[j]?).bind (·.dst) = some t := by simpa using hj
        have skip : ∀ {s1 : St Γ}, Mt X C s1 ρ w → wpo P C ops l (s1.put o.dst (.tup [])) K → (ρ t = .bool (!want) ∨ ρ t = undef) → OL P N ops.toArray Q (o :: l) ρ w := by
          intro s1 hm1 h1 ht
          have hd' : Nat.blt dd N = true := by simpa [dstB, hdst] using hd1
          rw [hdst] at h1
          obtain ⟨β, F, hm1⟩ := hm1
          have hm2 := hm1.put (v := .tup []) (u := undef) (VL.tup .nil .nil) dd
          rcases ht with ht | ht
          · exact ol_gskip hdst hd' hg hj' ht rfl (wpo_ok hC hd2 h1 hm2 k)
          · exact ol_uskip hdst hd' hg hj' ht (wpo_ok hC hd2 h1 hm2 k)
        have run : ∀ {s1 : St Γ}, Mt X C s1 ρ w → wex P C o s1 (fun s => wpo P C ops l s K) → ρ t = .bool want → OL P N ops.toArray Q (o :: l) ρ w := by
          intro s1 hm1 h1 ht
          have hv := wex_ok hC h1 hm1
          have hd' : Nat.blt dd N = true := by simpa [dstB, hdst] using hd1
          refine ol_gop hv hdst hd' hg hj' ht rfl ?_
          rintro u w' ⟨s', v, ⟨β, F, h2, h3⟩, hk⟩
          rw [hdst] at hk
          exact wpo_ok hC hd2 hk (h2.put h3 dd) k
        split at h
        · rename_i b hb
          have hbv : ρ t = .bool b := by
            obtain ⟨β, F, hmm⟩ := hm
            have := hmm.sd.vr t
            rw [hb] at this
            exact this.bool
          have hm1 : Mt X C (setB s (.tmp t) b) ρ w := hm.rho (setB_ok (setB_eo hb)) rfl rfl
          cases b with
          | true =>
            have h : cond (cond want true false) (wex P C o (setB s (.tmp t) true) fun s => wpo P C ops l s K) (wpo P C ops l ((setB s (.tmp t) true).put o.dst (.tup [])) K) := h
            cases want with
            | true => exact run hm1 h hbv
            | false => exact skip hm1 h (.inl hbv)
          | false =>
            have h : cond (cond want false true) (wex P C o (setB s (.tmp t) false) fun s => wpo P C ops l s K) (wpo P C ops l ((setB s (.tmp t) false).put o.dst (.tup [])) K) := h
            cases want with
            | true => exact skip hm1 h (.inl hbv)
            | false => exact run hm1 h hbv
        · rename_i hb
          refine skip hm h (.inr ?_)
          obtain ⟨β, F, hmm⟩ := hm
          have := hmm.sd.vr t
          rw [hb] at this
          obtain ⟨us, h1, h2⟩ := this.tup
          rw [h1.nil_inv] at h2
          exact h2
        · exact h.elim
      · exact h.elim
def dstC (N : Nat) : Code → Bool
  | .region _ ops _ => dstB N ops.toList
  | .seq a b => dstC N a && dstC N b
  | .cond _ a b => dstC N a && dstC N b
  | .block _ c => dstC N c
  | .loop c => dstC N c
  | _ => true
def T {k : Nat} (X : Cx k) (P : Program) (C : Ct Γ) (N : Nat) (c : Code) (s : St Γ) (K : Exit → St Γ → Prop) : Prop :=
  dstC N c = true → ∀ ρ w, Mt X C s ρ w → CW P N c (fun e ρ' w' => ∃ s', K e s' ∧ Mt X C s' ρ' w') ρ w
def nlq : Op → Bool
  | .binOp _ _ _ (.const (.slice none 0 0)) _ => true
  | _ => false
def pln (l : List Oper) : Bool := match l with
  | [] => true
  | o :: l => match o.guard with
    | none => match nlq o.op with
      | true => false
      | false => pln l
    | some _ => false
def ev {k : Nat} (X : Cx k) (P : Program) (C : Ct Γ) (N : Nat) : Code → St Γ → (Exit → St Γ → Prop) → Prop
  | .skip, s, K => K .normal s
  | .label _, s, K => K .normal s
  | .ret, s, K => K .ret s
  | .exit id, s, K => K (.exit id) s
  | .seq a b, s, K => ev X P C N a s fun e s' => match e with
    | .normal => ev X P C N b s' K
    | e => K e s'
  | .block id c, s, K => ev X P C N c s fun e s' => match e with
    | .exit i => cond (Nat.beq i id) (K .normal s') (K (.exit i) s')
    | e => K e s'
  | .region id ops draw, s, K => match draw with
    | true => T X P C N (.region id ops true) s K
    | false => match pln ops.toList with
      | true => wpo P C [] ops.toList s (K .normal)
      | false => T X P C N (.region id ops false) s K
  | c, s, K => T X P C N c s K
theorem pln_wpo {P : Program} {C : Ct Γ} {ops ops' : List Oper} {K : St Γ → Prop} : ∀ {l : List Oper} {s : St Γ}, pln l = true → (wpo P C ops l s K ↔ wpo P C ops' l s K)
  | [], s, h => Iff.rfl
  | o :: l, s, h => by
    unfold pln at h
    split at h
    · rename_i hg
      split at h
      · cases h
      unfold wpo
      rw [hg]
      simp only
      have : (fun s => wpo P C ops l s K) = (fun s => wpo P C ops' l s K) := by
        funext s
        exact propext (pln_wpo h)
      rw [this]
    · cases h
theorem t_reg (hC : CtOk P C) {id : Nat} {ops : Array Oper} {K : Exit → St Γ → Prop} (h : wpo P C ops.toList ops.toList s (K .normal)) : T X P C N (.region id ops false) s K := by
  intro hd ρ w hm
  simp only [dstC] at hd
  have : Code.region id ops false = Code.region id ops.toList.toArray false := by rw [Array.toArray_toList]
  rw [this]
  exact cw_region (wpo_ok hC hd h hm fun s' ρ' w' hk hm' => ⟨s', hk, hm'⟩)
theorem ev_ok (hC : CtOk P C) : ∀ {c : Code} {s : St Γ} {K : Exit → St Γ → Prop}, ev X P C N c s K → T X P C N c s K
  | .skip, s, K, h => fun _ ρ w hm => cw_skip ⟨s, h, hm⟩
  | .label _, s, K, h => fun _ ρ w hm => cw_label ⟨s, h, hm⟩
  | .ret, s, K, h => fun _ ρ w hm => cw_ret ⟨s, h, hm⟩
  | .exit id, s, K, h => fun _ ρ w hm => cw_exit ⟨s, h, hm⟩
  | .seq a b, s, K, h => fun hd ρ w hm => by
    simp only [dstC, Bool.and_eq_true] at hd
    refine cw_seq (cw_mono (ev_ok (c := a) hC h hd.1 ρ w hm) ?_)
    rintro e ρ' w' ⟨s', hk, hm'⟩
    cases e with
    | normal => exact ev_ok (c := b) hC hk hd.2 ρ' w' hm'
    | _ => exact ⟨s', hk, hm'⟩
  | .block id c, s, K, h => fun hd ρ w hm => by
    simp only [dstC] at hd
    refine cw_block (cw_mono (ev_ok (c := c) hC h hd ρ w hm) ?_)
    rintro e ρ' w' ⟨s', hk, hm'⟩
    cases e with
    | exit i =>
      simp only at hk
      simp only [Go.Xw.blk]
      cases hb : Nat.beq i id <;> rw [hb] at hk
      · exact ⟨s', hk, hm'⟩
      · exact ⟨s', hk, hm'⟩
    | _ => exact ⟨s', hk, hm'⟩
  | .region id ops true, s, K, h => h
  | .region id ops false, s, K, h => by
    have h : match pln ops.toList with | true => wpo P C [] ops.toList s (K .normal) | false => T X P C N (.region id ops false) s K := h
    split at h
    · rename_i hp
      exact t_reg hC ((pln_wpo hp).1 h)
    · exact h
  | .cond _ _ _, s, K, h => h
  | .loop _, s, K, h => h
  | .rangeFunc _ _ _ _, s, K, h => h
  | .scope _, s, K, h => h
  | .goto _, s, K, h => h
  | .refuse _, s, K, h => h
end
section
variable {Γ : Gm}
abbrev Mp := List (Nat × Option Nat)
def mget : Mp → Nat → Option (Option Nat)
  | [], _ => none
  | (a, j) :: m, i => match Nat.beq a i with
    | true => some j
    | false => mget m i
def madd (i : Nat) (j : Option Nat) (m : Mp) : Mp := match mget m i with
  | none => (i, j) :: m
  | some _ => m
def mtL (f : SV Γ → SV Γ → Mp → Mp) : List (SV Γ) → List (SV Γ) → Mp → Mp
  | x :: xs, y :: ys, m => mtL f xs ys (f x y m)
  | _, _, m => m
def mtv : Nat → SV Γ → SV Γ → Mp → Mp
  | 0, _, _, m => m
  | n + 1, x, y, m => match x with
    | .sl i _ _ => match y with | .sl j _ _ => madd i (some j) m | .nils => madd i none m | _ => m
    | .ptr i _ => match y with | .ptr j _ => madd i (some j) m | _ => m
    | .pel i _ _ _ _ => match y with | .pel j _ _ _ _ => madd i (some j) m | _ => m
    | .pea i _ _ _ _ _ => match y with | .pea j _ _ _ _ _ => madd i (some j) m | _ => m
    | .asl i _ _ _ _ => match y with | .asl j _ _ _ _ => madd i (some j) m | _ => m
    | .asp i _ _ => match y with | .asp j _ _ => madd i (some j) m | _ => m
    | .agg l => match y with | .agg l' => mtL (mtv n) l l' m | _ => m
    | .tup l => match y with | .tup l' => mtL (mtv n) l l' m | _ => m
    | .fn _ l => match y with | .fn _ l' => mtL (mtv n) l l' m | _ => m
    | .ifc _ x => match y with | .ifc _ y => mtv n x y m | _ => m
    | _ => m
def mtr (L : Nat → Option (Res Γ)) : List (Res Γ) → Nat → Mp → Mp
  | [], _, m => m
  | r :: rs, i, m => match r with
    | .box _ c => match mget m i with
      | some (some j) => match L j with
        | some (.box _ c') => mtr L rs (Nat.succ i) (mtv 9 c c' m)
        | _ => mtr L rs (Nat.succ i) m
      | _ => mtr L rs (Nat.succ i) m
    | _ => mtr L rs (Nat.succ i) m
def fzL (f : SV Γ → SV Γ → List Nat) : List (SV Γ) → List (SV Γ) → List Nat
  | x :: xs, y :: ys => f x y ++ fzL f xs ys
  | _, _ => []
def fzv : Nat → SV Γ → SV Γ → List Nat
  | 0, _, _ => []
  | n + 1, x, y => match x with
    | .v _ _ => ids 9 y
    | .agg l => match y with | .agg l' => fzL (fzv n) l l' | .v _ _ => [] | _ => []
    | .tup l => match y with | .tup l' => fzL (fzv n) l l' | _ => []
    | .fn _ l => match y with | .fn _ l' => fzL (fzv n) l l' | _ => []
    | .ifc _ x => match y with | .ifc _ y => fzv n x y | _ => []
    | _ => []
def fzr (L : Nat → Option (Res Γ)) (m : Mp) : List (Res Γ) → Nat → List Nat
  | [], _ => []
  | r :: rs, i => match r with
    | .box _ c => match mget m i with
      | some (some j) => match L j with
        | some (.box _ c') => fzv 9 c c' ++ fzr L m rs (Nat.succ i)
        | _ => fzr L m rs (Nat.succ i)
      | _ => fzr L m rs (Nat.succ i)
    | .fz _ _ => match mget m i with
      | some (some j) => j :: fzr L m rs (Nat.succ i)
      | _ => fzr L m rs (Nat.succ i)
    | _ => fzr L m rs (Nat.succ i)
def cvL (f : SV Γ → SV Γ → Option (SV Γ)) : List (SV Γ) → List (SV Γ) → Option (List (SV Γ))
  | [], [] => some []
  | x :: xs, y :: ys => match f x y, cvL f xs ys with
    | some z, some l => some (z :: l)
    | _, _ => none
  | _, _ => none
def isM (m : Mp) (i j : Nat) : Bool := match mget m i with
  | some (some k) => Nat.beq k j
  | _ => false
def cvv (s : St Γ) (m : Mp) : Nat → SV Γ → SV Γ → Option (SV Γ)
  | 0, _, _ => none
  | n + 1, x, y => match x with
    | .v t _ => match frz s 9 t y with
      | some z => some (.v t z)
      | none => none
    | .sl i n' _ => match y with
      | .sl j n'' c => match isM m i j with | true => some (.sl i n'' c) | false => none
      | .nils => match mget m i with | some none => some (.sl i n' []) | _ => none
      | _ => none
    | .ptr i _ => match y with | .ptr j o => (match isM m i j with | true => some (.ptr i o) | false => none) | _ => none
    | .pel i _ _ _ _ => match y with | .pel j n' c k q => (match isM m i j with | true => some (.pel i n' c k q) | false => none) | _ => none
    | .pea i _ _ _ _ _ => match y with | .pea j o N n' k q => (match isM m i j with | true => some (.pea i o N n' k q) | false => none) | _ => none
    | .asl i _ _ _ _ => match y with | .asl j o N n' c => (match isM m i j with | true => some (.asl i o N n' c) | false => none) | _ => none
    | .asp i _ _ => match y with | .asp j o n' => (match isM m i j with | true => some (.asp i o n') | false => none) | _ => none
    | .agg l => match y with
      | .agg l' => match cvL (cvv s m n) l l' with | some z => some (.agg z) | none => none
      | .v (.st r) x => match cvL (cvv s m n) l ((Γ.toH r x).map ofPV) with | some z => some (.agg z) | none => none
      | _ => none
    | .tup l => match y with | .tup l' => (match cvL (cvv s m n) l l' with | some z => some (.tup z) | none => none) | _ => none
    | .fn f l => match y with | .fn f' l' => (match cvL (cvv s m n) l l', Nat.beq f f' with | some z, true => some (.fn f z) | _, _ => none) | _ => none
    | .ifc T x => match y with | .ifc T' y => (match cvv s m n x y, Nat.beq T T' with | some z, true => some (.ifc T z) | _, _ => none) | _ => none
    | .nilp => match y with | .nilp => some .nilp | _ => none
    | .nils => match y with | .nils => some .nils | _ => none
    | .nilf => match y with | .nilf => some .nilf | _ => none
    | .nili => match y with | .nili => some .nili | _ => none
    | .glb _ _ => match y with | .glb g o => some (.glb g o) | _ => none
    | .undef => some .undef
    | _ => none
def cvr (s : St Γ) (m : Mp) (i : Nat) : Res Γ → Option (Res Γ)
  | .gone => some .gone
  | .box T c => match mget m i with
    | some (some j) => match s.L j with
      | some (.box T' c') => match cvv s m 9 c c' with
        | some z => match Nat.beq T T' && stv 9 z with
          | true => some (.box T z)
          | false => none
        | none => none
      | _ => none
    | _ => none
  | .row t E _ => match mget m i with
    | some (some j) => match s.L j with
      | some (.row t' E' l) => some (.row t' E' l)
      | _ => none
    | some none => some (.row t E [])
    | none => none
  | .rowc _ _ => match mget m i with
    | some (some j) => match s.L j with
      | some (.rowc E l) => some (.rowc E l)
      | _ => none
    | _ => none
  | .fz t _ => match mget m i with
    | some (some j) => match s.L j with
      | some (.fz t' l) => some (.fz t' l)
      | _ => none
    | some none => some (.fz t [])
    | none => none
  | .itr _ _ => match mget m i with
    | some (some j) => match s.L j with
      | some (.itr l k) => some (.itr l k)
      | _ => none
    | _ => none
def cvR (s : St Γ) (m : Mp) : Nat → List (Res Γ) → Option (List (Res Γ))
  | _, [] => some []
  | i, r :: rs => match cvr s m i r, cvR s m (Nat.succ i) rs with
    | some z, some l => some (z :: l)
    | _, _ => none
def mids (m : Mp) : Nat → List (Res Γ) → List Nat
  | _, [] => []
  | i, r :: rs => match mtb r, mget m i with
    | true, some (some j) => j :: mids m (Nat.succ i) rs
    | _, _ => mids m (Nat.succ i) rs
def notIn (i : Nat) : List Nat → Bool
  | [] => true
  | j :: l => !(Nat.beq i j) && notIn i l
def ndp : List Nat → Bool
  | [] => true
  | i :: l => notIn i l && ndp l
def keysB (n : Nat) : Mp → Bool
  | [] => true
  | (i, _) :: m => Nat.blt i n && keysB n m
def idm : Nat → Mp
  | 0 => []
  | n + 1 => (n, some n) :: idm n
def mpo (k : Nat) (L : Nat → Option (Res Γ)) (xs ys : List (SV Γ)) (R : List (Res Γ)) : Mp := mtr L R 0 (mtL (mtv 9) xs ys (idm k))
def nrmM (m : Mp) (s : St Γ) (xs ys : List (SV Γ)) (R : List (Res Γ)) : Option (List (SV Γ) × List (Res Γ)) := match fre s.L (fzL (fzv 9) xs ys ++ fzr s.L m R 0) with
  | none => none
  | some L => match cvL (cvv ⟨s.ρ, L, s.nx⟩ m 9) xs ys, cvR ⟨s.ρ, L, s.nx⟩ m 0 R, ndp (mids m 0 R) && keysB (List.length R) m with
    | some zs, some R', true => some (zs, R')
    | _, _, _ => none
def nrm (k : Nat) (s : St Γ) (xs ys : List (SV Γ)) (R : List (Res Γ)) : Option (List (SV Γ) × List (Res Γ)) := nrmM (mpo k s.L xs ys R) s xs ys R
def lk (R : List (Res Γ)) : Nat → Option (Res Γ) := fun b => R[b]?
def bOf (β : Bt) (m : Mp) : Bt := fun i => match mget m i with
  | some (some j) => β j
  | some none => some (.slice none 0 0)
  | none => none
variable {P : Program} {C : Ct Γ} {s : St Γ} {w : World} {F : Nat → Prop} {β : Bt} {ρ : Env} {m : Mp}
theorem isM_ok {i j : Nat} (h : isM m i j = true) : bOf β m i = β j := by
  unfold isM at h
  unfold bOf
  split at h
  · rename_i k hk
    rw [hk, Nat.eq_of_beq_eq_true h]
  · cases h
theorem cvL_ok {f : SV Γ → SV Γ → Option (SV Γ)} {β' : Bt} {F' : Nat → Prop} : ∀ {xs ys zs : List (SV Γ)} {us : List Value}, cvL f xs ys = some zs → VL β w F ys us →
    (∀ x y z u, (x, y) ∈ xs.zip ys → f x y = some z → VR β w F y u → VR β' w F' z u) → VL β' w F' zs us
  | [], [], zs, us, h, hv, hf => by cases h; cases hv; exact .nil
  | x :: xs, y :: ys, zs, us, h, hv, hf => by
    unfold cvL at h
    split at h
    · rename_i z l h1 h2
      cases h
      obtain ⟨u, r, rfl, j1, j2⟩ := hv.cons_inv
      exact .cons (hf _ _ _ _ (by simp) h1 j1) (cvL_ok h2 j2 fun x y z u hx => hf x y z u (by simp [hx]))
    · cases h
  | [], _ :: _, _, _, h, _, _ => by simp [cvL] at h
  | _ :: _, [], _, _, h, _, _ => by simp [cvL] at h
theorem fzL_mem {f : SV Γ → SV Γ → List Nat} : ∀ {xs ys : List (SV Γ)} {x y : SV Γ} {b : Nat}, (x, y) ∈ xs.zip ys → b ∈ f x y → b ∈ fzL f xs ys
  | [], _, x, y, b, h, _ => by simp at h
  | _ :: _, [], x, y, b, h, _ => by simp at h
  | a :: xs, c :: ys, x, y, b, h, hb => by
    simp only [List.zip_cons_cons, List.mem_cons, Prod.mk.injEq] at h
    simp only [fzL, List.mem_append]
    rcases h with ⟨rfl, rfl⟩ | h
    · exact .inl hb
    · exact .inr (fzL_mem h hb)
theorem cvv_ok (hC : GmOk Γ) (hs : Sd C s ρ β F w) {F' : Nat → Prop} (hF : ∀ k, F k → F' k) : ∀ (n : Nat) {x y z : SV Γ} {u : Value}, cvv s m n x y = some z → VR β w F y u → (∀ b ∈ fzv n x y, ∀ k, own β s.L b k → F' k) → VR (bOf β m) w F' z u
  | 0, _, _, _, _, h, _, _ => by simp [cvv] at h
  | n + 1, x, y, z, u, h, hv, hz => by
    have L1 : ∀ {l l' zs : List (SV Γ)} {us : List Value}, cvL (cvv s m n) l l' = some zs → VL β w F l' us → (∀ b ∈ fzL (fzv n) l l', ∀ k, own β s.L b k → F' k) → VL (bOf β m) w F' zs us :=
      fun h1 h2 h3 => cvL_ok h1 h2 fun x y z u hxy hf hvy => cvv_ok hC hs hF n hf hvy fun b hb => h3 b (fzL_mem hxy hb)
    cases x with
    | v t x =>
      have h : (match frz s 9 t y with | some z => some (SV.v t z) | none => none) = some z := h
      split at h
      · rename_i z' hf
        cases h
        have hc := frz_ok hC hs hF 9 hf hv hz
        have hpk : pk t u.cells.toList u := by
          unfold pk
          cases ha : isAgg t with
          | false => exact frz_one hf ha hv
          | true =>
            have hag : u = .agg u.cells := by
              cases y with
              | v t' y' =>
                have e := PV.cst_eq (show PV.cst t ⟨t', y'⟩ = some z' from hf)
                injection e with e1 e2
                subst e1
                exact (aggv_ok 9 (stv_v _ _ _) hv).1 ha
              | agg l => obtain ⟨us, _, rfl⟩ := hv.agg; simp [Value.cells]
              | nils => cases t <;> simp [isAgg] at ha <;> simp [frz] at hf
              | _ => cases t <;> simp [isAgg] at ha <;> simp [frz, slc] at hf
            rw [Array.toArray_toList]
            exact hag
        exact .of (x := SV.v t z') ⟨_, hc, hpk⟩
      · cases h
    | sl i n' c' =>
      cases y with
      | sl j n'' c =>
        have h : (match isM m i j with | true => some (SV.sl i n'' c) | false => none) = some z := h
        split at h
        · rename_i hm
          cases h
          obtain ⟨v0, e0, h1⟩ := hv.sl
          exact .of (x := SV.sl _ _ _) ⟨v0, by rw [isM_ok hm]; exact e0, h1⟩
        · cases h
      | nils =>
        have h : (match mget m i with | some none => some (SV.sl i n' []) | _ => none) = some z := h
        split at h
        · rename_i hm
          cases h
          rw [hv.nils]
          exact .of (x := SV.sl _ _ _) ⟨.slice none 0 0, by simp [bOf, hm], ⟨_, _, _, rfl⟩, rfl⟩
        · cases h
      | _ => simp [cvv] at h
    | ptr i o =>
      cases y with
      | ptr j o' =>
        have h : (match isM m i j with | true => some (SV.ptr i o') | false => none) = some z := h
        split at h
        · rename_i hm
          cases h
          obtain ⟨g, e0, h1⟩ := hv.ptr
          exact .of (x := SV.ptr _ _) ⟨g, by rw [isM_ok hm]; exact e0, h1⟩
        · cases h
      | _ => simp [cvv] at h
    | pel i n0 c0 k0 q0 =>
      cases y with
      | pel j n' c k q =>
        have h : (match isM m i j with | true => some (SV.pel i n' c k q) | false => none) = some z := h
        split at h
        · rename_i hm
          cases h
          obtain ⟨v0, v, e0, h1⟩ := hv.pel
          exact .of (x := SV.pel _ _ _ _ _) ⟨v0, v, by rw [isM_ok hm]; exact e0, h1⟩
        · cases h
      | _ => simp [cvv] at h
    | pea i o0 N0 n0 k0 q0 =>
      cases y with
      | pea j o N n' k q =>
        have h : (match isM m i j with | true => some (SV.pea i o N n' k q) | false => none) = some z := h
        split at h
        · rename_i hm
          cases h
          obtain ⟨g, e0, h1⟩ := hv.pea
          exact .of (x := SV.pea _ _ _ _ _ _) ⟨g, by rw [isM_ok hm]; exact e0, h1⟩
        · cases h
      | _ => simp [cvv] at h
    | asl i o0 N0 n0 c0 =>
      cases y with
      | asl j o N n' c =>
        have h : (match isM m i j with | true => some (SV.asl i o N n' c) | false => none) = some z := h
        split at h
        · rename_i hm
          cases h
          obtain ⟨g, e0, h1⟩ := hv.asl
          exact .of (x := SV.asl _ _ _ _ _) ⟨g, by rw [isM_ok hm]; exact e0, h1⟩
        · cases h
      | _ => simp [cvv] at h
    | asp i o0 m0 =>
      cases y with
      | asp j o n' =>
        have h : (match isM m i j with | true => some (SV.asp i o n') | false => none) = some z := h
        split at h
        · rename_i hm
          cases h
          obtain ⟨g, c, e0, h1⟩ := hv.asp
          exact .of (x := SV.asp _ _ _) ⟨g, c, by rw [isM_ok hm]; exact e0, h1⟩
        · cases h
      | _ => simp [cvv] at h
    | agg l =>
      cases y with
      | agg l' =>
        have h : (match cvL (cvv s m n) l l' with | some z => some (SV.agg z) | none => none) = some z := h
        split at h
        · rename_i zs hl
          cases h
          obtain ⟨us, h1, rfl⟩ := hv.agg
          exact VL.agg (L1 hl h1 hz) .nil
        · cases h
      | v t x =>
        cases t with
        | st r =>
          have h : (match cvL (cvv s m n) l ((Γ.toH r x).map ofPV) with | some z => some (SV.agg z) | none => none) = some z := h
          split at h
          · rename_i zs hl
            cases h
            obtain ⟨cs, h1, h2⟩ := hv.v
            obtain ⟨us, h3, h4⟩ := vl_ofPV (β := β) hC h1.st_inv
            have hu : u = .agg (cellsV us).toArray := by rw [h4]; simpa [pk, isAgg] using h2
            rw [hu]
            refine VL.agg (cvL_ok hl h3 fun x y z u hxy hf hvy => cvv_ok hC hs hF n hf hvy fun b hb => ?_) .nil
            obtain ⟨p, _, hp⟩ := List.mem_map.1 (List.of_mem_zip hxy).2
            subst hp
            exfalso
            cases n with
            | zero => simp [fzv] at hb
            | succ n => cases x <;> simp [fzv, ofPV, ids] at hb
          · cases h
        | _ => simp [cvv] at h
      | _ => simp [cvv] at h
    | tup l =>
      cases y with
      | tup l' =>
        have h : (match cvL (cvv s m n) l l' with | some z => some (SV.tup z) | none => none) = some z := h
        split at h
        · rename_i zs hl
          cases h
          obtain ⟨us, h1, rfl⟩ := hv.tup
          exact VL.tup (L1 hl h1 hz) .nil
        · cases h
      | _ => simp [cvv] at h
    | fn f l =>
      cases y with
      | fn f' l' =>
        have h : (match cvL (cvv s m n) l l', Nat.beq f f' with | some z, true => some (SV.fn f z) | _, _ => none) = some z := h
        split at h
        · rename_i zs hl hf
          cases h
          rw [Nat.eq_of_beq_eq_true hf]
          obtain ⟨us, h1, rfl⟩ := hv.fn
          exact VL.fn (L1 hl h1 hz) .nil
        · cases h
      | _ => simp [cvv] at h
    | ifc T x =>
      cases y with
      | ifc T' y =>
        have h : (match cvv s m n x y, Nat.beq T T' with | some z, true => some (SV.ifc T z) | _, _ => none) = some z := h
        split at h
        · rename_i zs hl hf
          cases h
          rw [Nat.eq_of_beq_eq_true hf]
          obtain ⟨us, h1, rfl⟩ := hv.ifc
          exact VL.ifc (cvv_ok hC hs hF n hl h1 hz) .nil
        · cases h
      | _ => simp [cvv] at h
    | nilp => cases y <;> simp [cvv] at h; subst h; rw [hv.nilp]; exact .of (x := SV.nilp) rfl
    | nils => cases y <;> simp [cvv] at h; subst h; rw [hv.nils]; exact .of (x := SV.nils) rfl
    | nilf => cases y <;> simp [cvv] at h; subst h; rw [hv.nilf]; exact .of (x := SV.nilf) rfl
    | nili => cases y <;> simp [cvv] at h; subst h; rw [hv.nili]; exact .of (x := SV.nili) rfl
    | glb g o => cases y <;> simp [cvv] at h; subst h; rw [hv.glb]; exact .of (x := SV.glb _ _) rfl
    | undef => simp [cvv] at h; subst h; exact undef_vr
    | _ => simp [cvv] at h
end
section
variable {Γ : Gm} {P : Program} {C : Ct Γ} {s : St Γ} {w : World} {F : Nat → Prop} {β : Bt} {ρ : Env} {m : Mp}
theorem cvr_ok (hC : GmOk Γ) (hs : Sd C s ρ β F w) {F' : Nat → Prop} (hF : ∀ k, F k → F' k) {i : Nat} {r r' : Res Γ} (h : cvr s m i r = some r') (hz : ∀ T c, r = .box T c → ∀ j T' c', mget m i = some (some j) → s.L j = some (.box T' c') → ∀ b ∈ fzv 9 c c', ∀ k, own β s.L b k → F' k) :
    RR (bOf β m) w F' i r' ∧ mtb r' = mtb r ∧ (mtb r' = true → (∃ j q, mget m i = some (some j) ∧ s.L j = some q ∧ mtb q = true) ∨ bOf β m i = some (.slice none 0 0)) := by
  have at_ : ∀ {j : Nat}, mget m i = some (some j) → bOf β m i = β j := fun h => by simp [bOf, h]
  cases r with
  | gone => cases h; exact ⟨trivial, rfl, by simp [mtb]⟩
  | box T c =>
    simp only [cvr] at h
    split at h
    · rename_i j hm
      split at h
      · rename_i T' c' hL
        split at h
        · rename_i z hc
          split at h
          · rename_i hb
            cases h
            rw [Bool.and_eq_true] at hb
            have e := Nat.eq_of_beq_eq_true hb.1
            subst e
            obtain ⟨g, u, h1, h2, h3, h4⟩ := hs.hs.rr _ _ hL
            exact ⟨⟨g, u, by rw [at_ hm]; exact h1, cvv_ok hC hs hF 9 hc h2 (hz _ _ rfl j _ _ hm hL), hb.2, h4⟩, rfl, fun _ => .inl ⟨j, _, hm, hL, rfl⟩⟩
          · cases h
        · cases h
      · cases h
    · cases h
  | row t E l =>
    simp only [cvr] at h
    split at h
    · rename_i j hm
      split at h
      · rename_i t' E' l' hL
        cases h
        obtain ⟨v, css, h1, h2, h3⟩ := hs.hs.rr _ _ hL
        exact ⟨⟨v, css, by rw [at_ hm]; exact h1, h2, h3.mono hF (fun _ _ => rfl)⟩, rfl, fun _ => .inl ⟨j, _, hm, hL, rfl⟩⟩
      · cases h
    · rename_i hm
      cases h
      have : bOf β m i = some (.slice none 0 0) := by simp [bOf, hm]
      exact ⟨⟨_, [], this, Own.nil _ _ _ _, .nil⟩, rfl, fun _ => .inr this⟩
    · cases h
  | rowc E l =>
    simp only [cvr] at h
    split at h
    · rename_i j hm
      split at h
      · rename_i E' l' hL
        cases h
        obtain ⟨v, h1, h2⟩ := hs.hs.rr _ _ hL
        exact ⟨⟨v, by rw [at_ hm]; exact h1, h2⟩, rfl, fun _ => .inl ⟨j, _, hm, hL, rfl⟩⟩
      · cases h
    · cases h
  | fz t l =>
    simp only [cvr] at h
    split at h
    · rename_i j hm
      split at h
      · rename_i t' l' hL
        cases h
        obtain ⟨v, h1, h2⟩ := hs.hs.rr _ _ hL
        exact ⟨⟨v, by rw [at_ hm]; exact h1, h2.mono hF (fun _ _ => rfl)⟩, rfl, by simp [mtb]⟩
      · cases h
    · rename_i hm
      cases h
      exact ⟨⟨.slice none 0 0, by simp [bOf, hm], CL.sln rfl .nil⟩, rfl, by simp [mtb]⟩
    · cases h
  | itr l k =>
    simp only [cvr] at h
    split at h
    · rename_i j hm
      split at h
      · rename_i l' k' hL
        cases h
        obtain ⟨g, h1, h2⟩ := hs.hs.rr _ _ hL
        exact ⟨⟨g, by rw [at_ hm]; exact h1, h2⟩, rfl, fun _ => .inl ⟨j, _, hm, hL, rfl⟩⟩
      · cases h
    · cases h
theorem cvR_get : ∀ {R R' : List (Res Γ)} {i : Nat}, cvR s m i R = some R' → R'.length = R.length ∧ ∀ j r', R'[j]? = some r' → ∃ r, R[j]? = some r ∧ cvr s m (i + j) r = some r'
  | [], R', i, h => by cases h; exact ⟨rfl, by simp⟩
  | r :: R, R', i, h => by
    unfold cvR at h
    split at h
    · rename_i z l h1 h2
      cases h
      obtain ⟨e, h3⟩ := cvR_get h2
      refine ⟨by simp [e], fun j r' hj => ?_⟩
      cases j with
      | zero => simp at hj; subst hj; exact ⟨r, rfl, h1⟩
      | succ j =>
        obtain ⟨q, h4, h5⟩ := h3 j r' (by simpa using hj)
        exact ⟨q, by simpa using h4, by rw [show i + (j + 1) = Nat.succ i + j by omega]; exact h5⟩
    · cases h
theorem fzr_mem {L : Nat → Option (Res Γ)} {m : Mp} : ∀ {R : List (Res Γ)} {i j : Nat} {T : TypeId} {c : SV Γ}, R[j]? = some (.box T c) → ∀ {k : Nat} {T' : TypeId} {c' : SV Γ}, mget m (i + j) = some (some k) → L k = some (.box T' c') → ∀ b ∈ fzv 9 c c', b ∈ fzr L m R i
  | [], i, j, T, c, h => by simp at h
  | r :: R, i, 0, T, c, h => by
    intro hm hL b hb
    simp at h
    subst h
    simp only [Nat.add_zero] at hm
    simp only [fzr, hm, hL, List.mem_append]
    exact .inl hb
  | r :: R, i, j + 1, T, c, h => by
    intro hm hL b hb
    have ih := fzr_mem (L := L) (m := m) (R := R) (i := Nat.succ i) (j := j) (by simpa using h) (by rw [show Nat.succ i + j = i + (j + 1) by omega]; exact hm) hL b hb
    simp only [fzr]
    split
    · split
      · split
        · exact List.mem_append.2 (.inr ih)
        · exact ih
      · exact ih
    · split
      · exact List.mem_cons_of_mem _ ih
      · exact ih
    · exact ih
theorem notIn_ok {i : Nat} : ∀ {l : List Nat}, notIn i l = true → i ∉ l
  | [], _ => by simp
  | j :: l, h => by
    simp only [notIn, Bool.and_eq_true, Bool.not_eq_true'] at h
    intro hm
    rcases List.mem_cons.1 hm with rfl | hm
    · simp at h
    · exact notIn_ok h.2 hm
theorem mids_get {m : Mp} : ∀ {R : List (Res Γ)} {i a ja : Nat} {ra : Res Γ}, R[a]? = some ra → mtb ra = true → mget m (i + a) = some (some ja) → ja ∈ mids m i R
  | [], i, a, ja, ra, h, _, _ => by simp at h
  | r :: R, i, 0, ja, ra, h, ht, hm => by
    simp at h
    subst h
    simp only [Nat.add_zero] at hm
    simp [mids, ht, hm]
  | r :: R, i, a + 1, ja, ra, h, ht, hm => by
    have ih := mids_get (R := R) (i := Nat.succ i) (a := a) (by simpa using h) ht (by rw [show Nat.succ i + a = i + (a + 1) by omega]; exact hm)
    simp only [mids]
    split
    · exact List.mem_cons_of_mem _ ih
    · exact ih
theorem mids_inj {m : Mp} : ∀ {R : List (Res Γ)} {i a b j : Nat} {ra rb : Res Γ}, ndp (mids m i R) = true → R[a]? = some ra → R[b]? = some rb → mtb ra = true → mtb rb = true → mget m (i + a) = some (some j) → mget m (i + b) = some (some j) → a = b
  | [], i, a, b, j, ra, rb, h, ha, _, _, _, _, _ => by simp at ha
  | r :: R, i, a, b, j, ra, rb, h, ha, hb, ta, tb, ma, mb => by
    have tail : ndp (mids m (Nat.succ i) R) = true := by
      simp only [mids] at h
      split at h
      · simp only [ndp, Bool.and_eq_true] at h; exact h.2
      · exact h
    cases a with
    | zero =>
      cases b with
      | zero => rfl
      | succ b =>
        exfalso
        simp at ha
        subst ha
        simp only [Nat.add_zero] at ma
        simp only [mids, ta, ma, ndp, Bool.and_eq_true] at h
        exact notIn_ok h.1 (mids_get (R := R) (a := b) (by simpa using hb) tb (by rw [show Nat.succ i + b = i + (b + 1) by omega]; exact mb))
    | succ a =>
      cases b with
      | zero =>
        exfalso
        simp at hb
        subst hb
        simp only [Nat.add_zero] at mb
        simp only [mids, tb, mb, ndp, Bool.and_eq_true] at h
        exact notIn_ok h.1 (mids_get (R := R) (a := a) (by simpa using ha) ta (by rw [show Nat.succ i + a = i + (a + 1) by omega]; exact ma))
      | succ b =>
        have := mids_inj (R := R) (i := Nat.succ i) (a := a) (b := b) (j := j) tail (by simpa using ha) (by simpa using hb) ta tb (by rw [show Nat.succ i + a = i + (a + 1) by omega]; exact ma) (by rw [show Nat.succ i + b = i + (b + 1) by omega]; exact mb)
        omega
theorem keysB_ok {n : Nat} : ∀ {m : Mp} {i : Nat} {j : Option Nat}, keysB n m = true → mget m i = some j → i < n
  | [], i, j, h, hm => by simp [mget] at hm
  | (a, x) :: m, i, j, h, hm => by
    simp only [keysB, Bool.and_eq_true] at h
    unfold mget at hm
    split at hm
    · rename_i hb
      have e := Nat.eq_of_beq_eq_true hb
      subst e
      exact blt_iff.1 h.1
    · exact keysB_ok h.2 hm
theorem nrmM_ok (hC : GmOk Γ) (hs : Sd C s ρ β F w) {xs ys zs : List (SV Γ)} {R R' : List (Res Γ)} {us : List Value} (h : nrmM m s xs ys R = some (zs, R')) (hv : VL β w F ys us) :
    ∃ F', (∀ k, F k → F' k) ∧ (∀ k, F' k → F k ∨ ∃ b, own β s.L b k) ∧ HS C (bOf β m) F' w (lk R') ∧ VL (bOf β m) w F' zs us ∧ (∀ b, R'.length ≤ b → bOf β m b = none) ∧ (∀ b g, own (bOf β m) (lk R') b g → ∃ j, mget m b = some (some j) ∧ own β s.L j g) := by
  unfold nrmM at h
  split at h
  · cases h
  · rename_i L hL
    split at h
    · rename_i zs' R'' h1 h2 h3
      cases h
      rw [Bool.and_eq_true] at h3
      obtain ⟨F', hz⟩ := fre_ok hs.hs hL
      have hs' : Sd C ⟨s.ρ, L, s.nx⟩ ρ β F' w := ⟨hz.hs, fun t => (hs.vr t).mono (fun _ _ h => h) hz.fm (fun _ _ => rfl), hs.nx⟩
      obtain ⟨hlen, hget⟩ := cvR_get h2
      have hfz : ∀ b, b ∈ fzL (fzv 9) xs ys ++ fzr s.L m R 0 → ∀ k, own β L b k → F' k := fun b hb k hk => hz.fz b hb k (hz.le _ _ hk)
      have box_same : ∀ {j : Nat} {T : TypeId} {c : SV Γ}, L j = some (.box T c) → s.L j = some (.box T c) := fun {j T c} hj => fre_box hL hj
      have hr : ∀ i r', R'[i]? = some r' → ∃ r, R[i]? = some r ∧ cvr ⟨s.ρ, L, s.nx⟩ m i r = some r' := fun i r' hi => by
        obtain ⟨r, h4, h5⟩ := hget i r' hi
        exact ⟨r, h4, by rw [Nat.zero_add] at h5; exact h5⟩
      have hok : ∀ i r', R'[i]? = some r' → ∃ r, R[i]? = some r ∧ RR (bOf β m) w F' i r' ∧ mtb r' = mtb r ∧ (mtb r' = true → (∃ j q, mget m i = some (some j) ∧ L j = some q ∧ mtb q = true) ∨ bOf β m i = some (.slice none 0 0)) := fun i r' hi => by
        obtain ⟨r, h4, h5⟩ := hr i r' hi
        refine ⟨r, h4, cvr_ok hC hs' (fun _ h => h) h5 ?_⟩
        intro T c hrr j T' c' hm hLj b hb
        subst hrr
        exact hfz b (List.mem_append.2 (.inr (fzr_mem h4 (by rw [Nat.zero_add]; exact hm) (box_same hLj) b hb)))
      have hown : ∀ b g, own (bOf β m) (lk R') b g → ∃ j r, mget m b = some (some j) ∧ own β L j g ∧ R[b]? = some r ∧ mtb r = true := by
        rintro b g ⟨r', v, k1, k2, k3, k4⟩
        obtain ⟨r, i1, i2, i3, i4⟩ := hok b r' k1
        rcases i4 k2 with ⟨j, q, j1, j2, j3⟩ | j1
        · refine ⟨j, r, j1, ⟨q, v, j2, j3, ?_, k4⟩, i1, by rw [← i3]; exact k2⟩
          simpa [bOf, j1] using k3
        · rw [j1] at k3
          cases k3
          simp [blk] at k4
      refine ⟨F', hz.fm, hz.fb, ⟨fun b r hb => ?_, ?_, ?_, hz.hs.fsz, hz.hs.gl⟩, ?_, ?_, ?_⟩
      · obtain ⟨q, _, i2, _⟩ := hok b r hb
        exact i2
      · intro b b' g o1 o2
        obtain ⟨j, r, j1, j2, j3, j4⟩ := hown b g o1
        obtain ⟨j', r', j1', j2', j3', j4'⟩ := hown b' g o2
        have e := hz.hs.sep _ _ _ j2 j2'
        subst e
        exact mids_inj h3.1 j3 j3' j4 j4' (by rw [Nat.zero_add]; exact j1) (by rw [Nat.zero_add]; exact j1')
      · intro b g o1 hF
        obtain ⟨j, r, j1, j2, _⟩ := hown b g o1
        exact hz.hs.dis _ _ j2 hF
      · exact cvL_ok h1 (hv.mono (fun _ _ h => h) hz.fm (fun _ _ => rfl)) fun x y z u hxy hf hvy => cvv_ok hC hs' (fun _ h => h) 9 hf hvy fun b hb => hfz b (List.mem_append.2 (.inl (fzL_mem hxy hb)))
      · intro b hb
        unfold bOf
        split
        · rename_i j hm
          have := keysB_ok h3.2 hm
          omega
        · rename_i hm
          have := keysB_ok h3.2 hm
          omega
        · rfl
      · intro b g o1
        obtain ⟨j, r, j1, j2, _⟩ := hown b g o1
        exact ⟨j, j1, hz.le _ _ j2⟩
    · cases h
where
  fre_box {s : St Γ} : ∀ {l : List Nat} {L : Nat → Option (Res Γ)}, fre s.L l = some L → ∀ {j : Nat} {T : TypeId} {c : SV Γ}, L j = some (.box T c) → s.L j = some (.box T c) := by
    intro l
    generalize s.L = L0
    intro L h j T c hj
    induction l generalizing L0 with
    | nil => cases h; exact hj
    | cons b l ih =>
      have up : ∀ {r : Res Γ}, (∀ T c, r ≠ .box T c) → upd L0 b (some r) j = some (.box T c) → L0 j = some (.box T c) := by
        intro r hr h
        by_cases e : j = b
        · subst e; rw [upd_same] at h; exact absurd (Option.some.inj h) (hr _ _)
        · rw [upd_ne _ _ e] at h; exact h
      unfold fre at h
      split at h
      · exact up (by simp) (ih _ h)
      · exact up (by simp) (ih _ h)
      · exact ih _ h
      · cases h
end
section
variable {P : Program} {w : World}
def resOne (tmps : Array Value) : ResultVar → Sem Value
  | .tmp t => pure (tmps.getD t undef)
  | .cell a t => do loadVar t (← asAddr (tmps.getD a undef))
theorem results_eq (fn : Func) (tmps : Array Value) : results fn tmps = (do let vs ← fn.results.mapM (resOne tmps); pure (if h : vs.size = 1 then vs[0] else .tuple vs)) := by
  unfold results
  congr 1
theorem mapM_run {g : ResultVar → Sem Value} : ∀ {rs : List ResultVar} {us : List Value}, rs.length ≤ 4 → rs.length = us.length → (∀ (i : Nat) (r : ResultVar) (u : Value), rs[i]? = some r → us[i]? = some u → (g r).run P w = .ok u w) → (rs.toArray.mapM g).run P w = .ok us.toArray w
  | [], [], _, _, h => by simp
  | [a], [u], _, _, h => by
    have h0 := h 0 a u rfl rfl
    simp [h0]
  | [a, b], [u, v], _, _, h => by
    have h0 := h 0 a u rfl rfl
    have h1 := h 1 b v rfl rfl
    simp [h0, h1]
  | [a, b, c], [u, v, x], _, _, h => by
    have h0 := h 0 a u rfl rfl
    have h1 := h 1 b v rfl rfl
    have h2 := h 2 c x rfl rfl
    simp [h0, h1, h2]
  | [a, b, c, d], [u, v, x, y], _, _, h => by
    have h0 := h 0 a u rfl rfl
    have h1 := h 1 b v rfl rfl
    have h2 := h 2 c x rfl rfl
    have h3 := h 3 d y rfl rfl
    simp [h0, h1, h2, h3]
  | _ :: _ :: _ :: _ :: _ :: _, _, h, _, _ => by simp at h
end
section
variable {Γ : Gm} {kp : Nat} {X : Cx kp} {P : Program} {C : Ct Γ} {N : Nat} {s s' : St Γ} {w w' : World} {F F' : Nat → Prop} {β : Bt} {ρ : Env}
structure Sh (Γ : Gm) where
  ts : List (Nat × SV Γ)
  L : List (Res Γ)
def envS : List (Nat × SV Γ) → Nat → SV Γ
  | [], _ => .undef
  | (a, v) :: l, t => match Nat.beq a t with
    | true => v
    | false => envS l t
def Sh.st (M : Sh Γ) : St Γ := ⟨envS M.ts, lk M.L, List.length M.L⟩
def vals : List (Nat × SV Γ) → List (SV Γ)
  | [] => []
  | (_, v) :: l => v :: vals l
def acts (s : St Γ) : List (Nat × SV Γ) → List (SV Γ)
  | [] => []
  | (a, _) :: l => s.ρ a :: acts s l
structure Emb {α : Type} (k : Nat) (f : α → Sh Γ) (x : α) (s : St Γ) : Prop where
  h : nrm k s (vals (f x).ts) (acts s (f x).ts) (f x).L = some (vals (f x).ts, (f x).L)
theorem em {α : Type} {k : Nat} {f : α → Sh Γ} {a x : α} (h : some a = some x) (e : nrm k s (vals (f a).ts) (acts s (f a).ts) (f a).L = some (vals (f a).ts, (f a).L)) : Emb k f x s := by cases h; exact ⟨e⟩
theorem madd_keep {m : Mp} {i a : Nat} {j x : Option Nat} (h : mget m a = some x) : mget (madd i j m) a = some x := by
  unfold madd
  split
  · rename_i hn
    unfold mget
    split
    · rename_i hb
      rw [Nat.eq_of_beq_eq_true hb] at hn
      rw [h] at hn; cases hn
    · exact h
  · exact h
theorem mtL_keep {f : SV Γ → SV Γ → Mp → Mp} (hf : ∀ x y m a j, mget m a = some j → mget (f x y m) a = some j) : ∀ {xs ys : List (SV Γ)} {m : Mp} {a : Nat} {j : Option Nat}, mget m a = some j → mget (mtL f xs ys m) a = some j
  | [], _, m, a, j, h => by simpa [mtL] using h
  | _ :: _, [], m, a, j, h => by simpa [mtL] using h
  | x :: xs, y :: ys, m, a, j, h => mtL_keep hf (xs := xs) (ys := ys) (hf x y m a j h)
theorem mtv_keep : ∀ (n : Nat) (x y : SV Γ) (m : Mp) (a : Nat) (j : Option Nat), mget m a = some j → mget (mtv n x y m) a = some j
  | 0, _, _, m, a, j, h => h
  | n + 1, x, y, m, a, j, h => by
    unfold mtv
    cases x with
    | agg l => cases y <;> first | exact mtL_keep (mtv_keep n) h | exact h
    | tup l => cases y <;> first | exact mtL_keep (mtv_keep n) h | exact h
    | fn f l => cases y <;> first | exact mtL_keep (mtv_keep n) h | exact h
    | ifc T x => cases y <;> first | exact mtv_keep n _ _ _ _ _ h | exact h
    | _ => cases y <;> first | exact madd_keep h | exact h
theorem mtr_keep {L : Nat → Option (Res Γ)} : ∀ {R : List (Res Γ)} {i : Nat} {m : Mp} {a : Nat} {j : Option Nat}, mget m a = some j → mget (mtr L R i m) a = some j
  | [], i, m, a, j, h => h
  | r :: R, i, m, a, j, h => by
    unfold mtr
    split
    · split
      · split
        · exact mtr_keep (mtv_keep 9 _ _ _ _ _ h)
        · exact mtr_keep h
      · exact mtr_keep h
    · exact mtr_keep h
theorem idm_get : ∀ {k b : Nat}, b < k → mget (idm k) b = some (some b)
  | 0, b, h => by omega
  | k + 1, b, h => by
    unfold idm mget
    split
    · rename_i hb; rw [Nat.eq_of_beq_eq_true hb]
    · rename_i hb
      refine idm_get ?_
      have : b ≠ k := by rintro rfl; simp at hb
      omega
theorem mpo_get {k b : Nat} {L : Nat → Option (Res Γ)} {xs ys : List (SV Γ)} {R : List (Res Γ)} (h : b < k) : mget (mpo k L xs ys R) b = some (some b) := mtr_keep (mtL_keep (mtv_keep 9) (idm_get h))
theorem envS_vr {l : List (Nat × SV Γ)} {us : List Value} {β' : Bt} {F' : Nat → Prop} (h : VL β' w F' (vals l) (us)) (hu : us = l.map fun p => ρ p.1) : ∀ t, VR β' w F' (envS l t) (ρ t) := by
  induction l generalizing us with
  | nil => intro t; exact undef_vr
  | cons p l ih =>
    obtain ⟨a, v⟩ := p
    subst hu
    obtain ⟨u, r, e, h1, h2⟩ := VL.cons_inv (x := v) (l := vals l) h
    simp only [List.map_cons, List.cons.injEq] at e
    obtain ⟨rfl, rfl⟩ := e
    intro t
    unfold envS
    split
    · rename_i hb; rw [← Nat.eq_of_beq_eq_true hb]; exact h1
    · exact ih h2 rfl t
theorem acts_vl (h : Sd C s ρ β F w) : ∀ l : List (Nat × SV Γ), VL β w F (acts s l) (l.map fun p => ρ p.1)
  | [] => .nil
  | (a, _) :: l => .cons (h.vr a) (acts_vl h l)
theorem emb_ok (hC : GmOk Γ) {α : Type} {f : α → Sh Γ} {x : α} (hm : Mt X C s ρ w) (he : Emb kp f x s) : Mt X C (f x).st ρ w := by
  obtain ⟨β, F, hm⟩ := hm
  obtain ⟨F', h1, h2, h3, h4, h5, h6⟩ := nrmM_ok hC hm.sd he.h (acts_vl hm.sd _)
  refine ⟨_, F', ⟨h3, envS_vr h4 rfl, h5⟩, fun b v hb => ?_, hm.fr, fun k hk => h1 k (hm.fm k hk), fun k hk => ?_, fun b g hb => ?_⟩
  · have hbk : b < kp := by
      rcases Nat.lt_or_ge b kp with h | h
      · exact h
      · rw [X.bk b h] at hb; cases hb
    have := hm.fix b v hb
    simp only [bOf, mpo_get hbk]
    exact this
  · rcases h2 k hk with h | ⟨b, h⟩
    · exact hm.fb k h
    · exact .inr (hm.ow b k h)
  · obtain ⟨j, _, hj⟩ := h6 b g hb
    exact hm.ow j g hj
theorem t_cond (hC : CtOk P C) {c : Operand} {x y : Code} {K : Exit → St Γ → Prop} (h : match eo s c with
    | .v .bool b => @Bool.rec (fun _ => Prop) (ev X P C N y (setB s c false) K) (ev X P C N x (setB s c true) K) b
    | _ => False) : T X P C N (.cond c x y) s K := by
  intro hd ρ w hm
  simp only [dstC, Bool.and_eq_true] at hd
  split at h
  · rename_i b hb
    have hbv : evO ρ c = .bool b := by
      obtain ⟨β, F, hmm⟩ := hm
      have := hmm.sd.eo c
      rw [hb] at this
      exact this.bool
    have hm1 : Mt X C (setB s c b) ρ w := hm.rho (setB_ok hb) (setB_L c b).1 (setB_L c b).2
    cases b with
    | true => exact cw_condT hbv rfl (ev_ok hC h hd.1 ρ w hm1)
    | false => exact cw_condF hbv rfl (ev_ok hC h hd.2 ρ w hm1)
  · exact h.elim
theorem t_cut (hC : CtOk P C) {α : Type} (f : α → Sh Γ) (x : α) {c : Code} {K : Exit → St Γ → Prop} (h : T X P C N c s fun e s' => match e with
    | .normal => Emb kp f x s'
    | e => K e s') (k : K .normal (f x).st) : T X P C N c s K := by
  intro hd ρ w hm
  refine cw_mono (h hd ρ w hm) ?_
  rintro e ρ' w' ⟨s', hk, hm'⟩
  cases e with
  | normal => exact ⟨_, k, emb_ok hC.g hm' hk⟩
  | _ => exact ⟨s', hk, hm'⟩
theorem t_cutx (hC : CtOk P C) (id : Nat) {α : Type} (f : α → Sh Γ) (x : α) {c : Code} {K : Exit → St Γ → Prop} (h : T X P C N c s fun e s' => match e with
    | .exit i => cond (Nat.beq i id) (Emb kp f x s') (K (.exit i) s')
    | e => K e s') (k : K (.exit id) (f x).st) : T X P C N c s K := by
  intro hd ρ w hm
  refine cw_mono (h hd ρ w hm) ?_
  rintro e ρ' w' ⟨s', hk, hm'⟩
  cases e with
  | exit i =>
    simp only at hk
    cases hb : Nat.beq i id <;> rw [hb] at hk
    · exact ⟨s', hk, hm'⟩
    · rw [Nat.eq_of_beq_eq_true hb]
      exact ⟨_, k, emb_ok hC.g hm' hk⟩
  | _ => exact ⟨s', hk, hm'⟩
structure lpK {σ ε : Type} (k : Nat) (e : ε) (I : σ → Sh Γ) (K : Exit → St Γ → Prop) (x : Sum ε σ) (ex : Exit) (s' : St Γ) : Prop where
  h : match x with
    | .inr z => ex = .normal ∧ Emb k I z s'
    | .inl e' => ex ≠ .normal ∧ (e' = e → K ex s')
theorem lpi {σ ε : Type} {k : Nat} {e : ε} {I : σ → Sh Γ} {K : Exit → St Γ → Prop} {x : Sum ε σ} {z : σ} (h : some (Sum.inr z) = some x) (e' : nrm k s (vals (I z).ts) (acts s (I z).ts) (I z).L = some (vals (I z).ts, (I z).L)) : lpK k e I K x .normal s := by
  cases h; exact ⟨rfl, ⟨e'⟩⟩
theorem lpx {σ ε : Type} {k : Nat} {e a : ε} {I : σ → Sh Γ} {K : Exit → St Γ → Prop} {x : Sum ε σ} {i : Nat} (h : some (Sum.inl a) = some x) (hk : a = e → K (.exit i) s) : lpK k e I K x (.exit i) s := by
  cases h; exact ⟨by simp, hk⟩
theorem lpr {σ ε : Type} {k : Nat} {e a : ε} {I : σ → Sh Γ} {K : Exit → St Γ → Prop} {x : Sum ε σ} (h : some (Sum.inl a) = some x) (hk : a = e → K .ret s) : lpK k e I K x .ret s := by
  cases h; exact ⟨by simp, hk⟩
theorem t_loop (hC : CtOk P C) {σ ε : Type} {step : σ → Option (Sum ε σ)} (I : σ → Sh Γ) {e : ε} {n : Nat} {z : σ} {c : Code} {K : Exit → St Γ → Prop} (hl : loopM step n z = some e) (h0 : nrm kp s (vals (I z).ts) (acts s (I z).ts) (I z).L = some (vals (I z).ts, (I z).L))
    (hs : ∀ z x, step z = some x → ev X P C N c (I z).st (lpK kp e I K x)) : T X P C N (.loop c) s K := by
  intro hd ρ w hm
  simp only [dstC] at hd
  refine cw_round (step := step) (fun z ρ w => Mt X C (I z).st ρ w) hl (emb_ok hC.g hm ⟨h0⟩) ?_
  intro z x ρ w hm hz
  refine cw_mono (ev_ok hC (hs z x hz) hd ρ w hm) ?_
  rintro ex ρ' w' ⟨s', hk, hm'⟩
  have hk := hk.h
  cases x with
  | inr z' => exact ⟨hk.1, emb_ok hC.g hm' hk.2⟩
  | inl e' => exact ⟨hk.1, fun he => ⟨s', hk.2 he, hm'⟩⟩
def resv (C : Ct Γ) (s : St Γ) : List ResultVar → Option (List (SV Γ))
  | [] => some []
  | .tmp t :: l => match resv C s l with
    | some ys => some (s.ρ t :: ys)
    | none => none
  | .cell a T :: l => match s.ρ a, C.tb T with
    | .ptr b o, some ti => match s.L b with
      | some (.box _ c) => match rdc ti 9 c o, resv C s l with
        | some y, some ys => some (y :: ys)
        | _, _ => none
      | _ => none
    | _, _ => none
def pack : List (SV Γ) → SV Γ
  | [y] => y
  | l => .tup l
def finV (C : Ct Γ) (k : Nat) (s : St Γ) (rs : List ResultVar) (v : SV Γ) (R : List (Res Γ)) : Option (List (SV Γ) × List (Res Γ)) := match resv C s rs with
  | some ys => nrm k s [v] [pack ys] R
  | none => none
def fbv (s : St Γ) (b : Nat) : Nat → SV Γ → SV Γ
  | 0, y => y
  | n + 1, y => match y with
    | .asl b' o N k cs => match Nat.beq b' b with
      | true => match slc s (.asl b' o N k cs) with
        | some ⟨t, l⟩ => .v (.sl t) l
        | none => .asl b' o N k cs
      | false => .asl b' o N k cs
    | .agg l => .agg (go (fbv s b n) l)
    | .tup l => .tup (go (fbv s b n) l)
    | y => y
where go (f : SV Γ → SV Γ) : List (SV Γ) → List (SV Γ)
  | [] => []
  | a :: l => f a :: go f l
def fb1 (s : St Γ) (b : Nat) : Option (St Γ) := match s.L b with
  | some (.box _ (.v _ _)) => some ⟨s.ρ, upd s.L b (some .gone), s.nx⟩
  | _ => none
def finB (k : Nat) (v : SV Γ) (R : List (Res Γ)) : List Nat → St Γ → List (SV Γ) → Option (List (SV Γ) × List (Res Γ))
  | [], s, ys => nrm k s [v] [pack ys] R
  | b :: B, s, ys => match fb1 s b with
    | some s1 => finB k v R B s1 (fbv.go (fbv s b 9) ys)
    | none => none
def finVB (C : Ct Γ) (k : Nat) (s : St Γ) (rs : List ResultVar) (v : SV Γ) (R : List (Res Γ)) (B : List Nat) : Option (List (SV Γ) × List (Res Γ)) := match resv C s rs with
  | some ys => finB k v R B s ys
  | none => none
structure Fin {α : Type} (C : Ct Γ) (k : Nat) (rs : List ResultVar) (V : α → SV Γ) (R : α → List (Res Γ)) (r : α) (e : Exit) (s : St Γ) : Prop where
  e : e = .ret ∨ e = .normal
  h : ∃ B, finVB C k s rs (V r) (R r) B = some ([V r], R r)
theorem fi {α : Type} {k : Nat} {rs : List ResultVar} {V : α → SV Γ} {R : α → List (Res Γ)} {a r : α} (h : some a = some r) (e : finV C k s rs (V a) (R a) = some ([V a], R a)) : Fin C k rs V R r .ret s := by
  cases h; exact ⟨.inl rfl, [], e⟩
theorem fiN {α : Type} {k : Nat} {rs : List ResultVar} {V : α → SV Γ} {R : α → List (Res Γ)} {a r : α} (h : some a = some r) (e : finV C k s rs (V a) (R a) = some ([V a], R a)) : Fin C k rs V R r .normal s := by
  cases h; exact ⟨.inr rfl, [], e⟩
def st0 (l : List (SV Γ)) (R : List (Res Γ)) : St Γ := ⟨fun t => l.getD t .undef, lk R, List.length R⟩
def SC (P : Program) (C : Ct Γ) (f : FuncId) (l : List (SV Γ)) (R : List (Res Γ)) (v : SV Γ) (R' : List (Res Γ)) : Prop :=
  calB P f = some true ∧ ∀ β F w us, HS C β F w (lk R) → (∀ b, R.length ≤ b → β b = none) → VL β w F l us →
    Calls P f us.toArray w fun e w' => ∃ u, e = .returned u ∧ Left C (st0 l R) β F w v (st0 [] R') u w'
theorem resv_len : ∀ {rs : List ResultVar} {ys : List (SV Γ)}, resv C s rs = some ys → rs.length = ys.length
  | [], ys, h => by cases h; rfl
  | .tmp t :: l, ys, h => by
    unfold resv at h
    split at h
    · rename_i zs hz; cases h; simp [resv_len hz]
    · cases h
  | .cell a T :: l, ys, h => by
    unfold resv at h
    split at h
    · split at h
      · split at h
        · rename_i hz; cases h; simp [resv_len hz]
        · cases h
      · cases h
    · cases h
theorem loadVar_ok {T : TypeId} {ti : TI Γ} {g p : Nat} {m : List Value} {v : Value} (ht : TOk P T ti) (ha : At w g p m) (hm : m.length = ti.size) (hp : pkB ti.agg m v) : (loadVar T ⟨g, p, none⟩).run P w = .ok v w := by
  have hsz := ht.size
  have hag := ht.agg
  unfold szB at hsz
  unfold aggB at hag
  obtain ⟨inf, hinf, he⟩ := Option.map_eq_some_iff.1 hsz
  obtain ⟨d, hu, hd⟩ := Option.map_eq_some_iff.1 hag
  have hagg : (Go.isAgg T).run P w = .ok ti.agg w := by
    unfold Go.isAgg
    rw [Sem.run_bind, run_underlying hu w, ← hd]
    cases d <;> simp_all
  cases hg : ti.agg with
  | true =>
    rw [hg] at hp hagg
    have hp' : v = .agg m.toArray := hp
    subst hp'
    have hl := run_loadCells_list (P := P) w ⟨g, p, none⟩ m (fun j v hv => by rw [Addr.add_lit]; exact ha j v hv)
    rw [hm] at hl
    simp [loadVar, hagg, sizeOf, typeInfo, hinf, he, hl]
  | false =>
    rw [hg] at hp hagg
    have hp' : m = [v] := hp
    subst hp'
    have hc := ha 0 v rfl
    rw [Nat.add_zero] at hc
    simp [loadVar, hagg, hc]
theorem resv_ok (hC : CtOk P C) (hs : Sd C s ρ β F w) {tmps : Array Value} (ht : ∀ t, tmps.getD t undef = ρ t) : ∀ {rs : List ResultVar} {ys : List (SV Γ)}, resv C s rs = some ys → ∃ us, VL β w F ys us ∧ ∀ (i : Nat) (r : ResultVar) (u : Value), rs[i]? = some r → us[i]? = some u → (resOne tmps r).run P w = .ok u w
  | [], ys, h => by cases h; exact ⟨[], .nil, by simp⟩
  | .tmp t :: l, ys, h => by
    unfold resv at h
    split at h
    · rename_i zs hz
      cases h
      obtain ⟨us, h1, h2⟩ := resv_ok hC hs ht hz
      refine ⟨ρ t :: us, .cons (hs.vr t) h1, fun i r u hr hu => ?_⟩
      cases i with
      | zero => simp at hr hu; subst hr hu; simp [resOne, ht]
      | succ i => exact h2 i r u (by simpa using hr) (by simpa using hu)
    · cases h
  | .cell a T :: l, ys, h => by
    unfold resv at h
    split at h
    · rename_i b o ti hp hT
      split at h
      · rename_i T' c hL
        split at h
        · rename_i y zs hy hz
          cases h
          obtain ⟨us, h1, h2⟩ := resv_ok hC hs ht hz
          have hv := hs.vr a
          rw [hp] at hv
          obtain ⟨g, e0, e1⟩ := hv.ptr
          obtain ⟨g', u0, e, hc, hst, hg⟩ := hs.hs.rr _ _ hL
          rw [e0] at e; injection e with e; simp [pt] at e; subst e
          obtain ⟨q, m, r, v', e2, hq, hm, hpk, hv'⟩ := rdc_ok hC.g (hC.tb _ _ hT) 9 9 (by omega) hst hc hy
          have hat := (row_at' hg).sub e2 hq
          refine ⟨v' :: us, .cons hv' h1, fun i r u hr hu => ?_⟩
          cases i with
          | zero =>
            simp at hr hu
            subst hr hu
            have hl := loadVar_ok (P := P) (hC.tb _ _ hT) (by simpa using hat) hm hpk
            simp [resOne, ht, e1, pt, asAddr, hl]
          | succ i => exact h2 i r u (by simpa using hr) (by simpa using hu)
        · cases h
      · cases h
    · cases h
theorem getD_vl {l : List (SV Γ)} {us : List Value} (h : VL β w F l us) (t : Nat) : VR β w F (l.getD t .undef) (us.getD t undef) := by
  rw [List.getD_eq_getElem?_getD, List.getD_eq_getElem?_getD]
  cases hl : l[t]? with
  | none => exact undef_vr
  | some x =>
    obtain ⟨u, hu, hv⟩ := h.get t x hl
    rw [hu]; exact hv
def packU : List Value → Value
  | [u] => u
  | l => .tuple l.toArray
theorem pack_vr {ys : List (SV Γ)} {us : List Value} (h : VL β w F ys us) : VR β w F (pack ys) (packU us) := by
  match ys, us, h with
  | [], us, h =>
    have := h.nil_inv
    subst this
    exact VL.tup .nil .nil
  | [y], us, h =>
    obtain ⟨u, r', rfl, j1, j2⟩ := h.cons_inv
    have := j2.nil_inv
    subst this
    exact j1
  | y :: y' :: ys, us, h =>
    obtain ⟨u, r', rfl, j1, j2⟩ := h.cons_inv
    obtain ⟨u', r'', rfl, j3, j4⟩ := j2.cons_inv
    exact VL.tup (.cons j1 (.cons j3 j4)) .nil
theorem fbv_ok (hΓ : GmOk Γ) (hs : Sd C s ρ β F w) {b g : Nat} (hb : β b = some (pt g 0)) {F1 : Nat → Prop} (hF : ∀ k, F k → F1 k) (hg : F1 g) : ∀ (n : Nat) {ys : List (SV Γ)} {us : List Value}, VL β w F ys us → VL β w F1 (fbv.go (fbv s b n) ys) us
  | n, [], us, h => by cases h; exact .nil
  | n, y :: ys, us, h => by
    obtain ⟨u, r, rfl, h1, h2⟩ := h.cons_inv
    refine VL.cons ?_ (fbv_ok hΓ hs hb hF hg n h2)
    have h1' : VR β w F1 y u := VR.mono h1 (fun _ _ h => h) hF (fun _ _ => rfl)
    cases n with
    | zero => exact h1'
    | succ n =>
      cases y with
      | asl b' o N k cs =>
        show VR β w F1 (match Nat.beq b' b with | true => (match slc s (.asl b' o N k cs) with | some ⟨t, l⟩ => SV.v (.sl t) l | none => .asl b' o N k cs) | false => .asl b' o N k cs) u
        split
        · rename_i hbb
          have e := Nat.eq_of_beq_eq_true hbb
          subst e
          split
          · rename_i t l hsl
            obtain ⟨css, hr, hk⟩ := slc_ok hΓ hs hsl h1
            obtain ⟨g', e0, e1⟩ := h1.asl
            rw [hb] at e0
            injection e0 with e0
            simp [pt] at e0
            subst e0
            have hsb : sb u = g := by rw [vw_sb e1]; rfl
            exact .of (x := SV.v (.sl t) l) ⟨[u], CL.mk_sl hr (hk.mono hF (fun _ _ => rfl)) (fun _ => by rw [hsb]; exact hg), rfl⟩
          · exact h1'
        · exact h1'
      | agg l =>
        obtain ⟨us', a1, rfl⟩ := h1.agg
        exact VL.agg (fbv_ok hΓ hs hb hF hg n a1) .nil
      | tup l =>
        obtain ⟨us', a1, rfl⟩ := h1.tup
        exact VL.tup (fbv_ok hΓ hs hb hF hg n a1) .nil
      | _ => exact h1'
theorem fb1_ok (hΓ : GmOk Γ) {k : Nat} {X : Cx k} {s s1 : St Γ} {b : Nat} (hm : MtB X C s ρ w β F) (h : fb1 s b = some s1) : ∃ F1, MtB X C s1 ρ w β F1 ∧ ((∀ g, own β s.L b g → F1 g) ∧ ∀ k, F k → F1 k) ∧ ∀ n {ys : List (SV Γ)} {us : List Value}, VL β w F ys us → VL β w F1 (fbv.go (fbv s b n) ys) us := by
  unfold fb1 at h
  split at h
  · rename_i T t x hL
    cases h
    obtain ⟨g, u, e0, hc, hst, hg⟩ := hm.sd.hs.rr _ _ hL
    have hown : own β s.L b g := ⟨_, _, hL, rfl, e0, rfl⟩
    have hF : ∀ k, F k → F k ∨ k = g := fun k h => .inl h
    have hu : ∀ b' r, upd s.L b (some (.gone : Res Γ)) b' = some r → b' = b ∧ r = .gone ∨ b' ≠ b ∧ s.L b' = some r := fun b' r hr => by
      by_cases e : b' = b
      · subst e
        rw [upd_same] at hr
        cases hr
        exact .inl ⟨rfl, rfl⟩
      · rw [upd_ne _ _ e] at hr
        exact .inr ⟨e, hr⟩
    have ho : ∀ b' g', own β (upd s.L b (some (.gone : Res Γ))) b' g' → b' ≠ b ∧ own β s.L b' g' := fun b' g' ⟨r, v, a1, a2, a3, a4⟩ => by
      rcases hu b' r a1 with ⟨_, rfl⟩ | ⟨e, a1⟩
      · cases a2
      · exact ⟨e, r, v, a1, a2, a3, a4⟩
    refine ⟨fun k => F k ∨ k = g, ⟨⟨⟨fun b' r hr => ?_, fun b' b'' g' h1 h2 => hm.sd.hs.sep _ _ _ (ho _ _ h1).2 (ho _ _ h2).2, fun b' g' h1 hf => ?_, fun k hk => ?_, ?_⟩, fun t => (hm.sd.vr t).mono (fun _ _ h => h) hF (fun _ _ => rfl), hm.sd.nx⟩, hm.fix, hm.fr, fun k hk => .inl (hm.fm k hk), fun k hk => ?_, fun b' g' h1 => hm.ow b' g' (ho _ _ h1).2⟩, ⟨fun g' h1 => ?_, hF⟩, fun n ys us hv => fbv_ok hΓ hm.sd e0 hF (.inr rfl) n hv⟩
    · rcases hu b' r hr with ⟨_, rfl⟩ | ⟨_, hr⟩
      · trivial
      · exact (hm.sd.hs.rr b' r hr).mono (fun _ _ h => h) hF (fun _ _ => rfl) (W := fun _ => False) (Fr.refl _ _) (fun _ _ _ _ _ h => h)
    · obtain ⟨e, h1⟩ := ho _ _ h1
      rcases hf with hf | rfl
      · exact hm.sd.hs.dis _ _ h1 hf
      · exact e (hm.sd.hs.sep _ _ _ h1 hown)
    · rcases hk with hk | rfl
      · exact hm.sd.hs.fsz k hk
      · exact own_lt hm.sd.hs hown
    · exact gl_mono (s := s) (β' := β) hm.sd.hs hF (fun _ _ => rfl)
    · rcases hk with hk | rfl
      · exact hm.fb k hk
      · exact .inr (hm.ow b _ hown)
    · obtain ⟨r1, v1, a1, a2, a3, a4⟩ := h1
      rw [e0] at a3
      cases a3
      cases a4
      exact .inr rfl
  · cases h
theorem sc_of (hC : CtOk P C) {f : FuncId} {fn : Func} {c : Code} {l : List (SV Γ)} {R : List (Res Γ)} {α : Type} {V : α → SV Γ} {R' : α → List (Res Γ)} {r : α} (hf : P.funcs[f]? = some fn) (hb : fn.body = some c) (hn : fn.ntmps = N) (hl : Nat.ble l.length N = true) (hd : dstC N c = true) (hcal : calB P f = some true)
    {rs : List ResultVar} (hrs : fn.results = rs.toArray) (hr4 : Nat.ble rs.length 4 = true) (h : ∀ X : Cx R.length, ev X P C N c (st0 l R) (Fin C R.length rs V R' r)) : SC P C f l R (V r) (R' r) := by
  refine ⟨hcal, fun β F w us hs hnx hv => ?_⟩
  have hlen := hv.len
  refine calls_cw hf hb hn (by rw [hlen]; exact hl) ?_
  let X : Cx R.length := ⟨w, F, fun g => ∃ b, own β (lk R) b g, β, hnx⟩
  have hm : Mt X C (st0 l R) (entry us) w := ⟨β, F, ⟨hs, getD_vl hv, hnx⟩, fun b v h => h, Fr.refl _ _, fun _ h => h, fun _ h => .inl h, fun b g h => .inl ⟨b, h⟩⟩
  refine cw_mono (ev_ok hC (h X) hd (entry us) w hm) ?_
  rintro e ρ' w' ⟨s', hfin, β', F', hm'⟩
  refine ⟨hfin.e, fun tmps ht => ?_⟩
  obtain ⟨B, h2⟩ := hfin.h
  unfold finVB at h2
  split at h2
  · rename_i ys hys
    obtain ⟨us', i1, i2⟩ := resv_ok hC hm'.sd ht hys
    have hlr := resv_len hys
    have hrun := mapM_run (P := P) (w := w') (g := resOne tmps) (Nat.le_of_ble_eq_true hr4) (by rw [hlr, i1.len]) i2
    have hru : (results fn tmps).run P w' = .ok (packU us') w' := by
      rw [results_eq, hrs, Sem.run_bind, hrun]
      match us' with
      | [] => simp [Result.andThen, packU]
      | [u] => simp [Result.andThen, packU]
      | u :: u' :: r'' => simp [Result.andThen, packU]
    have key : ∀ (B : List Nat) (s' : St Γ) (F' : Nat → Prop) (ys : List (SV Γ)), MtB X C s' ρ' w' β' F' → VL β' w' F' ys us' → finB R.length (V r) (R' r) B s' ys = some ([V r], R' r) → Left C (st0 l R) β F w (V r) (st0 [] (R' r)) (packU us') w' := by
      intro B
      induction B with
      | cons b B ih =>
        intro s' F' ys hm' i1 h2
        unfold finB at h2
        split at h2
        · rename_i s1 hs1
          obtain ⟨F1, q1, _, q2⟩ := fb1_ok hC.g hm' hs1
          exact ih _ _ _ q1 (q2 9 i1) h2
        · cases h2
      | nil =>
        intro s' F' ys hm' i1 h2
        obtain ⟨F'', k1, k2, k3, k4, k5, k6⟩ := nrmM_ok hC.g hm'.sd h2 (.cons (pack_vr i1) .nil)
        refine ⟨_, F'', ⟨fun b v hb => ?_, fun k hk => k1 k (hm'.fm k hk), hm'.fr, fun k hk => ?_⟩, k3, k5, ?_, fun b g hb => ?_⟩
        · have hbk : b < R.length := by
            rcases Nat.lt_or_ge b R.length with h | h
            · exact h
            · rw [hnx b h] at hb; cases hb
          simp only [bOf, mpo_get hbk]
          exact hm'.fix b v hb
        · rcases k2 k hk with h | ⟨b, h⟩
          · exact hm'.fb k h
          · exact .inr (hm'.ow b k h)
        · obtain ⟨u', r', e, j1, j2⟩ := k4.cons_inv
          cases e
          exact j1
        · obtain ⟨j, _, hj⟩ := k6 b g hb
          exact hm'.ow j g hj
    exact ⟨packU us', hru, packU us', rfl, key B s' F' ys hm' i1 h2⟩
  · cases h2
end
section
variable {Γ : Gm}
def rnL (f : SV Γ → SV Γ) : List (SV Γ) → List (SV Γ)
  | [] => []
  | x :: l => f x :: rnL f l
def rnv (σ : Nat → Nat) : Nat → SV Γ → SV Γ
  | 0, x => x
  | n + 1, x => match x with
    | .ptr b o => .ptr (σ b) o
    | .pel b n c i q => .pel (σ b) n c i q
    | .pea b o N n i q => .pea (σ b) o N n i q
    | .sl b n c => .sl (σ b) n c
    | .asl b o N n c => .asl (σ b) o N n c
    | .asp b o m => .asp (σ b) o m
    | .agg l => .agg (rnL (rnv σ n) l)
    | .tup l => .tup (rnL (rnv σ n) l)
    | .fn f l => .fn f (rnL (rnv σ n) l)
    | .ifc T x => .ifc T (rnv σ n x)
    | x => x
def rnr (σ : Nat → Nat) : Res Γ → Res Γ
  | .box T c => .box T (rnv σ 9 c)
  | r => r
def dpv : Nat → SV Γ → Bool
  | 0, _ => false
  | n + 1, x => match x with
    | .agg l | .tup l | .fn _ l => stv.all (dpv n) l
    | .ifc _ x => dpv n x
    | _ => true
def fltV (n : Nat) : SV Γ → Bool := match n with
  | 0 => fun _ => false
  | n + 1 => fun x => match x with
    | .v t _ => fltT Γ t
    | .pfz _ _ _ _ => false
    | .agg l | .tup l | .fn _ l => stv.all (fltV n) l
    | .ifc _ x => fltV n x
    | _ => true
def fltR : Res Γ → Bool
  | .box _ c => fltV 9 c
  | .row t _ _ => fltT Γ t
  | .fz _ _ => false
  | _ => true
variable {kp : Nat} {X : Cx kp} {P : Program} {C : Ct Γ} {s s' : St Γ} {w w' : World} {F F' : Nat → Prop} {β β' : Bt} {ρ : Env}
theorem CL.flat (hΓ : GmOk Γ) {l : List (PV Γ.toSg)} {cs : List Value} (h : CL w F l cs) : (∀ p ∈ l, fltT Γ p.t = true) → CL w F' l cs := by
  induction h with
  | nil => intro _; exact .nil
  | int e _ ih => intro hf; exact .int e (ih fun p hp => hf p (by simp [hp]))
  | bool e _ ih => intro hf; exact .bool e (ih fun p hp => hf p (by simp [hp]))
  | str e _ ih => intro hf; exact .str e (ih fun p hp => hf p (by simp [hp]))
  | sln e _ ih => intro hf; exact .sln e (ih fun p hp => hf p (by simp [hp]))
  | arr e _ _ i1 i2 =>
    intro hf
    refine .arr e (i1 fun p hp => ?_) (i2 fun p hp => hf p (by simp [hp]))
    have := hf _ List.mem_cons_self
    rw [e] at this
    obtain ⟨x, _, rfl⟩ := List.mem_map.1 hp
    exact this
  | st e _ _ i1 i2 =>
    intro hf
    refine .st e (i1 fun p hp => ?_) (i2 fun p hp => hf p (by simp [hp]))
    have := hf _ List.mem_cons_self
    rw [e] at this
    exact hΓ.fl_eq _ _ this p hp
  | sl e h1 h2 h3 _ _ i1 i2 =>
    intro hf
    have := hf _ List.mem_cons_self
    rw [e] at this
    simp [fltT] at this
theorem all_mem {f : SV Γ → Bool} {l : List (SV Γ)} (h : stv.all f l = true) {x : SV Γ} (hx : x ∈ l) : f x = true := stv_all f l h x hx
theorem VA.flat (hΓ : GmOk Γ) {x : SV Γ} {u : Value} {n : Nat} (h : VA β w F x u) (hf : fltV n x = true) : VA β w F' x u := by
  cases n with
  | zero => simp [fltV] at hf
  | succ n =>
    cases x <;> simp only [VA] at h ⊢
    case v t x => obtain ⟨cs, h1, h2⟩ := h; exact ⟨cs, CL.flat hΓ h1 (by simpa [fltV] using hf), h2⟩
    case pfz => simp [fltV] at hf
    all_goals exact h
theorem VL.flat (hΓ : GmOk Γ) {l : List (SV Γ)} {us : List Value} (h : VL β w F l us) : ∀ {n : Nat}, (∀ x ∈ l, fltV n x = true) → VL β w F' l us := by
  induction h with
  | nil => intro n _; exact .nil
  | atm h _ ih => intro n hf; exact .atm (VA.flat hΓ h (hf _ (by simp))) (ih fun x hx => hf x (by simp [hx]))
  | agg _ _ i1 i2 =>
    intro n hf
    cases n with
    | zero => have := hf _ (List.mem_cons_self); simp [fltV] at this
    | succ n => exact .agg (i1 fun x hx => all_mem (by simpa [fltV] using hf _ (List.mem_cons_self)) hx) (i2 fun x hx => hf x (by simp [hx]))
  | tup _ _ i1 i2 =>
    intro n hf
    cases n with
    | zero => have := hf _ (List.mem_cons_self); simp [fltV] at this
    | succ n => exact .tup (i1 fun x hx => all_mem (by simpa [fltV] using hf _ (List.mem_cons_self)) hx) (i2 fun x hx => hf x (by simp [hx]))
  | fn _ _ i1 i2 =>
    intro n hf
    cases n with
    | zero => have := hf _ (List.mem_cons_self); simp [fltV] at this
    | succ n => exact .fn (i1 fun x hx => all_mem (by simpa [fltV] using hf _ (List.mem_cons_self)) hx) (i2 fun x hx => hf x (by simp [hx]))
  | ifc _ _ i1 i2 =>
    intro n hf
    cases n with
    | zero => have := hf _ (List.mem_cons_self); simp [fltV] at this
    | succ n => exact .ifc (i1 fun x hx => by simp at hx; subst hx; simpa [fltV] using hf _ (List.mem_cons_self)) (i2 fun x hx => hf x (by simp [hx]))
theorem RR.flat (hΓ : GmOk Γ) {b : Nat} {r : Res Γ} (h : RR β w F b r) (hf : fltR r = true) : RR β w F' b r := by
  cases r <;> simp only [RR] at h ⊢
  case box T c => obtain ⟨g, u, h1, h2, h3⟩ := h; exact ⟨g, u, h1, VL.flat hΓ h2 (n := 9) (by simpa [fltR] using hf), h3⟩
  case row t E l =>
    obtain ⟨v, css, h1, h2, h3⟩ := h
    refine ⟨v, css, h1, h2, ?_⟩
    have hf' : fltT Γ t = true := by simpa [fltR] using hf
    clear h2 hf
    induction h3 with
    | nil => exact .nil
    | cons h _ ih => exact .cons (CL.flat hΓ h (by simpa using hf')) ih
  case fz => simp [fltR] at hf
  all_goals exact h
theorem rn_ok {σ : Nat → Nat} (hσ : ∀ b v, β b = some v → β' (σ b) = some v) : ∀ {n : Nat} {l : List (SV Γ)} {us : List Value}, VL β w F l us → (∀ x ∈ l, dpv n x = true) → VL β' w F (rnL (rnv σ n) l) us := by
  intro n l us h
  induction h generalizing n with
  | nil => intro _; exact .nil
  | @atm x u l us h _ ih =>
    intro hd
    have hx := hd x (by simp)
    refine .atm ?_ (ih fun y hy => hd y (by simp [hy]))
    cases n with
    | zero => simp [dpv] at hx
    | succ n =>
      cases x <;> simp only [VA] at h <;> simp only [rnv, VA]
      case ptr => obtain ⟨g, h1, h2⟩ := h; exact ⟨g, hσ _ _ h1, h2⟩
      case pel => obtain ⟨v0, v, h1, h2⟩ := h; exact ⟨v0, v, hσ _ _ h1, h2⟩
      case pea => obtain ⟨g, h1, h2⟩ := h; exact ⟨g, hσ _ _ h1, h2⟩
      case sl => obtain ⟨v0, h1, h2⟩ := h; exact ⟨v0, hσ _ _ h1, h2⟩
      case asl => obtain ⟨g, h1, h2⟩ := h; exact ⟨g, hσ _ _ h1, h2⟩
      case asp => obtain ⟨g, c, h1, h2⟩ := h; exact ⟨g, c, hσ _ _ h1, h2⟩
      all_goals exact h
  | agg _ _ i1 i2 =>
    intro hd
    have hx := hd _ (List.mem_cons_self)
    cases n with
    | zero => simp [dpv] at hx
    | succ n => exact .agg (i1 fun y hy => all_mem (by simpa [dpv] using hx) hy) (i2 fun y hy => hd y (by simp [hy]))
  | tup _ _ i1 i2 =>
    intro hd
    have hx := hd _ (List.mem_cons_self)
    cases n with
    | zero => simp [dpv] at hx
    | succ n => exact .tup (i1 fun y hy => all_mem (by simpa [dpv] using hx) hy) (i2 fun y hy => hd y (by simp [hy]))
  | fn _ _ i1 i2 =>
    intro hd
    have hx := hd _ (List.mem_cons_self)
    cases n with
    | zero => simp [dpv] at hx
    | succ n => exact .fn (i1 fun y hy => all_mem (by simpa [dpv] using hx) hy) (i2 fun y hy => hd y (by simp [hy]))
  | @ifc T x u l us _ _ i1 i2 =>
    intro hd
    have hx := hd _ (List.mem_cons_self)
    cases n with
    | zero => simp [dpv] at hx
    | succ n => exact .ifc (i1 fun y hy => by simp at hy; subst hy; simpa [dpv] using hx) (i2 fun y hy => hd y (by simp [hy]))
theorem stv_rn {σ : Nat → Nat} : ∀ (n m : Nat) (x : SV Γ), stv n (rnv σ m x) = stv n x := by
  intro n
  induction n with
  | zero => intro m x; simp [stv]
  | succ n ih =>
    intro m x
    have hl : ∀ (m : Nat) (l : List (SV Γ)), stv.all (stv n) (rnL (rnv σ m) l) = stv.all (stv n) l := by
      intro m l
      induction l with
      | nil => rfl
      | cons a l il => simp only [rnL, stv.all, ih, il]
    cases m with
    | zero => rfl
    | succ m => cases x <;> first | rfl | exact hl m _
theorem mtb_rn {σ : Nat → Nat} (r : Res Γ) : mtb (rnr σ r) = mtb r := by cases r <;> rfl
def dpR : List (Res Γ) → Bool
  | [] => true
  | .box _ c :: l => dpv 9 c && dpR l
  | _ :: l => dpR l
def flR : List (Res Γ) → Bool
  | [] => true
  | r :: l => fltR r && flR l
theorem dpR_ok : ∀ {l : List (Res Γ)} {i : Nat} {T : TypeId} {c : SV Γ}, dpR l = true → l[i]? = some (.box T c) → dpv 9 c = true
  | [], i, T, c, h, hi => by simp at hi
  | r :: l, 0, T, c, h, hi => by
    simp at hi
    subst hi
    simp only [dpR, Bool.and_eq_true] at h
    exact h.1
  | r :: l, i + 1, T, c, h, hi => by
    refine dpR_ok (l := l) (i := i) (T := T) ?_ (by simpa using hi)
    cases r <;> first | exact h | (simp only [dpR, Bool.and_eq_true] at h; exact h.2)
theorem flR_ok : ∀ {l : List (Res Γ)} {i : Nat} {r : Res Γ}, flR l = true → l[i]? = some r → fltR r = true
  | [], i, r, h, hi => by simp at hi
  | q :: l, 0, r, h, hi => by
    simp at hi
    subst hi
    simp only [flR, Bool.and_eq_true] at h
    exact h.1
  | q :: l, i + 1, r, h, hi => by
    simp only [flR, Bool.and_eq_true] at h
    exact flR_ok h.2 (by simpa using hi)
theorem rnr_ok {σ : Nat → Nat} (hσ : ∀ b v, β b = some v → β' (σ b) = some v) {b : Nat} {r : Res Γ} (h : RR β w F b r) (hd : ∀ T c, r = .box T c → dpv 9 c = true) : RR β' w F (σ b) (rnr σ r) := by
  cases r <;> simp only [RR, rnr] at h ⊢
  case box T c =>
    obtain ⟨g, u, h1, h2, h3, h4⟩ := h
    exact ⟨g, u, hσ _ _ h1, rn_ok hσ h2 (n := 9) (by intro x hx; simp at hx; subst hx; exact hd _ _ rfl), by rw [stv_rn]; exact h3, h4⟩
  case row => obtain ⟨v, css, h1, h2⟩ := h; exact ⟨v, css, hσ _ _ h1, h2⟩
  case rowc => obtain ⟨v, h1, h2⟩ := h; exact ⟨v, hσ _ _ h1, h2⟩
  case fz => obtain ⟨v, h1, h2⟩ := h; exact ⟨v, hσ _ _ h1, h2⟩
  case itr => obtain ⟨v, h1, h2⟩ := h; exact ⟨v, hσ _ _ h1, h2⟩
def ids2 (s : St Γ) : SV Γ → List Nat
  | .asp b _ _ => match s.L b with
    | some (.box _ c) => ids 9 c
    | _ => []
  | _ => []
def ids2L (s : St Γ) : List (SV Γ) → List Nat
  | [] => []
  | x :: l => ids2 s x ++ ids2L s l
def frzS (s : St Γ) (u : Ty Γ.S) : List (SV Γ) → Option (List (el Γ.toSg u))
  | [] => some []
  | x :: l => match frz s 8 u x, frzS s u l with
    | some y, some r => some (y :: r)
    | _, _ => none
def lit1 (s : St Γ) (t : Ty Γ.S) (x : SV Γ) : Option (el Γ.toSg t) := match x with
  | .asp b o n => match s.L b with
    | some (.box _ (.agg l)) => match t with
      | .sl u => match Nat.beq o 0 && Nat.beq n (List.length l) with
        | true => frzS s u l
        | false => none
      | _ => none
    | _ => none
  | _ => none
def cvw (s : St Γ) (m : Mp) (x y : SV Γ) : Option (SV Γ) := match cvv s m 9 x y with
  | some z => some z
  | none => match x with
    | .v t _ => match lit1 s t y with
      | some z => some (.v t z)
      | none => none
    | _ => none
theorem ids2L_mem {s : St Γ} : ∀ {l : List (SV Γ)} {x : SV Γ} {b : Nat}, x ∈ l → b ∈ ids2 s x → b ∈ ids2L s l
  | y :: l, x, b, hx, hb => by
    rw [ids2L, List.mem_append]
    rcases List.mem_cons.1 hx with rfl | hx
    · exact .inl hb
    · exact .inr (ids2L_mem hx hb)
theorem frzS_ok (hC : GmOk Γ) (hs : Sd C s ρ β F w) (hF : ∀ k, F k → F' k) {u : Ty Γ.S} : ∀ {l : List (SV Γ)} {ys : List (el Γ.toSg u)} {us : List Value}, frzS s u l = some ys → VL β w F l us → (∀ b ∈ ids.go (ids 8) l, ∀ k, own β s.L b k → F' k) → ∃ css : List (Ck (sz Γ u)), CK w F' u ys css ∧ css.flatMap (kC (sz Γ u)).enc = cellsV us ∧ css.length = l.length
  | [], ys, us, h, hl, hi => by cases h; cases hl; exact ⟨[], .nil, rfl, rfl⟩
  | x :: l, ys, us, h, hl, hi => by
    unfold frzS at h
    split at h
    · rename_i y r h1 h2
      cases h
      obtain ⟨v, us', rfl, j1, j2⟩ := hl.cons_inv
      have hc := frz_ok hC hs hF 8 h1 j1 fun b hb => hi b (by rw [ids.go, List.mem_append]; exact .inl hb)
      obtain ⟨css, i1, i2, i3⟩ := frzS_ok hC hs hF h2 j2 fun b hb => hi b (by rw [ids.go, List.mem_append]; exact .inr hb)
      refine ⟨⟨v.cells.toList, by have := hc.len hC; simpa [szp] using this, hc.one⟩ :: css, .cons hc i1, ?_, by simp [i3]⟩
      rw [List.flatMap_cons, i2]
      simp [cellsV, kC]
    · cases h
theorem lit1_ok (hC : GmOk Γ) (hs : Sd C s ρ β F w) (hF : ∀ k, F k → F' k) {t : Ty Γ.S} {x : SV Γ} {y : el Γ.toSg t} {u : Value} (h : lit1 s t x = some y) (hv : VR β w F x u) (h1 : ∀ b ∈ ids 9 x, ∀ k, own β s.L b k → F' k) (h2 : ∀ b ∈ ids2 s x, ∀ k, own β s.L b k → F' k) : VR β' w F' (.v t y) u := by
  unfold lit1 at h
  split at h
  · rename_i b o n
    split at h
    · rename_i T l hL
      cases t with
      | sl u0 =>
        simp only at h
        split at h
        · rename_i hb
          rw [Bool.and_eq_true] at hb
          have e1 := Nat.eq_of_beq_eq_true hb.1
          have e2 := Nat.eq_of_beq_eq_true hb.2
          subst e1
          obtain ⟨g, c, e0, rfl, hc⟩ := hv.asp
          obtain ⟨g', u', e, hcv, hst, hg⟩ := hs.hs.rr _ _ hL
          rw [e0] at e
          injection e with e
          simp [pt] at e
          subst e
          obtain ⟨us, hl, rfl⟩ := hcv.agg
          obtain ⟨css, k1, k2, k3⟩ := frzS_ok hC hs hF h hl fun b' hb' => h2 b' (by simp only [ids2, hL, ids]; exact hb')
          have hat := row_at' hg
          rw [k3.symm] at e2
          subst e2
          refine .of (x := SV.v _ _) ⟨[_], CL.mk_sl (css := css) ⟨some ⟨g, 0, none⟩, c, rfl, hc, fun _ => ⟨g, 0, rfl, ?_⟩⟩ k1 (fun _ => h1 b (by simp [ids]) _ ⟨_, _, hL, rfl, e0, rfl⟩), by simp [pk, isAgg]⟩
          rw [k2]
          simpa [Value.cells] using hat
        · cases h
      | _ => cases h
    · cases h
  · cases h
def hidC (s : St Γ) (m : Mp) (A l : List (SV Γ)) (R : List (Res Γ)) : List Nat := fzL (fzv 9) A l ++ (fzr s.L m R 0 ++ ids2L s l)
def noGone : List (Res Γ) → Bool
  | [] => true
  | r :: l => match r with
    | .gone => false
    | _ => noGone l
def disj : List Nat → List Nat → Bool
  | [], _ => true
  | i :: l, r => notIn i r && disj l r
def nrmC (s : St Γ) (m : Mp) (l A : List (SV Γ)) (R : List (Res Γ)) : Option (List (SV Γ) × List (Res Γ)) := match (ndp (mids m 0 R) && keysB (List.length R) m) && (disj (mids m 0 R) (hidC s m A l R) && noGone R) with
  | true => match cvL (cvw s m) A l, cvR s m 0 R with
    | some zs, some R' => some (zs, R')
    | _, _ => none
  | false => none
def ren (nx : Nat) (m : Mp) (n i : Nat) : Nat := match Nat.blt i n with
  | true => match mget m i with
    | some (some j) => j
    | _ => Nat.add nx i
  | false => Nat.add nx i
def put1 {α : Type} (σ : Nat → Nat) (b : Nat) (r : Res Γ) (L : Nat → Option (Res Γ)) (k : (Nat → Option (Res Γ)) → Option α) : Option α := match r with
  | .box T c => frc (rnv σ 9 c) (fun c => k (upd L b (some (.box T c)))) none
  | .row t E l => k (upd L b (some (.row t E l)))
  | .rowc E l => k (upd L b (some (.rowc E l)))
  | .fz t l => k (upd L b (some (.fz t l)))
  | .itr l i => k (upd L b (some (.itr l i)))
  | .gone => k (upd L b (some .gone))
theorem put1_eq {α : Type} {σ : Nat → Nat} {b : Nat} {r : Res Γ} {L : Nat → Option (Res Γ)} {k : (Nat → Option (Res Γ)) → Option α} {x : α} (h : put1 σ b r L k = some x) : k (upd L b (some (rnr σ r))) = some x := by
  cases r <;> simp only [put1] at h
  case box T c =>
    rcases frc_eq (v := rnv σ 9 c) (k := fun c => k (upd L b (some (.box T c)))) (e := none) with e | e <;> rw [e] at h
    · exact h
    · cases h
  all_goals exact h
def wb (σ : Nat → Nat) (m : Mp) : List (Res Γ) → List (Res Γ) → Nat → (Nat → Option (Res Γ)) → Option (Nat → Option (Res Γ))
  | _, [], _, L => some L
  | [], r' :: R', i, L => put1 σ (σ i) r' L (wb σ m [] R' (Nat.succ i))
  | r :: R, r' :: R', i, L => match mtb r with
    | true => put1 σ (σ i) r' L (wb σ m R R' (Nat.succ i))
    | false => match mget m i with
      | some (some _) => wb σ m R R' (Nat.succ i) L
      | _ => put1 σ (σ i) r' L (wb σ m R R' (Nat.succ i))
def wrt (m : Mp) (R : List (Res Γ)) (i a : Nat) : Prop := ∀ q, R[a]? = some q → mtb q = true ∨ ∀ j, mget m (i + a) ≠ some (some j)
theorem wb_ok {σ : Nat → Nat} {m : Mp} : ∀ {R R' : List (Res Γ)} {i : Nat} {L L' : Nat → Option (Res Γ)}, wb σ m R R' i L = some L' → ∀ b r, L' b = some r →
    (∃ a r', R'[a]? = some r' ∧ σ (i + a) = b ∧ r = rnr σ r' ∧ wrt m R i a) ∨ (L b = some r ∧ ∀ a r', R'[a]? = some r' → wrt m R i a → σ (i + a) ≠ b) := by
  have step : ∀ {R R' : List (Res Γ)} {r' : Res Γ} {i : Nat} {L : Nat → Option (Res Γ)} {b : Nat} {r : Res Γ} {S : List (Res Γ)}, wrt m S i 0 → (∀ a, wrt m R (Nat.succ i) a ↔ wrt m S i (a + 1)) →
      ((∃ a q, R'[a]? = some q ∧ σ (Nat.succ i + a) = b ∧ r = rnr σ q ∧ wrt m R (Nat.succ i) a) ∨ (upd L (σ i) (some (rnr σ r')) b = some r ∧ ∀ a q, R'[a]? = some q → wrt m R (Nat.succ i) a → σ (Nat.succ i + a) ≠ b)) →
      (∃ a q, (r' :: R')[a]? = some q ∧ σ (i + a) = b ∧ r = rnr σ q ∧ wrt m S i a) ∨ (L b = some r ∧ ∀ a q, (r' :: R')[a]? = some q → wrt m S i a → σ (i + a) ≠ b) := by
    intro R R' r' i L b r S h0 hS h
    rcases h with ⟨a, q, h1, h2, h3, h4⟩ | ⟨h1, h2⟩
    · exact .inl ⟨a + 1, q, by simpa using h1, by rw [show i + (a + 1) = Nat.succ i + a by omega]; exact h2, h3, (hS a).1 h4⟩
    · by_cases e : b = σ i
      · subst e
        rw [upd_same] at h1
        cases h1
        exact .inl ⟨0, r', rfl, rfl, rfl, h0⟩
      · rw [upd_ne _ _ e] at h1
        refine .inr ⟨h1, fun a q ha hw => ?_⟩
        cases a with
        | zero => exact fun h => e h.symm
        | succ a => rw [show i + (a + 1) = Nat.succ i + a by omega]; exact h2 a q (by simpa using ha) ((hS a).2 hw)
  have tl : ∀ {r : Res Γ} {R : List (Res Γ)} {i a : Nat}, wrt m R (Nat.succ i) a ↔ wrt m (r :: R) i (a + 1) := by
    intro r R i a
    unfold wrt
    rw [show Nat.succ i + a = i + (a + 1) by omega]
    simp
  have tl0 : ∀ {i a : Nat}, wrt m ([] : List (Res Γ)) (Nat.succ i) a ↔ wrt m ([] : List (Res Γ)) i (a + 1) := by intro i a; simp [wrt]
  intro R R'
  induction R' generalizing R with
  | nil =>
    intro i L L' h b r hb
    have h : some L = some L' := by cases R <;> exact h
    cases h
    exact .inr ⟨hb, by simp⟩
  | cons r' R' ih =>
    intro i L L' h b r hb
    cases R with
    | nil => exact step (by simp [wrt]) (fun a => tl0) (ih (put1_eq h) b r hb)
    | cons q R =>
      unfold wb at h
      split at h
      · rename_i hq
        exact step (by intro x hx; simp at hx; subst hx; exact .inl hq) (fun a => tl) (ih (put1_eq h) b r hb)
      · rename_i hq
        split at h
        · rename_i j hm
          rcases ih h b r hb with ⟨a, x, h1, h2, h3, h4⟩ | ⟨h1, h2⟩
          · exact .inl ⟨a + 1, x, by simpa using h1, by rw [show i + (a + 1) = Nat.succ i + a by omega]; exact h2, h3, tl.1 h4⟩
          · refine .inr ⟨h1, fun a x ha hw => ?_⟩
            cases a with
            | zero =>
              exfalso
              rcases hw q rfl with h | h
              · rw [hq] at h; cases h
              · exact h j hm
            | succ a => rw [show i + (a + 1) = Nat.succ i + a by omega]; exact h2 a x (by simpa using ha) (tl.2 hw)
        · rename_i hm
          exact step (by intro x hx; simp at hx; subst hx; exact .inr fun j hj => hm j hj) (fun a => tl) (ih (put1_eq h) b r hb)
def post1 (s : St Γ) (m : Mp) (R R' : List (Res Γ)) (v : SV Γ) (L : Nat → Option (Res Γ)) : Option (SV Γ × St Γ) := match wb (ren s.nx m (List.length R)) m R R' 0 L with
  | some L => frc (rnv (ren s.nx m (List.length R)) 9 v) (fun v => some (v, ⟨s.ρ, L, Nat.add s.nx (List.length R')⟩)) none
  | none => none
def post (s : St Γ) (m : Mp) (hid : List Nat) (R R' : List (Res Γ)) (v : SV Γ) : Option (SV Γ × St Γ) := match Nat.ble (List.length R) (List.length R') && (dpv 9 v && dpR R') with
  | true => match fltV 9 v && flR R' with
    | true => post1 s m R R' v s.L
    | false => match fre s.L hid with
      | some L => post1 s m R R' v L
      | none => none
  | false => none
theorem post1_eq {s : St Γ} {m : Mp} {R R' : List (Res Γ)} {v v2 : SV Γ} {s2 : St Γ} {L : Nat → Option (Res Γ)} (h : post1 s m R R' v L = some (v2, s2)) :
    wb (ren s.nx m R.length) m R R' 0 L = some s2.L ∧ v2 = rnv (ren s.nx m R.length) 9 v ∧ s2.ρ = s.ρ ∧ s2.nx = s.nx + R'.length := by
  unfold post1 at h
  split at h
  · rename_i L' hw
    rcases frc_eq (v := rnv (ren s.nx m R.length) 9 v) (k := fun v => some (v, (⟨s.ρ, L', Nat.add s.nx (List.length R')⟩ : St Γ))) (e := none) with e | e
    · rw [e] at h
      cases h
      exact ⟨hw, rfl, rfl, rfl⟩
    · rw [e] at h; cases h
  · cases h
theorem disj_ok : ∀ {l r : List Nat}, disj l r = true → ∀ j, j ∈ l → j ∉ r
  | [], r, _, j, hj => by simp at hj
  | i :: l, r, h, j, hj => by
    simp only [disj, Bool.and_eq_true] at h
    rcases List.mem_cons.1 hj with rfl | hj
    · exact notIn_ok h.1
    · exact disj_ok h.2 j hj
theorem noGone_ok : ∀ {l : List (Res Γ)} {i : Nat}, noGone l = true → l[i]? ≠ some .gone
  | [], i, _ => by simp
  | r :: l, 0, h => by
    intro e
    simp at e
    subst e
    simp [noGone] at h
  | r :: l, i + 1, h => by
    intro e
    refine noGone_ok (l := l) (i := i) ?_ (by simpa using e)
    cases r <;> first | exact h | simp [noGone] at h
end
section
variable {Γ : Gm} {P : Program} {C : Ct Γ} {s s' : St Γ} {w w' : World} {F F' : Nat → Prop} {β β' : Bt} {ρ : Env}
theorem nrmC_eq {m : Mp} {l A : List (SV Γ)} {R : List (Res Γ)} {zs : List (SV Γ)} {R' : List (Res Γ)} (h : nrmC s m l A R = some (zs, R')) :
    ndp (mids m 0 R) = true ∧ keysB R.length m = true ∧ disj (mids m 0 R) (hidC s m A l R) = true ∧ noGone R = true ∧ cvL (cvw s m) A l = some zs ∧ cvR s m 0 R = some R' := by
  unfold nrmC at h
  split at h
  · rename_i hb
    simp only [Bool.and_eq_true] at hb
    split at h
    · rename_i z r h1 h2
      cases h
      exact ⟨hb.1.1, hb.1.2, hb.2.1, hb.2.2, h1, h2⟩
    · cases h
  · cases h
theorem rr_some {b : Nat} {r : Res Γ} (h : RR β w F b r) (hg : r ≠ .gone) : ∃ v, β b = some v := by
  cases r <;> simp only [RR] at h
  case box => obtain ⟨g, u, h1, _⟩ := h; exact ⟨_, h1⟩
  case row => obtain ⟨v, css, h1, _⟩ := h; exact ⟨_, h1⟩
  case rowc => obtain ⟨v, h1, _⟩ := h; exact ⟨_, h1⟩
  case fz => obtain ⟨v, h1, _⟩ := h; exact ⟨_, h1⟩
  case itr => obtain ⟨v, h1, _⟩ := h; exact ⟨_, h1⟩
  case gone => exact absurd rfl hg
structure In (C : Ct Γ) (s : St Γ) (β : Bt) (F : Nat → Prop) (w : World) (m : Mp) (R : List (Res Γ)) (hid : List Nat) (F1 : Nat → Prop) : Prop where
  hs : HS C (bOf β m) F1 w (lk R)
  fm : ∀ k, F k → F1 k
  fh : ∀ k, F1 k → F k ∨ ∃ b, b ∈ hid ∧ own β s.L b k
  hf : ∀ b k, b ∈ hid → own β s.L b k → F1 k
  nn : ∀ b, R.length ≤ b → bOf β m b = none
  ky : ∀ i j, mget m i = some (some j) → i < R.length ∧ ∃ v, β j = some v
  ow : ∀ b g, own (bOf β m) (lk R) b g → ∃ j r, mget m b = some (some j) ∧ own β s.L j g ∧ R[b]? = some r ∧ mtb r = true
theorem in_ok (hC : GmOk Γ) (hs : Sd C s ρ β F w) {m : Mp} {l A : List (SV Γ)} {R : List (Res Γ)} {us : List Value} (h : nrmC s m l A R = some (A, R)) (hl : VL β w F l us) :
    ∃ F1, In C s β F w m R (hidC s m A l R) F1 ∧ VL (bOf β m) w F1 A us := by
  obtain ⟨h3, h4, h5, h6, h1, h2⟩ := nrmC_eq h
  obtain ⟨F1, hF1⟩ : ∃ F1 : Nat → Prop, F1 = fun k => F k ∨ ∃ b, b ∈ hidC s m A l R ∧ own β s.L b k := ⟨_, rfl⟩
  have hfm : ∀ k, F k → F1 k := fun k hk => by rw [hF1]; exact .inl hk
  have hhf : ∀ b k, b ∈ hidC s m A l R → own β s.L b k → F1 k := fun b k hb hk => by rw [hF1]; exact .inr ⟨b, hb, hk⟩
  have hfh : ∀ k, F1 k → F k ∨ ∃ b, b ∈ hidC s m A l R ∧ own β s.L b k := fun k hk => by rw [hF1] at hk; exact hk
  clear hF1
  have hok : ∀ i r, R[i]? = some r → RR (bOf β m) w F1 i r ∧ (mtb r = true → (∃ j q, mget m i = some (some j) ∧ s.L j = some q ∧ mtb q = true) ∨ bOf β m i = some (.slice none 0 0)) := by
    intro i r hi
    obtain ⟨r0, e0, e1⟩ := (cvR_get h2).2 i r hi
    rw [hi] at e0
    cases e0
    rw [Nat.zero_add] at e1
    obtain ⟨j1, j2, j3⟩ := cvr_ok hC hs hfm e1 (by
      intro T c hrr j T' c' hm hLj b hb
      subst hrr
      exact fun k hk => hhf b k (List.mem_append.2 (.inr (List.mem_append.2 (.inl (fzr_mem hi (by rw [Nat.zero_add]; exact hm) hLj b hb))))) hk)
    exact ⟨j1, j3⟩
  have hky : ∀ i j, mget m i = some (some j) → i < R.length ∧ ∃ v, β j = some v := by
    intro i j hm
    have hi := keysB_ok h4 hm
    refine ⟨hi, ?_⟩
    obtain ⟨v, hv⟩ := rr_some (hok i R[i] (List.getElem?_eq_getElem hi)).1 (fun e => noGone_ok (i := i) h6 (by rw [List.getElem?_eq_getElem hi, e]))
    exact ⟨v, by simpa [bOf, hm] using hv⟩
  have hown : ∀ b g, own (bOf β m) (lk R) b g → ∃ j r, mget m b = some (some j) ∧ own β s.L j g ∧ R[b]? = some r ∧ mtb r = true := by
    rintro b g ⟨r, v, k1, k2, k3, k4⟩
    rcases (hok b r k1).2 k2 with ⟨j, q, j1, j2, j3⟩ | j1
    · exact ⟨j, r, j1, ⟨q, v, j2, j3, by simpa [bOf, j1] using k3, k4⟩, k1, k2⟩
    · rw [j1] at k3
      cases k3
      simp [blk] at k4
  refine ⟨F1, ⟨⟨fun b r hb => (hok b r hb).1, ?_, ?_, ?_, ?_⟩, hfm, hfh, hhf, ?_, hky, hown⟩, ?_⟩
  · intro b b' g o1 o2
    obtain ⟨j, r, j1, j2, j3, j4⟩ := hown b g o1
    obtain ⟨j', r', j1', j2', j3', j4'⟩ := hown b' g o2
    have e := hs.hs.sep _ _ _ j2 j2'
    subst e
    exact mids_inj h3 j3 j3' j4 j4' (by rw [Nat.zero_add]; exact j1) (by rw [Nat.zero_add]; exact j1')
  · intro b g o1 hF
    obtain ⟨j, r, j1, j2, j3, j4⟩ := hown b g o1
    rcases hfh g hF with hF | ⟨b', hb', ho⟩
    · exact hs.hs.dis _ _ j2 hF
    · have e := hs.hs.sep _ _ _ j2 ho
      subst e
      exact disj_ok h5 j (mids_get j3 j4 (by rw [Nat.zero_add]; exact j1)) hb'
  · intro k hk
    rcases hfh k hk with hk | ⟨b, _, hb⟩
    · exact hs.hs.fsz k hk
    · exact own_lt hs.hs hb
  · exact gl_mono (s := s) (β' := β) hs.hs hfm (fun _ _ => rfl)
  · intro b hb
    unfold bOf
    split
    · rename_i j hm
      have := keysB_ok h4 hm
      omega
    · rename_i hm
      have := keysB_ok h4 hm
      omega
    · rfl
  · refine cvL_ok h1 hl fun x y z u hxy hf hvy => ?_
    have hz : ∀ b ∈ fzv 9 x y, ∀ k, own β s.L b k → F1 k := fun b hb k hk => hhf b k (List.mem_append.2 (.inl (fzL_mem hxy hb))) hk
    unfold cvw at hf
    split at hf
    · rename_i z' hz'
      cases hf
      exact cvv_ok hC hs hfm 9 hz' hvy hz
    · split at hf
      · rename_i t x'
        split at hf
        · rename_i z' hz'
          cases hf
          exact lit1_ok hC hs hfm hz' hvy hz fun b hb k hk => hhf b k (List.mem_append.2 (.inr (List.mem_append.2 (.inr (ids2L_mem (List.of_mem_zip hxy).2 hb))))) hk
        · cases hf
      · cases hf
structure Bs (C : Ct Γ) (s : St Γ) (β : Bt) (F : Nat → Prop) (w : World) (F1 F2 : Nat → Prop) (L : Nat → Option (Res Γ)) (Fb F3 : Nat → Prop) : Prop where
  hs : HS C β Fb w L
  f1 : ∀ k, F k → Fb k
  f2 : ∀ k, Fb k → F1 k
  f3 : ∀ k, Fb k → F3 k
  f4 : ∀ k, F3 k → F2 k
  f5 : ∀ k, F3 k → F1 k → Fb k
  ow : ∀ b g, own β L b g → own β s.L b g
theorem call_left (hC : GmOk Γ) (hs : Sd C s ρ β F w) {m : Mp} {hid : List Nat} {R R' : List (Res Γ)} {F1 F2 F3 Fb : Nat → Prop} {v v2 : SV Γ} {s2 : St Γ} {u : Value} {β2 : Bt} {L : Nat → Option (Res Γ)} (hi : In C s β F w m R hid F1)
    (ev : Evo (bOf β m) F1 w (fun g => ∃ b, own (bOf β m) (lk R) b g) β2 F2 w') (hs2 : HS C β2 F2 w' (lk R')) (hn2 : ∀ b, R'.length ≤ b → β2 b = none) (ho2 : ∀ b g, own β2 (lk R') b g → (∃ b, own (bOf β m) (lk R) b g) ∨ w.heap.size ≤ g)
    (hb : Bs C s β F w F1 F2 L Fb F3) (hv : VR β2 w' F3 v u) (hr : ∀ b r, R'[b]? = some r → RR β2 w' F3 b r) (hlen : R.length ≤ R'.length) (hdv : dpv 9 v = true) (hdR : dpR R' = true) (hp : post1 s m R R' v L = some (v2, s2)) : Left C s β F w v2 s2 u w' := by
  obtain ⟨hwb, e2, e3, e4⟩ := post1_eq hp
  have hnx : ∀ b v, β b = some v → b < s.nx := by
    intro b v hv
    rcases Nat.lt_or_ge b s.nx with h | h
    · exact h
    · rw [hs.nx b h] at hv; cases hv
  obtain ⟨β3, hβ3⟩ : ∃ β3 : Bt, β3 = fun c => if c < s.nx then β c else β2 (c - s.nx) := ⟨_, rfl⟩
  have hext : ∀ b v, β b = some v → β3 b = some v := by
    intro b v h
    rw [hβ3]
    simp only
    rw [if_pos (hnx b v h)]
    exact h
  have hlo : ∀ b, b < s.nx → β3 b = β b := fun b h => by rw [hβ3]; simp only; rw [if_pos h]
  have hhi : ∀ i, β3 (s.nx + i) = β2 i := fun i => by
    rw [hβ3]
    simp only
    rw [if_neg (by omega), show s.nx + i - s.nx = i by omega]
  have hout : ∀ b, s.nx + R'.length ≤ b → β3 b = none := by
    intro b h
    rw [hβ3]
    simp only
    rw [if_neg (by omega)]
    exact hn2 _ (by omega)
  clear hβ3
  have hren : ∀ {i j : Nat}, mget m i = some (some j) → ren s.nx m R.length i = j := by
    intro i j hm
    unfold ren
    have : Nat.blt i R.length = true := by rw [blt_iff]; exact (hi.ky i j hm).1
    rw [this, hm]
  have hσ : ∀ i v, β2 i = some v → β3 (ren s.nx m R.length i) = some v := by
    intro i v hv
    cases hm : mget m i with
    | none =>
      have : ren s.nx m R.length i = s.nx + i := by unfold ren; rw [hm]; split <;> rfl
      rw [this, hhi]; exact hv
    | some o => cases o with
      | none =>
        have : ren s.nx m R.length i = s.nx + i := by unfold ren; rw [hm]; split <;> rfl
        rw [this, hhi]; exact hv
      | some j =>
        rw [hren hm]
        obtain ⟨hlt, v0, h0⟩ := hi.ky i j hm
        have h1 : bOf β m i = some v0 := by simp [bOf, hm, h0]
        have h2 := ev.ext i v0 h1
        rw [h2] at hv
        cases hv
        exact hext j _ h0
  have same : ∀ k, F1 k → w'.heap[k]? = w.heap[k]? := fun k hk => ev.fr.blk k (hi.hs.fsz k hk) (fun ⟨b, h⟩ => hi.hs.dis b k h hk)
  have hO : ∀ g, (∃ b, own (bOf β m) (lk R) b g) → ∃ j, own β s.L j g ∧ ∃ a r', R'[a]? = some r' ∧ wrt m R 0 a ∧ ren s.nx m R.length (0 + a) = j := by
    rintro g ⟨a, ha⟩
    obtain ⟨j, r, j1, j2, j3, j4⟩ := hi.ow a g ha
    have hlt := (hi.ky a j j1).1
    refine ⟨j, j2, a, R'[a]'(by omega), List.getElem?_eq_getElem _, ?_, by rw [Nat.zero_add]; exact hren j1⟩
    intro q hq
    rw [j3] at hq
    cases hq
    exact .inl j4
  have hown : ∀ b g, own β3 s2.L b g → (∃ i, own β2 (lk R') i g ∧ ren s.nx m R.length i = b) ∨ (own β L b g ∧ b < s.nx ∧ ∀ a r', R'[a]? = some r' → wrt m R 0 a → ren s.nx m R.length (0 + a) ≠ b) := by
    rintro b g ⟨r, v, k1, k2, k3, k4⟩
    rcases wb_ok hwb b r k1 with ⟨a, r', i1, i2, i3, i4⟩ | ⟨i1, i2⟩
    · rw [Nat.zero_add] at i2
      subst i3
      rw [mtb_rn] at k2
      obtain ⟨v', hv'⟩ := rr_some (hs2.rr a r' i1) (by rintro rfl; cases k2)
      have := hσ a v' hv'
      rw [i2, k3] at this
      cases this
      exact .inl ⟨a, ⟨r', v, i1, k2, hv', k4⟩, i2⟩
    · obtain ⟨v', hv'⟩ := rr_some (hb.hs.rr b r i1) (by rintro rfl; cases k2)
      rw [hext b v' hv'] at k3
      cases k3
      exact .inr ⟨⟨r, v, i1, k2, hv', k4⟩, hnx b v hv', i2⟩
  refine ⟨β3, F3, ⟨hext, fun k hk => hb.f3 k (hb.f1 k hk), ev.fr.mono fun g hg => ?_, fun k hk => ?_⟩, ⟨?_, ?_, ?_, ?_, ?_⟩, ?_, ?_, ?_⟩
  · obtain ⟨j, h, _⟩ := hO g hg
    exact ⟨j, h⟩
  · rcases ev.fb k (hb.f4 k hk) with h | h | h
    · rcases hi.fh k h with h | ⟨b, _, h⟩
      · exact .inl h
      · exact .inr (.inl ⟨b, h⟩)
    · obtain ⟨j, h, _⟩ := hO k h
      exact .inr (.inl ⟨j, h⟩)
    · exact .inr (.inr h)
  · intro b r hL
    rcases wb_ok hwb b r hL with ⟨a, r', i1, i2, i3, i4⟩ | ⟨i1, i2⟩
    · subst i3
      rw [Nat.zero_add] at i2
      subst i2
      exact rnr_ok hσ (hr a r' i1) fun T c e => dpR_ok hdR (by rw [i1, e])
    · refine (hb.hs.rr b r i1).mono hext hb.f3 (fun k hk => same k (hb.f2 k hk)) ev.fr fun v g t1 t2 t3 t4 => ?_
      obtain ⟨j, hj, a, r', ha, hw, e⟩ := hO g t4
      have hbo : own β s.L b g := hb.ow b g ⟨r, v, i1, t1, t2, t3⟩
      have := hs.hs.sep _ _ _ hj hbo
      subst this
      exact i2 a r' ha hw e
  · intro b b' g o1 o2
    have LR : ∀ {b b' g : Nat}, (∃ i, own β2 (lk R') i g ∧ ren s.nx m R.length i = b) → (own β L b' g ∧ b' < s.nx ∧ ∀ a r', R'[a]? = some r' → wrt m R 0 a → ren s.nx m R.length (0 + a) ≠ b') → False := by
      rintro b b' g ⟨i, i1, i2⟩ ⟨p1, p2, p3⟩
      rcases ho2 i g i1 with h | h
      · obtain ⟨j, hj, a, r', ha, hw, e⟩ := hO g h
        have := hs.hs.sep _ _ _ hj (hb.ow _ _ p1)
        subst this
        exact p3 a r' ha hw e
      · have := own_lt hs.hs (hb.ow _ _ p1)
        omega
    rcases hown b g o1 with h1 | h1 <;> rcases hown b' g o2 with h2 | h2
    · obtain ⟨i, i1, i2⟩ := h1
      obtain ⟨i', i1', i2'⟩ := h2
      have := hs2.sep _ _ _ i1 i1'
      subst this
      rw [← i2, ← i2']
    · exact (LR h1 h2).elim
    · exact (LR h2 h1).elim
    · exact hb.hs.sep _ _ _ h1.1 h2.1
  · intro b g o1 hF
    rcases hown b g o1 with ⟨i, i1, i2⟩ | ⟨p1, p2, p3⟩
    · exact hs2.dis _ _ i1 (hb.f4 g hF)
    · rcases ev.fb g (hb.f4 g hF) with h | h | h
      · exact hb.hs.dis _ _ p1 (hb.f5 g hF h)
      · obtain ⟨j, hj, a, r', ha, hw, e⟩ := hO g h
        have := hs.hs.sep _ _ _ hj (hb.ow _ _ p1)
        subst this
        exact p3 a r' ha hw e
      · have := own_lt hs.hs (hb.ow _ _ p1)
        omega
  · exact fun k hk => hs2.fsz k (hb.f4 k hk)
  · exact gl_mono (s := s) (β' := β) hs.hs (fun k hk => hb.f3 k (hb.f1 k hk)) (fun k hk => same k (hi.fm k hk))
  · intro b h
    rw [e4] at h
    exact hout b h
  · rw [e2]
    exact rn_ok hσ hv (n := 9) (by intro x hx; simp at hx; subst hx; exact hdv)
  · intro b g o1
    rcases hown b g o1 with ⟨i, i1, i2⟩ | ⟨p1, p2, p3⟩
    · rcases ho2 i g i1 with h | h
      · obtain ⟨j, hj, _⟩ := hO g h
        exact .inl ⟨j, hj⟩
      · exact .inr h
    · exact .inl ⟨b, hb.ow _ _ p1⟩
def optK (x : Option (SV Γ × St Γ)) (K : SV Γ → St Γ → Prop) : Prop := match x with
  | some (v, s) => K v s
  | none => False
theorem cl2 (hC : GmOk Γ) {f : FuncId} {l A : List (SV Γ)} {R R' : List (Res Γ)} {v : SV Γ} {K : SV Γ → St Γ → Prop} (hsc : SC P C f A R v R') (e : nrmC s (mpo 0 s.L A l R) l A R = some (A, R)) (k : optK (post s (mpo 0 s.L A l R) (hidC s (mpo 0 s.L A l R) A l R) R R' v) K) :
    ∃ v s', CallR P C f l s v s' ∧ K v s' := by
  obtain ⟨v2, s2, hb, k⟩ : ∃ v2 s2, post s (mpo 0 s.L A l R) (hidC s (mpo 0 s.L A l R) A l R) R R' v = some (v2, s2) ∧ K v2 s2 := by
    unfold optK at k
    split at k
    · rename_i v2 s2 h; exact ⟨v2, s2, h, k⟩
    · exact k.elim
  generalize hm : mpo 0 s.L A l R = m at e hb
  unfold post at hb
  split at hb
  · rename_i hd
    simp only [Bool.and_eq_true] at hd
    obtain ⟨hlen, hdv, hdR⟩ := hd
    have hlen := Nat.le_of_ble_eq_true hlen
    have hrho : s2.ρ = s.ρ := by
      split at hb
      · exact (post1_eq hb).2.2.1
      · split at hb
        · exact (post1_eq hb).2.2.1
        · cases hb
    refine ⟨v2, s2, ⟨hsc.1, hrho, fun ρ β F w hs us hl => ?_⟩, k⟩
    obtain ⟨F1, hi, hA⟩ := in_ok hC hs e hl
    refine Calls.mono (hsc.2 _ _ w us hi.hs hi.nn hA) ?_
    rintro en w' ⟨u, rfl, β2, F2, ev, hs2, hn2, hv2, ho2⟩
    refine ⟨u, rfl, ?_⟩
    split at hb
    · rename_i hfl
      rw [Bool.and_eq_true] at hfl
      refine call_left hC hs hi ev hs2 hn2 ho2 (F3 := fun k => F2 k ∧ ¬ ∃ b, b ∈ hidC s m A l R ∧ own β s.L b k) (Fb := F) ⟨hs.hs, fun _ h => h, hi.fm, fun k hk => ⟨ev.fm k (hi.fm k hk), fun ⟨b, _, hb⟩ => hs.hs.dis b k hb hk⟩, fun k hk => hk.1, fun k hk h1 => ?_, fun _ _ h => h⟩ (VL.flat hC hv2 (n := 9) (by intro x hx; simp at hx; subst hx; exact hfl.1)) (fun b r hr => RR.flat hC (hs2.rr b r hr) (flR_ok hfl.2 hr)) hlen hdv hdR hb
      rcases hi.fh k h1 with h | h
      · exact h
      · exact absurd h hk.2
    · split at hb
      · rename_i L hL
        obtain ⟨Fz, hz⟩ := fre_ok hs.hs hL
        refine call_left hC hs hi ev hs2 hn2 ho2 (F3 := F2) (Fb := Fz) ⟨hz.hs, hz.fm, fun k hk => ?_, fun k hk => ev.fm k ?_, fun _ h => h, fun k _ hk => ?_, hz.le⟩ hv2 (fun b r hr => hs2.rr b r hr) hlen hdv hdR hb
        · rcases hz.fl k hk with h | ⟨b, h1, h2⟩
          · exact hi.fm k h
          · exact hi.hf b k h1 h2
        · rcases hz.fl k hk with h | ⟨b, h1, h2⟩
          · exact hi.fm k h
          · exact hi.hf b k h1 h2
        · rcases hi.fh k hk with h | ⟨b, h1, h2⟩
          · exact hz.fm k h
          · exact hz.fz b h1 k h2
      · cases hb
  · cases hb
end
def mem (b : Nat) : List Nat → Bool
  | [] => false
  | a :: l => Nat.beq a b || mem b l
theorem mem_ok {b : Nat} : ∀ {l : List Nat}, mem b l = true ↔ b ∈ l
  | [] => by simp [mem]
  | a :: l => by
    simp only [mem, Bool.or_eq_true, mem_ok (l := l), List.mem_cons]
    constructor
    · rintro (h | h)
      · exact .inl (Nat.eq_of_beq_eq_true h).symm
      · exact .inr h
    · rintro (rfl | h)
      · exact .inl (Nat.beq_refl _)
      · exact .inr h
structure En where
  i : Nat
  e : Bool
  T : List Nat
  A : List Nat
  k : Nat
  c : List Nat
section
variable {P : Program} {N : Nat} {l : List Oper} {Q : Exit → Env → World → Prop}
def idx : List En → List Nat
  | [] => []
  | e :: r => e.i :: idx r
theorem any_ok {id : Nat} (J : (Nat → Bool) → Env → World → Prop) {ρ0 : Env} {w0 : World} (hm : P.follows .mixedOrders = true) (ord : List Nat) (hcov : ∀ k, k < l.length → k ∈ ord) (hord : ∀ a b i, ord = a ++ i :: b → i < l.length ∧ ∀ j, aftB l i j = true → j ∈ a)
    (h0 : J (fun _ => false) ρ0 { w0 with drawn := w0.drawn + 1 }) (hd : dstB N l = true)
    (step : ∀ i o (dn : Nat → Bool) ρ w, l[i]? = some o → dn i = false → (∀ k, dn k = true → ∀ j, aftB l k j = true → dn j = true) → (∀ j, aftB l i j = true → dn j = true) → J dn ρ w → StepOk P l.toArray o (fun v w' => J (fun k => Nat.beq k i || dn k) (match o.dst with | some d => Go.Xw.upd ρ d v | none => ρ) w') ρ w)
    (fin : ∀ dn ρ w, (∀ k, k < l.length → dn k = true) → J dn ρ w → Q .normal ρ w) : CW P N (.region id l.toArray true) Q ρ0 w0 := by
  intro a ha
  refine wp_region_any hm ?_
  have key : ∀ (fuel : Nat) (listed : Array Bool) (a : Act) (ρ : Env) (w : World), Fits N a ρ → listed.size = l.length → (List.range l.length).countP (fun k => !listed.getD k false) ≤ fuel → (∀ k, listed.getD k false = true → ∀ j, aftB l k j = true → listed.getD j false = true) → J (fun k => listed.getD k false) ρ w → wpAny P .any l.toArray (lift N Q) fuel listed a w := by
    intro fuel
    have done : ∀ (listed : Array Bool) (a : Act) (ρ : Env) (w : World), Fits N a ρ → listed.size = l.length → J (fun k => listed.getD k false) ρ w → Region.ready .any l.toArray listed = [] → lift N Q .normal a w := by
      intro listed a ρ w hf hsz hj hr
      refine ⟨ρ, hf, fin _ ρ w (fun k hk => ?_) hj⟩
      cases hb : listed.getD k false
      · exfalso
        have ex : ∀ (b a : List Nat), ord = a ++ b → (∀ j, j ∈ a → listed.getD j false = true) → ∀ k, k ∈ b → listed.getD k false = false → False := by
          intro b
          induction b with
          | nil => intro a _ _ k hk; simp at hk
          | cons i b ih =>
            intro a he hal k hk hkf
            obtain ⟨hil, hia⟩ := hord a b i he
            cases hi : listed.getD i false
            · have : i ∈ Region.ready .any l.toArray listed := by
                refine ready_of hil (by rw [getD_tf (by omega)]; exact hi) fun o ho e hee hbd => hal _ (hia _ ?_)
                simp only [aftB, ho]
                exact List.any_eq_true.2 ⟨e, hee, by rw [hbd]; simp⟩
              rw [hr] at this
              simp at this
            · refine ih (a ++ [i]) (by simpa using he) (fun j hj => ?_) k ?_ hkf
              · rcases List.mem_append.1 hj with h | h
                · exact hal j h
                · simp at h; rw [h]; exact hi
              · rcases List.mem_cons.1 hk with rfl | h
                · rw [hi] at hkf; cases hkf
                · exact h
        exact ex ord [] rfl (by simp) k (hcov k hk) hb
      · rfl
    induction fuel with
    | zero =>
      intro listed a ρ w hf hsz hc hcl hj
      have hr : Region.ready .any l.toArray listed = [] := by
        apply List.eq_nil_iff_forall_not_mem.2
        intro i hi
        obtain ⟨h1, h2, _⟩ := ready_iff hsz hi
        have h0 : (List.range l.length).countP (fun k => !listed.getD k false) = 0 := by omega
        have := List.countP_eq_zero.1 h0 i (List.mem_range.2 h1)
        rw [getD_tf (by omega)] at h2
        rw [h2] at this
        simp at this
      exact ⟨hr, done listed a ρ w hf hsz hj hr⟩
    | succ fuel ih =>
      intro listed a ρ w hf hsz hc hcl hj
      refine ⟨fun hr => done listed a ρ w hf hsz hj hr, fun i hi => ?_⟩
      obtain ⟨hil, hif, hprev⟩ := ready_iff hsz hi
      rw [getD_tf (by omega)] at hif
      have ho : l[i]? = some l[i] := List.getElem?_eq_getElem hil
      have hst := step i l[i] _ ρ w ho hif hcl hprev hj
      refine hst.wpOp (n := N) (by simp [hil]) hf ?_
      intro v w' hjv
      have hinv : (fun k => (listed.setIfInBounds i true).getD k false) = fun k => (Nat.beq k i || listed.getD k false) := funext fun k => getD_set (by omega)
      have hcnt : (List.range l.length).countP (fun k => !(listed.setIfInBounds i true).getD k false) ≤ fuel := by
        have := countP_lt (l := List.range l.length) (p := fun k => !(listed.setIfInBounds i true).getD k false) (q := fun k => !listed.getD k false) (fun k hk h => by
          rw [getD_set (by omega)] at h
          cases hx : listed.getD k false
          · rfl
          · rw [hx] at h; simp at h) (List.mem_range.2 hil) (by rw [getD_set (by omega)]; simp) (by rw [hif]; rfl)
        omega
      have hcl' : ∀ k, (listed.setIfInBounds i true).getD k false = true → ∀ j, aftB l k j = true → (listed.setIfInBounds i true).getD j false = true := by
        intro k hlk j hj
        rw [getD_set (by omega)] at hlk ⊢
        by_cases e : k = i
        · subst e
          rw [hprev j hj]
          simp
        · rw [beq_f e, Bool.false_or] at hlk
          rw [hcl k hlk j hj]
          simp
      cases hdst : l[i].dst with
      | none =>
        rw [hdst] at hjv
        exact ih _ _ ρ w' hf (by simpa using hsz) hcnt hcl' (by rw [hinv]; exact hjv)
      | some d =>
        rw [hdst] at hjv
        have hdN : Nat.blt d N = true := by
          have := List.all_eq_true.1 hd l[i] (List.getElem_mem _)
          rw [hdst] at this
          exact this
        exact ih _ _ _ w' (hf.put hdN v) (by simpa using hsz) hcnt hcl' (by rw [hinv]; exact hjv)
  have hempty : ∀ k, (Array.replicate l.toArray.size false).getD k false = false := fun k => by rw [Array.getD_eq_getD_getElem?, Array.getElem?_replicate]; split <;> rfl
  refine key l.toArray.size _ a ρ0 _ ha (by simp) (Nat.le_trans (List.countP_le_length) (by simp)) (fun k hk => by rw [hempty] at hk; cases hk) ?_
  have : (fun k => (Array.replicate l.toArray.size false).getD k false) = fun _ => false := funext hempty
  rw [this]
  exact h0
end
section
variable {Γ : Gm}
def mskT (T : List Nat) (ρ : Nat → SV Γ) : Nat → SV Γ := fun t => match mem t T with
  | true => ρ t
  | false => .undef
def mskL (A : List Nat) (L : Nat → Option (Res Γ)) : Nat → Option (Res Γ) := fun b => match mem b A with
  | true => L b
  | false => none
def okI (n : Nat) : Nat → SV Γ → Bool
  | 0, _ => false
  | k + 1, x => match x with
    | .ptr b _ | .pel b _ _ _ _ | .pea b _ _ _ _ _ | .sl b _ _ | .asl b _ _ _ _ | .asp b _ _ => Nat.blt b n
    | .agg l | .tup l | .fn _ l => stv.all (okI n k) l
    | .ifc _ x => okI n k x
    | _ => true
def okT (n : Nat) (ρ : Nat → SV Γ) : List Nat → Bool
  | [] => true
  | t :: l => okI n 9 (ρ t) && okT n ρ l
def okA (n : Nat) (L : Nat → Option (Res Γ)) : List Nat → Bool
  | [] => true
  | b :: l => Nat.blt b n && (match L b with
    | some (.box _ c) => okI n 9 c
    | _ => true) && okA n L l
variable {kp : Nat} {X : Cx kp} {P : Program} {C : Ct Γ} {N : Nat} {s s' : St Γ} {o : Oper} {w w' : World} {F F' : Nat → Prop} {β β' : Bt} {ρ : Env}
theorem okT_ok {n : Nat} {r : Nat → SV Γ} : ∀ {l : List Nat}, okT n r l = true → ∀ t, t ∈ l → okI n 9 (r t) = true
  | [], _, t, ht => by simp at ht
  | a :: l, h, t, ht => by
    simp only [okT, Bool.and_eq_true] at h
    rcases List.mem_cons.1 ht with rfl | ht
    · exact h.1
    · exact okT_ok h.2 t ht
theorem okA_ok {n : Nat} {L : Nat → Option (Res Γ)} : ∀ {l : List Nat}, okA n L l = true → ∀ b, b ∈ l → b < n ∧ ∀ T c, L b = some (.box T c) → okI n 9 c = true
  | [], _, t, ht => by simp at ht
  | a :: l, h, t, ht => by
    simp only [okA, Bool.and_eq_true] at h
    rcases List.mem_cons.1 ht with rfl | ht
    · refine ⟨blt_iff.1 h.1.1, fun T c hc => ?_⟩
      have := h.1.2
      rw [hc] at this
      exact this
    · exact okA_ok h.2 t ht
theorem VL.low {n : Nat} (hβ : ∀ b v, b < n → β b = some v → β' b = some v) {l : List (SV Γ)} {us : List Value} (h : VL β w F l us) : ∀ {k : Nat}, (∀ x ∈ l, okI n k x = true) → VL β' w F l us := by
  induction h with
  | nil => intro _ _; exact .nil
  | @atm x u l us h _ ih =>
    intro k hd
    have hx := hd x (by simp)
    refine .atm ?_ (ih fun y hy => hd y (by simp [hy]))
    cases k with
    | zero => simp [okI] at hx
    | succ k =>
      cases x <;> simp only [VA] at h ⊢ <;> simp only [okI] at hx
      case ptr => obtain ⟨g, h1, h2⟩ := h; exact ⟨g, hβ _ _ (blt_iff.1 hx) h1, h2⟩
      case pel => obtain ⟨v0, v, h1, h2⟩ := h; exact ⟨v0, v, hβ _ _ (blt_iff.1 hx) h1, h2⟩
      case pea => obtain ⟨g, h1, h2⟩ := h; exact ⟨g, hβ _ _ (blt_iff.1 hx) h1, h2⟩
      case sl => obtain ⟨v0, h1, h2⟩ := h; exact ⟨v0, hβ _ _ (blt_iff.1 hx) h1, h2⟩
      case asl => obtain ⟨g, h1, h2⟩ := h; exact ⟨g, hβ _ _ (blt_iff.1 hx) h1, h2⟩
      case asp => obtain ⟨g, c, h1, h2⟩ := h; exact ⟨g, c, hβ _ _ (blt_iff.1 hx) h1, h2⟩
      all_goals exact h
  | agg _ _ i1 i2 =>
    intro k hd
    have hx := hd _ (List.mem_cons_self)
    cases k with
    | zero => simp [okI] at hx
    | succ k => exact .agg (i1 fun y hy => all_mem (by simpa [okI] using hx) hy) (i2 fun y hy => hd y (by simp [hy]))
  | tup _ _ i1 i2 =>
    intro k hd
    have hx := hd _ (List.mem_cons_self)
    cases k with
    | zero => simp [okI] at hx
    | succ k => exact .tup (i1 fun y hy => all_mem (by simpa [okI] using hx) hy) (i2 fun y hy => hd y (by simp [hy]))
  | fn _ _ i1 i2 =>
    intro k hd
    have hx := hd _ (List.mem_cons_self)
    cases k with
    | zero => simp [okI] at hx
    | succ k => exact .fn (i1 fun y hy => all_mem (by simpa [okI] using hx) hy) (i2 fun y hy => hd y (by simp [hy]))
  | ifc _ _ i1 i2 =>
    intro k hd
    have hx := hd _ (List.mem_cons_self)
    cases k with
    | zero => simp [okI] at hx
    | succ k => exact .ifc (i1 fun y hy => by simp at hy; subst hy; simpa [okI] using hx) (i2 fun y hy => hd y (by simp [hy]))
theorem CL.slf {t : Ty Γ.S} {x : List (el Γ.toSg t)} {cs : List Value} (h : CL w F [(⟨.sl t, x⟩ : PV Γ.toSg)] cs) : ∃ A n c, cs = [.slice A n c] := by
  cases h with
  | sln e h => cases h; exact ⟨_, _, _, rfl⟩
  | sl e h1 h2 h3 h4 h => cases h; exact ⟨_, _, _, rfl⟩
  | int e h | bool e h | str e h => cases e
  | arr e h1 h => cases e
  | st e h1 h => cases e
def dum : Value := .bool true
theorem VL.und (hβ : ∀ b v, β b = some v → v ≠ dum → β' b = some v) {l : List (SV Γ)} {us : List Value} (h : VL β w F l us) : VL β' w F l us := by
  induction h with
  | nil => exact .nil
  | @atm x u l us h _ ih =>
    refine .atm ?_ ih
    cases x <;> simp only [VA] at h ⊢
    case ptr => obtain ⟨g, h1, h2⟩ := h; exact ⟨g, hβ _ _ h1 (by simp [pt, dum]), h2⟩
    case pel => obtain ⟨v0, v, h1, ⟨A, L, c, e⟩, h2⟩ := h; exact ⟨v0, v, hβ _ _ h1 (by rw [e]; simp [dum]), ⟨A, L, c, e⟩, h2⟩
    case pea => obtain ⟨g, h1, h2⟩ := h; exact ⟨g, hβ _ _ h1 (by simp [pt, dum]), h2⟩
    case sl => obtain ⟨v0, h1, ⟨A, L, c, e⟩, h2⟩ := h; exact ⟨v0, hβ _ _ h1 (by rw [e]; simp [dum]), ⟨A, L, c, e⟩, h2⟩
    case asl => obtain ⟨g, h1, h2⟩ := h; exact ⟨g, hβ _ _ h1 (by simp [pt, dum]), h2⟩
    case asp => obtain ⟨g, c, h1, h2⟩ := h; exact ⟨g, c, hβ _ _ h1 (by simp [pt, dum]), h2⟩
    all_goals exact h
  | agg _ _ i1 i2 => exact .agg i1 i2
  | tup _ _ i1 i2 => exact .tup i1 i2
  | fn _ _ i1 i2 => exact .fn i1 i2
  | ifc _ _ i1 i2 => exact .ifc i1 i2
theorem RR.und (hβ : ∀ b v, β b = some v → v ≠ dum → β' b = some v) {b : Nat} {r : Res Γ} (h : RR β w F b r) : RR β' w F b r := by
  cases r <;> simp only [RR] at h ⊢
  case box T c => obtain ⟨g, u, h1, h2, h3⟩ := h; exact ⟨g, u, hβ _ _ h1 (by simp [pt, dum]), VL.und hβ h2, h3⟩
  case row => obtain ⟨v, css, h1, h2, h3⟩ := h; obtain ⟨A, n, c, e⟩ := own_slice h2; exact ⟨v, css, hβ _ _ h1 (by rw [e]; simp [dum]), h2, h3⟩
  case rowc => obtain ⟨v, h1, h2⟩ := h; obtain ⟨g, cap, cur, fz, e, h3⟩ := h2; exact ⟨v, hβ _ _ h1 (by rw [e]; simp [dum]), g, cap, cur, fz, e, h3⟩
  case fz => obtain ⟨v, h1, h2⟩ := h; exact ⟨v, hβ _ _ h1 (by intro e; rw [e] at h2; obtain ⟨A, n, c, e⟩ := CL.slf h2; cases e), h2⟩
  case itr => obtain ⟨v, h1, h2⟩ := h; exact ⟨v, hβ _ _ h1 (by simp [pt, dum]), h2⟩
theorem RR.low {n b : Nat} (hβ : ∀ b v, b < n → β b = some v → β' b = some v) {r : Res Γ} (h : RR β w F b r) (hb : b < n) (hc : ∀ T c, r = .box T c → okI n 9 c = true) : RR β' w F b r := by
  cases r <;> simp only [RR] at h ⊢
  case box T c => obtain ⟨g, u, h1, h2, h3⟩ := h; exact ⟨g, u, hβ _ _ hb h1, VL.low hβ h2 (k := 9) (by intro x hx; simp at hx; subst hx; exact hc _ _ rfl), h3⟩
  case row => obtain ⟨v, css, h1, h2, h3⟩ := h; exact ⟨v, css, hβ _ _ hb h1, h2, h3⟩
  case rowc => obtain ⟨v, h1, h2⟩ := h; exact ⟨v, hβ _ _ hb h1, h2⟩
  case fz => obtain ⟨v, h1, h2⟩ := h; exact ⟨v, hβ _ _ hb h1, h2⟩
  case itr => obtain ⟨v, h1, h2⟩ := h; exact ⟨v, hβ _ _ hb h1, h2⟩
def sbs (e : En) (top : Nat) (S : St Γ) : St Γ := ⟨mskT e.T S.ρ, mskL e.A S.L, cond e.e S.nx top⟩
def putk (S : St Γ) (d : Option Nat) (v : SV Γ) (k : Nat) : St Γ := ⟨(S.put d v).ρ, S.L, S.nx + k⟩
def wrB (e : En) (nx b : Nat) : Bool := mem b e.A || (Nat.ble nx b && Nat.blt b (nx + e.k))
def mrg (e : En) (S s' : St Γ) (d : Option Nat) (v : SV Γ) : St Γ := ⟨(S.put d v).ρ, fun b => match wrB e S.nx b with | true => s'.L b | false => S.L b, S.nx + e.k⟩
def wev (P : Program) (C : Ct Γ) (o : Oper) (s : St Γ) (K : SV Γ → St Γ → Prop) : Prop := match exo C s o.op with
  | .eff s' v => K v s'
  | .neff g s' v => g.p ∧ K v s'
  | .br b s1 v1 s2 v2 => @Bool.rec (fun _ => Prop) (frc v2 (fun v => K v s2) False) (frc v1 (fun v => K v s1) False) b
  | .call f l => ∃ v s', CallR P C f l s v s' ∧ K v s'
  | .inv T x m l => ∃ f, MethR P T m f ∧ ∃ v s', CallR P C f (x :: l) s v s' ∧ K v s'
  | _ => False
def wpu (C : Ct Γ) (o : Oper) (s : St Γ) (K : SV Γ → Prop) : Prop := match exo C s o.op with
  | .ret v => K v
  | .need g v => g.p ∧ K v
  | _ => False
def wxj (P : Program) (C : Ct Γ) (top : Nat) (e : En) (o : Oper) (S : St Γ) (K : St Γ → Prop) : Prop := match e.e with
  | true => match okT S.nx S.ρ e.T && okA S.nx S.L e.A with
    | true => wev P C o (sbs e top S) fun v s' => match Nat.beq s'.nx (S.nx + e.k) with
      | true => K (mrg e S s' o.dst v)
      | false => False
    | false => False
  | false => wpu C o (sbs e top S) fun v => K (putk S o.dst v e.k)
def wpj (P : Program) (C : Ct Γ) (top : Nat) (ops : List Oper) : List En → St Γ → (St Γ → Prop) → Prop
  | [], S, K => K S
  | e :: r, S, K => match ops[e.i]? with
    | none => False
    | some o => match o.guard with
      | none => wxj P C top e o S fun S => wpj P C top ops r S K
      | some (j, want) => match (ops[j]?).bind (·.dst), o.dst with
        | some t, some _ => match mem t e.T with
          | true => match S.ρ t with
            | .v .bool b => @Bool.rec (fun _ => Prop)
                (cond (cond want false true) (wxj P C top e o (setB S (.tmp t) false) fun S => wpj P C top ops r S K) (wpj P C top ops r ⟨((setB S (.tmp t) false).put o.dst (.tup [])).ρ, S.L, S.nx + e.k⟩ K))
                (cond (cond want true false) (wxj P C top e o (setB S (.tmp t) true) fun S => wpj P C top ops r S K) (wpj P C top ops r ⟨((setB S (.tmp t) true).put o.dst (.tup [])).ρ, S.L, S.nx + e.k⟩ K)) b
            | .tup [] => wpj P C top ops r ⟨(S.put o.dst (.tup [])).ρ, S.L, S.nx + e.k⟩ K
            | _ => False
          | false => False
        | _, _ => False
structure Tr (Γ : Gm) where
  e : En
  d : Option Nat
  v : SV Γ
  L : Nat → Option (Res Γ)
  nx : Nat
  f : Bool
def Tr.wr (τ : Tr Γ) (b : Nat) : Bool := τ.f && wrB τ.e τ.nx b
def nxt (S : St Γ) (τ : Tr Γ) : St Γ := ⟨(S.put τ.d τ.v).ρ, fun b => match τ.wr b with | true => τ.L b | false => S.L b, S.nx + τ.e.k⟩
def GOK (ops : List Oper) (e : En) (o : Oper) (S : St Γ) : Prop := o.guard = none ∨ ∃ j want t, o.guard = some (j, want) ∧ (ops[j]?).bind (·.dst) = some t ∧ mem t e.T = true ∧ S.ρ t = .v .bool want
def Stp (P : Program) (C : Ct Γ) (top : Nat) (ops : List Oper) (e : En) (S : St Γ) (τ : Tr Γ) : Prop :=
  τ.e = e ∧ τ.nx = S.nx ∧ ∃ o, ops[e.i]? = some o ∧ τ.d = o.dst ∧
    ((τ.f = false ∧ e.e = false ∧ GOK ops e o S ∧ OpPure C P o (sbs e top S) τ.v) ∨
     (τ.f = true ∧ e.e = true ∧ GOK ops e o S ∧ okT S.nx S.ρ e.T = true ∧ okA S.nx S.L e.A = true ∧ ∃ s' : St Γ, s'.nx = S.nx + e.k ∧ τ.L = s'.L ∧ ∀ ρ β F w, Sd C (sbs e top S) ρ β F w → OpV P o ρ w fun u w' => Left C (sbs e top S) β F w τ.v s' u w') ∨
     (τ.f = false ∧ τ.v = .tup [] ∧ ∃ j want t, o.guard = some (j, want) ∧ (ops[j]?).bind (·.dst) = some t ∧ mem t e.T = true ∧ (S.ρ t = .v .bool (!want) ∨ S.ρ t = .tup [])))
def Chain (P : Program) (C : Ct Γ) (top : Nat) (ops : List Oper) : List En → List (Tr Γ) → St Γ → St Γ → Prop
  | [], [], S, S' => S' = S
  | e :: r, τ :: ts, S, S' => Stp P C top ops e S τ ∧ Chain P C top ops r ts (nxt S τ) S'
  | _, _, _, _ => False
theorem setB_id {t : Tmp} {b : Bool} {S : St Γ} (h : S.ρ t = .v .bool b) : setB S (.tmp t) b = S := by
  obtain ⟨r, L, n⟩ := S
  simp only [setB]
  congr 1
  funext x
  by_cases e : x = t
  · subst e; rw [upd_same]; exact h.symm
  · rw [upd_ne _ _ e]
theorem wev_ok (hC : CtOk P C) {K : SV Γ → St Γ → Prop} (h : wev P C o s K) : ∃ v s', K v s' ∧ ∀ ρ β F w, Sd C s ρ β F w → OpV P o ρ w fun u w' => Left C s β F w v s' u w' := by
  have he := exo_ok (s := s) (o := o) hC
  unfold wev at h
  have called : ∀ {f : FuncId} {l : List (SV Γ)} {v : SV Γ} {s' : St Γ}, (∀ ρ β F w, Sd C s ρ β F w → ∃ us, VL β w F l us ∧ (execOp (evO ρ) o).run P w = .ok (.enter f us.toArray) w) → CallR P C f l s v s' → ∀ ρ β F w, Sd C s ρ β F w → OpV P o ρ w fun u w' => Left C s β F w v s' u w' := by
    intro f l v s' hrun hc ρ β F w hs
    obtain ⟨us, hl, hrun⟩ := hrun ρ β F w hs
    unfold OpV
    rw [hrun]
    refine Calls.mono (hc.2.2 ρ β F w hs us hl) ?_
    rintro e w' ⟨u, rfl, hleft⟩
    exact ⟨u, rfl, hleft⟩
  generalize exo C s o.op = ef at h he
  cases ef with
  | ret v => exact h.elim
  | need g v => exact h.elim
  | eff s' v => exact ⟨v, s', h, he.1⟩
  | neff g s' v => exact ⟨v, s', h.2, (he h.1).1⟩
  | br b s1 v1 s2 v2 =>
    cases b with
    | true =>
      have h : frc v1 (fun v => K v s1) False := h
      rcases frc_eq (v := v1) (k := fun v => K v s1) (e := False) with e | e <;> rw [e] at h
      · exact ⟨v1, s1, h, (he.1 rfl).1⟩
      · exact h.elim
    | false =>
      have h : frc v2 (fun v => K v s2) False := h
      rcases frc_eq (v := v2) (k := fun v => K v s2) (e := False) with e | e <;> rw [e] at h
      · exact ⟨v2, s2, h, (he.2 rfl).1⟩
      · exact h.elim
  | call f l =>
    obtain ⟨v, s', hc, hk⟩ := h
    exact ⟨v, s', hk, called (he hc.1) hc⟩
  | inv T x m l =>
    obtain ⟨f, hmeth, v, s', hc, hk⟩ := h
    refine ⟨v, s', hk, called (fun ρ β F w hs => ?_) hc⟩
    obtain ⟨u, us, hx, hl, hrun⟩ := he ρ β F w hs
    have hl' : VL β w F (x :: l) (u :: us) := .cons hx hl
    refine ⟨u :: us, hl', calls_fn hc.1 (hc.2.2 ρ β F w hs _ hl') ?_⟩
    rw [hrun, hmeth]
    congr 2
    apply Array.toList_inj.1; simp
  | stuck => exact h.elim
theorem wpu_ok (hC : CtOk P C) {K : SV Γ → Prop} (h : wpu C o s K) : ∃ v, K v ∧ OpPure C P o s v := by
  have he := exo_ok (s := s) (o := o) hC
  unfold wpu at h
  generalize exo C s o.op = ef at h he
  cases ef with
  | ret v => exact ⟨v, h, he⟩
  | need g v => exact ⟨v, h.2, he h.1⟩
  | eff => exact h.elim
  | neff => exact h.elim
  | br => exact h.elim
  | call => exact h.elim
  | inv => exact h.elim
  | stuck => exact h.elim
theorem wpj_run (hC : CtOk P C) {top : Nat} {ops : List Oper} {K : St Γ → Prop} : ∀ {l : List En} {S : St Γ}, wpj P C top ops l S K → ∃ ts S', Chain P C top ops l ts S S' ∧ K S'
  | [], S, h => ⟨[], S, rfl, h⟩
  | e :: r, S, h => by
    have exec : ∀ {o : Oper}, ops[e.i]? = some o → GOK ops e o S → (wxj P C top e o S fun S => wpj P C top ops r S K) → ∃ ts S', Chain P C top ops (e :: r) ts S S' ∧ K S' := by
      intro o ho hg h
      unfold wxj at h
      split at h
      · rename_i he
        split at h
        · rename_i hok
          rw [Bool.and_eq_true] at hok
          obtain ⟨v, s', hk, hsem⟩ := wev_ok hC h
          split at hk
          · rename_i hnx
            obtain ⟨ts, S', h1, h2⟩ := wpj_run hC hk
            exact ⟨⟨e, o.dst, v, s'.L, S.nx, true⟩ :: ts, S', ⟨⟨rfl, rfl, o, ho, rfl, .inr (.inl ⟨rfl, he, hg, hok.1, hok.2, s', Nat.eq_of_beq_eq_true hnx, rfl, hsem⟩)⟩, h1⟩, h2⟩
          · exact hk.elim
        · exact h.elim
      · rename_i he
        obtain ⟨v, hk, hp⟩ := wpu_ok hC h
        obtain ⟨ts, S', h1, h2⟩ := wpj_run hC hk
        exact ⟨⟨e, o.dst, v, S.L, S.nx, false⟩ :: ts, S', ⟨⟨rfl, rfl, o, ho, rfl, .inl ⟨rfl, he, hg, hp⟩⟩, h1⟩, h2⟩
    have skip : ∀ {o : Oper} {j : Nat} {want : Bool} {t : Tmp}, ops[e.i]? = some o → o.guard = some (j, want) → (ops[j]?).bind (·.dst) = some t → mem t e.T = true → (S.ρ t = .v .bool (!want) ∨ S.ρ t = .tup []) → wpj P C top ops r ⟨(S.put o.dst (.tup [])).ρ, S.L, S.nx + e.k⟩ K → ∃ ts S', Chain P C top ops (e :: r) ts S S' ∧ K S' := by
      intro o j want t ho hg hj ht hv h
      obtain ⟨ts, S', h1, h2⟩ := wpj_run hC h
      exact ⟨⟨e, o.dst, .tup [], S.L, S.nx, false⟩ :: ts, S', ⟨⟨rfl, rfl, o, ho, rfl, .inr (.inr ⟨rfl, rfl, j, want, t, hg, hj, ht, hv⟩)⟩, h1⟩, h2⟩
    unfold wpj at h
    split at h
    · exact h.elim
    · rename_i o ho
      split at h
      · rename_i hg
        exact exec ho (.inl hg) h
      · rename_i j want hg
        split at h
        · rename_i t dd hj hdst
          split at h
          · rename_i ht
            split at h
            · rename_i b hb
              cases b with
              | true =>
                have h : cond (cond want true false) (wxj P C top e o (setB S (.tmp t) true) fun S => wpj P C top ops r S K) (wpj P C top ops r ⟨((setB S (.tmp t) true).put o.dst (.tup [])).ρ, S.L, S.nx + e.k⟩ K) := h
                rw [setB_id hb] at h
                cases want with
                | true => exact exec ho (.inr ⟨j, true, t, hg, hj, ht, hb⟩) h
                | false => exact skip ho hg hj ht (.inl hb) h
              | false =>
                have h : cond (cond want false true) (wxj P C top e o (setB S (.tmp t) false) fun S => wpj P C top ops r S K) (wpj P C top ops r ⟨((setB S (.tmp t) false).put o.dst (.tup [])).ρ, S.L, S.nx + e.k⟩ K) := h
                rw [setB_id hb] at h
                cases want with
                | true => exact skip ho hg hj ht (.inl hb) h
                | false => exact exec ho (.inr ⟨j, false, t, hg, hj, ht, hb⟩) h
            · rename_i hb
              exact skip ho hg hj ht (.inr hb) h
            · exact h.elim
          · exact h.elim
        · exact h.elim
end
def alm (f : Nat → Bool) : List Nat → Bool
  | [] => true
  | a :: l => f a && alm f l
def aft (l : List Oper) (i : Nat) : List Nat := match l[i]? with
  | some o => go o.after.toList
  | none => []
where go : List Edge → List Nat
  | [] => []
  | e :: r => match Region.binds .any e with
    | true => e.on :: go r
    | false => go r
def opB (d : Option Nat) (t : Nat) : Bool := match d with
  | some a => Nat.beq a t
  | none => false
def dmem (d : Option Nat) (l : List Nat) : Bool := match d with
  | some a => mem a l
  | none => false
def anym (f : Nat → Bool) : List Nat → Bool
  | [] => false
  | a :: l => f a || anym f l
def conf (l : List Oper) (q : En) (nq : Nat) (e : En) (ne : Nat) : Bool :=
  dmem (dstAt l q.i) e.T || dmem (dstAt l e.i) q.T || (match dstAt l q.i with | some d => opB (dstAt l e.i) d | none => false) ||
  (q.e && anym (wrB q nq) e.A) || (e.e && anym (wrB e ne) q.A)
def chkP (l : List Oper) (e : En) (ne : Nat) : List (En × Nat) → Bool
  | [] => true
  | (q, nq) :: r => (!(conf l q nq e ne) || mem q.i e.c) && (!(Nat.beq q.i e.i)) && chkP l e ne r
def inP (j : Nat) : List (En × Nat) → Bool
  | [] => false
  | (q, _) :: r => Nat.beq q.i j || inP j r
def viaP (af : List Nat) (j : Nat) : List (En × Nat) → Bool
  | [] => false
  | (q, _) :: r => (mem q.i af && mem j q.c) || viaP af j r
def chq (l : List Oper) : List (En × Nat) → Nat → List En → Bool
  | _, _, [] => true
  | pr, nx, e :: r => (e.e || Nat.beq e.k 0) && (Nat.blt e.i (List.length l) && (alm (fun j => inP j pr && mem j e.c) (aft l e.i) && (alm (fun j => mem j (aft l e.i) || viaP (aft l e.i) j pr) e.c && (chkP l e nx pr && chq l ((e, nx) :: pr) (nx + e.k) r))))
def covB (n : Nat) (ord : List Nat) : Bool := match n with
  | 0 => true
  | n + 1 => mem n ord && covB n ord
def sumk : List En → Nat
  | [] => 0
  | e :: r => e.k + sumk r
def regB (l : List Oper) (nx : Nat) (ord : List En) : Bool := chq l [] nx ord && covB (List.length l) (idx ord)
section
theorem alm_ok {f : Nat → Bool} : ∀ {l : List Nat}, alm f l = true → ∀ j, j ∈ l → f j = true
  | [], _, j, hj => by simp at hj
  | a :: l, h, j, hj => by
    simp only [alm, Bool.and_eq_true] at h
    rcases List.mem_cons.1 hj with rfl | hj
    · exact h.1
    · exact alm_ok h.2 j hj
theorem anym_ok {f : Nat → Bool} : ∀ {l : List Nat} {j : Nat}, j ∈ l → f j = true → anym f l = true
  | [], j, hj, _ => by simp at hj
  | a :: l, j, hj, hf => by
    simp only [anym, Bool.or_eq_true]
    rcases List.mem_cons.1 hj with rfl | hj
    · exact .inl hf
    · exact .inr (anym_ok hj hf)
theorem aft_iff {l : List Oper} {i j : Nat} : aftB l i j = true ↔ j ∈ aft l i := by
  cases ho : l[i]? with
  | none => simp [aftB, aft, ho]
  | some o =>
    simp only [aftB, aft, ho]
    have : ∀ r : List Edge, (r.any fun e => Region.binds .any e && Nat.beq e.on j) = true ↔ j ∈ aft.go r := by
      intro r
      induction r with
      | nil => simp [aft.go]
      | cons e r ih =>
        simp only [List.any_cons, Bool.or_eq_true, ih, aft.go, Bool.and_eq_true]
        cases hb : Region.binds .any e
        · simp_all
        · simp only [true_and, List.mem_cons]
          constructor
          · rintro (h | h)
            · exact .inl (Nat.eq_of_beq_eq_true h).symm
            · exact .inr h
          · rintro (rfl | h)
            · exact .inl (Nat.beq_refl _)
            · exact .inr h
    exact this _
theorem covB_ok : ∀ {n : Nat} {ord : List Nat}, covB n ord = true → ∀ k, k < n → k ∈ ord
  | 0, _, _, k, hk => by omega
  | n + 1, ord, h, k, hk => by
    simp only [covB, Bool.and_eq_true] at h
    rcases Nat.lt_succ_iff_lt_or_eq.1 hk with hk | rfl
    · exact covB_ok h.2 k hk
    · exact mem_ok.1 h.1
theorem inP_ok {j : Nat} : ∀ {pr : List (En × Nat)}, inP j pr = true ↔ ∃ q n, (q, n) ∈ pr ∧ q.i = j
  | [] => by simp [inP]
  | (q, n) :: r => by
    simp only [inP, Bool.or_eq_true, inP_ok (pr := r), List.mem_cons]
    constructor
    · rintro (h | ⟨q', n', h, e⟩)
      · exact ⟨q, n, .inl rfl, Nat.eq_of_beq_eq_true h⟩
      · exact ⟨q', n', .inr h, e⟩
    · rintro ⟨q', n', h | h, e⟩
      · cases h; subst e; exact .inl (Nat.beq_refl _)
      · exact .inr ⟨q', n', h, e⟩
theorem viaP_ok {af : List Nat} {j : Nat} : ∀ {pr : List (En × Nat)}, viaP af j pr = true → ∃ q n, (q, n) ∈ pr ∧ q.i ∈ af ∧ j ∈ q.c
  | [], h => by simp [viaP] at h
  | (q, n) :: r, h => by
    simp only [viaP, Bool.or_eq_true, Bool.and_eq_true] at h
    rcases h with ⟨h1, h2⟩ | h
    · exact ⟨q, n, by simp, mem_ok.1 h1, mem_ok.1 h2⟩
    · obtain ⟨q', n', h1, h2⟩ := viaP_ok h
      exact ⟨q', n', by simp [h1], h2⟩
theorem chkP_ok {l : List Oper} {e : En} {ne : Nat} : ∀ {pr : List (En × Nat)}, chkP l e ne pr = true → ∀ q nq, (q, nq) ∈ pr → (conf l q nq e ne = true → q.i ∈ e.c) ∧ q.i ≠ e.i
  | [], _, q, nq, h => by simp at h
  | (q', n') :: r, h, q, nq, hm => by
    simp only [chkP, Bool.and_eq_true] at h
    rcases List.mem_cons.1 hm with hm | hm
    · cases hm
      refine ⟨fun hc => ?_, fun e => ?_⟩
      · have := h.1.1
        rw [hc] at this
        exact mem_ok.1 (by simpa using this)
      · have := h.1.2
        rw [e] at this
        simp at this
    · exact chkP_ok h.2 q nq hm
end
structure OrdOk (l : List Oper) (az : List (En × Nat)) (e : En) (ne : Nat) : Prop where
  hi : e.i < l.length
  ek : e.e = false → e.k = 0
  af : ∀ j, aftB l e.i j = true → (∃ q n, (q, n) ∈ az ∧ q.i = j) ∧ j ∈ e.c
  cl : ∀ j, j ∈ e.c → aftB l e.i j = true ∨ ∃ q n, (q, n) ∈ az ∧ aftB l e.i q.i = true ∧ j ∈ q.c
  cf : ∀ q nq, (q, nq) ∈ az → (conf l q nq e ne = true → q.i ∈ e.c) ∧ q.i ≠ e.i
def nums : Nat → List En → List (En × Nat)
  | _, [] => []
  | nx, e :: r => (e, nx) :: nums (nx + e.k) r
theorem chq_ok {l : List Oper} : ∀ {r : List En} {pr : List (En × Nat)} {nx : Nat}, chq l pr nx r = true → ∀ a e ne b, nums nx r = a ++ (e, ne) :: b → OrdOk l (a.reverse ++ pr) e ne
  | [], pr, nx, _, a, e, ne, b, h => by simp [nums] at h
  | e0 :: r, pr, nx, h, a, e, ne, b, hs => by
    simp only [chq, Bool.and_eq_true] at h
    obtain ⟨h1, h2, h3, h4, h5, h6⟩ := h
    cases a with
    | nil =>
      simp only [nums, List.nil_append, List.cons.injEq, Prod.mk.injEq] at hs
      obtain ⟨⟨rfl, rfl⟩, _⟩ := hs
      refine ⟨blt_iff.1 h2, fun he => ?_, fun j hj => ?_, fun j hj => ?_, fun q nq hq => chkP_ok h5 q nq (by simpa using hq)⟩
      · rw [he, Bool.false_or] at h1; exact Nat.eq_of_beq_eq_true h1
      · have := alm_ok h3 j (aft_iff.1 hj)
        rw [Bool.and_eq_true] at this
        exact ⟨by simpa using inP_ok.1 this.1, mem_ok.1 this.2⟩
      · have := alm_ok h4 j hj
        rw [Bool.or_eq_true] at this
        rcases this with h | h
        · exact .inl (aft_iff.2 (mem_ok.1 h))
        · obtain ⟨q, n, i1, i2, i3⟩ := viaP_ok h
          exact .inr ⟨q, n, by simpa using i1, aft_iff.2 i2, i3⟩
    | cons x a =>
      simp only [nums, List.cons_append, List.cons.injEq] at hs
      obtain ⟨rfl, hs⟩ := hs
      have := chq_ok h6 a e ne b hs
      simpa using this
section
variable {Γ : Gm} {kp : Nat} {X : Cx kp} {P : Program} {C : Ct Γ} {N : Nat} {s s' : St Γ} {o : Oper} {w w' : World} {F F' : Nat → Prop} {β β' : Bt} {ρ : Env}
def AD (dn : Nat → Bool) : St Γ → List (Tr Γ) → St Γ
  | S, [] => S
  | S, τ :: ts => AD dn (match dn τ.e.i with
    | true => nxt S τ
    | false => ⟨S.ρ, S.L, S.nx + τ.e.k⟩) ts
theorem AD_append {dn : Nat → Bool} : ∀ {a b : List (Tr Γ)} {S : St Γ}, AD dn S (a ++ b) = AD dn (AD dn S a) b
  | [], b, S => rfl
  | τ :: a, b, S => by simp only [List.cons_append, AD]; exact AD_append
theorem put_t {S : St Γ} {d : Option Nat} {v : SV Γ} {t : Nat} (h : opB d t = true) : (S.put d v).ρ t = v := by
  cases d with
  | none => simp [opB] at h
  | some a =>
    have := Nat.eq_of_beq_eq_true h
    subst this
    simp [St.put, upd_same]
theorem put_f {S : St Γ} {d : Option Nat} {v : SV Γ} {t : Nat} (h : opB d t = false) : (S.put d v).ρ t = S.ρ t := by
  cases d with
  | none => rfl
  | some a =>
    have : t ≠ a := by rintro rfl; simp [opB] at h
    simp [St.put, upd_ne _ _ this]
theorem AD_ρ {dn dn' : Nat → Bool} {t : Nat} : ∀ {ts : List (Tr Γ)} {S1 S2 : St Γ}, (∀ τ ∈ ts, opB τ.d t = true → dn τ.e.i = dn' τ.e.i) → S1.ρ t = S2.ρ t → (AD dn S1 ts).ρ t = (AD dn' S2 ts).ρ t
  | [], S1, S2, _, h => h
  | τ :: ts, S1, S2, hw, h => by
    simp only [AD]
    refine AD_ρ (fun τ' h' => hw τ' (by simp [h'])) ?_
    cases hb : opB τ.d t with
    | true =>
      rw [hw τ (by simp) hb]
      split
      · simp only [nxt]; rw [put_t hb, put_t hb]
      · exact h
    | false =>
      have e : ∀ S : St Γ, ∀ b : Bool, (match b with | true => nxt S τ | false => (⟨S.ρ, S.L, S.nx + τ.e.k⟩ : St Γ)).ρ t = S.ρ t := by
        intro S b
        cases b
        · rfl
        · simp only [nxt]; exact put_f hb
      rw [e, e]; exact h
theorem AD_L {dn dn' : Nat → Bool} {b : Nat} : ∀ {ts : List (Tr Γ)} {S1 S2 : St Γ}, (∀ τ ∈ ts, τ.wr b = true → dn τ.e.i = dn' τ.e.i) → S1.L b = S2.L b → (AD dn S1 ts).L b = (AD dn' S2 ts).L b
  | [], S1, S2, _, h => h
  | τ :: ts, S1, S2, hw, h => by
    simp only [AD]
    refine AD_L (fun τ' h' => hw τ' (by simp [h'])) ?_
    cases hb : τ.wr b with
    | true =>
      rw [hw τ (by simp) hb]
      split
      · simp only [nxt, hb]
      · exact h
    | false =>
      have e : ∀ S : St Γ, ∀ q : Bool, (match q with | true => nxt S τ | false => (⟨S.ρ, S.L, S.nx + τ.e.k⟩ : St Γ)).L b = S.L b := by
        intro S q
        cases q
        · rfl
        · simp only [nxt, hb]
      rw [e, e]; exact h
theorem AD_none : ∀ {ts : List (Tr Γ)} {S : St Γ}, (AD (fun _ => false) S ts).ρ = S.ρ ∧ (AD (fun _ => false) S ts).L = S.L
  | [], S => ⟨rfl, rfl⟩
  | τ :: ts, S => by simp only [AD]; exact ⟨AD_none.1, AD_none.2⟩
theorem AD_skip {dn : Nat → Bool} {ts : List (Tr Γ)} {S : St Γ} {t : Nat} (h : ∀ τ ∈ ts, opB τ.d t = true → dn τ.e.i = false) : (AD dn S ts).ρ t = S.ρ t := by
  rw [AD_ρ (dn' := fun _ => false) (S2 := S) h rfl, AD_none.1]
theorem AD_skipL {dn : Nat → Bool} {ts : List (Tr Γ)} {S : St Γ} {b : Nat} (h : ∀ τ ∈ ts, τ.wr b = true → dn τ.e.i = false) : (AD dn S ts).L b = S.L b := by
  rw [AD_L (dn' := fun _ => false) (S2 := S) h rfl, AD_none.2]
def prT (τ : Tr Γ) : En × Nat := (τ.e, τ.nx)
theorem chain_ok {top : Nat} {ops : List Oper} : ∀ {l : List En} {ts : List (Tr Γ)} {S S' : St Γ}, Chain P C top ops l ts S S' → nums S.nx l = ts.map prT ∧ S' = AD (fun _ => true) S ts ∧ S'.nx = S.nx + sumk l ∧ ∀ a τ b, ts = a ++ τ :: b → Stp P C top ops τ.e (AD (fun _ => true) S a) τ
  | [], [], S, S', h => by
    have h : S' = S := h
    subst h
    exact ⟨rfl, rfl, rfl, fun a τ b e => by simp at e⟩
  | e :: r, τ :: ts, S, S', h => by
    obtain ⟨h1, h2⟩ := h
    obtain ⟨i1, i2, i3, i4⟩ := chain_ok h2
    have e1 := h1.1
    have e2 := h1.2.1
    subst e1
    refine ⟨?_, i2, ?_, fun a τ' b he => ?_⟩
    · simp only [nums, List.map_cons, prT, e2]
      rw [← i1]
      rfl
    · rw [i3]
      simp only [nxt, sumk]
      omega
    · cases a with
      | nil => simp at he; obtain ⟨rfl, rfl⟩ := he; exact h1
      | cons x a =>
        simp only [List.cons_append, List.cons.injEq] at he
        obtain ⟨rfl, he⟩ := he
        exact i4 a τ' b he
  | [], _ :: _, _, _, h => h.elim
  | _ :: _, [], _, _, h => h.elim
theorem nums_ge : ∀ {l : List En} {nx : Nat} {a b : List (En × Nat)} {e : En} {n : Nat}, nums nx l = a ++ (e, n) :: b → nx ≤ n ∧ n + e.k ≤ nx + sumk l ∧ ∀ q m, (q, m) ∈ b → n + e.k ≤ m
  | [], nx, a, b, e, n, h => by simp [nums] at h
  | x :: l, nx, a, b, e, n, h => by
    cases a with
    | nil =>
      simp only [nums, List.nil_append, List.cons.injEq, Prod.mk.injEq] at h
      obtain ⟨⟨rfl, rfl⟩, rfl⟩ := h
      refine ⟨Nat.le_refl _, by simp only [sumk]; omega, fun q m hq => ?_⟩
      obtain ⟨a', b', e'⟩ := List.append_of_mem hq
      exact (nums_ge e').1
    | cons y a =>
      simp only [nums, List.cons_append, List.cons.injEq] at h
      obtain ⟨rfl, h⟩ := h
      obtain ⟨h1, h2, h3⟩ := nums_ge h
      exact ⟨by omega, by simp only [sumk]; omega, h3⟩
structure Rg (P : Program) (C : Ct Γ) (top : Nat) (l : List Oper) (s : St Γ) (ts : List (Tr Γ)) : Prop where
  oo : ∀ a τ b, ts = a ++ τ :: b → OrdOk l (a.map prT).reverse τ.e τ.nx
  st : ∀ a τ b, ts = a ++ τ :: b → Stp P C top l τ.e (AD (fun _ => true) s a) τ
  lo : ∀ a τ b, ts = a ++ τ :: b → s.nx ≤ τ.nx ∧ τ.nx + τ.e.k ≤ top ∧ ∀ r ∈ b, τ.nx + τ.e.k ≤ r.nx
  cv : ∀ k, k < l.length → ∃ τ ∈ ts, τ.e.i = k
theorem Rg.dst {top : Nat} {l : List Oper} {ts : List (Tr Γ)} (h : Rg P C top l s ts) {τ : Tr Γ} (hm : τ ∈ ts) : dstAt l τ.e.i = τ.d := by
  obtain ⟨a, b, e⟩ := List.append_of_mem hm
  obtain ⟨_, _, o, h1, h2, _⟩ := h.st a τ b e
  simp [dstAt, h1, h2]
theorem Rg.fe {top : Nat} {l : List Oper} {ts : List (Tr Γ)} (h : Rg P C top l s ts) {τ : Tr Γ} (hm : τ ∈ ts) (hf : τ.f = true) : τ.e.e = true := by
  obtain ⟨a, b, e⟩ := List.append_of_mem hm
  obtain ⟨_, _, o, h1, h2, h3⟩ := h.st a τ b e
  rcases h3 with ⟨h, _⟩ | ⟨_, h, _⟩ | ⟨h, _⟩
  · rw [hf] at h; cases h
  · exact h
  · rw [hf] at h; cases h
theorem mem_rev {a : List (Tr Γ)} {q : En} {n : Nat} : (q, n) ∈ (a.map prT).reverse ↔ ∃ τ ∈ a, τ.e = q ∧ τ.nx = n := by
  simp only [List.mem_reverse, List.mem_map, prT, Prod.mk.injEq]
theorem Rg.c_done {top : Nat} {l : List Oper} {ts : List (Tr Γ)} (h : Rg P C top l s ts) {dn : Nat → Bool} (hcl : ∀ k, dn k = true → ∀ j, aftB l k j = true → dn j = true) : ∀ (n : Nat) (a : List (Tr Γ)) (τ : Tr Γ) (b : List (Tr Γ)), a.length ≤ n → ts = a ++ τ :: b → (∀ j, aftB l τ.e.i j = true → dn j = true) → ∀ j, j ∈ τ.e.c → dn j = true := by
  intro n
  induction n with
  | zero =>
    intro a τ b hn he ha j hj
    rcases (h.oo a τ b he).cl j hj with h1 | ⟨q, m, h1, _⟩
    · exact ha j h1
    · have : a = [] := by cases a; rfl; simp at hn
      subst this
      simp at h1
  | succ n ih =>
    intro a τ b hn he ha j hj
    rcases (h.oo a τ b he).cl j hj with h1 | ⟨q, m, h1, h2, h3⟩
    · exact ha j h1
    · obtain ⟨τ', h4, rfl, rfl⟩ := mem_rev.1 h1
      obtain ⟨a1, a2, rfl⟩ := List.append_of_mem h4
      exact ih a1 τ' (a2 ++ τ :: b) (by simp at hn; omega) (by rw [he]; simp) (fun j' hj' => hcl _ (ha _ h2) j' hj') j h3
theorem Rg.way {top : Nat} {l : List Oper} {ts : List (Tr Γ)} (h : Rg P C top l s ts) {dn : Nat → Bool} (hcl : ∀ k, dn k = true → ∀ j, aftB l k j = true → dn j = true) {a b : List (Tr Γ)} {τ : Tr Γ} (he : ts = a ++ τ :: b) (hr : ∀ j, aftB l τ.e.i j = true → dn j = true) (hn : dn τ.e.i = false) :
    (∀ q ∈ a, conf l q.e q.nx τ.e τ.nx = true → dn q.e.i = true) ∧ (∀ r ∈ b, conf l τ.e τ.nx r.e r.nx = true → dn r.e.i = false) := by
  constructor
  · intro q hq hc
    exact h.c_done hcl a.length a τ b (Nat.le_refl _) he hr _ (((h.oo a τ b he).cf q.e q.nx (mem_rev.2 ⟨q, hq, rfl, rfl⟩)).1 hc)
  · intro r hrm hc
    cases hd : dn r.e.i with
    | false => rfl
    | true =>
      obtain ⟨b1, b2, rfl⟩ := List.append_of_mem hrm
      have he' : ts = (a ++ τ :: b1) ++ r :: b2 := by rw [he]; simp
      have := h.c_done hcl _ _ r b2 (Nat.le_refl _) he' (hcl _ hd) _ (((h.oo _ r b2 he').cf τ.e τ.nx (mem_rev.2 ⟨τ, by simp, rfl, rfl⟩)).1 hc)
      rw [hn] at this
      cases this
theorem dm_of {d : Option Nat} {t : Nat} {T : List Nat} (h : opB d t = true) (ht : t ∈ T) : dmem d T = true := by
  cases d with
  | none => simp [opB] at h
  | some a => rw [← Nat.eq_of_beq_eq_true h] at ht; exact mem_ok.2 ht
section
variable {top : Nat} {l : List Oper} {ts : List (Tr Γ)} {dn : Nat → Bool} {a b : List (Tr Γ)} {τ : Tr Γ}
theorem Rg.seeT (h : Rg P C top l s ts) (hcl : ∀ k, dn k = true → ∀ j, aftB l k j = true → dn j = true) (he : ts = a ++ τ :: b) (hr : ∀ j, aftB l τ.e.i j = true → dn j = true) (hn : dn τ.e.i = false) {t : Nat} (ht : t ∈ τ.e.T) : (AD dn s ts).ρ t = (AD (fun _ => true) s a).ρ t := by
  obtain ⟨w1, w2⟩ := h.way hcl he hr hn
  have hd : ∀ q ∈ ts, dstAt l q.e.i = q.d := fun q hq => h.dst hq
  rw [he, AD_append]
  simp only [AD, hn]
  rw [AD_skip]
  · refine AD_ρ (fun q hq hb => ?_) rfl
    refine w1 q hq ?_
    have := dm_of hb ht
    simp only [conf, Bool.or_eq_true]
    rw [hd q (by rw [he]; simp [hq])]
    exact .inl (.inl (.inl (.inl this)))
  · intro r hrm hb
    refine w2 r hrm ?_
    have := dm_of hb ht
    simp only [conf, Bool.or_eq_true]
    rw [hd r (by rw [he]; simp [hrm])]
    exact .inl (.inl (.inl (.inr this)))
theorem Rg.seeA (h : Rg P C top l s ts) (hcl : ∀ k, dn k = true → ∀ j, aftB l k j = true → dn j = true) (he : ts = a ++ τ :: b) (hr : ∀ j, aftB l τ.e.i j = true → dn j = true) (hn : dn τ.e.i = false) {c : Nat} (hc : c ∈ τ.e.A) : (AD dn s ts).L c = (AD (fun _ => true) s a).L c := by
  obtain ⟨w1, w2⟩ := h.way hcl he hr hn
  rw [he, AD_append]
  simp only [AD, hn]
  have wf : ∀ q ∈ ts, q.wr c = true → q.e.e = true ∧ wrB q.e q.nx c = true := fun q hq hw => by
    simp only [Tr.wr, Bool.and_eq_true] at hw
    exact ⟨h.fe hq hw.1, hw.2⟩
  rw [AD_skipL]
  · refine AD_L (fun q hq hb => ?_) rfl
    refine w1 q hq ?_
    obtain ⟨f1, f2⟩ := wf q (by rw [he]; simp [hq]) hb
    simp only [conf, Bool.or_eq_true, Bool.and_eq_true]
    exact .inl (.inr ⟨f1, anym_ok hc f2⟩)
  · intro r hrm hb
    refine w2 r hrm ?_
    obtain ⟨f1, f2⟩ := wf r (by rw [he]; simp [hrm]) hb
    simp only [conf, Bool.or_eq_true, Bool.and_eq_true]
    exact .inr ⟨f1, anym_ok hc f2⟩
theorem other {a b : List (Tr Γ)} {τ : Tr Γ} (he : ts = a ++ τ :: b) (hoo : ∀ a τ b, ts = a ++ τ :: b → OrdOk l (a.map prT).reverse τ.e τ.nx) : (∀ q ∈ a, q.e.i ≠ τ.e.i) ∧ ∀ r ∈ b, r.e.i ≠ τ.e.i := by
  constructor
  · intro q hq
    exact ((hoo a τ b he).cf q.e q.nx (mem_rev.2 ⟨q, hq, rfl, rfl⟩)).2
  · intro r hr
    obtain ⟨b1, b2, rfl⟩ := List.append_of_mem hr
    exact (((hoo (a ++ τ :: b1) r b2 (by rw [he]; simp)).cf τ.e τ.nx (mem_rev.2 ⟨τ, by simp, rfl, rfl⟩)).2).symm
theorem Rg.putT (h : Rg P C top l s ts) (hcl : ∀ k, dn k = true → ∀ j, aftB l k j = true → dn j = true) (he : ts = a ++ τ :: b) (hr : ∀ j, aftB l τ.e.i j = true → dn j = true) (hn : dn τ.e.i = false) (t : Nat) :
    (AD (fun k => Nat.beq k τ.e.i || dn k) s ts).ρ t = match opB τ.d t with | true => τ.v | false => (AD dn s ts).ρ t := by
  obtain ⟨w1, w2⟩ := h.way hcl he hr hn
  obtain ⟨o1, o2⟩ := other he h.oo
  have hd : ∀ q ∈ ts, dstAt l q.e.i = q.d := fun q hq => h.dst hq
  have ne : ∀ {q : Tr Γ}, q.e.i ≠ τ.e.i → (Nat.beq q.e.i τ.e.i || dn q.e.i) = dn q.e.i := fun {q} hq => by
    rw [beq_f hq, Bool.false_or]
  have hT : (Nat.beq τ.e.i τ.e.i || dn τ.e.i) = true := by simp
  rw [he, AD_append, AD_append]
  simp only [AD, hn, Nat.beq_refl, Bool.true_or]
  cases hb : opB τ.d t with
  | true =>
    simp only
    rw [AD_skip]
    · simp only [nxt]; exact put_t hb
    · intro r hrm hbr
      show (Nat.beq r.e.i τ.e.i || dn r.e.i) = false
      rw [ne (o2 r hrm)]
      refine w2 r hrm ?_
      simp only [conf, Bool.or_eq_true]
      rw [hd r (by rw [he]; simp [hrm]), hd τ (by rw [he]; simp)]
      refine .inl (.inl (.inr ?_))
      cases hdτ : τ.d with
      | none => rw [hdτ] at hb; simp [opB] at hb
      | some d =>
        rw [hdτ] at hb
        simp only
        have := Nat.eq_of_beq_eq_true hb
        rw [this]; exact hbr
  | false =>
    simp only
    refine AD_ρ (dn := fun k => Nat.beq k τ.e.i || dn k) (dn' := dn) (fun r hrm _ => ne (o2 r hrm)) ?_
    simp only [nxt]
    rw [put_f hb]
    exact AD_ρ (dn := fun k => Nat.beq k τ.e.i || dn k) (dn' := dn) (fun q hq _ => ne (o1 q hq)) rfl
theorem Rg.putL (h : Rg P C top l s ts) (hcl : ∀ k, dn k = true → ∀ j, aftB l k j = true → dn j = true) (he : ts = a ++ τ :: b) (hr : ∀ j, aftB l τ.e.i j = true → dn j = true) (hn : dn τ.e.i = false) (c : Nat) :
    (AD (fun k => Nat.beq k τ.e.i || dn k) s ts).L c = match τ.wr c with | true => τ.L c | false => (AD dn s ts).L c := by
  obtain ⟨w1, w2⟩ := h.way hcl he hr hn
  obtain ⟨o1, o2⟩ := other he h.oo
  have ne : ∀ {q : Tr Γ}, q.e.i ≠ τ.e.i → (Nat.beq q.e.i τ.e.i || dn q.e.i) = dn q.e.i := fun {q} hq => by
    rw [beq_f hq, Bool.false_or]
  have hT : (Nat.beq τ.e.i τ.e.i || dn τ.e.i) = true := by simp
  rw [he, AD_append, AD_append]
  simp only [AD, hn, Nat.beq_refl, Bool.true_or]
  cases hb : τ.wr c with
  | true =>
    simp only
    rw [AD_skipL]
    · simp only [nxt, hb]
    · intro r hrm hbr
      show (Nat.beq r.e.i τ.e.i || dn r.e.i) = false
      rw [ne (o2 r hrm)]
      refine w2 r hrm ?_
      have hbτ := hb
      simp only [Tr.wr, Bool.and_eq_true] at hb hbr
      have f1 := h.fe (τ := τ) (by rw [he]; simp) hb.1
      have f2 := h.fe (τ := r) (by rw [he]; simp [hrm]) hbr.1
      simp only [conf, Bool.or_eq_true, Bool.and_eq_true]
      have hlo := (h.lo a τ b he).2.2 r hrm
      have hrr := hbr.2
      have hbb := hb.2
      simp only [wrB, Bool.or_eq_true, Bool.and_eq_true] at hrr hbb
      rcases hrr with hrr | hrr
      · exact .inl (.inr ⟨f1, anym_ok (mem_ok.1 hrr) hb.2⟩)
      · rcases hbb with hbb | hbb
        · exact .inr ⟨f2, anym_ok (mem_ok.1 hbb) hbr.2⟩
        · exfalso
          have l1 := Nat.le_of_ble_eq_true hrr.1
          have l2 := blt_iff.1 hbb.2
          omega
  | false =>
    simp only
    refine AD_L (dn := fun k => Nat.beq k τ.e.i || dn k) (dn' := dn) (fun r hrm _ => ne (o2 r hrm)) ?_
    simp only [nxt, hb]
    exact AD_L (dn := fun k => Nat.beq k τ.e.i || dn k) (dn' := dn) (fun q hq _ => ne (o1 q hq)) rfl
end
end
section
variable {Γ : Gm} {kp : Nat} {X : Cx kp} {P : Program} {C : Ct Γ} {N : Nat} {s s' : St Γ} {o : Oper} {w w' : World} {F F' : Nat → Prop} {β β' : Bt} {ρ : Env}
structure JB {kp : Nat} (X : Cx kp) (C : Ct Γ) (s : St Γ) (top : Nat) (ts : List (Tr Γ)) (dn : Nat → Bool) (ρ : Env) (w : World) (β : Bt) (F : Nat → Prop) : Prop where
  hs : HS C β F w (AD dn s ts).L
  vr : ∀ t, VR β w F ((AD dn s ts).ρ t) (ρ t)
  nx : ∀ b, s.nx ≤ b → (∀ τ ∈ ts, dn τ.e.i = true → τ.f = true → ¬ (τ.nx ≤ b ∧ b < τ.nx + τ.e.k)) → β b = none
  fix : ∀ b v, X.β0 b = some v → β b = some v
  fr : Fr X.O0 X.w0 w
  fm : ∀ k, X.F0 k → F k
  fb : ∀ k, F k → X.F0 k ∨ X.O0 k ∨ X.w0.heap.size ≤ k
  ow : ∀ b g, own β (AD dn s ts).L b g → X.O0 g ∨ X.w0.heap.size ≤ g
theorem und_vr {t : Nat} {T : List Nat} {r : Nat → SV Γ} (h : ∀ t, t ∈ T → VR β w F (r t) (ρ t)) : VR β w F (mskT T r t) (ρ t) := by
  unfold mskT
  split
  · rename_i hm; exact h t (mem_ok.1 hm)
  · exact undef_vr
theorem msk_in {A : List Nat} {L : Nat → Option (Res Γ)} {b : Nat} {r : Res Γ} (h : mskL A L b = some r) : b ∈ A ∧ L b = some r := by
  unfold mskL at h
  split at h
  · rename_i hm; exact ⟨mem_ok.1 hm, h⟩
  · cases h
theorem hs_sub {L L' : Nat → Option (Res Γ)} (h : HS C β F w L) (hL : ∀ b r, L' b = some r → L b = some r) (hβ : ∀ b r, L' b = some r → RR β w F b r → RR β' w F b r) (he : ∀ b r v, L' b = some r → β' b = some v → (∃ v, β b = some v) → β b = some v) : HS C β' F w L' := by
  have hown : ∀ b g, own β' L' b g → own β L b g := by
    rintro b g ⟨r, v, h1, h2, h3, h4⟩
    refine ⟨r, v, hL b r h1, h2, he b r v h1 h3 ?_, h4⟩
    exact rr_some (h.rr b r (hL b r h1)) (by rintro rfl; cases h2)
  exact ⟨fun b r hb => hβ b r hb (h.rr b r (hL b r hb)), fun b b' g h1 h2 => h.sep b b' g (hown _ _ h1) (hown _ _ h2), fun b g h1 => h.dis b g (hown _ _ h1), h.fsz, h.gl⟩
variable {top : Nat} {l : List Oper} {ts : List (Tr Γ)} {dn : Nat → Bool} {a b : List (Tr Γ)} {τ : Tr Γ}
theorem j_set (h : Rg P C top l s ts) (hcl : ∀ k, dn k = true → ∀ j, aftB l k j = true → dn j = true) (he : ts = a ++ τ :: b) (hr : ∀ j, aftB l τ.e.i j = true → dn j = true) (hn : dn τ.e.i = false) (hf : τ.f = false) {u : Value} (hj : JB X C s top ts dn ρ w β F) (hv : VR β w F τ.v u) :
    JB X C s top ts (fun k => Nat.beq k τ.e.i || dn k) (match τ.d with | some d => Go.Xw.upd ρ d u | none => ρ) w β F := by
  have hL : (AD (fun k => Nat.beq k τ.e.i || dn k) s ts).L = (AD dn s ts).L := by
    funext c
    rw [h.putL hcl he hr hn c]
    simp [Tr.wr, hf]
  refine ⟨by rw [hL]; exact hj.hs, fun t => ?_, fun c hc hno => hj.nx c hc fun τ' h1 h2 h3 => hno τ' h1 (by simp [h2]) h3, hj.fix, hj.fr, hj.fm, hj.fb, by rw [hL]; exact hj.ow⟩
  rw [h.putT hcl he hr hn t]
  cases hd : τ.d with
  | none => simp only [opB]; exact hj.vr t
  | some d =>
    simp only [opB]
    cases hb : Nat.beq d t with
    | true =>
      have := Nat.eq_of_beq_eq_true hb
      subst this
      have : Go.Xw.upd ρ d u d = u := by simp [Go.Xw.upd]
      rw [this]; exact hv
    | false =>
      have hne : Nat.beq t d = false := beq_f (by rintro rfl; simp at hb)
      have : Go.Xw.upd ρ d u t = ρ t := by simp [Go.Xw.upd, hne]
      rw [this]; exact hj.vr t
theorem j_eff (h : Rg P C top l s ts) (hcl : ∀ k, dn k = true → ∀ j, aftB l k j = true → dn j = true) (he : ts = a ++ τ :: b) (hr : ∀ j, aftB l τ.e.i j = true → dn j = true) (hn : dn τ.e.i = false) (hf : τ.f = true) (hee : τ.e.e = true) (hokT : okT (AD (fun _ => true) s a).nx (AD (fun _ => true) s a).ρ τ.e.T = true) (hokA : okA (AD (fun _ => true) s a).nx (AD (fun _ => true) s a).L τ.e.A = true)
    (hnx : τ.nx = (AD (fun _ => true) s a).nx) {s' : St Γ} (hs' : s'.nx = (AD (fun _ => true) s a).nx + τ.e.k) (hL' : τ.L = s'.L) (hsem : ∀ ρ β F w, Sd C (sbs τ.e top (AD (fun _ => true) s a)) ρ β F w → OpV P o ρ w fun u w' => Left C (sbs τ.e top (AD (fun _ => true) s a)) β F w τ.v s' u w') (hj : JB X C s top ts dn ρ w β F) :
    OpV P o ρ w fun u w' => ∃ β F, JB X C s top ts (fun k => Nat.beq k τ.e.i || dn k) (match τ.d with | some d => Go.Xw.upd ρ d u | none => ρ) w' β F := by
  generalize hS : AD (fun _ => true) s a = S at hokT hokA hnx hs' hsem
  have hsT : ∀ t, t ∈ τ.e.T → (AD dn s ts).ρ t = S.ρ t := fun t ht => by rw [← hS]; exact h.seeT hcl he hr hn ht
  have hsA : ∀ c, c ∈ τ.e.A → (AD dn s ts).L c = S.L c := fun c hc => by rw [← hS]; exact h.seeA hcl he hr hn hc
  obtain ⟨lo1, lo2, lo3⟩ := h.lo a τ b he
  have hSn : (sbs τ.e top S).nx = S.nx := by simp [sbs, hee]
  -- numbers that are free
  have free : ∀ c, S.nx ≤ c → c < S.nx + τ.e.k → β c = none := by
    intro c h1 h2
    refine hj.nx c (by omega) fun τ' hm hd hf' hrg => ?_
    rw [he] at hm
    rcases List.mem_append.1 hm with hm | hm
    · obtain ⟨a1, a2, rfl⟩ := List.append_of_mem hm
      have := (h.lo a1 τ' (a2 ++ τ :: b) (by rw [he]; simp)).2.2 τ (by simp)
      omega
    · rcases List.mem_cons.1 hm with rfl | hm
      · rw [hn] at hd; cases hd
      · have := lo3 τ' hm
        omega
  -- what the operation sees
  obtain ⟨β1, hβ1⟩ : ∃ β1 : Bt, β1 = fun c => if c < S.nx then (match β c with | some v => some v | none => some dum) else none := ⟨_, rfl⟩
  have b1s : ∀ c v, c < S.nx → β c = some v → β1 c = some v := fun c v h1 h2 => by rw [hβ1]; simp only; rw [if_pos h1, h2]
  have b1n : ∀ c, c < S.nx → β c = none → β1 c = some dum := fun c h1 h2 => by rw [hβ1]; simp only; rw [if_pos h1, h2]
  have b1h : ∀ c, S.nx ≤ c → β1 c = none := fun c h1 => by rw [hβ1]; simp only; rw [if_neg (by omega)]
  have b1d : ∀ c, c < S.nx → ∃ v, β1 c = some v := fun c h1 => by
    cases hb : β c with
    | none => exact ⟨_, b1n c h1 hb⟩
    | some v => exact ⟨_, b1s c v h1 hb⟩
  clear hβ1
  have hsub : ∀ c r, (sbs τ.e top S).L c = some r → c ∈ τ.e.A ∧ (AD dn s ts).L c = some r := by
    intro c r hc
    obtain ⟨h1, h2⟩ := msk_in (show mskL τ.e.A S.L c = some r from hc)
    exact ⟨h1, by rw [hsA c h1]; exact h2⟩
  have hA := okA_ok hokA
  have hsd : Sd C (sbs τ.e top S) ρ β1 F w := by
    refine ⟨hs_sub hj.hs (fun c r hc => (hsub c r hc).2) (fun c r hc hrr => ?_) (fun c r v hc h1 h2 => ?_), fun t => ?_, fun c hc => b1h c (by rw [← hSn]; exact hc)⟩
    · obtain ⟨k1, k2⟩ := hsub c r hc
      obtain ⟨k3, k4⟩ := hA c k1
      refine RR.low (n := S.nx) (fun c v => b1s c v) hrr k3 fun T x e => k4 T x ?_
      rw [← hsA c k1, k2, e]
    · obtain ⟨k1, _⟩ := hsub c r hc
      obtain ⟨v', hv'⟩ := h2
      have := b1s c v' (hA c k1).1 hv'
      rw [h1] at this
      cases this
      exact hv'
    · refine und_vr fun t ht => ?_
      have hv := hj.vr t
      rw [hsT t ht] at hv
      exact VL.low (n := S.nx) (fun c v => b1s c v) hv (k := 9) (by intro x hx; simp at hx; subst hx; exact okT_ok hokT t ht)
  refine (hsem ρ β1 F w hsd).mono ?_
  rintro u w' ⟨β2, F2, ev, hs2, hn2, hv2, ho2⟩
  rw [hs'] at hn2
  -- the numbers behind it
  obtain ⟨β3, hβ3⟩ : ∃ β3 : Bt, β3 = fun c => if S.nx ≤ c ∧ c < S.nx + τ.e.k then β2 c else β c := ⟨_, rfl⟩
  have b3n : ∀ c, S.nx ≤ c → c < S.nx + τ.e.k → β3 c = β2 c := fun c h1 h2 => by rw [hβ3]; simp only; rw [if_pos ⟨h1, h2⟩]
  have b3o : ∀ c, ¬ (S.nx ≤ c ∧ c < S.nx + τ.e.k) → β3 c = β c := fun c h1 => by rw [hβ3]; simp only; rw [if_neg h1]
  clear hβ3
  have ext : ∀ c v, β c = some v → β3 c = some v := by
    intro c v hc
    by_cases hh : S.nx ≤ c ∧ c < S.nx + τ.e.k
    · rw [free c hh.1 hh.2] at hc; cases hc
    · rw [b3o c hh]; exact hc
  have und : ∀ c v, β2 c = some v → v ≠ dum → β3 c = some v := by
    intro c v hc hd
    rcases Nat.lt_or_ge c S.nx with h1 | h1
    · rw [b3o c (by omega)]
      cases hb : β c with
      | none =>
        have := ev.ext c dum (b1n c h1 hb)
        rw [hc] at this
        cases this
        exact absurd rfl hd
      | some v' =>
        have := ev.ext c v' (b1s c v' h1 hb)
        rw [hc] at this
        exact this.symm
    · rcases Nat.lt_or_ge c (S.nx + τ.e.k) with h2 | h2
      · rw [b3n c h1 h2]; exact hc
      · rw [hn2 c h2] at hc; cases hc
  have hown1 : ∀ c g, own β1 (sbs τ.e top S).L c g → c ∈ τ.e.A ∧ own β (AD dn s ts).L c g := by
    rintro c g ⟨r, v, h1, h2, h3, h4⟩
    obtain ⟨k1, k2⟩ := hsub c r h1
    obtain ⟨v', hv'⟩ := rr_some (hj.hs.rr c r k2) (by rintro rfl; cases h2)
    have := b1s c v' (hA c k1).1 hv'
    rw [h3] at this
    cases this
    exact ⟨k1, r, v, k2, h2, hv', h4⟩
  have hwr : ∀ c, τ.wr c = true ↔ c ∈ τ.e.A ∨ (S.nx ≤ c ∧ c < S.nx + τ.e.k) := by
    intro c
    simp only [Tr.wr, hf, Bool.true_and, wrB, Bool.or_eq_true, Bool.and_eq_true, mem_ok, hnx]
    constructor
    · rintro (h | ⟨h1, h2⟩)
      · exact .inl h
      · exact .inr ⟨Nat.le_of_ble_eq_true h1, blt_iff.1 h2⟩
    · rintro (h | ⟨h1, h2⟩)
      · exact .inl h
      · exact .inr ⟨by rw [Nat.ble_eq]; exact h1, blt_iff.2 h2⟩
  have hL3 : ∀ c, (AD (fun k => Nat.beq k τ.e.i || dn k) s ts).L c = match τ.wr c with | true => s'.L c | false => (AD dn s ts).L c := fun c => by rw [h.putL hcl he hr hn c, hL']; first | done | (cases τ.wr c <;> rfl)
  have same : ∀ k, F k → w'.heap[k]? = w.heap[k]? := fun k hk => ev.fr.blk k (hj.hs.fsz k hk) (fun ⟨c, hc⟩ => hj.hs.dis c k (hown1 c k hc).2 hk)
  have hown : ∀ c g, own β3 (AD (fun k => Nat.beq k τ.e.i || dn k) s ts).L c g → (own β2 s'.L c g) ∨ (own β (AD dn s ts).L c g ∧ c ∉ τ.e.A) := by
    rintro c g ⟨r, v, h1, h2, h3, h4⟩
    rw [hL3 c] at h1
    cases hw : τ.wr c with
    | true =>
      rw [hw] at h1
      obtain ⟨v', hv'⟩ := rr_some (hs2.rr c r h1) (by rintro rfl; cases h2)
      refine .inl ⟨r, v, h1, h2, ?_, h4⟩
      have hnd : v' ≠ dum := by
        rintro rfl
        have hr := hs2.rr c r h1
        cases r <;> simp [mtb] at h2 <;> simp only [RR] at hr
        case box => obtain ⟨g', u', e, _⟩ := hr; rw [hv'] at e; simp [pt, dum] at e
        case row => obtain ⟨v'', css, e, hO, _⟩ := hr; obtain ⟨A, n, c', e'⟩ := own_slice hO; rw [hv', e'] at e; simp [dum] at e
        case rowc => obtain ⟨v'', e, g', cap, cur, fz, e', _⟩ := hr; rw [hv', e'] at e; simp [dum] at e
        case itr => obtain ⟨g', e, _⟩ := hr; rw [hv'] at e; simp [pt, dum] at e
      have := und c v' hv' hnd
      rw [h3] at this
      cases this
      exact hv'
    | false =>
      rw [hw] at h1
      have hnw : ¬ (c ∈ τ.e.A ∨ (S.nx ≤ c ∧ c < S.nx + τ.e.k)) := fun hh => by rw [(hwr c).2 hh] at hw; cases hw
      rw [b3o c (fun hh => hnw (.inr hh))] at h3
      exact .inr ⟨⟨r, v, h1, h2, h3, h4⟩, fun hh => hnw (.inl hh)⟩
  refine ⟨β3, F2, ⟨⟨?_, ?_, ?_, hs2.fsz, hs2.gl⟩, fun t => ?_, ?_, fun c v hc => ext c v (hj.fix c v hc), ?_, fun k hk => ev.fm k (hj.fm k hk), ?_, ?_⟩⟩
  · intro c r hc
    rw [hL3 c] at hc
    cases hw : τ.wr c with
    | true =>
      rw [hw] at hc
      exact RR.und und (hs2.rr c r hc)
    | false =>
      rw [hw] at hc
      refine (hj.hs.rr c r hc).mono ext ev.fm same ev.fr fun v g t1 t2 t3 ⟨c', hc'⟩ => ?_
      obtain ⟨k1, k2⟩ := hown1 c' g hc'
      have := hj.hs.sep _ _ _ k2 ⟨r, v, hc, t1, t2, t3⟩
      subst this
      rw [(hwr _).2 (.inl k1)] at hw
      cases hw
  · have mix : ∀ {c c' g : Nat}, own β2 s'.L c g → (own β (AD dn s ts).L c' g ∧ c' ∉ τ.e.A) → False := by
      rintro c c' g h1 ⟨h2, h3⟩
      rcases ho2 c g h1 with ⟨x, hx⟩ | hx
      · obtain ⟨k1, k2⟩ := hown1 x g hx
        have := hj.hs.sep _ _ _ k2 h2
        subst this
        exact h3 k1
      · have := own_lt hj.hs h2
        omega
    intro c c' g o1 o2
    rcases hown c g o1 with h1 | h1 <;> rcases hown c' g o2 with h2 | h2
    · exact hs2.sep _ _ _ h1 h2
    · exact (mix h1 h2).elim
    · exact (mix h2 h1).elim
    · exact hj.hs.sep _ _ _ h1.1 h2.1
  · intro c g o1 hF
    rcases hown c g o1 with h1 | ⟨h1, h2⟩
    · exact hs2.dis _ _ h1 hF
    · rcases ev.fb g hF with hh | ⟨x, hx⟩ | hh
      · exact hj.hs.dis _ _ h1 hh
      · obtain ⟨k1, k2⟩ := hown1 x g hx
        have := hj.hs.sep _ _ _ k2 h1
        subst this
        exact h2 k1
      · have := own_lt hj.hs h1
        omega
  · rw [h.putT hcl he hr hn t]
    have hv2' : VR β3 w' F2 τ.v u := VL.und und hv2
    have hold : VR β3 w' F2 ((AD dn s ts).ρ t) (ρ t) := (hj.vr t).mono ext ev.fm same
    cases hd : τ.d with
    | none => simp only [opB]; exact hold
    | some d =>
      simp only [opB]
      cases hb : Nat.beq d t with
      | true =>
        have := Nat.eq_of_beq_eq_true hb
        subst this
        have : Go.Xw.upd ρ d u d = u := by simp [Go.Xw.upd]
        rw [this]; exact hv2'
      | false =>
        have hne : Nat.beq t d = false := beq_f (by rintro rfl; simp at hb)
        have : Go.Xw.upd ρ d u t = ρ t := by simp [Go.Xw.upd, hne]
        rw [this]; exact hold
  · intro c hc hno
    have h1 : ¬ (S.nx ≤ c ∧ c < S.nx + τ.e.k) := by
      have := hno τ (by rw [he]; simp) (by simp) hf
      rw [hnx] at this
      exact this
    rw [b3o c h1]
    exact hj.nx c hc fun τ' i1 i2 i3 => hno τ' i1 (by simp [i2]) i3
  · refine hj.fr.trans (ev.fr.mono (T := fun g => X.O0 g ∨ X.w0.heap.size ≤ g) fun j ⟨c, hc⟩ => hj.ow c j (hown1 c j hc).2) fun j hj' ho => ?_
    rcases ho with ho | ho
    · exact ho
    · omega
  · intro k hk
    rcases ev.fb k hk with hh | ⟨x, hx⟩ | hh
    · exact hj.fb k hh
    · exact .inr (hj.ow x k (hown1 x k hx).2)
    · exact .inr (.inr (Nat.le_trans hj.fr.size hh))
  · intro c g o1
    rcases hown c g o1 with h1 | ⟨h1, h2⟩
    · rcases ho2 c g h1 with ⟨x, hx⟩ | hx
      · exact hj.ow x g (hown1 x g hx).2
      · exact .inr (Nat.le_trans hj.fr.size hx)
    · exact hj.ow c g h1
end
section
variable {Γ : Gm} {kp : Nat} {X : Cx kp} {P : Program} {C : Ct Γ} {N : Nat} {s s' : St Γ} {o : Oper} {w w' : World} {F F' : Nat → Prop} {β β' : Bt} {ρ : Env}
theorem map_split {α β : Type} {f : α → β} {l : List α} {a : List β} {x : β} {b : List β} (h : l.map f = a ++ x :: b) : ∃ a' x' b', l = a' ++ x' :: b' ∧ a = a'.map f ∧ x = f x' ∧ b = b'.map f := by
  obtain ⟨a', r, h1, h2, h3⟩ := List.map_eq_append_iff.1 h
  obtain ⟨x', b', h4, h5, h6⟩ := List.map_eq_cons_iff.1 h3
  exact ⟨a', x', b', by rw [h1, h4], h2.symm, h5.symm, h6.symm⟩
theorem idx_map {ts : List (Tr Γ)} {l : List En} {nx : Nat} (h : nums nx l = ts.map prT) : idx l = ts.map (·.e.i) := by
  induction l generalizing nx ts with
  | nil => cases ts <;> simp [nums, idx] at h ⊢
  | cons e r ih =>
    cases ts with
    | nil => simp [nums] at h
    | cons τ ts =>
      simp only [nums, List.map_cons, List.cons.injEq] at h
      obtain ⟨h1, h2⟩ := h
      simp only [idx, List.map_cons]
      rw [ih h2]
      simp only [prT, Prod.mk.injEq] at h1
      rw [h1.1]
theorem hs_drew {L : Nat → Option (Res Γ)} (h : HS C β F w L) : HS C β F { w with drawn := w.drawn + 1 } L :=
  ⟨fun b r hb => (h.rr b r hb).mono (fun _ _ h => h) (fun _ h => h) (fun _ _ => rfl) (Fr.drew w) (fun _ _ _ _ _ h => h), h.sep, h.dis, h.fsz, gl_mono (s := ⟨fun _ => .undef, L, 0⟩) (β' := β) h (fun _ h => h) (fun _ _ => rfl)⟩
theorem t_draw (hC : CtOk P C) {id : Nat} {ops : Array Oper} {K : Exit → St Γ → Prop} (hm : P.follows .mixedOrders = true) (ord : List En) (hB : regB ops.toList s.nx ord = true) (h : wpj P C (s.nx + sumk ord) ops.toList ord s (K .normal)) : T X P C N (.region id ops true) s K := by
  intro hd ρ w hmt
  simp only [dstC] at hd
  have hreg : Code.region id ops true = Code.region id ops.toList.toArray true := by rw [Array.toArray_toList]
  rw [hreg]
  obtain ⟨ts, S', hch, hk⟩ := wpj_run hC h
  obtain ⟨c1, c2, c3, c4⟩ := chain_ok hch
  simp only [regB, Bool.and_eq_true] at hB
  have hcov := covB_ok hB.2
  have hidx := idx_map c1
  have hlen : ∀ a τ b, ts = a ++ τ :: b → nums s.nx ord = a.map prT ++ (τ.e, τ.nx) :: b.map prT := fun a τ b e => by rw [c1, e]; simp [prT]
  have hR : Rg P C (s.nx + sumk ord) ops.toList s ts := by
    refine ⟨fun a τ b e => ?_, c4, fun a τ b e => ?_, fun k hk => ?_⟩
    · have := chq_ok hB.1 _ _ _ _ (hlen a τ b e)
      simpa using this
    · obtain ⟨h1, h2, h3⟩ := nums_ge (hlen a τ b e)
      exact ⟨h1, h2, fun r hr => h3 r.e r.nx (List.mem_map.2 ⟨r, hr, rfl⟩)⟩
    · have := hcov k hk
      rw [hidx] at this
      obtain ⟨τ, h1, h2⟩ := List.mem_map.1 this
      exact ⟨τ, h1, h2⟩
  have hnd : ∀ a τ b τ', ts = a ++ τ :: b → τ' ∈ ts → τ'.e.i = τ.e.i → τ' = τ := by
    intro a τ b τ' he hm' hi
    obtain ⟨o1, o2⟩ := other he hR.oo
    rw [he] at hm'
    rcases List.mem_append.1 hm' with h | h
    · exact absurd hi (o1 τ' h)
    · rcases List.mem_cons.1 h with h | h
      · exact h
      · exact absurd hi (o2 τ' h)
  refine any_ok (N := N) (fun dn ρ w => ∃ β F, JB X C s (s.nx + sumk ord) ts dn ρ w β F) hm (idx ord) hcov ?_ ?_ hd ?_ ?_
  · intro a b i hab
    rw [hidx] at hab
    obtain ⟨a', τ, b', e1, e2, e3, e4⟩ := map_split hab
    subst e3
    have := hR.oo a' τ b' e1
    refine ⟨this.hi, fun j hj => ?_⟩
    obtain ⟨⟨q, n, h1, h2⟩, _⟩ := this.af j hj
    obtain ⟨τ', h3, h4, h5⟩ := mem_rev.1 h1
    rw [e2]
    exact List.mem_map.2 ⟨τ', h3, by rw [h4, h2]⟩
  · obtain ⟨β, F, hb⟩ := hmt
    refine ⟨β, F, ?_, ?_, ?_, hb.fix, hb.fr.gr (Fr.drew w), hb.fm, hb.fb, ?_⟩
    · rw [AD_none.2]
      exact hs_drew hb.sd.hs
    · intro t
      rw [AD_none.1]
      exact (hb.sd.vr t).mono (fun _ _ h => h) (fun _ h => h) (fun _ _ => rfl)
    · exact fun c hc _ => hb.sd.nx c hc
    · intro c g ho
      rw [AD_none.2] at ho
      exact hb.ow c g ho
  · rintro i o dn ρ w ho hdi hcl hpr ⟨β, F, hj⟩
    have hil : i < ops.toList.length := (List.getElem?_eq_some_iff.1 ho).1
    obtain ⟨τ, hm', hi⟩ := hR.cv i hil
    subst hi
    obtain ⟨a, b, he⟩ := List.append_of_mem hm'
    obtain ⟨_, hnx, o', ho', hdst, hcase⟩ := hR.st a τ b he
    rw [ho] at ho'
    cases ho'
    have slot : ∀ {t : Nat} {x : SV Γ}, mem t τ.e.T = true → (AD (fun _ => true) s a).ρ t = x → VR β w F x (ρ t) := by
      intro t x ht hx
      have := hj.vr t
      rw [hR.seeT hcl he hpr hdi (mem_ok.1 ht), hx] at this
      exact this
    have guard : ∀ {R : Value → World → Prop}, GOK ops.toList τ.e o (AD (fun _ => true) s a) → OpV P o ρ w R → StepOk P ops.toList.toArray o R ρ w := by
      intro R hg hv
      refine .inl ⟨?_, hv⟩
      rcases hg with hg | ⟨j, want, t, h1, h2, h3, h4⟩
      · exact .inl hg
      · exact .inr ⟨j, want, t, h1, by simpa using h2, (slot h3 h4).bool⟩
    rcases hcase with ⟨hf, hee, hg, hp⟩ | ⟨hf, hee, hg, hT, hA, s', hs', hL', hsem⟩ | ⟨hf, hv, j, want, t, h1, h2, h3, h4⟩
    · have hsub : ∀ c r, (sbs τ.e (s.nx + sumk ord) (AD (fun _ => true) s a)).L c = some r → (AD dn s ts).L c = some r := by
        intro c r hc
        obtain ⟨k1, k2⟩ := msk_in (show mskL τ.e.A (AD (fun _ => true) s a).L c = some r from hc)
        rw [hR.seeA hcl he hpr hdi k1]
        exact k2
      have hsd : Sd C (sbs τ.e (s.nx + sumk ord) (AD (fun _ => true) s a)) ρ β F w := by
        refine ⟨hs_sub hj.hs hsub (fun c r _ h => h) (fun c r v _ h _ => h), fun t => und_vr fun t ht => slot (mem_ok.2 ht) rfl, fun c hc => ?_⟩
        have hc : s.nx + sumk ord ≤ c := by simpa [sbs, hee] using hc
        refine hj.nx c (by omega) fun τ' hm2 _ _ hrg => ?_
        obtain ⟨a2, b2, he2⟩ := List.append_of_mem hm2
        have := (hR.lo a2 τ' b2 he2).2.1
        omega
      obtain ⟨u, hrun, hvr⟩ := hp ρ β F w hsd
      refine guard hg (opv_val hrun ?_)
      rw [← hdst]
      exact ⟨β, F, j_set hR hcl he hpr hdi hf hj hvr⟩
    · refine guard hg ?_
      rw [← hdst]
      exact j_eff hR hcl he hpr hdi hf hee hT hA hnx hs' hL' hsem hj
    · refine .inr ⟨⟨j, want, t, h1, by simpa using h2, ?_⟩, ?_⟩
      · rcases h4 with h4 | h4
        · exact .inl (slot h3 h4).bool
        · right
          obtain ⟨us, i1, i2⟩ := (slot h3 h4).tup
          rw [i1.nil_inv] at i2
          exact i2
      · rw [← hdst]
        refine ⟨β, F, j_set hR hcl he hpr hdi hf hj ?_⟩
        rw [hv]
        exact VL.tup .nil .nil
  · rintro dn ρ w hall ⟨β, F, hj⟩
    have hdn : ∀ τ ∈ ts, dn τ.e.i = true := by
      intro τ hm'
      obtain ⟨a, b, he⟩ := List.append_of_mem hm'
      exact hall _ (hR.oo a τ b he).hi
    have eρ : (AD dn s ts).ρ = S'.ρ := by
      funext t
      rw [c2]
      exact AD_ρ (fun τ hm' _ => hdn τ hm') rfl
    have eL : (AD dn s ts).L = S'.L := by
      funext t
      rw [c2]
      exact AD_L (fun τ hm' _ => hdn τ hm') rfl
    refine ⟨S', hk, β, F, ⟨by rw [← eL]; exact hj.hs, fun t => by rw [← eρ]; exact hj.vr t, fun c hc => ?_⟩, hj.fix, hj.fr, hj.fm, hj.fb, by rw [← eL]; exact hj.ow⟩
    refine hj.nx c (by omega) fun τ' hm2 _ _ hrg => ?_
    obtain ⟨a2, b2, he2⟩ := List.append_of_mem hm2
    have := (hR.lo a2 τ' b2 he2).2.1
    omega
end
end Go.Yw
