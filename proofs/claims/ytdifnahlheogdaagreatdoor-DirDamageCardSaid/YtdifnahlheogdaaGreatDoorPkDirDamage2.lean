/- DirDamage: texts merged, part 2 of 7. The last part proves that the law DirDamage holds for every input. -/
import Derived.Test.YtdifnahlheogdaaGreatDoorPkDirDamage1
set_option maxRecDepth 100000
set_option maxHeartbeats 4000000
set_option linter.unusedVariables false
set_option linter.unusedSimpArgs false
set_option linter.unusedSectionVars false
namespace Go.Yw
open Go Go.Xw
section
variable {Γ : Gm} (C : Ct Γ)
def bin (T : TypeId) (op : BinOp) (x y : SV Γ) : Eff Γ := match x, y with
  | .v (.int k) a, .v (.int k') b => match op with
    | .shl => .need (gd (@LE.le Int _ 0 b)) (.v (.int k) (shL k a b))
    | .shr => .need (gd (@LE.le Int _ 0 b)) (.v (.int k) (shR k a b))
    | _ => match ikBeq k k' with
      | false => .stuck
      | true => match op with
        | .add => .ret (.v (.int k) (k.wrap (a + b)))
        | .sub => .ret (.v (.int k) (k.wrap (a - b)))
        | .mul => .ret (.v (.int k) (k.wrap (a * b)))
        | .quo => .need (gd (@Ne Int b 0)) (.v (.int k) (k.wrap (Int.tdiv a b)))
        | .rem => .need (gd (@Ne Int b 0)) (.v (.int k) (Int.tmod a b))
        | .and => .ret (.v (.int k) (bAnd k a b))
        | .or => .ret (.v (.int k) (bOr k a b))
        | .xor => .ret (.v (.int k) (bXor k a b))
        | .andNot => .ret (.v (.int k) (bNot k a b))
        | .lss => .ret (.v .bool (decide (@LT.lt Int _ a b)))
        | .leq => .ret (.v .bool (decide (@LE.le Int _ a b)))
        | .gtr => .ret (.v .bool (decide (@GT.gt Int _ a b)))
        | .geq => .ret (.v .bool (decide (@GE.ge Int _ a b)))
        | .eql => match C.tb T with
          | some ⟨.int _, _, _, _, _⟩ => .ret (.v .bool (@decide (@Eq Int a b) (Int.instDecidableEq a b)))
          | _ => .stuck
        | .neq => match C.tb T with
          | some ⟨.int _, _, _, _, _⟩ => .ret (.v .bool (!(@decide (@Eq Int a b) (Int.instDecidableEq a b))))
          | _ => .stuck
        | _ => .stuck
  | .v .str a, .v .str b => match op with
    | .add => .need (gd (@List.length UInt8 a + @List.length UInt8 b ≤ LIM)) (.v .str (@HAppend.hAppend (List UInt8) (List UInt8) (List UInt8) _ a b))
    | .eql => match C.tb T with
      | some ⟨.str, _, _, _, _⟩ => .ret (.v .bool (@decide (@Eq (List UInt8) a b) (instDecidableEqList a b)))
      | _ => .stuck
    | .neq => match C.tb T with
      | some ⟨.str, _, _, _, _⟩ => .ret (.v .bool (!(@decide (@Eq (List UInt8) a b) (instDecidableEqList a b))))
      | _ => .stuck
    | .lss => .ret (.v .bool (Op.bytesLess a b))
    | .geq => .ret (.v .bool (!(Op.bytesLess a b)))
    | _ => .stuck
  | .v .bool a, .v .bool b => match op, C.tb T with
    | .eql, some ⟨.bool, _, _, _, _⟩ => .ret (.v .bool (@decide (@Eq Bool a b) (instDecidableEqBool a b)))
    | .neq, some ⟨.bool, _, _, _, _⟩ => .ret (.v .bool (!(@decide (@Eq Bool a b) (instDecidableEqBool a b))))
    | _, _ => .stuck
  | .v (.st s) a, .v u b => match PV.cst (.st s) ⟨u, b⟩ with
    | none => .stuck
    | some b => match op, C.eq T s with
      | .eql, some d => .ret (.v .bool (@decide (a = b) (d a b)))
      | .neq, some d => .ret (.v .bool (!(@decide (a = b) (d a b))))
      | _, _ => .stuck
  | .nilp, .nilp => ptrEq op true
  | .nilp, .ptr _ _ | .ptr _ _, .nilp => ptrEq op false
  | .ptr b o, .ptr b' o' => match Nat.beq b b' && Nat.beq o o' with
    | true => ptrEq op true
    | false => .stuck
  | _, _ => .stuck
where ptrEq (op : BinOp) (b : Bool) : Eff Γ := match C.tb T with
  | some ⟨.ptr E, _, _, _, _⟩ => match op, C.tb E with
    | .eql, some _ => .ret (.v .bool b)
    | .neq, some _ => .ret (.v .bool (!b))
    | _, _ => .stuck
  | _ => .stuck
def frzL (f : (t : Ty Γ.S) → SV Γ → Option (el Γ.toSg t)) : List (PV Γ.toSg) → List (SV Γ) → Option (List (PV Γ.toSg))
  | [], [] => some []
  | p :: ps, x :: xs => match f p.t x, frzL f ps xs with
    | some y, some l => some (⟨p.t, y⟩ :: l)
    | _, _ => none
  | _, _ => none
def frz (s : St Γ) : Nat → (t : Ty Γ.S) → SV Γ → Option (el Γ.toSg t)
  | 0, _, _ => none
  | n + 1, t, x => match x with
    | .v u y => PV.cst t ⟨u, y⟩
    | .agg l => match t with
      | .st r => match frzL (frz s n) (Γ.toH r (Γ.inh r).default) l with
        | some ps => Γ.ofH r ps
        | none => none
      | _ => none
    | .nils => match t with
      | .sl _ => some []
      | _ => none
    | x => match t with
      | .sl u => match slc s x with
        | some ⟨u', l⟩ => PV.cst (.sl u) ⟨.sl u', l⟩
        | none => none
      | _ => none
def ids : Nat → SV Γ → List Nat
  | 0, _ => []
  | n + 1, x => match x with
    | .agg l | .tup l | .fn _ l => go (ids n) l
    | .ifc _ x => ids n x
    | .sl b _ _ | .ptr b _ | .pel b _ _ _ _ | .pea b _ _ _ _ _ | .asl b _ _ _ _ | .asp b _ _ => [b]
    | _ => []
where go (f : SV Γ → List Nat) : List (SV Γ) → List Nat
  | [] => []
  | a :: l => f a ++ go f l
def fre (L : Nat → Option (Res Γ)) : List Nat → Option (Nat → Option (Res Γ))
  | [] => some L
  | b :: l => match L b with
    | some (.row t _ x) => fre (upd L b (some (.fz t x))) l
    | some (.rowc _ x) => fre (upd L b (some (.fz (.int .u8) x))) l
    | some (.fz _ _) => fre L l
    | _ => none
def tak (s : St Γ) (t : Ty Γ.S) (x : SV Γ) : Option (el Γ.toSg t × St Γ) := match frz s 9 t x with
  | some y => match fre s.L (ids 9 x) with
    | some L => some (y, ⟨s.ρ, L, s.nx⟩)
    | none => none
  | none => none
def codeOf (E : TypeId) : Option (Ty Γ.S × Nat) := match C.tb E with
  | some ⟨_, _, n, some t, _⟩ => some (t, n)
  | _ => none
def xLoad (s : St Γ) (T : TypeId) (p : SV Γ) : Eff Γ := match C.tb T with
  | none => .stuck
  | some ti => match p with
    | .ptr b o => match s.L b with
      | some (.box _ c) => match rdc ti 9 c o with
        | some v => frc v .ret .stuck
        | none => .stuck
      | _ => .stuck
    | .pea b o N n i q => match s.L b, ti.code with
      | some (.box _ c), some u => match arrAt N 9 c o with
        | some ⟨.arr m t, a⟩ => match Nat.beq m N && Nat.beq (sz Γ t) n, sub 9 ⟨t, Arr.get a i⟩ q u with
          | true, some y => .ret (.v u y)
          | _, _ => .stuck
        | _ => .stuck
      | _, _ => .stuck
    | .pel b n c i q => match slc s (.sl b n c), ti.code with
      | some ⟨t, l⟩, some u => match Nat.beq (sz Γ t) n, sub 9 ⟨t, ix l i⟩ q u with
        | true, some y => .ret (.v u y)
        | _, _ => .stuck
      | _, _ => .stuck
    | .pfz t l i q => match ti.code with
      | some u => match sub 9 ⟨t, ix l i⟩ q u with
        | some y => .ret (.v u y)
        | none => .stuck
      | none => .stuck
    | .glb g o => match C.gl g, ti.code, Nat.beq o 0 with
      | some p, some u, true => match sub 9 p 0 u with
        | some y => .ret (.v u y)
        | none => .stuck
      | _, _, _ => .stuck
    | .pgl g n i => match C.gl g, ti.code with
      | some ⟨.arr m t, a⟩, some u => match Nat.beq (sz Γ t) n, sub 9 ⟨t, Arr.get a i⟩ 0 u with
        | true, some y => .need (gd (@LT.lt Int _ i m)) (.v u y)
        | _, _ => .stuck
      | _, _ => .stuck
    | _ => .stuck
def xStore (s : St Γ) (T : TypeId) (p y : SV Γ) : Eff Γ := match C.tb T with
  | none => .stuck
  | some ti => match Nat.beq (szv 9 y) ti.size && stv 9 y with
    | false => .stuck
    | true => match p with
      | .ptr b o => match s.L b with
        | some (.box T' c) => match wrc 9 c o y with
          | some c' => match stv 9 c' with
            | true => .eff (s.res b (.box T' c')) .undef
            | false => .stuck
          | none => .stuck
        | _ => .stuck
      | .pea b o N n i q => match s.L b, y with
        | some (.box T' c), .v u z => match arrAt N 9 c o with
          | some ⟨.arr m t, a⟩ => match Nat.beq m N && Nat.beq (sz Γ t) n, putc 9 ⟨t, Arr.get a i⟩ q ⟨u, z⟩ with
            | true, some p => match PV.cst t p with
              | some y => match wrc 9 c o (.v (.arr m t) (Arr.set a i y)) with
                | some c' => match stv 9 c' with
                  | true => .eff (s.res b (.box T' c')) .undef
                  | false => .stuck
                | none => .stuck
              | none => .stuck
            | _, _ => .stuck
          | _ => .stuck
        | _, _ => .stuck
      | .pel b n [] i q => match s.L b with
        | some (.row t E l) => match y with
          | .v u z => match Nat.beq (sz Γ t) n, putc 9 ⟨t, ix l i⟩ q ⟨u, z⟩ with
            | true, some p => match PV.cst t p with
              | some y => .eff (s.res b (.row t E (List.set l (Int.toNat i) y))) .undef
              | none => .stuck
            | _, _ => .stuck
          | _ => .stuck
        | some (.rowc E l) => match y, Nat.beq n 1 && Nat.beq q 0 with
          | .v (.int .u8) z, true => .eff (s.res b (.rowc E (List.set l (Int.toNat i) z))) .undef
          | _, _ => .stuck
        | _ => .stuck
      | _ => .stuck
def xIdxA (s : St Γ) (T : TypeId) (x j : SV Γ) : Eff Γ := match j, C.tb T with
  | .v (.int _) i, some ti => match ti.u with
    | .arr N E => match C.tb E with
      | none => .stuck
      | some te => match x with
        | .ptr b o => match te.code with
          | some _ => .need (gd (@LE.le Int _ 0 i ∧ @LT.lt Int _ i N)) (.pea b o N te.size i 0)
          | none => match i with
            | Int.ofNat k => .need (gd (@LE.le Int _ 0 (Int.ofNat k) ∧ @LT.lt Int _ (Int.ofNat k) N)) (.ptr b (o + k * te.size))
            | _ => .stuck
        | .glb g o => match Nat.beq o 0 with
          | true => .need (gd (@LE.le Int _ 0 i ∧ @LT.lt Int _ i N)) (.pgl g te.size i)
          | false => .stuck
        | _ => .stuck
    | .sl E => match C.tb E with
      | none => .stuck
      | some te => match slc s x with
        | none => match x, i with
          | .asp b o m, Int.ofNat k => match Nat.beq te.size 1 with
            | true => .need (gd (Nat.blt k m = true)) (.ptr b (o + k))
            | false => .stuck
          | _, _ => .stuck
        | some ⟨t, l⟩ => match Nat.beq (sz Γ t) te.size with
          | false => .stuck
          | true => match x with
            | .v (.sl t) l => .need (gd (@LE.le Int _ 0 i ∧ @LT.lt Int _ i (List.length l))) (.pfz t l i 0)
            | .sl b n c => match Nat.beq n te.size with
              | true => .need (gd (@LE.le Int _ 0 i ∧ @LT.lt Int _ i (List.length l))) (.pel b n c i 0)
              | false => .stuck
            | .asl b o N n [] => match Nat.beq n te.size with
              | true => .need (gd (@LE.le Int _ 0 i ∧ @LT.lt Int _ i (List.length l))) (.pea b o N n i 0)
              | false => .stuck
            | _ => .stuck
    | _ => .stuck
  | _, _ => .stuck
def xFldA (T : TypeId) (x : SV Γ) (i : Nat) : Eff Γ := match C.tb T with
  | some ⟨.st fs, _, _, _, _⟩ => match fs[i]? with
    | some f => match x with
      | .ptr b o => .ret (.ptr b (o + f.1))
      | .pea b o N n j q => .ret (.pea b o N n j (q + f.1))
      | .pel b n c j q => .ret (.pel b n c j (q + f.1))
      | .pfz t l j q => .ret (.pfz t l j (q + f.1))
      | _ => .stuck
    | none => .stuck
  | _ => .stuck
def xFld (T : TypeId) (x : SV Γ) (i : Nat) : Eff Γ := match C.tb T with
  | some ⟨.st fs, _, _, _, _⟩ => match fs[i]? with
    | some f => match C.tb f.2 with
      | some ti => match stv 9 x && aggv x with
        | true => match rdc ti 9 x f.1 with
          | some v => frc v .ret .stuck
          | none => .stuck
        | false => .stuck
      | none => .stuck
    | none => .stuck
  | _ => .stuck
def ptrB : SV Γ → Bool
  | .ptr _ _ => true
  | _ => false
def xIdx (T : TypeId) (x j : SV Γ) : Eff Γ := match x, j, C.tb T with
  | .v .str l, .v (.int _) i, some ⟨.str, _, _, _, _⟩ => .need (gd (@LE.le Int _ 0 i ∧ @LT.lt Int _ i (@List.length UInt8 l))) (.v (.int .u8) (ofB (@List.getD UInt8 l (Int.toNat i) 0)))
  | .v (.arr N t) a, .v (.int _) i, some ⟨.arr M E, _, _, _, _⟩ => match Nat.beq N M, C.tb E with
    | true, some te => match Nat.beq (sz Γ t) te.size && cond te.agg (isAgg t) (!(isAgg t)) with
      | true => .need (gd (@LE.le Int _ 0 i ∧ @LT.lt Int _ i M)) (.v t (Arr.get a i))
      | false => .stuck
    | _, _ => .stuck
  | .agg l, .v (.int _) i, some ⟨.arr M E, _, _, _, _⟩ => match C.tb E, l[Int.toNat i]? with
    | some te, some y => match (Nat.beq te.size 1 && !te.agg) && (Nat.beq (List.length l) M && stv.all ptrB l) with
      | true => .need (gd (@LE.le Int _ 0 i ∧ @LT.lt Int _ i M)) y
      | false => .stuck
    | _, _ => .stuck
  | _, _, _ => .stuck
def bnd (n : Int) : Option (SV Γ) → Option (SV Γ) → Option (Option Gd × Int × Int)
  | none, none => some (none, 0, n)
  | some (.v (.int _) a), none => some (some (gd (@LE.le Int _ 0 a ∧ @LE.le Int _ a n)), a, n)
  | none, some (.v (.int _) b) => some (some (gd (@LE.le Int _ 0 b ∧ @LE.le Int _ b n)), 0, b)
  | some (.v (.int _) a), some (.v (.int _) b) => some (some (gd (@LE.le Int _ 0 a ∧ @LE.le Int _ a b ∧ @LE.le Int _ b n)), a, b)
  | _, _ => none
def ndr (g : Option Gd) (v : SV Γ) : Eff Γ := match g with
  | none => .ret v
  | some g => .need g v
def xSlice (s : St Γ) (T : TypeId) (x : SV Γ) (lo hi : Option (SV Γ)) : Eff Γ := match C.tb T with
  | none => .stuck
  | some ti => match ti.u with
    | .str => match x with
      | .v .str l => match bnd (@List.length UInt8 l) lo hi with
        | some (g, a, b) => match lo, hi with
          | none, none => .stuck
          | _, _ => ndr g (.v .str (@cut UInt8 l a b))
        | none => .stuck
      | _ => .stuck
    | .arr N E => match C.tb E, x with
      | some te, .pea b o M n i q => match i with
        | Int.ofNat k => match lo with
          | some _ => .stuck
          | none => match hi with
            | none => .ret (.asl b (o + k * n + q) N te.size [])
            | some y => match y with
              | .v (.int _) h => .need (gd (@LE.le Int _ 0 h ∧ @LE.le Int _ h N)) (.asl b (o + k * n + q) N te.size [(0, h)])
              | _ => .stuck
        | _ => .stuck
      | some te, .ptr b o => match bnd N lo hi with
        | some (g, u, v) => match lo, hi with
          | none, none => .ret (.asl b o N te.size [])
          | some _, some _ => ndr g (.asl b o N te.size [(u, v)])
          | none, some _ => match te.code, v with
            | none, Int.ofNat m => match Nat.beq te.size 1 && (Nat.ble m N && Nat.blt 0 m) with
              | true => .ret (.asp b o m)
              | false => .stuck
            | _, _ => .stuck
          | _, _ => .stuck
        | none => .stuck
      | some te, .pfz t l i q => match lo with
        | some _ => .stuck
        | none => match hi with
          | some _ => .stuck
          | none => match gaP N 9 (⟨t, ix l i⟩ : PV Γ.toSg) q with
            | some ⟨.arr m t', a⟩ => match Nat.beq m N && Nat.beq (sz Γ t') te.size with
              | true => .ret (.v (.sl t') a.l)
              | false => .stuck
            | _ => .stuck
      | _, _ => .stuck
    | .sl E => match C.tb E with
      | none => .stuck
      | some te => match x with
        | .nils => .stuck
        | x => match slc s x with
          | none => .stuck
          | some ⟨t, l⟩ => match Nat.beq (sz Γ t) te.size, bnd (List.length l) lo hi with
            | true, some (g, a, b) => match x with
              | .v (.sl t) l => ndr g (.v (.sl t) (cut l a b))
              | .sl i n c => match Nat.beq n te.size with
                | true => ndr g (.sl i n (c ++ [(a, b)]))
                | false => .stuck
              | .asl i o N n c => match Nat.beq n te.size with
                | true => ndr g (.asl i o N n (c ++ [(a, b)]))
                | false => .stuck
              | _ => .stuck
            | _, _ => .stuck
    | _ => .stuck
def xLen (s : St Γ) (T : TypeId) (x : SV Γ) : Eff Γ := match C.tb T with
  | some ⟨.str, _, _, _, _⟩ => match x with
    | .v .str l => .ret (.v (.int .i64) (@List.length UInt8 l))
    | _ => .stuck
  | some ⟨.sl _, _, _, _, _⟩ => match x with
    | .nils => .ret (.v (.int .i64) 0)
    | .asp b o m => .ret (.v (.int .i64) (Int.ofNat m))
    | x => match slc s x with
      | some ⟨t, l⟩ => .ret (.v (.int .i64) (List.length l))
      | none => .stuck
  | _ => .stuck
def rowOf (s : St Γ) (t : Ty Γ.S) (E : TypeId) : SV Γ → Option (List (el Γ.toSg t) × (Nat → Option (Res Γ)))
  | .nils => some ([], s.L)
  | .sl b n [] => match s.L b with
    | some (.row u E' l) => match Nat.beq E E', PV.cst (.sl t) ⟨.sl u, l⟩ with
      | true, some l => some (l, upd s.L b none)
      | _, _ => none
    | _ => none
  | _ => none
def isU8 (E : TypeId) : Bool := match C.tb E with
  | some ⟨.int .u8, _, _, _, _⟩ => true
  | _ => false
def xApp (s : St Γ) (T T' : TypeId) (x y : SV Γ) : Eff Γ := match C.tb T, C.tb T' with
  | some ⟨.sl E, _, _, _, _⟩, some ti' => match codeOf C E with
    | none => .stuck
    | some (t, n) => match Nat.blt 0 n, rowOf s t E x with
      | true, some (l, L) => match ti'.u with
        | .sl E' => match Nat.beq E E' && Nat.beq T T' with
          | false => .stuck
          | true => match y with
            | .nils => .neff (gd (List.length l + List.length ([] : List (el Γ.toSg t)) ≤ LIM)) ⟨s.ρ, upd L s.nx (some (.row t E (l ++ []))), Nat.succ s.nx⟩ (.sl s.nx n [])
            | y => match slc s y with
              | some ⟨u, m⟩ => match PV.cst (.sl t) ⟨.sl u, m⟩ with
                | some m => .neff (gd (List.length l + List.length m ≤ LIM)) ⟨s.ρ, upd L s.nx (some (.row t E (l ++ m))), Nat.succ s.nx⟩ (.sl s.nx n [])
                | none => .stuck
              | none => .stuck
        | .str => match y, PV.cst (.sl (.int .u8)) ⟨.sl t, l⟩ with
          | .v .str m, some l => .neff (gd (@List.length Int l + @List.length UInt8 m ≤ LIM)) ⟨s.ρ, upd L s.nx (some (.row (.int .u8) E (@HAppend.hAppend (List Int) (List Int) (List Int) _ l (List.map ofB m)))), Nat.succ s.nx⟩ (.sl s.nx n [])
          | _, _ => .stuck
        | .int .i64 => match y, PV.cst (.sl (.int .u8)) ⟨.sl t, l⟩ with
          | .v (.int .i64) (Int.ofNat m), some l => match Nat.blt 0 m && isU8 C E with
            | true => .neff (gd (@List.length Int l + m ≤ LIM)) ⟨s.ρ, upd L s.nx (some (.row (.int .u8) E (@HAppend.hAppend (List Int) (List Int) (List Int) _ l (List.replicate m (0 : Int))))), Nat.succ s.nx⟩ (.sl s.nx n [])
            | false => .stuck
          | _, _ => .stuck
        | _ => .stuck
      | _, _ => .stuck
  | _, _ => .stuck
def srcOf (s : St Γ) (t : Ty Γ.S) : SV Γ → Option (List (el Γ.toSg t))
  | .nils => some []
  | y => match slc s y with
    | some ⟨u, m⟩ => PV.cst (.sl t) ⟨.sl u, m⟩
    | none => none
def xCopy (s : St Γ) (T : TypeId) (x y : SV Γ) : Eff Γ := match C.tb T with
  | some ⟨.sl E, _, _, _, _⟩ => match C.tb E with
    | none => .stuck
    | some te => match Nat.beq te.size 1 with
      | false => .stuck
      | true => match x with
        | .sl b n [] => match s.L b with
          | some (.row t E' l) => match srcOf s t y, Nat.beq (sz Γ t) 1 with
            | some m, true => .eff (s.res b (.row t E' (splL l 0 (List.take (List.length l) m)))) (.v (.int .i64) ((Nat.min (List.length m) (List.length l) : Nat) : Int))
            | _, _ => .stuck
          | _ => .stuck
        | .sl b n [(lo, hi)] => match s.L b with
          | some (.row t E' l) => match srcOf s t y, Nat.beq (sz Γ t) 1 && Nat.beq n 1 with
            | some m, true => .neff (gd (Int.toNat lo ≤ Int.toNat hi ∧ Int.toNat hi ≤ List.length l)) (s.res b (.row t E' (splL l (Int.toNat lo) (List.take (Int.toNat hi - Int.toNat lo) m)))) (.v (.int .i64) ((Nat.min (List.length m) (Int.toNat hi - Int.toNat lo) : Nat) : Int))
            | _, _ => .stuck
          | _ => .stuck
        | .asl b o N n [] => match s.L b with
          | some (.box T' c) => match arrAt N 9 c o with
            | some ⟨.arr M t, a⟩ => match Nat.beq M N && (Nat.beq (sz Γ t) 1 && Nat.beq n 1), srcOf s t y with
              | true, some m => match wrc 9 c o (.v (.arr M t) (Arr.copy a m)) with
                | some c' => match stv 9 c' with
                  | false => .stuck
                  | true => .eff (s.res b (.box T' c')) (.v (.int .i64) ((Nat.min (List.length m) M : Nat) : Int))
                | none => .stuck
              | _, _ => .stuck
            | _ => .stuck
          | _ => .stuck
        | _ => .stuck
  | _ => .stuck
def xMake (s : St Γ) (T : TypeId) (a b : SV Γ) : Eff Γ := match C.tb T, a, b with
  | some ⟨.sl E, _, _, _, _⟩, .v (.int .i64) n, .v (.int .i64) m => match C.tb E with
    | some ⟨_, _, k, some t, .v u z⟩ => match PV.cst t ⟨u, z⟩ with
      | some z => .neff (gd (@Eq Int n m ∧ @LE.le Int _ 0 n ∧ Int.toNat n ≤ LIM)) (s.new (.row t E (List.replicate (Int.toNat n) z))) (.sl s.nx k [])
      | none => .stuck
    | _ => .stuck
  | _, _, _ => .stuck
def xConv (s : St Γ) (T T' : TypeId) (x : SV Γ) : Eff Γ := match C.tb T, C.tb T' with
  | some ti, some td => match ti.u, td.u with
    | .int _, .int k => match x with
      | .v (.int _) a => .ret (.v (.int k) (k.wrap a))
      | _ => .stuck
    | .sl E, .str => match C.tb E with
      | some ⟨.int .u8, _, _, _, _⟩ => match srcOf s (.int .u8) x with
        | some l => .ret (.v .str (List.map toB l))
        | none => .stuck
      | _ => .stuck
    | .str, .sl E => match C.tb E, x with
      | some ⟨.int .u8, _, _, _, _⟩, .v .str l => .eff (s.new (.rowc E (List.map ofB l))) (.sl s.nx 1 [])
      | _, _ => .stuck
    | _, _ => .stuck
  | _, _ => .stuck
def lay (fs : List (Nat × TypeId)) : SV Γ → List (Nat × SV Γ) → Option (SV Γ)
  | c, [] => some c
  | c, (j, y) :: ps => match fs[j]? with
    | none => none
    | some f => match C.tb f.2 with
      | none => none
      | some tf => match stv 9 y && Nat.beq (szv 9 y) tf.size, wrc 9 c f.1 y with
        | true, some c' => match stv 9 c' with
          | true => lay fs c' ps
          | false => none
        | _, _ => none
def arrF (s : Nat) (E : TypeId) : Nat → Nat → List (Nat × TypeId)
  | 0, _ => []
  | n + 1, o => (o, E) :: arrF s E n (o + s)
def layA (n : Nat) (t : Ty Γ.S) (N : Nat) : Arr N (el Γ.toSg t) → List (Nat × SV Γ) → Option (Arr N (el Γ.toSg t))
  | a, [] => some a
  | a, (j, y) :: ps => match Nat.blt j N, y with
    | true, .v u y => match PV.cst t ⟨u, y⟩ with
      | some y => layA n t N (Arr.set a (j : Int) y) ps
      | none => none
    | _, _ => none
def xBuild (s : St Γ) (T : TypeId) (ps : List (Nat × SV Γ)) : Eff Γ := match C.tb T with
  | some ti => match ti.u with
    | .st fs => match stv 9 ti.zero, lay C fs ti.zero ps with
      | true, some v => match aggv v && aggv ti.zero with
        | true => frc v .ret .stuck
        | false => .stuck
      | _, _ => .stuck
    | .arr N E => match C.tb E, ti.zero with
      | some te, .v (.arr M t) a => match Nat.beq M N && Nat.beq (sz Γ t) te.size, layA te.size t M a ps with
        | true, some a => .ret (.v (.arr M t) a)
        | _, _ => .stuck
      | some te, .agg zs => match stv 9 (.agg zs : SV Γ), lay C (arrF te.size E N 0) (.agg zs) ps with
        | true, some v => match aggv v with
          | true => frc v .ret .stuck
          | false => .stuck
        | _, _ => .stuck
      | _, _ => .stuck
    | _ => .stuck
  | none => .stuck
def lits (t : Ty Γ.S) : St Γ → Nat → List (Nat × SV Γ) → Option (List (el Γ.toSg t) × St Γ)
  | s, _, [] => some ([], s)
  | s, k, (j, y) :: ps => match Nat.beq j k with
    | false => none
    | true => match tak s t y with
      | some (z, s') => match lits t s' (Nat.succ k) ps with
        | some (l, s'') => some (z :: l, s'')
        | none => none
      | none => none
def stay1 (s : St Γ) : SV Γ → Bool
  | .ptr _ _ => true
  | .sl b _ _ => match s.L b with
    | some (.row _ _ _) => true
    | some (.rowc _ _) => true
    | _ => false
  | _ => false
def stays (s : St Γ) : Nat → List (Nat × SV Γ) → Option (List (SV Γ))
  | _, [] => some []
  | k, (j, y) :: ps => match Nat.beq j k && stay1 s y with
    | true => match stays s (Nat.succ k) ps with
      | some l => some (y :: l)
      | none => none
    | false => none
def xLit (s : St Γ) (T : TypeId) (n : Nat) (ps : List (Nat × SV Γ)) : Eff Γ := match C.tb T with
  | some ⟨.sl E, _, _, _, _⟩ => match stays s 0 ps with
   | some (x :: l) => match C.tb E with
    | some te => match Nat.beq te.size 1 && (Nat.beq (List.length ps) n && Nat.ble n 64) with
      | true => .eff (s.new (.box E (.agg (x :: l)))) (.asp s.nx 0 n)
      | false => .stuck
    | none => .stuck
   | _ => match codeOf C E with
    | some (t, m) => match Nat.beq (List.length ps) n && (Nat.ble n 4096 && (!(isAgg t) || (Nat.ble n 1 && Nat.ble m 4096 && Nat.blt 0 m))) with
      | true => match lits t s 0 ps with
        | some (l, s') => .eff (s'.new (.row t E l)) (.sl s'.nx m [])
        | none => .stuck
      | false => .stuck
    | none => .stuck
  | _ => .stuck
def xNext (s : St Γ) (x : SV Γ) : Eff Γ := match x with
  | .ptr b o => match s.L b, Nat.beq o 0 with
    | some (.itr l i), true => .br (decide (@LT.lt Int _ i (@List.length UInt8 l))) (s.res b (.itr l (i + wideAt l i))) (.tup [.v .bool true, .v (.int .i64) i, .v (.int .i32) (runeAt l i)]) s (.tup [.v .bool false])
    | _, _ => .stuck
  | _ => .stuck
def oMap (s : St Γ) (l : List Operand) : List (SV Γ) := go l where
  go : List Operand → List (SV Γ)
    | [] => []
    | x :: l => eo s x :: go l
def pMap (s : St Γ) (l : List (Nat × Operand)) : List (Nat × SV Γ) := go l where
  go : List (Nat × Operand) → List (Nat × SV Γ)
    | [] => []
    | p :: l => (p.1, eo s p.2) :: go l
def bNm : Builtin → Nat
  | .len => 1 | .append => 2 | .copy => 3 | .min => 4 | .max => 5 | _ => 0
def setB (s : St Γ) (x : Operand) (b : Bool) : St Γ := match x with
  | .tmp t => ⟨upd s.ρ t (.v .bool b), s.L, s.nx⟩
  | _ => s
def exo (s : St Γ) : Op → Eff Γ
  | .move x | .assign x => frc (eo s x) .ret .stuck
  | .pick c a b => match eo s c with
    | .v .bool v => .br v (setB s c true) (eo s a) (setB s c false) (eo s b)
    | _ => .stuck
  | .alloc T => match C.tb T with
    | some ti => match stv 9 ti.zero with
      | true => .eff (s.new (.box T ti.zero)) (.ptr s.nx 0)
      | false => .stuck
    | none => .stuck
  | .box T x => frc (eo s x) (fun v => match stv 9 v with
    | true => .eff (s.new (.box T v)) (.ptr s.nx 0)
    | false => .stuck) .stuck
  | .build T ps => xBuild C s T (pMap s ps.toList)
  | .buildSlice T n ps => xLit C s T n (pMap s ps.toList)
  | .load T x => xLoad C s T (eo s x)
  | .store T x y => xStore C s T (eo s x) (eo s y)
  | .nilCheck x => match eo s x with
    | .ptr b o => .ret (.ptr b o)
    | .pel b n c i q => .ret (.pel b n c i q)
    | .pea b o N n i q => .ret (.pea b o N n i q)
    | .pfz t x i q => .ret (.pfz t x i q)
    | .glb g o => .ret (.glb g o)
    | _ => .stuck
  | .binOp op T x y _ => bin C T op (eo s x) (eo s y)
  | .unOp op _ x => match op, eo s x with
    | .not, .v .bool b => .ret (.v .bool (!b))
    | .neg, .v (.int k) a => .ret (.v (.int k) (k.wrap (-a)))
    | _, _ => .stuck
  | .convert T T' x => xConv C s T T' (eo s x)
  | .makeInterface T x => frc (eo s x) (fun v => match stv 9 v, C.tb T with
    | true, some ⟨.st _, _, _, _, _⟩ => .ret (.ifc T v)
    | _, _ => .stuck) .stuck
  | .typeAssert x _ T ok => match ok, eo s x with
    | true, .ifc T' v => match C.tb T with
      | some ⟨.st _, _, _, _, z⟩ => match Nat.beq T' T with
        | true => frc v (fun v => .ret (.tup [v, .v .bool true])) .stuck
        | false => .ret (.tup [z, .v .bool false])
      | _ => .stuck
    | false, .ifc T' v => match C.tb T with
      | some ⟨.st _, _, _, _, z⟩ => match Nat.beq T' T with
        | true => frc v .ret .stuck
        | false => .stuck
      | _ => .stuck
    | _, _ => .stuck
  | .makeFunc fn fi cs => match fn, fi.toList with
    | .func f, [] => .ret (.fn f (oMap s cs.toList))
    | _, _ => .stuck
  | .makeSlice T a b => xMake C s T (eo s a) (eo s b)
  | .slice T x lo hi mx => match mx with
    | none => xSlice C s T (eo s x) (lo.map (eo s)) (hi.map (eo s))
    | some _ => .stuck
  | .fieldAddr T x i => xFldA C T (eo s x) i
  | .field T x i => xFld C T (eo s x) i
  | .indexAddr T x i => xIdxA C s T (eo s x) (eo s i)
  | .index T x i => xIdx C T (eo s x) (eo s i)
  | .range T x => match C.tb T, eo s x with
    | some ⟨.str, _, _, _, _⟩, .v .str l => .eff (s.new (.itr l 0)) (.ptr s.nx 0)
    | _, _ => .stuck
  | .next x str => match str with
    | true => xNext s (eo s x)
    | false => .stuck
  | .extract x i => match eo s x with
    | .tup l => match l[i]? with
      | some v => frc v .ret .stuck
      | none => .stuck
    | _ => .stuck
  | .call c => match c.callee with
    | .value x => match eo s x with
      | .fn f cs => .call f (oMap s c.args.toList ++ cs)
      | _ => .stuck
    | .invoke r m => match eo s r with
      | .ifc T x => .inv T x m (oMap s c.args.toList)
      | _ => .stuck
    | .builtin b => match bNm b, c.args.toList, c.argTypes.toList with
      | 1, [x], [T] => xLen C s T (eo s x)
      | 2, [x, y], [T, T'] => xApp C s T T' (eo s x) (eo s y)
      | 3, [x, y], [T, T'] => xCopy C s T (eo s x) (eo s y)
      | 4, [x, y], _ => match eo s x, eo s y with
        | .v (.int k) a, .v (.int k') b => match ikBeq k k' with
          | true => .ret (.v (.int k) (mnI a b))
          | false => .stuck
        | _, _ => .stuck
      | 5, [x, y], _ => match eo s x, eo s y with
        | .v (.int k) a, .v (.int k') b => match ikBeq k k' with
          | true => .ret (.v (.int k) (mxI a b))
          | false => .stuck
        | _, _ => .stuck
      | _, _, _ => .stuck
  | _ => .stuck
end
end Go.Yw
namespace Go.Xw
open Go
section
variable {P : Program} {ρ : Env} {w w' : World} {o : Oper} {x y : Operand} {T E e : TypeId} {α β : Type} {K : Kd α} {K2 : Kd β} {B B2 H H2 : Nat} {v u : Value} {LL : List (List α)} {l : List β}
end
section
variable {P : Program} {ρ : Env} {w : World} {o : Oper} {x y a b : Operand} {T T' E : TypeId} {g p : Nat}
theorem xr_neg {k : IntKind} {n : Int} (ho : o.op = .unOp .neg T x) (hx : evO ρ x = .int k n) : (execOp (evO ρ) o).run P w = .ok (.value (.int k (k.wrap (-n)))) w := by simp [execOp, ho, hx, Op.unary, Op.intArith]
theorem xr_sliceArrC {len : Nat} {k' : IntKind} (hi : Nat) (ho : o.op = .slice T x none (some b) none) (hT : P.underlying T = some (.array len E)) (hs : szB P E = some 1) (hx : evO ρ x = .pointer (some ⟨g, p, none⟩))
    (hb : evO ρ b = .int k' (hi : Int)) (h2 : Nat.ble hi len = true) (h3 : Nat.blt 0 hi = true) : (execOp (evO ρ) o).run P w = .ok (.value (.slice (some ⟨g, p, none⟩) hi len)) w := by
  unfold szB at hs
  obtain ⟨inf, hinf, he⟩ := Option.map_eq_some_iff.1 hs
  have h0' : (0 : Int) ≤ (hi : Int) := by omega
  have h2' : (hi : Int) ≤ (len : Int) := by have := Nat.le_of_ble_eq_true h2; omega
  have e : ∀ (c : Prop) [Decidable c] (y z : Addr), (if c then some y else some z) = some (if c then y else z) := by
    intro c _ y z
    split <;> rfl
  simp [execOp, ho, hx, hb, Instr.sliceAt, Instr.sureAddr, run_underlying hT, Instr.sliceBounds, sizeOf, typeInfo, hinf, he, sliceBound_ok h0' h2', e, Addr.add_lit]
theorem xr_lenV {A : Option Addr} {n c : Nat} (ho : o.op = .call ⟨.builtin .len, #[x], #[T]⟩) (hT : P.underlying T = some (.slice E)) (hx : evO ρ x = .slice A n c) : (execOp (evO ρ) o).run P w = .ok (.value (.int .i64 (n : Int))) w := xr_lenS ho hT hx
theorem xr_indexV {n c : Nat} {k : IntKind} (i : Nat) (ho : o.op = .indexAddr T x y) (hT : P.underlying T = some (.slice E)) (hs : szB P E = some 1) (hx : evO ρ x = .slice (some ⟨g, p, none⟩) n c) (hy : evO ρ y = .int k (i : Int)) (hi : Nat.blt i n = true) :
    (execOp (evO ρ) o).run P w = .ok (.value (.pointer (some ⟨g, p + i, none⟩))) w := by
  unfold szB at hs
  obtain ⟨inf, hinf, he⟩ := Option.map_eq_some_iff.1 hs
  have h0 : (0 : Int) ≤ (i : Int) := by omega
  have hin : i < n := by simpa [Nat.blt_eq] using hi
  have hin2 : ¬ n ≤ i := by omega
  have h1 : (i : Int) < (n : Int) := by omega
  simp [execOp, ho, hx, hy, Instr.indexAt, asIntOf, run_underlying hT, h0, h1, hin, hin2, sizeOf, typeInfo, hinf, Addr.add_lit, he]
theorem run_eqSame (d : Nat) (A : Addr) {m : Nat} (hT : P.underlying T = some (.pointer E)) (hs : szB P E = some m) : (Op.equalIn (d + 1) T (.pointer (some A)) (.pointer (some A))).run P w = .ok true w := by
  unfold szB at hs
  obtain ⟨inf, hinf, he⟩ := Option.map_eq_some_iff.1 hs
  have h2 : (sameAddr A A).run P w = .ok true w := by
    obtain ⟨b, q, s⟩ := A
    simp [sameAddr]
  simp [Op.equalIn, run_underlying hT, sizeOf, typeInfo, hinf, h2]
theorem xr_eqPP {m : Nat} (ho : o.op = .binOp .eql T x y T') (hT : P.underlying T = some (.pointer E)) (hs : szB P E = some m) (hx : evO ρ x = .pointer (some ⟨g, p, none⟩)) (hy : evO ρ y = .pointer (some ⟨g, p, none⟩)) : (execOp (evO ρ) o).run P w = .ok (.value (.bool true)) w := by
  have h : (Op.equal T (.pointer (some ⟨g, p, none⟩)) (.pointer (some ⟨g, p, none⟩))).run P w = .ok true w := run_eqSame 9999 _ hT hs
  simp only [execOp, ho, hx, hy, binOp]
  simp [eqGuard, h]
end
section
variable {w : World} {cs : List Value} {g : Nat} {v : Value} {S F : Nat → Prop}
end
end Go.Xw
namespace Go.Yw
open Go Go.Xw
section
variable {Γ : Gm} {P : Program}
def ftyB (P : Program) (T i : Nat) : Option Nat := match P.underlying T with
  | some (.struct fs) => (fs[i]?).map (·.type)
  | _ => none
structure TOk (P : Program) (T : TypeId) (ti : TI Γ) : Prop where
  u : match ti.u with
    | .int k => P.underlying T = some (.int k)
    | .bool => P.underlying T = some .bool
    | .str => P.underlying T = some .string
    | .sl E => P.underlying T = some (.slice E)
    | .arr n E => P.underlying T = some (.array n E)
    | .st fs => (∃ d, P.underlying T = some (.struct d)) ∧ ∃ pl, placesB P T = some pl ∧ ∀ (i : Nat) (f : Nat × TypeId), fs[i]? = some f → fldB P T i = some f.1 ∧ (∃ n, pl[i]? = some (f.1, n) ∧ szB P f.2 = some n) ∧ ftyB P T i = some f.2
    | .ptr E => P.underlying T = some (.pointer E)
    | _ => True
  agg : aggB P T = some ti.agg
  size : szB P T = some ti.size
  one : ti.agg = false → ti.size = 1
  code : ∀ t, ti.code = some t → isAgg t = ti.agg ∧ sz Γ t = ti.size
  zero : ∃ z bs, elB P T = some (some z, ti.size, bs) ∧ Nat.ble bs 32768 = true ∧ (∀ β w F, VR β w F ti.zero z) ∧ (∀ v ∈ z.cells.toList, v.oneCell' = true) ∧ z.cells.size = ti.size
  u8 : ti.u = .int .u8 → elB P T = some (some (.int .u8 0), 1, 1)
structure CtOk (P : Program) (C : Ct Γ) : Prop where
  g : GmOk Γ
  tb : ∀ T ti, C.tb T = some ti → TOk P T ti
  eq : ∀ T s d, C.eq T s = some d → ∀ (a b : Γ.A s) (u v : Value) β w F, VR β w F (SV.v (.st s) a) u → VR β w F (SV.v (.st s) b) v → ∀ (ρ : Env) (o : Oper) x y T', evO ρ x = u → evO ρ y = v →
    (o.op = .binOp .eql T x y T' → (execOp (evO ρ) o).run P w = .ok (.value (.bool (@decide (a = b) (d a b)))) w) ∧ (o.op = .binOp .neq T x y T' → (execOp (evO ρ) o).run P w = .ok (.value (.bool (!(@decide (a = b) (d a b))))) w)
  dr : P.follows .mixedOrders = true
def RhoOk (C : Ct Γ) (s s' : St Γ) : Prop := ∀ ρ β F w, Sd C s ρ β F w → ∀ t, VR β w F (s'.ρ t) (ρ t)
def EffOk (C : Ct Γ) (P : Program) (o : Oper) (s : St Γ) : Eff Γ → Prop
  | .ret v => OpPure C P o s v
  | .need g v => g.p → OpPure C P o s v
  | .eff s' v => OpOk C P o s v s' ∧ s'.ρ = s.ρ
  | .neff g s' v => g.p → OpOk C P o s v s' ∧ s'.ρ = s.ρ
  | .br b s1 v1 s2 v2 => (b = true → OpOk C P o s v1 s1 ∧ RhoOk C s s1) ∧ (b = false → OpOk C P o s v2 s2 ∧ RhoOk C s s2)
  | .call f l => calB P f = some true → ∀ ρ β F w, Sd C s ρ β F w → ∃ us, VL β w F l us ∧ (execOp (evO ρ) o).run P w = .ok (.enter f us.toArray) w
  | .inv T x m l => ∀ ρ β F w, Sd C s ρ β F w → ∃ u us, VR β w F x u ∧ VL β w F l us ∧ (execOp (evO ρ) o).run P w = (callMethod (.iface T u) m us.toArray).run P w
  | .stuck => True
variable {C : Ct Γ} {s : St Γ} {o : Oper}
theorem xr_ltStr {P : Program} {ρ : Env} {w : World} {o : Oper} {x a : Operand} {T T' : TypeId} {l m : List UInt8} (ho : o.op = .binOp .lss T x a T') (hx : evO ρ x = sv l) (hy : evO ρ a = sv m) : (execOp (evO ρ) o).run P w = .ok (.value (.bool (Op.bytesLess l m))) w := by
  simp only [execOp, ho, hx, hy, binOp, sv, Op.stringOp, toList_mk]
  simp [eqGuard]
theorem xr_geStr {P : Program} {ρ : Env} {w : World} {o : Oper} {x a : Operand} {T T' : TypeId} {l m : List UInt8} (ho : o.op = .binOp .geq T x a T') (hx : evO ρ x = sv l) (hy : evO ρ a = sv m) : (execOp (evO ρ) o).run P w = .ok (.value (.bool (!Op.bytesLess l m))) w := by
  simp only [execOp, ho, hx, hy, binOp, sv, Op.stringOp, toList_mk]
  simp [eqGuard]
theorem arr_eq (b : ByteArray) : (⟨b.data.toList.toArray⟩ : ByteArray) = b := by cases b; simp
theorem cst_ok {β : Bt} {w : World} {F : Nat → Prop} (v : Value) : VR β w F (cst v : SV Γ) v := by
  unfold cst
  split
  · exact vr_int _ _
  · exact vr_bool _
  · rename_i s
    have := vr_str (Γ := Γ) (β := β) (w := w) (F := F) s.data.toList
    unfold sv at this
    rwa [arr_eq] at this
  · exact .of (x := SV.nils) rfl
  · exact .of (x := SV.nilp) rfl
  · exact .of (x := SV.nilf) rfl
  · exact .of (x := SV.nili) rfl
  · exact .of (x := SV.undef) trivial
theorem Sd.eo {ρ : Env} {β : Bt} {F : Nat → Prop} {w : World} (h : Sd C s ρ β F w) (x : Operand) : VR β w F (eo s x) (evO ρ x) := by
  cases x with
  | tmp t => exact h.vr t
  | const v => exact cst_ok v
  | global g => exact .of (x := SV.glb g 0) rfl
  | func f => exact VL.fn .nil .nil
theorem EffOk.frc {v : SV Γ} {k : SV Γ → Eff Γ} (h : EffOk C P o s (k v)) : EffOk C P o s (frc v k .stuck) := by
  rcases frc_eq (v := v) (k := k) (e := Eff.stuck) with e | e <;> rw [e]
  · exact h
  · trivial
theorem move_ok {x : Operand} (ho : o.op = .move x ∨ o.op = .assign x) : OpPure C P o s (eo s x) := by
  intro ρ β F w hs
  refine ⟨evO ρ x, ?_, hs.eo x⟩
  rcases ho with ho | ho
  · exact xr_move ho rfl
  · exact xr_assign ho rfl
section
variable {T T' : TypeId} {a b : Operand} (hC : CtOk P C)
include hC
theorem bin_ok {op : BinOp} (ho : o.op = .binOp op T a b T') : EffOk C P o s (bin C T op (eo s a) (eo s b)) := by
  have key : ∀ x y, eo s a = x → eo s b = y → EffOk C P o s (bin C T op x y) := by
    intro x y hx hy
    have two : ∀ {ρ : Env} {β : Bt} {F : Nat → Prop} {w : World}, Sd C s ρ β F w → VR β w F x (evO ρ a) ∧ VR β w F y (evO ρ b) := fun h => ⟨hx ▸ h.eo a, hy ▸ h.eo b⟩
    unfold bin
    split
    · rename_i k m k' n
      have two' : ∀ {ρ : Env} {β : Bt} {F : Nat → Prop} {w : World}, Sd C s ρ β F w → evO ρ a = .int k m ∧ evO ρ b = .int k' n := fun h => ⟨(two h).1.int, (two h).2.int⟩
      split
      · intro g ρ β F w hs; exact ⟨_, xr_shl ho (two' hs).1 (two' hs).2 g, vr_int _ _⟩
      · intro g ρ β F w hs; exact ⟨_, xr_shr ho (two' hs).1 (two' hs).2 g, vr_int _ _⟩
      · split
        · trivial
        · rename_i hk
          have := ik_eq hk
          subst this
          split
          · intro ρ β F w hs; exact ⟨_, xr_add ho (two' hs).1 (two' hs).2, vr_int _ _⟩
          · intro ρ β F w hs; exact ⟨_, xr_sub ho (two' hs).1 (two' hs).2, vr_int _ _⟩
          · intro ρ β F w hs; exact ⟨_, xr_mul ho (two' hs).1 (two' hs).2, vr_int _ _⟩
          · intro g ρ β F w hs; exact ⟨_, xr_quo ho (two' hs).1 (two' hs).2 g, vr_int _ _⟩
          · intro g ρ β F w hs; exact ⟨_, xr_rem ho (two' hs).1 (two' hs).2 g, vr_int _ _⟩
          · intro ρ β F w hs; exact ⟨_, xr_and ho (two' hs).1 (two' hs).2, vr_int _ _⟩
          · intro ρ β F w hs; exact ⟨_, xr_or ho (two' hs).1 (two' hs).2, vr_int _ _⟩
          · intro ρ β F w hs; exact ⟨_, xr_xor ho (two' hs).1 (two' hs).2, vr_int _ _⟩
          · intro ρ β F w hs; exact ⟨_, xr_andNot ho (two' hs).1 (two' hs).2, vr_int _ _⟩
          · intro ρ β F w hs; exact ⟨_, xr_lss ho (two' hs).1 (two' hs).2, vr_bool _⟩
          · intro ρ β F w hs; exact ⟨_, xr_leq ho (two' hs).1 (two' hs).2, vr_bool _⟩
          · intro ρ β F w hs; exact ⟨_, xr_gtr ho (two' hs).1 (two' hs).2, vr_bool _⟩
          · intro ρ β F w hs; exact ⟨_, xr_geq ho (two' hs).1 (two' hs).2, vr_bool _⟩
          · split
            · rename_i ht; intro ρ β F w hs; exact ⟨_, xr_eqI ho (hC.tb _ _ ht).u rfl (two' hs).1 (two' hs).2, vr_bool _⟩
            · trivial
          · split
            · rename_i ht; intro ρ β F w hs; exact ⟨_, xr_neI ho (hC.tb _ _ ht).u rfl (two' hs).1 (two' hs).2, vr_bool _⟩
            · trivial
          · trivial
    · rename_i m n
      have two' : ∀ {ρ : Env} {β : Bt} {F : Nat → Prop} {w : World}, Sd C s ρ β F w → evO ρ a = sv m ∧ evO ρ b = sv n := fun h => ⟨(two h).1.str, (two h).2.str⟩
      split
      · intro g ρ β F w hs; exact ⟨_, xr_addStr ho (two' hs).1 (two' hs).2 g, vr_str _⟩
      · split
        · rename_i ht; intro ρ β F w hs; exact ⟨_, xr_eqStr ho (hC.tb _ _ ht).u (two' hs).1 (two' hs).2, vr_bool _⟩
        · trivial
      · split
        · rename_i ht; intro ρ β F w hs; exact ⟨_, xr_neStr ho (hC.tb _ _ ht).u (two' hs).1 (two' hs).2, vr_bool _⟩
        · trivial
      · intro ρ β F w hs; exact ⟨_, xr_ltStr ho (two' hs).1 (two' hs).2, vr_bool _⟩
      · intro ρ β F w hs; exact ⟨_, xr_geStr ho (two' hs).1 (two' hs).2, vr_bool _⟩
      · trivial
    · rename_i m n
      have two' : ∀ {ρ : Env} {β : Bt} {F : Nat → Prop} {w : World}, Sd C s ρ β F w → evO ρ a = .bool m ∧ evO ρ b = .bool n := fun h => ⟨(two h).1.bool, (two h).2.bool⟩
      split
      · rename_i ht; intro ρ β F w hs; exact ⟨_, xr_eqB ho (hC.tb _ _ ht).u (two' hs).1 (two' hs).2, vr_bool _⟩
      · rename_i ht; intro ρ β F w hs; exact ⟨_, xr_neB ho (hC.tb _ _ ht).u (two' hs).1 (two' hs).2, vr_bool _⟩
      · trivial
    · rename_i s' m u n _
      split
      · trivial
      · rename_i n' hn
        have e := PV.cst_eq hn
        injection e with e1 e2
        subst e1
        obtain rfl := eq_of_heq e2
        split
        · rename_i hd; intro ρ β F w hs; exact ⟨_, (hC.eq _ _ _ hd _ _ _ _ _ _ _ (two hs).1 (two hs).2 ρ o a b T' rfl rfl).1 ho, vr_bool _⟩
        · rename_i hd; intro ρ β F w hs; exact ⟨_, (hC.eq _ _ _ hd _ _ _ _ _ _ _ (two hs).1 (two hs).2 ρ o a b T' rfl rfl).2 ho, vr_bool _⟩
        · trivial
    · have : ∀ {ρ : Env} {β : Bt} {F : Nat → Prop} {w : World}, Sd C s ρ β F w → ∃ A B, evO ρ a = .pointer A ∧ evO ρ b = .pointer B ∧ (A = none ∨ B = none) ∧ (A.isNone && B.isNone) = true :=
        fun h => ⟨none, none, (two h).1.nilp, (two h).2.nilp, .inl rfl, rfl⟩
      exact pe this ho
    · rename_i i j
      have : ∀ {ρ : Env} {β : Bt} {F : Nat → Prop} {w : World}, Sd C s ρ β F w → ∃ A B, evO ρ a = .pointer A ∧ evO ρ b = .pointer B ∧ (A = none ∨ B = none) ∧ (A.isNone && B.isNone) = false :=
        fun h => by obtain ⟨g, _, e⟩ := (two h).2.ptr; exact ⟨none, _, (two h).1.nilp, e, .inl rfl, rfl⟩
      exact pe this ho
    · rename_i i j
      have : ∀ {ρ : Env} {β : Bt} {F : Nat → Prop} {w : World}, Sd C s ρ β F w → ∃ A B, evO ρ a = .pointer A ∧ evO ρ b = .pointer B ∧ (A = none ∨ B = none) ∧ (A.isNone && B.isNone) = false :=
        fun h => by obtain ⟨g, _, e⟩ := (two h).1.ptr; exact ⟨_, none, e, (two h).2.nilp, .inr rfl, rfl⟩
      exact pe this ho
    · rename_i i j i' j'
      split
      · rename_i hb
        rw [Bool.and_eq_true] at hb
        have e1 := Nat.eq_of_beq_eq_true hb.1
        have e2 := Nat.eq_of_beq_eq_true hb.2
        subst e1 e2
        have he : ∀ {ρ : Env} {β : Bt} {F : Nat → Prop} {w : World}, Sd C s ρ β F w → ∃ g p, evO ρ a = .pointer (some ⟨g, p, none⟩) ∧ evO ρ b = .pointer (some ⟨g, p, none⟩) := fun h => by
          obtain ⟨g, h1, e⟩ := (two h).1.ptr
          obtain ⟨g', h2, e'⟩ := (two h).2.ptr
          rw [h1] at h2
          injection h2 with h2
          simp [pt] at h2
          subst h2
          exact ⟨g, _, e, e'⟩
        unfold bin.ptrEq
        split
        · rename_i E hT
          split
          · rename_i hE; intro ρ β F w hs; obtain ⟨g, p, e, e'⟩ := he hs; exact ⟨_, xr_eqPP ho (hC.tb _ _ hT).u (hC.tb _ _ hE).size e e', vr_bool _⟩
          · rename_i hE; intro ρ β F w hs; obtain ⟨g, p, e, e'⟩ := he hs; exact ⟨_, xr_nePP ho (hC.tb _ _ hT).u (hC.tb _ _ hE).size e e', vr_bool _⟩
          · trivial
        · trivial
      · trivial
    · trivial
  exact key _ _ rfl rfl
where
  pe {b' : Bool} {op : BinOp} (h : ∀ {ρ : Env} {β : Bt} {F : Nat → Prop} {w : World}, Sd C s ρ β F w → ∃ A B, evO ρ a = .pointer A ∧ evO ρ b = .pointer B ∧ (A = none ∨ B = none) ∧ (A.isNone && B.isNone) = b') (ho : o.op = .binOp op T a b T') : EffOk C P o s (bin.ptrEq C T op b') := by
    unfold bin.ptrEq
    split
    · rename_i E hT
      split
      · rename_i hE; intro ρ β F w hs; obtain ⟨A, B, e, e', h1, h2⟩ := h hs; exact ⟨_, xr_eqP ho (hC.tb _ _ hT).u e e' h1 h2, vr_bool _⟩
      · rename_i hE; intro ρ β F w hs; obtain ⟨A, B, e, e', h1, h2⟩ := h hs; exact ⟨_, xr_neP ho (hC.tb _ _ hT).u e e' h1 (by rw [h2]), vr_bool _⟩
      · trivial
    · trivial
  xr_nePP {ρ : Env} {w : World} {g p m E : Nat} (ho : o.op = .binOp .neq T a b T') (hT : P.underlying T = some (.pointer E)) (hs : szB P E = some m) (hx : evO ρ a = .pointer (some ⟨g, p, none⟩)) (hy : evO ρ b = .pointer (some ⟨g, p, none⟩)) : (execOp (evO ρ) o).run P w = .ok (.value (.bool (!true))) w := by
    have h : (Op.equal T (.pointer (some ⟨g, p, none⟩)) (.pointer (some ⟨g, p, none⟩))).run P w = .ok true w := run_eqSame 9999 _ hT hs
    simp only [execOp, ho, hx, hy, binOp]
    simp [eqGuard, h]
end
end
section
variable {Γ : Gm}
theorem inL_ok {α β : Type} {w : α → Nat} {f : α → Nat → Option β} : ∀ {l : List α} {o : Nat} {y : β}, inL w f l o = some y → ∃ pre p post o', l = pre ++ p :: post ∧ o = (pre.map w).sum + o' ∧ f p o' = some y
  | [], o, y, h => by simp [inL] at h
  | p :: l, o, y, h => by
    unfold inL at h
    split at h
    · exact ⟨[], p, l, o, rfl, by simp, h⟩
    · rename_i hb
      obtain ⟨pre, q, post, o', h1, h2, h3⟩ := inL_ok h
      have : w p ≤ o := by
        rcases Nat.lt_or_ge o (w p) with h | h
        · rw [blt_iff.2 h] at hb; cases hb
        · exact h
      exact ⟨p :: pre, q, post, o', by rw [h1]; rfl, by simp; omega, h3⟩
theorem setL_ok {α : Type} {w : α → Nat} {f : α → Nat → Option α} : ∀ {l : List α} {o : Nat} {m : List α}, setL w f l o = some m → ∃ pre p post o' q, l = pre ++ p :: post ∧ m = pre ++ q :: post ∧ o = (pre.map w).sum + o' ∧ f p o' = some q
  | [], o, y, h => by simp [setL] at h
  | p :: l, o, y, h => by
    unfold setL at h
    split at h
    · split at h
      · rename_i q hq
        cases h
        exact ⟨[], p, l, o, q, rfl, rfl, by simp, hq⟩
      · cases h
    · rename_i hb
      split at h
      · rename_i m hm
        cases h
        obtain ⟨pre, q, post, o', q', h1, h2, h3, h4⟩ := setL_ok hm
        have : w p ≤ o := by
          rcases Nat.lt_or_ge o (w p) with h | h
          · rw [blt_iff.2 h] at hb; cases hb
          · exact h
        exact ⟨p :: pre, q, post, o', q', by rw [h1]; rfl, by rw [h2]; rfl, by simp; omega, h4⟩
      · cases h
variable {w : World} {F : Nat → Prop} {β : Bt}
theorem sub_ok (hΓ : GmOk Γ) : ∀ (n : Nat) {p : PV Γ.toSg} {o : Nat} {u : Ty Γ.S} {y : el Γ.toSg u} {cs : List Value}, CL w F [p] cs → sub n p o u = some y → ∃ q m r, cs = q ++ (m ++ r) ∧ q.length = o ∧ CL w F [(⟨u, y⟩ : PV Γ.toSg)] m
  | 0, _, _, _, _, _, _, h => by simp [sub] at h
  | n + 1, p, o, u, y, cs, hc, h => by
    unfold sub at h
    split at h
    · rename_i hb
      rw [Bool.and_eq_true] at hb
      have e := Nat.eq_of_beq_eq_true hb.1
      subst e
      rw [PV.cst_eq h] at hc
      exact ⟨[], cs, [], by simp, rfl, hc⟩
    · split at h
      · rename_i s x
        obtain ⟨pre, p, post, o', h1, h2, h3⟩ := inL_ok h
        have hc := hc.st_inv
        rw [h1] at hc
        obtain ⟨a, b, rfl, ha, hb⟩ := hc.split
        obtain ⟨c, d, rfl, hc, hd⟩ := hb.cons_inv
        obtain ⟨q, m, r, rfl, hq, hm⟩ := sub_ok hΓ n hc h3
        exact ⟨a ++ q, m, r ++ d, by simp [List.append_assoc], by rw [List.length_append, ha.len hΓ, hq]; exact h2.symm, hm⟩
      · cases h
theorem putc_ok (hΓ : GmOk Γ) : ∀ (n : Nat) {p : PV Γ.toSg} {o : Nat} {x p' : PV Γ.toSg} {cs m : List Value}, CL w F [p] cs → putc n p o x = some p' → CL w F [x] m → p'.t = p.t ∧ ∃ cs', CL w F [p'] cs' ∧ Spl cs o m cs'
  | 0, _, _, _, _, _, _, _, h, _ => by simp [putc] at h
  | n + 1, p, o, x, p', cs, m, hc, h, hm => by
    unfold putc at h
    split at h
    · rename_i hb
      rw [Bool.and_eq_true] at hb
      have e := Nat.eq_of_beq_eq_true hb.1
      subst e
      cases h
      have et := Ty.eq_of_beq hb.2
      refine ⟨et, m, hm, Spl.whole ?_⟩
      rw [hc.len hΓ, hm.len hΓ]
      simp [szp, et]
    · split at h
      · rename_i s z
        split at h
        · rename_i l hl
          split at h
          · rename_i y hy
            cases h
            obtain ⟨pre, q, post, o', q', h1, h2, h3, h4⟩ := setL_ok hl
            have hc := hc.st_inv
            rw [h1] at hc
            obtain ⟨a, b, rfl, ha, hb⟩ := hc.split
            obtain ⟨c, d, rfl, hc, hd⟩ := hb.cons_inv
            obtain ⟨_, c', hc', hs⟩ := putc_ok hΓ n hc h4 hm
            refine ⟨rfl, a ++ (c' ++ d), ?_, ?_⟩
            · have hk : CL w F (Γ.toH _ y) (a ++ (c' ++ d)) := by rw [hΓ.of_to _ _ _ hy, h2]; exact ha.append (CL.append (a := [q']) hc' hd)
              have := CL.st (Γ := Γ) (p := ⟨.st _, y⟩) rfl hk CL.nil
              simpa using this
            · rw [h3]
              exact Spl.comp (ha.len hΓ) hs
          · cases h
        · cases h
      · cases h
theorem gaP_ok {N : Nat} (hΓ : GmOk Γ) : ∀ (n : Nat) {p p' : PV Γ.toSg} {o : Nat} {cs : List Value}, CL w F [p] cs → gaP N n p o = some p' → ∃ q m r, cs = q ++ (m ++ r) ∧ q.length = o ∧ CL w F [p'] m
  | 0, _, _, _, _, _, h => by simp [gaP] at h
  | n + 1, p, p', o, cs, hc, h => by
    unfold gaP at h
    split at h
    · split at h
      · rename_i hb
        have e := Nat.eq_of_beq_eq_true (Bool.and_eq_true _ _ ▸ hb).1
        subst e
        cases h
        exact ⟨[], cs, [], by simp, rfl, hc⟩
      · rename_i t x b hb
        split at h
        · rename_i hb2
          rw [Bool.and_eq_true] at hb2
          have hlt := blt_iff.1 hb2.2
          have hk : o / sz Γ t < x.l.length := by rw [x.h]; exact hlt
          have hc := hc.arr_inv
          have e1 : x.l.map (PV.mk t) = (x.l.take (o / sz Γ t)).map (PV.mk t) ++ PV.mk t (x.l[o / sz Γ t]) :: (x.l.drop (o / sz Γ t + 1)).map (PV.mk t) := by
            rw [← List.map_cons, ← List.map_append, ← List.drop_eq_getElem_cons hk, List.take_append_drop]
          rw [e1] at hc
          obtain ⟨a, b, rfl, ha, hb⟩ := hc.split
          obtain ⟨c, d, rfl, hc, hd⟩ := hb.cons_inv
          have e2 : Arr.get x ((o / sz Γ t : Nat) : Int) = x.l[o / sz Γ t] := by
            unfold Arr.get ix
            rw [Int.toNat_natCast, List.getD_eq_getElem?_getD, List.getElem?_eq_getElem hk]
            rfl
          rw [e2] at h
          obtain ⟨q, m, r, rfl, hq, hm⟩ := gaP_ok hΓ n hc h
          refine ⟨a ++ q, m, r ++ d, by simp [List.append_assoc], ?_, hm⟩
          rw [List.length_append, ha.len hΓ, hq, sum_map_sz, List.length_take, Nat.min_eq_left (Nat.le_of_lt hk), Nat.mul_comm]
          exact Nat.div_add_mod o _
        · cases h
    · obtain ⟨pre, p, post, o', h1, h2, h3⟩ := inL_ok h
      have hc := hc.st_inv
      rw [h1] at hc
      obtain ⟨a, b, rfl, ha, hb⟩ := hc.split
      obtain ⟨c, d, rfl, hc, hd⟩ := hb.cons_inv
      obtain ⟨q, m, r, rfl, hq, hm⟩ := gaP_ok hΓ n hc h3
      exact ⟨a ++ q, m, r ++ d, by simp [List.append_assoc], by rw [List.length_append, ha.len hΓ, hq]; exact h2.symm, hm⟩
    · cases h
theorem pk_cells {t : Ty Γ.S} {x : el Γ.toSg t} {cs : List Value} {u : Value} (hc : CL w F [(⟨t, x⟩ : PV Γ.toSg)] cs) (h : pk t cs u) : u.cells.toList = cs := by
  unfold pk at h
  split at h
  · subst h; simp [Value.cells]
  · subst h
    have := hc.one u (by simp)
    rw [oneCell_cells this]
theorem VR.cells_v {t : Ty Γ.S} {x : el Γ.toSg t} {u : Value} (h : VR β w F (SV.v t x) u) : CL w F [(⟨t, x⟩ : PV Γ.toSg)] u.cells.toList := by
  obtain ⟨cs, h1, h2⟩ := h.v
  rw [pk_cells h1 h2]; exact h1
theorem cells_one' {v : Value} (h : v.oneCell' = true) : v.cells.toList = [v] := by rw [oneCell_cells h]
theorem vw_one {n : Nat} : ∀ {c : List (Int × Int)} {v u : Value}, VwV n c v u → (∃ A l k, v = .slice A l k) → ∃ A l k, u = .slice A l k
  | [], v, u, h, hv => by cases h; exact hv
  | c :: cs, v, u, h, hv => by
    obtain ⟨_, _, _, h⟩ := h
    refine vw_one h ?_
    obtain ⟨A, l, k, rfl⟩ := hv
    exact ⟨_, _, _, rfl⟩
end
section
variable {Γ : Gm} {w : World} {F : Nat → Prop} {β : Bt}
theorem ysum_eq (f : SV Γ → Nat) : ∀ l : List (SV Γ), sum f l = (l.map f).sum
  | [] => rfl
  | a :: l => by rw [sum, ysum_eq f l]; simp
theorem stv_all (f : SV Γ → Bool) : ∀ l : List (SV Γ), stv.all f l = true → ∀ x ∈ l, f x = true
  | [], _, x, hx => by cases hx
  | a :: l, h, x, hx => by
    simp only [stv.all, Bool.and_eq_true] at h
    rcases List.mem_cons.1 hx with rfl | hx
    · exact h.1
    · exact stv_all f l h.2 x hx
theorem VA.one {x : SV Γ} {u : Value} (h : VA β w F x u) (hx : stv 9 x = true) (hv : ∀ t y, x ≠ .v t y) : u.oneCell' = true ∧ szv 9 x = 1 := by
  cases x <;> simp only [VA] at h
  case v t y => exact absurd rfl (hv t y)
  case ptr => obtain ⟨g, _, rfl⟩ := h; exact ⟨rfl, rfl⟩
  case pel => obtain ⟨_, _, _, _, _, _, _, rfl⟩ := h; exact ⟨rfl, rfl⟩
  case pea => obtain ⟨_, _, _, _, rfl⟩ := h; exact ⟨rfl, rfl⟩
  case pfz => obtain ⟨_, _, _, _, rfl⟩ := h; exact ⟨rfl, rfl⟩
  case nilp => subst h; exact ⟨rfl, rfl⟩
  case sl b n c =>
    obtain ⟨v0, h1, h3, h2⟩ := h
    obtain ⟨A, l, k, rfl⟩ := vw_one h2 h3
    exact ⟨rfl, rfl⟩
  case nils => subst h; exact ⟨rfl, rfl⟩
  case asl => obtain ⟨g, _, h2⟩ := h; obtain ⟨A, l, k, rfl⟩ := vw_one h2 ⟨_, _, _, rfl⟩; exact ⟨rfl, rfl⟩
  case asp => obtain ⟨g, c, _, rfl, _⟩ := h; exact ⟨rfl, rfl⟩
  case nilf => subst h; exact ⟨rfl, rfl⟩
  case nili => subst h; exact ⟨rfl, rfl⟩
  case glb => subst h; exact ⟨rfl, rfl⟩
  case pgl => obtain ⟨_, rfl⟩ := h; exact ⟨rfl, rfl⟩
  case undef => simp [stv] at hx
theorem VA.one9 {k : Nat} {x : SV Γ} {u : Value} (h : VA β w F x u) (hx : stv k x = true) (hv : ∀ t y, x ≠ .v t y) (m : Nat) : u.oneCell' = true ∧ szv m x = 1 := by
  have h1 := VA.one h (by cases x <;> first | rfl | exact h.elim | (cases k <;> simp [stv] at hx)) hv
  refine ⟨h1.1, ?_⟩
  cases x <;> first | rfl | exact h.elim | exact absurd rfl (hv _ _) | (cases m <;> rfl)
theorem szv_ok (hΓ : GmOk Γ) : ∀ (n : Nat) {x : SV Γ} {u : Value}, stv n x = true → VR β w F x u → ∀ m, n ≤ m → u.cells.toList.length = szv m x ∧ ∀ v ∈ u.cells.toList, v.oneCell' = true
  | 0, x, u, h, _, _, _ => by simp [stv] at h
  | n + 1, x, u, h, hr, m, hm => by
    obtain ⟨m, rfl⟩ : ∃ k, m = k + 1 := ⟨m - 1, by omega⟩
    cases x with
    | v t y =>
      have hc := hr.cells_v
      exact ⟨by rw [hc.len hΓ]; simp [szp, szv], hc.one⟩
    | agg l =>
      obtain ⟨us, hl, rfl⟩ := hr.agg
      have ha := stv_all _ _ (by simpa [stv] using h)
      simp only [Value.cells, szv, ysum_eq]
      clear hr h
      induction l generalizing us with
      | nil => cases hl; simp [cellsV]
      | cons a l ih =>
        obtain ⟨v, r, rfl, h1, h2⟩ := hl.cons_inv
        have i1 := szv_ok hΓ n (ha a (by simp)) h1 m (by omega)
        have i2 := ih _ h2 fun x hx => ha x (by simp [hx])
        constructor
        · have := i2.1
          simp only [cellsV, List.flatMap_cons, List.map_cons, List.sum_cons] at this ⊢
          simp only [List.toList_toArray, List.length_append] at this ⊢
          rw [i1.1, this]
        · intro v hv
          simp only [cellsV, List.flatMap_cons, List.mem_append] at hv
          rcases hv with hv | hv
          · exact i1.2 v hv
          · exact i2.2 v hv
    | tup l => simp [stv] at h
    | fn f l => obtain ⟨us, _, rfl⟩ := hr.fn; simp [Value.cells, szv, Value.oneCell']
    | ifc T x => obtain ⟨y, _, rfl⟩ := hr.ifc; simp [Value.cells, szv, Value.oneCell']
    | undef => simp [stv] at h
    | _ =>
      have h1 := VA.one9 (hr.va (by simp) (by simp) (by simp) (by simp)) h (by simp) (m + 1)
      rw [cells_one' h1.1, h1.2]
      simpa using h1.1
theorem aggv_ok (n : Nat) {x : SV Γ} {u : Value} (h : stv n x = true) (hr : VR β w F x u) : (aggv x = true → u = .agg u.cells) ∧ (aggv x = false → u.oneCell' = true ∧ u.cells.toList = [u]) := by
  cases x with
  | v t y =>
    obtain ⟨cs, h1, h2⟩ := hr.v
    unfold pk at h2
    cases ht : isAgg t <;> rw [ht] at h2 <;> simp only [aggv, ht]
    · subst h2
      have := h1.one u (by simp)
      simp [this, cells_one' this]
    · subst h2; simp [Value.cells]
  | agg l => obtain ⟨us, _, rfl⟩ := hr.agg; simp [aggv, Value.cells]
  | tup l => cases n <;> simp [stv] at h
  | fn f l => obtain ⟨us, _, rfl⟩ := hr.fn; simp [aggv, Value.cells, Value.oneCell']
  | ifc T x => obtain ⟨y, _, rfl⟩ := hr.ifc; simp [aggv, Value.cells, Value.oneCell']
  | undef => cases n <;> simp [stv] at h
  | _ =>
    have h1 := VA.one9 (hr.va (by simp) (by simp) (by simp) (by simp)) h (by simp) 9
    simp [aggv, h1.1, cells_one' h1.1]
theorem cellsV_append (a b : List Value) : cellsV (a ++ b) = cellsV a ++ cellsV b := by simp [cellsV]
theorem VL.split_at {l pre post : List (SV Γ)} {p : SV Γ} {us : List Value} (h : VL β w F l us) (e : l = pre ++ p :: post) : ∃ a b c, us = a ++ b :: c ∧ VL β w F pre a ∧ VR β w F p b ∧ VL β w F post c := by
  subst e
  induction pre generalizing us with
  | nil => obtain ⟨u, r, rfl, h1, h2⟩ := h.cons_inv; exact ⟨[], u, r, rfl, .nil, h1, h2⟩
  | cons x pre ih =>
    obtain ⟨u, r, rfl, h1, h2⟩ := h.cons_inv
    obtain ⟨a, b, c, rfl, h3, h4, h5⟩ := ih h2
    exact ⟨u :: a, b, c, rfl, .cons h1 h3, h4, h5⟩
theorem cellsV_len (hΓ : GmOk Γ) {n : Nat} : ∀ {l : List (SV Γ)} {us : List Value}, VL β w F l us → (∀ x ∈ l, stv n x = true) → ∀ m, n ≤ m → (cellsV us).length = (l.map (szv m)).sum
  | [], us, h, _, m, _ => by cases h; rfl
  | x :: l, us, h, ha, m, hm => by
    obtain ⟨u, r, rfl, h1, h2⟩ := h.cons_inv
    have i1 := (szv_ok hΓ n (ha x (by simp)) h1 m hm).1
    have i2 := cellsV_len hΓ h2 (fun y hy => ha y (by simp [hy])) m hm
    simp only [cellsV, List.flatMap_cons, List.map_cons, List.sum_cons, List.length_append] at i2 ⊢
    rw [i1, i2]
def pkB (b : Bool) (m : List Value) (v : Value) : Prop := match b with
  | true => v = .agg m.toArray
  | false => m = [v]
theorem stv_agg {n : Nat} {l : List (SV Γ)} (h : stv n (.agg l) = true) : ∃ k, n = k + 1 ∧ ∀ x ∈ l, stv k x = true := by
  cases n with
  | zero => simp [stv] at h
  | succ k => exact ⟨k, rfl, stv_all _ _ (by simpa [stv] using h)⟩
theorem rdc_ok {P : Program} {T : TypeId} {ti : TI Γ} (hΓ : GmOk Γ) (ht : TOk P T ti) : ∀ (n k : Nat) {c x : SV Γ} {u : Value} {o : Nat}, k ≤ 9 → stv k c = true → VR β w F c u → rdc ti n c o = some x → ∃ q m r v, u.cells.toList = q ++ (m ++ r) ∧ q.length = o ∧ m.length = ti.size ∧ pkB ti.agg m v ∧ VR β w F x v
  | 0, _, _, _, _, _, _, _, _, h => by simp [rdc] at h
  | n + 1, k, c, x, u, o, hk, hs, hr, h => by
    unfold rdc at h
    split at h
    · rename_i t y
      split at h
      · rename_i t' hc
        split at h
        · rename_i y' hy
          cases h
          obtain ⟨q, m, r, e, hq, hm⟩ := sub_ok hΓ 9 hr.cells_v hy
          obtain ⟨h1, h2⟩ := ht.code _ hc
          have hl : m.length = ti.size := by rw [hm.len hΓ]; simpa [szp] using h2
          cases ha : ti.agg with
          | true => exact ⟨q, m, r, .agg m.toArray, e, hq, hl, rfl, .of (x := SV.v t' y') ⟨m, hm, by rw [pk, h1, ha]⟩⟩
          | false =>
            have h1' := ht.one ha
            rw [h1'] at hl
            match m, hl with
            | [v], _ => exact ⟨q, [v], r, v, e, hq, by rw [h1']; rfl, rfl, .of (x := SV.v t' y') ⟨[v], hm, by rw [pk, h1, ha]⟩⟩
        · cases h
      · cases h
    · rename_i l
      obtain ⟨us, hl, rfl⟩ := hr.agg
      obtain ⟨k, rfl, ha⟩ := stv_agg hs
      split at h
      · rename_i hb
        cases h
        simp only [Bool.and_eq_true] at hb
        have e0 := Nat.eq_of_beq_eq_true hb.1
        subst e0
        refine ⟨[], cellsV us, [], .agg (cellsV us).toArray, by simp [Value.cells], rfl, ?_, by rw [hb.2.1]; exact rfl, hr⟩
        rw [cellsV_len hΓ hl ha 9 (by omega), ← Nat.eq_of_beq_eq_true hb.2.2, ysum_eq]
      · obtain ⟨pre, p, post, o', h1, h2, h3⟩ := inL_ok h
        obtain ⟨a, b, c, rfl, h4, h5, h6⟩ := hl.split_at h1
        obtain ⟨q, m, r, v, e, hq, hm, hp, hv⟩ := rdc_ok hΓ ht n k (by omega) (ha p (by simp [h1])) h5 h3
        refine ⟨cellsV a ++ q, m, r ++ cellsV c, v, ?_, ?_, hm, hp, hv⟩
        · have : cellsV (b :: c) = b.cells.toList ++ cellsV c := by simp [cellsV]
          rw [show (Value.agg (cellsV (a ++ b :: c)).toArray).cells.toList = cellsV (a ++ b :: c) by simp [Value.cells], cellsV_append, this, e]; simp [List.append_assoc]
        · rw [List.length_append, hq, h2, cellsV_len hΓ h4 (fun x hx => ha x (by simp [h1, hx])) 9 (by omega)]
    · split at h
      · cases h
      · rename_i hb
        cases h
        simp only [Bool.or_eq_false_iff, Bool.not_eq_false'] at hb
        have e0 := Nat.eq_of_beq_eq_true hb.2
        subst e0
        have hg := (aggv_ok k hs hr).2 (by
          cases c <;> first | rfl | (rename_i h1 h2; exact absurd rfl (h1 _ _)) | (rename_i h1 h2; exact absurd rfl (h2 _)) | rfl)
        exact ⟨[], [u], [], u, by rw [hg.2]; rfl, rfl, by rw [ht.one hb.1]; rfl, by rw [hb.1]; exact rfl, hr⟩
theorem arrAt_ok {N : Nat} (hΓ : GmOk Γ) : ∀ (n k : Nat) {c : SV Γ} {p : PV Γ.toSg} {u : Value} {o : Nat}, k ≤ 9 → stv k c = true → VR β w F c u → arrAt N n c o = some p → ∃ q m r, u.cells.toList = q ++ (m ++ r) ∧ q.length = o ∧ CL w F [p] m
  | 0, _, _, _, _, _, _, _, _, h => by simp [arrAt] at h
  | n + 1, k, c, p, u, o, hk, hs, hr, h => by
    unfold arrAt at h
    split at h
    · exact gaP_ok hΓ 9 hr.cells_v h
    · rename_i l
      obtain ⟨us, hl, rfl⟩ := hr.agg
      obtain ⟨k, rfl, ha⟩ := stv_agg hs
      obtain ⟨pre, p', post, o', h1, h2, h3⟩ := inL_ok h
      obtain ⟨a, b, c, rfl, h4, h5, h6⟩ := hl.split_at h1
      obtain ⟨q, m, r, e, hq, hm⟩ := arrAt_ok hΓ n k (by omega) (ha p' (by simp [h1])) h5 h3
      refine ⟨cellsV a ++ q, m, r ++ cellsV c, ?_, ?_, hm⟩
      · have : cellsV (b :: c) = b.cells.toList ++ cellsV c := by simp [cellsV]
        rw [show (Value.agg (cellsV (a ++ b :: c)).toArray).cells.toList = cellsV (a ++ b :: c) by simp [Value.cells], cellsV_append, this, e]; simp [List.append_assoc]
      · rw [List.length_append, hq, h2, cellsV_len hΓ h4 (fun x hx => ha x (by simp [h1, hx])) 9 (by omega)]
    · cases h
theorem vl_ofPV (hΓ : GmOk Γ) : ∀ {l : List (PV Γ.toSg)} {cs : List Value}, CL w F l cs → ∃ us, VL β w F (l.map ofPV) us ∧ cellsV us = cs
  | [], cs, h => by cases h; exact ⟨[], .nil, rfl⟩
  | p :: l, cs, h => by
    obtain ⟨m, r, rfl, h1, h2⟩ := h.cons_inv
    obtain ⟨us, h3, h4⟩ := vl_ofPV hΓ h2
    obtain ⟨u, hu⟩ : ∃ u, pk p.t m u := by
      unfold pk
      cases ha : isAgg p.t with
      | true => exact ⟨_, rfl⟩
      | false =>
        have hl : m.length = 1 := by
          rw [h1.len hΓ]
          obtain ⟨t, x⟩ := p
          cases t <;> simp [isAgg] at ha <;> simp [szp, sz]
        match m, hl with
        | [v], _ => exact ⟨v, rfl⟩
    have hv : VR β w F (ofPV p) u := .of (x := SV.v p.t p.x) ⟨m, h1, hu⟩
    refine ⟨u :: us, .cons hv h3, ?_⟩
    have := pk_cells h1 hu
    simp only [cellsV, List.flatMap_cons] at h4 ⊢
    rw [this, h4]
theorem stv_v (k : Nat) (t : Ty Γ.S) (x : el Γ.toSg t) : stv (k + 1) (SV.v (Γ := Γ) t x) = true := by simp [stv]
theorem wrc_ok (hΓ : GmOk Γ) : ∀ (n k : Nat) {c y c' : SV Γ} {u v : Value} {o : Nat}, k ≤ 9 → stv k c = true → VR β w F c u → stv 9 y = true → VR β w F y v → wrc n c o y = some c' →
    ∃ u', VR β w F c' u' ∧ Spl u.cells.toList o v.cells.toList u'.cells.toList
  | 0, _, _, _, _, _, _, _, _, _, _, _, _, h => by simp [wrc] at h
  | n + 1, k, c, y, c', u, v, o, hk, hs, hr, hy, hv, h => by
    have rec_ : ∀ (k : Nat) (l l' : List (SV Γ)) (us : List Value), k ≤ 9 → VL β w F l us → (∀ x ∈ l, stv k x = true) → setL (szv 9) (fun a o => wrc n a o y) l o = some l' →
        ∃ us', VL β w F l' us' ∧ Spl (cellsV us) o v.cells.toList (cellsV us') := by
      intro k l l' us hk hl ha h
      obtain ⟨pre, p, post, o', q, h1, h2, h3, h4⟩ := setL_ok h
      obtain ⟨a, b, c, rfl, i1, i2, i3⟩ := hl.split_at h1
      obtain ⟨b', j1, j3⟩ := wrc_ok hΓ n k hk (ha p (by simp [h1])) i2 hy hv h4
      refine ⟨a ++ b' :: c, ?_, ?_⟩
      · rw [h2]; exact i1.append (.cons j1 i3)
      · have e1 : cellsV (b :: c) = b.cells.toList ++ cellsV c := by simp [cellsV]
        have e2 : cellsV (b' :: c) = b'.cells.toList ++ cellsV c := by simp [cellsV]
        rw [cellsV_append, cellsV_append, e1, e2, h3]
        exact Spl.comp (cellsV_len hΓ i1 (fun x hx => ha x (by simp [h1, hx])) 9 (by omega)) j3
    have W : wrv (fun a o y => wrc n a o y) c o y = some c' → ∃ u', VR β w F c' u' ∧ Spl u.cells.toList o v.cells.toList u'.cells.toList := by
      intro h
      unfold wrv at h
      split at h
      · rename_i t x
        split at h
        · split at h
          · rename_i p hp
            cases h
            obtain ⟨et, cs', hc, hsp⟩ := putc_ok hΓ 9 hr.cells_v hp hv.cells_v
            have hpk : ∃ u', pk p.t cs' u' := by
              unfold pk
              cases ha : isAgg p.t with
              | true => exact ⟨_, rfl⟩
              | false =>
                have hl : cs'.length = 1 := by
                  rw [hc.len hΓ]
                  obtain ⟨t, x⟩ := p
                  cases t <;> simp [isAgg] at ha <;> simp [szp, sz]
                match cs', hl with
                | [v], _ => exact ⟨v, rfl⟩
            obtain ⟨u', hu'⟩ := hpk
            refine ⟨u', .of (x := SV.v p.t p.x) ⟨cs', hc, hu'⟩, ?_⟩
            rw [pk_cells hc hu']
            exact hsp
          · cases h
        · split at h
          · split at h
            · rename_i l hl
              cases h
              obtain ⟨us, i1, i2⟩ := vl_ofPV (β := β) hΓ hr.cells_v.st_inv
              obtain ⟨us', j1, j3⟩ := rec_ 9 _ _ us (by omega) i1 (fun x hx => by obtain ⟨p, _, rfl⟩ := List.mem_map.1 hx; exact stv_v _ _ _) hl
              refine ⟨_, VL.agg j1 .nil, ?_⟩
              rw [← i2]
              simpa [Value.cells] using j3
            · cases h
          · cases h
      · rename_i l
        obtain ⟨us, hl, rfl⟩ := hr.agg
        obtain ⟨k', rfl, ha⟩ := stv_agg hs
        split at h
        · rename_i l' hl'
          cases h
          obtain ⟨us', j1, j3⟩ := rec_ k' _ _ us (by omega) hl ha hl'
          exact ⟨_, VL.agg j1 .nil, by simpa [Value.cells] using j3⟩
        · cases h
      · cases h
    unfold wrc at h
    split at h
    · rename_i hb
      split at h
      · exact W h
      · exact W h
      · cases h
        simp only [Bool.and_eq_true] at hb
        have e0 := Nat.eq_of_beq_eq_true hb.1
        subst e0
        refine ⟨v, hv, Spl.whole ?_⟩
        rw [(szv_ok hΓ k hs hr 9 hk).1, (szv_ok hΓ 9 hy hv 9 (by omega)).1]
        exact Nat.eq_of_beq_eq_true hb.2.1
    · exact W h
end
section
variable {Γ : Gm} {P : Program} {C : Ct Γ} {s : St Γ} {o : Oper} {w : World} {F : Nat → Prop} {β : Bt} {ρ : Env}
theorem CL.sl_inv (hΓ : GmOk Γ) {t : Ty Γ.S} {xs : List (el Γ.toSg t)} {cs : List Value} (h : CL w F [(⟨.sl t, xs⟩ : PV Γ.toSg)] cs) : ∃ u css, cs = [u] ∧ Rd (kC (sz Γ t)) w u css ∧ CK w F t xs css := by
  cases h with
  | sln e h =>
    cases e; cases h
    exact ⟨_, [], rfl, ⟨_, _, rfl, Nat.zero_le _, fun h => by simp at h⟩, .nil⟩
  | sl e h1 h2 h3 h4 h =>
    cases e; cases h
    obtain ⟨css, hk, rfl⟩ := CK.of_flat hΓ h4
    refine ⟨_, css, rfl, ⟨_, _, by rw [hk.len], by rw [hk.len]; exact h1, fun _ => ⟨_, _, rfl, h3⟩⟩, hk⟩
  | int e h | bool e h | str e h => cases e
  | arr e h1 h => cases e
  | st e h1 h => cases e
theorem Rd.vlen {α : Type} {K : Kd α} {v : Value} {l : List α} (h : Rd K w v l) : vlen v = l.length := by
  obtain ⟨A, c, rfl⟩ := h.val; rfl
theorem vw_ok {t : Ty Γ.S} : ∀ {cs : List (Int × Int)} {v u : Value} {xs : List (el Γ.toSg t)} {css : List (Ck (sz Γ t))}, Rd (kC (sz Γ t)) w v css → CK w F t xs css → VwV (sz Γ t) cs v u → ∃ css', Rd (kC (sz Γ t)) w u css' ∧ CK w F t (vw xs cs) css'
  | [], v, u, xs, css, h, hk, hv => by cases hv; exact ⟨css, h, hk⟩
  | c :: cs, v, u, xs, css, h, hk, hv => by
    obtain ⟨h0, h1, h2, hv⟩ := hv
    rw [Rd.vlen h] at h2
    exact vw_ok (xs := cut xs c.1 c.2) (h.cut h0 h1 h2) (hk.cut _ _) hv
def chk (k : IntKind) (n : Int) : Ck 1 := ⟨[.int k n], rfl, fun v hv => by simp at hv; subst hv; rfl⟩
theorem rd_chk {v : Value} {k : IntKind} {l : List Int} (h : Rd (kI k) w v l) : Rd (kC 1) w v (l.map (chk k)) := by
  obtain ⟨A, c, rfl, h1, h2⟩ := h
  refine ⟨A, c, by rw [List.length_map], by rw [List.length_map]; exact h1, fun h => ?_⟩
  obtain ⟨b, o, e, ha⟩ := h2 (by simpa using h)
  refine ⟨b, o, e, ?_⟩
  have : (l.map (chk k)).flatMap (kC 1).enc = l.flatMap (kI k).enc := by simp [List.flatMap_map, chk, kC, kI]
  rw [this]; exact ha
theorem ck_chk {k : IntKind} {l : List Int} : CK (Γ := Γ) w F (.int k) l (l.map (chk k)) := by
  induction l with
  | nil => exact .nil
  | cons a l ih => exact .cons (.int rfl .nil) ih
theorem row_at' {g : Nat} {T : TypeId} {cs : Array Value} {z : Nat × Nat} (h : w.heap[g]? = some (.cells cs T z)) : At w g 0 cs.toList := by
  intro j v hj
  rw [Nat.zero_add]
  unfold World.cell?
  simp only [h]
  simpa using hj
theorem lvw_ok {n : Nat} {t : Ty Γ.S} {l : List (el Γ.toSg t)} {cs : List (Int × Int)} {r : LV Γ} (h : lvw n t l cs = some r) : n = sz Γ t ∧ r = ⟨t, vw l cs⟩ := by
  unfold lvw at h
  split at h
  · rename_i hb; cases h; exact ⟨Nat.eq_of_beq_eq_true hb, rfl⟩
  · cases h
theorem slc_ok (hΓ : GmOk Γ) (hs : Sd C s ρ β F w) {x : SV Γ} {u : Value} {r : LV Γ} (h : slc s x = some r) (hv : VR β w F x u) : ∃ css, Rd (kC (sz Γ r.t)) w u css ∧ CK w F r.t r.l css := by
  unfold slc at h
  split at h
  · cases h
    obtain ⟨cs, h1, h2⟩ := hv.v
    obtain ⟨u', css, rfl, h3, h4⟩ := h1.sl_inv hΓ
    simp [pk, isAgg] at h2
    subst h2
    exact ⟨css, h3, h4⟩
  · rename_i b n cs
    obtain ⟨v0, e0, _, hvw⟩ := hv.sl
    split at h
    · rename_i t E l hL
      obtain ⟨rfl, rfl⟩ := lvw_ok h
      obtain ⟨v, css, e, hO, hk⟩ := hs.hs.rr _ _ hL
      rw [e0] at e; cases e
      exact vw_ok hO.rd hk hvw
    · rename_i t l hL
      obtain ⟨rfl, rfl⟩ := lvw_ok h
      obtain ⟨v, e, hc⟩ := hs.hs.rr _ _ hL
      rw [e0] at e; cases e
      obtain ⟨u', css, e', h3, h4⟩ := hc.sl_inv hΓ
      cases e'
      exact vw_ok h3 h4 hvw
    · rename_i E l hL
      obtain ⟨h1, rfl⟩ := lvw_ok h
      obtain ⟨v, e, hO⟩ := hs.hs.rr _ _ hL
      rw [e0] at e; cases e
      rw [h1] at hvw
      exact vw_ok (t := .int .u8) (rd_chk hO.rd) ck_chk hvw
    · cases h
  · rename_i b o N n cs
    obtain ⟨g, e0, hvw⟩ := hv.asl
    split at h
    · rename_i T c hL
      split at h
      · rename_i m t a ha
        split at h
        · rename_i hb
          obtain ⟨rfl, rfl⟩ := lvw_ok h
          have hm := Nat.eq_of_beq_eq_true hb
          subst hm
          obtain ⟨g', u', e, hc, hst, hg⟩ := hs.hs.rr _ _ hL
          rw [e0] at e
          injection e with e
          simp [pt] at e
          subst e
          obtain ⟨q, mm, r', e1, hq, hcl⟩ := arrAt_ok hΓ 9 9 (by omega) hst hc ha
          obtain ⟨css, hk, rfl⟩ := CK.of_flat hΓ hcl.arr_inv
          have hat := (row_at' hg).sub e1 hq
          have hl : css.length = m := by rw [hk.len, a.h]
          exact vw_ok (css := css) ⟨some ⟨g, o, none⟩, m, by rw [hl], by rw [hl]; exact Nat.le_refl _, fun _ => ⟨g, o, rfl, by simpa using hat⟩⟩ hk hvw
        · cases h
      · cases h
    · cases h
  · cases h
section
variable {T : TypeId} {ti : TI Γ} {x : Operand} {g p : Nat} {m : List Value} {v : Value}
theorem load_core (ht : TOk P T ti) (ho : o.op = .load T x) (hx : evO ρ x = pt g p) (ha : At w g p m) (hm : m.length = ti.size) (hp : pkB ti.agg m v) : (execOp (evO ρ) o).run P w = .ok (.value v) w := by
  cases hg : ti.agg with
  | true =>
    rw [hg] at hp
    cases hp
    exact xr_loadA ho (by rw [ht.agg, hg]) (by rw [ht.size, hm]) hx ha
  | false =>
    rw [hg] at hp
    cases hp
    exact xr_load1 ho (by rw [ht.agg, hg]) hx ha
theorem sub_load (hΓ : GmOk Γ) (ht : TOk P T ti) (ho : o.op = .load T x) {pv : PV Γ.toSg} {cs : List Value} {q : Nat} {u : Ty Γ.S} {y : el Γ.toSg u} (hc : CL w F [pv] cs) (ha : At w g p cs) (hu : ti.code = some u) (hs : sub 9 pv q u = some y) (hx : evO ρ x = pt g (p + q)) :
    ∃ v, (execOp (evO ρ) o).run P w = .ok (.value v) w ∧ VR β w F (SV.v u y) v := by
  obtain ⟨q', m, r, rfl, hq, hm⟩ := sub_ok hΓ 9 hc hs
  obtain ⟨h1, h2⟩ := ht.code _ hu
  have hl : m.length = ti.size := by rw [hm.len hΓ]; simpa [szp] using h2
  have hat := ha.sub rfl hq
  cases hg : ti.agg with
  | true => exact ⟨_, load_core (v := .agg m.toArray) ht ho hx hat hl (by rw [hg]; exact rfl), .of (x := SV.v u y) ⟨m, hm, by rw [pk, h1, hg]⟩⟩
  | false =>
    have h1' := ht.one hg
    rw [h1'] at hl
    match m, hl with
    | [v], _ => exact ⟨v, load_core ht ho hx hat (by rw [h1']; rfl) (by rw [hg]; exact rfl), .of (x := SV.v u y) ⟨[v], hm, by rw [pk, h1, hg]⟩⟩
end
theorem CL.arr_get (hΓ : GmOk Γ) {n : Nat} {t : Ty Γ.S} {a : Arr n (el Γ.toSg t)} {cs : List Value} {g p : Nat} (h : CL w F [(⟨.arr n t, a⟩ : PV Γ.toSg)] cs) (ha : At w g p cs) {i : Int} (h0 : 0 ≤ i) (h1 : i < (n : Int)) :
    ∃ m, At w g (p + i.toNat * sz Γ t) m ∧ CL w F [(⟨t, Arr.get a i⟩ : PV Γ.toSg)] m := by
  obtain ⟨css, hk, rfl⟩ := CK.of_flat hΓ h.arr_inv
  have hl : css.length = n := by rw [hk.len, a.h]
  exact ⟨_, At.elem ha h0 (by rw [hl]; exact h1), hk.get h0 (by rw [a.h]; exact h1)⟩
theorem xLoad_ok (hC : CtOk P C) {T : TypeId} {x : Operand} (ho : o.op = .load T x) : EffOk C P o s (xLoad C s T (eo s x)) := by
  have key : ∀ px, eo s x = px → EffOk C P o s (xLoad C s T px) := by
    intro px hx
    have hv : ∀ {ρ : Env} {β : Bt} {F : Nat → Prop} {w : World}, Sd C s ρ β F w → VR β w F px (evO ρ x) := fun h => hx ▸ h.eo x
    unfold xLoad
    split
    · trivial
    · rename_i ti hT
      have ht := hC.tb _ _ hT
      split
      · rename_i b p
        split
        · rename_i T' c hL
          split
          · rename_i v hr
            refine EffOk.frc ?_
            intro ρ β F w hs
            obtain ⟨g, e0, e1⟩ := (hv hs).ptr
            obtain ⟨g', u, e, hc, hst, hg⟩ := hs.hs.rr _ _ hL
            rw [e0] at e; injection e with e; simp [pt] at e; subst e
            obtain ⟨q, m, r, v', e2, hq, hm, hp, hv'⟩ := rdc_ok hC.g ht 9 9 (by omega) hst hc hr
            have hat := (row_at' hg).sub e2 hq
            exact ⟨v', load_core ht ho e1 (by simpa using hat) hm hp, hv'⟩
          · trivial
        · trivial
      · rename_i b p N n i q
        split
        · rename_i T' c u hL hu
          split
          · rename_i m t a ha
            split
            · rename_i y hb hy
              rw [Bool.and_eq_true] at hb
              have e1 := Nat.eq_of_beq_eq_true hb.1
              have e2 := Nat.eq_of_beq_eq_true hb.2
              subst e1 e2
              intro ρ β F w hs
              obtain ⟨g, e0, h0, h1, e1⟩ := (hv hs).pea
              obtain ⟨g', u', e, hc, hst, hg⟩ := hs.hs.rr _ _ hL
              rw [e0] at e; injection e with e; simp [pt] at e; subst e
              obtain ⟨q', mm, r, e2, hq, hcl⟩ := arrAt_ok hC.g 9 9 (by omega) hst hc ha
              obtain ⟨cs, hat, hcl⟩ := hcl.arr_get hC.g ((row_at' hg).sub e2 hq) h0 h1
              refine sub_load hC.g ht ho hcl hat hu hy ?_
              rw [e1]; simp
            · trivial
          · trivial
        · trivial
      · rename_i b n c i q
        split
        · rename_i t l u hL hu
          split
          · rename_i y hb hy
            have e1 := Nat.eq_of_beq_eq_true hb
            subst e1
            intro ρ β F w hs
            obtain ⟨v0, v, e0, hsv, hvw, h0, h1, e1⟩ := (hv hs).pel
            have hvv : VR β w F (SV.sl (Γ := Γ) b (sz Γ t) c) v := .of (x := SV.sl b (sz Γ t) c) ⟨v0, e0, hsv, hvw⟩
            obtain ⟨css, hr, hk⟩ := slc_ok hC.g hs hL hvv
            rw [Rd.vlen hr, hk.len] at h1
            have hat := Rd.elem hr h0 (by rw [hk.len]; exact h1)
            exact sub_load hC.g ht ho (hk.get h0 h1) hat hu hy e1
          · trivial
        · trivial
      · rename_i t l i q
        split
        · rename_i u hu
          split
          · rename_i y hy
            intro ρ β F w hs
            obtain ⟨v, hc, h0, h1, e1⟩ := (hv hs).pfz
            obtain ⟨u', css, e, hr, hk⟩ := hc.sl_inv hC.g
            cases e
            have hat := Rd.elem hr h0 (by rw [hk.len]; exact h1)
            exact sub_load hC.g ht ho (hk.get h0 h1) hat hu hy e1
          · trivial
        · trivial
      · rename_i g p
        split
        · rename_i p u hg hu hb
          have e1 := Nat.eq_of_beq_eq_true hb
          subst e1
          split
          · rename_i y hy
            intro ρ β F w hs
            obtain ⟨_, cs, T', fz, hgg, hcl⟩ := hs.hs.gl _ _ hg
            exact sub_load hC.g ht ho hcl (row_at' hgg) hu hy (by simpa using (hv hs).glb)
          · trivial
        · trivial
      · rename_i g n i
        split
        · rename_i m t a u hg hu
          split
          · rename_i y hb hy
            have e1 := Nat.eq_of_beq_eq_true hb
            subst e1
            intro hlt ρ β F w hs
            obtain ⟨_, cs, T', fz, hgg, hcl⟩ := hs.hs.gl _ _ hg
            obtain ⟨h0, e1⟩ := (hv hs).pgl
            obtain ⟨cs', hat, hcl⟩ := hcl.arr_get hC.g (row_at' hgg) h0 hlt
            exact sub_load hC.g ht ho hcl hat hu hy (by simpa using e1)
          · trivial
        · trivial
      · trivial
  exact key _ rfl
end
section
variable {Γ : Gm} {P : Program} {C : Ct Γ} {s : St Γ} {o : Oper} {w : World} {F : Nat → Prop} {β : Bt} {ρ : Env}
theorem xFldA_ok (hC : CtOk P C) {T : TypeId} {x : Operand} {i : Nat} (ho : o.op = .fieldAddr T x i) : EffOk C P o s (xFldA C T (eo s x) i) := by
  have key : ∀ px, eo s x = px → EffOk C P o s (xFldA C T px i) := by
    intro px hx
    have hv : ∀ {ρ : Env} {β : Bt} {F : Nat → Prop} {w : World}, Sd C s ρ β F w → VR β w F px (evO ρ x) := fun h => hx ▸ h.eo x
    unfold xFldA
    split
    · rename_i fs _ _ _ _ hT
      split
      · rename_i f hf
        have hq : fldB P T i = some f.1 := by
          obtain ⟨_, pl, _, h⟩ := (hC.tb _ _ hT).u
          exact (h i f hf).1
        split
        · intro ρ β F w hs
          obtain ⟨g, e0, e1⟩ := (hv hs).ptr
          exact ⟨_, xr_fieldAddr ho hq e1, .of (x := SV.ptr _ _) ⟨g, e0, rfl⟩⟩
        · intro ρ β F w hs
          obtain ⟨g, e0, h0, h1, e1⟩ := (hv hs).pea
          exact ⟨_, xr_fieldAddr ho hq e1, .of (x := SV.pea _ _ _ _ _ _) ⟨g, e0, h0, h1, by simp [pt, Nat.add_assoc]⟩⟩
        · intro ρ β F w hs
          obtain ⟨v0, v, e0, hsv, hvw, h0, h1, e1⟩ := (hv hs).pel
          exact ⟨_, xr_fieldAddr ho hq e1, .of (x := SV.pel _ _ _ _ _) ⟨v0, v, e0, hsv, hvw, h0, h1, by simp [pt, Nat.add_assoc]⟩⟩
        · intro ρ β F w hs
          obtain ⟨v, hc, h0, h1, e1⟩ := (hv hs).pfz
          exact ⟨_, xr_fieldAddr ho hq e1, .of (x := SV.pfz _ _ _ _) ⟨v, hc, h0, h1, by simp [pt, Nat.add_assoc]⟩⟩
        · trivial
      · trivial
    · trivial
  exact key _ rfl
theorem xFld_ok (hC : CtOk P C) {T : TypeId} {x : Operand} {i : Nat} (ho : o.op = .field T x i) : EffOk C P o s (xFld C T (eo s x) i) := by
  have key : ∀ px, eo s x = px → EffOk C P o s (xFld C T px i) := by
    intro px hx
    unfold xFld
    split
    · rename_i fs _ _ _ _ hT
      split
      · rename_i f hf
        obtain ⟨⟨d, hd⟩, pl, _, h⟩ := (hC.tb _ _ hT).u
        obtain ⟨q1, _, q2⟩ := h i f hf
        split
        · rename_i ti hE
          have ht := hC.tb _ _ hE
          split
          · rename_i hb
            rw [Bool.and_eq_true] at hb
            split
            · rename_i v hr
              refine EffOk.frc ?_
              intro ρ β F w hs
              have hv : VR β w F px (evO ρ x) := hx ▸ hs.eo x
              obtain ⟨q, m, r, v', e2, hq, hm, hp, hv'⟩ := rdc_ok hC.g ht 9 9 (by omega) hb.1 hv hr
              have hag := (aggv_ok 9 hb.1 hv).1 hb.2
              refine ⟨v', ?_, hv'⟩
              unfold ftyB at q2
              unfold fldB at q1
              rw [hd] at q1 q2
              obtain ⟨fl, g1, g2⟩ := Option.map_eq_some_iff.1 q2
              have g3 : fl.offset = f.1 := by
                simp only [g1, Option.bind_some] at q1
                split at q1
                · split at q1
                  · cases q1
                  · exact Option.some.inj q1
                · cases q1
              have ha := ht.agg
              have hz := ht.size
              unfold aggB at ha
              unfold szB at hz
              obtain ⟨d', hu', hd'⟩ := Option.map_eq_some_iff.1 ha
              obtain ⟨inf, hinf, he⟩ := Option.map_eq_some_iff.1 hz
              have hagg : (Go.isAgg f.2).run P w = .ok ti.agg w := by
                unfold Go.isAgg
                rw [Sem.run_bind, run_underlying hu' w]
                rw [← hd']
                cases d' <;> rfl
              have hcs : (evO ρ x).cells.toList = q ++ (m ++ r) := e2
              have hcell : (evO ρ x).cells.extract f.1 (f.1 + inf.size) = m.toArray := by
                apply Array.toList_inj.1
                rw [Array.toList_extract, hcs, he, ← hm, ← hq, List.extract_eq_take_drop]
                simp
              have hxa : evO ρ x = .agg (evO ρ x).cells := by
                conv => lhs; rw [hag]
              simp only [execOp, ho]
              rw [hxa]
              cases hg : ti.agg with
              | true =>
                rw [hg] at hp hagg
                cases hp
                simp [Instr.field, run_underlying hd, g1, part, g2, hagg, g3, asAgg, sizeOf, typeInfo, hinf, hcell]
              | false =>
                rw [hg] at hp hagg
                have hp : m = [v'] := hp
                subst hp
                have h0 : (evO ρ x).cells[f.1]? = some v' := by
                  rw [← Array.getElem?_toList, hcs, ← hq]
                  simp
                simp [Instr.field, run_underlying hd, g1, part, g2, hagg, g3, asAgg, h0]
            · trivial
          · trivial
        · trivial
      · trivial
    · trivial
  exact key _ rfl
theorem xIdxA_ok (hC : CtOk P C) {T : TypeId} {x j : Operand} (ho : o.op = .indexAddr T x j) : EffOk C P o s (xIdxA C s T (eo s x) (eo s j)) := by
  have key : ∀ px pj, eo s x = px → eo s j = pj → EffOk C P o s (xIdxA C s T px pj) := by
    intro px pj hx hj
    have hv : ∀ {ρ : Env} {β : Bt} {F : Nat → Prop} {w : World}, Sd C s ρ β F w → VR β w F px (evO ρ x) := fun h => hx ▸ h.eo x
    have hw : ∀ {ρ : Env} {β : Bt} {F : Nat → Prop} {w : World}, Sd C s ρ β F w → VR β w F pj (evO ρ j) := fun h => hj ▸ h.eo j
    unfold xIdxA
    split
    · rename_i k i ti hT
      have ht := hC.tb _ _ hT
      split
      · rename_i N E hu
        have hu' := ht.u
        rw [hu] at hu'
        split
        · trivial
        · rename_i te hE
          have he := hC.tb _ _ hE
          split
          · rename_i b p
            split
            · intro g ρ β F w hs
              obtain ⟨g', e0, e1⟩ := (hv hs).ptr
              exact ⟨_, xr_indexA ho hu' he.size e1 (hw hs).int g.1 g.2, .of (x := SV.pea _ _ _ _ _ _) ⟨g', e0, g.1, g.2, rfl⟩⟩
            · split
              · rename_i k' _
                intro g ρ β F w hs
                obtain ⟨g', e0, e1⟩ := (hv hs).ptr
                exact ⟨_, xr_indexA ho hu' he.size e1 (hw hs).int g.1 g.2, .of (x := SV.ptr _ _) ⟨g', e0, rfl⟩⟩
              · trivial
          · rename_i gg p
            split
            · rename_i hb
              have e0 := Nat.eq_of_beq_eq_true hb
              subst e0
              intro g ρ β F w hs
              exact ⟨_, xr_indexA ho hu' he.size (hv hs).glb (hw hs).int g.1 g.2, .of (x := SV.pgl _ _ _) ⟨g.1, by simp [pt]⟩⟩
            · trivial
          · trivial
      · rename_i E hu
        have hu' := ht.u
        rw [hu] at hu'
        split
        · trivial
        · rename_i te hE
          have he := hC.tb _ _ hE
          split
          · split
            · rename_i b p m k' _
              split
              · rename_i hb
                intro g ρ β F w hs
                obtain ⟨g', c, e0, e1, _⟩ := (hv hs).asp
                exact ⟨_, xr_indexV k' ho hu' (by rw [he.size, Nat.eq_of_beq_eq_true hb]) e1 (hw hs).int g, .of (x := SV.ptr _ _) ⟨g', e0, rfl⟩⟩
              · trivial
            · trivial
          · rename_i t l hl
            split
            · trivial
            · rename_i hb
              have hsz : szB P E = some (sz Γ t) := by rw [he.size, Nat.eq_of_beq_eq_true hb]
              split
              · rename_i t' l'
                simp [slc] at hl
                obtain ⟨rfl, hl⟩ := hl
                obtain rfl := eq_of_heq hl
                intro g ρ β F w hs
                obtain ⟨cs, h1, h2⟩ := (hv hs).v
                obtain ⟨u', css, rfl, h3, h4⟩ := h1.sl_inv hC.g
                simp [pk, isAgg] at h2
                exact ⟨_, xr_indexR (v := evO ρ x) ho hu' hsz rfl (by rw [← h2]; exact h3) (hw hs).int g.1 (by rw [h4.len]; exact g.2), .of (x := SV.pfz _ _ _ _) ⟨evO ρ x, by rw [← h2]; exact h1, g.1, g.2, by simp [pt, kC]⟩⟩
              · rename_i b n c
                split
                · rename_i hb2
                  have e2 := Nat.eq_of_beq_eq_true hb2
                  have e3 := Nat.eq_of_beq_eq_true hb
                  intro g ρ β F w hs
                  obtain ⟨css, hr, hk⟩ := slc_ok hC.g hs hl (hv hs)
                  obtain ⟨v0, e0, hsv, hvw⟩ := (hv hs).sl
                  exact ⟨_, xr_indexR (v := evO ρ x) ho hu' hsz rfl hr (hw hs).int g.1 (by rw [hk.len]; exact g.2), .of (x := SV.pel _ _ _ _ _) ⟨v0, evO ρ x, e0, hsv, hvw, g.1, by rw [Rd.vlen hr, hk.len]; exact g.2, by simp [pt, kC, e2, e3]⟩⟩
                · trivial
              · rename_i b p N n
                split
                · rename_i hb2
                  have e2 := Nat.eq_of_beq_eq_true hb2
                  have e3 := Nat.eq_of_beq_eq_true hb
                  intro g ρ β F w hs
                  obtain ⟨css, hr, hk⟩ := slc_ok hC.g hs hl (hv hs)
                  obtain ⟨g', e0, hvw⟩ := (hv hs).asl
                  have hvw' : evO ρ x = .slice (some ⟨g', p, none⟩) N N := hvw
                  have hN : (N : Int) = l.length := by
                    have := Rd.vlen hr
                    rw [hvw', hk.len] at this
                    exact_mod_cast this
                  refine ⟨_, xr_indexR (v := evO ρ x) ho hu' hsz rfl hr (hw hs).int g.1 (by rw [hk.len]; exact g.2), .of (x := SV.pea _ _ _ _ _ _) ⟨g', e0, g.1, by rw [hN]; exact g.2, ?_⟩⟩
                  rw [hvw']
                  simp [pt, kC, e2, e3, sb, so]
                · trivial
              · trivial
      · trivial
    · trivial
  exact key _ _ rfl rfl
theorem xLen_ok (hC : CtOk P C) {T : TypeId} {x : Operand} (ho : o.op = .call ⟨.builtin .len, #[x], #[T]⟩) : EffOk C P o s (xLen C s T (eo s x)) := by
  have key : ∀ px, eo s x = px → EffOk C P o s (xLen C s T px) := by
    intro px hx
    have hv : ∀ {ρ : Env} {β : Bt} {F : Nat → Prop} {w : World}, Sd C s ρ β F w → VR β w F px (evO ρ x) := fun h => hx ▸ h.eo x
    unfold xLen
    split
    · rename_i hT
      split
      · intro ρ β F w hs; exact ⟨_, xr_lenStr ho (hC.tb _ _ hT).u (hv hs).str, vr_int _ _⟩
      · trivial
    · rename_i hT
      split
      · intro ρ β F w hs
        exact ⟨_, xr_lenV (n := 0) ho (hC.tb _ _ hT).u (hv hs).nils, vr_int _ _⟩
      · intro ρ β F w hs
        obtain ⟨g', c, e0, e1, _⟩ := (hv hs).asp
        exact ⟨_, xr_lenV ho (hC.tb _ _ hT).u e1, vr_int _ _⟩
      · split
        · rename_i t l hl
          intro ρ β F w hs
          obtain ⟨css, hr, hk⟩ := slc_ok hC.g hs hl (hv hs)
          have := xr_lenR (P := P) (w := w) ho (hC.tb _ _ hT).u rfl hr
          rw [hk.len] at this
          exact ⟨_, this, vr_int _ _⟩
        · trivial
    · trivial
  exact key _ rfl
theorem vwV_snoc {n : Nat} {c : Int × Int} : ∀ {cs : List (Int × Int)} {v u : Value}, VwV n cs v u → 0 ≤ c.1 → c.1 ≤ c.2 → c.2 ≤ (vlen u : Int) → VwV n (cs ++ [c]) v (subv n u c.1.toNat c.2.toNat)
  | [], v, u, h, h0, h1, h2 => by cases h; exact ⟨h0, h1, h2, rfl⟩
  | d :: cs, v, u, h, h0, h1, h2 => by
    obtain ⟨a, b, e, h⟩ := h
    exact ⟨a, b, e, vwV_snoc h h0 h1 h2⟩
theorem CL.sl_frz {t : Ty Γ.S} {xs : List (el Γ.toSg t)} {u : Value} (h : CL w F [(⟨.sl t, xs⟩ : PV Γ.toSg)] [u]) : 0 < xs.length → F (sb u) := by
  intro hx
  generalize hcs : [u] = cs at h
  cases h with
  | sln e h => cases e; simp at hx
  | sl e h1 h2 h3 h4 h => cases hcs; exact h2
  | int e h | bool e h | str e h => cases e
  | arr e h1 h => cases e
  | st e h1 h => cases e
theorem CL.mk_sl {t : Ty Γ.S} {xs : List (el Γ.toSg t)} {u : Value} {css : List (Ck (sz Γ t))} (hr : Rd (kC (sz Γ t)) w u css) (hk : CK w F t xs css) (hF : 0 < xs.length → F (sb u)) : CL w F [(⟨.sl t, xs⟩ : PV Γ.toSg)] [u] := by
  obtain ⟨A, c, rfl, h1, h2⟩ := hr
  rw [hk.len] at *
  rcases Nat.eq_zero_or_pos xs.length with h0 | h0
  · have := List.eq_nil_of_length_eq_zero h0
    subst this
    exact CL.sln rfl .nil
  · obtain ⟨b, o, rfl, ha⟩ := h2 h0
    exact CL.sl rfl h1 (hF h0) ha hk.flat .nil
theorem CL.sl_cut (hΓ : GmOk Γ) {t : Ty Γ.S} {xs : List (el Γ.toSg t)} {u : Value} (h : CL w F [(⟨.sl t, xs⟩ : PV Γ.toSg)] [u]) {a b : Int} (h0 : 0 ≤ a) (h1 : a ≤ b) (h2 : b ≤ (xs.length : Int)) : CL w F [(⟨.sl t, cut xs a b⟩ : PV Γ.toSg)] [subv (sz Γ t) u a.toNat b.toNat] := by
  obtain ⟨u', css, e, hr, hk⟩ := h.sl_inv hΓ
  cases e
  refine CL.mk_sl (hr.cut h0 h1 (by rw [hk.len]; exact h2)) (hk.cut a b) fun hp => ?_
  rw [sb_subv]
  exact h.sl_frz (cut_pos hp)
theorem bnd_ok {n : Int} {lo hi : Option (SV Γ)} {g : Option Gd} {a b : Int} (hn : 0 ≤ n) (h : bnd n lo hi = some (g, a, b)) :
    (lo = none → a = 0) ∧ (hi = none → b = n) ∧ (∀ x, lo = some x → ∃ k, x = .v (.int k) a) ∧ (∀ x, hi = some x → ∃ k, x = .v (.int k) b) ∧ ((∀ p, g = some p → p.p) → 0 ≤ a ∧ a ≤ b ∧ b ≤ n) := by
  unfold bnd at h
  split at h
  · cases h; exact ⟨fun _ => rfl, fun _ => rfl, by simp, by simp, fun _ => ⟨by omega, hn, Int.le_refl _⟩⟩
  · cases h; exact ⟨by simp, fun _ => rfl, fun x hx => by cases hx; exact ⟨_, rfl⟩, by simp, fun hg => by have := hg _ rfl; exact ⟨this.1, this.2, Int.le_refl _⟩⟩
  · cases h; exact ⟨fun _ => rfl, by simp, by simp, fun x hx => by cases hx; exact ⟨_, rfl⟩, fun hg => by have := hg _ rfl; exact ⟨by omega, this.1, this.2⟩⟩
  · cases h; exact ⟨by simp, by simp, fun x hx => by cases hx; exact ⟨_, rfl⟩, fun x hx => by cases hx; exact ⟨_, rfl⟩, fun hg => by have := hg _ rfl; exact this⟩
  · cases h
theorem ndr_ok {g : Option Gd} {v : SV Γ} (h : (∀ p, g = some p → p.p) → OpPure C P o s v) : EffOk C P o s (ndr g v) := by
  unfold ndr
  cases g with
  | none => exact h (by simp)
  | some p => exact fun hp => h fun q hq => by cases hq; exact hp
theorem xr_sliceArr_h {x b : Operand} {T E : TypeId} {g p len : Nat} {n : Nat} {k' : IntKind} {hi : Int} (ho : o.op = .slice T x none (some b) none) (hT : P.underlying T = some (.array len E)) (hs : szB P E = some n) (hx : evO ρ x = .pointer (some ⟨g, p, none⟩))
    (hb : evO ρ b = .int k' hi) (h1 : 0 ≤ hi) (h2 : hi ≤ (len : Int)) : (execOp (evO ρ) o).run P w = .ok (.value (subv n (.slice (some ⟨g, p, none⟩) len len) (0 : Int).toNat hi.toNat)) w := by
  unfold szB at hs
  obtain ⟨inf, hinf, he⟩ := Option.map_eq_some_iff.1 hs
  have e : ∀ (c : Prop) [Decidable c] (y z : Addr), (if c then some y else some z) = some (if c then y else z) := by
    intro c _ y z
    split <;> rfl
  simp [execOp, ho, hx, hb, Instr.sliceAt, Instr.sureAddr, run_underlying hT, Instr.sliceBounds, sizeOf, typeInfo, hinf, he, subv, sliceBound_ok h1 h2, e]
theorem xSlice_ok (hC : CtOk P C) {T : TypeId} {x : Operand} {lo hi : Option Operand} (ho : o.op = .slice T x lo hi none) : EffOk C P o s (xSlice C s T (eo s x) (lo.map (eo s)) (hi.map (eo s))) := by
  have key : ∀ px, eo s x = px → EffOk C P o s (xSlice C s T px (lo.map (eo s)) (hi.map (eo s))) := by
    intro px hx
    have hv : ∀ {ρ : Env} {β : Bt} {F : Nat → Prop} {w : World}, Sd C s ρ β F w → VR β w F px (evO ρ x) := fun h => hx ▸ h.eo x
    have num : ∀ {ρ : Env} {β : Bt} {F : Nat → Prop} {w : World} {y : Operand} {n : Int}, Sd C s ρ β F w → (∃ k, eo s y = .v (.int k) n) → ∃ k, evO ρ y = .int k n := by
      intro ρ β F w y n h ⟨k, e⟩
      have := h.eo y
      rw [e] at this
      exact ⟨k, this.int⟩
    unfold xSlice
    split
    · trivial
    · rename_i ti hT
      have ht := (hC.tb _ _ hT).u
      split
      · rename_i hu
        rw [hu] at ht
        split
        · rename_i l
          split
          · rename_i g a b hb
            obtain ⟨e1, e2, e3, e4, e5⟩ := bnd_ok (by omega) hb
            cases lo with
            | none =>
              cases hi with
              | none => trivial
              | some hi =>
                refine ndr_ok fun hg ρ β F w hs => ?_
                obtain ⟨k, ek⟩ := num hs (e4 _ rfl)
                obtain rfl := e1 rfl
                obtain ⟨i0, i1, i2⟩ := e5 hg
                exact ⟨_, xr_str_h ho ht (hv hs).str ek i1 i2, vr_str _⟩
            | some lo =>
              obtain ⟨k, ek⟩ := e3 _ rfl
              cases hi with
              | none =>
                refine ndr_ok fun hg ρ β F w hs => ?_
                obtain ⟨k, ek⟩ := num hs (e3 _ rfl)
                obtain rfl := e2 rfl
                obtain ⟨i0, i1, i2⟩ := e5 hg
                exact ⟨_, xr_str_l ho ht (hv hs).str ek i0 i1, vr_str _⟩
              | some hi =>
                refine ndr_ok fun hg ρ β F w hs => ?_
                obtain ⟨k, ek⟩ := num hs (e3 _ rfl)
                obtain ⟨k', ek'⟩ := num hs (e4 _ rfl)
                obtain ⟨i0, i1, i2⟩ := e5 hg
                exact ⟨_, xr_str_lh ho ht (hv hs).str ek ek' i0 i1 i2, vr_str _⟩
          · trivial
        · trivial
      · rename_i N E hu
        rw [hu] at ht
        split
        · rename_i te b p M n i q hE
          have hes := (hC.tb _ _ hE).size
          split
          · rename_i k
            cases lo with
            | some lo => trivial
            | none =>
              cases hi with
              | none =>
                intro ρ β F w hs
                obtain ⟨g', e0, _, _, e1⟩ := (hv hs).pea
                exact ⟨_, xr_sliceArr ho ht hes e1, .of (x := SV.asl _ _ _ _ _) ⟨g', e0, rfl⟩⟩
              | some hi =>
                show EffOk C P o s (match (generalizing := false) eo s hi with
                  | .v (.int _) h => Eff.need (gd (@LE.le Int _ 0 h ∧ @LE.le Int _ h N)) (.asl b (p + k * n + q) N te.size [(0, h)])
                  | _ => .stuck)
                split
                · rename_i k9 h9 ek9
                  intro hg ρ β F w hs
                  obtain ⟨g', e0, _, _, e1⟩ := (hv hs).pea
                  have ek := hs.eo hi
                  rw [ek9] at ek
                  refine ⟨_, xr_sliceArr_h ho ht hes e1 ek.int hg.1 hg.2, .of (x := SV.asl _ _ _ _ _) ⟨g', e0, ?_⟩⟩
                  exact ⟨Int.le_refl _, hg.1, hg.2, rfl⟩
                · trivial
          · trivial
        · rename_i te b p hE
          have hes := (hC.tb _ _ hE).size
          split
          · rename_i g u v hb
            obtain ⟨e1, e2, e3, e4, e5⟩ := bnd_ok (by omega) hb
            cases lo with
            | none =>
              cases hi with
              | none =>
                intro ρ β F w hs
                obtain ⟨g', e0, e1⟩ := (hv hs).ptr
                exact ⟨_, xr_sliceArr ho ht hes e1, .of (x := SV.asl _ _ _ _ _) ⟨g', e0, rfl⟩⟩
              | some hi =>
                obtain ⟨k9, ek9⟩ := e4 _ rfl
                show EffOk C P o s (match (generalizing := false) te.code, v with
                  | none, Int.ofNat m => match Nat.beq te.size 1 && (Nat.ble m N && Nat.blt 0 m) with
                    | true => Eff.ret (.asp b p m)
                    | false => .stuck
                  | _, _ => .stuck)
                split
                · rename_i m hcode
                  split
                  · rename_i hb
                    simp only [Bool.and_eq_true] at hb
                    intro ρ β F w hs
                    obtain ⟨g', e0, e1⟩ := (hv hs).ptr
                    have ek := hs.eo hi
                    rw [ek9] at ek
                    exact ⟨_, xr_sliceArrC m ho ht (by rw [hes, Nat.eq_of_beq_eq_true hb.1]) e1 ek.int hb.2.1 hb.2.2, .of (x := SV.asp _ _ _) ⟨g', _, e0, rfl, Nat.le_of_ble_eq_true hb.2.1⟩⟩
                  · trivial
                · trivial
            | some lo =>
              cases hi with
              | none => trivial
              | some hi =>
                refine ndr_ok fun hg ρ β F w hs => ?_
                obtain ⟨k, ek⟩ := num hs (e3 _ rfl)
                obtain ⟨k', ek'⟩ := num hs (e4 _ rfl)
                obtain ⟨i0, i1, i2⟩ := e5 hg
                obtain ⟨g', e0, e1⟩ := (hv hs).ptr
                exact ⟨_, xr_sliceArr_lh ho ht hes e1 ek ek' i0 i1 i2, .of (x := SV.asl _ _ _ _ _) ⟨g', e0, i0, i1, i2, rfl⟩⟩
          · trivial
        · rename_i te t l i q hE
          have hes := (hC.tb _ _ hE).size
          cases lo with
          | some lo => trivial
          | none =>
            cases hi with
            | some hi => trivial
            | none =>
              show EffOk C P o s (match (generalizing := false) gaP N 9 (⟨t, ix l i⟩ : PV Γ.toSg) q with
                | some ⟨.arr m t', a⟩ => match Nat.beq m N && Nat.beq (sz Γ t') te.size with
                  | true => Eff.ret (.v (.sl t') a.l)
                  | false => .stuck
                | _ => .stuck)
              split
              · rename_i m t' a hga
                split
                · rename_i hb
                  rw [Bool.and_eq_true] at hb
                  have e1 := Nat.eq_of_beq_eq_true hb.1
                  subst e1
                  intro ρ β F w hs
                  obtain ⟨v, hc, h0, h1, e1⟩ := (hv hs).pfz
                  obtain ⟨u', css, e, hr, hk⟩ := hc.sl_inv hC.g
                  cases e
                  have hat := Rd.elem hr h0 (by rw [hk.len]; exact h1)
                  obtain ⟨q', mm, r, e2, hq, hcl⟩ := gaP_ok hC.g 9 (hk.get h0 h1) hga
                  obtain ⟨css2, hk2, e3⟩ := CK.of_flat hC.g hcl.arr_inv
                  have hat2 : At w (sb v) (so v + i.toNat * sz Γ t + q) mm := by
                    have hat' : At w (sb v) (so v + i.toNat * sz Γ t) (q' ++ (mm ++ r)) := by rw [← e2]; exact hat
                    have := hat'.sub rfl hq
                    simpa using this
                  refine ⟨.slice (some ⟨sb v, so v + i.toNat * sz Γ t + q, none⟩) m m, xr_sliceArr ho ht hes e1, .of (x := SV.v (.sl t') a.l) ⟨_, ?_, rfl⟩⟩
                  have hfr : F (sb v) := hc.sl_frz (by omega)
                  have := CL.sl (Γ := Γ) (p := ⟨.sl t', a.l⟩) (xs := a.l) (b := sb v) (o := so v + i.toNat * sz Γ t + q) (c := m) rfl (by rw [a.h]; exact Nat.le_refl _) hfr hat2 hcl.arr_inv CL.nil
                  rw [a.h] at this
                  exact this
                · trivial
              · trivial
        · trivial
      · rename_i E hu
        rw [hu] at ht
        split
        · trivial
        · rename_i te hE
          have hes := (hC.tb _ _ hE).size
          split
          · trivial
          · split
            · trivial
            · rename_i t l hl
              split
              · rename_i g a b hz hb
                have hz' := Nat.eq_of_beq_eq_true hz
                obtain ⟨e1, e2, e3, e4, e5⟩ := bnd_ok (by omega) hb
                have hsz : szB P E = some (sz Γ t) := by rw [hes, hz']
                have run : (∀ p, g = some p → p.p) → ∀ {ρ : Env} {β : Bt} {F : Nat → Prop} {w : World}, Sd C s ρ β F w → (execOp (evO ρ) o).run P w = .ok (.value (subv (sz Γ t) (evO ρ x) a.toNat b.toNat)) w := by
                  intro hg ρ β F w hs
                  obtain ⟨css, hr, hk⟩ := slc_ok hC.g hs hl (hv hs)
                  obtain ⟨i0, i1, i2⟩ := e5 hg
                  have hlen : css.length = l.length := hk.len
                  cases lo with
                  | none =>
                    obtain rfl := e1 rfl
                    cases hi with
                    | none =>
                      obtain rfl := e2 rfl
                      have := xr_slice_n (P := P) (w := w) ho ht hsz rfl hr
                      rw [hlen] at this
                      exact this
                    | some hi =>
                      obtain ⟨k, ek⟩ := num hs (e4 _ rfl)
                      exact xr_slice_h ho ht hsz rfl hr ek i1 (by rw [hlen]; exact i2)
                  | some lo =>
                    obtain ⟨k, ek⟩ := num hs (e3 _ rfl)
                    cases hi with
                    | none =>
                      obtain rfl := e2 rfl
                      have := xr_slice_l (P := P) (w := w) ho ht hsz rfl hr ek i0 (by rw [hlen]; exact i1)
                      rw [hlen] at this
                      exact this
                    | some hi =>
                      obtain ⟨k', ek'⟩ := num hs (e4 _ rfl)
                      exact xr_slice_lh ho ht hsz rfl hr ek ek' i0 i1 (by rw [hlen]; exact i2)
                split
                · simp [slc] at hl
                  obtain ⟨rfl, hl⟩ := hl
                  obtain rfl := eq_of_heq hl
                  refine ndr_ok fun hg ρ β F w hs => ?_
                  obtain ⟨i0, i1, i2⟩ := e5 hg
                  obtain ⟨cs, h1, h2⟩ := (hv hs).v
                  obtain ⟨u', css, rfl, h3, h4⟩ := h1.sl_inv hC.g
                  simp [pk, isAgg] at h2
                  subst h2
                  exact ⟨_, run hg hs, .of (x := SV.v _ _) ⟨_, h1.sl_cut hC.g i0 i1 i2, by simp [pk, isAgg]⟩⟩
                · rename_i i n c _
                  split
                  · rename_i hn
                    have hn' := Nat.eq_of_beq_eq_true hn
                    refine ndr_ok fun hg ρ β F w hs => ?_
                    obtain ⟨i0, i1, i2⟩ := e5 hg
                    obtain ⟨css, hr, hk⟩ := slc_ok hC.g hs hl (hv hs)
                    obtain ⟨v0, e0, hsv, hvw⟩ := (hv hs).sl
                    have e6 : n = sz Γ t := by rw [hn', hz']
                    subst e6
                    exact ⟨_, run hg hs, .of (x := SV.sl _ _ _) ⟨v0, e0, hsv, vwV_snoc hvw i0 i1 (by rw [Rd.vlen hr, hk.len]; exact i2)⟩⟩
                  · trivial
                · rename_i i p N n c _
                  split
                  · rename_i hn
                    have hn' := Nat.eq_of_beq_eq_true hn
                    refine ndr_ok fun hg ρ β F w hs => ?_
                    obtain ⟨i0, i1, i2⟩ := e5 hg
                    obtain ⟨css, hr, hk⟩ := slc_ok hC.g hs hl (hv hs)
                    obtain ⟨g', e0, hvw⟩ := (hv hs).asl
                    have e6 : n = sz Γ t := by rw [hn', hz']
                    subst e6
                    exact ⟨_, run hg hs, .of (x := SV.asl _ _ _ _ _) ⟨g', e0, vwV_snoc hvw i0 i1 (by rw [Rd.vlen hr, hk.len]; exact i2)⟩⟩
                  · trivial
                · trivial
              · trivial
      · trivial
  exact key _ rfl
end
section
variable {Γ : Gm} {P : Program} {C : Ct Γ} {s : St Γ} {o : Oper} {w w' : World} {F : Nat → Prop} {β : Bt} {ρ : Env}
theorem upd_same {α : Type} (f : Nat → α) (d : Nat) (v : α) : upd f d v d = v := by simp [upd]
theorem upd_ne {α : Type} (f : Nat → α) {d t : Nat} (v : α) (h : t ≠ d) : upd f d v t = f t := by
  have : Nat.beq t d = false := by
    cases hb : Nat.beq t d
    · rfl
    · exact absurd (Nat.eq_of_beq_eq_true hb) h
  simp [upd, this]
def Left (C : Ct Γ) (s : St Γ) (β : Bt) (F : Nat → Prop) (w : World) (v : SV Γ) (s' : St Γ) (u : Value) (w' : World) : Prop :=
  ∃ β' F', Evo β F w (fun g => ∃ b, own β s.L b g) β' F' w' ∧ HS C β' F' w' s'.L ∧ (∀ b, s'.nx ≤ b → β' b = none) ∧ VR β' w' F' v u ∧ (∀ b g, own β' s'.L b g → (∃ b, own β s.L b g) ∨ w.heap.size ≤ g)
theorem gl_mono (h : HS C β F w s.L) {β' : Bt} {F' : Nat → Prop} (hF : ∀ k, F k → F' k) (hw : ∀ k, F k → w'.heap[k]? = w.heap[k]?) : ∀ g p, C.gl g = some p → F' g ∧ ∃ cs T fz, w'.heap[g]? = some (.cells cs T fz) ∧ CL w' F' [p] cs.toList := by
  intro g p hg
  obtain ⟨h1, cs, T, fz, h2, h3⟩ := h.gl g p hg
  exact ⟨hF g h1, cs, T, fz, by rw [hw g h1, h2], h3.mono hF hw⟩
theorem gr_same (hs : HS C β F w s.L) (gr : Gr w w') : ∀ k, F k → w'.heap[k]? = w.heap[k]? := fun k hk => gr.blk k (hs.fsz k hk) (fun h => h)
theorem new_ok (hs : Sd C s ρ β F w) (gr : Gr w w') {r : Res Γ} {v0 : Value} {sv : SV Γ} {u : Value} {ρ' : Nat → SV Γ}
    (hr : ∀ β' : Bt, (∀ b v, β b = some v → β' b = some v) → β' s.nx = some v0 → RR β' w' F s.nx r) (hb : ∀ g, blk v0 = some g → w.heap.size ≤ g) (hu : ∀ β' : Bt, (∀ b v, β b = some v → β' b = some v) → β' s.nx = some v0 → VR β' w' F sv u) :
    Left C s β F w sv ⟨ρ', upd s.L s.nx (some r), Nat.succ s.nx⟩ u w' := by
  have hext : ∀ b v, β b = some v → upd β s.nx (some v0) b = some v := by
    intro b v h
    have : b ≠ s.nx := by rintro rfl; rw [hs.nx s.nx (Nat.le_refl _)] at h; cases h
    rw [upd_ne _ _ this, h]
  have hown : ∀ b g, own (upd β s.nx (some v0)) (upd s.L s.nx (some r)) b g → (b = s.nx ∧ w.heap.size ≤ g) ∨ (b ≠ s.nx ∧ own β s.L b g) := by
    rintro b g ⟨r', v, h1, h2, h3, h4⟩
    by_cases e : b = s.nx
    · subst e
      rw [upd_same] at h3
      cases h3
      exact .inl ⟨rfl, hb g h4⟩
    · rw [upd_ne _ _ e] at h1 h3
      exact .inr ⟨e, r', v, h1, h2, h3, h4⟩
  refine ⟨upd β s.nx (some v0), F, ⟨hext, fun _ h => h, gr.mono fun _ h => h.elim, fun _ h => .inl h⟩, ⟨?_, ?_, ?_, ?_, ?_⟩, ?_, hu _ hext (upd_same _ _ _), ?_⟩
  · intro b r' hL
    change upd s.L s.nx (some r) b = some r' at hL
    by_cases e : b = s.nx
    · subst e
      rw [upd_same] at hL
      cases hL
      exact hr _ hext (upd_same _ _ _)
    · rw [upd_ne _ _ e] at hL
      exact (hs.hs.rr b r' hL).mono hext (fun _ h => h) (gr_same hs.hs gr) gr (fun _ _ _ _ _ h => h)
  · intro b b' g h1 h2
    rcases hown b g h1 with ⟨e1, l1⟩ | ⟨e1, l1⟩ <;> rcases hown b' g h2 with ⟨e2, l2⟩ | ⟨e2, l2⟩
    · rw [e1, e2]
    · have := own_lt hs.hs l2; omega
    · have := own_lt hs.hs l1; omega
    · exact hs.hs.sep _ _ _ l1 l2
  · intro b g h1 hF
    rcases hown b g h1 with ⟨e1, l1⟩ | ⟨e1, l1⟩
    · have := hs.hs.fsz g hF; omega
    · exact hs.hs.dis _ _ l1 hF
  · exact fun k hk => Nat.lt_of_lt_of_le (hs.hs.fsz k hk) gr.size
  · exact gl_mono (β' := β) hs.hs (fun _ h => h) (gr_same hs.hs gr)
  · intro b hbb
    have : b ≠ s.nx := by have := Nat.lt_of_succ_le hbb; omega
    rw [upd_ne _ _ this]
    exact hs.nx b (Nat.le_of_succ_le hbb)
  · intro b g h1
    rcases hown b g h1 with ⟨e1, l1⟩ | ⟨e1, l1⟩
    · exact .inr l1
    · exact .inl ⟨b, l1⟩
theorem wr_ok (hs : Sd C s ρ β F w) {b : Nat} {r r' : Res Γ} {v0 : Value} {sv : SV Γ} {u : Value} (hL : s.L b = some r) (hm : mtb r = true) (h0 : β b = some v0) (fr : Fr (fun j => blk v0 = some j) w w') (hr : RR β w' F b r')
    (hu : VR β w' F sv u) : Left C s β F w sv (s.res b r') u w' := by
  have hown : ∀ b' g, own β (s.res b r').L b' g → own β s.L b' g := by
    rintro b' g ⟨q, v, h1, h2, h3, h4⟩
    by_cases e : b' = b
    · subst e; exact ⟨r, v, hL, hm, h3, h4⟩
    · simp only [St.res] at h1; rw [upd_ne _ _ e] at h1; exact ⟨q, v, h1, h2, h3, h4⟩
  have hme : ∀ j, blk v0 = some j → own β s.L b j := fun j hj => ⟨r, v0, hL, hm, h0, hj⟩
  have same : ∀ k, F k → w'.heap[k]? = w.heap[k]? := fun k hk => fr.blk k (hs.hs.fsz k hk) (fun h => hs.hs.dis b k (hme k h) hk)
  refine ⟨β, F, ⟨fun _ _ h => h, fun _ h => h, fr.mono fun j hj => ⟨b, hme j hj⟩, fun _ h => .inl h⟩, ⟨?_, ?_, ?_, ?_, ?_⟩, hs.nx, hu, fun b' g h => .inl ⟨b', hown b' g h⟩⟩
  · intro b' q hq
    by_cases e : b' = b
    · subst e
      simp only [St.res] at hq
      rw [upd_same] at hq
      cases hq
      exact hr
    · simp only [St.res] at hq
      rw [upd_ne _ _ e] at hq
      exact (hs.hs.rr b' q hq).mono (fun _ _ h => h) (fun _ h => h) same fr (fun v g h1 h2 h3 h4 => e (hs.hs.sep b' b g ⟨q, v, hq, h1, h2, h3⟩ (hme g h4)))
  · exact fun b1 b2 g h1 h2 => hs.hs.sep b1 b2 g (hown _ _ h1) (hown _ _ h2)
  · exact fun b' g h1 => hs.hs.dis b' g (hown _ _ h1)
  · exact fun k hk => Nat.lt_of_lt_of_le (hs.hs.fsz k hk) fr.size
  · exact gl_mono (β' := β) hs.hs (fun _ h => h) same
theorem ob_blk {v : Value} {k : Nat} (h : v.ownBlock = some k) : blk v = some k := by
  cases v <;> simp [Value.ownBlock] at h
  rename_i a n c; cases a <;> simp [Value.ownBlock] at h; simp [blk, h]
theorem blk_ob {v : Value} {k : Nat} (hv : ∃ A l c, v = .slice A l c) (h : blk v = some k) : v.ownBlock = some k := by
  obtain ⟨A, l, c, rfl⟩ := hv
  cases A <;> simp [blk] at h; simp [Value.ownBlock, h]
theorem app_ok (hs : Sd C s ρ β F w) {L : Nat → Option (Res Γ)} {W : Nat → Prop} {r : Res Γ} {v0 : Value} {sv : SV Γ} {u : Value}
    (hL : ∀ b q, L b = some q → s.L b = some q) (hW : ∀ j, W j → ∃ b, own β s.L b j) (hLW : ∀ b j, own β L b j → ¬ W j) (fr : Fr W w w')
    (hr : ∀ β' : Bt, (∀ b v, β b = some v → β' b = some v) → β' s.nx = some v0 → RR β' w' F s.nx r) (hb : ∀ g, blk v0 = some g → w.heap.size ≤ g ∨ W g) (hu : ∀ β' : Bt, (∀ b v, β b = some v → β' b = some v) → β' s.nx = some v0 → VR β' w' F sv u) :
    Left C s β F w sv ⟨s.ρ, upd L s.nx (some r), Nat.succ s.nx⟩ u w' := by
  have hext : ∀ b v, β b = some v → upd β s.nx (some v0) b = some v := by
    intro b v h
    have : b ≠ s.nx := by rintro rfl; rw [hs.nx s.nx (Nat.le_refl _)] at h; cases h
    rw [upd_ne _ _ this, h]
  have hLo : ∀ b g, own β L b g → own β s.L b g := fun b g ⟨q, v, h1, h2⟩ => ⟨q, v, hL b q h1, h2⟩
  have hown : ∀ b g, own (upd β s.nx (some v0)) (upd L s.nx (some r)) b g → (b = s.nx ∧ (w.heap.size ≤ g ∨ W g)) ∨ (b ≠ s.nx ∧ own β L b g) := by
    rintro b g ⟨r', v, h1, h2, h3, h4⟩
    by_cases e : b = s.nx
    · subst e
      rw [upd_same] at h3
      cases h3
      exact .inl ⟨rfl, hb g h4⟩
    · rw [upd_ne _ _ e] at h1 h3
      exact .inr ⟨e, r', v, h1, h2, h3, h4⟩
  have same : ∀ k, F k → w'.heap[k]? = w.heap[k]? := fun k hk => fr.blk k (hs.hs.fsz k hk) (fun h => by obtain ⟨b, hb⟩ := hW k h; exact hs.hs.dis b k hb hk)
  refine ⟨upd β s.nx (some v0), F, ⟨hext, fun _ h => h, fr.mono hW, fun _ h => .inl h⟩, ⟨?_, ?_, ?_, ?_, ?_⟩, ?_, hu _ hext (upd_same _ _ _), ?_⟩
  · intro b r' hLb
    change upd L s.nx (some r) b = some r' at hLb
    by_cases e : b = s.nx
    · subst e
      rw [upd_same] at hLb
      cases hLb
      exact hr _ hext (upd_same _ _ _)
    · rw [upd_ne _ _ e] at hLb
      exact (hs.hs.rr b r' (hL b r' hLb)).mono hext (fun _ h => h) same fr (fun v g h1 h2 h3 => hLW b g ⟨r', v, hLb, h1, h2, h3⟩)
  · intro b b' g h1 h2
    rcases hown b g h1 with ⟨e1, l1⟩ | ⟨e1, l1⟩ <;> rcases hown b' g h2 with ⟨e2, l2⟩ | ⟨e2, l2⟩
    · rw [e1, e2]
    · rcases l1 with l1 | l1
      · have := own_lt hs.hs (hLo _ _ l2); omega
      · exact absurd l1 (hLW _ _ l2)
    · rcases l2 with l2 | l2
      · have := own_lt hs.hs (hLo _ _ l1); omega
      · exact absurd l2 (hLW _ _ l1)
    · exact hs.hs.sep _ _ _ (hLo _ _ l1) (hLo _ _ l2)
  · intro b g h1 hF
    rcases hown b g h1 with ⟨e1, l1⟩ | ⟨e1, l1⟩
    · rcases l1 with l1 | l1
      · have := hs.hs.fsz g hF; omega
      · obtain ⟨b', hb'⟩ := hW g l1; exact hs.hs.dis _ _ hb' hF
    · exact hs.hs.dis _ _ (hLo _ _ l1) hF
  · exact fun k hk => Nat.lt_of_lt_of_le (hs.hs.fsz k hk) fr.size
  · exact gl_mono (β' := β) hs.hs (fun _ h => h) same
  · intro b hbb
    have : b ≠ s.nx := by have := Nat.lt_of_succ_le hbb; omega
    rw [upd_ne _ _ this]
    exact hs.nx b (Nat.le_of_succ_le hbb)
  · intro b g h1
    rcases hown b g h1 with ⟨e1, l1⟩ | ⟨e1, l1⟩
    · rcases l1 with l1 | l1
      · exact .inr l1
      · exact .inl (hW g l1)
    · exact .inl ⟨b, hLo _ _ l1⟩
theorem alloc_ok (hC : CtOk P C) {T : TypeId} {ti : TI Γ} (ho : o.op = .alloc T) (hT : C.tb T = some ti) (hz : stv 9 ti.zero = true) : OpOk C P o s (.ptr s.nx 0) (s.new (.box T ti.zero)) := by
  intro ρ β F w hs
  obtain ⟨z, bs, h1, _, h2, h3, h4⟩ := (hC.tb _ _ hT).zero
  obtain ⟨i, hi, hiz, _, _⟩ := elB_parts h1
  refine opv_val (w' := w.alloc (.cells z.cells T)) (v := pt w.heap.size 0) (by simp [execOp, ho, Instr.alloc, zeroValue, typeInfo, hi, hiz, newVar, newRow, pt]) ?_
  exact new_ok hs (Fr.alloc w _) (v0 := pt w.heap.size 0) (fun β' _ hb => ⟨_, z, hb, h2 _ _ _, hz, heap_alloc_new w _⟩) (fun g hg => by simp [blk, pt] at hg; omega) (fun β' _ hb => .of (x := SV.ptr _ _) ⟨_, hb, rfl⟩)
theorem box_ok {T : TypeId} {x : Operand} (ho : o.op = .box T x) (hz : stv 9 (eo s x) = true) : OpOk C P o s (.ptr s.nx 0) (s.new (.box T (eo s x))) := by
  intro ρ β F w hs
  refine opv_val (w' := w.alloc (.cells (evO ρ x).cells T)) (v := pt w.heap.size 0) (by simp [execOp, ho, Instr.box, newVar, newRow, pt]) ?_
  have gr := Fr.alloc w (.cells (evO ρ x).cells T)
  exact new_ok hs gr (v0 := pt w.heap.size 0) (fun β' he hb => ⟨_, evO ρ x, hb, (hs.eo x).mono he (fun _ h => h) (gr_same hs.hs gr), hz, heap_alloc_new w _⟩) (fun g hg => by simp [blk, pt] at hg; omega) (fun β' _ hb => .of (x := SV.ptr _ _) ⟨_, hb, rfl⟩)
end
section
variable {Γ : Gm} {P : Program} {C : Ct Γ} {s : St Γ} {o : Oper} {w w' : World} {F : Nat → Prop} {β : Bt} {ρ : Env}
theorem store_core {T T' : TypeId} {x y : Operand} {g p m : Nat} {u u' v : Value} (ho : o.op = .store T x y) (hsz : szB P T = some m) (hx : evO ρ x = pt g p) (hy : evO ρ y = v) (hm : v.cells.toList.length = m) (h1 : ∀ c ∈ v.cells.toList, c.oneCell' = true)
    (hg : w.heap[g]? = some (.cells u.cells T' (0, 0))) (hs : Spl u.cells.toList p v.cells.toList u'.cells.toList) :
    ∃ w', (execOp (evO ρ) o).run P w = .ok .skip w' ∧ w'.heap[g]? = some (.cells u'.cells T' (0, 0)) ∧ Fr (fun j => j = g) w w' := by
  unfold szB at hsz
  obtain ⟨inf, hinf, he⟩ := Option.map_eq_some_iff.1 hsz
  have hg' : w.heap[g]? = some (.cells u.cells.toList.toArray T' (0, 0)) := by rw [Array.toArray_toList]; exact hg
  have hst := run_storeCells_spl (P := P) hg' hs h1
  have hm' : v.cells.size = m := by rw [← hm]; simp
  refine ⟨w.setRow g u'.cells.toList.toArray, ?_, ?_, Fr.setRow g _⟩
  · rw [Array.length_toList] at hm
    simp only [execOp, ho, hx, hy, pt]
    have hst' : (storeCells ⟨g, p, none⟩ v.cells.toList).run P w = .ok () (w.setRow g u'.cells) := by simpa using hst
    simp [Instr.storeAt, Instr.sureAddr, storeVar, sizeOf, typeInfo, hinf, hm, he, hst']
  · rw [setRow_heap w g _ _ T' _ hg, Array.toArray_toList]
theorem elem_spl (hΓ : GmOk Γ) {t : Ty Γ.S} {xs : List (el Γ.toSg t)} {css : List (Ck (sz Γ t))} (hk : CK w F t xs css) {i : Int} (h0 : 0 ≤ i) (h1 : i < (xs.length : Int)) {q : Nat} {u : Ty Γ.S} {z : el Γ.toSg u} {p : PV Γ.toSg} {y : el Γ.toSg t} {v : Value}
    (hp : putc 9 ⟨t, ix xs i⟩ q ⟨u, z⟩ = some p) (hy : PV.cst t p = some y) (hv : VR β w F (SV.v u z) v) : ∃ d : Ck (sz Γ t), CL w F [(⟨t, y⟩ : PV Γ.toSg)] d.1 ∧ Spl (ix css i).1 q v.cells.toList d.1 := by
  obtain ⟨_, cs', hc, hsp⟩ := putc_ok hΓ 9 (hk.get h0 h1) hp hv.cells_v
  rw [PV.cst_eq hy] at hc
  exact ⟨⟨cs', by have := hc.len hΓ; simpa [szp] using this, hc.one⟩, hc, hsp⟩
theorem undef_vr {u : Value} : VR β w F (SV.undef : SV Γ) u := .of (x := SV.undef) trivial
theorem box_wr (hs : Sd C s ρ β F w) {T T' : TypeId} {x y : Operand} {b g p : Nat} {c c' : SV Γ} {u u' : Value} {ti : TI Γ} (hT : TOk P T ti) (ho : o.op = .store T x y) (hx : evO ρ x = pt g p) (hsz : (evO ρ y).cells.toList.length = ti.size) (hone : ∀ c ∈ (evO ρ y).cells.toList, c.oneCell' = true)
    (hL : s.L b = some (.box T' c)) (hb : β b = some (pt g 0)) (hg : w.heap[g]? = some (.cells u.cells T' (0, 0))) (hsp : Spl u.cells.toList p (evO ρ y).cells.toList u'.cells.toList) (hc : VR β w F c' u') (hst : stv 9 c' = true) :
    OpV P o ρ w fun u w' => Left C s β F w .undef (s.res b (.box T' c')) u w' := by
  obtain ⟨w', h1, h2, h3⟩ := store_core (P := P) (ρ := ρ) ho hT.size hx rfl hsz hone hg hsp
  have hme : own β s.L b g := ⟨_, _, hL, rfl, hb, rfl⟩
  have same : ∀ k, F k → w'.heap[k]? = w.heap[k]? := fun k hk => h3.blk k (hs.hs.fsz k hk) (fun h => by subst h; exact hs.hs.dis b k hme hk)
  exact opv_skip h1 (wr_ok hs hL rfl hb (h3.mono fun j hj => by subst hj; rfl) ⟨g, u', hb, hc.mono (fun _ _ h => h) (fun _ h => h) same, hst, h2⟩ undef_vr)
theorem xStore_ok (hC : CtOk P C) {T : TypeId} {x y : Operand} (ho : o.op = .store T x y) : EffOk C P o s (xStore C s T (eo s x) (eo s y)) := by
  have key : ∀ px py, eo s x = px → eo s y = py → EffOk C P o s (xStore C s T px py) := by
    intro px py hx hy
    have hv : ∀ {ρ : Env} {β : Bt} {F : Nat → Prop} {w : World}, Sd C s ρ β F w → VR β w F px (evO ρ x) := fun h => hx ▸ h.eo x
    have hw : ∀ {ρ : Env} {β : Bt} {F : Nat → Prop} {w : World}, Sd C s ρ β F w → VR β w F py (evO ρ y) := fun h => hy ▸ h.eo y
    unfold xStore
    split
    · trivial
    · rename_i ti hT
      have ht := hC.tb _ _ hT
      split
      · trivial
      · rename_i hb
        rw [Bool.and_eq_true] at hb
        have hsz := Nat.eq_of_beq_eq_true hb.1
        have hcell : ∀ {ρ : Env} {β : Bt} {F : Nat → Prop} {w : World}, Sd C s ρ β F w → (evO ρ y).cells.toList.length = ti.size ∧ ∀ c ∈ (evO ρ y).cells.toList, c.oneCell' = true := fun h => by
          have := szv_ok hC.g 9 hb.2 (hw h) 9 (by omega)
          exact ⟨by rw [this.1, hsz], this.2⟩
        split
        · rename_i b p
          split
          · rename_i T' c hL
            split
            · rename_i c' hc'
              split
              · rename_i hst'
                refine ⟨fun ρ β F w hs => ?_, rfl⟩
                obtain ⟨g, e0, e1⟩ := (hv hs).ptr
                obtain ⟨g', u, e, hc, hst, hg⟩ := hs.hs.rr _ _ hL
                rw [e0] at e; injection e with e; simp [pt] at e; subst e
                obtain ⟨u', hu', hsp⟩ := wrc_ok hC.g 9 9 (by omega) hst hc hb.2 (hw hs) hc'
                exact box_wr hs ht ho e1 (hcell hs).1 (hcell hs).2 hL e0 hg hsp hu' hst'
              · trivial
            · trivial
          · trivial
        · rename_i b p N n i q
          split
          · rename_i T' c u z hL
            split
            · rename_i m t a ha
              split
              · rename_i pp hbb hpp
                rw [Bool.and_eq_true] at hbb
                have e1 := Nat.eq_of_beq_eq_true hbb.1
                have e2 := Nat.eq_of_beq_eq_true hbb.2
                subst e1 e2
                split
                · rename_i yy hyy
                  split
                  · rename_i c' hc'
                    split
                    · rename_i hst'
                      refine ⟨fun ρ β F w hs => ?_, rfl⟩
                      obtain ⟨g, e0, h0, h1, e1⟩ := (hv hs).pea
                      obtain ⟨g', u0, e, hc, hst, hg⟩ := hs.hs.rr _ _ hL
                      rw [e0] at e; injection e with e; simp [pt] at e; subst e
                      obtain ⟨qq, mm, r, e2, hq, hcl⟩ := arrAt_ok hC.g 9 9 (by omega) hst hc ha
                      obtain ⟨css, hk, rfl⟩ := CK.of_flat hC.g hcl.arr_inv
                      have hl : css.length = m := by rw [hk.len, a.h]
                      obtain ⟨d, hd, hsp⟩ := elem_spl hC.g hk h0 (by rw [a.h]; exact h1) hpp hyy (hw hs)
                      have hsp1 := Spl.elem (K := kC (sz Γ t)) css i d h0 (by rw [hl]; exact h1) hsp
                      have hsp2 := Spl.comp (r := r) hq hsp1
                      rw [← e2] at hsp2
                      have hk2 := hk.set i.toNat hd
                      have hv2 : VR β w F (SV.v (.arr m t) (Arr.set a i yy)) (.agg ((css.set i.toNat d).flatMap (kC (sz Γ t)).enc).toArray) :=
                        .of (x := SV.v (.arr m t) (Arr.set a i yy)) ⟨_, by have := CL.arr (p := ⟨.arr m t, Arr.set a i yy⟩) rfl hk2.flat (CL.nil (w := w) (F := F)); rwa [List.append_nil] at this, rfl⟩
                      obtain ⟨u', hu', hsp3⟩ := wrc_ok hC.g 9 9 (by omega) hst hc (stv_v _ _ _) hv2 hc'
                      have e3 : u'.cells.toList = qq ++ ((css.set i.toNat d).flatMap (kC (sz Γ t)).enc ++ r) := by
                        have h5 := hsp3.e
                        have h6 : (Value.agg ((css.set i.toNat d).flatMap (kC (sz Γ t)).enc).toArray).cells.toList = (css.set i.toNat d).flatMap (kC (sz Γ t)).enc := by simp [Value.cells]
                        have h7 : ((css.set i.toNat d).flatMap (kC (sz Γ t)).enc).length = (css.flatMap (kC (sz Γ t)).enc).length := by rw [len_flat, len_flat, List.length_set]
                        rw [h6, e2, ← hq] at h5
                        rw [h5, h7]
                        simp
                      rw [← e3] at hsp2
                      exact box_wr hs ht ho e1 (hcell hs).1 (hcell hs).2 hL e0 hg (by have := hsp2; simpa [kC, Nat.add_assoc] using this) hu' hst'
                    · trivial
                  · trivial
                · trivial
              · trivial
            · trivial
          · trivial
        · rename_i b n i q
          split
          · rename_i t E l hL
            split
            · rename_i u z
              split
              · rename_i pp hbb hpp
                have e2 := Nat.eq_of_beq_eq_true hbb
                subst e2
                split
                · rename_i yy hyy
                  refine ⟨fun ρ β F w hs => ?_, rfl⟩
                  obtain ⟨v0, v, e0, hsv, hvw, h0, h1, e1⟩ := (hv hs).pel
                  have hvv : v = v0 := hvw
                  subst hvv
                  obtain ⟨v', css, e, hO, hk⟩ := hs.hs.rr _ _ hL
                  rw [e0] at e; cases e
                  rw [Rd.vlen hO.rd] at h1
                  obtain ⟨d, hd, hsp⟩ := elem_spl hC.g hk h0 (by rw [← hk.len]; exact h1) hpp hyy (hw hs)
                  refine OpV.mono (opv_storeRow (K := kC (sz Γ t)) (z := d) (q := so v + (i.toNat * sz Γ t + q)) ho ht.size (by rw [e1]; simp [pt, Nat.add_assoc]) rfl (by rw [Array.toArray_toList]) (hcell hs).1 (hcell hs).2 hO h0 h1 hsp rfl) ?_
                  rintro uu w' ⟨hO', fr⟩
                  have frb : Fr (fun j => blk v = some j) w w' := fr.mono fun j hj => ob_blk hj.symm
                  have hme : ∀ j, blk v = some j → own β s.L b j := fun j hj => ⟨_, v, hL, rfl, e0, hj⟩
                  have same : ∀ k, F k → w'.heap[k]? = w.heap[k]? := fun k hk => frb.blk k (hs.hs.fsz k hk) (fun h => hs.hs.dis b k (hme k h) hk)
                  exact wr_ok hs hL rfl e0 frb ⟨v, _, e0, hO', (hk.set _ hd).mono (fun _ h => h) same⟩ undef_vr
                · trivial
              · trivial
            · trivial
          · rename_i E l hL
            split
            · rename_i z hbb
              rw [Bool.and_eq_true] at hbb
              have e2 := Nat.eq_of_beq_eq_true hbb.1
              have e3 := Nat.eq_of_beq_eq_true hbb.2
              subst e2 e3
              refine ⟨fun ρ β F w hs => ?_, rfl⟩
              obtain ⟨v0, v, e0, hsv, hvw, h0, h1, e1⟩ := (hv hs).pel
              have hvv : v = v0 := hvw
              subst hvv
              obtain ⟨v', e, hO⟩ := hs.hs.rr _ _ hL
              rw [e0] at e; cases e
              rw [Rd.vlen hO.rd] at h1
              have hsz1 : szB P T = some 1 := by rw [ht.size, ← hsz]; rfl
              refine OpV.mono (opv_storeC (q := so v + (i.toNat * 1 + 0)) ho hsz1 (by rw [e1]; simp [pt]) (hw hs).int hO h0 h1 rfl) ?_
              rintro uu w' ⟨hO', fr⟩
              have frb : Fr (fun j => blk v = some j) w w' := fr.mono fun j hj => ob_blk hj.symm
              exact wr_ok hs hL rfl e0 frb ⟨v, e0, hO'⟩ undef_vr
            · trivial
          · trivial
        · trivial
  exact key _ _ rfl rfl
end
section
variable {Γ : Gm} {P : Program} {C : Ct Γ} {s : St Γ} {o : Oper} {w w' : World} {F F' : Nat → Prop} {β : Bt} {ρ : Env}
theorem vw_sb {n : Nat} : ∀ {cs : List (Int × Int)} {v u : Value}, VwV n cs v u → sb u = sb v
  | [], v, u, h => by cases h; rfl
  | c :: cs, v, u, h => by
    obtain ⟨_, _, _, h⟩ := h
    rw [vw_sb h, sb_subv]
theorem vw_pos {α : Type} : ∀ {cs : List (Int × Int)} {l : List α}, 0 < (vw l cs).length → 0 < l.length
  | [], l, h => h
  | c :: cs, l, h => cut_pos (vw_pos (cs := cs) h)
theorem own_slice {v : Value} {α : Type} {K : Kd α} {E : TypeId} {B : Nat} {l : List α} (h : Own K E w B v l) : ∃ A n c, v = .slice A n c := by
  obtain ⟨A, c, e⟩ := h.rd.val; exact ⟨A, _, c, e⟩
theorem own_blk {v : Value} {α : Type} {K : Kd α} {E : TypeId} {B : Nat} {l : List α} (h : Own K E w B v l) (hl : 0 < l.length) : blk v = some (sb v) := by
  rcases h.2 with ⟨rfl, h0⟩ | ⟨g, cap, cur, rfl, _⟩
  · omega
  · rfl
theorem fre1 (hs : HS C β F w s.L) {b : Nat} {r r' : Res Γ} {v : Value} (hL : s.L b = some r) (hm : mtb r = true) (hv : β b = some v) (hr' : mtb r' = false) (hr : RR β w (fun k => F k ∨ blk v = some k) b r') : HS C β (fun k => F k ∨ blk v = some k) w (upd s.L b (some r')) := by
  have hown : ∀ b' g, own β (upd s.L b (some r')) b' g → b' ≠ b ∧ own β s.L b' g := by
    rintro b' g ⟨q, u, h1, h2, h3, h4⟩
    by_cases e : b' = b
    · subst e; rw [upd_same] at h1; cases h1; rw [hr'] at h2; cases h2
    · rw [upd_ne _ _ e] at h1; exact ⟨e, q, u, h1, h2, h3, h4⟩
  have hme : ∀ j, blk v = some j → own β s.L b j := fun j hj => ⟨r, v, hL, hm, hv, hj⟩
  refine ⟨?_, ?_, ?_, ?_, ?_⟩
  · intro b' q hq
    by_cases e : b' = b
    · subst e; rw [upd_same] at hq; cases hq; exact hr
    · rw [upd_ne _ _ e] at hq
      exact (hs.rr b' q hq).mono (fun _ _ h => h) (fun _ h => .inl h) (fun _ _ => rfl) (Fr.refl _ w : Fr (fun _ => False) w w) (fun _ _ _ _ _ h => h)
  · exact fun b1 b2 g h1 h2 => hs.sep _ _ _ (hown _ _ h1).2 (hown _ _ h2).2
  · intro b' g h1 hF
    obtain ⟨e, h1⟩ := hown _ _ h1
    rcases hF with hF | hF
    · exact hs.dis _ _ h1 hF
    · exact e (hs.sep _ _ _ h1 (hme g hF))
  · intro k hk
    rcases hk with hk | hk
    · exact hs.fsz k hk
    · exact own_lt hs (hme k hk)
  · exact gl_mono (s := s) (β' := β) hs (fun _ h => .inl h) (fun _ _ => rfl)
structure Frz (C : Ct Γ) (β : Bt) (F : Nat → Prop) (w : World) (L : Nat → Option (Res Γ)) (l : List Nat) (F' : Nat → Prop) (L' : Nat → Option (Res Γ)) : Prop where
  fm : ∀ k, F k → F' k
  fb : ∀ k, F' k → F k ∨ ∃ b, own β L b k
  hs : HS C β F' w L'
  fz : ∀ b ∈ l, ∀ k, own β L b k → F' k
  le : ∀ b g, own β L' b g → own β L b g
  fl : ∀ k, F' k → F k ∨ ∃ b, b ∈ l ∧ own β L b k
theorem fre_ok : ∀ {l : List Nat} {s : St Γ} {F : Nat → Prop} {L' : Nat → Option (Res Γ)}, HS C β F w s.L → fre s.L l = some L' → ∃ F', Frz C β F w s.L l F' L'
  | [], s, F, L', hs, h => by
    cases h
    exact ⟨F, fun _ h => h, fun _ h => .inl h, hs, by simp, fun _ _ h => h, fun _ h => .inl h⟩
  | b :: l, s, F, L', hs, h => by
    have step : ∀ {r r' : Res Γ} {v : Value}, s.L b = some r → mtb r = true → β b = some v → mtb r' = false → RR β w (fun k => F k ∨ blk v = some k) b r' → fre (upd s.L b (some r')) l = some L' → ∃ F', Frz C β F w s.L (b :: l) F' L' := by
      intro r r' v hL hm hv hr' hr h
      have hs1 := fre1 hs hL hm hv hr' hr
      obtain ⟨F', i1, i2, i3, i4, i5, i6⟩ := fre_ok (s := ⟨s.ρ, upd s.L b (some r'), s.nx⟩) hs1 h
      have hown : ∀ b' g, own β (upd s.L b (some r')) b' g → own β s.L b' g := by
        rintro b' g ⟨q, u, h1, h2, h3, h4⟩
        by_cases e : b' = b
        · subst e; rw [upd_same] at h1; cases h1; rw [hr'] at h2; cases h2
        · rw [upd_ne _ _ e] at h1; exact ⟨q, u, h1, h2, h3, h4⟩
      refine ⟨F', fun k hk => i1 k (.inl hk), fun k hk => ?_, i3, fun b' hb' k hk => ?_, fun b' g h => hown _ _ (i5 b' g h), fun k hk => ?_⟩
      · rcases i2 k hk with (h | h) | ⟨b', h⟩
        · exact .inl h
        · exact .inr ⟨b, r, v, hL, hm, hv, h⟩
        · exact .inr ⟨b', hown _ _ h⟩
      · obtain ⟨q, u, h1, h2, h3, h4⟩ := hk
        by_cases e : b' = b
        · subst e
          rw [hv] at h3; cases h3
          exact i1 k (.inr h4)
        · rcases List.mem_cons.1 hb' with e' | hb'
          · exact absurd e' e
          · exact i4 b' hb' k ⟨q, u, by simp only; rw [upd_ne _ _ e]; exact h1, h2, h3, h4⟩
      · rcases i6 k hk with (h | h) | ⟨b', hb', h⟩
        · exact .inl h
        · exact .inr ⟨b, by simp, r, v, hL, hm, hv, h⟩
        · exact .inr ⟨b', by simp [hb'], hown _ _ h⟩
    unfold fre at h
    split at h
    · rename_i t E x hL
      obtain ⟨v, css, e0, hO, hk⟩ := hs.rr _ _ hL
      refine step (r' := .fz t x) hL rfl e0 rfl ⟨v, e0, CL.mk_sl hO.rd (hk.mono (fun _ h => .inl h) (fun _ _ => rfl)) fun hx => .inr (own_blk hO (by rw [hk.len]; exact hx))⟩ h
    · rename_i E x hL
      obtain ⟨v, e0, hO⟩ := hs.rr _ _ hL
      refine step (r' := .fz (.int .u8) x) hL rfl e0 rfl ⟨v, e0, CL.mk_sl (t := .int .u8) (rd_chk hO.rd) ck_chk fun hx => .inr ?_⟩ h
      obtain ⟨g, cap, cur, fz, rfl, _⟩ := hO
      rfl
    · rename_i t x hL
      obtain ⟨F', i1, i2, i3, i4, i5, i6⟩ := fre_ok hs h
      refine ⟨F', i1, i2, i3, fun b' hb' k hk => ?_, i5, fun k hk => (i6 k hk).imp id fun ⟨b', hb', h⟩ => ⟨b', by simp [hb'], h⟩⟩
      rcases List.mem_cons.1 hb' with rfl | hb'
      · obtain ⟨q, u, h1, h2, h3, h4⟩ := hk
        rw [hL] at h1; cases h1; cases h2
      · exact i4 b' hb' k hk
    · cases h
theorem ids_go {f : SV Γ → List Nat} : ∀ {l : List (SV Γ)} {x : SV Γ} {b : Nat}, x ∈ l → b ∈ f x → b ∈ ids.go f l
  | a :: l, x, b, hx, hb => by
    simp only [ids.go, List.mem_append]
    rcases List.mem_cons.1 hx with rfl | hx
    · exact .inl hb
    · exact .inr (ids_go hx hb)
theorem frzL_ok {f : (t : Ty Γ.S) → SV Γ → Option (el Γ.toSg t)} : ∀ {ps qs : List (PV Γ.toSg)} {l : List (SV Γ)} {us : List Value}, frzL f ps l = some qs → VL β w F l us →
    (∀ (t : Ty Γ.S) (x : SV Γ) (y : el Γ.toSg t) (u : Value), x ∈ l → f t x = some y → VR β w F x u → CL w F' [(⟨t, y⟩ : PV Γ.toSg)] u.cells.toList) → CL w F' qs (cellsV us)
  | [], qs, [], us, h, hl, hf => by cases h; cases hl; exact .nil
  | p :: ps, qs, x :: xs, us, h, hl, hf => by
    unfold frzL at h
    split at h
    · rename_i y l h1 h2
      cases h
      obtain ⟨u, r, rfl, j1, j2⟩ := hl.cons_inv
      have := CL.append (a := [_]) (hf _ _ _ _ (by simp) h1 j1) (frzL_ok h2 j2 fun t x y u hx => hf t x y u (by simp [hx]))
      simpa [cellsV] using this
    · cases h
  | [], _, _ :: _, _, h, _, _ => by simp [frzL] at h
  | _ :: _, _, [], _, h, _, _ => by simp [frzL] at h
theorem frz_ok (hC : GmOk Γ) (hs : Sd C s ρ β F w) (hF : ∀ k, F k → F' k) : ∀ (n : Nat) {t : Ty Γ.S} {x : SV Γ} {y : el Γ.toSg t} {u : Value}, frz s n t x = some y → VR β w F x u → (∀ b ∈ ids n x, ∀ k, own β s.L b k → F' k) → CL w F' [(⟨t, y⟩ : PV Γ.toSg)] u.cells.toList
  | 0, _, _, _, _, h, _, _ => by simp [frz] at h
  | n + 1, t, x, y, u, h, hv, hi => by
    have fm : ∀ {l cs}, CL (Γ := Γ) w F l cs → CL w F' l cs := fun h => h.mono hF (fun _ _ => rfl)
    have S : ∀ {t' : Ty Γ.S} {r : LV Γ} {y : el Γ.toSg (.sl t')}, slc s x = some r → PV.cst (.sl t') ⟨.sl r.t, r.l⟩ = some y → (0 < r.l.length → F' (sb u)) → u.cells.toList = [u] → CL w F' [(⟨.sl t', y⟩ : PV Γ.toSg)] u.cells.toList := by
      intro t' r y h1 h2 h3 h4
      obtain ⟨css, hr, hk⟩ := slc_ok hC hs h1 hv
      have e := PV.cst_eq h2
      rw [← e, h4]
      exact CL.mk_sl hr (hk.mono hF (fun _ _ => rfl)) h3
    have G : ∀ {t' : Ty Γ.S} {y : el Γ.toSg (.sl t')}, (match slc s x with | some ⟨u', l⟩ => PV.cst (.sl t') ⟨.sl u', l⟩ | none => none) = some y → (∀ r, slc s x = some r → 0 < r.l.length → F' (sb u)) → CL w F' [(⟨.sl t', y⟩ : PV Γ.toSg)] u.cells.toList := by
      intro t' y h hp
      split at h
      · rename_i u' l' hsl
        obtain ⟨css, hr, hk⟩ := slc_ok hC hs hsl hv
        exact S hsl h (hp _ hsl) (cells_one' hr.one)
      · cases h
    clear S
    cases x with
    | v t' y' =>
      have h : PV.cst t ⟨t', y'⟩ = some y := h
      rw [← PV.cst_eq h]
      exact fm hv.cells_v
    | agg l =>
      cases t with
      | st r =>
        have h : (match frzL (frz s n) (Γ.toH r (Γ.inh r).default) l with | some ps => Γ.ofH r ps | none => none) = some y := h
        split at h
        · rename_i ps hps
          obtain ⟨us, hl, rfl⟩ := hv.agg
          have hc := frzL_ok hps hl fun t x y u hx hf hu => frz_ok hC hs hF n hf hu fun b hb => hi b (by simp only [ids]; exact ids_go hx hb)
          have := CL.st (Γ := Γ) (p := ⟨.st r, y⟩) rfl (by rw [hC.of_to _ _ _ h]; exact hc) CL.nil
          simpa [Value.cells] using this
        · cases h
      | _ => simp [frz] at h
    | nils =>
      cases t with
      | sl t' =>
        have h : some [] = some y := h
        cases h
        rw [hv.nils]
        exact CL.sln rfl .nil
      | _ => simp [frz] at h
    | sl b n' cs =>
      cases t with
      | sl t' =>
        refine G h fun r hsl hp => ?_
        obtain ⟨v0, e0, hsv, hvw⟩ := hv.sl
        rw [vw_sb hvw]
        unfold slc at hsl
        simp only at hsl
        split at hsl
        · rename_i t1 E l hL
          obtain ⟨_, e⟩ := lvw_ok hsl
          cases e
          obtain ⟨v, css, e, hO, hk⟩ := hs.hs.rr _ _ hL
          rw [e0] at e; cases e
          have hb := own_blk hO (by rw [hk.len]; exact vw_pos hp)
          exact hi b (by simp [ids]) _ ⟨_, _, hL, rfl, e0, hb⟩
        · rename_i t1 l hL
          obtain ⟨_, e⟩ := lvw_ok hsl
          cases e
          obtain ⟨v, e, hc⟩ := hs.hs.rr _ _ hL
          rw [e0] at e; cases e
          exact hF _ (hc.sl_frz (vw_pos hp))
        · rename_i E l hL
          obtain ⟨_, e⟩ := lvw_ok hsl
          cases e
          obtain ⟨v, e, hO⟩ := hs.hs.rr _ _ hL
          rw [e0] at e; cases e
          obtain ⟨g, cap, cur, fz, rfl, _⟩ := hO
          exact hi b (by simp [ids]) _ ⟨_, _, hL, rfl, e0, rfl⟩
        · cases hsl
      | _ => simp [frz] at h
    | asl b p N n' cs =>
      cases t with
      | sl t' =>
        refine G h fun r hsl hp => ?_
        obtain ⟨g, e0, hvw⟩ := hv.asl
        rw [vw_sb hvw]
        unfold slc at hsl
        simp only at hsl
        split at hsl
        · rename_i T c hL
          exact hi b (by simp [ids]) _ ⟨_, _, hL, rfl, e0, rfl⟩
        · cases hsl
      | _ => simp [frz] at h
    | _ => cases t <;> simp [frz, slc] at h
theorem tak_ok (hC : GmOk Γ) (hs : Sd C s ρ β F w) {t : Ty Γ.S} {x : SV Γ} {y : el Γ.toSg t} {s' : St Γ} {u : Value} (h : tak s t x = some (y, s')) (hv : VR β w F x u) :
    ∃ F', Frz C β F w s.L (ids 9 x) F' s'.L ∧ CL w F' [(⟨t, y⟩ : PV Γ.toSg)] u.cells.toList ∧ s'.ρ = s.ρ ∧ s'.nx = s.nx ∧ Sd C s' ρ β F' w := by
  unfold tak at h
  split at h
  · rename_i y' hf
    split at h
    · rename_i L hL
      cases h
      obtain ⟨F', hz⟩ := fre_ok hs.hs hL
      exact ⟨F', hz, frz_ok hC hs hz.fm 9 hf hv hz.fz, rfl, rfl, hz.hs, fun t => (hs.vr t).mono (fun _ _ h => h) hz.fm (fun _ _ => rfl), hs.nx⟩
    · cases h
  · cases h
end
section
variable {Γ : Gm} {P : Program} {C : Ct Γ} {s : St Γ} {o : Oper} {w w' : World} {F F' : Nat → Prop} {β : Bt} {ρ : Env}
theorem vr_sl {b n : Nat} {v : Value} (h : β b = some v) (hv : ∃ A l k, v = .slice A l k) : VR β w F (SV.sl (Γ := Γ) b n []) v := .of (x := SV.sl b n []) ⟨v, h, hv, rfl⟩
theorem row_new (hs : Sd C s ρ β F w) (gr : Gr w w') {t : Ty Γ.S} {E : TypeId} {l : List (el Γ.toSg t)} {css : List (Ck (sz Γ t))} {u : Value} {n : Nat} (hO : Own (kC (sz Γ t)) E w' 0 u css) (hk : CK w F t l css) (hb : ∀ g, u.ownBlock = some g → w.heap.size ≤ g) :
    Left C s β F w (.sl s.nx n []) (s.new (.row t E l)) u w' :=
  new_ok hs gr (v0 := u) (fun β' _ h => ⟨u, css, h, hO, hk.mono (fun _ h => h) (gr_same hs.hs gr)⟩) (fun g hg => hb g (blk_ob (own_slice hO) hg)) (fun β' _ h => vr_sl h (own_slice hO))
theorem xMake_ok (hC : CtOk P C) {T : TypeId} {a b : Operand} (ho : o.op = .makeSlice T a b) : EffOk C P o s (xMake C s T (eo s a) (eo s b)) := by
  have key : ∀ pa pb, eo s a = pa → eo s b = pb → EffOk C P o s (xMake C s T pa pb) := by
    intro pa pb ha hb
    unfold xMake
    split
    · rename_i E _ _ _ _ n m hT
      split
      · rename_i k t u z hE
        split
        · rename_i z' hz
          rintro ⟨rfl, h0, h1⟩
          refine ⟨fun ρ β F w hs => ?_, rfl⟩
          have ea : evO ρ a = .int .i64 n := by have := hs.eo a; rw [ha] at this; exact this.int
          have eb : evO ρ b = .int .i64 n := by have := hs.eo b; rw [hb] at this; exact this.int
          have te := hC.tb _ _ hE
          obtain ⟨zv, bs, e1, e2, e3, e4, e5⟩ := te.zero
          obtain ⟨_, c2⟩ := te.code _ rfl
          simp only at c2
          have hcl : CL w F [(⟨t, z'⟩ : PV Γ.toSg)] zv.cells.toList := by rw [← PV.cst_eq hz]; exact (e3 β w F).cells_v
          have hlen : zv.cells.toList.length = sz Γ t := by have := hcl.len hC.g; simpa [szp] using this
          let d : Ck (sz Γ t) := ⟨zv.cells.toList, hlen, e4⟩
          refine OpV.mono (opv_make (K := kC (sz Γ t)) (z := d) (B := 0) ho (hC.tb _ _ hT).u (bs := bs) (zv := zv) (by rw [e1]; simp only [← c2]; rfl) (by simp [kC, d]) ea eb h0 h1 (by rw [Nat.ble_eq] at e2 ⊢; omega) (Nat.zero_le _)) ?_
          rintro u' w' ⟨hO, gr, hfr⟩
          exact row_new hs gr hO (CK.rep hcl _) hfr
        · trivial
      · trivial
    · trivial
  exact key _ _ rfl rfl
theorem chk_inv {k : IntKind} {l : List (el Γ.toSg (.int k))} {css : List (Ck (sz Γ (.int k)))} (h : CK w F (.int k) l css) : css = List.map (chk k) l := by
  induction h with
  | nil => rfl
  | cons h _ ih => rw [List.map_cons, ih]; congr 1; exact Subtype.ext h.int_inv
theorem chk_flat {k : IntKind} (l : List Int) : (l.map (chk k)).flatMap (kC 1).enc = l.flatMap (kI k).enc := by simp [List.flatMap_map, chk, kC, kI]
theorem rd_int {k : IntKind} {v : Value} {l : List Int} (h : Rd (kC 1) w v (l.map (chk k))) : Rd (kI k) w v l := by
  obtain ⟨A, c, rfl, h1, h2⟩ := h
  refine ⟨A, c, by rw [List.length_map], by rw [List.length_map] at h1; exact h1, fun h => ?_⟩
  obtain ⟨b, o, e, ha⟩ := h2 (by simpa using h)
  exact ⟨b, o, e, by rw [chk_flat] at ha; exact ha⟩
theorem own_int {k : IntKind} {E : TypeId} {B : Nat} {v : Value} {l : List Int} (h : Own (kC 1) E w B v (l.map (chk k))) : Own (kI k) E w B v l := by
  unfold Own at h ⊢
  rw [chk_flat, List.length_map] at h
  exact h
theorem own_chk {k : IntKind} {E : TypeId} {B : Nat} {v : Value} {l : List Int} (h : Own (kI k) E w B v l) : Own (kC 1) E w B v (l.map (chk k)) := by
  unfold Own at h ⊢
  rw [chk_flat, List.length_map]
  exact h
theorem srcOf_ok (hΓ : GmOk Γ) (hs : Sd C s ρ β F w) {t : Ty Γ.S} {x : SV Γ} {u : Value} {l : List (el Γ.toSg t)} (h : srcOf s t x = some l) (hv : VR β w F x u) : ∃ css, Rd (kC (sz Γ t)) w u css ∧ CK w F t l css := by
  have G : (match slc s x with | some ⟨u, m⟩ => PV.cst (.sl t) ⟨.sl u, m⟩ | none => none) = some l → ∃ css, Rd (kC (sz Γ t)) w u css ∧ CK w F t l css := by
    intro h
    split at h
    · rename_i u' m hsl
      obtain ⟨css, hr, hk⟩ := slc_ok hΓ hs hsl hv
      have e := PV.cst_eq h
      injection e with e1 e2
      injection e1 with e1
      subst e1
      cases e2
      exact ⟨css, hr, hk⟩
    · cases h
  cases x with
  | nils =>
    have h : some [] = some l := h
    cases h
    rw [hv.nils]
    exact ⟨[], Rd.nil _ _, .nil⟩
  | _ => exact G h
theorem Own.at_app (hs : Sd C s ρ β F w) {L : Nat → Option (Res Γ)} {t : Ty Γ.S} {E : TypeId} {l : List (el Γ.toSg t)} {css : List (Ck (sz Γ t))} {v u : Value} {n : Nat}
    (hL : ∀ b q, L b = some q → s.L b = some q) (hv : ∀ k, v.ownBlock = some k → ∃ b, own β s.L b k ∧ L b = none)
    (hO : Own (kC (sz Γ t)) E w' 0 u css) (hk : CK w F t l css) (fr : Fr (fun j => some j = v.ownBlock) w w') (hoff : ∀ g, g < w.heap.size → Off v g → Off u g) :
    Left C s β F w (.sl s.nx n []) ⟨s.ρ, upd L s.nx (some (.row t E l)), Nat.succ s.nx⟩ u w' := by
  have same : ∀ k, F k → w'.heap[k]? = w.heap[k]? := fun k hk => fr.blk k (hs.hs.fsz k hk) (fun h => by obtain ⟨b, hb, _⟩ := hv k h.symm; exact hs.hs.dis b k hb hk)
  refine app_ok hs (W := fun j => some j = v.ownBlock) hL (fun j hj => by obtain ⟨b, hb, _⟩ := hv j hj.symm; exact ⟨b, hb⟩) ?_ fr (v0 := u) (fun β' _ h => ⟨u, css, h, hO, hk.mono (fun _ h => h) same⟩) ?_ (fun β' _ h => vr_sl h (own_slice hO))
  · rintro b j ⟨q, x, h1, h2, h3, h4⟩ hj
    obtain ⟨b', hb', hn⟩ := hv j hj.symm
    have := hs.hs.sep b b' j ⟨q, x, hL _ _ h1, h2, h3, h4⟩ hb'
    subst this
    rw [hn] at h1; cases h1
  · intro g hg
    have hg' := blk_ob (own_slice hO) hg
    rcases Nat.lt_or_ge g w.heap.size with h | h
    · by_cases e : v.ownBlock = some g
      · exact .inr e.symm
      · exact absurd hg' (hoff g h e)
    · exact .inl h
theorem rowOf_ok (hs : Sd C s ρ β F w) {t : Ty Γ.S} {E : TypeId} {x : SV Γ} {u : Value} {l : List (el Γ.toSg t)} {L : Nat → Option (Res Γ)} (h : rowOf s t E x = some (l, L)) (hv : VR β w F x u) :
    (∀ b q, L b = some q → s.L b = some q) ∧ (∀ k, u.ownBlock = some k → ∃ b, own β s.L b k ∧ L b = none) ∧ ∃ css, Own (kC (sz Γ t)) E w 0 u css ∧ CK w F t l css := by
  unfold rowOf at h
  split at h
  · cases h
    rw [hv.nils]
    exact ⟨fun _ _ h => h, by simp [Value.ownBlock], [], Own.nil _ _ _ _, .nil⟩
  · rename_i b n
    split at h
    · rename_i t' E' l' hL
      split at h
      · rename_i l'' hb hl
        cases h
        have e := Nat.eq_of_beq_eq_true hb
        subst e
        have e := PV.cst_eq hl
        injection e with e1 e2
        injection e1 with e1
        subst e1
        cases e2
        obtain ⟨v0, e0, hsv, hvw⟩ := hv.sl
        have hvv : u = v0 := hvw
        subst hvv
        obtain ⟨v, css, e, hO, hk⟩ := hs.hs.rr _ _ hL
        rw [e0] at e; cases e
        refine ⟨fun b' q h => ?_, fun k hk => ⟨b, ⟨_, _, hL, rfl, e0, ob_blk hk⟩, upd_same _ _ _⟩, css, hO, hk⟩
        by_cases e : b' = b
        · subst e; rw [upd_same] at h; cases h
        · rw [upd_ne _ _ e] at h; exact h
      · cases h
    · cases h
  · cases h
theorem codeOf_ok (hC : CtOk P C) {E : TypeId} {t : Ty Γ.S} {n : Nat} (h : codeOf C E = some (t, n)) : n = sz Γ t ∧ ∃ z bs, elB P E = some (some z, sz Γ t, bs) ∧ Nat.ble bs 32768 = true ∧ z.cells.size = sz Γ t := by
  unfold codeOf at h
  split at h
  · rename_i hE
    cases h
    have te := hC.tb _ _ hE
    obtain ⟨zv, bs, e1, e2, e3, e4, e5⟩ := te.zero
    obtain ⟨_, c2⟩ := te.code _ rfl
    simp only at c2 e1 e5
    exact ⟨c2.symm, zv, bs, by rw [e1, c2], e2, by rw [e5, c2]⟩
  · cases h
theorem xApp_ok (hC : CtOk P C) {T T' : TypeId} {x y : Operand} (ho : o.op = .call ⟨.builtin .append, #[x, y], #[T, T']⟩) : EffOk C P o s (xApp C s T T' (eo s x) (eo s y)) := by
  have key : ∀ px py, eo s x = px → eo s y = py → EffOk C P o s (xApp C s T T' px py) := by
    intro px py hx hy
    have hv : ∀ {ρ : Env} {β : Bt} {F : Nat → Prop} {w : World}, Sd C s ρ β F w → VR β w F px (evO ρ x) := fun h => hx ▸ h.eo x
    have hw : ∀ {ρ : Env} {β : Bt} {F : Nat → Prop} {w : World}, Sd C s ρ β F w → VR β w F py (evO ρ y) := fun h => hy ▸ h.eo y
    unfold xApp
    split
    · rename_i E _ _ _ _ ti' hT hT'
      have hTu := (hC.tb _ _ hT).u
      have hTu' := (hC.tb _ _ hT').u
      split
      · trivial
      · rename_i t n hc
        obtain ⟨rfl, z, bs, e1, e2, e3⟩ := codeOf_ok hC hc
        split
        · rename_i l L hn hr
          -- what is appended lies in cells
          have G : ∀ (m : List (el Γ.toSg t)), T = T' → (∀ {ρ : Env} {β : Bt} {F : Nat → Prop} {w : World}, Sd C s ρ β F w → ∃ css, Rd (kC (sz Γ t)) w (evO ρ y) css ∧ CK w F t m css) →
              EffOk C P o s (.neff (gd (List.length l + List.length m ≤ LIM)) ⟨s.ρ, upd L s.nx (some (.row t E (l ++ m))), Nat.succ s.nx⟩ (.sl s.nx (sz Γ t) [])) := by
            intro m hTT hm hlim
            subst hTT
            refine ⟨fun ρ β F w hs => ?_, rfl⟩
            obtain ⟨h1, h2, css, hO, hk⟩ := rowOf_ok hs hr (hv hs)
            obtain ⟨dss, hd, hkd⟩ := hm hs
            refine OpV.mono (opv_append (K := kC (sz Γ t)) (B := 0) ho hTu e1 e3 hn e2 rfl rfl hO hd (by rw [hk.len, hkd.len]; exact hlim) (Nat.zero_le _)) ?_
            rintro u w' ⟨hO', fr, hoff⟩
            exact Own.at_app hs h1 h2 hO' (hk.append hkd) fr hoff
          split
          · rename_i E' hu
            split
            · trivial
            · rename_i hb
              rw [Bool.and_eq_true] at hb
              have hTT := Nat.eq_of_beq_eq_true hb.2
              split
              · exact G [] hTT fun hs => ⟨[], by rw [(hw hs).nils]; exact Rd.nil _ _, .nil⟩
              · split
                · rename_i u m hsl
                  split
                  · rename_i m' hm
                    refine G m' hTT fun hs => ?_
                    obtain ⟨css, hrr, hk⟩ := slc_ok hC.g hs hsl (hw hs)
                    have e := PV.cst_eq hm
                    injection e with e4 e5
                    injection e4 with e4
                    subst e4
                    cases e5
                    exact ⟨css, hrr, hk⟩
                  · trivial
                · trivial
          · rename_i hu
            rw [hu] at hTu'
            split
            · rename_i m l' hl
              have e := PV.cst_eq hl
              injection e with e4 e5
              injection e4 with e4
              subst e4
              cases e5
              intro hlim
              refine ⟨fun ρ β F w hs => ?_, rfl⟩
              obtain ⟨h1, h2, css, hO, hk⟩ := rowOf_ok hs hr (hv hs)
              have hcs := chk_inv hk
              subst hcs
              refine OpV.mono (opv_appendStr (B := 0) ho hTu hTu' e1 e3 e2 rfl (hw hs).str (own_int hO) hlim (Nat.zero_le _)) ?_
              rintro u w' ⟨hO', fr, hoff⟩
              exact Own.at_app hs h1 h2 (own_chk hO') ck_chk fr hoff
            · trivial
          · rename_i hu
            rw [hu] at hTu'
            split
            · rename_i m l' hl
              split
              · rename_i hm0
                have e := PV.cst_eq hl
                injection e with e4 e5
                injection e4 with e4
                subst e4
                cases e5
                intro hlim
                refine ⟨fun ρ β F w hs => ?_, rfl⟩
                obtain ⟨h1, h2, css, hO, hk⟩ := rowOf_ok hs hr (hv hs)
                have hcs := chk_inv hk
                subst hcs
                rw [Bool.and_eq_true] at hm0
                have h8 : elB P E = some (some (.int .u8 0), 1, 1) := by
                  have h9 := hm0.2
                  unfold isU8 at h9
                  split at h9
                  · rename_i hE; exact (hC.tb _ _ hE).u8 rfl
                  · cases h9
                refine OpV.mono (opv_appendZ (n := m) (B := 0) ho hTu hTu' h8 rfl rfl (hw hs).int (own_int hO) hm0.1 hlim (Nat.zero_le _)) ?_
                rintro u w' ⟨hO', fr, hoff⟩
                exact Own.at_app hs h1 h2 (own_chk hO') ck_chk fr hoff
              · trivial
            · trivial
          · trivial
        · trivial
    · trivial
  exact key _ _ rfl rfl
end
section
variable {Γ : Gm} {P : Program} {C : Ct Γ} {s : St Γ} {o : Oper} {w w' : World} {F F' : Nat → Prop} {β : Bt} {ρ : Env}
theorem CK.splL {t : Ty Γ.S} {xs ys : List (el Γ.toSg t)} {cs ds : List (Ck (sz Γ t))} (h : CK w F t xs cs) (k : CK w F t ys ds) (q : Nat) : CK w F t (splL xs q ys) (splL cs q ds) := by
  unfold Go.Xw.splL
  rw [← k.len]
  exact ((h.take q).append k).append (h.drop _)
theorem seg_of (l : List Value) (h : ∀ v ∈ l, v.oneCell' = true) : ∃ sg : Seg, sg.l = l ∧ sg.n = l.length := ⟨⟨l.length, l, rfl, h⟩, rfl, rfl⟩
theorem xCopy_ok (hC : CtOk P C) {T T' : TypeId} {x y : Operand} (ho : o.op = .call ⟨.builtin .copy, #[x, y], #[T, T']⟩) : EffOk C P o s (xCopy C s T (eo s x) (eo s y)) := by
  have key : ∀ px py, eo s x = px → eo s y = py → EffOk C P o s (xCopy C s T px py) := by
    intro px py hx hy
    have hv : ∀ {ρ : Env} {β : Bt} {F : Nat → Prop} {w : World}, Sd C s ρ β F w → VR β w F px (evO ρ x) := fun h => hx ▸ h.eo x
    have hw : ∀ {ρ : Env} {β : Bt} {F : Nat → Prop} {w : World}, Sd C s ρ β F w → VR β w F py (evO ρ y) := fun h => hy ▸ h.eo y
    unfold xCopy
    split
    · rename_i E _ _ _ _ hT
      have hTu := (hC.tb _ _ hT).u
      split
      · trivial
      · rename_i te hE
        split
        · trivial
        · rename_i hb
          have hs1 : szB P E = some 1 := by rw [(hC.tb _ _ hE).size, Nat.eq_of_beq_eq_true hb]
          split
          · rename_i b n
            split
            · rename_i t E' l hL
              split
              · rename_i m hm hz
                have hz' := Nat.eq_of_beq_eq_true hz
                refine ⟨fun ρ β F w hs => ?_, rfl⟩
                obtain ⟨v0, e0, hsv, hvw⟩ := (hv hs).sl
                have hvv : evO ρ x = v0 := hvw
                subst hvv
                obtain ⟨v, css, e, hO, hk⟩ := hs.hs.rr _ _ hL
                rw [e0] at e; cases e
                obtain ⟨dss, hd, hkd⟩ := srcOf_ok hC.g hs hm (hw hs)
                refine OpV.mono (opv_copyRow (K := kC (sz Γ t)) ho hTu hs1 hz' rfl rfl hO hd) ?_
                rintro u w' ⟨rfl, hO', fr⟩
                have frb : Fr (fun j => blk (evO ρ x) = some j) w w' := fr.mono fun j hj => ob_blk hj.symm
                have hme : ∀ j, blk (evO ρ x) = some j → own β s.L b j := fun j hj => ⟨_, _, hL, rfl, e0, hj⟩
                have same : ∀ k, F k → w'.heap[k]? = w.heap[k]? := fun k hk => frb.blk k (hs.hs.fsz k hk) (fun h => hs.hs.dis b k (hme k h) hk)
                refine wr_ok hs hL rfl e0 frb ⟨_, _, e0, hO', ?_⟩ ?_
                · rw [hk.len]
                  exact (hk.splL (hkd.take _) 0).mono (fun _ h => h) same
                · rw [hk.len, hkd.len]; exact vr_int _ _
              · trivial
            · trivial
          · rename_i b n lo hi
            split
            · rename_i t E' l hL
              split
              · rename_i m hm hz
                rw [Bool.and_eq_true] at hz
                have hz' := Nat.eq_of_beq_eq_true hz.1
                have hn := Nat.eq_of_beq_eq_true hz.2
                subst hn
                rintro ⟨g1, g2⟩
                refine ⟨fun ρ β F w hs => ?_, rfl⟩
                obtain ⟨v0, e0, hsv, hvw⟩ := (hv hs).sl
                obtain ⟨_, _, _, hvw⟩ := hvw
                have hvv : evO ρ x = subv 1 v0 lo.toNat hi.toNat := hvw
                obtain ⟨v, css, e, hO, hk⟩ := hs.hs.rr _ _ hL
                rw [e0] at e; cases e
                obtain ⟨dss, hd, hkd⟩ := srcOf_ok hC.g hs hm (hw hs)
                refine OpV.mono (opv_copyCut (K := kC (sz Γ t)) ho hTu hs1 hz' hvv rfl rfl hO g1 (by rw [hk.len]; exact g2) hd) ?_
                rintro u w' ⟨rfl, hO', fr⟩
                have frb : Fr (fun j => blk v0 = some j) w w' := fr.mono fun j hj => ob_blk hj.symm
                have hme : ∀ j, blk v0 = some j → own β s.L b j := fun j hj => ⟨_, _, hL, rfl, e0, hj⟩
                have same : ∀ k, F k → w'.heap[k]? = w.heap[k]? := fun k hk => frb.blk k (hs.hs.fsz k hk) (fun h => hs.hs.dis b k (hme k h) hk)
                refine wr_ok hs hL rfl e0 frb ⟨_, _, e0, hO', ?_⟩ ?_
                · exact (hk.splL (hkd.take _) _).mono (fun _ h => h) same
                · rw [hkd.len]; exact vr_int _ _
              · trivial
            · trivial
          · rename_i b p N n
            split
            · rename_i T'' c hL
              split
              · rename_i M t a ha
                split
                · rename_i m hz hm
                  simp only [Bool.and_eq_true] at hz
                  have e1 := Nat.eq_of_beq_eq_true hz.1
                  have hz' := Nat.eq_of_beq_eq_true hz.2.1
                  have e2 := Nat.eq_of_beq_eq_true hz.2.2
                  subst e1 e2
                  split
                  · rename_i c' hc'
                    split
                    · trivial
                    · rename_i hst'
                      refine ⟨fun ρ β F w hs => ?_, rfl⟩
                      obtain ⟨g, e0, hvw⟩ := (hv hs).asl
                      have hvv : evO ρ x = .slice (some ⟨g, p, none⟩) M M := hvw
                      obtain ⟨g', u0, e, hc, hst, hg⟩ := hs.hs.rr _ _ hL
                      rw [e0] at e; injection e with e; simp [pt] at e; subst e
                      obtain ⟨qq, mm, r, e2, hq, hcl⟩ := arrAt_ok hC.g 9 9 (by omega) hst hc ha
                      obtain ⟨css, hk, rfl⟩ := CK.of_flat hC.g hcl.arr_inv
                      have hl : css.length = M := by rw [hk.len, a.h]
                      obtain ⟨dss, hd, hkd⟩ := srcOf_ok hC.g hs hm (hw hs)
                      have hones := (szv_ok hC.g 9 hst hc 9 (by omega)).2
                      rw [e2] at hones
                      obtain ⟨sq, q1, q2⟩ := seg_of qq (fun v hv => hones v (by simp [hv]))
                      obtain ⟨sr, r1, r2⟩ := seg_of r (fun v hv => hones v (by simp [hv]))
                      have hB : Blk w g T'' [sq, Kd.seg (kA M (kC (sz Γ t))) ⟨css, hl⟩, sr] := by
                        unfold Blk
                        rw [hg]
                        congr 2
                        have : cellsOf [sq, Kd.seg (kA M (kC (sz Γ t))) ⟨css, hl⟩, sr] = u0.cells.toList := by
                          simp [cellsOf, q1, r1, e2, Kd.seg, kA]
                        rw [this, Array.toArray_toList]
                      refine OpV.mono (opv_copyArr (K := kC (sz Γ t)) (a := ⟨css, hl⟩) ho hTu hs1 hz' hvv rfl hB 1 rfl (by simp [sumN, q2, hq]) rfl hd) ?_
                      rintro u w' ⟨rfl, hB', fr⟩
                      have hk2 : CK w F t (a.copy m).l (Arr.copy ⟨css, hl⟩ dss).l := by
                        simp only [Arr.copy]
                        exact hk.splL (hkd.take _) 0
                      have hv2 : VR β w F (SV.v (.arr M t) (Arr.copy a m)) (.agg ((Arr.copy ⟨css, hl⟩ dss).l.flatMap (kC (sz Γ t)).enc).toArray) :=
                        .of (x := SV.v (.arr M t) (Arr.copy a m)) ⟨_, by have := CL.arr (p := ⟨.arr M t, Arr.copy a m⟩) rfl hk2.flat (CL.nil (w := w) (F := F)); rwa [List.append_nil] at this, rfl⟩
                      obtain ⟨u', hu', hsp3⟩ := wrc_ok hC.g 9 9 (by omega) hst hc (stv_v _ _ _) hv2 hc'
                      have e3 : u'.cells.toList = qq ++ ((Arr.copy ⟨css, hl⟩ dss).l.flatMap (kC (sz Γ t)).enc ++ r) := by
                        have h5 := hsp3.e
                        have h6 : (Value.agg ((Arr.copy (⟨css, hl⟩ : Arr M _) dss).l.flatMap (kC (sz Γ t)).enc).toArray).cells.toList = (Arr.copy ⟨css, hl⟩ dss).l.flatMap (kC (sz Γ t)).enc := by simp [Value.cells]
                        have h7 : ((Arr.copy (⟨css, hl⟩ : Arr M _) dss).l.flatMap (kC (sz Γ t)).enc).length = (css.flatMap (kC (sz Γ t)).enc).length := by rw [len_flat, len_flat, (Arr.copy (⟨css, hl⟩ : Arr M _) dss).h, hl]
                        rw [h6, e2, ← hq] at h5
                        rw [h5, h7]
                        simp
                      have hg' : w'.heap[g]? = some (.cells u'.cells T'' (0, 0)) := by
                        unfold Blk at hB'
                        rw [hB']
                        congr 2
                        apply Array.toList_inj.1
                        rw [List.toList_toArray, e3]
                        simp [cellsOf, q1, r1, Kd.seg, kA]
                      have hme : own β s.L b g := ⟨_, _, hL, rfl, e0, rfl⟩
                      have same : ∀ k, F k → w'.heap[k]? = w.heap[k]? := fun k hk => fr.blk k (hs.hs.fsz k hk) (fun h => by subst h; exact hs.hs.dis b k hme hk)
                      refine wr_ok hs hL rfl e0 (fr.mono fun j hj => by subst hj; rfl) ⟨g, u', e0, hu'.mono (fun _ _ h => h) (fun _ h => h) same, hst', hg'⟩ ?_
                      rw [hkd.len]; exact vr_int _ _
                  · trivial
                · trivial
              · trivial
            · trivial
          · trivial
    · trivial
  exact key _ _ rfl rfl
theorem xConv_ok (hC : CtOk P C) {T T' : TypeId} {x : Operand} (ho : o.op = .convert T T' x) : EffOk C P o s (xConv C s T T' (eo s x)) := by
  have key : ∀ px, eo s x = px → EffOk C P o s (xConv C s T T' px) := by
    intro px hx
    have hv : ∀ {ρ : Env} {β : Bt} {F : Nat → Prop} {w : World}, Sd C s ρ β F w → VR β w F px (evO ρ x) := fun h => hx ▸ h.eo x
    unfold xConv
    split
    · rename_i ti td hT hT'
      have h1 := (hC.tb _ _ hT).u
      have h2 := (hC.tb _ _ hT').u
      split
      · rename_i k k' e1 e2
        rw [e1] at h1
        rw [e2] at h2
        split
        · intro ρ β F w hs; exact ⟨_, xr_conv ho h1 h2 (hv hs).int, vr_int _ _⟩
        · trivial
      · rename_i E e1 e2
        rw [e1] at h1
        rw [e2] at h2
        split
        · rename_i hE
          split
          · rename_i l hl
            intro ρ β F w hs
            obtain ⟨css, hr, hk⟩ := srcOf_ok hC.g hs hl (hv hs)
            rw [chk_inv hk] at hr
            exact ⟨_, xr_toStr ho h1 (hC.tb _ _ hE).u h2 rfl (rd_int hr), vr_str _⟩
          · trivial
        · trivial
      · rename_i E e1 e2
        rw [e1] at h1
        rw [e2] at h2
        split
        · rename_i l hE
          refine ⟨fun ρ β F w hs => ?_, rfl⟩
          refine OpV.mono (opv_toBytesO (B := 0) ho h1 h2 (hC.tb _ _ hE).u (hv hs).str (Nat.zero_le _)) ?_
          rintro u w' ⟨hO, gr, hfr⟩
          have hsl : ∃ A l c, u = .slice A l c := by obtain ⟨g, cap, cur, fz, rfl, _⟩ := hO; exact ⟨_, _, _, rfl⟩
          exact new_ok hs gr (v0 := u) (fun β' _ h => ⟨u, h, hO⟩) (fun g hg => hfr g (blk_ob hsl hg)) (fun β' _ h => vr_sl h hsl)
        · trivial
      · trivial
    · trivial
  exact key _ rfl
theorem range_ok (hC : CtOk P C) {T : TypeId} {x : Operand} {l : List UInt8} {ti : TI Γ} (ho : o.op = .range T x) (hT : C.tb T = some ti) (hu : ti.u = .str) (hx : eo s x = .v .str l) : OpOk C P o s (.ptr s.nx 0) (s.new (.itr l 0)) := by
  intro ρ β F w hs
  have h1 := (hC.tb _ _ hT).u
  rw [hu] at h1
  have e := hs.eo x
  rw [hx] at e
  refine OpV.mono (opv_range ho h1 e.str) ?_
  rintro u w' ⟨g, rfl, hi, gr, hz⟩
  exact new_ok hs gr (v0 := pt g 0) (fun β' _ h => ⟨g, h, hi⟩) (fun g' hg => by simp [blk, pt] at hg; omega) (fun β' _ h => .of (x := SV.ptr _ _) ⟨g, h, rfl⟩)
theorem RhoOk.refl : RhoOk C s s := fun _ _ _ _ h => h.vr
theorem RhoOk.res {b : Nat} {r : Res Γ} : RhoOk C s (s.res b r) := fun _ _ _ _ h => h.vr
theorem xNext_ok {x : Operand} (ho : o.op = .next x true) : EffOk C P o s (xNext s (eo s x)) := by
  have key : ∀ px, eo s x = px → EffOk C P o s (xNext s px) := by
    intro px hx
    have hv : ∀ {ρ : Env} {β : Bt} {F : Nat → Prop} {w : World}, Sd C s ρ β F w → VR β w F px (evO ρ x) := fun h => hx ▸ h.eo x
    unfold xNext
    split
    · rename_i b p
      split
      · rename_i l i hL hb
        have e := Nat.eq_of_beq_eq_true hb
        subst e
        have G : ∀ {ρ : Env} {β : Bt} {F : Nat → Prop} {w : World}, Sd C s ρ β F w → ∃ g, β b = some (pt g 0) ∧ evO ρ x = pt g 0 ∧ Itr w g l i := by
          intro ρ β F w hs
          obtain ⟨g, e0, e1⟩ := (hv hs).ptr
          obtain ⟨g', e, hi⟩ := hs.hs.rr _ _ hL
          rw [e0] at e; injection e with e; simp [pt] at e; subst e
          exact ⟨g, e0, e1, hi⟩
        refine ⟨fun hc => ⟨fun ρ β F w hs => ?_, .res⟩, fun hc => ⟨OpPure.ok fun ρ β F w hs => ?_, .refl⟩⟩
        · obtain ⟨g, e0, e1, hi⟩ := G hs
          refine OpV.mono (opv_nextT ho e1 hi hc) ?_
          rintro u w' ⟨rfl, hi', fr⟩
          exact wr_ok hs hL rfl e0 (fr.mono fun j hj => by subst hj; rfl) ⟨g, e0, hi'⟩ (VL.tup (.cons (vr_bool _) (.cons (vr_int _ _) (.cons (vr_int _ _) .nil))) .nil)
        · obtain ⟨g, e0, e1, hi⟩ := G hs
          exact ⟨_, xr_nextF ho e1 hi hc, VL.tup (.cons (vr_bool _) .nil) .nil⟩
      · trivial
    · trivial
  exact key _ rfl
theorem setB_ok {x : Operand} {b : Bool} (h : eo s x = .v .bool b) : RhoOk C s (setB s x b) := by
  intro ρ β F w hs t
  unfold setB
  split
  · rename_i t'
    by_cases e : t = t'
    · subst e
      simp only [upd_same]
      have : VR β w F (s.ρ t) (ρ t) := hs.vr t
      have h' : s.ρ t = .v .bool b := h
      rw [h'] at this
      exact this
    · simp only
      rw [upd_ne _ _ e]
      exact hs.vr t
  · exact hs.vr t
theorem setB_L (x : Operand) (b : Bool) : (setB s x b).L = s.L ∧ (setB s x b).nx = s.nx := by unfold setB; split <;> exact ⟨rfl, rfl⟩
theorem OpOk.setB {v : SV Γ} {x : Operand} {b : Bool} (h : OpOk C P o s v s) : OpOk C P o s v (setB s x b) := by
  intro ρ β F w hs
  refine (h ρ β F w hs).mono fun u w' => ?_
  rintro ⟨β', F', h1, h2, h3, h4, h5⟩
  exact ⟨β', F', h1, by rw [(setB_L x b).1]; exact h2, by rw [(setB_L x b).2]; exact h3, h4, by rw [(setB_L x b).1]; exact h5⟩
theorem pick_ok {c a b : Operand} (ho : o.op = .pick c a b) : EffOk C P o s (match eo s c with
    | .v .bool v => .br v (setB s c true) (eo s a) (setB s c false) (eo s b)
    | _ => .stuck) := by
  split
  · rename_i v hc
    refine ⟨fun hv => ?_, fun hv => ?_⟩ <;> subst hv
    · refine ⟨OpOk.setB (OpPure.ok fun ρ β F w hs => ?_), setB_ok hc⟩
      have e := hs.eo c
      rw [hc] at e
      exact ⟨_, xr_pickT ho e.bool rfl rfl, hs.eo a⟩
    · refine ⟨OpOk.setB (OpPure.ok fun ρ β F w hs => ?_), setB_ok hc⟩
      have e := hs.eo c
      rw [hc] at e
      exact ⟨_, xr_pickF ho e.bool rfl rfl, hs.eo b⟩
  · trivial
theorem ptrs_ok : ∀ {l : List (SV Γ)} {us : List Value}, stv.all ptrB l = true → VL β w F l us → ∃ css : List (Ck 1), css.flatMap (kC 1).enc = cellsV us ∧ css.length = l.length ∧ ∀ (k : Nat) y, l[k]? = some y → ∃ u, (ix css (k : Int)).1 = [u] ∧ VR β w F y u
  | [], us, h, hv => by cases hv; exact ⟨[], rfl, rfl, by simp⟩
  | x :: l, us, h, hv => by
    simp only [stv.all, Bool.and_eq_true] at h
    obtain ⟨u, r, rfl, h1, h2⟩ := hv.cons_inv
    obtain ⟨css, i1, i2, i3⟩ := ptrs_ok h.2 h2
    cases x <;> simp only [ptrB] at h <;> try (exact absurd h.1 (by decide))
    case ptr b o =>
      obtain ⟨g, _, hu⟩ := h1.ptr
      subst hu
      refine ⟨⟨[pt g o], rfl, by simp [pt, Value.oneCell']⟩ :: css, ?_, by simp [i2], fun k y hk => ?_⟩
      · rw [List.flatMap_cons, i1]
        rfl
      · cases k with
        | zero =>
          simp at hk
          subst hk
          exact ⟨_, rfl, h1⟩
        | succ k =>
          obtain ⟨u, j1, j2⟩ := i3 k y (by simpa using hk)
          refine ⟨u, ?_, j2⟩
          rw [← j1]
          unfold ix
          rw [Int.toNat_natCast, Int.toNat_natCast]
          rfl
theorem xIdx_ok (hC : CtOk P C) {T : TypeId} {x j : Operand} (ho : o.op = .index T x j) : EffOk C P o s (xIdx C T (eo s x) (eo s j)) := by
  have key : ∀ px pj, eo s x = px → eo s j = pj → EffOk C P o s (xIdx C T px pj) := by
    intro px pj hx hj
    have hv : ∀ {ρ : Env} {β : Bt} {F : Nat → Prop} {w : World}, Sd C s ρ β F w → VR β w F px (evO ρ x) := fun h => hx ▸ h.eo x
    have hw : ∀ {ρ : Env} {β : Bt} {F : Nat → Prop} {w : World}, Sd C s ρ β F w → VR β w F pj (evO ρ j) := fun h => hj ▸ h.eo j
    unfold xIdx
    split
    · rename_i l k i _ _ _ _ hT
      intro g ρ β F w hs
      exact ⟨_, xr_indexStr ho (hC.tb _ _ hT).u (hv hs).str (hw hs).int g.1 g.2, vr_int _ _⟩
    · rename_i N t a k i M E _ _ _ _ hT
      split
      · rename_i te hb hE
        have e := Nat.eq_of_beq_eq_true hb
        subst e
        split
        · rename_i hb2
          rw [Bool.and_eq_true] at hb2
          have hz := Nat.eq_of_beq_eq_true hb2.1
          have hTe := hC.tb _ _ hE
          have hag : isAgg t = te.agg := by
            have := hb2.2
            cases h1 : te.agg <;> cases h2 : isAgg t <;> simp [h1, h2] at this ⊢
          intro g ρ β F w hs
          obtain ⟨cs, h1, h2⟩ := (hv hs).v
          simp [pk, isAgg] at h2
          obtain ⟨css, hk, rfl⟩ := CK.of_flat hC.g h1.arr_inv
          have hl : css.length = N := by rw [hk.len, a.h]
          have hget := hk.get g.1 (by rw [a.h]; exact g.2)
          have hA : evO ρ x = aggV [Kd.seg (kA N (kC (sz Γ t))) ⟨css, hl⟩] := by rw [h2]; simp [aggV, cellsOf, Kd.seg, kA]
          have hsz : szB P E = some (sz Γ t) := by rw [hTe.size, hz]
          cases hg : te.agg with
          | false =>
            have h1' := hTe.one hg
            have hlen : (ix css i).1.length = 1 := by rw [(ix css i).2.1, hz, h1']
            match hm : (ix css i).1, hlen with
            | [v], _ => 
              refine ⟨v, xr_indexArr1 (K := kC (sz Γ t)) (a := ⟨css, hl⟩) ho (hC.tb _ _ hT).u (by rw [hTe.agg, hg]) hsz hA (hw hs).int hm g.1 g.2 rfl, .of (x := SV.v t (Arr.get a i)) ⟨[v], ?_, by rw [pk, hag, hg]⟩⟩
              have := hget
              rw [hm] at this
              exact this
          | true =>
            obtain ⟨sg, q1, q2⟩ := seg_of (ix css i).1 (ix css i).2.2
            refine ⟨aggV [sg], xr_indexArrS (K := kC (sz Γ t)) (a := ⟨css, hl⟩) (ss := [sg]) ho (hC.tb _ _ hT).u (by rw [hTe.agg, hg]) hsz hA (hw hs).int (by simp [cellsOf, q1, kC, Arr.get]) g.1 g.2 rfl, .of (x := SV.v t (Arr.get a i)) ⟨(ix css i).1, hget, by rw [pk, hag, hg]; simp [aggV, cellsOf, q1]⟩⟩
        · trivial
      · trivial
    · rename_i l k i M E _ _ _ _ hT
      split
      · rename_i te y hE hy
        split
        · rename_i hb
          simp only [Bool.and_eq_true] at hb
          have hTe := hC.tb _ _ hE
          have hz := Nat.eq_of_beq_eq_true hb.1.1
          have hg : te.agg = false := by simpa using hb.1.2
          have hM := Nat.eq_of_beq_eq_true hb.2.1
          intro g ρ β F w hs
          obtain ⟨us, hl, hu⟩ := (hv hs).agg
          obtain ⟨css, i1, i2, i3⟩ := ptrs_ok hb.2.2 hl
          have hcl : css.length = M := by rw [i2, hM]
          obtain ⟨u, j1, j2⟩ := i3 _ _ hy
          have hA : evO ρ x = aggV [Kd.seg (kA M (kC 1)) ⟨css, hcl⟩] := by rw [hu, ← i1]; simp [aggV, cellsOf, Kd.seg, kA]
          refine ⟨u, xr_indexArr1 (K := kC 1) (a := ⟨css, hcl⟩) ho (hC.tb _ _ hT).u (by rw [hTe.agg, hg]) (by rw [hTe.size, hz]; rfl) hA (hw hs).int ?_ g.1 g.2 rfl, j2⟩
          rw [Int.toNat_of_nonneg g.1] at j1
          exact j1
        · trivial
      · trivial
    · trivial
  exact key _ _ rfl rfl
end
section
variable {Γ : Gm} {P : Program} {C : Ct Γ} {s : St Γ} {o : Oper} {w w' : World} {F F' : Nat → Prop} {β : Bt} {ρ : Env}
structure Frz0 (C : Ct Γ) (β : Bt) (F : Nat → Prop) (w : World) (L : Nat → Option (Res Γ)) (F' : Nat → Prop) (L' : Nat → Option (Res Γ)) : Prop where
  fm : ∀ k, F k → F' k
  fb : ∀ k, F' k → F k ∨ ∃ b, own β L b k
  hs : HS C β F' w L'
  le : ∀ b g, own β L' b g → own β L b g
theorem Frz.to0 {l : List Nat} {L L' : Nat → Option (Res Γ)} (h : Frz C β F w L l F' L') : Frz0 C β F w L F' L' := ⟨h.fm, h.fb, h.hs, h.le⟩
theorem Left.of_frz {s' s'' : St Γ} {v : SV Γ} {u : Value} (hz : Frz0 C β F w s.L F' s'.L) (h : Left C s' β F' w v s'' u w') : Left C s β F w v s'' u w' := by
  obtain ⟨β', F'', h1, h2, h3, h4, h5⟩ := h
  refine ⟨β', F'', ⟨h1.ext, fun k hk => h1.fm k (hz.fm k hk), h1.fr.mono fun j ⟨b, hb⟩ => ⟨b, hz.le _ _ hb⟩, fun k hk => ?_⟩, h2, h3, h4, fun b g hb => ?_⟩
  · rcases h1.fb k hk with h | ⟨b, h⟩ | h
    · rcases hz.fb k h with h | h
      · exact .inl h
      · exact .inr (.inl h)
    · exact .inr (.inl ⟨b, hz.le _ _ h⟩)
    · exact .inr (.inr h)
  · rcases h5 b g hb with ⟨b', h⟩ | h
    · exact .inl ⟨b', hz.le _ _ h⟩
    · exact .inr h
theorem Frz0.trans {L L' L'' : Nat → Option (Res Γ)} {F'' : Nat → Prop} (h : Frz0 C β F w L F' L') (k : Frz0 C β F' w L' F'' L'') : Frz0 C β F w L F'' L'' :=
  ⟨fun x hx => k.fm x (h.fm x hx), fun x hx => by
    rcases k.fb x hx with hx | ⟨b, hx⟩
    · exact h.fb x hx
    · exact .inr ⟨b, h.le _ _ hx⟩, k.hs, fun b g hb => h.le _ _ (k.le _ _ hb)⟩
theorem frz_one {n : Nat} {t : Ty Γ.S} {x : SV Γ} {y : el Γ.toSg t} {u : Value} (h : frz s n t x = some y) (ht : isAgg t = false) (hv : VR β w F x u) : u.cells.toList = [u] := by
  cases n with
  | zero => simp [frz] at h
  | succ n =>
    have G : u.oneCell' = true → u.cells.toList = [u] := cells_one'
    cases x with
    | v t' y' =>
      have h : PV.cst t ⟨t', y'⟩ = some y := h
      have e := PV.cst_eq h
      injection e with e1 e2
      subst e1
      exact ((aggv_ok 9 (stv_v _ _ _) hv).2 ht).2
    | agg l => cases t <;> simp [isAgg] at ht <;> simp [frz] at h
    | nils => rw [hv.nils]; rfl
    | sl b n' cs =>
      obtain ⟨v0, e0, hsv, hvw⟩ := hv.sl
      obtain ⟨A, l, k, rfl⟩ := vw_one hvw hsv
      rfl
    | asl b p N n' cs =>
      obtain ⟨g, e0, hvw⟩ := hv.asl
      obtain ⟨A, l, k, rfl⟩ := vw_one hvw ⟨_, _, _, rfl⟩
      rfl
    | _ => cases t <;> simp [frz, slc] at h
theorem tak_frz {t : Ty Γ.S} {x : SV Γ} {y : el Γ.toSg t} {s' : St Γ} (h : tak s t x = some (y, s')) : frz s 9 t x = some y ∧ s'.ρ = s.ρ ∧ s'.nx = s.nx := by
  unfold tak at h
  split at h
  · rename_i y' hf
    split at h
    · cases h; exact ⟨hf, rfl, rfl⟩
    · cases h
  · cases h
theorem lits_ρ {t : Ty Γ.S} : ∀ {ps : List (Nat × SV Γ)} {s s' : St Γ} {k : Nat} {l : List (el Γ.toSg t)}, lits t s k ps = some (l, s') → s'.ρ = s.ρ ∧ s'.nx = s.nx
  | [], s, s', k, l, h => by cases h; exact ⟨rfl, rfl⟩
  | (j, y) :: ps, s, s', k, l, h => by
    unfold lits at h
    split at h
    · cases h
    · split at h
      · rename_i z s1 ht
        split at h
        · rename_i l' s'' hl
          cases h
          obtain ⟨_, e1, e2⟩ := tak_frz ht
          obtain ⟨e3, e4⟩ := lits_ρ hl
          exact ⟨by rw [e3, e1], by rw [e4, e2]⟩
        · cases h
      · cases h
theorem lits_ok (hC : GmOk Γ) {t : Ty Γ.S} : ∀ {ps : List (Nat × Operand)} {s0 : St Γ} {s s' : St Γ} {F : Nat → Prop} {k : Nat} {l : List (el Γ.toSg t)}, lits t s k (pMap s0 ps) = some (l, s') → (∀ p ∈ ps, eo s0 p.2 = eo s p.2) → Sd C s ρ β F w →
    ∃ F', Frz0 C β F w s.L F' s'.L ∧ Sd C s' ρ β F' w ∧ ∃ us css, PL ρ k ps us ∧ CK w F' t l css ∧ css.flatMap (kC (sz Γ t)).enc = cellsV us ∧ us.length = ps.length ∧ css.length = ps.length ∧ (isAgg t = false → ∀ u ∈ us, u.cells.toList = [u])
  | [], s0, s, s', F, k, l, h, he, hs => by
    cases h
    exact ⟨F, ⟨fun _ h => h, fun _ h => .inl h, hs.hs, fun _ _ h => h⟩, hs, [], [], trivial, .nil, rfl, rfl, rfl, by simp⟩
  | p :: ps, s0, s, s', F, k, l, h, he, hs => by
    have h : lits t s k ((p.1, eo s0 p.2) :: pMap s0 ps) = some (l, s') := h
    unfold lits at h
    split at h
    · cases h
    · rename_i hb
      have e := Nat.eq_of_beq_eq_true hb
      split at h
      · rename_i z s1 ht
        split at h
        · rename_i l' s'' hl
          cases h
          have hv := hs.eo p.2
          rw [← he p (by simp)] at hv
          obtain ⟨F1, z1, hcl, e1, e2, hs1⟩ := tak_ok hC hs ht hv
          have he' : ∀ q ∈ ps, eo s0 q.2 = eo s1 q.2 := fun q hq => by
            rw [he q (by simp [hq])]
            cases q.2 <;> simp [eo, e1]
          obtain ⟨F2, z2, hs2, us, css, i1, i2, i3, i4, i6, i5⟩ := lits_ok hC hl he' hs1
          refine ⟨F2, z1.to0.trans z2, hs2, evO ρ p.2 :: us, ⟨(evO ρ p.2).cells.toList, by have := hcl.len hC; simpa [szp] using this, hcl.one⟩ :: css, ⟨e, rfl, i1⟩, .cons (hcl.mono z2.fm (fun _ _ => rfl)) i2, ?_, by simp [i4], by simp [i6], fun ha u hu => ?_⟩
          · rw [List.flatMap_cons, i3]
            simp [cellsV, kC]
          · rcases List.mem_cons.1 hu with rfl | hu
            · exact frz_one (tak_frz ht).1 ha hv
            · exact i5 ha u hu
        · cases h
      · cases h
theorem pMap_len (s : St Γ) : ∀ l : List (Nat × Operand), (pMap s l).length = l.length
  | [] => rfl
  | _ :: l => congrArg (· + 1) (pMap_len s l)
theorem cellsV_self : ∀ {us : List Value}, (∀ u ∈ us, u.cells.toList = [u]) → cellsV us = us
  | [], _ => rfl
  | u :: us, h => by
    have h1 := cellsV_self (us := us) fun v hv => h v (by simp [hv])
    simp only [cellsV, List.flatMap_cons] at h1 ⊢
    rw [h u (by simp), h1]; rfl
theorem sz_one {t : Ty Γ.S} (h : isAgg t = false) : sz Γ t = 1 := by cases t <;> simp [isAgg] at h <;> rfl
theorem opv_litP {T E : TypeId} {m bs : Nat} {zv : Value} {pl : List (Nat × Operand)} {vals : List Value} (ho : o.op = .buildSlice T m pl.toArray) (hT : P.underlying T = some (.slice E)) (hE : elB P E = some (some zv, 1, bs)) (hz : zv.cells.size = 1)
    (hPL : PL ρ 0 pl vals) (hm : vals.length = m) (hone : ∀ u ∈ vals, u.oneCell' = true) (hmm : Nat.ble m 4096 = true) : OpV P o ρ w (fun u w' => u = .slice (some ⟨w.heap.size, 0, none⟩) m m ∧ w' = w.alloc (.cells vals.toArray E)) := by
  obtain ⟨i, hi, hiz, his, hib⟩ := elB_parts hE
  obtain ⟨parts, hparts⟩ : ∃ parts, parts = pl.toArray := ⟨_, rfl⟩
  rw [← hparts] at ho
  have hp : (parts.map fun p => (p.1, evO ρ p.2)).toList = (vals.zipIdx 0).map fun p => (p.2, p.1) := by rw [hparts, ← hPL.eq]; simp
  have hmm' : m ≤ 4096 := Nat.le_of_ble_eq_true hmm
  have hfill : ∀ c : Array Value, c.size = m → Instr.fill (fun i => some (i * 1, 1)) c (parts.map fun p => (p.1, evO ρ p.2)).toList = some vals.toArray := by
    intro c hc
    have := fill_one vals hone 0 c.toList (by simp [hm, hc])
    rw [hp]
    simp only [Array.toArray_toList, List.take_zero, List.nil_append, Nat.zero_add] at this
    rw [this, hm, List.drop_of_length_le (by simp [hc]), List.append_nil]
  refine opv_val (w' := w.alloc (.cells vals.toArray E)) (v := .slice (some ⟨w.heap.size, 0, none⟩) m m) ?_ ⟨rfl, rfl⟩
  have hfill' : ∀ c : Array Value, c.size = m → Instr.fill (fun i => some (i, 1)) c (List.map (fun p => (p.1, evO ρ p.2)) parts.toList) = some vals.toArray := fun c hc => by simpa using hfill c hc
  have hle : ¬ 16777216 < m := by omega
  simp only [execOp, ho]
  by_cases h0 : m = 0
  · subst h0
    simp [Instr.buildSlice, run_underlying hT, sizeOf, typeInfo, hi, his, newRow, hfill']
  · simp [Instr.buildSlice, run_underlying hT, sizeOf, typeInfo, hi, his, newRow, zeroValue, hiz, h0, hle, hfill']
theorem stay1_one {y : SV Γ} {u : Value} (h : stay1 s y = true) (hv : VR β w F y u) : u.cells.toList = [u] ∧ u.oneCell' = true ∧ stv 8 y = true := by
  cases y <;> simp only [stay1] at h <;> try cases h
  case ptr => obtain ⟨g, _, rfl⟩ := hv.ptr; exact ⟨rfl, rfl, rfl⟩
  case sl =>
    obtain ⟨v0, _, hsv, hvw⟩ := hv.sl
    obtain ⟨A, l, k, rfl⟩ := vw_one hvw hsv
    exact ⟨rfl, rfl, rfl⟩
theorem stays_ok : ∀ {ps : List (Nat × Operand)} {k : Nat} {l : List (SV Γ)}, stays s k (pMap s ps) = some l → Sd C s ρ β F w → ∃ us, PL ρ k ps us ∧ VL β w F l us ∧ (∀ u ∈ us, u.cells.toList = [u]) ∧ (∀ u ∈ us, u.oneCell' = true) ∧ us.length = ps.length
  | [], k, l, h, hs => by cases h; exact ⟨[], trivial, .nil, by simp, by simp, rfl⟩
  | p :: ps, k, l, h, hs => by
    have h : stays s k ((p.1, eo s p.2) :: pMap s ps) = some l := h
    unfold stays at h
    split at h
    · rename_i hb
      rw [Bool.and_eq_true] at hb
      split at h
      · rename_i l' hl
        cases h
        have hv := hs.eo p.2
        obtain ⟨us, i1, i2, i3, i4, i5⟩ := stays_ok hl hs
        obtain ⟨j1, j2, _⟩ := stay1_one hb.2 hv
        refine ⟨evO ρ p.2 :: us, ⟨Nat.eq_of_beq_eq_true hb.1, rfl, i1⟩, .cons hv i2, fun u hu => ?_, fun u hu => ?_, by simp [i5]⟩
        · rcases List.mem_cons.1 hu with rfl | hu
          · exact j1
          · exact i3 u hu
        · rcases List.mem_cons.1 hu with rfl | hu
          · exact j2
          · exact i4 u hu
      · cases h
    · cases h
theorem stays_stv : ∀ {ps : List (Nat × SV Γ)} {k : Nat} {l : List (SV Γ)}, stays s k ps = some l → stv.all (stv 8) l = true
  | [], k, l, h => by cases h; rfl
  | (j, y) :: ps, k, l, h => by
    unfold stays at h
    split at h
    · rename_i hb
      rw [Bool.and_eq_true] at hb
      split at h
      · rename_i l' hl
        cases h
        have h1 := stays_stv hl
        have h2 : stv 8 y = true := by
          have h3 := hb.2
          cases y <;> simp only [stay1] at h3 <;> first | rfl | cases h3
        simp only [stv.all, h1, h2, Bool.and_true]
      · cases h
    · cases h
theorem opv_build0 {P : Program} {ρ : Env} {w : World} {o : Oper} {T E : TypeId} {α : Type} {K : Kd α} {B bs : Nat} {zv : Value} (ho : o.op = .buildSlice T 0 #[]) (hT : P.underlying T = some (.slice E)) (hE : elB P E = some (some zv, K.size, bs)) (hB : B ≤ w.heap.size) : OpV P o ρ w (NewR K E B w ([] : List α)) := by
  obtain ⟨i, hi, hiz, his, hib⟩ := elB_parts hE
  refine opv_val (w' := w.alloc (.cells #[] E)) (v := .slice (some ⟨w.heap.size, 0, none⟩) 0 0) ?_ ⟨⟨by simp, .inr ⟨w.heap.size, 0, #[], rfl, hB, heap_alloc_new w _, Nat.le_refl _, by simp only [maxLen]; omega, by simp, by simp⟩⟩, Fr.alloc w _, fun g hg => by simp [Value.ownBlock] at hg; omega⟩
  simp only [execOp, ho]
  have e : Array.range 0 = #[] := by apply Array.ext'; simp
  simp [Instr.buildSlice, run_underlying hT, sizeOf, typeInfo, hi, his, newRow, Instr.fill, e]
theorem xLit_ok (hC : CtOk P C) {T : TypeId} {n : Nat} {pl : List (Nat × Operand)} (ho : o.op = .buildSlice T n pl.toArray) : EffOk C P o s (xLit C s T n (pMap s pl)) := by
  unfold xLit
  split
  · rename_i E _ _ _ _ hT
    split
    · rename_i x l hst
      split
      · rename_i te hE
        split
        · rename_i hb
          rw [Bool.and_eq_true, Bool.and_eq_true] at hb
          obtain ⟨hb1, hb2, hb3⟩ := hb
          have hlen := Nat.eq_of_beq_eq_true hb2
          rw [pMap_len] at hlen
          obtain ⟨z, bs, e1, e2, e3, e4, e5⟩ := (hC.tb _ _ hE).zero
          rw [Nat.eq_of_beq_eq_true hb1] at e1 e5
          refine ⟨fun ρ β F w hs => ?_, rfl⟩
          obtain ⟨us, i1, i2, i3, i4, i5⟩ := stays_ok hst hs
          refine OpV.mono (opv_litP ho (hC.tb _ _ hT).u e1 e5 i1 (by rw [i5, hlen]) i4 (by rw [Nat.ble_eq] at hb3 ⊢; omega)) ?_
          rintro u w' ⟨rfl, rfl⟩
          have gr := Fr.alloc w (.cells us.toArray E)
          have hcs : cellsV us = us := cellsV_self i3
          exact new_ok hs gr (v0 := pt w.heap.size 0) (fun β' he hb => ⟨_, .agg (cellsV us).toArray, hb, VL.agg (i2.mono he (fun _ h => h) (gr_same hs.hs gr)) .nil, stays_stv hst, by rw [hcs]; exact heap_alloc_new w _⟩) (fun g hg => by simp [blk, pt] at hg; omega) (fun β' _ hb => .of (x := SV.asp _ _ _) ⟨_, _, hb, rfl, Nat.le_refl _⟩)
        · trivial
      · trivial
    split
    · rename_i t m hc
      obtain ⟨rfl, z, bs, e1, e2, e3⟩ := codeOf_ok hC hc
      split
      · rename_i hb
        rw [Bool.and_eq_true, Bool.and_eq_true] at hb
        obtain ⟨hb1, hn, hb2⟩ := hb
        have hlen := Nat.eq_of_beq_eq_true hb1
        rw [pMap_len] at hlen
        split
        · rename_i l s' hl
          refine ⟨fun ρ β F w hs => ?_, (lits_ρ hl).1⟩
          obtain ⟨F', hz, hs', us, css, i1, i2, i3, i4, i6, i5⟩ := lits_ok hC.g hl (fun _ _ => rfl) hs
          cases ha : isAgg t with
          | false =>
            have h1 := sz_one ha
            have hus : us = css.flatMap (kC (sz Γ t)).enc := by rw [i3, cellsV_self (i5 ha)]
            have hl2 : css.length = n := by
              have := congrArg List.length hus
              rw [len_flat, i4, hlen] at this
              simp [kC, h1] at this
              exact this.symm
            refine OpV.mono (opv_buildSlice (K := kC (sz Γ t)) (xs := css) (B := 0) ho (hC.tb _ _ hT).u (by rw [e1, h1]) h1 (by rw [e3, h1]) i1 hl2 hus hn (Nat.zero_le _)) ?_
            rintro u w' ⟨hO, gr, hfr⟩
            exact Left.of_frz hz (row_new hs' gr hO i2 hfr)
          | true =>
            simp only [ha, Bool.not_true, Bool.false_or, Bool.and_eq_true] at hb2
            have h1 : n = 0 ∨ n = 1 := by have := Nat.le_of_ble_eq_true hb2.1.1; omega
            rw [hlen] at i4 i6
            rcases h1 with rfl | rfl
            · match us, i4, css, i6, i1, i2, i3 with
              | [], _, [], _, i1, i2, i3 =>
                match pl, hlen with
                | [], _ =>
                  refine OpV.mono (opv_build0 (K := kC (sz Γ t)) (B := 0) ho (hC.tb _ _ hT).u e1 (Nat.zero_le _)) ?_
                  rintro u w' ⟨hO, gr, hfr⟩
                  exact Left.of_frz hz (row_new hs' gr hO i2 hfr)
            match us, i4, css, i6, i1, i2, i3 with
            | [u0], _, [d], _, i1, i2, i3 =>
              match pl, hlen, i1 with
              | [(j, x)], _, i1 =>
                have e0 : j = 0 := i1.1
                subst e0
                refine OpV.mono (opv_buildRec (K := kC (sz Γ t)) (z := d) (v := u0) (B := 0) ho (hC.tb _ _ hT).u e1 hb2.1.2 hb2.2 i1.2.1 ?_ (Nat.zero_le _)) ?_
                · have i3' : d.1 = u0.cells.toList := by simpa [cellsV, kC] using i3
                  show u0.cells = d.1.toArray
                  rw [i3', Array.toArray_toList]
                · rintro u w' ⟨hO, gr, hfr⟩
                  exact Left.of_frz hz (row_new hs' gr hO i2 hfr)
        · trivial
      · trivial
    · trivial
  · trivial
end
end Go.Yw
