/- Closed facts on the program that every row of the seat asks for. Written by facts.py. -/
import Derived.Test.YtjhajfkfhdnciaaRows
import Derived.WalkKit
import Derived.ProofKit
import Derived.JoinedOf
import Derived.KernelRfl
set_option linter.unusedVariables false
namespace Go.Proofs.Ytjhajfkfhdnciaa.Facts
open Go
def cs (l : List Nat) : List Char := l.map Char.ofNat
def w0 : List Nat := [104, 97, 114, 110, 101, 115, 115]
def w1 : List Nat := [100, 50, 55, 50, 56, 48, 99, 98, 57, 52, 53, 57, 53, 98, 98, 53, 49, 50, 98, 102, 99, 54, 102, 54, 50, 97, 98, 98, 53, 99, 48, 101, 101, 49, 100, 102, 57, 56, 50, 52, 102, 48, 49, 100, 51, 51, 100, 52, 98, 101, 57, 97, 54, 99, 54, 97, 52, 97, 48, 55, 53, 51, 101, 101]
def w2 : List Nat := [99, 117, 116]
def w3 : List Nat := [97, 116]
def rest : List Nat := [114, 105, 99, 107, 121, 97, 114, 100, 47, 114, 105, 99, 107, 121, 97, 114, 100, 108, 97, 119, 48, 55, 46, 66, 108, 111, 99, 107, 83, 101, 97, 108, 115, 32, 114, 105, 99, 107, 121, 97, 114, 100, 47, 114, 105, 99, 107, 121, 97, 114, 100, 108, 97, 119, 48, 55, 46, 66, 108, 111, 99, 107, 79, 112, 101, 110, 115, 32, 114, 105, 99, 107, 121, 97, 114, 100, 47, 114, 105, 99, 107, 121, 97, 114, 100, 108, 97, 119, 48, 55, 46, 66, 108, 111, 99, 107, 84, 117, 114, 110, 101, 100, 32, 114, 105, 99, 107, 121, 97, 114, 100, 47, 114, 105, 99, 107, 121, 97, 114, 100, 108, 97, 119, 48, 55, 46, 66, 108, 111, 99, 107, 79, 99, 116, 101, 116, 32, 114, 105, 99, 107, 121, 97, 114, 100, 47, 114, 105, 99, 107, 121, 97, 114, 100, 108, 97, 119, 48, 56, 46, 78, 111, 100, 101, 71, 101, 116, 115, 32, 114, 105, 99, 107, 121, 97, 114, 100, 47, 114, 105, 99, 107, 121, 97, 114, 100, 108, 97, 119, 48, 56, 46, 78, 111, 100, 101, 79, 114, 100, 101, 114, 115, 32, 114, 105, 99, 107, 121, 97, 114, 100, 47, 114, 105, 99, 107, 121, 97, 114, 100, 108, 97, 119, 48, 56, 46, 78, 111, 100, 101, 80, 117, 116, 115, 32, 114, 105, 99, 107, 121, 97, 114, 100, 47, 114, 105, 99, 107, 121, 97, 114, 100, 108, 97, 119, 48, 56, 46, 78, 111, 100, 101, 83, 97, 109, 101, 115, 32, 114, 105, 99, 107, 121, 97, 114, 100, 47, 114, 105, 99, 107, 121, 97, 114, 100, 108, 97, 119, 48, 57, 46, 80, 97, 103, 101, 76, 101, 97, 118, 101, 115, 32, 114, 105, 99, 107, 121, 97, 114, 100, 47, 114, 105, 99, 107, 121, 97, 114, 100, 108, 97, 119, 48, 57, 46, 80, 97, 103, 101, 83, 101, 97, 116, 115, 32, 114, 105, 99, 107, 121, 97, 114, 100, 47, 114, 105, 99, 107, 121, 97, 114, 100, 108, 97, 119, 48, 57, 46, 80, 97, 103, 101, 70, 97, 110, 115, 32, 114, 105, 99, 107, 121, 97, 114, 100, 47, 114, 105, 99, 107, 121, 97, 114, 100, 108, 97, 119, 48, 57, 46, 80, 97, 103, 101, 82, 101, 97, 100, 115, 32, 114, 105, 99, 107, 121, 97, 114, 100, 47, 114, 105, 99, 107, 121, 97, 114, 100, 108, 97, 119, 49, 48, 46, 67, 104, 97, 114, 116, 77, 97, 114, 107, 115, 32, 114, 105, 99, 107, 121, 97, 114, 100, 47, 114, 105, 99, 107, 121, 97, 114, 100, 108, 97, 119, 49, 48, 46, 67, 104, 97, 114, 116, 84, 101, 108, 108, 115, 32, 114, 105, 99, 107, 121, 97, 114, 100, 47, 114, 105, 99, 107, 121, 97, 114, 100, 108, 97, 119, 49, 48, 46, 67, 104, 97, 114, 116, 71, 101, 116, 115, 32, 114, 105, 99, 107, 121, 97, 114, 100, 47, 114, 105, 99, 107, 121, 97, 114, 100, 108, 97, 119, 49, 48, 46, 67, 104, 97, 114, 116, 80, 117, 116, 115, 32, 114, 105, 99, 107, 121, 97, 114, 100, 47, 114, 105, 99, 107, 121, 97, 114, 100, 108, 97, 119, 49, 49, 46, 76, 97, 98, 101, 108, 81, 117, 101, 117, 101, 115, 32, 114, 105, 99, 107, 121, 97, 114, 100, 47, 114, 105, 99, 107, 121, 97, 114, 100, 108, 97, 119, 49, 49, 46, 76, 97, 98, 101, 108, 84, 114, 101, 101, 115, 32, 114, 105, 99, 107, 121, 97, 114, 100, 47, 114, 105, 99, 107, 121, 97, 114, 100, 108, 97, 119, 49, 49, 46, 76, 97, 98, 101, 108, 68, 105, 114, 115, 32, 114, 105, 99, 107, 121, 97, 114, 100, 47, 114, 105, 99, 107, 121, 97, 114, 100, 108, 97, 119, 49, 49, 46, 76, 97, 98, 101, 108, 82, 101, 97, 100, 115, 32, 114, 105, 99, 107, 121, 97, 114, 100, 47, 114, 105, 99, 107, 121, 97, 114, 100, 108, 97, 119, 49, 51, 46, 83, 117, 112, 101, 114, 71, 101, 116, 115, 32, 114, 105, 99, 107, 121, 97, 114, 100, 47, 114, 105, 99, 107, 121, 97, 114, 100, 108, 97, 119, 49, 51, 46, 83, 117, 112, 101, 114, 79, 99, 116, 101, 116, 115, 32, 114, 105, 99, 107, 121, 97, 114, 100, 47, 114, 105, 99, 107, 121, 97, 114, 100, 108, 97, 119, 49, 51, 46, 83, 117, 112, 101, 114, 80, 117, 116, 115, 32, 114, 105, 99, 107, 121, 97, 114, 100, 47, 114, 105, 99, 107, 121, 97, 114, 100, 108, 97, 119, 49, 51, 46, 83, 117, 112, 101, 114, 83, 97, 109, 101, 115]
theorem toList_is : Try.pinned.checked.prog.initOrder.toList = (cs w0 ++ Char.ofNat 32 :: (cs w1 ++ Char.ofNat 32 :: (cs w2 ++ Char.ofNat 32 :: (cs w3 ++ Char.ofNat 32 :: cs rest)))) := by
  have h : Try.pinned.checked.prog.initOrder = String.ofList (cs w0 ++ Char.ofNat 32 :: (cs w1 ++ Char.ofNat 32 :: (cs w2 ++ Char.ofNat 32 :: (cs w3 ++ Char.ofNat 32 :: cs rest)))) := by kernel_rfl
  rw [h]
  exact String.toList_ofList
theorem word_cut : ∀ (l r : List Char), (l.all fun c => !decide (c = Char.ofNat 32)) = true → wordsSigns (l ++ Char.ofNat 32 :: r) = l :: wordsSigns r
  | [], r, _ => rfl
  | c :: l, r, h => by
    rw [List.all_cons, Bool.and_eq_true] at h
    have hc : c ≠ Char.ofNat 32 := by simpa using h.1
    have ih := word_cut l r h.2
    have : wordsSigns (c :: (l ++ Char.ofNat 32 :: r)) = match wordsSigns (l ++ Char.ofNat 32 :: r) with
      | w :: ws => (c :: w) :: ws
      | [] => [[c]] := by
      conv => lhs; unfold wordsSigns
      split
      · rename_i heq; cases heq
      · rename_i heq; injection heq with h1 _; exact absurd h1 hc
      · rename_i heq; injection heq with h1 h2; subst h1 h2; rfl
    rw [List.cons_append, this, ih]
theorem pl0 : ((cs w0).all fun c => !decide (c = Char.ofNat 32)) = true := by kernel_rfl
theorem pl1 : ((cs w1).all fun c => !decide (c = Char.ofNat 32)) = true := by kernel_rfl
theorem pl2 : ((cs w2).all fun c => !decide (c = Char.ofNat 32)) = true := by kernel_rfl
theorem pl3 : ((cs w3).all fun c => !decide (c = Char.ofNat 32)) = true := by kernel_rfl
theorem words : wordsSigns Try.pinned.checked.prog.initOrder.toList = cs w0 :: cs w1 :: cs w2 :: cs w3 :: wordsSigns (cs rest) :=
  (congrArg wordsSigns toList_is).trans ((word_cut (cs w0) _ pl0).trans (congrArg (cs w0 :: ·) ((word_cut (cs w1) _ pl1).trans (congrArg (cs w1 :: ·) ((word_cut (cs w2) _ pl2).trans (congrArg (cs w2 :: ·) ((word_cut (cs w3) _ pl3).trans (congrArg (cs w3 :: ·) rfl))))))))
variable {P : Program} {X : List (List Char)}
theorem behind : behindMainWord (cs w0 :: cs w1 :: cs w2 :: cs w3 :: X) = cs w2 :: cs w3 :: X := by kernel_rfl
theorem strip : stripLifts liftWords (cs w2 :: cs w3 :: X) = ([], cs w2 :: cs w3 :: X) := by kernel_rfl
theorem heads (h : wordsSigns P.initOrder.toList = cs w0 :: cs w1 :: cs w2 :: cs w3 :: X) : P.headLifts = [] := by
  unfold Program.headLifts
  rw [h, behind, strip]
  kernel_rfl
theorem make_of (h : wordsSigns P.initOrder.toList = cs w0 :: cs w1 :: cs w2 :: cs w3 :: X) : P.make = some .cut := by
  unfold Program.make
  rw [h, behind]
  kernel_rfl
theorem lifts_of (h : wordsSigns P.initOrder.toList = cs w0 :: cs w1 :: cs w2 :: cs w3 :: X) : P.liftsFinal = false := by
  unfold Program.liftsFinal
  rw [h, behind, heads h]
  kernel_rfl
theorem enter_of (h : wordsSigns P.initOrder.toList = cs w0 :: cs w1 :: cs w2 :: cs w3 :: X) (h1 : P.laysLater = false) (h2 : P.bearsReflect = false) (h3 : P.doorFits [] = true) : P.mayEnter = true := by
  unfold Program.mayEnter
  rw [h, behind]
  simp only [strip]
  rw [h1, h2, h3]
  kernel_rfl
theorem lays : Try.pinned.checked.prog.laysLater = false := by kernel_rfl
theorem bears : Try.pinned.checked.prog.bearsReflect = false := by kernel_rfl
theorem doors : Try.pinned.checked.prog.doorFits [] = true := by kernel_rfl
theorem laid : laidOutB Try.pinned.checked.prog = true := by kernel_rfl
theorem rowed : mapsRowed Try.pinned.checked.prog = true := by kernel_rfl
theorem plain : Try.pinned.checked.prog.plainKeys = true := by kernel_rfl
theorem heard : Try.pinned.checked.prog.stopsHeard = true := by kernel_rfl
theorem own : ownKnob Try.pinned.checked.prog.godebug = none := by kernel_rfl
theorem make : Try.pinned.checked.prog.make = some .cut := make_of words
theorem lifts : Try.pinned.checked.prog.liftsFinal = false := lifts_of words
theorem enter : Try.pinned.checked.prog.mayEnter = true := enter_of words lays bears doors
end Go.Proofs.Ytjhajfkfhdnciaa.Facts
