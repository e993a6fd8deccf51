/- Three closed facts on the program's head, which each row of this seat asks. No conditions. -/
import Derived.Test.YtoalafkpkllebaaRows
import Derived.ProofKit
import Derived.KernelRfl
import Derived.JoinedOf
namespace Go.Proofs.Ytoalafkpkllebaa.Fx
open Go.RowKit
set_option maxRecDepth 100000
def c (n : Nat) : Char := Char.ofNat n
def head : List Char := [c 104, c 97, c 114, c 110, c 101, c 115, c 115, c 32, c 52, c 53, c 99, c 49, c 51, c 51, c 53, c 54, c 98, c 100, c 50, c 52, c 97, c 50, c 49, c 102, c 54, c 101, c 57, c 53, c 97, c 50, c 55, c 50, c 98, c 99, c 100, c 50, c 99, c 100, c 49, c 49, c 51, c 54, c 97, c 102, c 49, c 54, c 102, c 98, c 100, c 98, c 49, c 54, c 54, c 50, c 99, c 53, c 97, c 51, c 55, c 101, c 99, c 57, c 57, c 51, c 50, c 56, c 57, c 102, c 49, c 50, c 49, c 55, c 32, c 99, c 117, c 116, c 32, c 97, c 116, c 32, c 108, c 111, c 111, c 112, c 46, c 101, c 120, c 97, c 109, c 112, c 108, c 101, c 47, c 103, c 114, c 105, c 100, c 112, c 117, c 122, c 122, c 108, c 101, c 115, c 47, c 108, c 97, c 119, c 115, c 46, c 70, c 110, c 69, c 120, c 97, c 99, c 116, c 76, c 111, c 111, c 112, c 65, c 114, c 111, c 117, c 110, c 100]
theorem init_text : Try.prog.initOrder = "harness 45c13356bd24a21f6e95a272bcd2cd1136af16fbdb1662c5a37ec993289f1217 cut at loop.example/gridpuzzles/laws.FnExactLoopAround" := by delta Try.prog; delta Try.progTables; exact rfl
theorem init_eq : "harness 45c13356bd24a21f6e95a272bcd2cd1136af16fbdb1662c5a37ec993289f1217 cut at loop.example/gridpuzzles/laws.FnExactLoopAround" = String.ofList head := by kernel_rfl
theorem init_list : Try.prog.initOrder.toList = head := by rw [init_text, init_eq, String.toList_ofList]
def w0 : List Char := [c 99, c 117, c 116]
def ws : List (List Char) := [[c 97, c 116], [c 108, c 111, c 111, c 112, c 46, c 101, c 120, c 97, c 109, c 112, c 108, c 101, c 47, c 103, c 114, c 105, c 100, c 112, c 117, c 122, c 122, c 108, c 101, c 115, c 47, c 108, c 97, c 119, c 115, c 46, c 70, c 110, c 69, c 120, c 97, c 99, c 116, c 76, c 111, c 111, c 112, c 65, c 114, c 111, c 117, c 110, c 100]]
theorem ws_eq : behindMainWord (wordsSigns head) = w0 :: ws := by kernel_rfl
theorem words_eq : behindMainWord (wordsSigns Try.prog.initOrder.toList) = w0 :: ws := by rw [init_list]; exact ws_eq
theorem e1 : ((stripLifts liftWords (w0 :: ws)).2.head? == some "cut".toList) = true := by kernel_rfl
theorem e2 : ((stripLifts liftWords (w0 :: ws)).1.contains "finals" || !Try.prog.laysLater) = true := by kernel_rfl
theorem e3 : ((stripLifts liftWords (w0 :: ws)).1.contains "reflectrows" || !Try.prog.bearsReflect) = true := by kernel_rfl
theorem e4 : ((stripLifts liftWords (w0 :: ws)).1.contains "reflectrows" || !(stripLifts liftWords (w0 :: ws)).1.contains "leanrows") = true := by kernel_rfl
theorem e5 : Try.prog.doorFits (stripLifts liftWords (w0 :: ws)).1 = true := by kernel_rfl
theorem enter_of {P : Program} {c : List Char} {rest : List (List Char)} (h : behindMainWord (wordsSigns P.initOrder.toList) = c :: rest)
    (h1 : ((stripLifts liftWords (c :: rest)).2.head? == some "cut".toList) = true) (h2 : ((stripLifts liftWords (c :: rest)).1.contains "finals" || !P.laysLater) = true)
    (h3 : ((stripLifts liftWords (c :: rest)).1.contains "reflectrows" || !P.bearsReflect) = true) (h4 : ((stripLifts liftWords (c :: rest)).1.contains "reflectrows" || !(stripLifts liftWords (c :: rest)).1.contains "leanrows") = true)
    (h5 : P.doorFits (stripLifts liftWords (c :: rest)).1 = true) : P.mayEnter = true := by
  unfold Program.mayEnter
  rw [h]
  show (_ || _ || (_ && _ && _ && _ && _)) = true
  rw [h1, h2, h3, h4, h5, Bool.or_eq_true]
  exact .inr rfl
theorem enter : Try.prog.mayEnter = true := enter_of words_eq e1 e2 e3 e4 e5
theorem lifts_of {P : Program} {l : List (List Char)} (h : behindMainWord (wordsSigns P.initOrder.toList) = l) (h1 : (stripLifts liftWords l).1 = []) : P.headLifts = [] := by
  unfold Program.headLifts
  rw [h]
  show (if _ then (stripLifts liftWords l).1 else []) = []
  rw [h1]; split <;> rfl
theorem lifts : Try.prog.headLifts = [] := lifts_of words_eq (by kernel_rfl)
theorem final_of {P : Program} {c : List Char} {rest : List (List Char)} (h : behindMainWord (wordsSigns P.initOrder.toList) = c :: rest) (h1 : (some c == some "carried".toList) = false) (h2 : P.headLifts = []) : P.liftsFinal = false := by
  unfold Program.liftsFinal
  rw [h, h2]
  show ((some c == some "carried".toList) && _ || _) = false
  rw [h1]; rfl
theorem final : Try.prog.liftsFinal = false := final_of words_eq (by kernel_rfl) lifts
theorem make_of {P : Program} {c : List Char} {rest : List (List Char)} (h : behindMainWord (wordsSigns P.initOrder.toList) = c :: rest) (h1 : (c == "gc".toList || c == "spec".toList) = false) (h2 : (c == "cut".toList) = true) : P.make = some .cut := by
  unfold Program.make
  rw [h]
  show (if _ then _ else if _ then _ else _) = _
  rw [if_neg (by rw [h1]; simp), if_pos (by rw [h2]; rfl)]
theorem make : Try.prog.make = some .cut := make_of words_eq (by kernel_rfl) (by kernel_rfl)
end Go.Proofs.Ytoalafkpkllebaa.Fx
