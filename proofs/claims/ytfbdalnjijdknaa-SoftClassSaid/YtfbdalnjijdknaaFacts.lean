/- What a cut program's words say: proved by laws over lists of letters, since the kernel's own reading of the whole takes more memory than there is. -/
import Derived.Test.YtfbdalnjijdknaaRows
import Derived.JoinedOf
namespace Go.Proofs.Ytfbdalnjijdknaa.Facts
open Go
set_option linter.unusedVariables false
set_option linter.unusedSimpArgs false
theorem words_at : ∀ (a b : List Char), ' ' ∉ a → wordsSigns (a ++ ' ' :: b) = a :: wordsSigns b
  | [], b, _ => by simp [wordsSigns]
  | c :: a, b, h => by
    have h1 : c ≠ ' ' := fun e => h (by simp [e])
    have h2 : ' ' ∉ a := fun e => h (by simp [e])
    rw [List.cons_append, wordsSigns, words_at a b h2]
    exact h1
theorem strip_none (w : List Char) (ws : List (List Char)) : ∀ os : List String, (∀ o ∈ os, (w == o.toList) = false) → stripLifts os (w :: ws) = ([], w :: ws)
  | [], _ => by simp [stripLifts]
  | o :: os, h => by
    rw [stripLifts, h o (by simp)]
    exact strip_none w ws os (fun o' ho => h o' (by simp [ho]))
def cutL : List Char := ['c', 'u', 't']
theorem cut_is : "cut".toList = cutL := by decide +kernel
theorem strip_cut (ws : List (List Char)) : stripLifts liftWords (cutL :: ws) = ([], cutL :: ws) := strip_none _ _ _ (by decide +kernel)
theorem lifts_of {P : Program} {ws : List (List Char)} (h : behindMainWord (wordsSigns P.initOrder.toList) = cutL :: ws) : P.headLifts = [] := by
  unfold Program.headLifts
  rw [h, strip_cut]
  simp
theorem may_of {P : Program} {ws : List (List Char)} (h : behindMainWord (wordsSigns P.initOrder.toList) = cutL :: ws) (h1 : P.laysLater = false) (h2 : P.bearsReflect = false) (h3 : P.doorFits [] = true) : P.mayEnter = true := by
  unfold Program.mayEnter
  rw [h]
  simp only [strip_cut, h1, h2, h3, cut_is]
  simp
theorem final_of {P : Program} {ws : List (List Char)} (h : behindMainWord (wordsSigns P.initOrder.toList) = cutL :: ws) : P.liftsFinal = false := by
  unfold Program.liftsFinal
  rw [h, lifts_of h]
  have e : ((cutL :: ws).head? == some "carried".toList) = false := by
    show (cutL == "carried".toList) = false
    decide +kernel
  dsimp only
  rw [e]
  rfl
theorem make_of {P : Program} {ws : List (List Char)} (h : behindMainWord (wordsSigns P.initOrder.toList) = cutL :: ws) : P.make = some .cut := by
  unfold Program.make
  rw [h]
  have e1 : (cutL == "gc".toList) = false := by decide +kernel
  have e2 : (cutL == "spec".toList) = false := by decide +kernel
  have e3 : (cutL == "cut".toList) = true := by decide +kernel
  dsimp only
  rw [e1, e2, e3]
  rfl
def head : List Char := ['h', 'a', 'r', 'n', 'e', 's', 's']
def sum : List Char := ['4', '2', 'a', '9', 'c', '3', 'e', '3', '9', 'c', '6', '5', 'f', '0', '6', 'c', 'd', '7', '6', 'b', '1', 'b', 'f', '1', 'e', '5', '1', '5', 'b', '4', 'f', 'd', 'e', '2', '6', '4', 'd', '6', '4', 'c', '1', '5', '6', '0', '1', 'a', '7', '6', 'a', 'd', '5', '1', '7', 'e', '6', 'd', '9', '3', 'f', 'd', '6', 'f', 'd', '2']
def roots : List Char := ['a', 't', ' ', 't', 'h', 'r', 'u', 'm', '/', 't', 'h', 'r', 'u', 'm', 'l', 'a', 'w', '1', '6', '.', 'M', 'l', 'p', 'H', 'i', 'd', 'e', 's', ' ', 't', 'h', 'r', 'u', 'm', '/', 't', 'h', 'r', 'u', 'm', 'l', 'a', 'w', '1', '6', '.', 'M', 'l', 'p', 'T', 'e', 'l', 'l', 's', ' ', 't', 'h', 'r', 'u', 'm', '/', 't', 'h', 'r', 'u', 'm', 'l', 'a', 'w', '1', '3', '.', 'T', 'a', 'b', 'l', 'e', 'S', 'h', 'a', 'r', 'e', 's', ' ', 't', 'h', 'r', 'u', 'm', '/', 't', 'h', 'r', 'u', 'm', 'l', 'a', 'w', '1', '3', '.', 'T', 'a', 'b', 'l', 'e', 'R', 'o', 'o', 't', 's', ' ', 't', 'h', 'r', 'u', 'm', '/', 't', 'h', 'r', 'u', 'm', 'l', 'a', 'w', '1', '3', '.', 'T', 'a', 'b', 'l', 'e', 'W', 'h', 'o', 'l', 'e', ' ', 't', 'h', 'r', 'u', 'm', '/', 't', 'h', 'r', 'u', 'm', 'l', 'a', 'w', '1', '3', '.', 'T', 'a', 'b', 'l', 'e', 'S', 'h', 'i', 'f', 't', 's', ' ', 't', 'h', 'r', 'u', 'm', '/', 't', 'h', 'r', 'u', 'm', 'l', 'a', 'w', '1', '3', '.', 'T', 'a', 'b', 'l', 'e', 'O', 'n', 'e', ' ', 't', 'h', 'r', 'u', 'm', '/', 't', 'h', 'r', 'u', 'm', 'l', 'a', 'w', '1', '3', '.', 'T', 'a', 'b', 'l', 'e', 'T', 'e', 'l', 'l', 's', ' ', 't', 'h', 'r', 'u', 'm', '/', 't', 'h', 'r', 'u', 'm', 'l', 'a', 'w', '1', '3', '.', 'T', 'a', 'b', 'l', 'e', 'F', 'a', 'l', 'l', 's', ' ', 't', 'h', 'r', 'u', 'm', '/', 't', 'h', 'r', 'u', 'm', 'l', 'a', 'w', '1', '4', '.', 'L', 'i', 'n', 'e', 'a', 'r', 'T', 'e', 'l', 'l', 's', ' ', 't', 'h', 'r', 'u', 'm', '/', 't', 'h', 'r', 'u', 'm', 'l', 'a', 'w', '1', '4', '.', 'L', 'i', 'n', 'e', 'a', 'r', 'G', 'r', 'o', 'w', 's', ' ', 't', 'h', 'r', 'u', 'm', '/', 't', 'h', 'r', 'u', 'm', 'l', 'a', 'w', '1', '4', '.', 'L', 'i', 'n', 'e', 'a', 'r', 'B', 'e', 'n', 'd', 's', ' ', 't', 'h', 'r', 'u', 'm', '/', 't', 'h', 'r', 'u', 'm', 'l', 'a', 'w', '1', '4', '.', 'L', 'i', 'n', 'e', 'a', 'r', 'R', 'i', 'g', 'h', 't', ' ', 't', 'h', 'r', 'u', 'm', '/', 't', 'h', 'r', 'u', 'm', 'l', 'a', 'w', '1', '4', '.', 'L', 'i', 'n', 'e', 'a', 'r', 'T', 'u', 'r', 'n', 's', ' ', 't', 'h', 'r', 'u', 'm', '/', 't', 'h', 'r', 'u', 'm', 'l', 'a', 'w', '1', '4', '.', 'L', 'i', 'n', 'e', 'a', 'r', 'B', 'a', 's', 'e', ' ', 't', 'h', 'r', 'u', 'm', '/', 't', 'h', 'r', 'u', 'm', 'l', 'a', 'w', '1', '6', '.', 'M', 'l', 'p', 'R', 'i', 'g', 'h', 't', ' ', 't', 'h', 'r', 'u', 'm', '/', 't', 'h', 'r', 'u', 'm', 'l', 'a', 'w', '1', '6', '.', 'M', 'l', 'p', 'B', 'e', 'n', 'd', 's', ' ', 't', 'h', 'r', 'u', 'm', '/', 't', 'h', 'r', 'u', 'm', 'l', 'a', 'w', '1', '6', '.', 'M', 'l', 'p', 'T', 'u', 'r', 'n', 's', ' ', 't', 'h', 'r', 'u', 'm', '/', 't', 'h', 'r', 'u', 'm', 'l', 'a', 'w', '1', '5', '.', 'S', 'o', 'f', 't', 'O', 'f', 'f', ' ', 't', 'h', 'r', 'u', 'm', '/', 't', 'h', 'r', 'u', 'm', 'l', 'a', 'w', '1', '5', '.', 'S', 'o', 'f', 't', 'R', 'o', 'w', 's', ' ', 't', 'h', 'r', 'u', 'm', '/', 't', 'h', 'r', 'u', 'm', 'l', 'a', 'w', '1', '5', '.', 'S', 'o', 'f', 't', 'T', 'u', 'r', 'n', 's', ' ', 't', 'h', 'r', 'u', 'm', '/', 't', 'h', 'r', 'u', 'm', 'l', 'a', 'w', '1', '5', '.', 'S', 'o', 'f', 't', 'T', 'e', 'l', 'l', 's', ' ', 't', 'h', 'r', 'u', 'm', '/', 't', 'h', 'r', 'u', 'm', 'l', 'a', 'w', '1', '5', '.', 'S', 'o', 'f', 't', 'C', 'l', 'a', 's', 's', ' ', 't', 'h', 'r', 'u', 'm', '/', 't', 'h', 'r', 'u', 'm', 'l', 'a', 'w', '1', '5', '.', 'S', 'o', 'f', 't', 'B', 'e', 'n', 'd', 's', ' ', 't', 'h', 'r', 'u', 'm', '/', 't', 'h', 'r', 'u', 'm', 'l', 'a', 'w', '1', '7', '.', 'M', 'o', 'd', 'e', 'l', 'C', 'l', 'i', 'p', 's', ' ', 't', 'h', 'r', 'u', 'm', '/', 't', 'h', 'r', 'u', 'm', 'l', 'a', 'w', '1', '7', '.', 'M', 'o', 'd', 'e', 'l', 'K', 'i', 'n', 'd', 's']
set_option maxRecDepth 100000 in
theorem order_is : Try.prog.initOrder = String.ofList (head ++ ' ' :: (sum ++ ' ' :: (cutL ++ ' ' :: roots))) := by kernel_rfl
theorem signs_are : wordsSigns Try.prog.initOrder.toList = head :: sum :: cutL :: wordsSigns roots := by
  rw [order_is, String.toList_ofList, words_at _ _ (by decide +kernel), words_at _ _ (by decide +kernel), words_at _ _ (by decide +kernel)]
theorem words_are : behindMainWord (wordsSigns Try.prog.initOrder.toList) = cutL :: wordsSigns roots := by
  rw [signs_are, behindMainWord, if_pos (by decide +kernel)]
theorem may : Try.prog.mayEnter = true := may_of words_are (by kernel_rfl) (by kernel_rfl) (by kernel_rfl)
theorem final : Try.prog.liftsFinal = false := final_of words_are
theorem make : Try.prog.make = some .cut := make_of words_are
end Go.Proofs.Ytfbdalnjijdknaa.Facts
