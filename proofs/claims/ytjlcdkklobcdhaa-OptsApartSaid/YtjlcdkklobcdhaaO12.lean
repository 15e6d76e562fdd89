import Derived.Test.YtjlcdkklobcdhaaO11
/-
  OPTIONS: OptsValues.
-/
namespace Go.Proofs.Ytjlcdkklobcdhaa
open Go.Ab
set_option linter.unusedVariables false
set_option linter.unusedSimpArgs false


theorem vm1 : mayB [82, 109, 58] 109 = true := by decide
theorem vm2 : valB [82, 109, 58] 109 = true := by decide
theorem vm3 : mayB [82, 109, 58] 82 = true := by decide
theorem vm4 : valB [82, 109, 58] 82 = false := by decide
theorem letters_m (a : List UInt8) (fl : List Fl) (left : List (List UInt8)) (ha : a ≠ []) : letters [82, 109, 58] (109 :: a) fl left = some (fl ++ [(109, a)], left) := by
  rw [letters_cons, vm1, vm2]
  cases a with
  | nil => exact absurd rfl ha
  | cons d s => rfl
theorem letters_m0 (a : List UInt8) (fl : List Fl) (left : List (List UInt8)) : letters [82, 109, 58] [109] fl (a :: left) = some (fl ++ [(109, a)], left) := by
  rw [letters_cons, vm1, vm2]; rfl
theorem letters_R (s : List UInt8) (fl : List Fl) (left : List (List UInt8)) : letters [82, 109, 58] (82 :: s) fl left = letters [82, 109, 58] s (fl ++ [(82, [])]) left := by
  rw [letters_cons, vm3, vm4]; rfl
theorem isOpt_dash (s : List UInt8) (hs : s ≠ []) : isOpt (45 :: s) = true := by
  rw [isOpt_eq]
  cases s with
  | nil => exact absurd rfl hs
  | cons d r => simp; omega


theorem wordc {may s : List UInt8} {r : List (List UInt8)} {n : Nat} {fl : List Fl} (hn : r.length ≤ n) (ho : isOpt s = true) (hd : s ≠ [45, 45]) : parseF may (n + 1) (s :: r) fl = match letters may (s.drop 1) fl r with
    | none => none
    | some (fl', r') => parseF may n r' fl' := by
  exact parseF_word (may := may) (n := n + 1) (left := s :: r) (fl := fl) (by simp) (by simpa using hn) (by simpa using ho) (by simpa using hd)
theorem dashc {may : List UInt8} {r : List (List UInt8)} {n : Nat} {fl : List Fl} : parseF may (n + 1) ([45, 45] :: r) fl = some (fl, r) := rfl
theorem vals_one (a b : List UInt8) (rest : List (List UInt8)) (ha : a ≠ []) : parse [82, 109, 58] ((45 :: 109 :: a) :: [45, 82, 109] :: b :: [45, 45] :: rest) = some ([(109, a), (82, []), (109, b)], rest) := by
  unfold parse
  rw [List.length_cons, wordc (Nat.le_refl _) (isOpt_dash _ (by simp)) (by simp)]
  simp only [List.getD_cons_zero, List.drop_succ_cons, List.drop_zero, letters_m a _ _ ha, List.length_cons, Nat.add_sub_cancel]
  rw [wordc (by simp) (isOpt_dash _ (by simp)) (by simp)]
  simp only [List.getD_cons_zero, List.drop_succ_cons, List.drop_zero, letters_R, letters_m0, List.length_cons, Nat.add_sub_cancel]
  rw [dashc]
  simp
theorem vals_two (a b : List UInt8) (rest : List (List UInt8)) (hb : b ≠ []) : parse [82, 109, 58] ([45, 109] :: a :: (45 :: 82 :: 109 :: b) :: [45, 45] :: rest) = some ([(109, a), (82, []), (109, b)], rest) := by
  unfold parse
  rw [List.length_cons, wordc (Nat.le_refl _) (isOpt_dash _ (by simp)) (by simp)]
  simp only [List.getD_cons_zero, List.drop_succ_cons, List.drop_zero, letters_m0, List.length_cons, Nat.add_sub_cancel]
  rw [wordc (by simp) (isOpt_dash _ (by simp)) (by simp)]
  simp only [List.getD_cons_zero, List.drop_succ_cons, List.drop_zero, letters_R, letters_m b _ _ hb, List.length_cons, Nat.add_sub_cancel]
  rw [dashc]
  simp

end Go.Proofs.Ytjlcdkklobcdhaa
