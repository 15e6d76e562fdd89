import Derived.Test.YtjlcdkklobcdhaaO13
/-
  OPTIONS: OptsApart: the plain law.
-/
namespace Go.Proofs.Ytjlcdkklobcdhaa
open Go.Ab
set_option linter.unusedVariables false
set_option linter.unusedSimpArgs false


def PL : List UInt8 := [82, 72, 76, 80, 109, 58]
def lt (p : UInt8) : UInt8 := [82, 72, 76, 80].getD (p.toNat % 4) 0
theorem lt_cases (p : UInt8) : lt p = 82 ∨ lt p = 72 ∨ lt p = 76 ∨ lt p = 80 := by
  unfold lt
  have : p.toNat % 4 < 4 := Nat.mod_lt _ (by omega)
  generalize p.toNat % 4 = k at this
  match k, this with
  | 0, _ => exact .inl rfl
  | 1, _ => exact .inr (.inl rfl)
  | 2, _ => exact .inr (.inr (.inl rfl))
  | 3, _ => exact .inr (.inr (.inr rfl))
theorem lt_plain (p : UInt8) : mayB PL (lt p) = true ∧ valB PL (lt p) = false := by
  rcases lt_cases p with h | h | h | h <;> rw [h] <;> decide
theorem lt_dash (p : UInt8) : lt p ≠ 45 := by
  rcases lt_cases p with h | h | h | h <;> rw [h] <;> decide
def plF (l : List UInt8) : List Fl := l.map fun p => (lt p, [])
theorem letters_pl (left : List (List UInt8)) : ∀ (l : List UInt8) (fl : List Fl), letters PL (l.map lt) fl left = some (fl ++ plF l, left)
  | [], fl => by simp [letters, plF]
  | p :: l, fl => by
    rw [List.map_cons, letters_cons, (lt_plain p).1, (lt_plain p).2]
    show letters PL (l.map lt) (fl ++ [(lt p, [])]) left = _
    rw [letters_pl left l]; simp [plF]
def stopR (r : List (List UInt8)) : Prop := r = [] ∨ isOpt (r.getD 0 []) = false
theorem parseF_stopR {n : Nat} {r : List (List UInt8)} {fl : List Fl} (h : stopR r) : parseF PL n r fl = some (fl, r) := by
  cases r with
  | nil => exact parseF_nil (left := []) rfl
  | cons s r =>
    rcases h with h | h
    · cases h
    · exact parseF_stop (by simp) h
theorem apart_one {l : List UInt8} {rest : List (List UInt8)} (hl : l ≠ []) (hr : stopR rest) : parse PL ((45 :: l.map lt) :: rest) = some (plF l, rest) := by
  unfold parse
  rw [List.length_cons, wordc (Nat.le_refl _) (isOpt_dash _ (by simpa using hl)) (by
    cases l with
    | nil => exact absurd rfl hl
    | cons p l => intro h; simp at h; exact lt_dash p h.1)]
  simp only [List.drop_succ_cons, List.drop_zero, letters_pl, List.nil_append]
  exact parseF_stopR hr
theorem apart_F {rest : List (List UInt8)} (hr : stopR rest) : ∀ (l : List UInt8) (n : Nat) (fl : List Fl), (l.map (fun p => [45, lt p]) ++ rest).length ≤ n → parseF PL n (l.map (fun p => [45, lt p]) ++ rest) fl = some (fl ++ plF l, rest)
  | [], n, fl, hn => by simpa [plF] using parseF_stopR hr
  | p :: l, 0, fl, hn => by simp at hn
  | p :: l, n + 1, fl, hn => by
    simp only [List.map_cons, List.cons_append]
    rw [wordc (by simpa using hn) (isOpt_dash _ (by simp)) (by intro h; simp at h; exact lt_dash p h)]
    have := letters_pl (l.map (fun p => [45, lt p]) ++ rest) [p] fl
    simp only [List.map_cons, List.map_nil] at this
    simp only [List.drop_succ_cons, List.drop_zero, this]
    rw [apart_F hr l n _ (by simpa using hn)]; simp [plF]
theorem apart_two {l : List UInt8} {rest : List (List UInt8)} (hr : stopR rest) : parse PL (l.map (fun p => [45, lt p]) ++ rest) = some (plF l, rest) := by
  unfold parse
  rw [apart_F hr l _ _ (Nat.le_refl _), List.nil_append]
theorem plF_len (l : List UInt8) : (plF l).length = l.length := by simp [plF]
theorem plF_getD (l : List UInt8) {j : Nat} (hj : j < l.length) : (plF l).getD j (0, []) = (lt (l.getD j 0), []) := by
  simp [plF, List.getD_eq_getElem?_getD, hj]
theorem plF_val (l : List UInt8) : valF (plF l) 109 = ([], false) := by
  refine valF_none _ _ fun j hj => ?_
  rw [plF_len] at hj
  rw [plF_getD l hj]
  rcases lt_cases (l.getD j 0) with h | h | h | h <;> rw [h] <;> decide
theorem lt_slice (p : UInt8) : (([82, 72, 76, 80] : List UInt8).take (p.toNat % 4 + 1)).drop (p.toNat % 4) = [lt p] := by
  unfold lt
  have : p.toNat % 4 < 4 := Nat.mod_lt _ (by omega)
  generalize p.toNat % 4 = k at this
  match k, this with
  | 0, _ => rfl
  | 1, _ => rfl
  | 2, _ => rfl
  | 3, _ => rfl

end Go.Proofs.Ytjlcdkklobcdhaa
