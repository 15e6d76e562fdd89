import Derived.Test.YtlkpgpdhohnncaaDoorW9
/-
  OWNER: the plain laws: digits, and what is shown, told again.
-/
namespace Go.Proofs.YtlkpgpdhohnncaaDoor
open Go.Ab
set_option linter.unusedVariables false
set_option linter.unusedSimpArgs false


theorem digs_app : ∀ (a b : List UInt8) (n : Nat), digs (a ++ b) n = (digs a n).bind (digs b)
  | [], b, n => rfl
  | c :: a, b, n => by
    simp only [List.cons_append, digs]
    split
    · exact digs_app a b _
    · rfl
theorem dig_byte {d : Nat} (h : d < 10) : (UInt8.ofNat (48 + d)).toNat = 48 + d := by
  rw [UInt8.toNat_ofNat']; omega
theorem dec_step {k : Nat} (h : ¬ k < 10) : Lib.decDigits k = Lib.decDigits (k / 10) ++ [UInt8.ofNat (48 + k % 10)] := by
  conv => lhs; rw [Lib.decDigits, dif_neg h]
theorem digs_one {d : Nat} (h : d < 10) (n : Nat) : digs [UInt8.ofNat (48 + d)] n = some (n * 10 + d) := by
  have e := dig_byte h
  simp only [digs]
  rw [e, if_pos (by omega)]
  congr 1; omega
theorem digs_dec (k : Nat) : ∀ n, digs (Lib.decDigits k) n = some (n * 10 ^ Lib.nDigits k + k) := by
  induction k using Nat.strongRecOn with
  | _ k ih =>
    intro n
    by_cases h : k < 10
    · rw [Lib.decDigits_one h, digs_one h, Lib.nDigits_small h]
    · rw [dec_step h, digs_app, ih (k / 10) (by omega), Option.bind_some, digs_one (by omega), Lib.nDigits_big h]
      have : n * 10 ^ (Lib.nDigits (k / 10) + 1) = n * 10 ^ Lib.nDigits (k / 10) * 10 := by rw [Nat.pow_succ, Nat.mul_assoc]
      congr 1; omega
theorem digs_dec0 (k : Nat) : digs (Lib.decDigits k) 0 = some k := by rw [digs_dec]; simp
theorem dec_digs (k : Nat) : ∀ c ∈ Lib.decDigits k, 48 ≤ c.toNat ∧ c.toNat ≤ 57 := by
  induction k using Nat.strongRecOn with
  | _ k ih =>
    intro c hc
    by_cases h : k < 10
    · rw [Lib.decDigits_one h] at hc
      rw [List.mem_singleton.1 hc]
      have := dig_byte h; omega
    · rw [dec_step h] at hc
      rcases List.mem_append.1 hc with hc | hc
      · exact ih (k / 10) (by omega) c hc
      · rw [List.mem_singleton.1 hc]
        have := dig_byte (d := k % 10) (by omega); omega
theorem nDig_le : ∀ (j k : Nat), k < 10 ^ (j + 1) → Lib.nDigits k ≤ j + 1
  | 0, k, h => by rw [Lib.nDigits_small (by simpa using h)]; omega
  | j + 1, k, h => by
    by_cases h1 : k < 10
    · rw [Lib.nDigits_small h1]; omega
    · rw [Lib.nDigits_big h1]
      have := nDig_le j (k / 10) (by rw [Nat.pow_succ] at h; omega)
      omega
theorem dec_len5 {k : Nat} (h : k < 100000) : (Lib.decDigits k).length ≤ 5 := by
  rw [Lib.decDigits_length]; exact nDig_le 4 k (by simpa using h)
theorem dec_ne (k : Nat) : Lib.decDigits k ≠ [] := fun e => by
  have := congrArg List.length e
  rw [Lib.decDigits_length] at this
  have h := Lib.nDigits_pos k
  simp at this; omega
theorem nmU_dig {s : List UInt8} (h : 48 ≤ (s.getD 0 0).toNat ∧ (s.getD 0 0).toNat ≤ 57) : nmL usersL s = none := by
  unfold usersL
  rw [nmL_four, if_neg, if_neg, if_neg, if_neg] <;> (intro e; subst e; revert h; decide)
theorem nmG_dig {s : List UInt8} (h : 48 ≤ (s.getD 0 0).toNat ∧ (s.getD 0 0).toNat ≤ 57) : nmL groupsL s = none := by
  unfold groupsL
  rw [nmL_four, if_neg, if_neg, if_neg, if_neg] <;> (intro e; subst e; revert h; decide)
theorem digs_head {s : List UInt8} {n m : Nat} (h0 : s ≠ []) (hd : digs s m = some n) : 48 ≤ (s.getD 0 0).toNat ∧ (s.getD 0 0).toNat ≤ 57 := by
  cases s with
  | nil => exact absurd rfl h0
  | cons c r =>
    unfold digs at hd
    split at hd
    · assumption
    · simp at hd
def capN (n : Nat) : Option Nat := if 65535 < n then none else some n
theorem numD_digs {s : List UInt8} {n : Nat} (h0 : s ≠ []) (hl : s.length ≤ 5) (hd : digs s 0 = some n) : numD s = capN n := by
  unfold numD
  rw [if_neg (by rintro (h | h); exact h0 h; omega), hd]; rfl
theorem numU_digs {s : List UInt8} {n : Nat} (h0 : s ≠ []) (hl : s.length ≤ 5) (hd : digs s 0 = some n) : numF usersL s = capN n := by
  unfold numF; rw [nmU_dig (digs_head h0 hd)]; exact numD_digs h0 hl hd
theorem numG_digs {s : List UInt8} {n : Nat} (h0 : s ≠ []) (hl : s.length ≤ 5) (hd : digs s 0 = some n) : numF groupsL s = capN n := by
  unfold numF; rw [nmG_dig (digs_head h0 hd)]; exact numD_digs h0 hl hd
theorem digs_zero (s : List UInt8) : digs (48 :: s) 0 = digs s 0 := by
  simp [digs]
theorem capN_ok {n : Nat} (h : n ≤ 65535) : capN n = some n := if_neg (by omega)
theorem small_names : ∀ i : Fin 4, numF usersL (usersL.getD i.val []) = some i.val ∧ numF groupsL (groupsL.getD i.val []) = some i.val ∧ usersL.getD i.val [] ≠ [] ∧ (∀ c ∈ usersL.getD i.val [], c ≠ 58) ∧ (∀ c ∈ groupsL.getD i.val [], c ≠ 58) := by decide
theorem txt_big {L : List (List UInt8)} {a : Nat} (h : 4 ≤ a) : txtF L a = Lib.decDigits a := by
  unfold txtF; rw [if_neg (by omega), itoa_nat]
theorem txt_small {L : List (List UInt8)} {a : Nat} (h : a < 4) : txtF L a = L.getD a [] := by
  unfold txtF; rw [if_pos (by omega)]; rfl
theorem dec_58 (k : Nat) : ∀ c ∈ Lib.decDigits k, c ≠ 58 := fun c hc e => by
  have := dec_digs k c hc
  subst e
  revert this; decide
theorem txt_back {a : Nat} (h : a ≤ 65535) : numF usersL (txtF usersL a) = some a ∧ numF groupsL (txtF groupsL a) = some a ∧ txtF usersL a ≠ [] ∧ (∀ c ∈ txtF usersL a, c ≠ 58) ∧ (∀ c ∈ txtF groupsL a, c ≠ 58) := by
  by_cases h4 : a < 4
  · rw [txt_small h4, txt_small h4]
    exact small_names ⟨a, h4⟩
  · rw [txt_big (by omega), txt_big (by omega)]
    refine ⟨?_, ?_, dec_ne a, dec_58 a, dec_58 a⟩
    · rw [numU_digs (dec_ne a) (dec_len5 (by omega)) (digs_dec0 a), capN_ok h]
    · rw [numG_digs (dec_ne a) (dec_len5 (by omega)) (digs_dec0 a), capN_ok h]
theorem getD_mem {α : Type} {l : List α} {d : α} {j : Nat} (h : j < l.length) : l.getD j d ∈ l := by
  rw [List.getD_eq_getElem?_getD, List.getElem?_eq_getElem h]; exact List.getElem_mem h
theorem idx_app {a b : List UInt8} (h : ∀ c ∈ a, c ≠ 58) : Lib.indexByte (a ++ 58 :: b) 58 = a.length := by
  refine idx_at (by simp) ?_ fun j hj => ?_
  · simp [List.getD_eq_getElem?_getD]
  · have : (a ++ 58 :: b).getD j 0 = a.getD j 0 := by simp [List.getD_eq_getElem?_getD, List.getElem?_append_left hj]
    rw [this]; exact h _ (getD_mem hj)
theorem idx_no {a : List UInt8} (h : ∀ c ∈ a, c ≠ 58) : Lib.indexByte a 58 = -1 := idx_none fun j hj => h _ (getD_mem hj)
theorem own_app {a b : List UInt8} (h : ∀ c ∈ a, c ≠ 58) : ownU (a ++ 58 :: b) = (if a = [] then some (-1) else natO (numF usersL a)) ∧ ownG (a ++ 58 :: b) = natO (numF groupsL b) := by
  obtain ⟨h1, h2⟩ := own_at (s := a ++ 58 :: b) (i := a.length) (by simp) (idx_app h)
  rw [h1, h2]
  refine ⟨?_, ?_⟩
  · by_cases h0 : a = []
    · subst h0; rfl
    · rw [if_neg h0, if_neg (by simpa using h0)]; simp
  · simp
theorem back_both {a b : Nat} (ha : a ≤ 65535) (hb : b ≤ 65535) : ownU (showF a b) = some (a : Int) ∧ ownG (showF a b) = some (b : Int) := by
  obtain ⟨u1, _, u3, u4, _⟩ := txt_back ha
  obtain ⟨_, g2, _, _, _⟩ := txt_back hb
  have e : showF a b = txtF usersL a ++ 58 :: txtF groupsL b := by
    unfold showF; rw [decide_eq_true (by omega), decide_eq_true (by omega)]; rfl
  rw [e]
  obtain ⟨h1, h2⟩ := own_app (b := txtF groupsL b) u4
  rw [h1, h2, if_neg u3, u1, g2]
  exact ⟨rfl, rfl⟩
theorem back_user {a : Nat} (ha : a ≤ 65535) : ownU (showF a (-1)) = some (a : Int) ∧ ownG (showF a (-1)) = some (-1) := by
  obtain ⟨u1, _, u3, u4, _⟩ := txt_back ha
  have e : showF a (-1) = txtF usersL a := by
    unfold showF; rw [decide_eq_true (by omega)]; simp
  rw [e]
  obtain ⟨h1, h2⟩ := own_none (idx_no u4)
  rw [h1, h2, u1]
  exact ⟨rfl, rfl⟩
theorem back_group {b : Nat} (hb : b ≤ 65535) : ownU (showF (-1) b) = some (-1) ∧ ownG (showF (-1) b) = some (b : Int) := by
  obtain ⟨_, g2, _, _, _⟩ := txt_back hb
  have e : showF (-1) b = [] ++ 58 :: txtF groupsL b := by
    unfold showF; rw [decide_eq_true (show (0 : Int) ≤ b by omega)]; rfl
  rw [e]
  obtain ⟨h1, h2⟩ := own_app (a := []) (b := txtF groupsL b) (by simp)
  rw [h1, h2, g2]
  exact ⟨rfl, rfl⟩
theorem back_zero {k : Nat} (h4 : 4 ≤ k) (hk : k ≤ 9999) : numF usersL (48 :: showF k (-1)) = some k := by
  have e : showF k (-1) = Lib.decDigits k := by
    unfold showF; rw [decide_eq_true (by omega), txt_big h4]; simp
  have hl : (Lib.decDigits k).length ≤ 4 := by
    rw [Lib.decDigits_length]; exact nDig_le 3 k (by omega)
  rw [e, numU_digs (by simp) (by simp; omega) (by rw [digs_zero]; exact digs_dec0 k), capN_ok (by omega)]

end Go.Proofs.YtlkpgpdhohnncaaDoor
