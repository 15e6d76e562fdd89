import Derived.Test.YtlkpgpdhohnncaaDoorW3
/-
  OWNER: users, groups, and what number a text tells.
-/
namespace Go.Proofs.YtlkpgpdhohnncaaDoor
open Go.Ab
set_option linter.unusedVariables false
set_option linter.unusedSimpArgs false


def usersL : List (List UInt8) := [[114, 111, 111, 116], [97, 110, 110], [98, 111, 98], [99, 97, 116]]
def groupsL : List (List UInt8) := [[119, 104, 101, 101, 108], [115, 116, 97, 102, 102], [111, 112, 115], [108, 97, 98]]
def eL (L : List (List UInt8)) : List (AV × AV) := (List.range 4).map fun i => (.str (L.getD i []), .int .i64 (i : Nat))
def nmL (L : List (List UInt8)) (s : List UInt8) : Option Nat := (List.range 4).find? fun i => decide (L.getD i [] = s)
theorem users_names : namesM usersL 4 = eL usersL := by rfl
theorem groups_names : namesM groupsL 4 = eL groupsL := by rfl
theorem aget_eL (L : List (List UInt8)) (s : List UInt8) : aget (.str s) (eL L) = (nmL L s).map fun i => .int .i64 (i : Nat) := by
  have : ∀ l : List Nat, aget (.str s) (l.map fun i => (AV.str (L.getD i []), AV.int .i64 (i : Nat))) = (l.find? fun i => decide (L.getD i [] = s)).map fun i => .int .i64 (i : Nat) := by
    intro l
    induction l with
    | nil => rfl
    | cons x r ih =>
      simp only [List.map_cons, aget, List.find?_cons, keyEq]
      cases decide (L.getD x [] = s) with
      | true => rfl
      | false => exact ih
  exact this _
theorem okKeys_eL (L : List (List UInt8)) : okKeys .str (eL L) = true := rfl
theorem eL_cl (N : Nat) (L : List (List UInt8)) : Blk.cl N (.map (eL L)) := by
  intro p hp
  obtain ⟨i, _, rfl⟩ := List.mem_map.1 hp
  exact ⟨trivial, trivial⟩
theorem eL_len (L : List (List UInt8)) : (eL L).length = 4 := rfl
theorem eL_getD (L : List (List UInt8)) (i : Nat) (hi : i < 4) : (eL L).getD i (.undef, .undef) = (.str (L.getD i []), .int .i64 (i : Nat)) := by
  simp [eL, List.getD_eq_getElem?_getD, hi]
def digs : List UInt8 → Nat → Option Nat
  | [], n => some n
  | c :: r, n => if 48 ≤ c.toNat ∧ c.toNat ≤ 57 then digs r (n * 10 + (c.toNat - 48)) else none
def numD (s : List UInt8) : Option Nat := if s = [] ∨ 5 < s.length then none else match digs s 0 with
  | some n => if 65535 < n then none else some n
  | none => none
def numF (L : List (List UInt8)) (s : List UInt8) : Option Nat := match nmL L s with
  | some i => some i
  | none => numD s
def numR (o : Option Nat) : AV := .tup [.int .i64 (o.getD 0 : Nat), .int .i64 (bif o.isSome then 0 else 22)]
theorem drop_getD {α : Type} (s : List α) (i : Nat) (d : α) (hi : i < s.length) : s.drop i = s.getD i d :: s.drop (i + 1) := by
  rw [List.drop_eq_getElem_cons hi]; simp [List.getD_eq_getElem?_getD, hi]
theorem digs_step {s : List UInt8} {i n : Nat} (hi : i < s.length) (hd : 48 ≤ (s.getD i 0).toNat ∧ (s.getD i 0).toNat ≤ 57) : digs (s.drop i) n = digs (s.drop (i + 1)) (n * 10 + ((s.getD i 0).toNat - 48)) := by
  rw [drop_getD s i 0 hi, digs, if_pos hd]
theorem digs_stop {s : List UInt8} {i n : Nat} (hi : i < s.length) (hd : ¬ (48 ≤ (s.getD i 0).toNat ∧ (s.getD i 0).toNat ≤ 57)) : digs (s.drop i) n = none := by
  rw [drop_getD s i 0 hi, digs, if_neg hd]
theorem dec_digit {l : List UInt8} {i : Nat} (h : i < l.length) : ((48 ≤ (dec l i).1 ∧ (dec l i).1 ≤ 57) ↔ (48 ≤ (l.getD i 0).toNat ∧ (l.getD i 0).toNat ≤ 57)) ∧ ((48 ≤ (dec l i).1 ∧ (dec l i).1 ≤ 57) → dec l i = ((l.getD i 0).toNat, 1)) := by
  rcases Nat.lt_or_ge (l.getD i 0).toNat 128 with hc | hc
  · have := dec_ascii h hc
    rw [this]
    exact ⟨Iff.rfl, fun _ => rfl⟩
  · have := (dec_high h hc).1
    exact ⟨⟨fun h => by omega, fun h => by omega⟩, fun h => by omega⟩
theorem pow10_le {i : Nat} (h : i ≤ 5) : 10 ^ i ≤ 100000 := by
  have := Nat.pow_le_pow_right (n := 10) (by omega) h
  simpa using this
theorem nmL_some {L : List (List UInt8)} {s : List UInt8} {o : Option Nat} (h : nmL L s = o) (ho : o.isSome = true) : numF L s = o := by
  unfold numF; rw [h]; cases o with
  | none => simp at ho
  | some i => rfl
theorem nmL_none {L : List (List UInt8)} {s : List UInt8} (ho : (nmL L s).isSome = false) : numF L s = numD s := by
  unfold numF
  cases h : nmL L s with
  | none => rfl
  | some i => rw [h] at ho; simp at ho
theorem alook_eL (L : List (List UInt8)) (s : List UInt8) : alookup .str (.int .i64 0) true (.str s) (eL L) = .tup [.int .i64 ((nmL L s).getD 0 : Nat), .bool (nmL L s).isSome] := by
  simp only [alookup, aget_eL]
  cases nmL L s <;> rfl

set_option maxHeartbeats 400000 in
theorem c19 (L : List (List UInt8)) (s : List UInt8) (k : Nat) (h : List Blk) (live : List Nat) (hk : h[k]? = some (.map (eL L))) (hs : s.length ≤ 9223372036854775000) : ACalls Tryd.prog 19 [.str s, .map k] h live (ret (numR (numF L s)) h live) := by
  refine acalls_of_awp Tryd.func19 rfl rfl (Nat.le_of_ble_eq_true rfl) fun hH hX => ?_
  simp only [fargs]
  refine awp_seq_k fun K1 hK1 => ?_
  refine awp_region_keep [0, 1] ⟨false, [], [], []⟩ (fun h => nomatch h) ?_
  iterate 2 (refine dawp_p rfl (by (simp (disch := omega) only [push_cast, and_true, cond_true, cond_false, if_pos, if_neg, ↓reduceIte, Nat.reduceEqDiff, Nat.reduceAdd, Nat.reduceLeDiff, hk, alook_eL]) <;> rfl) rfl rfl ?_)
  refine dawp_nil ?_
  simp (disch := omega) only [push_cast, and_true, cond_true, cond_false, if_pos, if_neg, ↓reduceIte, Nat.reduceEqDiff, Nat.reduceAdd, Nat.reduceLeDiff, hk, alook_eL]
  refine hK1 _ ?_
  refine awp_seq_k fun K2 hK2 => ?_
  refine awp_seq_k fun K3 hK3 => ?_
  refine awp_region_keep [0, 6, 7] ⟨false, [], [], []⟩ (fun h => nomatch h) ?_
  iterate 2 (refine dawp_p rfl (by (simp (disch := omega) only [push_cast, and_true, cond_true, cond_false, if_pos, if_neg, ↓reduceIte, Nat.reduceEqDiff, Nat.reduceAdd, Nat.reduceLeDiff, hk, alook_eL]) <;> rfl) rfl rfl ?_)
  refine dawp_r rfl rfl rfl rfl (AOp.lookup _ _ _ _ rfl Ty.mapT_43 Ty.azero_3 (by (simp (disch := omega) only [push_cast, and_true, cond_true, cond_false, if_pos, if_neg, ↓reduceIte, Nat.reduceEqDiff, Nat.reduceAdd, Nat.reduceLeDiff, hk, alook_eL]) <;> rfl) rfl (by (simp (disch := omega) only [entsOf_map, entsOf_nil, entsBlk_map, push_cast, and_true, cond_true, cond_false, if_pos, if_neg, ↓reduceIte, Nat.reduceEqDiff, Nat.reduceAdd, Nat.reduceLeDiff, hk, alook_eL]) <;> rfl) rfl) ?_
  iterate 5 (refine dawp_p rfl (by (simp (disch := omega) only [push_cast, and_true, cond_true, cond_false, if_pos, if_neg, ↓reduceIte, Nat.reduceEqDiff, Nat.reduceAdd, Nat.reduceLeDiff, hk, alook_eL]) <;> rfl) rfl rfl ?_)
  refine dawp_nil ?_
  simp (disch := omega) only [push_cast, and_true, cond_true, cond_false, if_pos, if_neg, ↓reduceIte, Nat.reduceEqDiff, Nat.reduceAdd, Nat.reduceLeDiff, hk, alook_eL]
  refine hK3 _ ?_
  refine awp_seq_k fun K4 hK4 => ?_
  refine awp_region_keep [0, 6, 17] ⟨false, [], [], []⟩ (fun h => nomatch h) ?_
  refine dawp_p rfl (by (simp (disch := omega) only [push_cast, and_true, cond_true, cond_false, if_pos, if_neg, ↓reduceIte, Nat.reduceEqDiff, Nat.reduceAdd, Nat.reduceLeDiff, hk, alook_eL]) <;> rfl) rfl rfl ?_
  refine dawp_nil ?_
  simp (disch := omega) only [push_cast, and_true, cond_true, cond_false, if_pos, if_neg, ↓reduceIte, Nat.reduceEqDiff, Nat.reduceAdd, Nat.reduceLeDiff, hk, alook_eL]
  refine hK4 _ ?_
  refine awp_cond (by (simp (disch := omega) only [push_cast, and_true, cond_true, cond_false, if_pos, if_neg, ↓reduceIte, Nat.reduceEqDiff, Nat.reduceAdd, Nat.reduceLeDiff, hk, alook_eL]) <;> rfl) (fun hb1 => ?_) (fun hb1 => ?_)
  · skip
    refine awp_seq_k fun K5 hK5 => ?_
    refine awp_region_keep [4, 5] ⟨false, [], [], []⟩ (fun h => nomatch h) ?_
    iterate 3 (refine dawp_p rfl (by (simp (disch := omega) only [push_cast, and_true, cond_true, cond_false, if_pos, if_neg, ↓reduceIte, Nat.reduceEqDiff, Nat.reduceAdd, Nat.reduceLeDiff, hk, alook_eL]) <;> rfl) rfl rfl ?_)
    refine dawp_nil ?_
    simp (disch := omega) only [push_cast, and_true, cond_true, cond_false, if_pos, if_neg, ↓reduceIte, Nat.reduceEqDiff, Nat.reduceAdd, Nat.reduceLeDiff, hk, alook_eL]
    refine hK5 _ ?_
    refine awp_ret ?_
    try simp only [push_cast]
    refine fin_pure (by (simp (disch := omega) only [Tryd.results19, aresults, aresult, push_cast, and_true, cond_true, cond_false, if_pos, if_neg, ↓reduceIte, Nat.reduceEqDiff, Nat.reduceAdd, Nat.reduceLeDiff, hk, alook_eL]) <;> rfl) (by simp only [atuple, AV.er, AV.erL, push_cast]; rfl) (by simp [AV.cl, AV.clL]) (by first | exact ⟨_, rfl⟩ | exact ⟨[], (List.append_nil _).symm⟩) hH (fun _ h => h) ?_
    exact ⟨by rw [nmL_some rfl hb1, numR, hb1]; rfl, rfl, rfl⟩
  refine awp_skip ?_
  try simp only [push_cast]
  refine hK2 _ ?_
  refine awp_seq_k fun K6 hK6 => ?_
  refine awp_seq_k fun K7 hK7 => ?_
  refine awp_region_keep [0, 25] ⟨false, [], [], []⟩ (fun h => nomatch h) ?_
  iterate 3 (refine dawp_p rfl (by (simp (disch := omega) only [push_cast, and_true, cond_true, cond_false, if_pos, if_neg, ↓reduceIte, Nat.reduceEqDiff, Nat.reduceAdd, Nat.reduceLeDiff, hk, alook_eL]) <;> rfl) rfl rfl ?_)
  iterate 3 (refine dawp_g rfl rfl (by simp only [push_cast, and_true, cond_true, cond_false, if_pos, if_neg, ↓reduceIte, Nat.reduceEqDiff, Nat.reduceAdd, Nat.reduceLeDiff, hk, alook_eL]; rfl) (fun hg => by simp (disch := omega) only [hg, push_cast, and_true, cond_true, cond_false, if_pos, if_neg, ↓reduceIte, Nat.reduceEqDiff, Nat.reduceAdd, Nat.reduceLeDiff, hk, alook_eL]; rfl) rfl rfl ?_)
  refine dawp_p rfl (by (simp (disch := omega) only [push_cast, and_true, cond_true, cond_false, if_pos, if_neg, ↓reduceIte, Nat.reduceEqDiff, Nat.reduceAdd, Nat.reduceLeDiff, hk, alook_eL]) <;> rfl) rfl rfl ?_
  refine dawp_nil ?_
  simp (disch := omega) only [push_cast, and_true, cond_true, cond_false, if_pos, if_neg, ↓reduceIte, Nat.reduceEqDiff, Nat.reduceAdd, Nat.reduceLeDiff, hk, alook_eL]
  refine hK7 _ ?_
  refine awp_cond (by (simp (disch := omega) only [push_cast, and_true, cond_true, cond_false, if_pos, if_neg, ↓reduceIte, Nat.reduceEqDiff, Nat.reduceAdd, Nat.reduceLeDiff, hk, alook_eL]) <;> rfl) (fun hb2 => ?_) (fun hb2 => ?_)
  · skip
    have hnd : numD s = none := if_pos (by
      simp only [decide_eq_true_eq, decide_eq_false_iff_not, Bool.not_eq_true', Bool.not_eq_false', Bool.or_eq_true, Bool.and_eq_true, Bool.or_eq_false_iff, Bool.and_eq_false_imp, Int.not_lt, Int.not_le] at hb2
      rcases hb2 with h | h
      · exact .inl h
      · exact .inr (by omega))
    refine awp_seq_k fun K8 hK8 => ?_
    refine awp_region_keep [4, 5] ⟨false, [], [], []⟩ (fun h => nomatch h) ?_
    iterate 2 (refine dawp_p rfl (by (simp (disch := omega) only [push_cast, and_true, cond_true, cond_false, if_pos, if_neg, ↓reduceIte, Nat.reduceEqDiff, Nat.reduceAdd, Nat.reduceLeDiff, hk, alook_eL]) <;> rfl) rfl rfl ?_)
    refine dawp_nil ?_
    simp (disch := omega) only [push_cast, and_true, cond_true, cond_false, if_pos, if_neg, ↓reduceIte, Nat.reduceEqDiff, Nat.reduceAdd, Nat.reduceLeDiff, hk, alook_eL]
    refine hK8 _ ?_
    refine awp_ret ?_
    try simp only [push_cast]
    refine fin_pure (by (simp (disch := omega) only [Tryd.results19, aresults, aresult, push_cast, and_true, cond_true, cond_false, if_pos, if_neg, ↓reduceIte, Nat.reduceEqDiff, Nat.reduceAdd, Nat.reduceLeDiff, hk, alook_eL]) <;> rfl) (by simp only [atuple, AV.er, AV.erL, push_cast]; rfl) (by simp [AV.cl, AV.clL]) (by first | exact ⟨_, rfl⟩ | exact ⟨[], (List.append_nil _).symm⟩) hH (fun _ h => h) ?_
    exact ⟨by rw [nmL_none hb1, hnd]; rfl, rfl, rfl⟩
  simp only [decide_eq_true_eq, decide_eq_false_iff_not, Bool.not_eq_true', Bool.not_eq_false', Bool.or_eq_true, Bool.and_eq_true, Bool.or_eq_false_iff, Bool.and_eq_false_imp, Int.not_lt, Int.not_le] at hb2
  have hnd : numD s = match digs s 0 with | some n => if 65535 < n then none else some n | none => none := if_neg (by rintro (h | h); exact hb2.1 h; omega)
  refine awp_skip ?_
  try simp only [push_cast]
  refine hK6 _ ?_
  refine awp_seq_k fun K9 hK9 => ?_
  refine awp_region_keep [0, 8] ⟨false, [], [], []⟩ (fun h => nomatch h) ?_
  refine dawp_p rfl (by (simp (disch := omega) only [push_cast, and_true, cond_true, cond_false, if_pos, if_neg, ↓reduceIte, Nat.reduceEqDiff, Nat.reduceAdd, Nat.reduceLeDiff, hk, alook_eL]) <;> rfl) rfl rfl ?_
  refine dawp_nil ?_
  simp (disch := omega) only [push_cast, and_true, cond_true, cond_false, if_pos, if_neg, ↓reduceIte, Nat.reduceEqDiff, Nat.reduceAdd, Nat.reduceLeDiff, hk, alook_eL]
  refine hK9 _ ?_
  refine awp_seq_k fun K10 hK10 => ?_
  refine awp_seq_k fun K11 hK11 => ?_
  refine awp_region_keep [8, 27] ⟨false, [], [], []⟩ (fun h => nomatch h) ?_
  refine dawp_p rfl (by (simp (disch := omega) only [push_cast, and_true, cond_true, cond_false, if_pos, if_neg, ↓reduceIte, Nat.reduceEqDiff, Nat.reduceAdd, Nat.reduceLeDiff, hk, alook_eL]) <;> rfl) rfl rfl ?_
  refine dawp_w rfl rfl rfl rfl (AOp.rangeS _ _ rfl Ty.isStrT_9 (by (simp (disch := omega) only [push_cast, and_true, cond_true, cond_false, if_pos, if_neg, ↓reduceIte, Nat.reduceEqDiff, Nat.reduceAdd, Nat.reduceLeDiff, hk, alook_eL]) <;> rfl) ?_)
  refine dawp_nil ?_
  simp (disch := omega) only [push_cast, and_true, cond_true, cond_false, if_pos, if_neg, ↓reduceIte, Nat.reduceEqDiff, Nat.reduceAdd, Nat.reduceLeDiff, hk, alook_eL]
  refine hK11 _ ?_
  refine awp_block ?_
  refine awp_loop' (X := {p : Nat × Nat // p.1 ≤ s.length ∧ p.2 < 10 ^ p.1 ∧ digs s 0 = digs (s.drop p.1) p.2}) (fun x => ⟨Tryd.f19.ntmps, fget [(8, .int .i64 (x.1.2 : Nat)), (27, .ptr h.length 0)], h ++ [.siter s x.1.1], live⟩) (fun x => s.length - x.1.1) (⟨⟨0, 0⟩, by simp⟩) ?_ (by first | rfl | simp only [List.length_set]) (fun ⟨⟨i, n⟩, hi, hn, hd⟩ => ?_)
  · skip
    dsimp only
    refine Trunc.of (by first | exact (List.append_nil _).symm | (rw [List.append_assoc]; rfl)) ?_ (HCl.snoc hH trivial) (fun _ h => h)
    refine FTr.cons (by first | rfl | (simp (disch := omega) only [push_cast, and_true, cond_true, cond_false, if_pos, if_neg, ↓reduceIte, Nat.reduceEqDiff, Nat.reduceAdd, Nat.reduceLeDiff, hk, alook_eL]; rfl)) (by simp [AV.cl, AV.clL, clL_str]) ?_
    refine FTr.cons (by first | rfl | (simp (disch := omega) only [push_cast, and_true, cond_true, cond_false, if_pos, if_neg, ↓reduceIte, Nat.reduceEqDiff, Nat.reduceAdd, Nat.reduceLeDiff, hk, alook_eL]; rfl)) (by simp [AV.cl, AV.clL, clL_str]) ?_
    exact FTr.nil
  dsimp only
  dsimp only at hi hn hd
  have hp := pow10_le (i := i) (by omega)
  refine awp_seq_k fun K12 hK12 => ?_
  refine awp_region_keep [8, 27, 28, 29] ⟨false, [], [], []⟩ (fun h => nomatch h) ?_
  refine dawp_w rfl rfl rfl rfl (AOp.nextS _ rfl (by (simp (disch := omega) only [push_cast, and_true, cond_true, cond_false, if_pos, if_neg, ↓reduceIte, Nat.reduceEqDiff, Nat.reduceAdd, Nat.reduceLeDiff, hk, alook_eL]) <;> rfl) (by (simp (disch := omega) only [push_cast, and_true, cond_true, cond_false, if_pos, if_neg, ↓reduceIte, Nat.reduceEqDiff, Nat.reduceAdd, Nat.reduceLeDiff, hk, alook_eL]) <;> rfl) ?_)
  refine dawp_p rfl (by (simp (disch := omega) only [push_cast, and_true, cond_true, cond_false, if_pos, if_neg, ↓reduceIte, Nat.reduceEqDiff, Nat.reduceAdd, Nat.reduceLeDiff, hk, alook_eL]) <;> rfl) rfl rfl ?_
  refine dawp_nil ?_
  simp (disch := omega) only [push_cast, and_true, cond_true, cond_false, if_pos, if_neg, ↓reduceIte, Nat.reduceEqDiff, Nat.reduceAdd, Nat.reduceLeDiff, hk, alook_eL]
  refine hK12 _ ?_
  refine awp_seq_k fun K13 hK13 => ?_
  refine awp_cond (by (simp (disch := omega) only [push_cast, and_true, cond_true, cond_false, if_pos, if_neg, ↓reduceIte, Nat.reduceEqDiff, Nat.reduceAdd, Nat.reduceLeDiff, hk, alook_eL]) <;> rfl) (fun hb3 => ?_) (fun hb3 => ?_)
  rotate_left
  · skip
    simp only [hb3, nextV_f, cond_false]
    simp only [decide_eq_true_eq, decide_eq_false_iff_not, Bool.not_eq_true', Bool.not_eq_false', Bool.or_eq_true, Bool.and_eq_true, Bool.or_eq_false_iff, Bool.and_eq_false_imp, Int.not_lt, Int.not_le] at hb3
    have hil : i = s.length := by omega
    subst hil
    have hdn : digs s 0 = some n := by rw [hd, List.drop_length]; rfl
    rw [hdn] at hnd
    simp only [] at hnd
    refine awp_exit ?_
    simp (disch := omega) only [push_cast, and_true, cond_true, cond_false, if_pos, if_neg, ↓reduceIte, Nat.reduceEqDiff, Nat.reduceAdd, Nat.reduceLeDiff, hk, alook_eL]
    refine hK10 _ ?_
    refine awp_seq_k fun K14 hK14 => ?_
    refine awp_seq_k fun K15 hK15 => ?_
    refine awp_region_keep [8, 44] ⟨false, [], [], []⟩ (fun h => nomatch h) ?_
    iterate 2 (refine dawp_p rfl (by (simp (disch := omega) only [push_cast, and_true, cond_true, cond_false, if_pos, if_neg, ↓reduceIte, Nat.reduceEqDiff, Nat.reduceAdd, Nat.reduceLeDiff, hk, alook_eL]) <;> rfl) rfl rfl ?_)
    refine dawp_nil ?_
    simp (disch := omega) only [push_cast, and_true, cond_true, cond_false, if_pos, if_neg, ↓reduceIte, Nat.reduceEqDiff, Nat.reduceAdd, Nat.reduceLeDiff, hk, alook_eL]
    refine hK15 _ ?_
    refine awp_cond (by (simp (disch := omega) only [push_cast, and_true, cond_true, cond_false, if_pos, if_neg, ↓reduceIte, Nat.reduceEqDiff, Nat.reduceAdd, Nat.reduceLeDiff, hk, alook_eL]) <;> rfl) (fun hb5 => ?_) (fun hb5 => ?_)
    · skip
      simp only [decide_eq_true_eq, decide_eq_false_iff_not, Bool.not_eq_true', Bool.not_eq_false', Bool.or_eq_true, Bool.and_eq_true, Bool.or_eq_false_iff, Bool.and_eq_false_imp, Int.not_lt, Int.not_le] at hb5
      rw [if_pos (by omega)] at hnd
      refine awp_seq_k fun K16 hK16 => ?_
      refine awp_region_keep [4, 5] ⟨false, [], [], []⟩ (fun h => nomatch h) ?_
      iterate 2 (refine dawp_p rfl (by (simp (disch := omega) only [push_cast, and_true, cond_true, cond_false, if_pos, if_neg, ↓reduceIte, Nat.reduceEqDiff, Nat.reduceAdd, Nat.reduceLeDiff, hk, alook_eL]) <;> rfl) rfl rfl ?_)
      refine dawp_nil ?_
      simp (disch := omega) only [push_cast, and_true, cond_true, cond_false, if_pos, if_neg, ↓reduceIte, Nat.reduceEqDiff, Nat.reduceAdd, Nat.reduceLeDiff, hk, alook_eL]
      refine hK16 _ ?_
      refine awp_ret ?_
      try simp only [push_cast]
      refine fin_pure (by (simp (disch := omega) only [Tryd.results19, aresults, aresult, push_cast, and_true, cond_true, cond_false, if_pos, if_neg, ↓reduceIte, Nat.reduceEqDiff, Nat.reduceAdd, Nat.reduceLeDiff, hk, alook_eL]) <;> rfl) (by simp only [atuple, AV.er, AV.erL, push_cast]; rfl) (by simp [AV.cl, AV.clL]) (by first | exact ⟨_, rfl⟩ | exact ⟨[], (List.append_nil _).symm⟩) hH (fun _ h => h) ?_
      exact ⟨by rw [nmL_none hb1, hnd]; rfl, rfl, rfl⟩
    simp only [decide_eq_true_eq, decide_eq_false_iff_not, Bool.not_eq_true', Bool.not_eq_false', Bool.or_eq_true, Bool.and_eq_true, Bool.or_eq_false_iff, Bool.and_eq_false_imp, Int.not_lt, Int.not_le] at hb5
    rw [if_neg (by omega)] at hnd
    refine awp_skip ?_
    try simp only [push_cast]
    refine hK14 _ ?_
    refine awp_seq_k fun K17 hK17 => ?_
    refine awp_region_keep [4, 5] ⟨false, [], [], []⟩ (fun h => nomatch h) ?_
    iterate 3 (refine dawp_p rfl (by (simp (disch := omega) only [push_cast, and_true, cond_true, cond_false, if_pos, if_neg, ↓reduceIte, Nat.reduceEqDiff, Nat.reduceAdd, Nat.reduceLeDiff, hk, alook_eL]) <;> rfl) rfl rfl ?_)
    refine dawp_nil ?_
    simp (disch := omega) only [push_cast, and_true, cond_true, cond_false, if_pos, if_neg, ↓reduceIte, Nat.reduceEqDiff, Nat.reduceAdd, Nat.reduceLeDiff, hk, alook_eL]
    refine hK17 _ ?_
    refine awp_ret ?_
    try simp only [push_cast]
    refine fin_pure (by (simp (disch := omega) only [Tryd.results19, aresults, aresult, push_cast, and_true, cond_true, cond_false, if_pos, if_neg, ↓reduceIte, Nat.reduceEqDiff, Nat.reduceAdd, Nat.reduceLeDiff, hk, alook_eL]) <;> rfl) (by simp only [atuple, AV.er, AV.erL, push_cast]; rfl) (by simp [AV.cl, AV.clL]) (by first | exact ⟨_, rfl⟩ | exact ⟨[], (List.append_nil _).symm⟩) hH (fun _ h => h) ?_
    exact ⟨by rw [nmL_none hb1, hnd]; rfl, rfl, rfl⟩
  simp only [hb3, nextV_t, cond_true]
  simp only [decide_eq_true_eq, decide_eq_false_iff_not, Bool.not_eq_true', Bool.not_eq_false', Bool.or_eq_true, Bool.and_eq_true, Bool.or_eq_false_iff, Bool.and_eq_false_imp, Int.not_lt, Int.not_le] at hb3
  have hbi : i < s.length := by omega
  obtain ⟨hiff, hdec⟩ := dec_digit hbi
  refine awp_skip ?_
  try simp only [push_cast]
  refine hK13 _ ?_
  refine awp_block ?_
  refine awp_seq_k fun K18 hK18 => ?_
  refine awp_region_keep [8, 10, 27] ⟨false, [], [], []⟩ (fun h => nomatch h) ?_
  iterate 2 (refine dawp_p rfl (by (simp (disch := omega) only [push_cast, and_true, cond_true, cond_false, if_pos, if_neg, ↓reduceIte, Nat.reduceEqDiff, Nat.reduceAdd, Nat.reduceLeDiff, hk, alook_eL]) <;> rfl) rfl rfl ?_)
  refine dawp_nil ?_
  simp (disch := omega) only [push_cast, and_true, cond_true, cond_false, if_pos, if_neg, ↓reduceIte, Nat.reduceEqDiff, Nat.reduceAdd, Nat.reduceLeDiff, hk, alook_eL]
  refine hK18 _ ?_
  refine awp_seq_k fun K19 hK19 => ?_
  refine awp_seq_k fun K20 hK20 => ?_
  refine awp_region_keep [8, 10, 27, 36] ⟨false, [], [], []⟩ (fun h => nomatch h) ?_
  iterate 3 (refine dawp_p rfl (by (simp (disch := omega) only [push_cast, and_true, cond_true, cond_false, if_pos, if_neg, ↓reduceIte, Nat.reduceEqDiff, Nat.reduceAdd, Nat.reduceLeDiff, hk, alook_eL]) <;> rfl) rfl rfl ?_)
  iterate 2 (refine dawp_g rfl rfl (by simp only [push_cast, and_true, cond_true, cond_false, if_pos, if_neg, ↓reduceIte, Nat.reduceEqDiff, Nat.reduceAdd, Nat.reduceLeDiff, hk, alook_eL]; rfl) (fun hg => by simp (disch := omega) only [hg, push_cast, and_true, cond_true, cond_false, if_pos, if_neg, ↓reduceIte, Nat.reduceEqDiff, Nat.reduceAdd, Nat.reduceLeDiff, hk, alook_eL]; rfl) rfl rfl ?_)
  refine dawp_p rfl (by (simp (disch := omega) only [push_cast, and_true, cond_true, cond_false, if_pos, if_neg, ↓reduceIte, Nat.reduceEqDiff, Nat.reduceAdd, Nat.reduceLeDiff, hk, alook_eL]) <;> rfl) rfl rfl ?_
  refine dawp_nil ?_
  simp (disch := omega) only [push_cast, and_true, cond_true, cond_false, if_pos, if_neg, ↓reduceIte, Nat.reduceEqDiff, Nat.reduceAdd, Nat.reduceLeDiff, hk, alook_eL]
  refine hK20 _ ?_
  refine awp_cond (by (simp (disch := omega) only [push_cast, and_true, cond_true, cond_false, if_pos, if_neg, ↓reduceIte, Nat.reduceEqDiff, Nat.reduceAdd, Nat.reduceLeDiff, hk, alook_eL]) <;> rfl) (fun hb4 => ?_) (fun hb4 => ?_)
  · skip
    simp only [decide_eq_true_eq, decide_eq_false_iff_not, Bool.not_eq_true', Bool.not_eq_false', Bool.or_eq_true, Bool.and_eq_true, Bool.or_eq_false_iff, Bool.and_eq_false_imp, Int.not_lt, Int.not_le] at hb4
    have hst := digs_stop (n := n) hbi (fun hh => by have := hiff.2 hh; omega)
    have hdn : numD s = none := by rw [hnd, hd, hst]
    refine awp_seq_k fun K21 hK21 => ?_
    refine awp_region_keep [4, 5] ⟨false, [], [], []⟩ (fun h => nomatch h) ?_
    iterate 2 (refine dawp_p rfl (by (simp (disch := omega) only [push_cast, and_true, cond_true, cond_false, if_pos, if_neg, ↓reduceIte, Nat.reduceEqDiff, Nat.reduceAdd, Nat.reduceLeDiff, hk, alook_eL]) <;> rfl) rfl rfl ?_)
    refine dawp_nil ?_
    simp (disch := omega) only [push_cast, and_true, cond_true, cond_false, if_pos, if_neg, ↓reduceIte, Nat.reduceEqDiff, Nat.reduceAdd, Nat.reduceLeDiff, hk, alook_eL]
    refine hK21 _ ?_
    refine awp_ret ?_
    try simp only [push_cast]
    refine fin_pure (by (simp (disch := omega) only [Tryd.results19, aresults, aresult, push_cast, and_true, cond_true, cond_false, if_pos, if_neg, ↓reduceIte, Nat.reduceEqDiff, Nat.reduceAdd, Nat.reduceLeDiff, hk, alook_eL]) <;> rfl) (by simp only [atuple, AV.er, AV.erL, push_cast]; rfl) (by simp [AV.cl, AV.clL]) (by first | exact ⟨_, rfl⟩ | exact ⟨[], (List.append_nil _).symm⟩) hH (fun _ h => h) ?_
    exact ⟨by rw [nmL_none hb1, hdn]; rfl, rfl, rfl⟩
  simp only [decide_eq_true_eq, decide_eq_false_iff_not, Bool.not_eq_true', Bool.not_eq_false', Bool.or_eq_true, Bool.and_eq_true, Bool.or_eq_false_iff, Bool.and_eq_false_imp, Int.not_lt, Int.not_le] at hb4
  have hde := hdec (by omega)
  have hdg := hiff.1 (by omega)
  rw [hde]
  simp only []
  refine awp_skip ?_
  try simp only [push_cast]
  refine hK19 _ ?_
  refine awp_region_keep [8, 27] ⟨false, [], [], []⟩ (fun h => nomatch h) ?_
  iterate 7 (refine dawp_p rfl (by (simp (disch := omega) only [push_cast, and_true, cond_true, cond_false, if_pos, if_neg, ↓reduceIte, Nat.reduceEqDiff, Nat.reduceAdd, Nat.reduceLeDiff, hk, alook_eL]) <;> rfl) rfl rfl ?_)
  refine dawp_nil ?_
  simp (disch := omega) only [push_cast, and_true, cond_true, cond_false, if_pos, if_neg, ↓reduceIte, Nat.reduceEqDiff, Nat.reduceAdd, Nat.reduceLeDiff, hk, alook_eL]
  refine ⟨⟨⟨i + 1, n * 10 + ((s.getD i 0).toNat - 48)⟩, by dsimp only; omega, by rw [Nat.pow_succ]; dsimp only; omega, by rw [hd, digs_step hbi hdg]⟩, ?_, (by first | rfl | trivial | simp only [List.length_set]), by dsimp only; omega⟩
  dsimp only
  refine Trunc.of (by first | exact (List.append_nil _).symm | (rw [List.append_assoc]; rfl)) ?_ (HCl.snoc hH trivial) (fun _ h => h)
  refine FTr.cons (by (simp (disch := omega) only [push_cast, and_true, cond_true, cond_false, if_pos, if_neg, ↓reduceIte, Nat.reduceEqDiff, Nat.reduceAdd, Nat.reduceLeDiff, hk, alook_eL]) <;> first | rfl | (congr 2; omega)) (by simp [AV.cl, AV.clL, clL_str]) ?_
  refine FTr.cons (by (simp (disch := omega) only [push_cast, and_true, cond_true, cond_false, if_pos, if_neg, ↓reduceIte, Nat.reduceEqDiff, Nat.reduceAdd, Nat.reduceLeDiff, hk, alook_eL]) <;> first | rfl | (congr 2; omega)) (by simp [AV.cl, AV.clL, clL_str]) ?_
  exact FTr.nil

end Go.Proofs.YtlkpgpdhohnncaaDoor
