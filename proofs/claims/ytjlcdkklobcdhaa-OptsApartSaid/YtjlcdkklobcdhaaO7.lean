import Derived.Test.YtjlcdkklobcdhaaO6
/-
  OPTIONS: how words are read.
-/
namespace Go.Proofs.Ytjlcdkklobcdhaa
open Go.Ab
set_option linter.unusedVariables false
set_option linter.unusedSimpArgs false


def isOpt (s : List UInt8) : Bool := !(decide ((s.length : Int) < 2) || !decide (((s.getD 0 0).toNat : Int) = 45))
/-- Options and operands. -/
def parseF (may : List UInt8) : Nat → List (List UInt8) → List Fl → Option (List Fl × List (List UInt8))
  | 0, left, fl => some (fl, left)
  | n + 1, left, fl => match left with
    | [] => some (fl, [])
    | s :: r =>
      bif isOpt s then
        bif decide (s = [45, 45]) then some (fl, r)
        else match letters may (s.drop 1) fl r with
          | none => none
          | some (fl', r') => parseF may n r' fl'
      else some (fl, s :: r)
def parse (may : List UInt8) (args : List (List UInt8)) : Option (List Fl × List (List UInt8)) := parseF may args.length args []
def pf (o : Option (List Fl × List (List UInt8))) : List Fl := match o with | some (fl, _) => fl | none => []
def pr (o : Option (List Fl × List (List UInt8))) : List (List UInt8) := match o with | some (_, r) => r | none => []
def errP (b : Bool) : Int := bif b then 0 else 22
def parseV (o : Option (List Fl × List (List UInt8))) : AV := .tup [.agg [.slice ((pf o).map eF) .none, .slice ((pr o).map .str) .none], .int .i64 (errP o.isSome)]
def refV (o : Option (List Fl × List (List UInt8))) : AV := .agg [.slice ((pf o).map eF) .none, .slice ((pr o).map .str) .none, .bool o.isSome]

section
variable {may : List UInt8} {n : Nat} {left : List (List UInt8)} {fl : List Fl}
theorem parseF_nil (hl : left.length = 0) : parseF may n left fl = some (fl, []) := by
  cases left with
  | nil => cases n <;> rfl
  | cons _ _ => simp at hl
theorem parseF_stop (hl : 0 < left.length) (ho : isOpt (left.getD 0 []) = false) : parseF may n left fl = some (fl, left) := by
  cases left with
  | nil => simp at hl
  | cons s r => cases n with
    | zero => rfl
    | succ n => simp at ho; simp only [parseF, ho]; rfl
theorem parseF_dash (hl : 0 < left.length) (hn : left.length ≤ n) (ho : isOpt (left.getD 0 []) = true) (hd : left.getD 0 [] = [45, 45]) : parseF may n left fl = some (fl, left.drop 1) := by
  cases left with
  | nil => simp at hl
  | cons s r => cases n with
    | zero => simp at hn
    | succ n => simp at ho hd; subst hd; simp only [parseF, ho]; rfl
theorem parseF_word (hl : 0 < left.length) (hn : left.length ≤ n) (ho : isOpt (left.getD 0 []) = true) (hd : left.getD 0 [] ≠ [45, 45]) : parseF may n left fl = match letters may ((left.getD 0 []).drop 1) fl (left.drop 1) with
          | none => none
          | some (fl', r') => parseF may (n - 1) r' fl' := by
  cases left with
  | nil => simp at hl
  | cons s r => cases n with
    | zero => simp at hn
    | succ n =>
      simp at ho hd
      simp only [parseF, ho, List.getD_cons_zero, List.drop_succ_cons, List.drop_zero, Nat.add_sub_cancel]
      rw [decide_eq_false hd]; rfl
end


theorem getD0_mem {α : Type} {l : List α} (d : α) (h : 0 < l.length) : l.getD 0 d ∈ l := by
  cases l with
  | nil => simp at h
  | cons a r => simp

set_option maxHeartbeats 400000 in
theorem c10 (may : List UInt8) (args : List (List UInt8)) (cl : Cap) (h : List Blk) (live : List Nat) (hm : may.length ≤ 1000000) (hargs : args.length ≤ 1000) (hw : ∀ s ∈ args, s.length ≤ 1000) :
    ACalls Try.prog 10 [.str may, .slice (args.map .str) cl] h live (ret (parseV (parse may args)) h live) := by
  refine acalls_of_awp Try.func10 rfl rfl (Nat.le_of_ble_eq_true rfl) fun hH hX => ?_
  simp only [fargs]
  have hB : ∀ (a : List Fl) b (d : List (List UInt8)) e, HCl (h ++ [.cells [.slice [] .full, .slice [] .full], .cells [.slice (a.map eF) b, .slice [] .full, .str may, .slice (d.map .str) e]]) := fun a b d e => by
    have := HCl.snoc (HCl.snoc hH (b := .cells [.slice [] .full, .slice [] .full]) (by simp [Blk.cl, AV.cl, AV.clL])) (b := .cells [.slice (a.map eF) b, .slice [] .full, .str may, .slice (d.map .str) e]) (by simp [Blk.cl, AV.cl, AV.clL, clL_eF, clL_str])
    simpa using this
  refine awp_seq_k fun K1 hK1 => ?_
  refine awp_region_keep [0, 1, 4] ⟨false, [], [], []⟩ (fun h => nomatch h) ?_
  refine dawp_h rfl (by (simp (disch := omega) only [push_cast, and_true, cond_true, cond_false, if_pos, if_neg, ↓reduceIte, Nat.reduceEqDiff, Nat.reduceAdd, Nat.reduceLeDiff, eF_snoc]) <;> rfl) rfl rfl ?_
  refine dawp_p rfl (by (simp (disch := omega) only [push_cast, and_true, cond_true, cond_false, if_pos, if_neg, ↓reduceIte, Nat.reduceEqDiff, Nat.reduceAdd, Nat.reduceLeDiff, eF_snoc]) <;> rfl) rfl rfl ?_
  refine dawp_nil ?_
  simp (disch := omega) only [push_cast, and_true, cond_true, cond_false, if_pos, if_neg, ↓reduceIte, Nat.reduceEqDiff, Nat.reduceAdd, Nat.reduceLeDiff, eF_snoc]
  refine hK1 _ ?_
  refine awp_seq_k fun K2 hK2 => ?_
  refine awp_region_keep [4, 6] ⟨false, [], [], []⟩ (fun h => nomatch h) ?_
  iterate 3 (refine dawp_p rfl (by (simp (disch := omega) only [push_cast, and_true, cond_true, cond_false, if_pos, if_neg, ↓reduceIte, Nat.reduceEqDiff, Nat.reduceAdd, Nat.reduceLeDiff, eF_snoc]) <;> rfl) rfl rfl ?_)
  refine dawp_h rfl (by (simp (disch := omega) only [push_cast, and_true, cond_true, cond_false, if_pos, if_neg, ↓reduceIte, Nat.reduceEqDiff, Nat.reduceAdd, Nat.reduceLeDiff, eF_snoc]) <;> rfl) rfl rfl ?_
  refine dawp_p rfl (by (simp (disch := omega) only [push_cast, and_true, cond_true, cond_false, if_pos, if_neg, ↓reduceIte, Nat.reduceEqDiff, Nat.reduceAdd, Nat.reduceLeDiff, eF_snoc]) <;> rfl) rfl rfl ?_
  refine dawp_nil ?_
  simp (disch := omega) only [push_cast, and_true, cond_true, cond_false, if_pos, if_neg, ↓reduceIte, Nat.reduceEqDiff, Nat.reduceAdd, Nat.reduceLeDiff, eF_snoc]
  refine hK2 _ ?_
  refine awp_seq_k fun K3 hK3 => ?_
  refine awp_block ?_
  refine awp_loop' (X := {p : Nat × List Fl × Cap × List Nat × List (List UInt8) × Cap // p.2.2.2.2.1.length ≤ p.1 ∧ p.1 ≤ args.length ∧ p.2.1.length ≤ 1000 * (args.length - p.1) ∧ Keeps live .full p.2.2.2.1 p.2.2.1 ∧ (∀ s ∈ p.2.2.2.2.1, s.length ≤ 1000) ∧ parseF may p.1 p.2.2.2.2.1 p.2.1 = parse may args}) (fun x => ⟨Try.f10.ntmps, fget [(4, .ptr h.length 0), (6, .ptr (h.length + 1) 0)], h ++ [.cells [.slice [] .full, .slice [] .full], .cells [.slice (x.1.2.1.map eF) x.1.2.2.1, .slice [] .full, .str may, .slice (x.1.2.2.2.2.1.map .str) x.1.2.2.2.2.2]], x.1.2.2.2.1⟩) (fun x => x.1.1) (⟨⟨args.length, [], .full, live, args, cl⟩, Nat.le_refl _, Nat.le_refl _, by simp, Keeps.refl (.inl rfl), hw, rfl⟩) ?_ (by first | rfl | simp only [List.length_set]) (fun ⟨⟨n, fl', c', live', left, cl'⟩, hln, hna, hfl', hkp, hws, hlt⟩ => ?_)
  · skip
    dsimp only
    refine Trunc.of (by first | exact (List.append_nil _).symm | (rw [List.append_assoc]; rfl)) ?_ (hB _ _ _ _) (fun _ h => h)
    refine FTr.cons (by first | rfl | (simp (disch := omega) only [push_cast, and_true, cond_true, cond_false, if_pos, if_neg, ↓reduceIte, Nat.reduceEqDiff, Nat.reduceAdd, Nat.reduceLeDiff, eF_snoc]; rfl)) (by simp [AV.cl, AV.clL, clL_eF, clL_str]) ?_
    refine FTr.cons (by first | rfl | (simp (disch := omega) only [push_cast, and_true, cond_true, cond_false, if_pos, if_neg, ↓reduceIte, Nat.reduceEqDiff, Nat.reduceAdd, Nat.reduceLeDiff, eF_snoc]; rfl)) (by simp [AV.cl, AV.clL, clL_eF, clL_str]) ?_
    exact FTr.nil
  dsimp only
  have hcok := hkp.ok
  dsimp only at hln hna hfl' hws hlt hkp hcok
  refine awp_seq_k fun K4 hK4 => ?_
  refine awp_seq_k fun K5 hK5 => ?_
  refine awp_region_keep [4, 6, 17] ⟨false, [], [], []⟩ (fun h => nomatch h) ?_
  iterate 3 (refine dawp_p rfl (by (simp (disch := omega) only [push_cast, and_true, cond_true, cond_false, if_pos, if_neg, ↓reduceIte, Nat.reduceEqDiff, Nat.reduceAdd, Nat.reduceLeDiff, eF_snoc]) <;> rfl) rfl rfl ?_)
  refine dawp_h rfl (by (simp (disch := omega) only [push_cast, and_true, cond_true, cond_false, if_pos, if_neg, ↓reduceIte, Nat.reduceEqDiff, Nat.reduceAdd, Nat.reduceLeDiff, eF_snoc]) <;> rfl) rfl rfl ?_
  iterate 2 (refine dawp_p rfl (by (simp (disch := omega) only [push_cast, and_true, cond_true, cond_false, if_pos, if_neg, ↓reduceIte, Nat.reduceEqDiff, Nat.reduceAdd, Nat.reduceLeDiff, eF_snoc]) <;> rfl) rfl rfl ?_)
  refine dawp_nil ?_
  simp (disch := omega) only [push_cast, and_true, cond_true, cond_false, if_pos, if_neg, ↓reduceIte, Nat.reduceEqDiff, Nat.reduceAdd, Nat.reduceLeDiff, eF_snoc]
  refine hK5 _ ?_
  refine awp_cond (by (simp (disch := omega) only [push_cast, and_true, cond_true, cond_false, if_pos, if_neg, ↓reduceIte, Nat.reduceEqDiff, Nat.reduceAdd, Nat.reduceLeDiff, eF_snoc]) <;> rfl) (fun hb1 => ?_) (fun hb1 => ?_)
  rotate_left
  · skip
    try simp only [decide_eq_true_eq, decide_eq_false_iff_not, Bool.not_eq_true', Bool.not_eq_false', Bool.or_eq_true, Bool.and_eq_true, Bool.or_eq_false_iff, Bool.and_eq_false_imp, Int.not_lt, Int.not_le] at hb1
    refine awp_exit ?_
    simp (disch := omega) only [push_cast, and_true, cond_true, cond_false, if_pos, if_neg, ↓reduceIte, Nat.reduceEqDiff, Nat.reduceAdd, Nat.reduceLeDiff, eF_snoc]
    refine hK3 _ ?_
    refine awp_seq_k fun K6 hK6 => ?_
    refine awp_region_keep [4, 6] ⟨false, [], [], []⟩ (fun _ => ⟨by kernel_rfl, by kernel_rfl⟩) ?_
    iterate 5 (refine dawp_p rfl (by (simp (disch := omega) only [push_cast, and_true, cond_true, cond_false, if_pos, if_neg, ↓reduceIte, Nat.reduceEqDiff, Nat.reduceAdd, Nat.reduceLeDiff, eF_snoc]) <;> rfl) rfl rfl ?_)
    refine dawp_h rfl (by (simp (disch := omega) only [push_cast, and_true, cond_true, cond_false, if_pos, if_neg, ↓reduceIte, Nat.reduceEqDiff, Nat.reduceAdd, Nat.reduceLeDiff, eF_snoc]) <;> rfl) rfl rfl ?_
    iterate 3 (refine dawp_p rfl (by (simp (disch := omega) only [push_cast, and_true, cond_true, cond_false, if_pos, if_neg, ↓reduceIte, Nat.reduceEqDiff, Nat.reduceAdd, Nat.reduceLeDiff, eF_snoc]) <;> rfl) rfl rfl ?_)
    refine dawp_h rfl (by (simp (disch := omega) only [push_cast, and_true, cond_true, cond_false, if_pos, if_neg, ↓reduceIte, Nat.reduceEqDiff, Nat.reduceAdd, Nat.reduceLeDiff, eF_snoc]) <;> rfl) rfl rfl ?_
    refine dawp_w rfl rfl rfl rfl (AOp.append _ _ _ rfl (by (simp (disch := omega) only [push_cast, and_true, cond_true, cond_false, if_pos, if_neg, ↓reduceIte, Nat.reduceEqDiff, Nat.reduceAdd, Nat.reduceLeDiff, eF_snoc]) <;> rfl) (by (simp (disch := omega) only [push_cast, and_true, cond_true, cond_false, if_pos, if_neg, ↓reduceIte, Nat.reduceEqDiff, Nat.reduceAdd, Nat.reduceLeDiff, eF_snoc]) <;> rfl) (by (simp (disch := omega) only [push_cast, and_true, cond_true, cond_false, if_pos, if_neg, ↓reduceIte, Nat.reduceEqDiff, Nat.reduceAdd, Nat.reduceLeDiff, eF_snoc]) <;> rfl) (.inl rfl) (by simp) (cells_strs _) (by simp; omega) (by simp; omega) ?_)
    intro c58 live58 hk58
    iterate 3 (refine dawp_p rfl (by (simp (disch := omega) only [push_cast, and_true, cond_true, cond_false, if_pos, if_neg, ↓reduceIte, Nat.reduceEqDiff, Nat.reduceAdd, Nat.reduceLeDiff, eF_snoc]) <;> rfl) rfl rfl ?_)
    refine dawp_hn rfl (by (simp (disch := omega) only [push_cast, and_true, cond_true, cond_false, if_pos, if_neg, ↓reduceIte, Nat.reduceEqDiff, Nat.reduceAdd, Nat.reduceLeDiff, eF_snoc]) <;> rfl) rfl ?_
    refine dawp_nil ?_
    simp (disch := omega) only [push_cast, and_true, cond_true, cond_false, if_pos, if_neg, ↓reduceIte, Nat.reduceEqDiff, Nat.reduceAdd, Nat.reduceLeDiff, eF_snoc]
    refine hK6 _ ?_
    refine awp_seq_k fun K7 hK7 => ?_
    refine awp_region_keep [4, 5] ⟨false, [], [], []⟩ (fun h => nomatch h) ?_
    iterate 3 (refine dawp_p rfl (by (simp (disch := omega) only [push_cast, and_true, cond_true, cond_false, if_pos, if_neg, ↓reduceIte, Nat.reduceEqDiff, Nat.reduceAdd, Nat.reduceLeDiff, eF_snoc]) <;> rfl) rfl rfl ?_)
    refine dawp_h rfl (by (simp (disch := omega) only [push_cast, and_true, cond_true, cond_false, if_pos, if_neg, ↓reduceIte, Nat.reduceEqDiff, Nat.reduceAdd, Nat.reduceLeDiff, eF_snoc]) <;> rfl) rfl rfl ?_
    refine dawp_hn rfl (by (simp (disch := omega) only [push_cast, and_true, cond_true, cond_false, if_pos, if_neg, ↓reduceIte, Nat.reduceEqDiff, Nat.reduceAdd, Nat.reduceLeDiff, eF_snoc]) <;> rfl) rfl ?_
    refine dawp_p rfl (by (simp (disch := omega) only [push_cast, and_true, cond_true, cond_false, if_pos, if_neg, ↓reduceIte, Nat.reduceEqDiff, Nat.reduceAdd, Nat.reduceLeDiff, eF_snoc]) <;> rfl) rfl rfl ?_
    refine dawp_nil ?_
    simp (disch := omega) only [push_cast, and_true, cond_true, cond_false, if_pos, if_neg, ↓reduceIte, Nat.reduceEqDiff, Nat.reduceAdd, Nat.reduceLeDiff, eF_snoc]
    refine hK7 _ ?_
    refine awp_ret ?_
    try simp only [push_cast]
    have e : left = [] := List.length_eq_zero_iff.1 (by omega)
    subst e
    refine fin_pure (by (simp (disch := omega) only [Try.results10, aresults, aresult, push_cast, and_true, cond_true, cond_false, if_pos, if_neg, ↓reduceIte, Nat.reduceEqDiff, Nat.reduceAdd, Nat.reduceLeDiff, eF_snoc]) <;> rfl) (by simp only [atuple, AV.er, AV.erL, push_cast, eFs_er, erL_str]; rfl) (by simp [AV.cl, AV.clL, clL_eF, clL_str, clL_str_tail, eFs_er, erL_str]) (by first | exact ⟨_, rfl⟩ | exact ⟨[], (List.append_nil _).symm⟩) hH (fun u hu => (hk58.2 u (hkp.2 u hu (fun e => by cases e)).1 (fun e => by cases e)).1) ?_
    have hp : parse may args = _ := hlt.symm.trans (parseF_nil (by omega))
    rw [hp]
    exact ⟨rfl, rfl, rfl⟩
  try simp only [decide_eq_true_eq, decide_eq_false_iff_not, Bool.not_eq_true', Bool.not_eq_false', Bool.or_eq_true, Bool.and_eq_true, Bool.or_eq_false_iff, Bool.and_eq_false_imp, Int.not_lt, Int.not_le] at hb1
  refine awp_skip ?_
  try simp only [push_cast]
  refine hK4 _ ?_
  refine awp_block ?_
  refine awp_seq_k fun K8 hK8 => ?_
  refine awp_region_keep [4, 6, 7] ⟨false, [], [], []⟩ (fun h => nomatch h) ?_
  iterate 3 (refine dawp_p rfl (by (simp (disch := omega) only [push_cast, and_true, cond_true, cond_false, if_pos, if_neg, ↓reduceIte, Nat.reduceEqDiff, Nat.reduceAdd, Nat.reduceLeDiff, eF_snoc]) <;> rfl) rfl rfl ?_)
  refine dawp_h rfl (by (simp (disch := omega) only [push_cast, and_true, cond_true, cond_false, if_pos, if_neg, ↓reduceIte, Nat.reduceEqDiff, Nat.reduceAdd, Nat.reduceLeDiff, eF_snoc]) <;> rfl) rfl rfl ?_
  refine dawp_p rfl (by (simp (disch := omega) only [push_cast, and_true, cond_true, cond_false, if_pos, if_neg, ↓reduceIte, Nat.reduceEqDiff, Nat.reduceAdd, Nat.reduceLeDiff, eF_snoc]) <;> rfl) rfl rfl ?_
  refine dawp_h rfl (by (simp (disch := omega) only [push_cast, and_true, cond_true, cond_false, if_pos, if_neg, ↓reduceIte, Nat.reduceEqDiff, Nat.reduceAdd, Nat.reduceLeDiff, eF_snoc]) <;> rfl) rfl rfl ?_
  refine dawp_p rfl (by (simp (disch := omega) only [push_cast, and_true, cond_true, cond_false, if_pos, if_neg, ↓reduceIte, Nat.reduceEqDiff, Nat.reduceAdd, Nat.reduceLeDiff, eF_snoc]) <;> rfl) rfl rfl ?_
  refine dawp_nil ?_
  simp (disch := omega) only [push_cast, and_true, cond_true, cond_false, if_pos, if_neg, ↓reduceIte, Nat.reduceEqDiff, Nat.reduceAdd, Nat.reduceLeDiff, eF_snoc]
  refine hK8 _ ?_
  refine awp_seq_k fun K9 hK9 => ?_
  refine awp_seq_k fun K10 hK10 => ?_
  refine awp_region_keep [4, 6, 7, 31] ⟨false, [], [], []⟩ (fun h => nomatch h) ?_
  iterate 4 (refine dawp_p rfl (by (simp (disch := omega) only [push_cast, and_true, cond_true, cond_false, if_pos, if_neg, ↓reduceIte, Nat.reduceEqDiff, Nat.reduceAdd, Nat.reduceLeDiff, eF_snoc]) <;> rfl) rfl rfl ?_)
  refine dawp_g rfl rfl (by simp only [push_cast, and_true, cond_true, cond_false, if_pos, if_neg, ↓reduceIte, Nat.reduceEqDiff, Nat.reduceAdd, Nat.reduceLeDiff, eF_snoc]; rfl) (fun hg => by simp (disch := omega) only [hg, push_cast, and_true, cond_true, cond_false, if_pos, if_neg, ↓reduceIte, Nat.reduceEqDiff, Nat.reduceAdd, Nat.reduceLeDiff, eF_snoc]; rfl) rfl rfl ?_
  refine dawp_g rfl rfl (by simp only [push_cast, and_true, cond_true, cond_false, if_pos, if_neg, ↓reduceIte, Nat.reduceEqDiff, Nat.reduceAdd, Nat.reduceLeDiff, eF_snoc]; rfl) (fun hg => by have hg2 := hg; simp only [Bool.not_eq_true', decide_eq_false_iff_not] at hg2; simp (disch := omega) only [hg, push_cast, and_true, cond_true, cond_false, if_pos, if_neg, ↓reduceIte, Nat.reduceEqDiff, Nat.reduceAdd, Nat.reduceLeDiff, eF_snoc]; rfl) rfl rfl ?_
  refine dawp_g rfl rfl (by simp only [push_cast, and_true, cond_true, cond_false, if_pos, if_neg, ↓reduceIte, Nat.reduceEqDiff, Nat.reduceAdd, Nat.reduceLeDiff, eF_snoc]; rfl) (fun hg => by simp (disch := omega) only [hg, push_cast, and_true, cond_true, cond_false, if_pos, if_neg, ↓reduceIte, Nat.reduceEqDiff, Nat.reduceAdd, Nat.reduceLeDiff, eF_snoc]; rfl) rfl rfl ?_
  refine dawp_p rfl (by (simp (disch := omega) only [push_cast, and_true, cond_true, cond_false, if_pos, if_neg, ↓reduceIte, Nat.reduceEqDiff, Nat.reduceAdd, Nat.reduceLeDiff, eF_snoc]) <;> rfl) rfl rfl ?_
  refine dawp_nil ?_
  simp (disch := omega) only [push_cast, and_true, cond_true, cond_false, if_pos, if_neg, ↓reduceIte, Nat.reduceEqDiff, Nat.reduceAdd, Nat.reduceLeDiff, eF_snoc]
  refine hK10 _ ?_
  refine awp_cond (by (simp (disch := omega) only [push_cast, and_true, cond_true, cond_false, if_pos, if_neg, ↓reduceIte, Nat.reduceEqDiff, Nat.reduceAdd, Nat.reduceLeDiff, eF_snoc]) <;> rfl) (fun hb2 => ?_) (fun hb2 => ?_)
  · skip
    refine awp_exit ?_
    simp (disch := omega) only [push_cast, and_true, cond_true, cond_false, if_pos, if_neg, ↓reduceIte, Nat.reduceEqDiff, Nat.reduceAdd, Nat.reduceLeDiff, eF_snoc]
    refine hK3 _ ?_
    refine awp_seq_k fun K11 hK11 => ?_
    refine awp_region_keep [4, 6] ⟨false, [], [], []⟩ (fun _ => ⟨by kernel_rfl, by kernel_rfl⟩) ?_
    iterate 5 (refine dawp_p rfl (by (simp (disch := omega) only [push_cast, and_true, cond_true, cond_false, if_pos, if_neg, ↓reduceIte, Nat.reduceEqDiff, Nat.reduceAdd, Nat.reduceLeDiff, eF_snoc]) <;> rfl) rfl rfl ?_)
    refine dawp_h rfl (by (simp (disch := omega) only [push_cast, and_true, cond_true, cond_false, if_pos, if_neg, ↓reduceIte, Nat.reduceEqDiff, Nat.reduceAdd, Nat.reduceLeDiff, eF_snoc]) <;> rfl) rfl rfl ?_
    iterate 3 (refine dawp_p rfl (by (simp (disch := omega) only [push_cast, and_true, cond_true, cond_false, if_pos, if_neg, ↓reduceIte, Nat.reduceEqDiff, Nat.reduceAdd, Nat.reduceLeDiff, eF_snoc]) <;> rfl) rfl rfl ?_)
    refine dawp_h rfl (by (simp (disch := omega) only [push_cast, and_true, cond_true, cond_false, if_pos, if_neg, ↓reduceIte, Nat.reduceEqDiff, Nat.reduceAdd, Nat.reduceLeDiff, eF_snoc]) <;> rfl) rfl rfl ?_
    refine dawp_w rfl rfl rfl rfl (AOp.append _ _ _ rfl (by (simp (disch := omega) only [push_cast, and_true, cond_true, cond_false, if_pos, if_neg, ↓reduceIte, Nat.reduceEqDiff, Nat.reduceAdd, Nat.reduceLeDiff, eF_snoc]) <;> rfl) (by (simp (disch := omega) only [push_cast, and_true, cond_true, cond_false, if_pos, if_neg, ↓reduceIte, Nat.reduceEqDiff, Nat.reduceAdd, Nat.reduceLeDiff, eF_snoc]) <;> rfl) (by (simp (disch := omega) only [push_cast, and_true, cond_true, cond_false, if_pos, if_neg, ↓reduceIte, Nat.reduceEqDiff, Nat.reduceAdd, Nat.reduceLeDiff, eF_snoc]) <;> rfl) (.inl rfl) (by simp) (cells_strs _) (by simp; omega) (by simp; omega) ?_)
    intro c58 live58 hk58
    iterate 3 (refine dawp_p rfl (by (simp (disch := omega) only [push_cast, and_true, cond_true, cond_false, if_pos, if_neg, ↓reduceIte, Nat.reduceEqDiff, Nat.reduceAdd, Nat.reduceLeDiff, eF_snoc]) <;> rfl) rfl rfl ?_)
    refine dawp_hn rfl (by (simp (disch := omega) only [push_cast, and_true, cond_true, cond_false, if_pos, if_neg, ↓reduceIte, Nat.reduceEqDiff, Nat.reduceAdd, Nat.reduceLeDiff, eF_snoc]) <;> rfl) rfl ?_
    refine dawp_nil ?_
    simp (disch := omega) only [push_cast, and_true, cond_true, cond_false, if_pos, if_neg, ↓reduceIte, Nat.reduceEqDiff, Nat.reduceAdd, Nat.reduceLeDiff, eF_snoc]
    refine hK11 _ ?_
    refine awp_seq_k fun K12 hK12 => ?_
    refine awp_region_keep [4, 5] ⟨false, [], [], []⟩ (fun h => nomatch h) ?_
    iterate 3 (refine dawp_p rfl (by (simp (disch := omega) only [push_cast, and_true, cond_true, cond_false, if_pos, if_neg, ↓reduceIte, Nat.reduceEqDiff, Nat.reduceAdd, Nat.reduceLeDiff, eF_snoc]) <;> rfl) rfl rfl ?_)
    refine dawp_h rfl (by (simp (disch := omega) only [push_cast, and_true, cond_true, cond_false, if_pos, if_neg, ↓reduceIte, Nat.reduceEqDiff, Nat.reduceAdd, Nat.reduceLeDiff, eF_snoc]) <;> rfl) rfl rfl ?_
    refine dawp_hn rfl (by (simp (disch := omega) only [push_cast, and_true, cond_true, cond_false, if_pos, if_neg, ↓reduceIte, Nat.reduceEqDiff, Nat.reduceAdd, Nat.reduceLeDiff, eF_snoc]) <;> rfl) rfl ?_
    refine dawp_p rfl (by (simp (disch := omega) only [push_cast, and_true, cond_true, cond_false, if_pos, if_neg, ↓reduceIte, Nat.reduceEqDiff, Nat.reduceAdd, Nat.reduceLeDiff, eF_snoc]) <;> rfl) rfl rfl ?_
    refine dawp_nil ?_
    simp (disch := omega) only [push_cast, and_true, cond_true, cond_false, if_pos, if_neg, ↓reduceIte, Nat.reduceEqDiff, Nat.reduceAdd, Nat.reduceLeDiff, eF_snoc]
    refine hK12 _ ?_
    refine awp_ret ?_
    try simp only [push_cast]
    refine fin_pure (by (simp (disch := omega) only [Try.results10, aresults, aresult, push_cast, and_true, cond_true, cond_false, if_pos, if_neg, ↓reduceIte, Nat.reduceEqDiff, Nat.reduceAdd, Nat.reduceLeDiff, eF_snoc]) <;> rfl) (by simp only [atuple, AV.er, AV.erL, push_cast, eFs_er, erL_str]; rfl) (by simp [AV.cl, AV.clL, clL_eF, clL_str, clL_str_tail, eFs_er, erL_str]) (by first | exact ⟨_, rfl⟩ | exact ⟨[], (List.append_nil _).symm⟩) hH (fun u hu => (hk58.2 u (hkp.2 u hu (fun e => by cases e)).1 (fun e => by cases e)).1) ?_
    have hp : parse may args = _ := hlt.symm.trans (parseF_stop (by omega) (by rw [isOpt, hb2]; rfl))
    rw [hp]
    exact ⟨rfl, rfl, rfl⟩
  have hb2x := hb2; simp only [Bool.or_eq_false_iff, decide_eq_false_iff_not] at hb2x
  refine awp_skip ?_
  try simp only [push_cast]
  refine hK9 _ ?_
  refine awp_seq_k fun K13 hK13 => ?_
  refine awp_region_keep [4, 6, 7] ⟨false, [], [], []⟩ (fun h => nomatch h) ?_
  iterate 4 (refine dawp_p rfl (by (simp (disch := omega) only [push_cast, and_true, cond_true, cond_false, if_pos, if_neg, ↓reduceIte, Nat.reduceEqDiff, Nat.reduceAdd, Nat.reduceLeDiff, eF_snoc]) <;> rfl) rfl rfl ?_)
  refine dawp_h rfl (by (simp (disch := omega) only [push_cast, and_true, cond_true, cond_false, if_pos, if_neg, ↓reduceIte, Nat.reduceEqDiff, Nat.reduceAdd, Nat.reduceLeDiff, eF_snoc]) <;> rfl) rfl rfl ?_
  iterate 3 (refine dawp_p rfl (by (simp (disch := omega) only [push_cast, and_true, cond_true, cond_false, if_pos, if_neg, ↓reduceIte, Nat.reduceEqDiff, Nat.reduceAdd, Nat.reduceLeDiff, eF_snoc]) <;> rfl) rfl rfl ?_)
  refine dawp_hn rfl (by (simp (disch := omega) only [push_cast, and_true, cond_true, cond_false, if_pos, if_neg, ↓reduceIte, Nat.reduceEqDiff, Nat.reduceAdd, Nat.reduceLeDiff, eF_snoc]) <;> rfl) rfl ?_
  refine dawp_nil ?_
  simp (disch := omega) only [push_cast, and_true, cond_true, cond_false, if_pos, if_neg, ↓reduceIte, Nat.reduceEqDiff, Nat.reduceAdd, Nat.reduceLeDiff, eF_snoc]
  refine hK13 _ ?_
  refine awp_seq_k fun K14 hK14 => ?_
  refine awp_seq_k fun K15 hK15 => ?_
  refine awp_region_keep [4, 6, 7, 41] ⟨false, [], [], []⟩ (fun h => nomatch h) ?_
  iterate 2 (refine dawp_p rfl (by (simp (disch := omega) only [push_cast, and_true, cond_true, cond_false, if_pos, if_neg, ↓reduceIte, Nat.reduceEqDiff, Nat.reduceAdd, Nat.reduceLeDiff, eF_snoc]) <;> rfl) rfl rfl ?_)
  refine dawp_nil ?_
  simp (disch := omega) only [push_cast, and_true, cond_true, cond_false, if_pos, if_neg, ↓reduceIte, Nat.reduceEqDiff, Nat.reduceAdd, Nat.reduceLeDiff, eF_snoc]
  refine hK15 _ ?_
  refine awp_cond (by (simp (disch := omega) only [push_cast, and_true, cond_true, cond_false, if_pos, if_neg, ↓reduceIte, Nat.reduceEqDiff, Nat.reduceAdd, Nat.reduceLeDiff, eF_snoc]) <;> rfl) (fun hb3 => ?_) (fun hb3 => ?_)
  · skip
    try simp only [decide_eq_true_eq, decide_eq_false_iff_not, Bool.not_eq_true', Bool.not_eq_false', Bool.or_eq_true, Bool.and_eq_true, Bool.or_eq_false_iff, Bool.and_eq_false_imp, Int.not_lt, Int.not_le] at hb3
    refine awp_exit ?_
    simp (disch := omega) only [push_cast, and_true, cond_true, cond_false, if_pos, if_neg, ↓reduceIte, Nat.reduceEqDiff, Nat.reduceAdd, Nat.reduceLeDiff, eF_snoc]
    refine hK3 _ ?_
    refine awp_seq_k fun K16 hK16 => ?_
    refine awp_region_keep [4, 6] ⟨false, [], [], []⟩ (fun _ => ⟨by kernel_rfl, by kernel_rfl⟩) ?_
    iterate 5 (refine dawp_p rfl (by (simp (disch := omega) only [push_cast, and_true, cond_true, cond_false, if_pos, if_neg, ↓reduceIte, Nat.reduceEqDiff, Nat.reduceAdd, Nat.reduceLeDiff, eF_snoc]) <;> rfl) rfl rfl ?_)
    refine dawp_h rfl (by (simp (disch := omega) only [push_cast, and_true, cond_true, cond_false, if_pos, if_neg, ↓reduceIte, Nat.reduceEqDiff, Nat.reduceAdd, Nat.reduceLeDiff, eF_snoc]) <;> rfl) rfl rfl ?_
    iterate 3 (refine dawp_p rfl (by (simp (disch := omega) only [push_cast, and_true, cond_true, cond_false, if_pos, if_neg, ↓reduceIte, Nat.reduceEqDiff, Nat.reduceAdd, Nat.reduceLeDiff, eF_snoc]) <;> rfl) rfl rfl ?_)
    refine dawp_h rfl (by (simp (disch := omega) only [push_cast, and_true, cond_true, cond_false, if_pos, if_neg, ↓reduceIte, Nat.reduceEqDiff, Nat.reduceAdd, Nat.reduceLeDiff, eF_snoc]) <;> rfl) rfl rfl ?_
    refine dawp_w rfl rfl rfl rfl (AOp.append _ _ _ rfl (by (simp (disch := omega) only [push_cast, and_true, cond_true, cond_false, if_pos, if_neg, ↓reduceIte, Nat.reduceEqDiff, Nat.reduceAdd, Nat.reduceLeDiff, eF_snoc]) <;> rfl) (by (simp (disch := omega) only [push_cast, and_true, cond_true, cond_false, if_pos, if_neg, ↓reduceIte, Nat.reduceEqDiff, Nat.reduceAdd, Nat.reduceLeDiff, eF_snoc]) <;> rfl) (by (simp (disch := omega) only [push_cast, and_true, cond_true, cond_false, if_pos, if_neg, ↓reduceIte, Nat.reduceEqDiff, Nat.reduceAdd, Nat.reduceLeDiff, eF_snoc]) <;> rfl) (.inl rfl) (by simp) (cells_strs _) (by simp; omega) (by simp; omega) ?_)
    intro c58 live58 hk58
    iterate 3 (refine dawp_p rfl (by (simp (disch := omega) only [push_cast, and_true, cond_true, cond_false, if_pos, if_neg, ↓reduceIte, Nat.reduceEqDiff, Nat.reduceAdd, Nat.reduceLeDiff, eF_snoc]) <;> rfl) rfl rfl ?_)
    refine dawp_hn rfl (by (simp (disch := omega) only [push_cast, and_true, cond_true, cond_false, if_pos, if_neg, ↓reduceIte, Nat.reduceEqDiff, Nat.reduceAdd, Nat.reduceLeDiff, eF_snoc]) <;> rfl) rfl ?_
    refine dawp_nil ?_
    simp (disch := omega) only [push_cast, and_true, cond_true, cond_false, if_pos, if_neg, ↓reduceIte, Nat.reduceEqDiff, Nat.reduceAdd, Nat.reduceLeDiff, eF_snoc]
    refine hK16 _ ?_
    refine awp_seq_k fun K17 hK17 => ?_
    refine awp_region_keep [4, 5] ⟨false, [], [], []⟩ (fun h => nomatch h) ?_
    iterate 3 (refine dawp_p rfl (by (simp (disch := omega) only [push_cast, and_true, cond_true, cond_false, if_pos, if_neg, ↓reduceIte, Nat.reduceEqDiff, Nat.reduceAdd, Nat.reduceLeDiff, eF_snoc]) <;> rfl) rfl rfl ?_)
    refine dawp_h rfl (by (simp (disch := omega) only [push_cast, and_true, cond_true, cond_false, if_pos, if_neg, ↓reduceIte, Nat.reduceEqDiff, Nat.reduceAdd, Nat.reduceLeDiff, eF_snoc]) <;> rfl) rfl rfl ?_
    refine dawp_hn rfl (by (simp (disch := omega) only [push_cast, and_true, cond_true, cond_false, if_pos, if_neg, ↓reduceIte, Nat.reduceEqDiff, Nat.reduceAdd, Nat.reduceLeDiff, eF_snoc]) <;> rfl) rfl ?_
    refine dawp_p rfl (by (simp (disch := omega) only [push_cast, and_true, cond_true, cond_false, if_pos, if_neg, ↓reduceIte, Nat.reduceEqDiff, Nat.reduceAdd, Nat.reduceLeDiff, eF_snoc]) <;> rfl) rfl rfl ?_
    refine dawp_nil ?_
    simp (disch := omega) only [push_cast, and_true, cond_true, cond_false, if_pos, if_neg, ↓reduceIte, Nat.reduceEqDiff, Nat.reduceAdd, Nat.reduceLeDiff, eF_snoc]
    refine hK17 _ ?_
    refine awp_ret ?_
    try simp only [push_cast]
    refine fin_pure (by (simp (disch := omega) only [Try.results10, aresults, aresult, push_cast, and_true, cond_true, cond_false, if_pos, if_neg, ↓reduceIte, Nat.reduceEqDiff, Nat.reduceAdd, Nat.reduceLeDiff, eF_snoc]) <;> rfl) (by simp only [atuple, AV.er, AV.erL, push_cast, eFs_er, erL_str]; rfl) (by simp [AV.cl, AV.clL, clL_eF, clL_str, clL_str_tail, eFs_er, erL_str]) (by first | exact ⟨_, rfl⟩ | exact ⟨[], (List.append_nil _).symm⟩) hH (fun u hu => (hk58.2 u (hkp.2 u hu (fun e => by cases e)).1 (fun e => by cases e)).1) ?_
    have hp : parse may args = _ := hlt.symm.trans (parseF_dash (by omega) hln (by rw [isOpt, hb2]; rfl) hb3)
    rw [hp]
    exact ⟨rfl, rfl, rfl⟩
  try simp only [decide_eq_true_eq, decide_eq_false_iff_not, Bool.not_eq_true', Bool.not_eq_false', Bool.or_eq_true, Bool.and_eq_true, Bool.or_eq_false_iff, Bool.and_eq_false_imp, Int.not_lt, Int.not_le] at hb3
  refine awp_skip ?_
  try simp only [push_cast]
  refine hK14 _ ?_
  refine awp_seq_k fun K18 hK18 => ?_
  refine awp_region_keep [4, 6, 46] ⟨false, [], [], []⟩ (fun h => nomatch h) ?_
  iterate 3 (refine dawp_p rfl (by (simp (disch := omega) only [push_cast, and_true, cond_true, cond_false, if_pos, if_neg, ↓reduceIte, Nat.reduceEqDiff, Nat.reduceAdd, Nat.reduceLeDiff, eF_snoc]) <;> rfl) rfl rfl ?_)
  refine dawp_w rfl rfl rfl rfl (AOp.callx _ _ _ rfl (by (simp (disch := omega) only [push_cast, and_true, cond_true, cond_false, if_pos, if_neg, ↓reduceIte, Nat.reduceEqDiff, Nat.reduceAdd, Nat.reduceLeDiff, eF_snoc]) <;> rfl) (by (simp (disch := omega) only [push_cast, and_true, cond_true, cond_false, if_pos, if_neg, ↓reduceIte, Nat.reduceEqDiff, Nat.reduceAdd, Nat.reduceLeDiff, eF_snoc]) <;> rfl) ?_)  
  refine (c18 may _ fl' (left.drop 1) c' _ _ (h.length + 1) _ _ (by simp only [push_cast]; rfl) hcok (by simp [AV.cl, AV.clL]) hm (by have := hws _ (getD0_mem [] (show 0 < left.length by omega)); simp only [List.length_drop]; omega) (by omega) (by simp only [List.length_drop]; omega)).mono ?_
  rintro _ _ live2 ⟨rfl, b, c2, rfl, hk2, hb⟩
  refine dawp_p rfl (by (simp (disch := omega) only [push_cast, and_true, cond_true, cond_false, if_pos, if_neg, ↓reduceIte, Nat.reduceEqDiff, Nat.reduceAdd, Nat.reduceLeDiff, eF_snoc]) <;> rfl) rfl rfl ?_
  refine dawp_nil ?_
  simp (disch := omega) only [push_cast, and_true, cond_true, cond_false, if_pos, if_neg, ↓reduceIte, Nat.reduceEqDiff, Nat.reduceAdd, Nat.reduceLeDiff, eF_snoc]
  refine hK18 _ ?_
  refine awp_cond (by (simp (disch := omega) only [push_cast, and_true, cond_true, cond_false, if_pos, if_neg, ↓reduceIte, Nat.reduceEqDiff, Nat.reduceAdd, Nat.reduceLeDiff, eF_snoc]) <;> rfl) (fun hb4 => ?_) (fun hb4 => ?_)
  · skip
    refine awp_seq_k fun K19 hK19 => ?_
    refine awp_region_keep [4, 5] ⟨false, [], [], []⟩ (fun h => nomatch h) ?_
    refine dawp_p rfl (by (simp (disch := omega) only [push_cast, and_true, cond_true, cond_false, if_pos, if_neg, ↓reduceIte, Nat.reduceEqDiff, Nat.reduceAdd, Nat.reduceLeDiff, eF_snoc]) <;> rfl) rfl rfl ?_
    refine dawp_hn rfl (by (simp (disch := omega) only [push_cast, and_true, cond_true, cond_false, if_pos, if_neg, ↓reduceIte, Nat.reduceEqDiff, Nat.reduceAdd, Nat.reduceLeDiff, eF_snoc]) <;> rfl) rfl ?_
    refine dawp_p rfl (by (simp (disch := omega) only [push_cast, and_true, cond_true, cond_false, if_pos, if_neg, ↓reduceIte, Nat.reduceEqDiff, Nat.reduceAdd, Nat.reduceLeDiff, eF_snoc]) <;> rfl) rfl rfl ?_
    refine dawp_nil ?_
    simp (disch := omega) only [push_cast, and_true, cond_true, cond_false, if_pos, if_neg, ↓reduceIte, Nat.reduceEqDiff, Nat.reduceAdd, Nat.reduceLeDiff, eF_snoc]
    refine hK19 _ ?_
    refine awp_ret ?_
    try simp only [push_cast]
    refine fin_pure (by (simp (disch := omega) only [Try.results10, aresults, aresult, push_cast, and_true, cond_true, cond_false, if_pos, if_neg, ↓reduceIte, Nat.reduceEqDiff, Nat.reduceAdd, Nat.reduceLeDiff, eF_snoc]) <;> rfl) (by simp only [atuple, AV.er, AV.erL, push_cast, eFs_er, erL_str]; rfl) (by simp [AV.cl, AV.clL, clL_eF, clL_str, clL_str_tail, eFs_er, erL_str]) (by first | exact ⟨_, rfl⟩ | exact ⟨[], (List.append_nil _).symm⟩) hH (fun u hu => ((hkp.trans hk2).2 u hu (fun e => by cases e)).1) ?_
    have hn4 : letters may ((left.getD 0 []).drop 1) fl' (left.drop 1) = none := by simpa using hb4
    have hp : parse may args = _ := hlt.symm.trans ((parseF_word (by omega) hln (by rw [isOpt, hb2]; rfl) hb3).trans (by rw [hn4]))
    rw [hp]
    exact ⟨rfl, rfl, rfl⟩
  simp only [Bool.not_eq_false'] at hb4
  obtain ⟨⟨fl2, left2⟩, hres⟩ := Option.isSome_iff_exists.1 hb4
  obtain ⟨cl2, rfl⟩ := hb _ _ hres
  have hsp := letters_spec _ _ _ _ _ _ hres
  refine awp_skip ?_
  try simp only [push_cast]
  have hl0 : 0 < left.length := by omega
  have hl2 : left2.length ≤ left.length - 1 := by rcases hsp.1 with e | e <;> rw [e] <;> simp <;> omega
  have hs0 : (left.getD 0 []).length ≤ 1000 := hws _ (getD0_mem _ hl0)
  have hf2 : fl2.length ≤ 1000 * (args.length - (n - 1)) := by
    have := hsp.2; simp only [List.length_drop] at this; omega
  have hw2 : ∀ s ∈ left2, s.length ≤ 1000 := by
    intro s hs
    rcases hsp.1 with e | e <;> rw [e] at hs
    · exact hws _ (List.mem_of_mem_drop hs)
    · exact hws _ (List.mem_of_mem_drop (List.mem_of_mem_drop hs))
  have hp2 : parseF may (n - 1) left2 fl2 = parse may args := by
    rw [parseF_word hl0 (by omega) (by rw [isOpt, hb2]; rfl) hb3, hres] at hlt; exact hlt
  refine ⟨⟨⟨n - 1, fl2, c2, live2, left2, cl2⟩, by dsimp only; omega, by dsimp only; omega, hf2, hkp.trans hk2, hw2, hp2⟩, ?_, (by first | rfl | trivial | simp only [List.length_set]), by dsimp only; omega⟩
  dsimp only
  refine Trunc.of (by first | exact (List.append_nil _).symm | (rw [List.append_assoc]; rfl)) ?_ (hB _ _ _ _) (fun _ h => h)
  refine FTr.cons (by (simp (disch := omega) only [push_cast, and_true, cond_true, cond_false, if_pos, if_neg, ↓reduceIte, Nat.reduceEqDiff, Nat.reduceAdd, Nat.reduceLeDiff, eF_snoc]) <;> first | rfl | (congr 2; omega)) (by simp [AV.cl, AV.clL, clL_eF, clL_str]) ?_
  refine FTr.cons (by (simp (disch := omega) only [push_cast, and_true, cond_true, cond_false, if_pos, if_neg, ↓reduceIte, Nat.reduceEqDiff, Nat.reduceAdd, Nat.reduceLeDiff, eF_snoc]) <;> first | rfl | (congr 2; omega)) (by simp [AV.cl, AV.clL, clL_eF, clL_str]) ?_
  exact FTr.nil

end Go.Proofs.Ytjlcdkklobcdhaa
