import Derived.Test.YtjoklidphbmpoaaGreatAb19
/-
  THE FRAMEWORK, 20: the rules in short: what they ask for is shown by the way (the name 'sx' stands for what the function's proof adds to the set).
-/
namespace Go.Ab
set_option linter.unusedVariables false
set_option linter.unusedSimpArgs false
open Go.RowKit
attribute [push_cast] and_true true_and cond_true cond_false if_pos if_neg clL_str erL_str clL_bV erL_bV

/-- A row that turns nothing: the end of what is added. -/
def sxN : Nat := 0
theorem sx0 : sxN = 0 := rfl

section
variable {P : Program} {q : RQ} {gd : Nat → Option Tmp} {n : Nat} {fl : FL} {h : List Blk} {live : List Nat} {F : FT} {o : Oper} {os : List Oper}

/-- Some operations that only compute, load, store, box. -/
theorem sg_ {os' : List Oper} {fl' : FL} {h' : List Blk} (k : dawp P q gd n os' (fget fl') h' live F)
    (s : dawp P q gd n os' (fget fl') h' live F → dawp P q gd n os (fget fl) h live F := by
      intro k
      repeat (first
        | refine dawp_p rfl (by (simp (disch := omega) only [push_cast, and_true, cond_true, cond_false, if_pos, if_neg, ↓reduceIte, Nat.reduceEqDiff, Nat.reduceAdd, Nat.reduceLeDiff, sx]) <;> rfl) rfl rfl ?_
        | refine dawp_h rfl (by (simp (disch := omega) only [push_cast, and_true, cond_true, cond_false, if_pos, if_neg, ↓reduceIte, Nat.reduceEqDiff, Nat.reduceAdd, Nat.reduceLeDiff, sx]) <;> rfl) rfl rfl ?_
        | refine dawp_hn rfl (by (simp (disch := omega) only [push_cast, and_true, cond_true, cond_false, if_pos, if_neg, ↓reduceIte, Nat.reduceEqDiff, Nat.reduceAdd, Nat.reduceLeDiff, sx]) <;> rfl) rfl ?_
        | refine dawp_g rfl rfl (by simp only [push_cast, and_true, cond_true, cond_false, if_pos, if_neg, ↓reduceIte, Nat.reduceEqDiff, Nat.reduceAdd, Nat.reduceLeDiff, sx]; rfl) (fun hg => by
            have hg2 := hg
            try simp only [decide_eq_true_eq, decide_eq_false_iff_not, Bool.not_eq_true', Bool.not_eq_false', Bool.or_eq_true, Bool.and_eq_true, Bool.or_eq_false_iff, Bool.and_eq_false_imp, Int.not_lt, Int.not_le, Bool.false_or, Bool.or_false, Bool.true_and, Bool.and_true] at hg2
            simp (disch := omega) only [hg, push_cast, and_true, cond_true, cond_false, if_pos, if_neg, ↓reduceIte, Nat.reduceEqDiff, Nat.reduceAdd, Nat.reduceLeDiff, sx]; rfl) rfl rfl ?_
        | refine dawp_gh rfl rfl (by simp only [push_cast, and_true, cond_true, cond_false, if_pos, if_neg, ↓reduceIte, Nat.reduceEqDiff, Nat.reduceAdd, Nat.reduceLeDiff, sx]; rfl) (fun hg => by
            have hg2 := hg
            try simp only [decide_eq_true_eq, decide_eq_false_iff_not, Bool.not_eq_true', Bool.not_eq_false', Bool.or_eq_true, Bool.and_eq_true, Bool.or_eq_false_iff, Bool.and_eq_false_imp, Int.not_lt, Int.not_le, Bool.false_or, Bool.or_false, Bool.true_and, Bool.and_true] at hg2
            simp (disch := omega) only [hg, push_cast, and_true, cond_true, cond_false, if_pos, if_neg, ↓reduceIte, Nat.reduceEqDiff, Nat.reduceAdd, Nat.reduceLeDiff, sx]; rfl) rfl rfl ?_)
      exact k) : dawp P q gd n os (fget fl) h live F := s k

/-- What stands behind a region. -/
def endF (P : Program) (y : Code) (Q : Exit → AS → Prop) (n : Nat) (V : List Tmp) : FT := fun fr h l => AwpC P y Q ⟨n, fget (fkeep V fr), h, l⟩
def endN (Q : Exit → AS → Prop) (n : Nat) (V : List Tmp) : FT := fun fr h l => Q .normal ⟨n, fget (fkeep V fr), h, l⟩

theorem re_ {y : Code} {Q : Exit → AS → Prop} {V : List Tmp} {fl2 : FL} {h2 : List Blk} (k : AwpC P y Q ⟨n, fget fl2, h2, live⟩)
    (hf : fkeep V (fget fl) = fl2 := by (simp (disch := omega) only [push_cast, and_true, cond_true, cond_false, if_pos, if_neg, ↓reduceIte, Nat.reduceEqDiff, Nat.reduceAdd, Nat.reduceLeDiff, sx]) <;> rfl) (hh : h = h2 := by (try simp (disch := omega) only [push_cast, and_true, cond_true, cond_false, if_pos, if_neg, ↓reduceIte, Nat.reduceEqDiff, Nat.reduceAdd, Nat.reduceLeDiff, sx]) <;> rfl) : dawp P q gd n [] (fget fl) h live (endF P y Q n V) := by
  subst hf; subst hh; exact k
theorem rn_ {Q : Exit → AS → Prop} {V : List Tmp} {fl2 : FL} {h2 : List Blk} (k : Q .normal ⟨n, fget fl2, h2, live⟩)
    (hf : fkeep V (fget fl) = fl2 := by (simp (disch := omega) only [push_cast, and_true, cond_true, cond_false, if_pos, if_neg, ↓reduceIte, Nat.reduceEqDiff, Nat.reduceAdd, Nat.reduceLeDiff, sx]) <;> rfl) (hh : h = h2 := by (try simp (disch := omega) only [push_cast, and_true, cond_true, cond_false, if_pos, if_neg, ↓reduceIte, Nat.reduceEqDiff, Nat.reduceAdd, Nat.reduceLeDiff, sx]) <;> rfl) : dawp P q gd n [] (fget fl) h live (endN Q n V) := by
  subst hf; subst hh; exact k

/-- A region ahead of other code, and at the end of some. -/
theorem rs_ {id : Nat} {l : List Oper} {y : Code} {Q : Exit → AS → Prop} (V : List Tmp) (k : dawp P ⟨false, [], [], [], [], [], 0⟩ (gdOf l.toArray) n l (fget fl) h live (endF P y Q n V)) : AwpC P (.seq (.region id l.toArray false) y) Q ⟨n, fget fl, h, live⟩ :=
  awp_seq (awp_region_keep V ⟨false, [], [], [], [], [], 0⟩ (fun h => nomatch h) k)
theorem rt_ {id : Nat} {l : List Oper} {Q : Exit → AS → Prop} (V : List Tmp) (k : dawp P ⟨false, [], [], [], [], [], 0⟩ (gdOf l.toArray) n l (fget fl) h live (endN Q n V)) : AwpC P (.region id l.toArray false) Q ⟨n, fget fl, h, live⟩ :=
  awp_region_keep V ⟨false, [], [], [], [], [], 0⟩ (fun h => nomatch h) k
theorem rsq_ {id : Nat} {l : List Oper} {d : Bool} {y : Code} {Q : Exit → AS → Prop} (V : List Tmp) (q : RQ) (hok : d = true → okAll q l.toArray = true ∧ P.follows .mixedOrders = true) (k : dawp P q (gdOf l.toArray) n l (fget fl) h live (endF P y Q n V)) : AwpC P (.seq (.region id l.toArray d) y) Q ⟨n, fget fl, h, live⟩ :=
  awp_seq (awp_region_keep V q hok k)
theorem rtq_ {id : Nat} {l : List Oper} {d : Bool} {Q : Exit → AS → Prop} (V : List Tmp) (q : RQ) (hok : d = true → okAll q l.toArray = true ∧ P.follows .mixedOrders = true) (k : dawp P q (gdOf l.toArray) n l (fget fl) h live (endN Q n V)) : AwpC P (.region id l.toArray d) Q ⟨n, fget fl, h, live⟩ :=
  awp_region_keep V q hok k
theorem rs2_ {id : Nat} {l l1 l2 : List Oper} {x y : Oper} {z : Code} {Q : Exit → AS → Prop} (V : List Tmp) (q : RQ) (hl : l1 ++ x :: y :: l2 = l) (hok : okTwo q l.toArray l1.length = true ∧ P.follows .mixedOrders = true)
    (hd : dawp P q (gdOf l.toArray) n l1 (fget fl) h live fun fr h live => dawp P q (gdOf l.toArray) n (x :: y :: l2) fr h live (endF P z Q n V) ∧ dawp P q (gdOf l.toArray) n (y :: x :: l2) fr h live (endF P z Q n V)) : AwpC P (.seq (.region id l.toArray true) z) Q ⟨n, fget fl, h, live⟩ :=
  awp_seq (awp_region_two V q hl hok hd)

/-- A region that only computes, loads, stores, boxes. -/
theorem rg_ {id : Nat} {l : List Oper} {y : Code} {Q : Exit → AS → Prop} (V : List Tmp) {fl2 : FL} {h2 : List Blk} (k : AwpC P y Q ⟨n, fget fl2, h2, live⟩)
    (s : dawp P ⟨false, [], [], [], [], [], 0⟩ (gdOf l.toArray) n l (fget fl) h live (fun fr h' l' => fkeep V fr = fl2 ∧ h' = h2 ∧ l' = live) := by
      repeat (first
        | refine dawp_p rfl (by (simp (disch := omega) only [push_cast, and_true, cond_true, cond_false, if_pos, if_neg, ↓reduceIte, Nat.reduceEqDiff, Nat.reduceAdd, Nat.reduceLeDiff, sx]) <;> rfl) rfl rfl ?_
        | refine dawp_h rfl (by (simp (disch := omega) only [push_cast, and_true, cond_true, cond_false, if_pos, if_neg, ↓reduceIte, Nat.reduceEqDiff, Nat.reduceAdd, Nat.reduceLeDiff, sx]) <;> rfl) rfl rfl ?_
        | refine dawp_hn rfl (by (simp (disch := omega) only [push_cast, and_true, cond_true, cond_false, if_pos, if_neg, ↓reduceIte, Nat.reduceEqDiff, Nat.reduceAdd, Nat.reduceLeDiff, sx]) <;> rfl) rfl ?_
        | refine dawp_g rfl rfl (by simp only [push_cast, and_true, cond_true, cond_false, if_pos, if_neg, ↓reduceIte, Nat.reduceEqDiff, Nat.reduceAdd, Nat.reduceLeDiff, sx]; rfl) (fun hg => by
            have hg2 := hg
            try simp only [decide_eq_true_eq, decide_eq_false_iff_not, Bool.not_eq_true', Bool.not_eq_false', Bool.or_eq_true, Bool.and_eq_true, Bool.or_eq_false_iff, Bool.and_eq_false_imp, Int.not_lt, Int.not_le, Bool.false_or, Bool.or_false, Bool.true_and, Bool.and_true] at hg2
            simp (disch := omega) only [hg, push_cast, and_true, cond_true, cond_false, if_pos, if_neg, ↓reduceIte, Nat.reduceEqDiff, Nat.reduceAdd, Nat.reduceLeDiff, sx]; rfl) rfl rfl ?_
        | refine dawp_gh rfl rfl (by simp only [push_cast, and_true, cond_true, cond_false, if_pos, if_neg, ↓reduceIte, Nat.reduceEqDiff, Nat.reduceAdd, Nat.reduceLeDiff, sx]; rfl) (fun hg => by
            have hg2 := hg
            try simp only [decide_eq_true_eq, decide_eq_false_iff_not, Bool.not_eq_true', Bool.not_eq_false', Bool.or_eq_true, Bool.and_eq_true, Bool.or_eq_false_iff, Bool.and_eq_false_imp, Int.not_lt, Int.not_le, Bool.false_or, Bool.or_false, Bool.true_and, Bool.and_true] at hg2
            simp (disch := omega) only [hg, push_cast, and_true, cond_true, cond_false, if_pos, if_neg, ↓reduceIte, Nat.reduceEqDiff, Nat.reduceAdd, Nat.reduceLeDiff, sx]; rfl) rfl rfl ?_)
      exact dawp_nil ⟨by (simp (disch := omega) only [push_cast, and_true, cond_true, cond_false, if_pos, if_neg, ↓reduceIte, Nat.reduceEqDiff, Nat.reduceAdd, Nat.reduceLeDiff, sx]) <;> rfl, by (try simp (disch := omega) only [push_cast, and_true, cond_true, cond_false, if_pos, if_neg, ↓reduceIte, Nat.reduceEqDiff, Nat.reduceAdd, Nat.reduceLeDiff, sx]) <;> rfl, rfl⟩) : AwpC P (.seq (.region id l.toArray false) y) Q ⟨n, fget fl, h, live⟩ :=
  awp_seq (awp_region_keep V ⟨false, [], [], [], [], [], 0⟩ (fun h => nomatch h) (dawp.mono (fun fr h' l' e => by obtain ⟨e1, e2, e3⟩ := e; subst e1; subst e2; subst e3; exact k) _ _ _ _ s))

/-- A call that has a contract. -/
theorem cl_ {t : Tmp} {fo : Operand} {args : Array Operand} {ts : Array TypeId} {f : FuncId} {first cap xs : List AV} {x : AV} {h2 : List Blk} {l2 : List Nat} (hk : kindOf q o = .w := by rfl) (hw : dwant gd (fget fl) o = some true := by rfl) (hd : o.dst = some t := by rfl) (hn : decide (t < n) = true := by rfl)
    (ho : o.op = .call { callee := .value fo, args := args, argTypes := ts } := by rfl)
    (hf : ev (fget fl) fo = .fn (.func f) first cap := by (simp (disch := omega) only [push_cast, and_true, cond_true, cond_false, if_pos, if_neg, ↓reduceIte, Nat.reduceEqDiff, Nat.reduceAdd, Nat.reduceLeDiff, sx]) <;> rfl)
    (hx : first ++ args.toList.map (ev (fget fl)) ++ cap = xs := by (simp (disch := omega) only [push_cast, and_true, cond_true, cond_false, if_pos, if_neg, ↓reduceIte, Nat.reduceEqDiff, Nat.reduceAdd, Nat.reduceLeDiff, sx]) <;> rfl)
    (hc : ACalls P f xs h live (ret x h2 l2)) (k : dawp P q gd n os (fget ((t, x) :: fl)) h2 l2 F) : dawp P q gd n (o :: os) (fget fl) h live F :=
  dawp_w hk hw hd hn (AOp.callx fo args ts ho hf hx (hc.mono fun y h' l' e => by obtain ⟨e1, e2, e3⟩ := e; subst e1; subst e2; subst e3; exact k))
/-- A call, as it goes on. -/
theorem ck_ {t : Tmp} {fo : Operand} {args : Array Operand} {ts : Array TypeId} {f : FuncId} {first cap xs : List AV} (hk : kindOf q o = .w := by rfl) (hw : dwant gd (fget fl) o = some true := by rfl) (hd : o.dst = some t := by rfl) (hn : decide (t < n) = true := by rfl)
    (ho : o.op = .call { callee := .value fo, args := args, argTypes := ts } := by rfl)
    (hf : ev (fget fl) fo = .fn (.func f) first cap := by (simp (disch := omega) only [push_cast, and_true, cond_true, cond_false, if_pos, if_neg, ↓reduceIte, Nat.reduceEqDiff, Nat.reduceAdd, Nat.reduceLeDiff, sx]) <;> rfl)
    (hx : first ++ args.toList.map (ev (fget fl)) ++ cap = xs := by (simp (disch := omega) only [push_cast, and_true, cond_true, cond_false, if_pos, if_neg, ↓reduceIte, Nat.reduceEqDiff, Nat.reduceAdd, Nat.reduceLeDiff, sx]) <;> rfl)
    (k : ACalls P f xs h live fun x h' live' => dawp P q gd n os (fget ((t, x) :: fl)) h' live' F) : dawp P q gd n (o :: os) (fget fl) h live F :=
  dawp_w hk hw hd hn (AOp.callx fo args ts ho hf hx k)
/-- A call in a region in any order, that turns no block. -/
theorem cr_ {t : Tmp} {fo : Operand} {args : Array Operand} {ts : Array TypeId} {f : FuncId} {first cap xs : List AV} {x : AV} (hk : kindOf q o = .r := by rfl) (hw : dwant gd (fget fl) o = some true := by rfl) (hd : o.dst = some t := by rfl) (hn : decide (t < n) = true := by rfl)
    (ho : o.op = .call { callee := .value fo, args := args, argTypes := ts } := by rfl)
    (hf : ev (fget fl) fo = .fn (.func f) first cap := by (simp (disch := omega) only [push_cast, and_true, cond_true, cond_false, if_pos, if_neg, ↓reduceIte, Nat.reduceEqDiff, Nat.reduceAdd, Nat.reduceLeDiff, sx]) <;> rfl)
    (hx : first ++ args.toList.map (ev (fget fl)) ++ cap = xs := by (simp (disch := omega) only [push_cast, and_true, cond_true, cond_false, if_pos, if_neg, ↓reduceIte, Nat.reduceEqDiff, Nat.reduceAdd, Nat.reduceLeDiff, sx]) <;> rfl)
    (hc : ACalls P f xs h live (ret x h live)) (k : dawp P q gd n os (fget ((t, x) :: fl)) h live F) : dawp P q gd n (o :: os) (fget fl) h live F :=
  dawp_r hk hw hd hn (AOp.callx fo args ts ho hf hx hc) k
/-- A call behind a guard. -/
theorem cg_ {t tg : Tmp} {g : Bool} {j : Nat} {want : Bool} {fo : Operand} {args : Array Operand} {ts : Array TypeId} {f : FuncId} {first cap xs : List AV} {x : AV} (hk : (kindOf q o == .r || kindOf q o == .w) = true := by rfl) (ho : o.guard = some (j, want) := by rfl) (hgd : gd j = some tg := by rfl)
    (hw : wantOf (gv (fget fl tg)) want = some g := by (simp only [push_cast, and_true, cond_true, cond_false, if_pos, if_neg, ↓reduceIte, Nat.reduceEqDiff, Nat.reduceAdd, Nat.reduceLeDiff, sx]) <;> rfl) (hd : o.dst = some t := by rfl) (hn : decide (t < n) = true := by rfl)
    (ho2 : o.op = .call { callee := .value fo, args := args, argTypes := ts } := by rfl)
    (hf : g = true → ev (fget fl) fo = .fn (.func f) first cap := by (intro hg; have hg2 := hg; (try simp only [decide_eq_true_eq, decide_eq_false_iff_not, Bool.not_eq_true', Bool.not_eq_false', Bool.or_eq_true, Bool.and_eq_true, Bool.or_eq_false_iff, Bool.and_eq_false_imp, Int.not_lt, Int.not_le, Bool.false_or, Bool.or_false, Bool.true_and, Bool.and_true] at hg2); (simp (disch := omega) only [hg, push_cast, and_true, cond_true, cond_false, if_pos, if_neg, ↓reduceIte, Nat.reduceEqDiff, Nat.reduceAdd, Nat.reduceLeDiff, sx]) <;> rfl))
    (hx : g = true → first ++ args.toList.map (ev (fget fl)) ++ cap = xs := by (intro hg; have hg2 := hg; (try simp only [decide_eq_true_eq, decide_eq_false_iff_not, Bool.not_eq_true', Bool.not_eq_false', Bool.or_eq_true, Bool.and_eq_true, Bool.or_eq_false_iff, Bool.and_eq_false_imp, Int.not_lt, Int.not_le, Bool.false_or, Bool.or_false, Bool.true_and, Bool.and_true] at hg2); (simp (disch := omega) only [hg, push_cast, and_true, cond_true, cond_false, if_pos, if_neg, ↓reduceIte, Nat.reduceEqDiff, Nat.reduceAdd, Nat.reduceLeDiff, sx]) <;> rfl))
    (hc : g = true → ACalls P f xs h live (ret x h live)) (k : dawp P q gd n os (fget ((t, bif g then x else .tup []) :: fl)) h live F) : dawp P q gd n (o :: os) (fget fl) h live F :=
  dawp_gr hk ho hgd hw (fun hg => AOp.callx fo args ts ho2 (hf hg) (hx hg) (hc hg)) hd hn k
end

section
variable {P : Program} {Q : Exit → AS → Prop} {S : AS}
theorem sk_ {x y : Code} (h : ∀ K : AS → Prop, (∀ S, AwpC P y Q S → K S) → AwpC P x (thenQ K Q) S) : AwpC P (.seq x y) Q S := awp_seq_k h
theorem sk0_ {y : Code} (h : AwpC P y Q S) : AwpC P (.seq .skip y) Q S := awp_seq (awp_skip h)

/-- To where code goes on when it ends. -/
theorem then_n {A : AS → Prop} (h : A S) : thenQ A Q .normal S := h
theorem then_r {A : AS → Prop} (h : Q .ret S) : thenQ A Q .ret S := h
theorem then_x {A : AS → Prop} {i : Nat} (h : Q (.exit i) S) : thenQ A Q (.exit i) S := h
theorem blk_n {id : Nat} (h : Q .normal S) : inBlockQ id Q .normal S := h
theorem blk_r {id : Nat} (h : Q .ret S) : inBlockQ id Q .ret S := h
theorem blk_x {id : Nat} (h : Q .normal S) : inBlockQ id Q (.exit id) S := by rw [inBlockQ_e, if_pos rfl]; exact h
theorem blk_y {id i : Nat} (hi : decide (i = id) = false) (h : Q (.exit i) S) : inBlockQ id Q (.exit i) S := by rw [inBlockQ_e, if_neg (of_decide_eq_false hi)]; exact h
theorem up_ {G G' : Prop} (k : G) (u : G → G' := by
    intro k
    repeat (first
      | with_reducible refine then_n ?_
      | with_reducible refine then_r ?_
      | with_reducible refine then_x ?_
      | with_reducible refine blk_n ?_
      | with_reducible refine blk_r ?_
      | with_reducible refine blk_x ?_
      | with_reducible refine blk_y rfl ?_)
    exact k) : G' := u k

theorem cd_ {c : Operand} {x y : Code} {b : Bool} {p p' : Prop} (hb : ev S.fr c = .bool b := by (simp (disch := omega) only [push_cast, and_true, cond_true, cond_false, if_pos, if_neg, ↓reduceIte, Nat.reduceEqDiff, Nat.reduceAdd, Nat.reduceLeDiff, sx]) <;> rfl)
    (hp : b = true ↔ p := by (try simp only [decide_eq_true_eq, decide_eq_false_iff_not, Bool.not_eq_true', Bool.not_eq_false', Bool.or_eq_true, Bool.and_eq_true, Bool.or_eq_false_iff, Bool.and_eq_false_imp, Int.not_lt, Int.not_le]) <;> exact Iff.rfl)
    (hp' : b = false ↔ p' := by (try simp only [decide_eq_true_eq, decide_eq_false_iff_not, Bool.not_eq_true', Bool.not_eq_false', Bool.or_eq_true, Bool.and_eq_true, Bool.or_eq_false_iff, Bool.and_eq_false_imp, Int.not_lt, Int.not_le]) <;> exact Iff.rfl)
    (ht : p → AwpC P x Q S) (hf : p' → AwpC P y Q S) : AwpC P (.cond c x y) Q S := awp_cond hb (fun e => ht (hp.1 e)) (fun e => hf (hp'.1 e))
theorem cdy_ {c : Operand} {x y : Code} {b : Bool} {p : Prop} (hb : ev S.fr c = .bool b := by (simp (disch := omega) only [push_cast, and_true, cond_true, cond_false, if_pos, if_neg, ↓reduceIte, Nat.reduceEqDiff, Nat.reduceAdd, Nat.reduceLeDiff, sx]) <;> rfl)
    (hp : b = true ↔ p := by (try simp only [decide_eq_true_eq, decide_eq_false_iff_not, Bool.not_eq_true', Bool.not_eq_false', Bool.or_eq_true, Bool.and_eq_true, Bool.or_eq_false_iff, Bool.and_eq_false_imp, Int.not_lt, Int.not_le]) <;> exact Iff.rfl)
    (ht : p → AwpC P x Q S) (hf : b = false → AwpC P y Q S) : AwpC P (.cond c x y) Q S := awp_cond hb (fun e => ht (hp.1 e)) hf
theorem cdn_ {c : Operand} {x y : Code} {b : Bool} {p' : Prop} (hb : ev S.fr c = .bool b := by (simp (disch := omega) only [push_cast, and_true, cond_true, cond_false, if_pos, if_neg, ↓reduceIte, Nat.reduceEqDiff, Nat.reduceAdd, Nat.reduceLeDiff, sx]) <;> rfl)
    (hp' : b = false ↔ p' := by (try simp only [decide_eq_true_eq, decide_eq_false_iff_not, Bool.not_eq_true', Bool.not_eq_false', Bool.or_eq_true, Bool.and_eq_true, Bool.or_eq_false_iff, Bool.and_eq_false_imp, Int.not_lt, Int.not_le]) <;> exact Iff.rfl)
    (ht : b = true → AwpC P x Q S) (hf : p' → AwpC P y Q S) : AwpC P (.cond c x y) Q S := awp_cond hb ht (fun e => hf (hp'.1 e))
theorem cb_ {c : Operand} {x y : Code} {b : Bool} (hb : ev S.fr c = .bool b := by (simp (disch := omega) only [push_cast, and_true, cond_true, cond_false, if_pos, if_neg, ↓reduceIte, Nat.reduceEqDiff, Nat.reduceAdd, Nat.reduceLeDiff, sx]) <;> rfl)
    (ht : b = true → AwpC P x Q S) (hf : b = false → AwpC P y Q S) : AwpC P (.cond c x y) Q S := awp_cond hb ht hf

theorem fp_ {fn : Func} {h : List Blk} {K : KT} {xs : List AV} {x : AV} {live : List Nat} {rs : Array ResultVar} (hr : fn.results = rs)
    (hres : aresults P S rs.toList = some xs := by (simp (disch := omega) only [aresults, aresult, push_cast, and_true, cond_true, cond_false, if_pos, if_neg, ↓reduceIte, Nat.reduceEqDiff, Nat.reduceAdd, Nat.reduceLeDiff, sx]) <;> rfl)
    (hx : (atuple xs).er = x := by (simp only [atuple, AV.er, AV.erL, push_cast]) <;> rfl) (hcl : x.cl h.length := by first | exact trivial | (simp [AV.cl, AV.clL]; done) | (simp only [AV.cl, AV.clL, push_cast, and_true]; done) | (simp only [AV.cl, AV.clL, push_cast, and_true]; omega))
    (hh : ∃ junk, S.h = h ++ junk := by first | exact ⟨_, rfl⟩ | exact ⟨[], (List.append_nil _).symm⟩ | exact ⟨_, by rw [List.append_assoc]; rfl⟩) (hH : HCl h := by assumption)
    (hl : ∀ u ∈ live, u ∈ S.live := by exact fun _ h => h) (hK : K x h live) : fin P fn h K .ret S := fin_pure (hr ▸ hres) hx hcl hh hH hl hK
theorem fg_ {fn : Func} {h h1 : List Blk} {K : KT} {xs : List AV} {x : AV} {live : List Nat} {rs : Array ResultVar} (hr : fn.results = rs)
    (hres : aresults P S rs.toList = some xs := by (simp (disch := omega) only [aresults, aresult, push_cast, and_true, cond_true, cond_false, if_pos, if_neg, ↓reduceIte, Nat.reduceEqDiff, Nat.reduceAdd, Nat.reduceLeDiff, sx]) <;> rfl)
    (hx : atuple xs = x ∨ (atuple xs).er = x := by exact .inr (by (simp only [atuple, AV.er, AV.erL, push_cast]) <;> rfl)) (hcl : x.cl h1.length := by first | exact trivial | (simp [AV.cl, AV.clL]; done) | (simp only [AV.cl, AV.clL, push_cast, and_true]; done) | (simp only [AV.cl, AV.clL, push_cast, and_true]; omega))
    (hh : ∃ junk, S.h = h1 ++ junk := by first | exact ⟨_, rfl⟩ | exact ⟨[], (List.append_nil _).symm⟩ | exact ⟨_, by rw [List.append_assoc]; rfl⟩) (hH : HCl h1 := by assumption) (hle : h.length ≤ h1.length := by simp)
    (hl : ∀ u ∈ live, u ∈ S.live := by exact fun _ h => h) (hK : K x h1 live) : fin P fn h K .ret S := fin_gen (hr ▸ hres) hx hcl hh hH hle hl hK
theorem fz_ {fn : Func} {h h1 : List Blk} {K : KT} {xs : List AV} {x : AV} {live : List Nat} {rs : Array ResultVar} (hr : fn.results = rs)
    (hres : aresults P S rs.toList = some xs := by (simp (disch := omega) only [aresults, aresult, push_cast, and_true, cond_true, cond_false, if_pos, if_neg, ↓reduceIte, Nat.reduceEqDiff, Nat.reduceAdd, Nat.reduceLeDiff, sx]) <;> rfl)
    (hx : ((atuple xs).frz S.h h1.length).er = x) (hcl : x.cl h1.length := by simp [AV.cl, AV.clL])
    (hh : ∃ junk, S.h = h1 ++ junk := by first | exact ⟨_, rfl⟩ | exact ⟨[], (List.append_nil _).symm⟩ | exact ⟨_, by rw [List.append_assoc]; rfl⟩) (hH : HCl h1 := by assumption) (hle : h.length ≤ h1.length := by simp)
    (hl : ∀ u ∈ live, u ∈ S.live := by exact fun _ h => h) (hK : K x h1 live) : fin P fn h K .ret S := fin_frz (hr ▸ hres) hx hcl hh hH hle hl hK
theorem fu_ {fn : Func} {h h1 : List Blk} {K : KT} {xs : List AV} {x : AV} {live : List Nat} {rs : Array ResultVar} (hr : fn.results = rs)
    (hres : aresults P S rs.toList = some xs := by (simp (disch := omega) only [aresults, aresult, push_cast, and_true, cond_true, cond_false, if_pos, if_neg, ↓reduceIte, Nat.reduceEqDiff, Nat.reduceAdd, Nat.reduceLeDiff, sx]) <;> rfl)
    (hx : (atuple xs).frz S.h h1.length = x) (hcl : x.cl h1.length := by simp [AV.cl, AV.clL])
    (hh : ∃ junk, S.h = h1 ++ junk := by first | exact ⟨_, rfl⟩ | exact ⟨[], (List.append_nil _).symm⟩ | exact ⟨_, by rw [List.append_assoc]; rfl⟩) (hH : HCl h1 := by assumption) (hle : h.length ≤ h1.length := by simp)
    (hl : ∀ u ∈ live, u ∈ S.live := by exact fun _ h => h) (hK : K x h1 live) : fin P fn h K .ret S := fin_frzu (hr ▸ hres) hx hcl hh hH hle hl hK
theorem fe_ {fn : Func} {h h1 : List Blk} {K : KT} {xs : List AV} {x : AV} {live : List Nat} {rs : Array ResultVar} (hr : fn.results = rs)
    (hres : aresults P S rs.toList = some xs := by (simp (disch := omega) only [aresults, aresult, push_cast, and_true, cond_true, cond_false, if_pos, if_neg, ↓reduceIte, Nat.reduceEqDiff, Nat.reduceAdd, Nat.reduceLeDiff, sx]) <;> rfl)
    (hx : (atuple xs).er = x := by (simp only [atuple, AV.er, AV.erL, push_cast]) <;> rfl) (hcl : x.cl h1.length := by simp [AV.cl, AV.clL])
    (hh : ∃ g junk, S.h = g ++ junk ∧ BW g h1) (hH : HCl h1 := by assumption) (hle : h.length ≤ h1.length := by simp)
    (hl : ∀ u ∈ live, u ∈ S.live := by exact fun _ h => h) (hK : K x h1 live) : fin P fn h K .ret S := fin_er (hr ▸ hres) hx hcl hh hH hle hl hK
end

/-- What a loop's round is told of. -/
theorem ts_ {n : Nat} {fr : Nat → AV} {fl : FL} {h : List Blk} {live : List Nat} (hH : HCl h) (hfr : FTr h.length fr fl := by repeat (first | exact FTr.nil | refine FTr.cons (by first | rfl | ((simp (disch := omega) only [push_cast, and_true, cond_true, cond_false, if_pos, if_neg, ↓reduceIte, Nat.reduceEqDiff, Nat.reduceAdd, Nat.reduceLeDiff, sx]) <;> first | rfl | (congr 2; omega))) (by first | exact trivial | (simp [AV.cl, AV.clL, clL_str, -List.map_map, -List.map_take]; done) | (simp only [AV.cl, AV.clL, push_cast, and_true, true_and]; done) | (simp only [AV.cl, AV.clL, push_cast, and_true, true_and]; omega) | (simp [AV.cl, AV.clL, clL_str, -List.map_map, -List.map_take]; omega)) ?_)) : Trunc ⟨n, fr, h, live⟩ ⟨n, fget fl, h, live⟩ := Trunc.same hfr hH
theorem tf_ {n : Nat} {fr : Nat → AV} {fl : FL} {h h1 junk : List Blk} {live live1 : List Nat} (hH : HCl h1) (hl : ∀ u ∈ live1, u ∈ live)
    (hj : h = h1 ++ junk := by first | exact (List.append_nil _).symm | exact rfl | (rw [List.append_assoc]; rfl)) (hfr : FTr h1.length fr fl := by repeat (first | exact FTr.nil | refine FTr.cons (by first | rfl | ((simp (disch := omega) only [push_cast, and_true, cond_true, cond_false, if_pos, if_neg, ↓reduceIte, Nat.reduceEqDiff, Nat.reduceAdd, Nat.reduceLeDiff, sx]) <;> first | rfl | (congr 2; omega))) (by first | exact trivial | (simp [AV.cl, AV.clL, clL_str, -List.map_map, -List.map_take]; done) | (simp only [AV.cl, AV.clL, push_cast, and_true, true_and]; done) | (simp only [AV.cl, AV.clL, push_cast, and_true, true_and]; omega) | (simp [AV.cl, AV.clL, clL_str, -List.map_map, -List.map_take]; omega)) ?_)) : Trunc ⟨n, fr, h, live⟩ ⟨n, fget fl, h1, live1⟩ := Trunc.of hj hfr hH hl

/-- Where a function's code begins. -/
theorem ab_ {P : Program} {f : FuncId} {fn : Func} {c : Code} {xs : List AV} {h : List Blk} {live : List Nat} {K : KT} (hf : P.funcs[f]? = some fn) (hn : (fn.name == "runtime.NumGoroutine") = false := by rfl) (hb : fn.body = some c := by rfl) (hl : xs.length ≤ fn.ntmps := by exact Nat.le_of_ble_eq_true rfl)
    {fl : FL} (hg : fargs xs 0 = fl := by (simp only [fargs]) <;> rfl) (hw : HCl h → (∀ x ∈ xs, x.cl h.length) → AwpC P c (fin P fn h K) ⟨fn.ntmps, fget fl, h, live⟩) : ACalls P f xs h live K :=
  acalls_of_awp hf hn hb hl (hg ▸ hw)
end Go.Ab
