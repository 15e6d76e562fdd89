import Derived.Test.YtjoklidphbmpoaaGreatAb9
/-
  THE FRAMEWORK, 10: what a loop's next round is told of.
-/
namespace Go.Ab
set_option linter.unusedVariables false
set_option linter.unusedSimpArgs false
open Go.RowKit

/-- Slots of a frame, one at a time. -/
def FTr (m : Nat) (fr : Nat → AV) : FL → Prop
  | [] => True
  | (k, v) :: r => ((v = fr k ∨ v = (fr k).er) ∧ v.cl m) ∧ FTr m fr r

theorem FTr.fget {m : Nat} {fr : Nat → AV} : ∀ {fl : FL}, FTr m fr fl → ∀ t, fget fl t = .undef ∨ ((fget fl t = fr t ∨ fget fl t = (fr t).er) ∧ (fget fl t).cl m)
  | [], _, t => .inl rfl
  | (k, v) :: r, h, t => by
    rw [fget_cons]
    split
    · rename_i e; subst e; exact .inr h.1
    · exact h.2.fget t

theorem FTr.cons {m : Nat} {fr : Nat → AV} {k : Nat} {v : AV} {r : FL} (h : fr k = v) (hc : v.cl m) (hr : FTr m fr r) : FTr m fr ((k, v) :: r) := ⟨⟨.inl h.symm, hc⟩, hr⟩
theorem FTr.ercons {m : Nat} {fr : Nat → AV} {k : Nat} {v x : AV} {r : FL} (h : fr k = x) (hx : x.er = v) (hc : v.cl m) (hr : FTr m fr r) : FTr m fr ((k, v) :: r) := ⟨⟨.inr (by rw [h, hx]), hc⟩, hr⟩
theorem FTr.nil {m : Nat} {fr : Nat → AV} : FTr m fr [] := trivial

theorem Trunc.of {n : Nat} {fr : Nat → AV} {fl : FL} {h h1 junk : List Blk} {live live1 : List Nat} (hj : h = h1 ++ junk) (hfr : FTr h1.length fr fl) (hH : HCl h1) (hl : ∀ u ∈ live1, u ∈ live) : Trunc ⟨n, fr, h, live⟩ ⟨n, fget fl, h1, live1⟩ :=
  ⟨rfl, hfr.fget, ⟨junk, hj⟩, hH, hl⟩

theorem Trunc.same {n : Nat} {fr : Nat → AV} {fl : FL} {h : List Blk} {live : List Nat} (hfr : FTr h.length fr fl) (hH : HCl h) : Trunc ⟨n, fr, h, live⟩ ⟨n, fget fl, h, live⟩ :=
  Trunc.of (List.append_nil h).symm hfr hH fun _ h => h

/-- A list of strings is closed. -/
theorem clL_str (n : Nat) (l : List (List UInt8)) : AV.clL n (l.map .str) := by
  rw [AV.clL_mem]; intro x hx; obtain ⟨y, _, rfl⟩ := List.mem_map.1 hx; trivial
theorem clL_int (n : Nat) {α : Type} (f : α → Int) (k : IntKind) (l : List α) : AV.clL n (l.map fun x => .int k (f x)) := by
  rw [AV.clL_mem]; intro x hx; obtain ⟨y, _, rfl⟩ := List.mem_map.1 hx; trivial
theorem erL_str (l : List (List UInt8)) : AV.erL (l.map .str) = l.map .str := by
  rw [AV.erL_map, List.map_map]; rfl
theorem getD_map {α β : Type} (f : α → β) (l : List α) (i : Nat) (d : β) (d' : α) (h : i < l.length) : (l.map f).getD i d = f (l.getD i d') := by
  simp [List.getD_eq_getElem?_getD, h]
mutual
theorem AV.cl_mono {n m : Nat} (h : n ≤ m) : ∀ x : AV, x.cl n → x.cl m
  | .ptr k _, hx => Nat.lt_of_lt_of_le hx h
  | .map k, hx => Nat.lt_of_lt_of_le hx h
  | .slice l _, hx => AV.clL_mono h l hx
  | .agg l, hx => AV.clL_mono h l hx
  | .tup l, hx => AV.clL_mono h l hx
  | .fn _ a b, hx => ⟨AV.clL_mono h a hx.1, AV.clL_mono h b hx.2⟩
  | .iface _ v, hx => AV.cl_mono h v hx
  | .eptr l _, hx => AV.clL_mono h l hx
  | .glob _ _, _ => trivial
  | .bsl k _ _ _ _ _, hx => Nat.lt_of_lt_of_le hx h
  | .undef, _ => trivial
  | .bool _, _ => trivial
  | .int _ _, _ => trivial
  | .str _, _ => trivial
  | .raw _, _ => trivial
theorem AV.clL_mono {n m : Nat} (h : n ≤ m) : ∀ l : List AV, AV.clL n l → AV.clL m l
  | [], _ => trivial
  | x :: r, hx => ⟨AV.cl_mono h x hx.1, AV.clL_mono h r hx.2⟩
end

theorem Blk.cl_mono {n m : Nat} (h : n ≤ m) {b : Blk} (hb : b.cl n) : b.cl m := by
  cases b with
  | cells c => exact AV.clL_mono h c hb
  | map es => exact fun p hp => ⟨AV.cl_mono h _ (hb p hp).1, AV.cl_mono h _ (hb p hp).2⟩
  | glb g c _ => exact AV.clL_mono h c hb
  | siter _ _ => trivial
  | miter k _ _ _ => exact Nat.lt_of_lt_of_le hb h
  | gone => trivial

theorem HCl.snoc {h : List Blk} {b : Blk} (hH : HCl h) (hb : b.cl (h.length + 1)) : HCl (h ++ [b]) := by
  intro x hx
  rw [List.length_append, List.length_singleton]
  rcases List.mem_append.1 hx with hx | hx
  · exact Blk.cl_mono (Nat.le_succ _) (hH x hx)
  · rw [List.mem_singleton.1 hx]; exact hb

theorem HCl.set {h : List Blk} {b : Blk} (hH : HCl h) (k : Nat) (hb : b.cl h.length) : HCl (h.set k b) := by
  intro x hx
  rw [List.length_set]
  rcases List.mem_or_eq_of_mem_set hx with hx | hx
  · exact hH x hx
  · rw [hx]; exact hb

theorem get_app0 {α : Type} (h l : List α) : (h ++ l)[h.length]? = l[0]? := by rw [List.getElem?_append_right (Nat.le_refl _), Nat.sub_self]
theorem get_app {α : Type} (h l : List α) (k : Nat) : (h ++ l)[h.length + k]? = l[k]? := by rw [List.getElem?_append_right (Nat.le_add_right _ _), Nat.add_sub_cancel_left]
theorem set_app0 {α : Type} (h l : List α) (x : α) : (h ++ l).set h.length x = h ++ l.set 0 x := by rw [List.set_append_right _ _ (Nat.le_refl _), Nat.sub_self]
theorem set_app {α : Type} (h l : List α) (k : Nat) (x : α) : (h ++ l).set (h.length + k) x = h ++ l.set k x := by rw [List.set_append_right _ _ (Nat.le_add_right _ _), Nat.add_sub_cancel_left]
theorem foldl_take {α β : Type} (f : β → α → β) (b : β) (l : List α) (i : Nat) (d : α) (hi : i < l.length) : (l.take (i + 1)).foldl f b = f ((l.take i).foldl f b) (l.getD i d) := by
  rw [List.take_add_one, List.foldl_append]
  simp [List.getD_eq_getElem?_getD, hi]
attribute [push_cast] get_app0 get_app set_app0 set_app List.append_assoc List.length_append

/-! A heap of which a block turned, and the locals' behind it. -/
section
variable {α : Type} {h l : List α} {k j : Nat} {b b' : α}
theorem get_setk (hk : k < h.length) : (h.set k b)[k]? = some b := by simp [hk]
theorem get_setapp (hk : k < h.length) : (h.set k b ++ l)[k]? = some b := by
  rw [List.getElem?_append_left (by simpa using hk)]; simp [hk]
theorem set_setapp (hk : k < h.length) : (h.set k b ++ l).set k b' = h.set k b' ++ l := by
  rw [List.set_append_left _ _ (by simpa using hk), List.set_set]
theorem get_setloc : (h.set k b ++ l)[h.length + j]? = l[j]? := by
  have := get_app (h.set k b) l j; rwa [List.length_set] at this
theorem get_setloc0 : (h.set k b ++ l)[h.length]? = l[0]? := by
  have := get_app0 (h.set k b) l; rwa [List.length_set] at this
theorem set_setloc : (h.set k b ++ l).set (h.length + j) b' = h.set k b ++ l.set j b' := by
  have := set_app (h.set k b) l j b'; rwa [List.length_set] at this
theorem set_setloc0 : (h.set k b ++ l).set h.length b' = h.set k b ++ l.set 0 b' := by
  have := set_app0 (h.set k b) l b'; rwa [List.length_set] at this
theorem set_self (hk : h[k]? = some b) : h.set k b = h := by
  apply List.ext_getElem?
  intro i
  rw [List.getElem?_set]
  split
  · rename_i e; subst e
    rw [hk]
    have := (List.getElem?_eq_some_iff.1 hk).1
    simp [this]
  · rfl
end
attribute [push_cast] get_setk get_setapp set_setapp get_setloc get_setloc0 set_setloc set_setloc0 List.set_set List.length_set

section
variable {P : Program} {S : AS}
theorem fin_gen {fn : Func} {h h1 : List Blk} {K : KT} {xs : List AV} {x : AV} {live : List Nat} (hres : aresults P S fn.results.toList = some xs) (hx : atuple xs = x ∨ (atuple xs).er = x) (hcl : x.cl h1.length) (hh : ∃ junk, S.h = h1 ++ junk) (hH : HCl h1) (hle : h.length ≤ h1.length)
    (hl : ∀ u ∈ live, u ∈ S.live) (hK : K x h1 live) : fin P fn h K .ret S := ⟨xs, x, h1, live, hres, hx.elim (fun h => .inl h.symm) (fun h => .inr (.inl h.symm)), hcl, hh.elim fun j e => ⟨h1, j, e, BW.refl _⟩, hH, hle, hl, hK⟩
/-- A function that hands out what it has laid. -/
theorem fin_frz {fn : Func} {h h1 : List Blk} {K : KT} {xs : List AV} {x : AV} {live : List Nat} (hres : aresults P S fn.results.toList = some xs) (hx : ((atuple xs).frz S.h h1.length).er = x) (hcl : x.cl h1.length) (hh : ∃ junk, S.h = h1 ++ junk) (hH : HCl h1) (hle : h.length ≤ h1.length)
    (hl : ∀ u ∈ live, u ∈ S.live) (hK : K x h1 live) : fin P fn h K .ret S := ⟨xs, x, h1, live, hres, .inr (.inr (.inl hx.symm)), hcl, hh.elim fun j e => ⟨h1, j, e, BW.refl _⟩, hH, hle, hl, hK⟩
/-- Likewise, and what it hands out has the room that it was laid with. -/
theorem fin_frzu {fn : Func} {h h1 : List Blk} {K : KT} {xs : List AV} {x : AV} {live : List Nat} (hres : aresults P S fn.results.toList = some xs) (hx : (atuple xs).frz S.h h1.length = x) (hcl : x.cl h1.length) (hh : ∃ junk, S.h = h1 ++ junk) (hH : HCl h1) (hle : h.length ≤ h1.length)
    (hl : ∀ u ∈ live, u ∈ S.live) (hK : K x h1 live) : fin P fn h K .ret S := ⟨xs, x, h1, live, hres, .inr (.inr (.inr hx.symm)), hcl, hh.elim fun j e => ⟨h1, j, e, BW.refl _⟩, hH, hle, hl, hK⟩
/-- A function behind which nothing is said of the room of slices in blocks. -/
theorem fin_er {fn : Func} {h h1 : List Blk} {K : KT} {xs : List AV} {x : AV} {live : List Nat} (hres : aresults P S fn.results.toList = some xs) (hx : (atuple xs).er = x) (hcl : x.cl h1.length) (hh : ∃ g junk, S.h = g ++ junk ∧ BW g h1) (hH : HCl h1) (hle : h.length ≤ h1.length)
    (hl : ∀ u ∈ live, u ∈ S.live) (hK : K x h1 live) : fin P fn h K .ret S := ⟨xs, x, h1, live, hres, .inr (.inl hx.symm), hcl, hh, hH, hle, hl, hK⟩
end

theorem take_drop_len {α : Type} (s : List α) (a : Nat) : (s.drop a).take (s.length - a) = s.drop a := List.take_of_length_le (by simp)
theorem take_drop_map {α β : Type} (f : α → β) (s : List α) (a : Nat) : ((s.map f).drop a).take (s.length - a) = (s.drop a).map f := by
  rw [← List.map_drop]; exact List.take_of_length_le (by simp)
attribute [push_cast] take_drop_len take_drop_map Int.toNat_natCast_add_one

section
variable {P : Program} {h h' : List Blk} {fr : Nat → AV}
theorem stab.nil : stab P [] h h' := fun _ _ _ _ hm => by simp at hm
theorem stab.cons {b off : Nat} {k : TK} {T : List (Nat × Nat × TK)} (h1 : blkGet h'[b]? off k = blkGet h[b]? off k) (h2 : stab P T h h') : stab P ((b, off, k) :: T) h h' := by
  intro b' off' k' t hm ht
  rcases List.mem_cons.1 hm with e | hm
  · cases e
    rw [aload_eq, aload_eq, ht, loadOf_ptr, loadOf_ptr, h1]
  · exact h2 b' off' k' t hm ht

def floadA (k : Option TK) (T : List (Nat × Nat × TK)) (h : List Blk) (a : AV) : Option AV := match k with
  | some k => match a with
    | .ptr b off => if (b, off, k) ∈ T then blkGet h[b]? off k else none
    | .eptr c off => getCells c off k
    | _ => none
  | none => none
theorem floadA_ptr (k : TK) (T : List (Nat × Nat × TK)) (b off : Nat) : floadA (some k) T h (.ptr b off) = if (b, off, k) ∈ T then blkGet h[b]? off k else none := rfl
theorem floadA_eptr (k : TK) (T : List (Nat × Nat × TK)) (c : List AV) (off : Nat) : floadA (some k) T h (.eptr c off) = getCells c off k := rfl
theorem sF_load {d : Option Tmp} {ty : TypeId} {pos : String} {af : Array Edge} {g : Option (Nat × Bool)} {T : List (Nat × Nat × TK)} (t : TypeId) (x : Operand) : floadOf P T fr h ⟨d, .load t x, ty, pos, af, g⟩ = floadA (tk P t) T h (ev fr x) := by
  unfold floadOf floadA
  simp only []
  cases hk : tk P t with
  | none => rfl
  | some k =>
    simp only []
    cases ev fr x <;> simp only [aload_eq, hk] <;> rfl
attribute [push_cast] floadA_ptr floadA_eptr sF_load List.mem_cons
end

section
variable {P : Program} {n : Nat}
/-- A call behind a guard, that turns no block. -/
theorem dawp_gr {q : RQ} {gd : Nat → Option Tmp} {fl : FL} {h : List Blk} {live : List Nat} {F : FT} {o : Oper} {os : List Oper} {x : AV} {g : Bool} {j : Nat} {want : Bool} {t tg : Tmp} (hk : (kindOf q o == .r || kindOf q o == .w) = true) (ho : o.guard = some (j, want)) (hgd : gd j = some tg) (hw : wantOf (gv (fget fl tg)) want = some g)
    (hx : g = true → AOp P (fget fl) h live o (ret x h live)) (hd : o.dst = some t) (hn : decide (t < n) = true) (k : dawp P q gd n os (fget ((t, bif g then x else .tup []) :: fl)) h live F) : dawp P q gd n (o :: os) (fget fl) h live F := by
  rw [← gval_gv, ← hgd] at hw
  unfold wantOf at hw
  rw [← dwant_some ho] at hw
  cases g with
  | true =>
    simp only [Bool.or_eq_true, beq_iff_eq] at hk
    rcases hk with hk | hk
    · exact dawp_r hk hw hd hn (hx rfl) k
    · exact dawp_w hk hw hd hn ((hx rfl).mono fun y h' l' e => by obtain ⟨e1, e2, e3⟩ := e; subst e1; subst e2; subst e3; exact k)
  | false => exact dawp_skip hw hd hn k
end
end Go.Ab
