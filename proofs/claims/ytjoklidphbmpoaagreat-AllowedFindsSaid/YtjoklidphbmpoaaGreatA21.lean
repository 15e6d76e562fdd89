import Derived.Test.YtjoklidphbmpoaaGreatA20
/-
  PATHS: a path as names.
-/
namespace Go.Proofs.YtjoklidphbmpoaaGreat
open Go.Ab
set_option linter.unusedVariables false
set_option linter.unusedSimpArgs false
set_option maxRecDepth 8000
set_option maxHeartbeats 400000


/-- At each step of a range over a text: is it a slash? -/
theorem sl_step {l : List UInt8} {pos : Nat} (h : pos < l.length) : (((dec l pos).1 : Int) = 47 ↔ l.getD pos 0 = 47) ∧ pos + (dec l pos).2 ≤ l.length ∧ pos < pos + (dec l pos).2 ∧ ∀ j, pos < j → j < pos + (dec l pos).2 → l.getD j 0 ≠ 47 := by
  have hne : ∀ c : UInt8, 128 ≤ c.toNat → c ≠ 47 := fun c hc e => by rw [e] at hc; exact absurd hc (by decide)
  by_cases ha : (l.getD pos 0).toNat < 128
  · rw [dec_ascii h ha]
    refine ⟨⟨fun e => UInt8.toNat_inj.1 (by show (l.getD pos 0).toNat = 47; dsimp only at e; omega), fun e => by rw [e]; rfl⟩, by dsimp only; omega, by dsimp only; omega, fun j h1 h2 => by dsimp only at h2; omega⟩
  · obtain ⟨h1, h2⟩ := dec_high h (by omega)
    have hsp := dec_span h (by omega)
    refine ⟨⟨fun e => by omega, fun e => absurd e (hne _ (by omega))⟩, ?_, by omega, fun j hj hj' => ?_⟩
    · have := (hsp ((dec l pos).2 - 1) (by omega)).1; omega
    · have := (hsp (j - pos) (by omega)).2
      rw [show pos + (j - pos) = j by omega] at this
      exact hne _ this
/-- Where a name has begun (below nought: none has), and the names, by where they begin and end: behind so many bytes. -/
def flSt (s : List UInt8) : Nat → Int × List (Nat × Nat)
  | 0 => (-1, [])
  | i + 1 => if s.getD i 0 = 47 then (if 0 ≤ (flSt s i).1 then (-(flSt s i).1 - 1, (flSt s i).2 ++ [((flSt s i).1.toNat, i)]) else flSt s i)
    else (if (flSt s i).1 < 0 then ((i : Int), (flSt s i).2) else flSt s i)
def spansF (s : List UInt8) : List (Nat × Nat) := if 0 ≤ (flSt s s.length).1 then (flSt s s.length).2 ++ [((flSt s s.length).1.toNat, s.length)] else (flSt s s.length).2
def namesF (s : List UInt8) : List (List UInt8) := (spansF s).map fun p => (s.drop p.1).take (p.2 - p.1)
theorem flSt_slash {s : List UInt8} {i : Nat} (h : s.getD i 0 = 47) : flSt s (i + 1) = if 0 ≤ (flSt s i).1 then (-(flSt s i).1 - 1, (flSt s i).2 ++ [((flSt s i).1.toNat, i)]) else flSt s i := by
  show (if s.getD i 0 = 47 then _ else _) = _
  rw [if_pos h]
theorem flSt_no {s : List UInt8} {i : Nat} (h : s.getD i 0 ≠ 47) : flSt s (i + 1) = if (flSt s i).1 < 0 then ((i : Int), (flSt s i).2) else flSt s i := by
  show (if s.getD i 0 = 47 then _ else _) = _
  rw [if_neg h]
/-- Bytes of one letter play no part behind the first. -/
theorem flSt_skip {s : List UInt8} {i : Nat} (h0 : 0 ≤ (flSt s i).1) : ∀ k, (∀ j, i ≤ j → j < i + k → s.getD j 0 ≠ 47) → flSt s (i + k) = flSt s i
  | 0, _ => rfl
  | k + 1, h => by
    have ih := flSt_skip h0 k fun j h1 h2 => h j h1 (by omega)
    rw [← Nat.add_assoc, flSt_no (h (i + k) (by omega) (by omega)), ih, if_neg (by omega)]
theorem flSt_next {s : List UInt8} {i : Nat} (hi : i < s.length) : flSt s (i + (dec s i).2) = flSt s (i + 1) := by
  obtain ⟨h1, h2, h3, h4⟩ := sl_step hi
  by_cases hs : s.getD i 0 = 47
  · have : (s.getD i 0).toNat < 128 := by rw [hs]; decide
    rw [dec_ascii hi this]
  · have h0 : 0 ≤ (flSt s (i + 1)).1 := by
      rw [flSt_no hs]
      split
      · exact Int.natCast_nonneg i
      · omega
    have := flSt_skip h0 ((dec s i).2 - 1) fun j ha hb => h4 j (by omega) (by omega)
    rw [← this]; congr 1; omega
/-- Names begin ahead of where they end, and there are not many. -/
theorem flSt_bd (s : List UInt8) : ∀ i, (∀ p ∈ (flSt s i).2, p.1 < p.2 ∧ p.2 ≤ i) ∧ (flSt s i).1 < i ∧ -(i : Int) - 1 ≤ (flSt s i).1 ∧ ((flSt s i).1 < 0 → 2 * (flSt s i).2.length ≤ i) ∧ (0 ≤ (flSt s i).1 → (2 * (flSt s i).2.length : Int) ≤ (flSt s i).1)
  | 0 => ⟨fun p hp => by simp [flSt] at hp, show (-1 : Int) < 0 by decide, show -((0 : Nat) : Int) - 1 ≤ -1 by decide, fun _ => by simp [flSt], fun h => absurd (show (0 : Int) ≤ -1 from h) (by decide)⟩
  | i + 1 => by
    obtain ⟨h1, h2, h3, h4, h5⟩ := flSt_bd s i
    have h1' : ∀ p ∈ (flSt s i).2, p.1 < p.2 ∧ p.2 ≤ i + 1 := fun p hp => ⟨(h1 p hp).1, by have := (h1 p hp).2; omega⟩
    by_cases hs : s.getD i 0 = 47
    · rw [flSt_slash hs]
      by_cases h0 : 0 ≤ (flSt s i).1
      · rw [if_pos h0]
        have := h5 h0
        refine ⟨fun p hp => ?_, by dsimp only; omega, by dsimp only; omega, fun _ => by dsimp only; rw [List.length_append, List.length_singleton]; omega, fun h => by dsimp only at h; omega⟩
        rcases List.mem_append.1 hp with hp | hp
        · exact h1' p hp
        · rw [List.mem_singleton.1 hp]; dsimp only; omega
      · rw [if_neg h0]
        have := h4 (by omega)
        exact ⟨h1', by omega, by omega, fun _ => by omega, fun h => absurd h h0⟩
    · rw [flSt_no hs]
      by_cases h0 : (flSt s i).1 < 0
      · rw [if_pos h0]
        have := h4 h0
        exact ⟨h1', by dsimp only; omega, by dsimp only; omega, fun h => by dsimp only at h; omega, fun _ => by dsimp only; omega⟩
      · rw [if_neg h0]
        have := h5 (by omega)
        exact ⟨h1', by omega, by omega, fun h => absurd h h0, fun _ => this⟩
theorem spansF_bd (s : List UInt8) : (∀ p ∈ spansF s, p.1 < p.2 ∧ p.2 ≤ s.length) ∧ 2 * (spansF s).length ≤ s.length + 1 := by
  obtain ⟨h1, h2, h3, h4, h5⟩ := flSt_bd s s.length
  unfold spansF
  by_cases h0 : 0 ≤ (flSt s s.length).1
  · rw [if_pos h0]
    have := h5 h0
    refine ⟨fun p hp => ?_, by rw [List.length_append, List.length_singleton]; omega⟩
    rcases List.mem_append.1 hp with hp | hp
    · exact h1 p hp
    · rw [List.mem_singleton.1 hp]; dsimp only; omega
  · rw [if_neg h0]
    have := h4 (by omega)
    exact ⟨h1, by omega⟩
def absF (s : List UInt8) : Bool := decide ((1 : Int) ≤ s.length) && decide (s.take 1 = [47])
def sufF (s : List UInt8) : Bool := decide ((1 : Int) ≤ s.length) && decide (s.drop (s.length - 1) = [47])
def spC (p : Nat × Nat) : List AV := [.int .i64 p.1, .int .i64 p.2]
theorem spC_len (p : Nat × Nat) : (spC p).length = 2 := rfl
theorem cat_app {α : Type} (f : α → List AV) (s : Nat) (hf : ∀ x, (f x).length = s) (l : List α) (x : α) (r : List AV) (hr : s ≤ r.length) : putAt (l.flatMap f ++ r) (l.length * s) (f x) = (l ++ [x]).flatMap f ++ r.drop s := by
  rw [show l.length * s = (l.flatMap f).length + 0 by rw [cat_len f s hf, Nat.add_zero], putAt_right, putAt_eq _ _ _ (by rw [hf]; omega), List.take_zero, List.nil_append, hf, Nat.zero_add, List.flatMap_append]
  simp [List.append_assoc]
theorem cat_get {α : Type} (f : α → List AV) (s : Nat) (hf : ∀ x, (f x).length = s) (d : α) : ∀ (l : List α) (j : Nat) (r : List AV), j < l.length → (((l.flatMap f ++ r).drop (j * s)).take s) = f (l.getD j d) := fun l j r h => by
  rw [cat_el f s hf l j r h, List.getD_eq_getElem?_getD, List.getElem?_eq_getElem h]; rfl
theorem clL_sp (n : Nat) (l : List (Nat × Nat)) (r : List AV) (hr : AV.clL n r) : AV.clL n (l.flatMap spC ++ r) := by
  refine clL_append' n _ _ ?_ hr
  rw [AV.clL_mem]; intro x hx
  obtain ⟨p, _, hp⟩ := List.mem_flatMap.1 hx
  simp only [spC, List.mem_cons, List.not_mem_nil, or_false] at hp
  rcases hp with rfl | rfl <;> trivial
theorem clL_rep {n m : Nat} {z : List AV} (h : AV.clL n z) : AV.clL n (rep m z) := by
  rw [AV.clL_mem]; intro x hx
  obtain ⟨q, _, rfl⟩ := List.mem_map.1 hx
  by_cases hq : q % z.length < z.length
  · exact (AV.clL_iff n z).1 h _ hq
  · rw [List.getD_eq_getElem?_getD, List.getElem?_eq_none (by omega)]; trivial
theorem clL_drop {n : Nat} : ∀ {r : List AV} (k : Nat), AV.clL n r → AV.clL n (r.drop k)
  | [], k, _ => by rw [List.drop_nil]; trivial
  | x :: r, 0, h => h
  | x :: r, k + 1, h => clL_drop (r := r) k h.2

theorem c131 (r : Int) (h : List Blk) (live : List Nat) : ACalls Tryz.prog 131 [.int .i32 r] h live (ret (.bool (decide (r = 47))) h live) := by
  refine ab_ Tryz.func131 (hw := fun hH hX => ?_)
  have sx := sx0
  refine rg_ [0] ?_
  refine rg_ [2] ?_
  refine awp_ret (up_ ?_)
  refine fp_ Tryz.results131 (hK := ?_)
  exact ⟨rfl, rfl, rfl⟩

theorem c139 (s : List UInt8) (h : List Blk) (live : List Nat) (hs : s.length ≤ 9223372036854775807) : ACalls Tryz.prog 139 [.str s, .str [47]] h live (ret (.bool (absF s)) h live) := by
  refine ab_ Tryz.func139 (hw := fun hH hX => ?_)
  have sx := sx0
  refine rg_ [0, 1] ?_
  refine rg_ [4] ?_
  refine awp_ret (up_ ?_)
  refine fp_ Tryz.results139 (hK := ?_)
  exact ⟨rfl, rfl, rfl⟩

theorem c133 (s : List UInt8) (h : List Blk) (live : List Nat) (hs : s.length ≤ 9223372036854775807) : ACalls Tryz.prog 133 [.str s, .str [47]] h live (ret (.bool (absF s)) h live) := by
  refine ab_ Tryz.func133 (hw := fun hH hX => ?_)
  have sx := sx0
  refine rg_ [0, 1] ?_
  refine rs_ [4] ?_
  refine sg_ ?_
  refine cl_ (hc := c139 s _ _ hs) (k := ?_)
  refine sg_ ?_
  refine re_ ?_
  refine awp_ret (up_ ?_)
  refine fp_ Tryz.results133 (hK := ?_)
  exact ⟨rfl, rfl, rfl⟩


theorem i64_not (n : Int) (h : 0 ≤ n ∧ n ≤ 9223372036854775807) : bits .xor .i64 (-1) n = -n - 1 := by
  have hm : BitVec.ofInt 64 (-1) = BitVec.allOnes 64 := by decide
  show IntKind.i64.wrap ((BitVec.ofInt 64 (-1) ^^^ BitVec.ofInt 64 n).toNat : Nat) = -n - 1
  rw [hm, BitVec.allOnes_xor, BitVec.toNat_not, BitVec.toNat_ofInt, IntKind.wrap_i64]
  have e : ((2 ^ 64 : Nat) : Int) = 18446744073709551616 := by decide
  rw [e]
  omega
theorem spC_0 (p : Nat × Nat) : (spC p)[0]? = some (.int .i64 p.1) := rfl
theorem spC_1 (p : Nat × Nat) : (spC p)[1]? = some (.int .i64 p.2) := rfl
theorem spTake (p : Nat × Nat) : (spC p).take 2 = spC p := rfl
theorem spPut (a b : AV) (p : Nat × Nat) : putAt [a, b] 0 (spC p) = spC p := rfl
attribute [push_cast] spC_len spC_0 spC_1 spTake spPut beq_self_eq_true
theorem names_len (s : List UInt8) : (namesF s).length = (spansF s).length := List.length_map _
theorem names_getD (s : List UInt8) {j : Nat} (h : j < (spansF s).length) : (namesF s).getD j [] = (s.drop ((spansF s).getD j (0, 0)).1).take (((spansF s).getD j (0, 0)).2 - ((spansF s).getD j (0, 0)).1) := by
  simp [namesF, List.getD_eq_getElem?_getD, h]
/-- The first so many of some texts, and room for the others. -/
def snC (l : List (List UInt8)) (j : Nat) : List AV := (l.take j).map .str ++ List.replicate (l.length - j) (.str [])
theorem snC_0 (l : List (List UInt8)) : snC l 0 = rep l.length [.str []] := by
  unfold snC rep
  refine List.ext_getElem (by simp) fun i h1 h2 => ?_
  simp [Nat.mod_one]
theorem snC_set {l : List (List UInt8)} {j : Nat} (h : j < l.length) : (snC l j).set j (.str (l.getD j [])) = snC l (j + 1) := by
  unfold snC
  rw [List.set_append_right _ _ (by rw [List.length_map, List.length_take]; omega), List.length_map, List.length_take, Nat.min_eq_left (by omega), Nat.sub_self, show l.length - j = (l.length - (j + 1)) + 1 by omega, List.replicate_succ, List.set_cons_zero,
    List.take_succ_eq_append_getElem h, List.map_append, List.append_assoc]
  simp [List.getD_eq_getElem?_getD, h]
theorem snC_all (l : List (List UInt8)) : snC l l.length = l.map .str := by unfold snC; simp
theorem snC_len (l : List (List UInt8)) {j : Nat} (h : j ≤ l.length) : (snC l j).length = l.length := by unfold snC; simp; omega
theorem clL_snC (n : Nat) (l : List (List UInt8)) (j : Nat) : AV.clL n (snC l j) := by
  refine clL_append' n _ _ (clL_str _ _) ?_
  rw [AV.clL_mem]; intro x hx; rw [(List.mem_replicate.1 hx).2]; trivial
theorem names_frz (l : List (List UInt8)) (h : List Blk) (x y : Blk) : (AV.bsl (h.length + 2) 0 1 false l.length l.length).frz (h ++ [x, y, .cells (l.map .str)]) h.length = .slice (l.map .str) .full := by
  have hg : (h ++ [x, y, Blk.cells (l.map .str)])[h.length + 2]? = some (.cells (l.map .str)) := by
    rw [List.getElem?_append_right (by omega), show h.length + 2 - h.length = 2 by omega]; rfl
  unfold AV.frz
  rw [if_pos (by omega), hg]
  simp only []
  rw [if_pos ⟨by rw [List.length_map]; omega, by decide, .inr trivial⟩, if_pos trivial]
  congr 1
  refine List.ext_getElem (by simp) fun i h1 h2 => ?_
  simp only [List.length_map, List.length_range] at h1
  rw [List.getElem_map, List.getElem_range, Nat.zero_add, Nat.mul_one, List.drop_eq_getElem_cons (by rw [List.length_map]; exact h1)]
  rfl

attribute [push_cast] clL_snC

theorem c130 (s : List UInt8) (h : List Blk) (live : List Nat) (hs : s.length ≤ 64) : ACalls Tryz.prog 130 [.str s, .fn (.func 131) [] []] h live (ret (.slice ((namesF s).map .str) .full) h live) := by
  refine ab_ Tryz.func130 (hw := fun hH hX => ?_)
  have hB : ∀ i (r : List AV), AV.clL h.length r → HCl (h ++ [.cells ((flSt s i).2.flatMap spC ++ r), .siter s i]) := fun i r hr => by
    have := HCl.snoc (HCl.snoc (b := .cells ((flSt s i).2.flatMap spC ++ r)) hH (clL_sp _ _ _ (AV.clL_mono (Nat.le_succ _) _ hr))) (b := .siter s i) trivial
    rw [List.append_assoc] at this; exact this
  have hnb := spansF_bd s
  have hnl := names_len s
  have hB2 : ∀ r : List AV, AV.clL h.length r → HCl (h ++ [.cells ((spansF s).flatMap spC ++ r), .siter s s.length]) := fun r hr => by
    have := HCl.snoc (HCl.snoc (b := .cells ((spansF s).flatMap spC ++ r)) hH (clL_sp _ _ _ (AV.clL_mono (Nat.le_succ _) _ hr))) (b := .siter s s.length) trivial
    rw [List.append_assoc] at this; exact this
  have hB3 : ∀ (r : List AV) j, AV.clL h.length r → HCl (h ++ [.cells ((spansF s).flatMap spC ++ r), .siter s s.length, .cells (snC (namesF s) j)]) := fun r j hr => by
    have := HCl.snoc (b := .cells (snC (namesF s) j)) (hB2 r hr) (clL_snC _ _ _)
    rw [List.append_assoc] at this; exact this
  have hst0 : rep (spansF s).length [.str []] = snC (namesF s) 0 := by rw [snC_0, hnl]
  have sx := sx0
  refine rg_ [0, 1] ?_
  refine rs_ [0, 1, 5] ?_
  refine dawp_w rfl rfl rfl rfl (AOp.makeSlice _ _ _ rfl Ty.makeT_180 (n := 0) (m := 32) rfl rfl (by omega) (by omega) (by omega) ?_)
  refine sg_ ?_
  refine re_ ?_
  refine rg_ [0, 1, 5, 6] ?_
  refine sk_ fun K1 hK1 => ?_
  refine rs_ [0, 1, 5, 6, 14] ?_
  refine sg_ ?_
  refine dawp_w rfl rfl rfl rfl (AOp.rangeS _ _ rfl Ty.isStrT_9 (by (simp (disch := omega) only [push_cast, ↓reduceIte, Nat.reduceEqDiff, Nat.reduceAdd, Nat.reduceLeDiff, sx]) <;> rfl) ?_)
  refine re_ ?_
  refine awp_block ?_
  refine awp_loop' (X := {p : Nat × List AV // p.1 ≤ s.length ∧ 2 * (flSt s p.1).2.length + p.2.length = 64 ∧ AV.clL h.length p.2}) (fun x => ⟨Tryz.f130.ntmps, fget [(0, .str s), (1, .fn (.func 131) [] []), (5, .bsl h.length 0 2 true (flSt s x.1.1).2.length 32), (6, .int .i64 (flSt s x.1.1).1), (14, .ptr (h.length + 1) 0)], h ++ [.cells ((flSt s x.1.1).2.flatMap spC ++ x.1.2), .siter s x.1.1], live⟩) (fun x => s.length - x.1.1) (⟨⟨0, rep 32 [.int .i64 0, .int .i64 0]⟩, Nat.zero_le _, rfl, clL_rep ⟨trivial, trivial, trivial⟩⟩) ?_ (by first | rfl | (simp only [List.length_set]; done) | simp) (fun ⟨⟨i, r⟩, hi, hr, hrc⟩ => ?_)
  · try dsimp only
    exact tf_ (hB _ _ (by first | exact hrc | exact clL_rep ⟨trivial, trivial, trivial⟩ | exact clL_drop _ hrc | assumption)) (fun _ h => h) (hj := (by first | exact (List.append_nil _).symm | (rw [List.append_nil, hE, ← cat_app spC 2 spC_len _ _ _ (by have := hb_5 hb3; omega)]; simp only [spC, Int.toNat_of_nonneg hb3]; rfl) | rw [List.append_nil, hE]))
  try dsimp only
  dsimp only at hi hr hrc
  have hbd := flSt_bd s i
  obtain ⟨hb_1, hb_2, hb_3, hb_4, hb_5⟩ := hbd
  refine rs_ [0, 1, 5, 6, 14, 15, 16] ?_
  refine dawp_w rfl rfl rfl rfl (AOp.nextS _ rfl (by (simp (disch := omega) only [push_cast, ↓reduceIte, Nat.reduceEqDiff, Nat.reduceAdd, Nat.reduceLeDiff, sx]) <;> rfl) (by (simp (disch := omega) only [push_cast, ↓reduceIte, Nat.reduceEqDiff, Nat.reduceAdd, Nat.reduceLeDiff, sx]) <;> rfl) ?_)
  refine sg_ ?_
  refine re_ ?_
  refine sk_ fun K2 hK2 => ?_
  refine cb_ (ht := fun hb1 => ?_) (hf := fun hb1 => ?_)
  rotate_left
  · simp only [hb1, nextV_f, cond_false]
    simp only [decide_eq_true_eq, decide_eq_false_iff_not, Bool.not_eq_true', Bool.not_eq_false', Bool.or_eq_true, Bool.and_eq_true, Bool.or_eq_false_iff, Bool.and_eq_false_imp, Int.not_lt, Int.not_le] at hb1
    have hie : i = s.length := by omega
    subst hie
    refine awp_exit (up_ ?_)
    refine hK1 _ ?_
    refine awp_seq_m (X := {r : List AV // AV.clL h.length r}) (fun r => ⟨Tryz.f130.ntmps, fget [(0, .str s), (5, .bsl h.length 0 2 true (spansF s).length 32)], h ++ [.cells ((spansF s).flatMap spC ++ r.1), .siter s s.length], live⟩) ?_ (fun ⟨r, hrc⟩ => ?_)
    rotate_left
    · dsimp only
      have hget : ∀ j, j < (spansF s).length → ∀ g : List Blk, True := fun _ _ _ => trivial
      refine rs_ [0, 5, 9] ?_
      refine sg_ ?_
      refine dawp_w rfl rfl rfl rfl (AOp.makeSlice _ _ _ rfl Ty.makeT_66 (n := (spansF s).length) (m := (spansF s).length) (by (simp only [push_cast, ↓reduceIte, Nat.reduceEqDiff, Nat.reduceAdd, Nat.reduceLeDiff]) <;> rfl) (by (simp only [push_cast, ↓reduceIte, Nat.reduceEqDiff, Nat.reduceAdd, Nat.reduceLeDiff]) <;> rfl) (by omega) (by omega) (by omega) ?_)
      refine sg_ ?_
      refine re_ ?_
      refine sk_ fun K3 hK3 => ?_
      refine rg_ [0, 9, 47, 48, 49] ?_
      refine awp_block ?_
      refine awp_loop' (X := {j : Nat // j ≤ (spansF s).length}) (fun x => ⟨Tryz.f130.ntmps, fget [(0, .str s), (9, .bsl (h.length + 2) 0 1 false (spansF s).length (spansF s).length), (47, .bsl h.length 0 2 true (spansF s).length 32), (48, .int .i64 (spansF s).length), (49, .int .i64 (x.1 : Nat))], h ++ [.cells ((spansF s).flatMap spC ++ r), .siter s s.length, .cells (snC (namesF s) x.1)], live⟩) (fun x => (spansF s).length - x.1) (⟨0, Nat.zero_le _⟩) ?_ (by first | rfl | (simp only [List.length_set]; done) | simp) (fun ⟨j, hj⟩ => ?_)
      · try dsimp only
        exact tf_ (hB3 _ _ hrc) (fun _ h => h) (hj := (by first | (rw [hst0]; exact (List.append_nil _).symm) | (rw [← hset, List.append_assoc]; simp only [Nat.zero_add, Nat.mul_one]; rfl)))
      try dsimp only
      refine rg_ [0, 9, 47, 48, 49, 50] ?_
      refine sk_ fun K4 hK4 => ?_
      refine cd_ (ht := fun hb6 => ?_) (hf := fun hb6 => ?_)
      rotate_left
      · have hje : j = (spansF s).length := by omega
        subst hje
        refine awp_exit (up_ ?_)
        refine hK3 _ ?_
        refine rg_ [4] ?_
        refine awp_ret (up_ ?_)
        refine fu_ (h1 := h) Tryz.results130 (hx := (show AV.frz _ _ (atuple _) = AV.slice ((namesF s).map .str) .full from by rw [← hnl, snC_all]; exact names_frz (namesF s) h _ _)) (hcl := (by exact clL_str _ _)) (hK := ?_)
        exact ⟨rfl, rfl, rfl⟩
      have hjl : j < (spansF s).length := by omega
      have hsp := hnb.1 _ (List.getElem_mem hjl)
      have hgj : (spansF s)[j] = (spansF s).getD j (0, 0) := by rw [List.getD_eq_getElem?_getD, List.getElem?_eq_getElem hjl]; rfl
      rw [hgj] at hsp
      obtain ⟨hsp1, hsp2⟩ := hsp
      have hcg : List.take 2 (List.drop (0 + j * 2) (List.flatMap spC (spansF s) ++ r)) = spC ((spansF s).getD j (0, 0)) := by rw [Nat.zero_add]; exact cat_get spC 2 spC_len (0, 0) (spansF s) j r hjl
      have hset := snC_set (l := namesF s) (j := j) (by omega)
      rw [names_getD s hjl] at hset
      have hcl3 := cat_len spC 2 spC_len (spansF s)
      have hstl := snC_len (namesF s) (j := j) (by omega)
      have sx := And.intro hcg (And.intro hcl3 (And.intro hstl sx))
      refine awp_skip (up_ ?_)
      refine hK4 _ ?_
      refine sk_ fun K5 hK5 => ?_
      refine awp_block ?_
      refine rg_ [0, 9, 10, 11, 47, 48, 49] ?_
      refine rt_ [0, 9, 47, 48, 49] ?_
      refine sg_ ?_
      refine rn_ (up_ ?_)
      refine hK5 _ ?_
      refine rt_ [0, 9, 47, 48, 49] ?_
      refine sg_ ?_
      refine rn_ (up_ ?_)
      refine ⟨⟨j + 1, by omega⟩, ?_, (by first | rfl | trivial | (simp only [List.length_set]; done) | simp), by dsimp only; omega⟩
      try dsimp only
      exact tf_ (hB3 _ _ hrc) (fun _ h => h) (hj := (by first | (rw [hst0]; exact (List.append_nil _).symm) | (rw [← hset, List.append_assoc]; simp only [Nat.zero_add, Nat.mul_one]; rfl)))
    refine rg_ [0, 5, 6, 36] ?_
    refine cd_ (ht := fun hb5 => ?_) (hf := fun hb5 => ?_)
    · have hS : spansF s = _ := if_pos hb5
      have hSl : (spansF s).length = (flSt s s.length).2.length + 1 := by rw [hS, List.length_append, List.length_singleton]
      have h5 := hb_5 hb5
      have sx := And.intro hSl sx
      refine rt_ [0, 5] ?_
      refine sg_ ?_
      refine dawp_w rfl rfl rfl rfl (AOp.appendB _ _ _ rfl Ty.sliceSz_180 (by (simp (disch := omega) only [push_cast, ↓reduceIte, Nat.reduceEqDiff, Nat.reduceAdd, Nat.reduceLeDiff, sx]) <;> rfl) (by (simp (disch := omega) only [push_cast, ↓reduceIte, Nat.reduceEqDiff, Nat.reduceAdd, Nat.reduceLeDiff, sx]) <;> rfl) (by (simp (disch := omega) only [push_cast, ↓reduceIte, Nat.reduceEqDiff, Nat.reduceAdd, Nat.reduceLeDiff, sx]) <;> rfl) (fun y hy => by rw [List.mem_singleton.1 hy]; rfl) (by simp only [List.length_singleton]; omega) (by rw [List.length_append, cat_len spC 2 spC_len, List.length_singleton]; omega) ?_)
      refine sg_ ?_
      refine rn_ (up_ ?_)
      first
        | exact ⟨⟨r.drop 2, clL_drop _ hrc⟩, tf_ (hB2 _ (clL_drop _ hrc)) (fun _ h => h) (hj := by rw [List.append_nil, hS, ← cat_app spC 2 spC_len _ _ _ (by omega)]; simp only [spC, Int.toNat_of_nonneg hb5]; rfl), by simp⟩
        | exact ⟨⟨r, hrc⟩, tf_ (hB2 _ hrc) (fun _ h => h) (hj := by rw [List.append_nil, hS]), by simp⟩
    have hS : spansF s = _ := if_neg (fun e => absurd e (by omega))
    have sx := And.intro hS sx
    refine awp_skip (up_ ?_)
    first
      | exact ⟨⟨r.drop 2, clL_drop _ hrc⟩, tf_ (hB2 _ (clL_drop _ hrc)) (fun _ h => h) (hj := by rw [List.append_nil, hS, ← cat_app spC 2 spC_len _ _ _ (by omega)]; simp only [spC, Int.toNat_of_nonneg hb5]; rfl), by simp⟩
      | exact ⟨⟨r, hrc⟩, tf_ (hB2 _ hrc) (fun _ h => h) (hj := by rw [List.append_nil, hS]), by simp⟩
  simp only [hb1, nextV_t, cond_true]
  simp only [decide_eq_true_eq, decide_eq_false_iff_not, Bool.not_eq_true', Bool.not_eq_false', Bool.or_eq_true, Bool.and_eq_true, Bool.or_eq_false_iff, Bool.and_eq_false_imp, Int.not_lt, Int.not_le] at hb1
  have hil : i < s.length := by omega
  have hst := sl_step hil
  have hle := dec_le s i
  refine awp_skip (up_ ?_)
  refine hK2 _ ?_
  refine awp_block ?_
  refine rg_ [0, 1, 5, 6, 7, 8, 14] ?_
  refine rs_ [0, 1, 5, 6, 7, 14, 21] ?_
  refine sg_ ?_
  refine cl_ (hc := c131 _ _ _) (k := ?_)
  refine re_ ?_
  refine cd_ (ht := fun hb2 => ?_) (hf := fun hb2 => ?_)
  · have hsl := hst.1.1 hb2
    refine rg_ [0, 1, 5, 6, 7, 14, 23] ?_
    refine cd_ (ht := fun hb3 => ?_) (hf := fun hb3 => ?_)
    · have hE : flSt s (i + (dec s i).2) = (-(flSt s i).1 - 1, (flSt s i).2 ++ [((flSt s i).1.toNat, i)]) := by rw [flSt_next hil, flSt_slash hsl, if_pos (by omega)]
      have sx := And.intro hE sx
      refine rs_ [0, 1, 5, 6, 14] ?_
      refine sg_ ?_
      refine dawp_w rfl rfl rfl rfl (AOp.appendB _ _ _ rfl Ty.sliceSz_180 (by (simp (disch := omega) only [push_cast, ↓reduceIte, Nat.reduceEqDiff, Nat.reduceAdd, Nat.reduceLeDiff, sx]) <;> rfl) (by (simp (disch := omega) only [push_cast, ↓reduceIte, Nat.reduceEqDiff, Nat.reduceAdd, Nat.reduceLeDiff, sx]) <;> rfl) (by (simp (disch := omega) only [push_cast, ↓reduceIte, Nat.reduceEqDiff, Nat.reduceAdd, Nat.reduceLeDiff, sx]) <;> rfl) (fun y hy => by rw [List.mem_singleton.1 hy]; rfl) (by have := hb_5 hb3; simp only [List.length_singleton]; omega) (by rw [List.length_append, cat_len spC 2 spC_len, List.length_singleton]; omega) ?_)
      refine sg_ ?_
      refine re_ ?_
      refine rt_ [0, 1, 5, 6, 14] ?_
      refine dawp_p rfl (by (simp (disch := omega) only [push_cast, ↓reduceIte, Nat.reduceEqDiff, Nat.reduceAdd, Nat.reduceLeDiff, sx]) <;> rfl) rfl rfl ?_
      refine dawp_p (x := .int .i64 (-(flSt s i).1 - 1)) rfl (by (simp (disch := omega) only [push_cast, ↓reduceIte, Nat.reduceEqDiff, Nat.reduceAdd, Nat.reduceLeDiff, sx]); first | rfl | exact congrArg (fun z => some (AV.int .i64 z)) (i64_not _ ⟨by omega, by omega⟩)) rfl rfl ?_
      refine sg_ ?_
      refine rn_ (up_ ?_)
      refine ⟨⟨⟨i + (dec s i).2, r.drop 2⟩, hst.2.1, by dsimp only; rw [hE, List.length_append, List.length_drop, List.length_singleton]; omega, clL_drop _ hrc⟩, ?_, (by first | rfl | trivial | (simp only [List.length_set]; done) | simp), by have := (sl_step hil).2.2.1; have := (sl_step hil).2.1; dsimp only; omega⟩
      try dsimp only
      exact tf_ (hB _ _ (by first | exact hrc | exact clL_rep ⟨trivial, trivial, trivial⟩ | exact clL_drop _ hrc | assumption)) (fun _ h => h) (hj := (by first | exact (List.append_nil _).symm | (rw [List.append_nil, hE, ← cat_app spC 2 spC_len _ _ _ (by have := hb_5 hb3; omega)]; simp only [spC, Int.toNat_of_nonneg hb3]; rfl) | rw [List.append_nil, hE]))
    have hE : flSt s (i + (dec s i).2) = flSt s i := by rw [flSt_next hil, flSt_slash hsl, if_neg (by omega)]
    have sx := And.intro hE sx
    refine awp_skip (up_ ?_)
    refine ⟨⟨⟨i + (dec s i).2, r⟩, hst.2.1, by dsimp only; rw [hE]; exact hr, hrc⟩, ?_, (by first | rfl | trivial | (simp only [List.length_set]; done) | simp), by have := (sl_step hil).2.2.1; have := (sl_step hil).2.1; dsimp only; omega⟩
    try dsimp only
    exact tf_ (hB _ _ (by first | exact hrc | exact clL_rep ⟨trivial, trivial, trivial⟩ | exact clL_drop _ hrc | assumption)) (fun _ h => h) (hj := (by first | exact (List.append_nil _).symm | (rw [List.append_nil, hE, ← cat_app spC 2 spC_len _ _ _ (by have := hb_5 hb3; omega)]; simp only [spC, Int.toNat_of_nonneg hb3]; rfl) | rw [List.append_nil, hE]))
  have hne : s.getD i 0 ≠ 47 := fun e => hb2 (hst.1.2 e)
  refine rg_ [0, 1, 5, 6, 7, 14, 33] ?_
  refine cd_ (ht := fun hb4 => ?_) (hf := fun hb4 => ?_)
  · have hE : flSt s (i + (dec s i).2) = ((i : Int), (flSt s i).2) := by rw [flSt_next hil, flSt_no hne, if_pos (by omega)]
    have sx := And.intro hE sx
    refine rt_ [0, 1, 5, 6, 14] ?_
    refine sg_ ?_
    refine rn_ (up_ ?_)
    refine ⟨⟨⟨i + (dec s i).2, r⟩, hst.2.1, by dsimp only; rw [hE]; exact hr, hrc⟩, ?_, (by first | rfl | trivial | (simp only [List.length_set]; done) | simp), by have := (sl_step hil).2.2.1; have := (sl_step hil).2.1; dsimp only; omega⟩
    try dsimp only
    exact tf_ (hB _ _ (by first | exact hrc | exact clL_rep ⟨trivial, trivial, trivial⟩ | exact clL_drop _ hrc | assumption)) (fun _ h => h) (hj := (by first | exact (List.append_nil _).symm | (rw [List.append_nil, hE, ← cat_app spC 2 spC_len _ _ _ (by have := hb_5 hb3; omega)]; simp only [spC, Int.toNat_of_nonneg hb3]; rfl) | rw [List.append_nil, hE]))
  have hE : flSt s (i + (dec s i).2) = flSt s i := by rw [flSt_next hil, flSt_no hne, if_neg (by omega)]
  have sx := And.intro hE sx
  refine awp_skip (up_ ?_)
  refine ⟨⟨⟨i + (dec s i).2, r⟩, hst.2.1, by dsimp only; rw [hE]; exact hr, hrc⟩, ?_, (by first | rfl | trivial | (simp only [List.length_set]; done) | simp), by have := (sl_step hil).2.2.1; have := (sl_step hil).2.1; dsimp only; omega⟩
  try dsimp only
  exact tf_ (hB _ _ (by first | exact hrc | exact clL_rep ⟨trivial, trivial, trivial⟩ | exact clL_drop _ hrc | assumption)) (fun _ h => h) (hj := (by first | exact (List.append_nil _).symm | (rw [List.append_nil, hE, ← cat_app spC 2 spC_len _ _ _ (by have := hb_5 hb3; omega)]; simp only [spC, Int.toNat_of_nonneg hb3]; rfl) | rw [List.append_nil, hE]))

end Go.Proofs.YtjoklidphbmpoaaGreat
