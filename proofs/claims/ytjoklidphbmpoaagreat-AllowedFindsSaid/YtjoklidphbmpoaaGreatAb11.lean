import Derived.Test.YtjoklidphbmpoaaGreatAb10
import Derived.ProofKit
import Derived.Deep.Slices
/-
  THE FRAMEWORK, 11: what an argument stands for; from a walk to a row 'it returns true, and its input reads as it did'.
-/
namespace Go.Ab
set_option linter.unusedVariables false
set_option linter.unusedSimpArgs false
open Go.RowKit Go.ChangeShapes Go.WideShapes Go.Deep

/-- Before a call: no block is its own, and what is there doesn't turn. -/
def G00 (W : World) : Gh := ⟨0, fun _ => 0, fun b _ => b < W.heap.size, []⟩

theorem hrel0 (W : World) : HRel W (G00 W) [] [] where
  len := rfl
  blk := fun k x h => by simp at h
  blk_lt := fun k h => absurd h (Nat.not_lt_zero _)
  inj := fun j k h => absurd h (Nat.not_lt_zero _)
  imm_lt := fun b o h => h
  imm_blk := fun b o k _ h => absurd h (Nat.not_lt_zero _)
  tok := fun t h => by simp at h
  tok_ne := fun t u d e h => by simp at h

theorem below_of {W w' : World} {G' : Gh} {live' : List Nat} (h : Evo W (G00 W) [] w' G' live') : Below W.heap.size W w' :=
  ⟨h.os, h.tape, h.output, h.size, fun k hk => h.other k hk (by
    rintro (⟨j, hj, _⟩ | ⟨t, d, ht, _⟩)
    · exact absurd hj (Nat.not_lt_zero _)
    · simp at ht)⟩

/-- Values one behind the other, each of its field's type. -/
def TVs (tv : TypeId → AV → Prop) : List Field → List AV → Prop
  | [], [] => True
  | f :: fs, y :: ys => tv f.type y ∧ TVs tv fs ys
  | _, _ => False

/-- A value of a type, without addresses but those of slices. -/
def TV (P : Program) : Nat → TypeId → AV → Prop
  | 0, _, _ => False
  | d + 1, t, x => match P.underlying t with
    | some .bool => ∃ b, x = .bool b
    | some (.int k) => ∃ n, x = .int k n ∧ k.min ≤ n ∧ n ≤ k.max
    | some .string => ∃ l, x = .str l ∧ l.length ≤ maxLen
    | some (.slice e) => ∃ l, x = .slice l .none ∧ l.length ≤ maxLen ∧ ∀ y ∈ l, TV P d e y
    | some (.struct fs) => ∃ ys, x = .agg (ys.flatMap AV.cells) ∧ TVs (TV P d) fs.toList ys
    | _ => False

def tiles (P : Program) : List Field → Nat → Nat → Bool
  | [], off, n => off == n
  | f :: fs, off, n => f.offset == off && tiles P fs (off + P.cellsOf f.type) n

def sup (P : Program) : Nat → TypeId → Bool
  | 0, _ => false
  | d + 1, t => match P.underlying t with
    | some .bool | some (.int _) | some .string => P.cellsOf t == 1
    | some (.slice e) => P.cellsOf t == 1 && sup P d e && decide (0 < P.cellsOf e)
    | some (.struct fs) => tiles P fs.toList 0 (P.cellsOf t) && fs.toList.all fun f => sup P d f.type
    | _ => false

theorem RepL.app {w : World} {G : Gh} {a b : List AV} {us vs : List Value} (h : RepL w G a us) (k : RepL w G b vs) : RepL w G (a ++ b) (us ++ vs) := by
  refine ⟨by simp [h.1, k.1], fun i hi => ?_⟩
  rw [getD_append', getD_append', h.1]
  by_cases hl : i < a.length
  · rw [if_pos hl, if_pos hl]; exact h.2 i hl
  · rw [if_neg hl, if_neg hl]; exact k.2 _ (by simp at hi; omega)

theorem RepL.one {w : World} {G : Gh} {x : AV} {v : Value} (ho : v.oneCell' = true) (h : Rep w G x v) : RepL w G [x] [v] :=
  ⟨rfl, fun i hi => by
    have : i = 0 := by simpa using hi
    subst this; exact ⟨ho, h⟩⟩

section
variable {H : Type} {enc : TypeId × Value → H} {P : Program} {W : World} {held : Bool}

theorem fields_rep {d fuel : Nat} {cs : List Value} {N : Nat} (ih : ∀ t cs x, sup P d t = true → DataW.trod enc P W 0 (fun _ => true) held fuel t cs = some x → ∃ y, TV P d t y ∧ y.cells.length = P.cellsOf t ∧ RepL W (G00 W) y.cells cs) :
    ∀ (fs : List Field) (off : Nat), tiles P fs off N = true → cs.length = N → (∀ f ∈ fs, sup P d f.type = true ∧ ∃ x, DataW.trod enc P W 0 (fun _ => true) held fuel f.type ((cs.drop f.offset).take (P.cellsOf f.type)) = some x) →
      ∃ ys, TVs (TV P d) fs ys ∧ RepL W (G00 W) (ys.flatMap AV.cells) (cs.drop off) := by
  intro fs
  induction fs with
  | nil =>
    intro off ht hl _
    have : off = N := by simpa [tiles] using ht
    subst this
    refine ⟨[], trivial, ?_⟩
    rw [List.drop_of_length_le (by omega)]
    exact ⟨rfl, fun i hi => by simp at hi⟩
  | cons f fs ihf =>
    intro off ht hl hall
    simp only [tiles, Bool.and_eq_true, beq_iff_eq] at ht
    obtain ⟨hs, x, hx⟩ := hall f (by simp)
    rw [ht.1] at hx
    obtain ⟨y, hy, hyl, hyr⟩ := ih _ _ _ hs hx
    obtain ⟨ys, hys, hyr2⟩ := ihf _ ht.2 hl (fun g hg => hall g (by simp [hg]))
    refine ⟨y :: ys, ⟨hy, hys⟩, ?_⟩
    rw [List.flatMap_cons, ← List.take_append_drop (P.cellsOf f.type) (cs.drop off), List.drop_drop]
    exact hyr.app hyr2

theorem trod_rep : ∀ (d : Nat) (fuel : Nat) (t : TypeId) (cs : List Value) (x : DataW H × List MemPlace), sup P d t = true → DataW.trod enc P W 0 (fun _ => true) held fuel t cs = some x →
    ∃ y, TV P d t y ∧ y.cells.length = P.cellsOf t ∧ RepL W (G00 W) y.cells cs := by
  intro d
  induction d with
  | zero => intro fuel t cs x h; simp [sup] at h
  | succ d ih =>
    intro fuel t cs x hsup h
    unfold sup at hsup
    split at hsup
    · rename_i hu
      obtain ⟨b, rfl, rfl⟩ := DataW.trod_bool hu h
      exact ⟨.bool b, by unfold TV; rw [hu]; exact ⟨b, rfl⟩, (beq_iff_eq.1 hsup).symm, .one rfl (.bool b)⟩
    · rename_i k hu
      obtain ⟨n, rfl, rfl, hw⟩ := DataW.trod_int hu h
      exact ⟨.int k n, by unfold TV; rw [hu]; exact ⟨n, rfl, by simpa [Lit.wf] using hw⟩, (beq_iff_eq.1 hsup).symm, .one rfl (.int k n)⟩
    · rename_i hu
      obtain ⟨s, rfl, rfl, hw⟩ := DataW.trod_string hu h
      exact ⟨.str s.data.toList, by unfold TV; rw [hu]; exact ⟨_, rfl, by rw [Array.length_toList]; exact hw⟩, (beq_iff_eq.1 hsup).symm, .one rfl (.str _)⟩
    · rename_i e hu
      simp only [Bool.and_eq_true, beq_iff_eq, decide_eq_true_eq] at hsup
      obtain ⟨⟨hc1, hse⟩, hpos⟩ := hsup
      rcases open_slice hu h with ⟨rfl, _⟩ | ⟨a, len, cap, m, n, D, Pl, rfl, _, hlen, hcap, hm, _, hall⟩
      · exact ⟨.slice [] .none, by unfold TV; rw [hu]; exact ⟨[], rfl, by simp, by simp⟩, by simp [AV.cells, hc1], .one rfl (.nilSlice _ rfl)⟩
      · simp only [if_true] at hm
        subst m
        have each : ∀ i, i < len → ∃ p : AV × List Value, TV P d e p.1 ∧ p.1.cells.length = P.cellsOf e ∧ RepL W (G00 W) p.1.cells p.2 ∧ W.cells? 0 (a.add (i * P.cellsOf e)) (P.cellsOf e) = some p.2 := fun i hi => by
          obtain ⟨cs', h1, h2⟩ := hall i (by omega)
          obtain ⟨y, h3, h4, h5⟩ := ih _ _ _ _ hse h2
          exact ⟨(y, cs'), h3, h4, h5, h1⟩
        have : Inhabited (AV × List Value) := ⟨(.undef, [])⟩
        obtain ⟨Y, hY⟩ := choose_lt each
        by_cases h0 : cap = 0
        · subst h0
          have : len = 0 := by omega
          subst this
          exact ⟨.slice [] .none, by unfold TV; rw [hu]; exact ⟨[], rfl, by simp, by simp⟩, by simp [AV.cells, hc1], .one rfl (.emptySlice _ _ rfl)⟩
        · have hspot : a.spot = none := by
            obtain ⟨cs', h1, _⟩ := hall 0 (by omega)
            obtain ⟨_, h3, h4⟩ := World.cells?_some h1
            have := h4 0 hpos
            have hz : (a.add (0 * P.cellsOf e)).add 0 = a := by simp [Addr.add]
            rw [hz] at this
            rw [List.getElem?_eq_getElem (by omega)] at this
            unfold World.cell? at this
            split at this
            · split at this
              · simp at this
              · rename_i hsp; simpa using hsp
            · simp at this
          obtain ⟨b, o, sp⟩ := a
          simp only at hspot
          subst hspot
          have hg : ∀ i, i < len → ((List.range len).map fun i => (Y i).1).getD i .undef = (Y i).1 := fun i hi => by simp [List.getD_eq_getElem?_getD, hi]
          have hcell : ∀ i j, i < len → j < P.cellsOf e → W.cell? ⟨b, o + (i * P.cellsOf e + j), none⟩ = some ((Y i).2.getD j undef) := fun i j hi hj => by
            obtain ⟨_, h3, h4⟩ := World.cells?_some (hY i hi).2.2.2
            have := h4 j hj
            rw [add_add] at this
            have e1 : (⟨b, o, none⟩ : Addr).add (i * P.cellsOf e + j) = ⟨b, o + (i * P.cellsOf e + j), none⟩ := by
              unfold Addr.add; split <;> simp_all
            rw [e1] at this
            rw [this, List.getD_eq_getElem?_getD, List.getElem?_eq_getElem (by omega)]
            rfl
          refine ⟨.slice ((List.range len).map fun i => (Y i).1) .none, ?_, by simp [AV.cells, hc1], .one rfl ?_⟩
          · unfold TV; rw [hu]
            refine ⟨_, rfl, by simp; omega, fun y hy => ?_⟩
            obtain ⟨i, hi, rfl⟩ := List.mem_map.1 hy
            exact (hY i (List.mem_range.1 hi)).1
          · have key := Rep.slice (w := W) (G := G00 W) ((List.range len).map fun i => (Y i).1) .none b o cap (P.cellsOf e) (fun i j => (Y i).2.getD j undef) (by simpa using hlen) hcap
              (fun i hi => by have hi' : i < len := by simpa using hi
                              rw [hg i hi']; exact (hY i hi').2.1)
              (fun i j hi hj => by
                have := hcell i j (by simpa using hi) hj
                show b < W.heap.size
                unfold World.cell? at this
                cases hb : W.heap[b]? with
                | none => simp [hb] at this
                | some o' => exact (Array.getElem?_eq_some_iff.1 hb).1)
              (fun i j hi hj => hcell i j (by simpa using hi) hj)
              (fun i j hi hj => by
                have hi' : i < len := by simpa using hi
                exact ((hY i hi').2.2.1.2 j (by rw [(hY i hi').2.1]; exact hj)).1)
              (fun i j hi hj => by
                have hi' : i < len := by simpa using hi
                rw [hg i hi']
                exact ((hY i hi').2.2.1.2 j (by rw [(hY i hi').2.1]; exact hj)).2) trivial
            simpa using key
    · rename_i fs hu
      simp only [Bool.and_eq_true] at hsup
      obtain ⟨xs, n, rfl, _, hcl, hxl, hall⟩ := DataW.trod_struct hu h
      obtain ⟨ys, h1, h2⟩ := fields_rep (enc := enc) (P := P) (W := W) (held := held) (d := d) (fuel := n) (cs := cs) (fun t cs x hs hx => ih n t cs x hs hx) fs.toList 0 hsup.1 hcl (fun f hf => by
        refine ⟨List.all_eq_true.1 hsup.2 f hf, ?_⟩
        obtain ⟨i, hi, e⟩ := List.mem_iff_getElem.1 hf
        have hfi : fs[i]? = some f := by
          rw [← e]; simp at hi; simp [hi]
        rw [hall i f hfi]
        have hi' : i < xs.length := by rw [hxl]; simpa using hi
        exact ⟨_, List.getElem?_eq_getElem hi'⟩)
      rw [List.drop_zero] at h2
      refine ⟨.agg (ys.flatMap AV.cells), ?_, ?_, h2⟩
      · unfold TV; rw [hu]; exact ⟨ys, rfl, h1⟩
      · show (ys.flatMap AV.cells).length = _
        rw [← h2.1, hcl]
    · simp at hsup

end
end Go.Ab
