import Derived.Test.YtjoklidphbmpoaaGreatAb18
import Derived.Scope
/-
  THE FRAMEWORK, 19: a scope through which the run goes without a goto; an append to nothing.
-/
namespace Go.Ab
set_option linter.unusedVariables false
set_option linter.unusedSimpArgs false
open Go.RowKit

def scopeQ (Q : Exit → AS → Prop) : Exit → AS → Prop
  | .goto _, _ => False
  | e, S => Q e S
theorem scopeQ_n (Q : Exit → AS → Prop) (S : AS) : scopeQ Q .normal S = Q .normal S := rfl
theorem scopeQ_r (Q : Exit → AS → Prop) (S : AS) : scopeQ Q .ret S = Q .ret S := rfl
theorem scopeQ_e (Q : Exit → AS → Prop) (k : Nat) (S : AS) : scopeQ Q (.exit k) S = Q (.exit k) S := rfl
attribute [push_cast] scopeQ_n scopeQ_r scopeQ_e
theorem awp_scope {P : Program} {Q : Exit → AS → Prop} {S : AS} {c : Code} (h : AwpC P c (scopeQ Q) S) : AwpC P (.scope c) Q S := by
  intro w G a hs
  refine wp_scope_straight (wp_mono (h w G a hs) fun e a' w' q => ?_)
  obtain ⟨G', S', q, hs', ev⟩ := q
  cases e with
  | goto l => exact q.elim
  | _ => exact ⟨G', S', q, hs', ev⟩

section
variable {P : Program} {fr : Nat → AV} {h : List Blk} {live : List Nat} {o : Oper} {K : KT}
theorem HRel.drewn {w : World} {G : Gh} (hh : HRel w G h live) : HRel w.drew G h live ∧ Evo w G live w.drew G live := by
  have e : Go.Sort.grow (w.drewN 1) #[] = w.drew := by
    cases w
    simp [Go.Sort.grow, World.drewN, World.drew]
  have := hh.grown 1 #[]
  rw [e] at this
  exact this

/-- An append to nothing lays a block of its own. -/
theorem AOp.appendM (s x : Operand) (t : TypeId) (ho : o.op = .call { callee := .builtin .append, args := #[s, x], argTypes := #[t, t] }) {sz by_ : Nat} {z : List AV} {ag : Bool} (ht : makeT P t = some (sz, by_, z, ag))
    (hs : ev fr s = .slice [] .full) {m : List AV} {c2 : Cap} (hx : ev fr x = .slice m c2) (hm0 : 0 < m.length) (hm : ∀ y ∈ m, y.cells.length = sz) (hbytes : m.length * by_ ≤ 140737488355328) (hmx : m.length ≤ 140737488355328)
    (hK : ∀ cap n, K (.bsl h.length 0 sz ag m.length cap) (h ++ [.cells (flat m ++ rep n z)]) live) : AOp P fr h live o K := by
  obtain ⟨dst, op, ty, pos, after, guard⟩ := o
  simp only at ho; subst ho
  intro w G ρ hρ hr hh
  obtain ⟨e, i, zv, he, hi, rfl, rfl, hpos, hzl, hz, hzc, hag⟩ := makeT_sound ht
  have hrs := hr s (by simp [Op.operands, Call.operands])
  have hrx := hr x (by simp [Op.operands, Call.operands])
  rw [hs] at hrs; rw [hx] at hrx
  generalize hu : ρ s = u at hrs
  generalize hv : ρ x = v at hrx
  obtain ⟨i', zz, hi', hiz, hzr, hrep, hrepl⟩ := azero_sound (w := w) (G := G) hz
  rw [hi] at hi'; cases hi'
  rw [hzc] at hrepl
  obtain ⟨base, cap', news, hvv, _, hrl, hfc, hb⟩ := slice_cells (P := P) hrx hm (n := m.length) (Nat.le_refl _)
  rw [List.take_of_length_le (Nat.le_refl _)] at hrl
  have hlen : (flat m).length = m.length * i.size := flat_length hm
  cases hrx with
  | nilSlice => simp at hm0
  | emptySlice => simp at hm0
  | slice _ _ b2 o2 cap2 sz2 g hcap2 hmax2 hsz2 himm2 hcell2 hone2 hrep2 hcc2 =>
    have e2 : sz2 = i.size := by
      rw [← hsz2 0 hm0]
      exact hm _ (by rw [List.getD_eq_getElem?_getD, List.getElem?_eq_getElem hm0]; exact List.getElem_mem hm0)
    subst e2
    have hnews := flatV_cells hcell2
    have hnl := flatV_length i.size m.length g
    have hnn : news = flatV i.size m.length g := by
      have h1 := run_firstCells_some (P := P) w i.size m.length ⟨b2, o2, none⟩ m.length cap2 _ hnl hnews
      rw [h1] at hfc
      simp only [Result.ok.injEq] at hfc
      have := congrArg Array.toList hfc.1
      simpa using this.symm
    have fin : ∀ k, Post w G live K (.slice (some ⟨w.heap.size, 0, none⟩) m.length k) (w.drew.alloc (.cells (news.toArray ++ Builtin.zeroCells zz.cells (k - m.length)) e)) → Post w G live K (.slice (some ⟨w.heap.size, 0, none⟩) m.length k) (w.drew.alloc (.cells (news.toArray ++ Builtin.zeroCells zz.cells (k - m.length)) e)) := fun _ h => h
    have grow : ∀ k, m.length ≤ k → k ≤ maxLen → Post w G live K (.slice (some ⟨w.heap.size, 0, none⟩) m.length k) (w.drew.alloc (.cells (news.toArray ++ Builtin.zeroCells zz.cells (k - m.length)) e)) := by
      intro k hk1 hk2
      obtain ⟨hd, hed⟩ := hh.drewn
      have hzs : zz.cells.size = z.length := by have := hrepl.1; simpa using this
      have hrz : RepL w G (rep (k - m.length) z) (madeCells zz.cells ((k - m.length) * z.length)).toList := madeCells_rep hrepl (by omega) (k - m.length)
      have hall : RepL w.drew G (flat m ++ rep (k - m.length) z) (news ++ (madeCells zz.cells ((k - m.length) * z.length)).toList) := by
        refine ⟨by rw [List.length_append, List.length_append, hrl.1, hrz.1], fun q hq => ?_⟩
        rw [getD_append', getD_append', hrl.1]
        split
        · rename_i hq1
          have := hrl.2 q hq1
          exact ⟨this.1, hed.rep this.2⟩
        · rename_i hq1
          have := hrz.2 (q - (flat m).length) (by rw [List.length_append] at hq; omega)
          exact ⟨this.1, hed.rep this.2⟩
      obtain ⟨G', hh', hev, hn, hbk⟩ := hd.push (flat m ++ rep (k - m.length) z) _ e hall
      have ec : news.toArray ++ Builtin.zeroCells zz.cells (k - m.length) = (news ++ (madeCells zz.cells ((k - m.length) * z.length)).toList).toArray := by
        rw [← hzs]
        simp [Builtin.zeroCells, madeCells]
      rw [ec]
      refine ⟨_, _, _, G', hK k (k - m.length), ?_, hh', hed.trans hev⟩
      have := Rep.bsl (w := w.drew.alloc (.cells (news ++ (madeCells zz.cells ((k - m.length) * z.length)).toList).toArray e)) (G := G') h.length 0 i.size ag m.length k (by rw [hn, hh.len]; exact Nat.lt_succ_self _) hk1 hk2
      rw [hh.len, hbk] at this
      rw [hh.len]
      exact this
    have hrun : ∀ (z' : Value) (w' : World), (Builtin.append_ #[t, t] ty #[u, .slice (some ⟨b2, o2, none⟩) m.length cap2]).run P w = .ok z' w' → (execOp ρ ⟨dst, .call { callee := .builtin .append, args := #[s, x], argTypes := #[t, t] }, ty, pos, after, guard⟩).run P w = .ok (.value z') w' := fun z' w' hz' => by
      simp [execOp, resolve, invoke, builtin, hu, hv, hz']
    have h63 : m.length ≤ maxLen := by unfold maxLen; omega
    cases hrs with
    | nilSlice =>
      have hr' := run_append_nil (P := P) w t ty e i zz he hi hiz ⟨b2, o2, none⟩ m.length cap2 _ hnl hnews hm0 (by omega) (by omega)
      rw [hrun _ _ hr', ← hnn]
      exact grow _ (by have := grownCap_ge w m.length 0 e; exact this) (grownCap_le_maxLen w m.length 0 e h63)
    | emptySlice a0 _ _ =>
      have hr' := run_append_grow (P := P) w t ty e i zz he hi hiz a0 0 0 [] (by simp) (by simp) ⟨b2, o2, none⟩ m.length cap2 _ hnl hnews (by omega) (by omega) (growslice_fits (by omega) (by simpa using hbytes))
      rw [hrun _ _ hr', ← hnn]
      simp only [Nat.zero_add]
      rw [Array.empty_append]
      exact grow _ (by have := grownCap_ge w m.length 0 e; exact this) (grownCap_le_maxLen w m.length 0 e h63)
    | slice _ _ b o cap sz f hcap hmax hsz' himm hcell hone hrep' hcc =>
      have hc0 : cap = 0 := by simpa [CapRep] using hcc
      subst hc0
      have hr' := run_append_grow (P := P) w t ty e i zz he hi hiz ⟨b, o, none⟩ 0 0 [] (by simp) (by simp) ⟨b2, o2, none⟩ m.length cap2 _ hnl hnews (by omega) (by omega) (growslice_fits (by omega) (by simpa using hbytes))
      simp only [List.length_nil] at hrun ⊢
      rw [hrun _ _ hr', ← hnn]
      simp only [Nat.zero_add]
      rw [Array.empty_append]
      exact grow _ (by have := grownCap_ge w m.length 0 e; exact this) (grownCap_le_maxLen w m.length 0 e h63)
end
end Go.Ab
