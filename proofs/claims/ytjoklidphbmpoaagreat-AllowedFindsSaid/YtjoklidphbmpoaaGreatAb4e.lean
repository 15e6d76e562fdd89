import Derived.Test.YtjoklidphbmpoaaGreatAb4s
import Derived.Laws.StructEq
/-
  THE FRAMEWORK, 4e: '==' at a type: of structs, of pointers and the like with nil.
-/
namespace Go.Ab
set_option linter.unusedVariables false
set_option linter.unusedSimpArgs false
open Go.RowKit

theorem eqGuard_not {P : Program} {w : World} {op : BinOp} (ho : op ≠ .eql) (ho' : op ≠ .neq) (t : TypeId) (x y : Operand) (u v : Value) : (eqGuard op t x y u v).run P w = .ok () w := by
  cases op <;> first | rfl | exact absurd rfl ho | exact absurd rfl ho'

theorem aeqP_sound {P : Program} {w : World} {G : Gh} : ∀ (d : Nat) (t : TypeId) (p : EqP), eqPlan P d t = some p → ∀ (D : Nat), d ≤ D → ∀ (x y : AV) (u v : Value) (b : Bool), Rep w G x u → Rep w G y v → aeqP p x y = some b →
    (Op.equalIn D t u v).run P w = .ok b w := by
  intro d
  induction d with
  | zero => intro t p h; simp [eqPlan] at h
  | succ d ih =>
    intro t p hp D hD x y u v b hx hy hb
    obtain ⟨D, rfl⟩ : ∃ D', D = D' + 1 := ⟨D - 1, by omega⟩
    have hD' : d ≤ D := by omega
    unfold eqPlan at hp
    split at hp
    · rename_i k hu
      cases hp
      cases x <;> cases y <;> simp only [aeqP] at hb <;> first
        | (simp at hb; done)
        | (split at hb
           · rename_i hkk; subst hkk
             cases hx; cases hy; cases hb
             rw [run_equalIn_int w D t _ _ _ _ hu]
             congr 1
           · simp at hb)
    · rename_i hu
      cases hp
      cases x <;> cases y <;> simp only [aeqP] at hb <;> first
        | (simp at hb; done)
        | (cases hx; cases hy; cases hb
           rw [run_equalIn_string w D t _ _ hu]
           congr 1
           rw [ByteArray.toList_eq, ByteArray.toList_eq]
           exact beq_dec _ _)
    · rename_i hu
      cases hp
      cases x <;> cases y <;> simp only [aeqP] at hb <;> first
        | (simp at hb; done)
        | (cases hx; cases hy; cases hb
           exact run_equalIn_bool' w D t _ _ hu)
    · rename_i e hu
      cases hp
      unfold aeqP at hb
      split at hb <;> first
        | contradiction
        | (simp at hb; done)
        | (cases hb; cases hx; cases hy; simp [Op.equalIn, run_underlying hu]; done)
        | skip
    · rename_i ms hu
      cases hp
      unfold aeqP at hb
      split at hb <;> first
        | contradiction
        | (simp at hb; done)
        | (cases hb; cases hx; cases hy; simp [Op.equalIn, run_underlying hu]; done)
        | skip
    · rename_i hu
      cases hp
      unfold aeqP at hb
      split at hb <;> first
        | contradiction
        | (simp at hb; done)
        | (cases hb; cases hx; cases hy; simp [Op.equalIn, run_underlying hu]; done)
        | skip
    · rename_i hu
      cases hp
      unfold aeqP at hb
      split at hb <;> first
        | contradiction
        | (simp at hb; done)
        | (cases hb; cases hx; cases hy; simp [Op.equalIn, run_underlying hu]; done)
        | skip
    · rename_i fs hu
      split at hp
      · simp at hp
      · rename_i hst
        have hst : P.stoodInHeld t = false := by simpa using hst
        cases hpl : planFs (eqPlan P d) P fs.toList with
        | none => rw [hpl] at hp; simp at hp
        | some q =>
          rw [hpl] at hp
          cases hp
          cases x <;> cases y <;> simp only [aeqP] at hb <;> first
            | (simp at hb; done)
            | skip
          rename_i cs ds
          obtain ⟨vs, rfl, hvl, hvo, hvr⟩ : ∃ vs : List Value, u = .agg vs.toArray ∧ vs.length = cs.length ∧ (∀ i, i < cs.length → (vs.getD i undef).oneCell' = true) ∧ ∀ i, i < cs.length → Rep w G (cs.getD i .undef) (vs.getD i undef) := by
            cases hx with | agg _ vs hl ho hr => exact ⟨vs, rfl, hl, ho, hr⟩
          obtain ⟨us, rfl, hul, huo, hur⟩ : ∃ vs : List Value, v = .agg vs.toArray ∧ vs.length = ds.length ∧ (∀ i, i < ds.length → (vs.getD i undef).oneCell' = true) ∧ ∀ i, i < ds.length → Rep w G (ds.getD i .undef) (vs.getD i undef) := by
            cases hy with | agg _ vs hl ho hr => exact ⟨vs, rfl, hl, ho, hr⟩
          have hf : P.fieldsOf t = fs := by simp [Program.fieldsOf, hu]
          rw [run_equalIn_struct (P := P) w D t _ _ (by rw [hf]; exact hu) hst, hf]
          generalize fs.toList = l at hpl
          clear hf hu
          induction l generalizing q b with
          | nil =>
            simp [planFs] at hpl; subst hpl
            simp [aeqPs] at hb; subst hb
            simp [Op.eqFields]
          | cons f l ih2 =>
            unfold planFs at hpl
            unfold Op.eqFields
            split at hpl
            · rename_i hn
              rw [if_neg (by simpa using hn)]
              exact ih2 _ _ hb hpl
            · rename_i hn
              rw [if_pos (by simpa using hn)]
              split at hpl
              · rename_i k p r hk hp hr
                cases hpl
                simp only [aeqPs] at hb
                split at hb
                · rename_i a c ha hc
                  split at hb
                  · rename_i r1 r2 hr1 hr2
                    cases hb
                    obtain ⟨z1, hz1, hx1⟩ := part_sound (P := P) hk hvl hvo hvr ha
                    obtain ⟨z2, hz2, hx2⟩ := part_sound (P := P) hk hul huo hur hc
                    simp only [Sem.run_bind, hz1, hz2, Result.andThen_ok, ih _ _ hp D hD' _ _ _ _ _ hx1 hx2 hr1]
                    cases r1 with
                    | false => simp
                    | true =>
                      simpa using ih2 _ _ hr2 hr
                  · simp at hb
                · simp at hb
              · simp at hpl
    · simp at hp

theorem eqTop_plan {P : Program} {t : TypeId} {p : EqP} (h : eqTop P t = some p) : eqPlan P 8 t = some p ∧ ∀ fs, p = .strukt fs → P.eqGuardType P.depth t = false := by
  unfold eqTop at h
  split at h
  · rename_i fs hf
    split at h
    · simp at h
    · rename_i hg
      cases h
      exact ⟨hf, fun _ _ => by simpa using hg⟩
  · rename_i hne
    exact ⟨h, fun fs e => by subst e; exact absurd h (hne fs)⟩

theorem aeqKey {P : Program} {w : World} {G : Gh} {t : TypeId} {x y : Operand} {a b : AV} {u v : Value} (ha : Rep w G a u) (hb : Rep w G b v) (hi : ∀ k n, a ≠ .int k n) (hs : ∀ l, a ≠ .str l)
    {p : EqP} (hp : eqTop P t = some p) {q : Bool} (hq : aeqT (isC x || isC y) p a b = some q) :
    (∀ op, (eqGuard op t x y u v).run P w = .ok () w) ∧ (Op.equal t u v).run P w = .ok q w ∧ binOp .eql t u v = (do pure (.bool (← Op.equal t u v)) : Sem Value) ∧ binOp .neq t u v = (do pure (.bool (!(← Op.equal t u v))) : Sem Value) := by
  obtain ⟨hp1, hp2⟩ := eqTop_plan hp
  unfold aeqT at hq
  split at hq
  · split at hq
    · rename_i hc
      cases hq; cases ha; cases hb
      have hu : ∃ ms, P.underlying t = some (.interface ms) := by
        unfold eqPlan at hp1
        split at hp1 <;> first
          | (rename_i h; exact ⟨_, h⟩)
          | (simp at hp1; done)
          | (split at hp1
             · simp at hp1
             · rename_i fs _ _; cases h : planFs (eqPlan P 7) P fs.toList <;> rw [h] at hp1 <;> simp at hp1)
      obtain ⟨ms, hu⟩ := hu
      refine ⟨fun op => ?_, ?_, rfl, rfl⟩
      · have hc' : isC x = true ∨ isC y = true := by simpa using hc
        cases op <;> first
          | rfl
          | (rcases hc' with h | h
             · cases x <;> simp [isC] at h
               simp [eqGuard]
             · cases y <;> simp [isC] at h
               simp [eqGuard])
      · show (Op.equalIn (9999 + 1) t .nilIface .nilIface).run P w = _
        generalize 9999 = d
        simp [Op.equalIn, run_underlying hu]
    · simp at hq
  · have h2 : (Op.equal t u v).run P w = .ok q w := aeqP_sound 8 t p hp1 10000 (by omega) a b u v q ha hb hq
    refine ⟨?_, h2, ?_⟩
    · unfold aeqP at hq
      split at hq <;> first
        | (simp at hq; done)
        | (exact absurd rfl (hi _ _))
        | (exact absurd rfl (hs _))
        | skip
      all_goals first
        | (cases ha; cases hb; intro op; cases op <;> rfl)
        | skip
      · cases ha; cases hb
        intro op
        exact run_eqGuard_agg w op t x y _ _ (hp2 _ rfl)
    · unfold aeqP at hq
      split at hq <;> first
        | (simp at hq; done)
        | (exact absurd rfl (hi _ _))
        | (exact absurd rfl (hs _))
        | (cases ha; cases hb; exact ⟨rfl, rfl⟩)

theorem aeqOp_sound {P : Program} {w : World} {G : Gh} {op : BinOp} {t : TypeId} {x y : Operand} {a b : AV} {u v : Value} (ha : Rep w G a u) (hb : Rep w G b v) (hi : ∀ k n, a ≠ .int k n) (hs : ∀ l, a ≠ .str l) {r : AV} (hr : aeqOp P op t (isC x || isC y) a b = some r) :
    ∃ z, (do eqGuard op t x y u v; binOp op t u v : Sem Value).run P w = .ok z w ∧ Rep w G r z := by
  unfold aeqOp at hr
  split at hr
  · rename_i p hp
    split at hr
    · rename_i q hq
      obtain ⟨h1, h2, h3, h4⟩ := aeqKey (x := x) (y := y) ha hb hi hs hp hq
      split at hr
      · cases hr
        refine ⟨_, ?_, .bool _⟩
        rw [h3]
        simp [Sem.run_bind, h1, h2]
      · cases hr
        refine ⟨_, ?_, .bool _⟩
        rw [h4]
        simp [Sem.run_bind, h1, h2]
      · simp at hr
    · simp at hr
  · simp at hr

theorem binOpT_sound {P : Program} {w : World} {G : Gh} {op : BinOp} {t : TypeId} {x y : Operand} {a b : AV} {u v : Value} (ha : Rep w G a u) (hb : Rep w G b v) {r : AV} (hr : abinOpT P op t (isC x || isC y) a b = some r) :
    ∃ z, (do eqGuard op t x y u v; binOp op t u v : Sem Value).run P w = .ok z w ∧ Rep w G r z := by
  unfold abinOpT at hr
  split at hr
  · exact binOp_sound ha hb hr
  · exact binOp_sound ha hb hr
  · rename_i h1 h2
    exact aeqOp_sound ha hb (fun k n => h1 k n) (fun l => h2 l) hr
end Go.Ab
