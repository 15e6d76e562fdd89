import Derived.Test.YtjoklidphbmpoaaGreatAb4t
import Derived.Test.YtjoklidphbmpoaaGreatAb4e
/-
  THE FRAMEWORK, 4u: all operations of Ab4 are sound.
-/
namespace Go.Ab
set_option linter.unusedVariables false
set_option linter.unusedSimpArgs false
open Go.RowKit

theorem optRep_map {w : World} {G : Gh} {fr : Nat → AV} {ρ : Operand → Value} (x : Option Operand) (h : ∀ y, x = some y → Rep w G (ev fr y) (ρ y)) : optRep w G (x.map (ev fr)) (x.map ρ) := by
  cases x with
  | none => trivial
  | some y => exact h y rfl

theorem list_rep {w : World} {G : Gh} {fr : Nat → AV} {ρ : Operand → Value} (l : List Operand) (h : ∀ y ∈ l, Rep w G (ev fr y) (ρ y)) :
    ∀ i, i < (l.map (ev fr)).length → Rep w G ((l.map (ev fr)).getD i .undef) ((l.map ρ).getD i undef) := by
  intro i hi
  simp at hi
  have := h l[i] (List.getElem_mem hi)
  simpa [List.getD_eq_getElem?_getD, hi] using this

theorem run_value {P : Program} {w w' : World} {s : Sem Value} {v : Value} (h : s.run P w = .ok v w') : (do pure (.value (← s)) : Sem Next).run P w = .ok (.value v) w' := by
  simp [h]

theorem astepP_sound {P : Program} {fr : Nat → AV} {o : Oper} {x : AV} (hx : astepP P fr o = some x) (h : List Blk) (live : List Nat) : AOp P fr h live o (ret x h live) := by
  obtain ⟨dst, op, ty, pos, after, guard⟩ := o
  cases op with
  | move y =>
    refine AOp.gives fun w G ρ hr _ => ?_
    simp only [astepP, Option.some.injEq] at hx; subst hx
    exact ⟨ρ y, rfl, hr y (by simp [Op.operands])⟩
  | assign y =>
    refine AOp.gives fun w G ρ hr _ => ?_
    simp only [astepP, Option.some.injEq] at hx; subst hx
    exact ⟨ρ y, rfl, hr y (by simp [Op.operands])⟩
  | pick c a b =>
    refine AOp.gives fun w G ρ hr _ => ?_
    simp only [astepP] at hx
    split at hx
    · rename_i t ht
      cases hx
      have hc := hr c (by simp [Op.operands])
      rw [ht] at hc
      generalize hv : ρ c = v at hc
      cases hc
      refine ⟨if t then ρ a else ρ b, ?_, pick_sound (hr a (by simp [Op.operands])) (hr b (by simp [Op.operands]))⟩
      simp [execOp, hv, asBool]
    · simp at hx
  | nilCheck y =>
    refine AOp.gives fun w G ρ hr _ => ?_
    have hy := hr y (by simp [Op.operands])
    obtain ⟨rfl, h1⟩ := nil_sound hy hx
    rcases h1 with ⟨b, hb⟩ | ⟨f, p, q, hb⟩
    · exact ⟨ρ y, by simp [execOp, hb], hy⟩
    · exact ⟨ρ y, by simp [execOp, hb], hy⟩
  | fieldAddr s y f =>
    refine AOp.gives fun w G ρ hr _ => ?_
    have hy := hr y (by simp [Op.operands])
    simp only [astepP] at hx
    split at hx
    · rename_i o ho
      split at hx
      · rename_i k off hk
        cases hx
        rw [hk] at hy
        generalize hv : ρ y = v at hy
        cases hy
        rename_i hk'
        exact ⟨_, by simp only [execOp, hv]; exact run_value (fieldAt_sound ho _ _), .ptr _ _ hk'⟩
      · rename_i c off hk
        cases hx
        rw [hk] at hy
        generalize hv : ρ y = v at hy
        cases hy
        rename_i b q g hi hc h1 h2
        refine ⟨_, by simp only [execOp, hv]; exact run_value (fieldAt_sound ho _ _), ?_⟩
        rw [Nat.add_assoc]
        exact .eptr _ _ b q g hi hc h1 h2
      · rename_i g off hk
        cases hx
        rw [hk] at hy
        generalize hv : ρ y = v at hy
        cases hy
        exact ⟨_, by simp only [execOp, hv]; exact run_value (fieldAt_sound ho _ _), .glob _ _⟩
      · simp at hx
    · simp at hx
  | field s y f =>
    refine AOp.gives fun w G ρ hr _ => ?_
    have hy := hr y (by simp [Op.operands])
    simp only [astepP] at hx
    split at hx
    · rename_i o k hk
      split at hx
      · rename_i cs hcs
        rw [hcs] at hy
        obtain ⟨z, hz, hrz⟩ := field_sound (P := P) hk hy hx
        exact ⟨z, by simp only [execOp]; exact run_value hz, hrz⟩
      · simp at hx
    · simp at hx
  | indexAddr t y i =>
    refine AOp.gives fun w G ρ hr _ => ?_
    obtain ⟨z, hz, hrz⟩ := indexAddr_sound (P := P) (hr y (by simp [Op.operands])) (hr i (by simp [Op.operands])) hx
    exact ⟨z, by simp only [execOp]; exact run_value hz, hrz⟩
  | index t y i =>
    refine AOp.gives fun w G ρ hr _ => ?_
    obtain ⟨z, hz, hrz⟩ := index_sound (P := P) (hr y (by simp [Op.operands])) (hr i (by simp [Op.operands])) hx
    exact ⟨z, by simp only [execOp]; exact run_value hz, hrz⟩
  | slice t y lo hi mx =>
    refine AOp.gives fun w G ρ hr _ => ?_
    obtain ⟨z, hz, hrz⟩ := slice_sound (P := P) (hr y (by simp [Op.operands])) (optRep_map lo fun q hq => hr q (by subst hq; simp [Op.operands])) (optRep_map hi fun q hq => hr q (by subst hq; simp [Op.operands]))
      (optRep_map mx fun q hq => hr q (by subst hq; simp [Op.operands])) hx
    exact ⟨z, by simp only [execOp]; exact run_value hz, hrz⟩
  | binOp op t a b t' =>
    refine AOp.gives fun w G ρ hr _ => ?_
    obtain ⟨z, hz, hrz⟩ := binOpT_sound (P := P) (t := t) (x := a) (y := b) (hr a (by simp [Op.operands])) (hr b (by simp [Op.operands])) hx
    exact ⟨z, by simp only [execOp]; exact run_value hz, hrz⟩
  | unOp op t a =>
    refine AOp.gives fun w G ρ hr _ => ?_
    obtain ⟨z, hz, hrz⟩ := unOp_sound (P := P) (hr a (by simp [Op.operands])) hx
    exact ⟨z, by simp only [execOp]; exact run_value hz, hrz⟩
  | convert s d a =>
    refine AOp.gives fun w G ρ hr _ => ?_
    obtain ⟨z, hz, hrz⟩ := convert_sound (P := P) (hr a (by simp [Op.operands])) hx
    exact ⟨z, by simp only [execOp]; exact run_value hz, hrz⟩
  | makeInterface t a =>
    refine AOp.gives fun w G ρ hr _ => ?_
    simp only [astepP] at hx
    split at hx
    · rename_i hc
      cases hx
      exact ⟨_, by simp only [execOp]; exact run_value (run_makeInterface (P := P) w t _ hc), .iface _ _ _ (hr a (by simp [Op.operands]))⟩
    · simp at hx
  | makeFunc f first cap =>
    refine AOp.gives fun w G ρ hr _ => ?_
    simp only [astepP, Option.some.injEq] at hx; subst hx
    refine ⟨.func f (first.map ρ) (cap.map ρ), rfl, ?_⟩
    have := Rep.fn (w := w) (G := G) f (first.toList.map (ev fr)) (cap.toList.map (ev fr)) (first.toList.map ρ) (cap.toList.map ρ) (by simp) (by simp)
      (list_rep _ fun y hy => hr y (by simp [Op.operands]; exact .inl (by simpa using hy))) (list_rep _ fun y hy => hr y (by simp [Op.operands]; exact .inr (by simpa using hy)))
    have e : ∀ a : Array Operand, (a.toList.map ρ).toArray = a.map ρ := fun a => by obtain ⟨l⟩ := a; simp
    rw [e, e] at this
    exact this
  | extract y i =>
    refine AOp.gives fun w G ρ hr _ => ?_
    have hy := hr y (by simp [Op.operands])
    simp only [astepP] at hx
    split at hx
    · rename_i vs hvs
      rw [hvs] at hy
      generalize hv : ρ y = v at hy
      cases hy
      rename_i us hl hrep
      obtain ⟨h1, h2⟩ := get?_getD .undef hx
      refine ⟨us.getD i undef, ?_, by rw [← h2]; exact hrep i h1⟩
      have h3 : i < us.length := by omega
      simp [execOp, hv, Instr.extract, h3, List.getD_eq_getElem?_getD]
    · simp at hx
  | build t parts =>
    refine AOp.gives fun w G ρ hr _ => ?_
    obtain ⟨z, hz, hrz⟩ := build_sound (P := P) (ρ := ρ) (w := w) (G := G) parts (fun p hp => hr p.2 (by simp [Op.operands]; exact ⟨p.1, by simpa using hp⟩)) hx
    exact ⟨z, by simp only [execOp]; exact run_value hz, hrz⟩
  | buildSlice t n parts =>
    intro w G ρ hρ hr hh
    obtain ⟨z, w', hz, hp⟩ := buildSlice_sound (P := P) (ρ := ρ) (w := w) (G := G) parts (fun p hp => hr p.2 (by simp [Op.operands]; exact ⟨p.1, by simpa using hp⟩)) hh hx
    simp only [execOp]
    rw [run_value hz]
    exact hp
  | call c =>
    obtain ⟨callee, args, ts⟩ := c
    cases callee with
    | value f => simp [astepP] at hx
    | invoke r m => simp [astepP] at hx
    | builtin b =>
      cases b <;> simp only [astepP] at hx <;> first | (simp at hx; done) | skip
      · -- len
        refine AOp.gives fun w G ρ hr _ => ?_
        split at hx
        · rename_i y t hy ht
          have ha : args = #[y] := by apply Array.toList_inj.1; simpa using hy
          have hts : ts = #[t] := by apply Array.toList_inj.1; simpa using ht
          subst ha; subst hts
          obtain ⟨z, hz, hrz⟩ := len_sound (P := P) (ty := ty) (hr y (by simp [Op.operands, Call.operands])) hx
          exact ⟨z, by simp [execOp, resolve, invoke, builtin, hz], hrz⟩
        · simp at hx
      · -- max
        refine AOp.gives fun w G ρ hr _ => ?_
        unfold aminmax at hx
        split at hx
        · rename_i k a k' b hab
          obtain ⟨l⟩ := args
          rcases l with _ | ⟨p, _ | ⟨q, _ | ⟨_, _⟩⟩⟩ <;> simp at hab
          · have hp := hr p (by simp [Op.operands, Call.operands])
            have hq := hr q (by simp [Op.operands, Call.operands])
            rw [hab.1] at hp; rw [hab.2] at hq
            generalize hv : ρ p = v at hp
            generalize hu : ρ q = u at hq
            cases hp; cases hq; cases hx
            refine ⟨_, ?_, .int _ _⟩
            simp [execOp, resolve, invoke, builtin, Builtin.max_, Builtin.max2, hv, hu]
        · simp at hx
      · -- min
        refine AOp.gives fun w G ρ hr _ => ?_
        unfold aminmax at hx
        split at hx
        · rename_i k a k' b hab
          obtain ⟨l⟩ := args
          rcases l with _ | ⟨p, _ | ⟨q, _ | ⟨_, _⟩⟩⟩ <;> simp at hab
          · have hp := hr p (by simp [Op.operands, Call.operands])
            have hq := hr q (by simp [Op.operands, Call.operands])
            rw [hab.1] at hp; rw [hab.2] at hq
            generalize hv : ρ p = v at hp
            generalize hu : ρ q = u at hq
            cases hp; cases hq; cases hx
            refine ⟨_, ?_, .int _ _⟩
            simp [execOp, resolve, invoke, builtin, Builtin.min_, Builtin.min2, hv, hu]
        · simp at hx
  | _ => simp [astepP] at hx

theorem astepP_congr {P : Program} {fr fr' : Nat → AV} {o : Oper} (he : ∀ x ∈ o.op.operands, ev fr' x = ev fr x) : astepP P fr' o = astepP P fr o := by
  obtain ⟨dst, op, ty, pos, after, guard⟩ := o
  have hl : ∀ (l : List Operand), (∀ x ∈ l, x ∈ op.operands) → l.map (ev fr') = l.map (ev fr) := fun l h => List.map_congr_left fun x hx => he x (h x hx)
  cases op with
  | call c =>
    obtain ⟨callee, args, ts⟩ := c
    cases callee with
    | value f => rfl
    | invoke r m => rfl
    | builtin b =>
      have := hl args.toList (fun x hx => by simp [Op.operands, Call.operands]; simpa using hx)
      have h1 : ∀ x ∈ args.toList, ev fr' x = ev fr x := fun x hx => he x (by simp [Op.operands, Call.operands]; simpa using hx)
      cases b
      case len =>
        simp only [astepP]
        cases h : args.toList with
        | nil => rfl
        | cons y r =>
          cases r with
          | nil =>
            have := h1 y (by simp [h])
            cases ts.toList with
            | nil => rfl
            | cons t q =>
              cases q with
              | nil => show alen P t (ev fr' y) = alen P t (ev fr y); rw [this]
              | cons _ _ => rfl
          | cons _ _ => rfl
      case min => show aminmax true (args.toList.map (ev fr')) = aminmax true (args.toList.map (ev fr)); rw [this]
      case max => show aminmax false (args.toList.map (ev fr')) = aminmax false (args.toList.map (ev fr)); rw [this]
      all_goals rfl
  | slice t y lo hi mx =>
    have e1 : ∀ q : Option Operand, (∀ z, q = some z → z ∈ (Op.slice t y lo hi mx).operands) → q.map (ev fr') = q.map (ev fr) := fun q hq => by
      cases q with
      | none => rfl
      | some z => simp only [Option.map_some]; rw [he z (hq z rfl)]
    simp only [astepP]
    rw [he y (by simp [Op.operands]), e1 lo (fun z hz => by subst hz; simp [Op.operands]), e1 hi (fun z hz => by subst hz; simp [Op.operands]), e1 mx (fun z hz => by subst hz; simp [Op.operands])]
  | build t parts =>
    have : (parts.toList.map fun p => (p.1, ev fr' p.2)) = parts.toList.map fun p => (p.1, ev fr p.2) := List.map_congr_left fun p hp => by
      rw [he p.2 (by simp [Op.operands]; exact ⟨p.1, by simpa using hp⟩)]
    simp only [astepP, this]
  | buildSlice t n parts =>
    have : (parts.toList.map fun p => (p.1, ev fr' p.2)) = parts.toList.map fun p => (p.1, ev fr p.2) := List.map_congr_left fun p hp => by
      rw [he p.2 (by simp [Op.operands]; exact ⟨p.1, by simpa using hp⟩)]
    simp only [astepP, this]
  | makeFunc f first cap =>
    simp only [astepP]
    rw [hl first.toList (fun x hx => by simp [Op.operands]; exact .inl (by simpa using hx)), hl cap.toList (fun x hx => by simp [Op.operands]; exact .inr (by simpa using hx))]
  | pick c a b =>
    simp only [astepP]
    rw [he c (by simp [Op.operands]), he a (by simp [Op.operands]), he b (by simp [Op.operands])]
  | binOp op t a b t' =>
    simp only [astepP]
    rw [he a (by simp [Op.operands]), he b (by simp [Op.operands])]
  | indexAddr t y i =>
    simp only [astepP]
    rw [he y (by simp [Op.operands]), he i (by simp [Op.operands])]
  | index t y i =>
    simp only [astepP]
    rw [he y (by simp [Op.operands]), he i (by simp [Op.operands])]
  | move y => simp only [astepP]; rw [he y (by simp [Op.operands])]
  | assign y => simp only [astepP]; rw [he y (by simp [Op.operands])]
  | nilCheck y => simp only [astepP]; rw [he y (by simp [Op.operands])]
  | fieldAddr s y f => simp only [astepP]; rw [he y (by simp [Op.operands])]
  | field s y f => simp only [astepP]; rw [he y (by simp [Op.operands])]
  | unOp op t y => simp only [astepP]; rw [he y (by simp [Op.operands])]
  | convert s d y => simp only [astepP]; rw [he y (by simp [Op.operands])]
  | makeInterface t y => simp only [astepP]; rw [he y (by simp [Op.operands])]
  | extract y i => simp only [astepP]; rw [he y (by simp [Op.operands])]
  | _ => rfl

end Go.Ab
