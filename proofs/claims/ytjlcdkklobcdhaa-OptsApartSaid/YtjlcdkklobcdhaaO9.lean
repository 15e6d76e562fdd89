import Derived.Test.YtjlcdkklobcdhaaO4
import Derived.Test.YtjlcdkklobcdhaaO8
/-
  OPTIONS: the document's examples.
-/
namespace Go.Proofs.Ytjlcdkklobcdhaa
open Go.Ab
set_option linter.unusedVariables false
set_option linter.unusedSimpArgs false


theorem errP_d0 (b : Bool) : decide (errP b = 0) = b := by cases b <;> rfl
theorem errP_d22 (b : Bool) : decide (errP b = 22) = !b := by cases b <;> rfl
attribute [push_cast] errP_d0 errP_d22
theorem ex1 : parse [82, 109, 58] [[45, 82, 109, 55, 53, 53], [97]] = some ([(82, []), (109, [55, 53, 53])], [[97]]) := by decide
theorem ex2 : parse [82, 109, 58] [[45, 109]] = none := by decide
theorem ex3 : parse [82, 109, 58] [[45, 45], [45, 82]] = some ([], [[45, 82]]) := by decide
theorem ex4 : valF [(82, []), (109, [55, 53, 53])] 109 = ([55, 53, 53], true) := by decide
theorem ex5 : valF [(82, []), (109, [55, 53, 53])] 82 = ([], true) := by decide
theorem ex6 : lastF [(82, []), (109, [55, 53, 53])] [82, 109] = 109 := by decide
theorem pfs (fl : List Fl) (r : List (List UInt8)) : pf (some (fl, r)) = fl := rfl
theorem prs (fl : List Fl) (r : List (List UInt8)) : pr (some (fl, r)) = r := rfl
theorem pfn : pf none = [] := rfl
theorem prn : pr none = [] := rfl
theorem parseF_len (may : List UInt8) (B : Nat) : ∀ (n : Nat) (left : List (List UInt8)) (fl : List Fl) (fl' : List Fl) (r' : List (List UInt8)), (∀ s ∈ left, s.length ≤ B) → parseF may n left fl = some (fl', r') → fl'.length ≤ fl.length + n * B ∧ r'.length ≤ left.length
  | 0, left, fl, fl', r', _, h => by cases h; exact ⟨by omega, Nat.le_refl _⟩
  | n + 1, [], fl, fl', r', _, h => by cases h; exact ⟨by omega, Nat.le_refl _⟩
  | n + 1, s :: r, fl, fl', r', hb, h => by
    simp only [parseF] at h
    cases ho : isOpt s <;> rw [ho] at h
    · cases h; exact ⟨by omega, Nat.le_refl _⟩
    · cases hd : decide (s = [45, 45]) <;> rw [hd] at h
      · simp only [cond_true, cond_false] at h
        split at h
        · cases h
        · rename_i fl2 r2 hl
          have hs := letters_spec _ _ _ _ _ _ hl
          have hr2 : ∀ x ∈ r2, x.length ≤ B := by
            intro x hx
            rcases hs.1 with e | e <;> rw [e] at hx
            · exact hb x (by simp [hx])
            · exact hb x (by simp [List.mem_of_mem_drop hx])
          have := parseF_len may B n r2 fl2 fl' r' hr2 h
          have h1 : (s.drop 1).length ≤ B := by have := hb s (by simp); simp only [List.length_drop]; omega
          have h2 : r2.length ≤ r.length := by rcases hs.1 with e | e <;> rw [e] <;> simp
          refine ⟨?_, by simp only [List.length_cons]; omega⟩
          have h3 := hs.2
          have h4 : (n + 1) * B = n * B + B := by rw [Nat.add_mul, Nat.one_mul]
          omega
      · cases h; exact ⟨by omega, by simp⟩
theorem parse_len {may : List UInt8} {args : List (List UInt8)} (h1 : ∀ s ∈ args, s.length ≤ 60) (h2 : args.length ≤ 30) : (pf (parse may args)).length ≤ 1000000000 ∧ (pr (parse may args)).length ≤ 1000000000 := by
  cases h : parse may args with
  | none => simp [pf, pr]
  | some p =>
    obtain ⟨fl, r⟩ := p
    have := parseF_len may 60 args.length args [] fl r h1 h
    simp only [pf, pr]
    simp only [List.length_nil] at this
    omega
theorem few_spec {l : List (List UInt8)} (h : fewB l = true) : (∀ s ∈ l, s.length ≤ 60) ∧ l.length ≤ 30 := by
  simpa [fewB] using h

set_option maxHeartbeats 400000 in
theorem c8 (h : List Blk) (live : List Nat) : ACalls Try.prog 8 [] h live (ret (.bool true) h live) := by
  refine acalls_of_awp Try.func8 rfl rfl (Nat.le_of_ble_eq_true rfl) fun hH hX => ?_
  simp only [fargs]
  refine awp_seq_k fun K1 hK1 => ?_
  refine awp_region_keep [] ⟨false, [], [], []⟩ (fun h => nomatch h) ?_
  refine dawp_p rfl (by (simp (disch := omega) only [push_cast, and_true, cond_true, cond_false, if_pos, if_neg, ↓reduceIte, Nat.reduceEqDiff, Nat.reduceAdd, Nat.reduceLeDiff, parseV, refV, ex1, ex2, ex3, ex4, ex5, ex6, pfs, prs, pfn, prn, Option.isSome_some, Option.isSome_none]) <;> rfl) rfl rfl ?_
  refine dawp_nil ?_
  simp (disch := omega) only [push_cast, and_true, cond_true, cond_false, if_pos, if_neg, ↓reduceIte, Nat.reduceEqDiff, Nat.reduceAdd, Nat.reduceLeDiff, parseV, refV, ex1, ex2, ex3, ex4, ex5, ex6, pfs, prs, pfn, prn, Option.isSome_some, Option.isSome_none]
  refine hK1 _ ?_
  refine awp_seq_k fun K2 hK2 => ?_
  refine awp_region_keep [1, 2] ⟨false, [], [], []⟩ (fun h => nomatch h) ?_
  refine dawp_p rfl (by (simp (disch := omega) only [push_cast, and_true, cond_true, cond_false, if_pos, if_neg, ↓reduceIte, Nat.reduceEqDiff, Nat.reduceAdd, Nat.reduceLeDiff, parseV, refV, ex1, ex2, ex3, ex4, ex5, ex6, pfs, prs, pfn, prn, Option.isSome_some, Option.isSome_none]) <;> rfl) rfl rfl ?_
  refine dawp_w rfl rfl rfl rfl (AOp.callx _ _ _ rfl (by (simp (disch := omega) only [push_cast, and_true, cond_true, cond_false, if_pos, if_neg, ↓reduceIte, Nat.reduceEqDiff, Nat.reduceAdd, Nat.reduceLeDiff, parseV, refV, ex1, ex2, ex3, ex4, ex5, ex6, pfs, prs, pfn, prn, Option.isSome_some, Option.isSome_none]) <;> rfl) (by (simp (disch := omega) only [push_cast, and_true, cond_true, cond_false, if_pos, if_neg, ↓reduceIte, Nat.reduceEqDiff, Nat.reduceAdd, Nat.reduceLeDiff, parseV, refV, ex1, ex2, ex3, ex4, ex5, ex6, pfs, prs, pfn, prn, Option.isSome_some, Option.isSome_none]) <;> rfl) ?_)  
  refine (c10 [82, 109, 58] [[45, 82, 109, 55, 53, 53], [97]] .full _ _ (by decide) (by decide) (by decide)).mono ?_; rintro _ _ _ ⟨rfl, rfl, rfl⟩
  iterate 3 (refine dawp_p rfl (by (simp (disch := omega) only [push_cast, and_true, cond_true, cond_false, if_pos, if_neg, ↓reduceIte, Nat.reduceEqDiff, Nat.reduceAdd, Nat.reduceLeDiff, parseV, refV, ex1, ex2, ex3, ex4, ex5, ex6, pfs, prs, pfn, prn, Option.isSome_some, Option.isSome_none]) <;> rfl) rfl rfl ?_)
  refine dawp_h rfl (by (simp (disch := omega) only [push_cast, and_true, cond_true, cond_false, if_pos, if_neg, ↓reduceIte, Nat.reduceEqDiff, Nat.reduceAdd, Nat.reduceLeDiff, parseV, refV, ex1, ex2, ex3, ex4, ex5, ex6, pfs, prs, pfn, prn, Option.isSome_some, Option.isSome_none]) <;> rfl) rfl rfl ?_
  refine dawp_hn rfl (by (simp (disch := omega) only [push_cast, and_true, cond_true, cond_false, if_pos, if_neg, ↓reduceIte, Nat.reduceEqDiff, Nat.reduceAdd, Nat.reduceLeDiff, parseV, refV, ex1, ex2, ex3, ex4, ex5, ex6, pfs, prs, pfn, prn, Option.isSome_some, Option.isSome_none]) <;> rfl) rfl ?_
  refine dawp_p rfl (by (simp (disch := omega) only [push_cast, and_true, cond_true, cond_false, if_pos, if_neg, ↓reduceIte, Nat.reduceEqDiff, Nat.reduceAdd, Nat.reduceLeDiff, parseV, refV, ex1, ex2, ex3, ex4, ex5, ex6, pfs, prs, pfn, prn, Option.isSome_some, Option.isSome_none]) <;> rfl) rfl rfl ?_
  refine dawp_nil ?_
  simp (disch := omega) only [push_cast, and_true, cond_true, cond_false, if_pos, if_neg, ↓reduceIte, Nat.reduceEqDiff, Nat.reduceAdd, Nat.reduceLeDiff, parseV, refV, ex1, ex2, ex3, ex4, ex5, ex6, pfs, prs, pfn, prn, Option.isSome_some, Option.isSome_none]
  refine hK2 _ ?_
  refine awp_seq_k fun K3 hK3 => ?_
  refine awp_region_keep [1, 2, 4] ⟨false, [], [], []⟩ (fun h => nomatch h) ?_
  refine dawp_p rfl (by (simp (disch := omega) only [push_cast, and_true, cond_true, cond_false, if_pos, if_neg, ↓reduceIte, Nat.reduceEqDiff, Nat.reduceAdd, Nat.reduceLeDiff, parseV, refV, ex1, ex2, ex3, ex4, ex5, ex6, pfs, prs, pfn, prn, Option.isSome_some, Option.isSome_none]) <;> rfl) rfl rfl ?_
  refine dawp_w rfl rfl rfl rfl (AOp.callx _ _ _ rfl (by (simp (disch := omega) only [push_cast, and_true, cond_true, cond_false, if_pos, if_neg, ↓reduceIte, Nat.reduceEqDiff, Nat.reduceAdd, Nat.reduceLeDiff, parseV, refV, ex1, ex2, ex3, ex4, ex5, ex6, pfs, prs, pfn, prn, Option.isSome_some, Option.isSome_none]) <;> rfl) (by (simp (disch := omega) only [push_cast, and_true, cond_true, cond_false, if_pos, if_neg, ↓reduceIte, Nat.reduceEqDiff, Nat.reduceAdd, Nat.reduceLeDiff, parseV, refV, ex1, ex2, ex3, ex4, ex5, ex6, pfs, prs, pfn, prn, Option.isSome_some, Option.isSome_none]) <;> rfl) ?_)  
  refine (c10 [82, 109, 58] [[45, 109]] .full _ _ (by decide) (by decide) (by decide)).mono ?_; rintro _ _ _ ⟨rfl, rfl, rfl⟩
  iterate 3 (refine dawp_p rfl (by (simp (disch := omega) only [push_cast, and_true, cond_true, cond_false, if_pos, if_neg, ↓reduceIte, Nat.reduceEqDiff, Nat.reduceAdd, Nat.reduceLeDiff, parseV, refV, ex1, ex2, ex3, ex4, ex5, ex6, pfs, prs, pfn, prn, Option.isSome_some, Option.isSome_none]) <;> rfl) rfl rfl ?_)
  refine dawp_h rfl (by (simp (disch := omega) only [push_cast, and_true, cond_true, cond_false, if_pos, if_neg, ↓reduceIte, Nat.reduceEqDiff, Nat.reduceAdd, Nat.reduceLeDiff, parseV, refV, ex1, ex2, ex3, ex4, ex5, ex6, pfs, prs, pfn, prn, Option.isSome_some, Option.isSome_none]) <;> rfl) rfl rfl ?_
  refine dawp_hn rfl (by (simp (disch := omega) only [push_cast, and_true, cond_true, cond_false, if_pos, if_neg, ↓reduceIte, Nat.reduceEqDiff, Nat.reduceAdd, Nat.reduceLeDiff, parseV, refV, ex1, ex2, ex3, ex4, ex5, ex6, pfs, prs, pfn, prn, Option.isSome_some, Option.isSome_none]) <;> rfl) rfl ?_
  refine dawp_p rfl (by (simp (disch := omega) only [push_cast, and_true, cond_true, cond_false, if_pos, if_neg, ↓reduceIte, Nat.reduceEqDiff, Nat.reduceAdd, Nat.reduceLeDiff, parseV, refV, ex1, ex2, ex3, ex4, ex5, ex6, pfs, prs, pfn, prn, Option.isSome_some, Option.isSome_none]) <;> rfl) rfl rfl ?_
  refine dawp_nil ?_
  simp (disch := omega) only [push_cast, and_true, cond_true, cond_false, if_pos, if_neg, ↓reduceIte, Nat.reduceEqDiff, Nat.reduceAdd, Nat.reduceLeDiff, parseV, refV, ex1, ex2, ex3, ex4, ex5, ex6, pfs, prs, pfn, prn, Option.isSome_some, Option.isSome_none]
  refine hK3 _ ?_
  refine awp_seq_k fun K4 hK4 => ?_
  refine awp_region_keep [1, 2, 4, 5, 6] ⟨false, [], [], []⟩ (fun h => nomatch h) ?_
  refine dawp_p rfl (by (simp (disch := omega) only [push_cast, and_true, cond_true, cond_false, if_pos, if_neg, ↓reduceIte, Nat.reduceEqDiff, Nat.reduceAdd, Nat.reduceLeDiff, parseV, refV, ex1, ex2, ex3, ex4, ex5, ex6, pfs, prs, pfn, prn, Option.isSome_some, Option.isSome_none]) <;> rfl) rfl rfl ?_
  refine dawp_w rfl rfl rfl rfl (AOp.callx _ _ _ rfl (by (simp (disch := omega) only [push_cast, and_true, cond_true, cond_false, if_pos, if_neg, ↓reduceIte, Nat.reduceEqDiff, Nat.reduceAdd, Nat.reduceLeDiff, parseV, refV, ex1, ex2, ex3, ex4, ex5, ex6, pfs, prs, pfn, prn, Option.isSome_some, Option.isSome_none]) <;> rfl) (by (simp (disch := omega) only [push_cast, and_true, cond_true, cond_false, if_pos, if_neg, ↓reduceIte, Nat.reduceEqDiff, Nat.reduceAdd, Nat.reduceLeDiff, parseV, refV, ex1, ex2, ex3, ex4, ex5, ex6, pfs, prs, pfn, prn, Option.isSome_some, Option.isSome_none]) <;> rfl) ?_)  
  refine (c10 [82, 109, 58] [[45, 45], [45, 82]] .full _ _ (by decide) (by decide) (by decide)).mono ?_; rintro _ _ _ ⟨rfl, rfl, rfl⟩
  iterate 3 (refine dawp_p rfl (by (simp (disch := omega) only [push_cast, and_true, cond_true, cond_false, if_pos, if_neg, ↓reduceIte, Nat.reduceEqDiff, Nat.reduceAdd, Nat.reduceLeDiff, parseV, refV, ex1, ex2, ex3, ex4, ex5, ex6, pfs, prs, pfn, prn, Option.isSome_some, Option.isSome_none]) <;> rfl) rfl rfl ?_)
  refine dawp_h rfl (by (simp (disch := omega) only [push_cast, and_true, cond_true, cond_false, if_pos, if_neg, ↓reduceIte, Nat.reduceEqDiff, Nat.reduceAdd, Nat.reduceLeDiff, parseV, refV, ex1, ex2, ex3, ex4, ex5, ex6, pfs, prs, pfn, prn, Option.isSome_some, Option.isSome_none]) <;> rfl) rfl rfl ?_
  refine dawp_hn rfl (by (simp (disch := omega) only [push_cast, and_true, cond_true, cond_false, if_pos, if_neg, ↓reduceIte, Nat.reduceEqDiff, Nat.reduceAdd, Nat.reduceLeDiff, parseV, refV, ex1, ex2, ex3, ex4, ex5, ex6, pfs, prs, pfn, prn, Option.isSome_some, Option.isSome_none]) <;> rfl) rfl ?_
  refine dawp_p rfl (by (simp (disch := omega) only [push_cast, and_true, cond_true, cond_false, if_pos, if_neg, ↓reduceIte, Nat.reduceEqDiff, Nat.reduceAdd, Nat.reduceLeDiff, parseV, refV, ex1, ex2, ex3, ex4, ex5, ex6, pfs, prs, pfn, prn, Option.isSome_some, Option.isSome_none]) <;> rfl) rfl rfl ?_
  refine dawp_nil ?_
  simp (disch := omega) only [push_cast, and_true, cond_true, cond_false, if_pos, if_neg, ↓reduceIte, Nat.reduceEqDiff, Nat.reduceAdd, Nat.reduceLeDiff, parseV, refV, ex1, ex2, ex3, ex4, ex5, ex6, pfs, prs, pfn, prn, Option.isSome_some, Option.isSome_none]
  refine hK4 _ ?_
  refine awp_seq_k fun K5 hK5 => ?_
  refine awp_region_keep [1, 2, 4, 5, 6, 7, 8] ⟨false, [], [], []⟩ (fun h => nomatch h) ?_
  refine dawp_h rfl (by (simp (disch := omega) only [push_cast, and_true, cond_true, cond_false, if_pos, if_neg, ↓reduceIte, Nat.reduceEqDiff, Nat.reduceAdd, Nat.reduceLeDiff, parseV, refV, ex1, ex2, ex3, ex4, ex5, ex6, pfs, prs, pfn, prn, Option.isSome_some, Option.isSome_none]) <;> rfl) rfl rfl ?_
  refine dawp_w rfl rfl rfl rfl (AOp.callx _ _ _ rfl (by (simp (disch := omega) only [push_cast, and_true, cond_true, cond_false, if_pos, if_neg, ↓reduceIte, Nat.reduceEqDiff, Nat.reduceAdd, Nat.reduceLeDiff, parseV, refV, ex1, ex2, ex3, ex4, ex5, ex6, pfs, prs, pfn, prn, Option.isSome_some, Option.isSome_none]) <;> rfl) (by (simp (disch := omega) only [push_cast, and_true, cond_true, cond_false, if_pos, if_neg, ↓reduceIte, Nat.reduceEqDiff, Nat.reduceAdd, Nat.reduceLeDiff, parseV, refV, ex1, ex2, ex3, ex4, ex5, ex6, pfs, prs, pfn, prn, Option.isSome_some, Option.isSome_none]) <;> rfl) ?_)  
  refine (c13 [(82, []), (109, [55, 53, 53])] .none [[97]] .none 109 _ _ (by decide)).mono ?_; rintro _ _ _ ⟨rfl, rfl, rfl⟩
  iterate 5 (refine dawp_p rfl (by (simp (disch := omega) only [push_cast, and_true, cond_true, cond_false, if_pos, if_neg, ↓reduceIte, Nat.reduceEqDiff, Nat.reduceAdd, Nat.reduceLeDiff, parseV, refV, ex1, ex2, ex3, ex4, ex5, ex6, pfs, prs, pfn, prn, Option.isSome_some, Option.isSome_none]) <;> rfl) rfl rfl ?_)
  refine dawp_nil ?_
  simp (disch := omega) only [push_cast, and_true, cond_true, cond_false, if_pos, if_neg, ↓reduceIte, Nat.reduceEqDiff, Nat.reduceAdd, Nat.reduceLeDiff, parseV, refV, ex1, ex2, ex3, ex4, ex5, ex6, pfs, prs, pfn, prn, Option.isSome_some, Option.isSome_none]
  refine hK5 _ ?_
  refine awp_seq_k fun K6 hK6 => ?_
  refine awp_region_keep [0] ⟨false, [], [], []⟩ (fun h => nomatch h) ?_
  iterate 3 (refine dawp_p rfl (by (simp (disch := omega) only [push_cast, and_true, cond_true, cond_false, if_pos, if_neg, ↓reduceIte, Nat.reduceEqDiff, Nat.reduceAdd, Nat.reduceLeDiff, parseV, refV, ex1, ex2, ex3, ex4, ex5, ex6, pfs, prs, pfn, prn, Option.isSome_some, Option.isSome_none]) <;> rfl) rfl rfl ?_)
  iterate 2 (refine dawp_g rfl rfl (by simp only [push_cast, and_true, cond_true, cond_false, if_pos, if_neg, ↓reduceIte, Nat.reduceEqDiff, Nat.reduceAdd, Nat.reduceLeDiff, parseV, refV, ex1, ex2, ex3, ex4, ex5, ex6, pfs, prs, pfn, prn, Option.isSome_some, Option.isSome_none]; rfl) (fun hg => by simp (disch := omega) only [hg, push_cast, and_true, cond_true, cond_false, if_pos, if_neg, ↓reduceIte, Nat.reduceEqDiff, Nat.reduceAdd, Nat.reduceLeDiff, parseV, refV, ex1, ex2, ex3, ex4, ex5, ex6, pfs, prs, pfn, prn, Option.isSome_some, Option.isSome_none]; rfl) rfl rfl ?_)
  iterate 2 (refine dawp_p rfl (by (simp (disch := omega) only [push_cast, and_true, cond_true, cond_false, if_pos, if_neg, ↓reduceIte, Nat.reduceEqDiff, Nat.reduceAdd, Nat.reduceLeDiff, parseV, refV, ex1, ex2, ex3, ex4, ex5, ex6, pfs, prs, pfn, prn, Option.isSome_some, Option.isSome_none]) <;> rfl) rfl rfl ?_)
  iterate 2 (refine dawp_g rfl rfl (by simp only [push_cast, and_true, cond_true, cond_false, if_pos, if_neg, ↓reduceIte, Nat.reduceEqDiff, Nat.reduceAdd, Nat.reduceLeDiff, parseV, refV, ex1, ex2, ex3, ex4, ex5, ex6, pfs, prs, pfn, prn, Option.isSome_some, Option.isSome_none]; rfl) (fun hg => by simp (disch := omega) only [hg, push_cast, and_true, cond_true, cond_false, if_pos, if_neg, ↓reduceIte, Nat.reduceEqDiff, Nat.reduceAdd, Nat.reduceLeDiff, parseV, refV, ex1, ex2, ex3, ex4, ex5, ex6, pfs, prs, pfn, prn, Option.isSome_some, Option.isSome_none]; rfl) rfl rfl ?_)
  iterate 2 (refine dawp_p rfl (by (simp (disch := omega) only [push_cast, and_true, cond_true, cond_false, if_pos, if_neg, ↓reduceIte, Nat.reduceEqDiff, Nat.reduceAdd, Nat.reduceLeDiff, parseV, refV, ex1, ex2, ex3, ex4, ex5, ex6, pfs, prs, pfn, prn, Option.isSome_some, Option.isSome_none]) <;> rfl) rfl rfl ?_)
  refine dawp_gh rfl rfl (by simp only [push_cast, and_true, cond_true, cond_false, if_pos, if_neg, ↓reduceIte, Nat.reduceEqDiff, Nat.reduceAdd, Nat.reduceLeDiff, parseV, refV, ex1, ex2, ex3, ex4, ex5, ex6, pfs, prs, pfn, prn, Option.isSome_some, Option.isSome_none]; rfl) (fun hg => by simp (disch := omega) only [hg, push_cast, and_true, cond_true, cond_false, if_pos, if_neg, ↓reduceIte, Nat.reduceEqDiff, Nat.reduceAdd, Nat.reduceLeDiff, parseV, refV, ex1, ex2, ex3, ex4, ex5, ex6, pfs, prs, pfn, prn, Option.isSome_some, Option.isSome_none]; rfl) rfl rfl ?_
  refine dawp_gr rfl rfl rfl (by simp only [push_cast, and_true, cond_true, cond_false, if_pos, if_neg, ↓reduceIte, Nat.reduceEqDiff, Nat.reduceAdd, Nat.reduceLeDiff, parseV, refV, ex1, ex2, ex3, ex4, ex5, ex6, pfs, prs, pfn, prn, Option.isSome_some, Option.isSome_none]; rfl) (fun hg => AOp.callx _ _ _ rfl (by (simp (disch := omega) only [hg, push_cast, and_true, cond_true, cond_false, if_pos, if_neg, ↓reduceIte, Nat.reduceEqDiff, Nat.reduceAdd, Nat.reduceLeDiff, parseV, refV, ex1, ex2, ex3, ex4, ex5, ex6, pfs, prs, pfn, prn, Option.isSome_some, Option.isSome_none]) <;> rfl) (by (simp (disch := omega) only [hg, push_cast, and_true, cond_true, cond_false, if_pos, if_neg, ↓reduceIte, Nat.reduceEqDiff, Nat.reduceAdd, Nat.reduceLeDiff, parseV, refV, ex1, ex2, ex3, ex4, ex5, ex6, pfs, prs, pfn, prn, Option.isSome_some, Option.isSome_none]) <;> rfl) (c15 [(82, []), (109, [55, 53, 53])] .none [[97]] .none 82 _ _ (by decide))) rfl rfl ?_
  iterate 2 (refine dawp_p rfl (by (simp (disch := omega) only [push_cast, and_true, cond_true, cond_false, if_pos, if_neg, ↓reduceIte, Nat.reduceEqDiff, Nat.reduceAdd, Nat.reduceLeDiff, parseV, refV, ex1, ex2, ex3, ex4, ex5, ex6, pfs, prs, pfn, prn, Option.isSome_some, Option.isSome_none]) <;> rfl) rfl rfl ?_)
  iterate 2 (refine dawp_g rfl rfl (by simp only [push_cast, and_true, cond_true, cond_false, if_pos, if_neg, ↓reduceIte, Nat.reduceEqDiff, Nat.reduceAdd, Nat.reduceLeDiff, parseV, refV, ex1, ex2, ex3, ex4, ex5, ex6, pfs, prs, pfn, prn, Option.isSome_some, Option.isSome_none]; rfl) (fun hg => by simp (disch := omega) only [hg, push_cast, and_true, cond_true, cond_false, if_pos, if_neg, ↓reduceIte, Nat.reduceEqDiff, Nat.reduceAdd, Nat.reduceLeDiff, parseV, refV, ex1, ex2, ex3, ex4, ex5, ex6, pfs, prs, pfn, prn, Option.isSome_some, Option.isSome_none]; rfl) rfl rfl ?_)
  iterate 2 (refine dawp_p rfl (by (simp (disch := omega) only [push_cast, and_true, cond_true, cond_false, if_pos, if_neg, ↓reduceIte, Nat.reduceEqDiff, Nat.reduceAdd, Nat.reduceLeDiff, parseV, refV, ex1, ex2, ex3, ex4, ex5, ex6, pfs, prs, pfn, prn, Option.isSome_some, Option.isSome_none]) <;> rfl) rfl rfl ?_)
  refine dawp_g rfl rfl (by simp only [push_cast, and_true, cond_true, cond_false, if_pos, if_neg, ↓reduceIte, Nat.reduceEqDiff, Nat.reduceAdd, Nat.reduceLeDiff, parseV, refV, ex1, ex2, ex3, ex4, ex5, ex6, pfs, prs, pfn, prn, Option.isSome_some, Option.isSome_none]; rfl) (fun hg => by simp (disch := omega) only [hg, push_cast, and_true, cond_true, cond_false, if_pos, if_neg, ↓reduceIte, Nat.reduceEqDiff, Nat.reduceAdd, Nat.reduceLeDiff, parseV, refV, ex1, ex2, ex3, ex4, ex5, ex6, pfs, prs, pfn, prn, Option.isSome_some, Option.isSome_none]; rfl) rfl rfl ?_
  iterate 2 (refine dawp_p rfl (by (simp (disch := omega) only [push_cast, and_true, cond_true, cond_false, if_pos, if_neg, ↓reduceIte, Nat.reduceEqDiff, Nat.reduceAdd, Nat.reduceLeDiff, parseV, refV, ex1, ex2, ex3, ex4, ex5, ex6, pfs, prs, pfn, prn, Option.isSome_some, Option.isSome_none]) <;> rfl) rfl rfl ?_)
  refine dawp_g rfl rfl (by simp only [push_cast, and_true, cond_true, cond_false, if_pos, if_neg, ↓reduceIte, Nat.reduceEqDiff, Nat.reduceAdd, Nat.reduceLeDiff, parseV, refV, ex1, ex2, ex3, ex4, ex5, ex6, pfs, prs, pfn, prn, Option.isSome_some, Option.isSome_none]; rfl) (fun hg => by simp (disch := omega) only [hg, push_cast, and_true, cond_true, cond_false, if_pos, if_neg, ↓reduceIte, Nat.reduceEqDiff, Nat.reduceAdd, Nat.reduceLeDiff, parseV, refV, ex1, ex2, ex3, ex4, ex5, ex6, pfs, prs, pfn, prn, Option.isSome_some, Option.isSome_none]; rfl) rfl rfl ?_
  refine dawp_gh rfl rfl (by simp only [push_cast, and_true, cond_true, cond_false, if_pos, if_neg, ↓reduceIte, Nat.reduceEqDiff, Nat.reduceAdd, Nat.reduceLeDiff, parseV, refV, ex1, ex2, ex3, ex4, ex5, ex6, pfs, prs, pfn, prn, Option.isSome_some, Option.isSome_none]; rfl) (fun hg => by simp (disch := omega) only [hg, push_cast, and_true, cond_true, cond_false, if_pos, if_neg, ↓reduceIte, Nat.reduceEqDiff, Nat.reduceAdd, Nat.reduceLeDiff, parseV, refV, ex1, ex2, ex3, ex4, ex5, ex6, pfs, prs, pfn, prn, Option.isSome_some, Option.isSome_none]; rfl) rfl rfl ?_
  iterate 2 (refine dawp_g rfl rfl (by simp only [push_cast, and_true, cond_true, cond_false, if_pos, if_neg, ↓reduceIte, Nat.reduceEqDiff, Nat.reduceAdd, Nat.reduceLeDiff, parseV, refV, ex1, ex2, ex3, ex4, ex5, ex6, pfs, prs, pfn, prn, Option.isSome_some, Option.isSome_none]; rfl) (fun hg => by simp (disch := omega) only [hg, push_cast, and_true, cond_true, cond_false, if_pos, if_neg, ↓reduceIte, Nat.reduceEqDiff, Nat.reduceAdd, Nat.reduceLeDiff, parseV, refV, ex1, ex2, ex3, ex4, ex5, ex6, pfs, prs, pfn, prn, Option.isSome_some, Option.isSome_none]; rfl) rfl rfl ?_)
  iterate 2 (refine dawp_p rfl (by (simp (disch := omega) only [push_cast, and_true, cond_true, cond_false, if_pos, if_neg, ↓reduceIte, Nat.reduceEqDiff, Nat.reduceAdd, Nat.reduceLeDiff, parseV, refV, ex1, ex2, ex3, ex4, ex5, ex6, pfs, prs, pfn, prn, Option.isSome_some, Option.isSome_none]) <;> rfl) rfl rfl ?_)
  refine dawp_g rfl rfl (by simp only [push_cast, and_true, cond_true, cond_false, if_pos, if_neg, ↓reduceIte, Nat.reduceEqDiff, Nat.reduceAdd, Nat.reduceLeDiff, parseV, refV, ex1, ex2, ex3, ex4, ex5, ex6, pfs, prs, pfn, prn, Option.isSome_some, Option.isSome_none]; rfl) (fun hg => by simp (disch := omega) only [hg, push_cast, and_true, cond_true, cond_false, if_pos, if_neg, ↓reduceIte, Nat.reduceEqDiff, Nat.reduceAdd, Nat.reduceLeDiff, parseV, refV, ex1, ex2, ex3, ex4, ex5, ex6, pfs, prs, pfn, prn, Option.isSome_some, Option.isSome_none]; rfl) rfl rfl ?_
  refine dawp_gh rfl rfl (by simp only [push_cast, and_true, cond_true, cond_false, if_pos, if_neg, ↓reduceIte, Nat.reduceEqDiff, Nat.reduceAdd, Nat.reduceLeDiff, parseV, refV, ex1, ex2, ex3, ex4, ex5, ex6, pfs, prs, pfn, prn, Option.isSome_some, Option.isSome_none]; rfl) (fun hg => by simp (disch := omega) only [hg, push_cast, and_true, cond_true, cond_false, if_pos, if_neg, ↓reduceIte, Nat.reduceEqDiff, Nat.reduceAdd, Nat.reduceLeDiff, parseV, refV, ex1, ex2, ex3, ex4, ex5, ex6, pfs, prs, pfn, prn, Option.isSome_some, Option.isSome_none]; rfl) rfl rfl ?_
  iterate 2 (refine dawp_g rfl rfl (by simp only [push_cast, and_true, cond_true, cond_false, if_pos, if_neg, ↓reduceIte, Nat.reduceEqDiff, Nat.reduceAdd, Nat.reduceLeDiff, parseV, refV, ex1, ex2, ex3, ex4, ex5, ex6, pfs, prs, pfn, prn, Option.isSome_some, Option.isSome_none]; rfl) (fun hg => by simp (disch := omega) only [hg, push_cast, and_true, cond_true, cond_false, if_pos, if_neg, ↓reduceIte, Nat.reduceEqDiff, Nat.reduceAdd, Nat.reduceLeDiff, parseV, refV, ex1, ex2, ex3, ex4, ex5, ex6, pfs, prs, pfn, prn, Option.isSome_some, Option.isSome_none]; rfl) rfl rfl ?_)
  iterate 2 (refine dawp_p rfl (by (simp (disch := omega) only [push_cast, and_true, cond_true, cond_false, if_pos, if_neg, ↓reduceIte, Nat.reduceEqDiff, Nat.reduceAdd, Nat.reduceLeDiff, parseV, refV, ex1, ex2, ex3, ex4, ex5, ex6, pfs, prs, pfn, prn, Option.isSome_some, Option.isSome_none]) <;> rfl) rfl rfl ?_)
  refine dawp_g rfl rfl (by simp only [push_cast, and_true, cond_true, cond_false, if_pos, if_neg, ↓reduceIte, Nat.reduceEqDiff, Nat.reduceAdd, Nat.reduceLeDiff, parseV, refV, ex1, ex2, ex3, ex4, ex5, ex6, pfs, prs, pfn, prn, Option.isSome_some, Option.isSome_none]; rfl) (fun hg => by simp (disch := omega) only [hg, push_cast, and_true, cond_true, cond_false, if_pos, if_neg, ↓reduceIte, Nat.reduceEqDiff, Nat.reduceAdd, Nat.reduceLeDiff, parseV, refV, ex1, ex2, ex3, ex4, ex5, ex6, pfs, prs, pfn, prn, Option.isSome_some, Option.isSome_none]; rfl) rfl rfl ?_
  refine dawp_gh rfl rfl (by simp only [push_cast, and_true, cond_true, cond_false, if_pos, if_neg, ↓reduceIte, Nat.reduceEqDiff, Nat.reduceAdd, Nat.reduceLeDiff, parseV, refV, ex1, ex2, ex3, ex4, ex5, ex6, pfs, prs, pfn, prn, Option.isSome_some, Option.isSome_none]; rfl) (fun hg => by simp (disch := omega) only [hg, push_cast, and_true, cond_true, cond_false, if_pos, if_neg, ↓reduceIte, Nat.reduceEqDiff, Nat.reduceAdd, Nat.reduceLeDiff, parseV, refV, ex1, ex2, ex3, ex4, ex5, ex6, pfs, prs, pfn, prn, Option.isSome_some, Option.isSome_none]; rfl) rfl rfl ?_
  refine dawp_g rfl rfl (by simp only [push_cast, and_true, cond_true, cond_false, if_pos, if_neg, ↓reduceIte, Nat.reduceEqDiff, Nat.reduceAdd, Nat.reduceLeDiff, parseV, refV, ex1, ex2, ex3, ex4, ex5, ex6, pfs, prs, pfn, prn, Option.isSome_some, Option.isSome_none]; rfl) (fun hg => by simp (disch := omega) only [hg, push_cast, and_true, cond_true, cond_false, if_pos, if_neg, ↓reduceIte, Nat.reduceEqDiff, Nat.reduceAdd, Nat.reduceLeDiff, parseV, refV, ex1, ex2, ex3, ex4, ex5, ex6, pfs, prs, pfn, prn, Option.isSome_some, Option.isSome_none]; rfl) rfl rfl ?_
  refine dawp_gh rfl rfl (by simp only [push_cast, and_true, cond_true, cond_false, if_pos, if_neg, ↓reduceIte, Nat.reduceEqDiff, Nat.reduceAdd, Nat.reduceLeDiff, parseV, refV, ex1, ex2, ex3, ex4, ex5, ex6, pfs, prs, pfn, prn, Option.isSome_some, Option.isSome_none]; rfl) (fun hg => by simp (disch := omega) only [hg, push_cast, and_true, cond_true, cond_false, if_pos, if_neg, ↓reduceIte, Nat.reduceEqDiff, Nat.reduceAdd, Nat.reduceLeDiff, parseV, refV, ex1, ex2, ex3, ex4, ex5, ex6, pfs, prs, pfn, prn, Option.isSome_some, Option.isSome_none]; rfl) rfl rfl ?_
  refine dawp_g rfl rfl (by simp only [push_cast, and_true, cond_true, cond_false, if_pos, if_neg, ↓reduceIte, Nat.reduceEqDiff, Nat.reduceAdd, Nat.reduceLeDiff, parseV, refV, ex1, ex2, ex3, ex4, ex5, ex6, pfs, prs, pfn, prn, Option.isSome_some, Option.isSome_none]; rfl) (fun hg => by simp (disch := omega) only [hg, push_cast, and_true, cond_true, cond_false, if_pos, if_neg, ↓reduceIte, Nat.reduceEqDiff, Nat.reduceAdd, Nat.reduceLeDiff, parseV, refV, ex1, ex2, ex3, ex4, ex5, ex6, pfs, prs, pfn, prn, Option.isSome_some, Option.isSome_none]; rfl) rfl rfl ?_
  iterate 2 (refine dawp_p rfl (by (simp (disch := omega) only [push_cast, and_true, cond_true, cond_false, if_pos, if_neg, ↓reduceIte, Nat.reduceEqDiff, Nat.reduceAdd, Nat.reduceLeDiff, parseV, refV, ex1, ex2, ex3, ex4, ex5, ex6, pfs, prs, pfn, prn, Option.isSome_some, Option.isSome_none]) <;> rfl) rfl rfl ?_)
  refine dawp_gh rfl rfl (by simp only [push_cast, and_true, cond_true, cond_false, if_pos, if_neg, ↓reduceIte, Nat.reduceEqDiff, Nat.reduceAdd, Nat.reduceLeDiff, parseV, refV, ex1, ex2, ex3, ex4, ex5, ex6, pfs, prs, pfn, prn, Option.isSome_some, Option.isSome_none]; rfl) (fun hg => by simp (disch := omega) only [hg, push_cast, and_true, cond_true, cond_false, if_pos, if_neg, ↓reduceIte, Nat.reduceEqDiff, Nat.reduceAdd, Nat.reduceLeDiff, parseV, refV, ex1, ex2, ex3, ex4, ex5, ex6, pfs, prs, pfn, prn, Option.isSome_some, Option.isSome_none]; rfl) rfl rfl ?_
  refine dawp_gr rfl rfl rfl (by simp only [push_cast, and_true, cond_true, cond_false, if_pos, if_neg, ↓reduceIte, Nat.reduceEqDiff, Nat.reduceAdd, Nat.reduceLeDiff, parseV, refV, ex1, ex2, ex3, ex4, ex5, ex6, pfs, prs, pfn, prn, Option.isSome_some, Option.isSome_none]; rfl) (fun hg => AOp.callx _ _ _ rfl (by (simp (disch := omega) only [hg, push_cast, and_true, cond_true, cond_false, if_pos, if_neg, ↓reduceIte, Nat.reduceEqDiff, Nat.reduceAdd, Nat.reduceLeDiff, parseV, refV, ex1, ex2, ex3, ex4, ex5, ex6, pfs, prs, pfn, prn, Option.isSome_some, Option.isSome_none]) <;> rfl) (by (simp (disch := omega) only [hg, push_cast, and_true, cond_true, cond_false, if_pos, if_neg, ↓reduceIte, Nat.reduceEqDiff, Nat.reduceAdd, Nat.reduceLeDiff, parseV, refV, ex1, ex2, ex3, ex4, ex5, ex6, pfs, prs, pfn, prn, Option.isSome_some, Option.isSome_none]) <;> rfl) (c16 [(82, []), (109, [55, 53, 53])] .none [[97]] .none [82, 109] _ _ (by decide))) rfl rfl ?_
  refine dawp_g rfl rfl (by simp only [push_cast, and_true, cond_true, cond_false, if_pos, if_neg, ↓reduceIte, Nat.reduceEqDiff, Nat.reduceAdd, Nat.reduceLeDiff, parseV, refV, ex1, ex2, ex3, ex4, ex5, ex6, pfs, prs, pfn, prn, Option.isSome_some, Option.isSome_none]; rfl) (fun hg => by simp (disch := omega) only [hg, push_cast, and_true, cond_true, cond_false, if_pos, if_neg, ↓reduceIte, Nat.reduceEqDiff, Nat.reduceAdd, Nat.reduceLeDiff, parseV, refV, ex1, ex2, ex3, ex4, ex5, ex6, pfs, prs, pfn, prn, Option.isSome_some, Option.isSome_none]; rfl) rfl rfl ?_
  iterate 2 (refine dawp_p rfl (by (simp (disch := omega) only [push_cast, and_true, cond_true, cond_false, if_pos, if_neg, ↓reduceIte, Nat.reduceEqDiff, Nat.reduceAdd, Nat.reduceLeDiff, parseV, refV, ex1, ex2, ex3, ex4, ex5, ex6, pfs, prs, pfn, prn, Option.isSome_some, Option.isSome_none]) <;> rfl) rfl rfl ?_)
  refine dawp_nil ?_
  simp (disch := omega) only [push_cast, and_true, cond_true, cond_false, if_pos, if_neg, ↓reduceIte, Nat.reduceEqDiff, Nat.reduceAdd, Nat.reduceLeDiff, parseV, refV, ex1, ex2, ex3, ex4, ex5, ex6, pfs, prs, pfn, prn, Option.isSome_some, Option.isSome_none]
  refine hK6 _ ?_
  refine awp_ret ?_
  try simp only [push_cast]
  refine fin_pure (by (simp (disch := omega) only [Try.results8, aresults, aresult, push_cast, and_true, cond_true, cond_false, if_pos, if_neg, ↓reduceIte, Nat.reduceEqDiff, Nat.reduceAdd, Nat.reduceLeDiff, parseV, refV, ex1, ex2, ex3, ex4, ex5, ex6, pfs, prs, pfn, prn, Option.isSome_some, Option.isSome_none]) <;> rfl) (by simp only [atuple, AV.er, AV.erL, push_cast]; rfl) (by simp [AV.cl, AV.clL]) (by first | exact ⟨_, rfl⟩ | exact ⟨[], (List.append_nil _).symm⟩) hH (fun _ h => h) ?_
  exact ⟨rfl, rfl, rfl⟩

set_option maxHeartbeats 400000 in
theorem c3 (may : List UInt8) (args : List (List UInt8)) (cl : Cap) (h : List Blk) (live : List Nat) (hl : args.length ≤ 9223372036854775807) : ACalls Try.prog 3 [.str may, .slice (args.map .str) cl] h live (ret (.bool true) h live) := by
  refine acalls_of_awp Try.func3 rfl rfl (Nat.le_of_ble_eq_true rfl) fun hH hX => ?_
  simp only [fargs]
  refine awp_seq_k fun K1 hK1 => ?_
  refine awp_region_keep [0, 1] ⟨false, [], [], []⟩ (fun h => nomatch h) ?_
  refine dawp_p rfl (by (simp (disch := omega) only [push_cast, and_true, cond_true, cond_false, if_pos, if_neg, ↓reduceIte, Nat.reduceEqDiff, Nat.reduceAdd, Nat.reduceLeDiff, parseV, refV]) <;> rfl) rfl rfl ?_
  refine dawp_nil ?_
  simp (disch := omega) only [push_cast, and_true, cond_true, cond_false, if_pos, if_neg, ↓reduceIte, Nat.reduceEqDiff, Nat.reduceAdd, Nat.reduceLeDiff, parseV, refV]
  refine hK1 _ ?_
  refine awp_seq_k fun K2 hK2 => ?_
  refine awp_region_keep [0, 1, 5] ⟨false, [], [], []⟩ (fun h => nomatch h) ?_
  refine dawp_w rfl rfl rfl rfl (AOp.callx _ _ _ rfl (by (simp (disch := omega) only [push_cast, and_true, cond_true, cond_false, if_pos, if_neg, ↓reduceIte, Nat.reduceEqDiff, Nat.reduceAdd, Nat.reduceLeDiff, parseV, refV]) <;> rfl) (by (simp (disch := omega) only [push_cast, and_true, cond_true, cond_false, if_pos, if_neg, ↓reduceIte, Nat.reduceEqDiff, Nat.reduceAdd, Nat.reduceLeDiff, parseV, refV]) <;> rfl) ?_)  
  refine (c8 _ _).mono ?_; rintro _ _ _ ⟨rfl, rfl, rfl⟩
  refine dawp_p rfl (by (simp (disch := omega) only [push_cast, and_true, cond_true, cond_false, if_pos, if_neg, ↓reduceIte, Nat.reduceEqDiff, Nat.reduceAdd, Nat.reduceLeDiff, parseV, refV]) <;> rfl) rfl rfl ?_
  refine dawp_nil ?_
  simp (disch := omega) only [push_cast, and_true, cond_true, cond_false, if_pos, if_neg, ↓reduceIte, Nat.reduceEqDiff, Nat.reduceAdd, Nat.reduceLeDiff, parseV, refV]
  refine hK2 _ ?_
  refine awp_seq_k fun K3 hK3 => ?_
  refine awp_seq_k fun K4 hK4 => ?_
  refine awp_region_keep [0, 1, 12] ⟨false, [], [], []⟩ (fun h => nomatch h) ?_
  iterate 2 (refine dawp_p rfl (by (simp (disch := omega) only [push_cast, and_true, cond_true, cond_false, if_pos, if_neg, ↓reduceIte, Nat.reduceEqDiff, Nat.reduceAdd, Nat.reduceLeDiff, parseV, refV]) <;> rfl) rfl rfl ?_)
  refine dawp_nil ?_
  simp (disch := omega) only [push_cast, and_true, cond_true, cond_false, if_pos, if_neg, ↓reduceIte, Nat.reduceEqDiff, Nat.reduceAdd, Nat.reduceLeDiff, parseV, refV]
  refine hK4 _ ?_
  refine awp_cond (by (simp (disch := omega) only [push_cast, and_true, cond_true, cond_false, if_pos, if_neg, ↓reduceIte, Nat.reduceEqDiff, Nat.reduceAdd, Nat.reduceLeDiff, parseV, refV]) <;> rfl) (fun hb1 => ?_) (fun hb1 => ?_)
  · skip
    exfalso; simp at hb1
  try simp only [decide_eq_true_eq, decide_eq_false_iff_not, Bool.not_eq_true', Bool.not_eq_false', Bool.or_eq_true, Bool.and_eq_true, Bool.or_eq_false_iff, Bool.and_eq_false_imp, Int.not_lt, Int.not_le] at hb1
  refine awp_skip ?_
  try simp only [push_cast]
  refine hK3 _ ?_
  refine awp_seq_k fun K5 hK5 => ?_
  refine awp_region_keep [0, 1, 6] ⟨false, [], [], []⟩ (fun h => nomatch h) ?_
  refine dawp_p rfl (by (simp (disch := omega) only [push_cast, and_true, cond_true, cond_false, if_pos, if_neg, ↓reduceIte, Nat.reduceEqDiff, Nat.reduceAdd, Nat.reduceLeDiff, parseV, refV]) <;> rfl) rfl rfl ?_
  refine dawp_w rfl rfl rfl rfl (AOp.callx _ _ _ rfl (by (simp (disch := omega) only [push_cast, and_true, cond_true, cond_false, if_pos, if_neg, ↓reduceIte, Nat.reduceEqDiff, Nat.reduceAdd, Nat.reduceLeDiff, parseV, refV]) <;> rfl) (by (simp (disch := omega) only [push_cast, and_true, cond_true, cond_false, if_pos, if_neg, ↓reduceIte, Nat.reduceEqDiff, Nat.reduceAdd, Nat.reduceLeDiff, parseV, refV]) <;> rfl) ?_)  
  refine (c9 _ _ _ _ hl).mono ?_; rintro _ _ _ ⟨rfl, rfl, rfl⟩
  refine dawp_p rfl (by (simp (disch := omega) only [push_cast, and_true, cond_true, cond_false, if_pos, if_neg, ↓reduceIte, Nat.reduceEqDiff, Nat.reduceAdd, Nat.reduceLeDiff, parseV, refV]) <;> rfl) rfl rfl ?_
  refine dawp_nil ?_
  simp (disch := omega) only [push_cast, and_true, cond_true, cond_false, if_pos, if_neg, ↓reduceIte, Nat.reduceEqDiff, Nat.reduceAdd, Nat.reduceLeDiff, parseV, refV]
  refine hK5 _ ?_
  refine awp_seq_k fun K6 hK6 => ?_
  refine awp_seq_k fun K7 hK7 => ?_
  refine awp_region_keep [0, 1, 21] ⟨false, [], [], []⟩ (fun h => nomatch h) ?_
  iterate 3 (refine dawp_p rfl (by (simp (disch := omega) only [push_cast, and_true, cond_true, cond_false, if_pos, if_neg, ↓reduceIte, Nat.reduceEqDiff, Nat.reduceAdd, Nat.reduceLeDiff, parseV, refV]) <;> rfl) rfl rfl ?_)
  iterate 3 (refine dawp_g rfl rfl (by simp only [push_cast, and_true, cond_true, cond_false, if_pos, if_neg, ↓reduceIte, Nat.reduceEqDiff, Nat.reduceAdd, Nat.reduceLeDiff, parseV, refV]; rfl) (fun hg => by simp (disch := omega) only [hg, push_cast, and_true, cond_true, cond_false, if_pos, if_neg, ↓reduceIte, Nat.reduceEqDiff, Nat.reduceAdd, Nat.reduceLeDiff, parseV, refV]; rfl) rfl rfl ?_)
  refine dawp_p rfl (by (simp (disch := omega) only [push_cast, and_true, cond_true, cond_false, if_pos, if_neg, ↓reduceIte, Nat.reduceEqDiff, Nat.reduceAdd, Nat.reduceLeDiff, parseV, refV]) <;> rfl) rfl rfl ?_
  refine dawp_nil ?_
  simp (disch := omega) only [push_cast, and_true, cond_true, cond_false, if_pos, if_neg, ↓reduceIte, Nat.reduceEqDiff, Nat.reduceAdd, Nat.reduceLeDiff, parseV, refV]
  refine hK7 _ ?_
  refine awp_cond (by (simp (disch := omega) only [push_cast, and_true, cond_true, cond_false, if_pos, if_neg, ↓reduceIte, Nat.reduceEqDiff, Nat.reduceAdd, Nat.reduceLeDiff, parseV, refV]) <;> rfl) (fun hb2 => ?_) (fun hb2 => ?_)
  · skip
    refine awp_seq_k fun K8 hK8 => ?_
    refine awp_region_keep [4] ⟨false, [], [], []⟩ (fun h => nomatch h) ?_
    refine dawp_p rfl (by (simp (disch := omega) only [push_cast, and_true, cond_true, cond_false, if_pos, if_neg, ↓reduceIte, Nat.reduceEqDiff, Nat.reduceAdd, Nat.reduceLeDiff, parseV, refV]) <;> rfl) rfl rfl ?_
    refine dawp_nil ?_
    simp (disch := omega) only [push_cast, and_true, cond_true, cond_false, if_pos, if_neg, ↓reduceIte, Nat.reduceEqDiff, Nat.reduceAdd, Nat.reduceLeDiff, parseV, refV]
    refine hK8 _ ?_
    refine awp_ret ?_
    try simp only [push_cast]
    refine fin_pure (by (simp (disch := omega) only [Try.results3, aresults, aresult, push_cast, and_true, cond_true, cond_false, if_pos, if_neg, ↓reduceIte, Nat.reduceEqDiff, Nat.reduceAdd, Nat.reduceLeDiff, parseV, refV]) <;> rfl) (by simp only [atuple, AV.er, AV.erL, push_cast]; rfl) (by simp [AV.cl, AV.clL]) (by first | exact ⟨_, rfl⟩ | exact ⟨[], (List.append_nil _).symm⟩) hH (fun _ h => h) ?_
    exact ⟨rfl, rfl, rfl⟩
  simp only [Bool.or_eq_false_iff, Bool.not_eq_false', decide_eq_false_iff_not] at hb2
  obtain ⟨hfe, hma⟩ := hb2
  obtain ⟨hfw, hfl⟩ := few_spec hfe
  refine awp_skip ?_
  try simp only [push_cast]
  refine hK6 _ ?_
  refine awp_seq_k fun K9 hK9 => ?_
  refine awp_region_keep [0, 1, 7, 8] ⟨false, [], [], []⟩ (fun h => nomatch h) ?_
  iterate 2 (refine dawp_p rfl (by (simp (disch := omega) only [push_cast, and_true, cond_true, cond_false, if_pos, if_neg, ↓reduceIte, Nat.reduceEqDiff, Nat.reduceAdd, Nat.reduceLeDiff, parseV, refV]) <;> rfl) rfl rfl ?_)
  refine dawp_w rfl rfl rfl rfl (AOp.callx _ _ _ rfl (by (simp (disch := omega) only [push_cast, and_true, cond_true, cond_false, if_pos, if_neg, ↓reduceIte, Nat.reduceEqDiff, Nat.reduceAdd, Nat.reduceLeDiff, parseV, refV]) <;> rfl) (by (simp (disch := omega) only [push_cast, and_true, cond_true, cond_false, if_pos, if_neg, ↓reduceIte, Nat.reduceEqDiff, Nat.reduceAdd, Nat.reduceLeDiff, parseV, refV]) <;> rfl) ?_)  
  refine (c10 _ _ _ _ _ (by omega) (by omega) (fun s hs => by have := hfw s hs; omega)).mono ?_; rintro _ _ _ ⟨rfl, rfl, rfl⟩
  iterate 3 (refine dawp_p rfl (by (simp (disch := omega) only [push_cast, and_true, cond_true, cond_false, if_pos, if_neg, ↓reduceIte, Nat.reduceEqDiff, Nat.reduceAdd, Nat.reduceLeDiff, parseV, refV]) <;> rfl) rfl rfl ?_)
  refine dawp_h rfl (by (simp (disch := omega) only [push_cast, and_true, cond_true, cond_false, if_pos, if_neg, ↓reduceIte, Nat.reduceEqDiff, Nat.reduceAdd, Nat.reduceLeDiff, parseV, refV]) <;> rfl) rfl rfl ?_
  refine dawp_hn rfl (by (simp (disch := omega) only [push_cast, and_true, cond_true, cond_false, if_pos, if_neg, ↓reduceIte, Nat.reduceEqDiff, Nat.reduceAdd, Nat.reduceLeDiff, parseV, refV]) <;> rfl) rfl ?_
  refine dawp_p rfl (by (simp (disch := omega) only [push_cast, and_true, cond_true, cond_false, if_pos, if_neg, ↓reduceIte, Nat.reduceEqDiff, Nat.reduceAdd, Nat.reduceLeDiff, parseV, refV]) <;> rfl) rfl rfl ?_
  refine dawp_nil ?_
  simp (disch := omega) only [push_cast, and_true, cond_true, cond_false, if_pos, if_neg, ↓reduceIte, Nat.reduceEqDiff, Nat.reduceAdd, Nat.reduceLeDiff, parseV, refV]
  refine hK9 _ ?_
  refine awp_seq_k fun K10 hK10 => ?_
  refine awp_region_keep [7, 8, 9] ⟨false, [], [], []⟩ (fun h => nomatch h) ?_
  iterate 2 (refine dawp_p rfl (by (simp (disch := omega) only [push_cast, and_true, cond_true, cond_false, if_pos, if_neg, ↓reduceIte, Nat.reduceEqDiff, Nat.reduceAdd, Nat.reduceLeDiff, parseV, refV]) <;> rfl) rfl rfl ?_)
  refine dawp_w rfl rfl rfl rfl (AOp.callx _ _ _ rfl (by (simp (disch := omega) only [push_cast, and_true, cond_true, cond_false, if_pos, if_neg, ↓reduceIte, Nat.reduceEqDiff, Nat.reduceAdd, Nat.reduceLeDiff, parseV, refV]) <;> rfl) (by (simp (disch := omega) only [push_cast, and_true, cond_true, cond_false, if_pos, if_neg, ↓reduceIte, Nat.reduceEqDiff, Nat.reduceAdd, Nat.reduceLeDiff, parseV, refV]) <;> rfl) ?_)  
  refine (c11 _ _ _ _ _ (by omega) (by omega) (fun s hs => by have := hfw s hs; omega)).mono ?_; rintro _ _ _ ⟨rfl, rfl, rfl⟩
  refine dawp_h rfl (by (simp (disch := omega) only [push_cast, and_true, cond_true, cond_false, if_pos, if_neg, ↓reduceIte, Nat.reduceEqDiff, Nat.reduceAdd, Nat.reduceLeDiff, parseV, refV]) <;> rfl) rfl rfl ?_
  refine dawp_hn rfl (by (simp (disch := omega) only [push_cast, and_true, cond_true, cond_false, if_pos, if_neg, ↓reduceIte, Nat.reduceEqDiff, Nat.reduceAdd, Nat.reduceLeDiff, parseV, refV]) <;> rfl) rfl ?_
  refine dawp_nil ?_
  simp (disch := omega) only [push_cast, and_true, cond_true, cond_false, if_pos, if_neg, ↓reduceIte, Nat.reduceEqDiff, Nat.reduceAdd, Nat.reduceLeDiff, parseV, refV]
  refine hK10 _ ?_
  refine awp_seq_k fun K11 hK11 => ?_
  refine awp_region_keep [4] ⟨false, [], [], []⟩ (fun h => nomatch h) ?_
  iterate 3 (refine dawp_p rfl (by (simp (disch := omega) only [push_cast, and_true, cond_true, cond_false, if_pos, if_neg, ↓reduceIte, Nat.reduceEqDiff, Nat.reduceAdd, Nat.reduceLeDiff, parseV, refV]) <;> rfl) rfl rfl ?_)
  refine dawp_h rfl (by (simp (disch := omega) only [push_cast, and_true, cond_true, cond_false, if_pos, if_neg, ↓reduceIte, Nat.reduceEqDiff, Nat.reduceAdd, Nat.reduceLeDiff, parseV, refV]) <;> rfl) rfl rfl ?_
  iterate 2 (refine dawp_p rfl (by (simp (disch := omega) only [push_cast, and_true, cond_true, cond_false, if_pos, if_neg, ↓reduceIte, Nat.reduceEqDiff, Nat.reduceAdd, Nat.reduceLeDiff, parseV, refV]) <;> rfl) rfl rfl ?_)
  iterate 3 (refine dawp_g rfl rfl (by simp only [push_cast, and_true, cond_true, cond_false, if_pos, if_neg, ↓reduceIte, Nat.reduceEqDiff, Nat.reduceAdd, Nat.reduceLeDiff, parseV, refV]; rfl) (fun hg => by simp (disch := omega) only [hg, push_cast, and_true, cond_true, cond_false, if_pos, if_neg, ↓reduceIte, Nat.reduceEqDiff, Nat.reduceAdd, Nat.reduceLeDiff, parseV, refV]; rfl) rfl rfl ?_)
  refine dawp_gh rfl rfl (by simp only [push_cast, and_true, cond_true, cond_false, if_pos, if_neg, ↓reduceIte, Nat.reduceEqDiff, Nat.reduceAdd, Nat.reduceLeDiff, parseV, refV]; rfl) (fun hg => by simp (disch := omega) only [hg, push_cast, and_true, cond_true, cond_false, if_pos, if_neg, ↓reduceIte, Nat.reduceEqDiff, Nat.reduceAdd, Nat.reduceLeDiff, parseV, refV]; rfl) rfl rfl ?_
  iterate 2 (refine dawp_g rfl rfl (by simp only [push_cast, and_true, cond_true, cond_false, if_pos, if_neg, ↓reduceIte, Nat.reduceEqDiff, Nat.reduceAdd, Nat.reduceLeDiff, parseV, refV]; rfl) (fun hg => by simp (disch := omega) only [hg, push_cast, and_true, cond_true, cond_false, if_pos, if_neg, ↓reduceIte, Nat.reduceEqDiff, Nat.reduceAdd, Nat.reduceLeDiff, parseV, refV]; rfl) rfl rfl ?_)
  iterate 2 (refine dawp_p rfl (by (simp (disch := omega) only [push_cast, and_true, cond_true, cond_false, if_pos, if_neg, ↓reduceIte, Nat.reduceEqDiff, Nat.reduceAdd, Nat.reduceLeDiff, parseV, refV]) <;> rfl) rfl rfl ?_)
  iterate 2 (refine dawp_gh rfl rfl (by simp only [push_cast, and_true, cond_true, cond_false, if_pos, if_neg, ↓reduceIte, Nat.reduceEqDiff, Nat.reduceAdd, Nat.reduceLeDiff, parseV, refV]; rfl) (fun hg => by simp (disch := omega) only [hg, push_cast, and_true, cond_true, cond_false, if_pos, if_neg, ↓reduceIte, Nat.reduceEqDiff, Nat.reduceAdd, Nat.reduceLeDiff, parseV, refV]; rfl) rfl rfl ?_)
  refine dawp_gr rfl rfl rfl (by simp only [push_cast, and_true, cond_true, cond_false, if_pos, if_neg, ↓reduceIte, Nat.reduceEqDiff, Nat.reduceAdd, Nat.reduceLeDiff, parseV, refV]; rfl) (fun hg => AOp.callx _ _ _ rfl (by (simp (disch := omega) only [hg, push_cast, and_true, cond_true, cond_false, if_pos, if_neg, ↓reduceIte, Nat.reduceEqDiff, Nat.reduceAdd, Nat.reduceLeDiff, parseV, refV]) <;> rfl) (by (simp (disch := omega) only [hg, push_cast, and_true, cond_true, cond_false, if_pos, if_neg, ↓reduceIte, Nat.reduceEqDiff, Nat.reduceAdd, Nat.reduceLeDiff, parseV, refV]) <;> rfl) (c12 _ _ _ _ _ _ _ _ _ (parse_len hfw hfl).1 (parse_len hfw hfl).2)) rfl rfl ?_
  iterate 2 (refine dawp_p rfl (by (simp (disch := omega) only [push_cast, and_true, cond_true, cond_false, if_pos, if_neg, ↓reduceIte, Nat.reduceEqDiff, Nat.reduceAdd, Nat.reduceLeDiff, parseV, refV]) <;> rfl) rfl rfl ?_)
  refine dawp_nil ?_
  simp (disch := omega) only [push_cast, and_true, cond_true, cond_false, if_pos, if_neg, ↓reduceIte, Nat.reduceEqDiff, Nat.reduceAdd, Nat.reduceLeDiff, parseV, refV]
  refine hK11 _ ?_
  refine awp_ret ?_
  try simp only [push_cast]
  refine fin_pure (by (simp (disch := omega) only [Try.results3, aresults, aresult, push_cast, and_true, cond_true, cond_false, if_pos, if_neg, ↓reduceIte, Nat.reduceEqDiff, Nat.reduceAdd, Nat.reduceLeDiff, parseV, refV]) <;> rfl) (by simp only [atuple, AV.er, AV.erL, push_cast]; rfl) (by simp [AV.cl, AV.clL]) (by first | exact ⟨_, rfl⟩ | exact ⟨[], (List.append_nil _).symm⟩) hH (fun _ h => h) ?_
  refine ⟨?_, rfl, rfl⟩
  simp


end Go.Proofs.Ytjlcdkklobcdhaa
namespace Go.Proofs.Ytjlcdkklobcdhaa

end Go.Proofs.Ytjlcdkklobcdhaa
