import Derived.Test.YtjoklidphbmpoaaGreatA26
/-
  TREES: the law of what a path leads to.
-/
namespace Go.Proofs.YtjoklidphbmpoaaGreat
open Go.Ab
set_option linter.unusedVariables false
set_option linter.unusedSimpArgs false
set_option maxRecDepth 8000
set_option maxHeartbeats 400000


/-- Behind a call the heap is closed. -/
theorem ACalls.hclK {P : Program} {f : FuncId} {xs : List AV} {h : List Blk} {live : List Nat} {K : KT} (hc : ACalls P f xs h live K) : ACalls P f xs h live fun x h' l' => K x h' l' ∧ HCl h' :=
  fun w G vs h1 h2 h3 => (hc w G vs h1 h2 h3).mono fun v w' hp => by
    obtain ⟨x, h', l', G', k, r, hh, e⟩ := hp
    exact ⟨x, h', l', G', ⟨k, hh.hcl⟩, r, hh, e⟩

theorem c5 (room : Int) (l : List Rw) (c : Cr) (p : List UInt8) (h : List Blk) (live : List Nat) (hh0 : h = []) (hn : l.length ≤ 9223372036854775807) (hgs : c.gs.length ≤ 9223372036854775807) (hp : p.length ≤ 9223372036854775807) : ACalls Tryz.prog 5 [.int .i64 room, .slice (l.map rV) .none, .agg [.int .i64 c.uid, .int .i64 c.gid, .slice (c.gs.map iV) .none], .str p] h live (ret (.bool true) h live) := by
  refine ab_ Tryz.func5 (hw := fun hH hX => ?_)
  have sx := (And.intro @Bool.true_and sx0)
  refine rg_ [0, 1, 3, 6] ?_
  refine rs_ [0, 1, 3, 6, 9] ?_
  refine cl_ (hc := c6 _ _) (k := ?_)
  refine sg_ ?_
  refine re_ ?_
  refine sk_ fun K1 hK1 => ?_
  refine rg_ [0, 1, 3, 6, 19] ?_
  refine cdn_ (ht := fun hb1 => ?_) (hf := fun hb1 => ?_)
  · exfalso; exact Bool.noConfusion hb1
  refine awp_skip (up_ ?_)
  refine hK1 _ ?_
  refine rs_ [3, 6, 10, 11] ?_
  refine sg_ ?_
  refine ck_ (k := ?_)
  refine (ACalls.hclK (c7 room l c _ _ hn hgs)).mono ?_; rintro _ H live ⟨⟨rfl, g, pp, rfl, hHg, hpc, hpp⟩, hHH⟩
  have hbx : H[h.length]? = some (.cells [AV.int .i64 c.uid, .int .i64 c.gid, .slice (c.gs.map iV) .none]) := by rw [hHg, List.append_assoc, get_app0]; rfl
  have hbx' : ∀ g : List Blk, (H ++ g)[h.length]? = some (.cells [AV.int .i64 c.uid, .int .i64 c.gid, .slice (c.gs.map iV) .none]) := fun g => atApp hbx
  have sx := And.intro hbx (And.intro hbx' sx)
  refine sg_ ?_
  refine re_ ?_
  refine sk_ fun K2 hK2 => ?_
  refine rg_ [3, 6, 10, 33] ?_
  refine cdn_ (ht := fun hb2 => ?_) (hf := fun hb2 => ?_)
  · refine rg_ [8] ?_
    refine awp_ret (up_ ?_)
    refine fg_ (h1 := h) Tryz.results5 (hh := (⟨_, by rw [hh0]; exact (List.nil_append _).symm⟩)) (hK := ?_)
    exact ⟨rfl, rfl, rfl⟩
  obtain ⟨hb21, hb22⟩ := hb2
  obtain ⟨T, hTe⟩ := Option.isSome_iff_exists.1 hb21
  obtain ⟨k, rfl, hk⟩ := hpp T hTe
  obtain ⟨hT, hg10⟩ := builtF_ok hTe
  obtain ⟨hR, m, htr⟩ := built_tree hTe
  have hgs9 : c.gs.length ≤ 1000000000 := by omega
  have hlo := hT.lo
  have hhi := hT.hi
  have hkl := lt_of_get hk
  have hbl := lt_of_get hbx
  refine awp_skip (up_ ?_)
  refine hK2 _ ?_
  refine rs_ [6, 10, 12, 13] ?_
  refine sg_ ?_
  refine cl_ (hc := c22 T k c p _ _ (by first | exact hk | exact atApp hk) hT hgs9 hR hp) (k := ?_)
  refine sg_ ?_
  refine re_ ?_
  refine sk_ fun K3 hK3 => ?_
  refine rs_ [6, 10, 63] ?_
  refine sg_ ?_
  refine cg_ (hc := fun hg => c12 T k c _ _ _ _ (by first | exact hk | exact atApp hk) hT hgs9) (k := ?_)
  refine sg_ ?_
  refine cg_ (hc := fun hg => c8 T k c _ _ _ _ (by first | exact hk | exact atApp hk) hT hgs9) (k := ?_)
  refine sg_ ?_
  refine re_ ?_
  refine cb_ (ht := fun hb3 => ?_) (hf := fun hb3 => ?_)
  · exfalso; simp only [Bool.and_eq_true, Bool.or_eq_true, Bool.not_eq_true', decide_eq_true_eq] at hb3; obtain ⟨h1, h2⟩ := hb3; obtain ⟨g1, g2⟩ := stat_good hT hR htr p true h1; exact h2.elim (fun e => by rw [g1] at e; cases e) (fun e => by rw [g2 e.1] at e; exact absurd e.2 (by decide))
  refine awp_skip (up_ ?_)
  refine hK3 _ ?_
  refine sk_ fun K4 hK4 => ?_
  refine rg_ [6, 10, 14] ?_
  refine awp_block ?_
  refine awp_loop' (X := {i : Nat // i ≤ T.room.toNat}) (fun x => ⟨Tryz.f5.ntmps, fget [(6, .ptr h.length 0), (10, .ptr k 0), (14, .int .i64 ((x.1 : Int) + 1))], H ++ [.cells (staC (statF T c p true).1)], live⟩) (fun x => T.room.toNat - x.1) (⟨0, Nat.zero_le _⟩) ?_ (by first | rfl | (simp only [List.length_set]; done) | simp) (fun ⟨i, hi⟩ => ?_)
  · try dsimp only
    exact tf_ (HCl.snoc hHH (clL_staC _ _)) (fun _ h => h)
  try dsimp only
  refine sk_ fun K5 hK5 => ?_
  refine rs_ [6, 10, 14, 67] ?_
  refine sg_ ?_
  refine cl_ (hc := c23 T k _ _ (by first | exact hk | exact atApp hk)) (k := ?_)
  refine sg_ ?_
  refine re_ ?_
  refine cd_ (ht := fun hb4 => ?_) (hf := fun hb4 => ?_)
  rotate_left
  · refine awp_exit (up_ ?_)
    refine hK4 _ ?_
    refine rg_ [8] ?_
    refine awp_ret (up_ ?_)
    refine fg_ (h1 := h) Tryz.results5 (hh := (⟨_, by rw [hh0]; exact (List.nil_append _).symm⟩)) (hK := ?_)
    exact ⟨rfl, rfl, rfl⟩
  have hil : i < T.room.toNat := by omega
  refine awp_skip (up_ ?_)
  refine hK5 _ ?_
  refine sk_ fun K6 hK6 => ?_
  refine awp_block ?_
  refine rs_ [6, 10, 14, 16] ?_
  refine sg_ ?_
  refine cl_ (hc := c18 T k _ _ _ (by first | exact hk | exact atApp hk) hT) (k := ?_)
  refine sg_ ?_
  refine re_ ?_
  refine rs_ [6, 10, 14, 110] ?_
  refine sg_ ?_
  refine cl_ (hc := c8 T k c _ _ _ _ (by first | exact hk | exact atApp hk) hT hgs9) (k := ?_)
  refine sg_ ?_
  refine cg_ (hc := fun hg => c12 T k c _ _ _ _ (by first | exact hk | exact atApp hk) hT hgs9) (k := ?_)
  refine sg_ ?_
  refine cg_ (hc := fun hg => c12 T k c _ _ _ _ (by first | exact hk | exact atApp hk) hT hgs9) (k := ?_)
  refine sg_ ?_
  refine cg_ (hc := fun hg => c12 T k ⟨0, 0, []⟩ .full _ _ _ (by first | exact hk | exact atApp hk) hT (by simp)) (k := ?_)
  refine sg_ ?_
  refine re_ ?_
  refine cb_ (ht := fun hb5 => ?_) (hf := fun hb5 => ?_)
  · exfalso; simp only [Bool.and_eq_true, Bool.or_eq_true, Bool.not_eq_true', Bool.not_eq_false', decide_eq_false_iff_not, decide_eq_true_eq] at hb5; exact hb5.elim (fun e => e.elim (fun e => by have := seen_of_way hT hR e.1.1 e.2; rw [this] at e; exact absurd e.1.2 (by decide)) (fun e => by have e2 := e.2; unfold seenF at e2; rw [e.1] at e2; cases e2)) (fun e => by have := htr.root_seen (c := ⟨0, 0, []⟩) hT hR rfl e.1; rw [this] at e; exact absurd e.2 (by decide))
  refine awp_skip (up_ ?_)
  refine hK6 _ ?_
  refine rt_ [6, 10, 14] ?_
  refine sg_ ?_
  refine rn_ (up_ ?_)
  refine ⟨⟨i + 1, by omega⟩, ?_, (by first | rfl | trivial | (simp only [List.length_set]; done) | simp), by dsimp only; omega⟩
  try dsimp only
  exact tf_ (HCl.snoc hHH (clL_staC _ _)) (fun _ h => h)

end Go.Proofs.YtjoklidphbmpoaaGreat
