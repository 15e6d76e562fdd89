import Derived.Test.YtjoklidphbmpoaaGreatA19
/-
  TABLES: the law of the root.
-/
namespace Go.Proofs.YtjoklidphbmpoaaGreat
open Go.Ab
set_option linter.unusedVariables false
set_option linter.unusedSimpArgs false
set_option maxRecDepth 8000
set_option maxHeartbeats 400000


theorem tab_ne_cred (T : Tab) (c : Cr) (hT : T.Ok) : tabBlk T ≠ .cells [AV.int .i64 c.uid, .int .i64 c.gid, .slice (c.gs.map iV) .none] := fun e => by
  have : (AV.int .i64 T.room :: tabC T.ns).length = 3 := congrArg List.length (Blk.cells.inj e)
  rw [List.length_cons, tabC_len, hT.len] at this
  omega

theorem c4 (room : Int) (l : List Rw) (acs : List Ac) (c : Cr) (ws : List Int) (h : List Blk) (live : List Nat) (hh0 : h = []) (hn : l.length ≤ 9223372036854775807) (hac : acs.length ≤ 9223372036854775807) (hgs : c.gs.length ≤ 9223372036854775807) (hws : ws.length ≤ 9223372036854775807) (hnm : ∀ a ∈ acs, ∀ e ∈ a.n.ents, e.1.length ≤ 9223372036854775807) : ACalls Tryz.prog 4 [.int .i64 room, .slice (l.map rV) .none, .slice (acs.map aV) .none, .agg [.int .i64 c.uid, .int .i64 c.gid, .slice (c.gs.map iV) .none], .slice (ws.map iV) .none] h live (ret (.bool true) h live) := by
  refine ab_ Tryz.func4 (hw := fun hH hX => ?_)
  have sx := (And.intro @Bool.true_and sx0)
  refine rg_ [0, 1, 2, 4, 8] ?_
  refine rs_ [0, 1, 2, 4, 8, 11] ?_
  refine cl_ (hc := c6 _ _) (k := ?_)
  refine sg_ ?_
  refine re_ ?_
  refine sk_ fun K1 hK1 => ?_
  refine rg_ [0, 1, 2, 4, 8, 22] ?_
  refine cdn_ (ht := fun hb1 => ?_) (hf := fun hb1 => ?_)
  · exfalso; exact Bool.noConfusion hb1
  refine awp_skip (up_ ?_)
  refine hK1 _ ?_
  refine rs_ [2, 4, 8, 12, 13] ?_
  refine sg_ ?_
  refine ck_ (k := ?_)
  refine (c7 room l c _ _ hn hgs).mono ?_; rintro _ H _ ⟨rfl, g, p, rfl, hHg, hpc, hp⟩
  have hbx : H[h.length]? = some (.cells [AV.int .i64 c.uid, .int .i64 c.gid, .slice (c.gs.map iV) .none]) := by rw [hHg, List.append_assoc, get_app0]; rfl
  have sx := And.intro hbx sx
  refine sg_ ?_
  refine re_ ?_
  refine sk_ fun K2 hK2 => ?_
  refine rs_ [2, 4, 8, 12, 41] ?_
  refine sg_ ?_
  refine cg_ (hc := fun hg => c14 acs _ _ hac) (k := ?_)
  refine sg_ ?_
  refine re_ ?_
  refine cdn_ (ht := fun hb2 => ?_) (hf := fun hb2 => ?_)
  · refine rg_ [10] ?_
    refine awp_ret (up_ ?_)
    refine fg_ (h1 := h) Tryz.results4 (hh := (⟨_, by rw [hh0]; exact (List.nil_append _).symm⟩)) (hK := ?_)
    exact ⟨rfl, rfl, rfl⟩
  obtain ⟨⟨hb21, hb22⟩, hb23⟩ := hb2
  obtain ⟨T, hTe⟩ := Option.isSome_iff_exists.1 hb21
  obtain ⟨k, rfl, hk⟩ := hp T hTe
  obtain ⟨hT, hg10⟩ := builtF_ok hTe
  have hgs9 : c.gs.length ≤ 1000000000 := by omega
  have hand : ∀ a ∈ acs, NdOk a.n := fun a ha => small_nd hb22 ha (hnm a ha)
  have hTp := playF_ok hT hand
  have hac2 : acs.length ≤ 1000 := by
    simp only [smallF, Bool.and_eq_true, decide_eq_true_eq] at hb22
    omega
  have hua := usedN_bd T 24 (by decide)
  rw [← used_24 hT] at hua
  refine awp_skip (up_ ?_)
  refine hK2 _ ?_
  refine rs_ [2, 4, 8, 12, 14] ?_
  refine sg_ ?_
  refine cl_ (hc := c15 T k _ _ hk hT) (k := ?_)
  refine sg_ ?_
  refine re_ ?_
  refine rs_ [4, 8, 12, 14] ?_
  refine sg_ ?_
  refine ck_ (k := ?_)
  refine (c16 T k acs _ _ (atApp hk) hT hac2 hand).mono ?_; rintro _ H2 _ ⟨rfl, hH2, rfl⟩
  have hkl := lt_of_get hk
  have hne : k ≠ h.length := fun e => by
    rw [e, hbx] at hk; exact tab_ne_cred T c hT (Option.some.inj hk).symm
  have h2k : H2[k]? = some (tabBlk (playF T acs)) := by rw [← hH2, setApp hk]; exact get_setapp hkl
  have h2c : H2[H.length]? = some (tabBlk T) := by rw [← hH2, setApp hk]; exact get_setloc0
  have h2b : H2[h.length]? = some (.cells [AV.int .i64 c.uid, .int .i64 c.gid, .slice (c.gs.map iV) .none]) := by rw [← hH2, List.getElem?_set_ne hne]; exact atApp hbx
  have h2b' : ∀ g : List Blk, (H2 ++ g)[h.length]? = some (.cells [AV.int .i64 c.uid, .int .i64 c.gid, .slice (c.gs.map iV) .none]) := fun g => atApp h2b
  have sx := And.intro h2b (And.intro h2b' sx)
  refine re_ ?_
  refine sk_ fun K3 hK3 => ?_
  refine rs_ [4, 8, 12, 14, 50] ?_
  refine sg_ ?_
  refine cl_ (hc := ACalls.erx (by (simp only [List.map_cons, List.map_nil, AV.er, AV.erL, erL_iV]) <;> rfl) (c17 T (playF T acs) c [] H.length k _ _ (by first | exact h2c | exact atApp h2c) (by first | exact h2k | exact atApp h2k) hT hTp hgs9 (by simp))) (k := ?_)
  refine re_ ?_
  refine cb_ (ht := fun hb3 => ?_) (hf := fun hb3 => ?_)
  · refine rs_ [8, 12, 14, 15] ?_
    refine sg_ ?_
    refine cl_ (hc := c17 T (playF T acs) c ws H.length k _ _ (by first | exact h2c | exact atApp h2c) (by first | exact h2k | exact atApp h2k) hT hTp hgs9 (by omega)) (k := ?_)
    refine sg_ ?_
    refine re_ ?_
    refine rg_ [8, 12, 14, 57] ?_
    refine cb_ (ht := fun hb4 => ?_) (hf := fun hb4 => ?_)
    · exfalso; rw [allow_mono ws hb3] at hb4; exact Bool.noConfusion hb4
    refine awp_skip (up_ ?_)
    refine hK3 _ ?_
    refine rs_ [8, 12, 14, 16, 17] ?_
    refine sg_ ?_
    refine cl_ (hc := c18 T H.length _ _ _ (by first | exact h2c | exact atApp h2c) hT) (k := ?_)
    refine sg_ ?_
    refine re_ ?_
    refine sk_ fun K4 hK4 => ?_
    refine rg_ [8, 12, 14, 16, 82] ?_
    refine cdn_ (ht := fun hb5 => ?_) (hf := fun hb5 => ?_)
    · refine rg_ [10] ?_
      refine awp_ret (up_ ?_)
      refine fg_ (h1 := h) Tryz.results4 (hh := (⟨_, by rw [hh0]; exact (List.nil_append _).symm⟩)) (hK := ?_)
      exact ⟨rfl, rfl, rfl⟩
    obtain ⟨⟨⟨h51, h52⟩, h53⟩, h54⟩ := hb5
    refine awp_skip (up_ ?_)
    refine hK4 _ ?_
    refine sk_ fun K5 hK5 => ?_
    refine rs_ [12, 14, 16, 87] ?_
    refine sg_ ?_
    refine cl_ (hc := ACalls.erx (by (simp only [List.map_cons, List.map_nil, AV.er, AV.erL, erL_iV]) <;> rfl) (c17 T (playF T acs) c [] H.length k _ _ (by first | exact h2c | exact atApp h2c) (by first | exact h2k | exact atApp h2k) hT hTp hgs9 (by simp))) (k := ?_)
    refine sg_ ?_
    refine re_ ?_
    refine cdn_ (ht := fun hb6 => ?_) (hf := fun hb6 => ?_)
    · refine rg_ [10] ?_
      refine awp_ret (up_ ?_)
      refine fg_ (h1 := h) Tryz.results4 (hh := (⟨_, by rw [hh0]; exact (List.nil_append _).symm⟩)) (hK := ?_)
      exact ⟨rfl, rfl, rfl⟩
    have hlaw := root_law hT hTp ⟨h51, h52, by simpa using h53, built_dir hTe⟩ hb6
    refine awp_skip (up_ ?_)
    refine hK5 _ ?_
    refine rs_ [12, 14, 16, 18, 19] ?_
    refine sg_ ?_
    refine cl_ (hc := c18 (playF T acs) k _ _ _ (by first | exact h2k | exact atApp h2k) hTp) (k := ?_)
    refine sg_ ?_
    refine re_ ?_
    refine rs_ [10] ?_
    refine sg_ ?_
    refine cl_ (hc := c19 T (playF T acs) H.length k _ _ (by first | exact h2c | exact atApp h2c) (by first | exact h2k | exact atApp h2k) hT hTp) (k := ?_)
    refine sg_ ?_
    refine cg_ (hc := fun hg => c20 (playF T acs) k _ _ (by first | exact h2k | exact atApp h2k) hTp) (k := ?_)
    refine sg_ ?_
    refine cg_ (hc := fun hg => c20 T H.length _ _ (by first | exact h2c | exact atApp h2c) hT) (k := ?_)
    refine sg_ ?_
    refine cg_ (hc := fun hg => c21 _ _ _ _ (get_ok hTp _) (get_ok hT _)) (k := ?_)
    refine sg_ ?_
    refine re_ ?_
    refine awp_ret (up_ ?_)
    refine fg_ (h1 := h) Tryz.results4 (hh := (⟨_, by rw [hh0]; exact (List.nil_append _).symm⟩)) (hK := ?_)
    exact ⟨congrArg AV.bool hlaw.symm, rfl, rfl⟩
  refine awp_skip (up_ ?_)
  refine hK3 _ ?_
  refine rs_ [8, 12, 14, 16, 17] ?_
  refine sg_ ?_
  refine cl_ (hc := c18 T H.length _ _ _ (by first | exact h2c | exact atApp h2c) hT) (k := ?_)
  refine sg_ ?_
  refine re_ ?_
  refine sk_ fun K6 hK6 => ?_
  refine rg_ [8, 12, 14, 16, 82] ?_
  refine cdn_ (ht := fun hb5 => ?_) (hf := fun hb5 => ?_)
  · refine rg_ [10] ?_
    refine awp_ret (up_ ?_)
    refine fg_ (h1 := h) Tryz.results4 (hh := (⟨_, by rw [hh0]; exact (List.nil_append _).symm⟩)) (hK := ?_)
    exact ⟨rfl, rfl, rfl⟩
  obtain ⟨⟨⟨h51, h52⟩, h53⟩, h54⟩ := hb5
  refine awp_skip (up_ ?_)
  refine hK6 _ ?_
  refine sk_ fun K7 hK7 => ?_
  refine rs_ [12, 14, 16, 87] ?_
  refine sg_ ?_
  refine cl_ (hc := ACalls.erx (by (simp only [List.map_cons, List.map_nil, AV.er, AV.erL, erL_iV]) <;> rfl) (c17 T (playF T acs) c [] H.length k _ _ (by first | exact h2c | exact atApp h2c) (by first | exact h2k | exact atApp h2k) hT hTp hgs9 (by simp))) (k := ?_)
  refine sg_ ?_
  refine re_ ?_
  refine cdn_ (ht := fun hb6 => ?_) (hf := fun hb6 => ?_)
  · refine rg_ [10] ?_
    refine awp_ret (up_ ?_)
    refine fg_ (h1 := h) Tryz.results4 (hh := (⟨_, by rw [hh0]; exact (List.nil_append _).symm⟩)) (hK := ?_)
    exact ⟨rfl, rfl, rfl⟩
  have hlaw := root_law hT hTp ⟨h51, h52, by simpa using h53, built_dir hTe⟩ hb6
  refine awp_skip (up_ ?_)
  refine hK7 _ ?_
  refine rs_ [12, 14, 16, 18, 19] ?_
  refine sg_ ?_
  refine cl_ (hc := c18 (playF T acs) k _ _ _ (by first | exact h2k | exact atApp h2k) hTp) (k := ?_)
  refine sg_ ?_
  refine re_ ?_
  refine rs_ [10] ?_
  refine sg_ ?_
  refine cl_ (hc := c19 T (playF T acs) H.length k _ _ (by first | exact h2c | exact atApp h2c) (by first | exact h2k | exact atApp h2k) hT hTp) (k := ?_)
  refine sg_ ?_
  refine cg_ (hc := fun hg => c20 (playF T acs) k _ _ (by first | exact h2k | exact atApp h2k) hTp) (k := ?_)
  refine sg_ ?_
  refine cg_ (hc := fun hg => c20 T H.length _ _ (by first | exact h2c | exact atApp h2c) hT) (k := ?_)
  refine sg_ ?_
  refine cg_ (hc := fun hg => c21 _ _ _ _ (get_ok hTp _) (get_ok hT _)) (k := ?_)
  refine sg_ ?_
  refine re_ ?_
  refine awp_ret (up_ ?_)
  refine fg_ (h1 := h) Tryz.results4 (hh := (⟨_, by rw [hh0]; exact (List.nil_append _).symm⟩)) (hK := ?_)
  exact ⟨congrArg AV.bool hlaw.symm, rfl, rfl⟩

end Go.Proofs.YtjoklidphbmpoaaGreat
