import Derived.Test.YtjoklidphbmpoaaGreatA22
/-
  PATHS: where a path leads, and what is told of it.
-/
namespace Go.Proofs.YtjoklidphbmpoaaGreat
open Go.Ab
set_option linter.unusedVariables false
set_option linter.unusedSimpArgs false
set_option maxRecDepth 8000
set_option maxHeartbeats 400000


theorem ite_and_tt {α : Type} (p q : Bool) (a b : α) : (if (p = true ∧ q = true) then a else b) = if (p && q) = true then a else b := by cases p <;> cases q <;> rfl
/-- What is told of a node. -/
structure Sta where
  node : Int
  kind : Int
  mode : Int
  uid : Int
  gid : Int
  links : Int
  size : Int
  deriving DecidableEq
def staC (s : Sta) : List AV := [.int .i64 s.node, .int .i64 s.kind, .int .i64 s.mode, .int .i64 s.uid, .int .i64 s.gid, .int .i64 s.links, .int .i64 s.size]
def sta0 : Sta := ⟨0, 0, 0, 0, 0, 0, 0⟩
def sizeF (n : Nd) : Int := if n.kind = 1 then n.data.length else if n.kind = 2 then n.ents.length else if n.kind = 3 then n.target.length else 0
def staF (T : Tab) (i : Int) : Sta := if (T.get i).2 = true then ⟨i, (T.get i).1.kind, (T.get i).1.mode, (T.get i).1.uid, (T.get i).1.gid, T.links i, sizeF (T.get i).1⟩ else sta0
def statF (T : Tab) (c : Cr) (s : List UInt8) (fl : Bool) : Sta × Int := if (resF T c s fl).2 ≠ 0 then (sta0, (resF T c s fl).2) else if (T.get (resF T c s fl).1.2.2).2 = true then (staF T (resF T c s fl).1.2.2, 0) else (sta0, 2)
theorem clL_staC (n : Nat) (s : Sta) : AV.clL n (staC s) := ⟨trivial, trivial, trivial, trivial, trivial, trivial, trivial, trivial⟩
theorem er_staC (s : Sta) : AV.erL (staC s) = staC s := rfl
theorem staC_len (s : Sta) : (staC s).length = 7 := rfl
theorem staC_0 (s : Sta) : (staC s)[0]? = some (.int .i64 s.node) := rfl
theorem staC_1 (s : Sta) : (staC s)[1]? = some (.int .i64 s.kind) := rfl
theorem staC_2 (s : Sta) : (staC s)[2]? = some (.int .i64 s.mode) := rfl
theorem staC_3 (s : Sta) : (staC s)[3]? = some (.int .i64 s.uid) := rfl
theorem staC_4 (s : Sta) : (staC s)[4]? = some (.int .i64 s.gid) := rfl
theorem staC_5 (s : Sta) : (staC s)[5]? = some (.int .i64 s.links) := rfl
theorem staC_6 (s : Sta) : (staC s)[6]? = some (.int .i64 s.size) := rfl
theorem staTake (s : Sta) : (staC s).take 7 = staC s := rfl
theorem staPut (a b c d e f g : AV) (s : Sta) : putAt [a, b, c, d, e, f, g] 0 (staC s) = staC s := rfl
attribute [push_cast] staC_len staC_0 staC_1 staC_2 staC_3 staC_4 staC_5 staC_6 staTake staPut
theorem staF_no {T : Tab} {i : Int} (h : (T.get i).2 = false) : staF T i = sta0 := by unfold staF; rw [if_neg (by rw [h]; decide)]
theorem staF_node {T : Tab} {i : Int} (h : (T.get i).2 = true) : (staF T i).node = i := by unfold staF; rw [if_pos h]
theorem get_pos {T : Tab} {i : Int} (hT : T.Ok) (h : (T.get i).2 = true) : 1 ≤ i := by
  rw [get_eq hT] at h
  split at h
  · rename_i hc; exact hc.1
  · cases h

attribute [push_cast] clL_staC er_staC

theorem c81 (T : Tab) (k : Nat) (c : Cr) (p : List UInt8) (fl : Bool) (h : List Blk) (live : List Nat) (hk : h[k]? = some (tabBlk T)) (hT : T.Ok) (hgs : c.gs.length ≤ 1000000000) (hR : T.Rt) (hp : p.length ≤ 9223372036854775807) : ACalls Tryz.prog 81 [.ptr k 0, .agg [.int .i64 c.uid, .int .i64 c.gid, .slice (c.gs.map iV) .none], .str p, .bool fl] h live (ret (foV (resF T c p fl)) h live) := by
  refine ab_ Tryz.func81 (hw := fun hH hX => ?_)
  have hkl := lt_of_get hk
  have hB : ∀ (i n : Int) (l : List (List UInt8)) (q : Cap), HCl (h ++ [.cells [AV.int .i64 c.uid, .int .i64 c.gid, .slice (c.gs.map iV) .none], .cells [.int .i64 0, .str [], .int .i64 0], .cells [.int .i64 i], .cells [.int .i64 n], .cells [.slice (l.map .str) q]]) := fun i n l q => by
    have := HCl.snoc (HCl.snoc (HCl.snoc (HCl.snoc (HCl.snoc (b := .cells [AV.int .i64 c.uid, .int .i64 c.gid, .slice (c.gs.map iV) .none]) hH (by simp [Blk.cl, AV.cl, AV.clL, clL_iV, -List.map_map])) (b := .cells [.int .i64 0, .str [], .int .i64 0]) ⟨trivial, trivial, trivial, trivial⟩) (b := .cells [.int .i64 i]) ⟨trivial, trivial⟩) (b := .cells [.int .i64 n]) ⟨trivial, trivial⟩) (b := .cells [.slice (l.map .str) q]) ⟨clL_str _ _, trivial⟩
    rw [List.append_assoc, List.append_assoc, List.append_assoc, List.append_assoc] at this; exact this
  have sx := (And.intro @Bool.true_and sx0)
  refine rg_ [0, 2, 3, 5, 8] ?_
  refine awp_scope ?_
  refine sk_ fun K1 hK1 => ?_
  refine rs_ [0, 2, 3, 5, 8, 10] ?_
  refine sg_ ?_
  refine cl_ (hc := c103 T k p _ _ (atApp hk) hT hp) (k := ?_)
  refine sg_ ?_
  refine re_ ?_
  refine rg_ [0, 2, 3, 5, 8, 10, 27] ?_
  refine cdn_ (ht := fun hb1 => ?_) (hf := fun hb1 => ?_)
  · have hfe : fitE T p ≠ 0 := by simpa using hb1
    refine rg_ [8, 9] ?_
    refine awp_ret (up_ ?_)
    refine fp_ Tryz.results81 (hK := ?_)
    exact ⟨by unfold resF; rw [if_pos hfe]; rfl, rfl, rfl⟩
  have hfe : fitE T p = 0 := by omega
  have hpl := fitE_len hfe
  have hsb := splitL_bd hpl
  have hrF : resF T c p fl = resL T c fl 1000 1 0 (splitL p) := by unfold resF; rw [if_neg (fun h => h hfe)]
  refine awp_skip (up_ ?_)
  refine hK1 _ ?_
  refine rg_ [0, 2, 3, 5, 8, 11, 12] ?_
  refine rs_ [0, 3, 5, 8, 11, 12, 14] ?_
  refine sg_ ?_
  refine cl_ (hc := c104 p _ _ hpl) (k := ?_)
  refine sg_ ?_
  refine re_ ?_
  refine rg_ [0, 3, 5, 8, 11, 12, 14, 15] ?_
  refine sk_ fun K2 hK2 => ?_
  refine awp_label (up_ ?_)
  refine hK2 _ ?_
  refine sk_ fun K3 hK3 => ?_
  refine awp_block ?_
  refine awp_loop' (X := {x : Nat × Int × Nat × List (List UInt8) × Cap // resL T c fl 1000 1 0 (splitL p) = resL T c fl x.1 x.2.1 x.2.2.1 x.2.2.2.1 ∧ x.2.2.1 ≤ 8 ∧ (8 - x.2.2.1) * 100 + x.2.2.2.1.length < x.1 ∧ x.1 ≤ 1000}) (fun x => ⟨Tryz.f81.ntmps, fget [(0, .ptr k 0), (3, .bool fl), (5, .ptr h.length 0), (8, .ptr (h.length + 1) 0), (11, .ptr (h.length + 2) 0), (12, .ptr (h.length + 3) 0), (14, .ptr (h.length + 4) 0), (15, .fn (.func 105) [] [.ptr (h.length + 4) 0, .ptr (h.length + 2) 0, .ptr (h.length + 3) 0])], h ++ [.cells [AV.int .i64 c.uid, .int .i64 c.gid, .slice (c.gs.map iV) .none], .cells [.int .i64 0, .str [], .int .i64 0], .cells [.int .i64 x.1.2.1], .cells [.int .i64 (x.1.2.2.1 : Nat)], .cells [.slice (x.1.2.2.2.1.map .str) x.1.2.2.2.2]], live⟩) (fun x => x.1.1) (⟨⟨1000, 1, 0, splitL p, .full⟩, rfl, by dsimp only; omega, by dsimp only; omega, by dsimp only; omega⟩) ?_ (by first | rfl | (simp only [List.length_set]; done) | simp) (fun ⟨⟨m0, i, n, l, q⟩, hres, hn8, hmu, hm⟩ => ?_)
  · try dsimp only
    exact tf_ (hB _ _ _ _) (fun _ h => h)
  try dsimp only
  dsimp only at hres hn8 hmu hm
  have hi4 : ∀ g : List Blk, True := fun _ => trivial
  refine sk_ fun K4 hK4 => ?_
  refine rg_ [0, 3, 5, 8, 11, 12, 14, 15, 38] ?_
  refine cd_ (ht := fun hb2 => ?_) (hf := fun hb2 => ?_)
  rotate_left
  · obtain ⟨m, rfl⟩ : ∃ m, m0 = m + 1 := ⟨m0 - 1, by omega⟩
    have hl0 : l = [] := List.eq_nil_of_length_eq_zero (by omega)
    refine awp_exit (up_ ?_)
    refine hK3 _ ?_
    refine rg_ [8, 9] ?_
    refine awp_ret (up_ ?_)
    refine fp_ Tryz.results81 (hK := ?_)
    exact ⟨by rw [hrF, hres, hl0, resL_nil]; rfl, rfl, rfl⟩
  obtain ⟨m, rfl⟩ : ∃ m, m0 = m + 1 := ⟨m0 - 1, by omega⟩
  have hlc : l = l.getD 0 [] :: l.drop 1 := by
    cases l with
    | nil => simp at hb2
    | cons a l => rfl
  have hres2 : resL T c fl 1000 1 0 (splitL p) = resL T c fl (m + 1) i n (l.getD 0 [] :: l.drop 1) := by rw [← hlc]; exact hres
  rw [resL_cons] at hres2
  have hd1 : (l.drop 1).length = l.length - 1 := List.length_drop
  refine awp_skip (up_ ?_)
  refine hK4 _ ?_
  refine awp_block ?_
  refine rg_ [0, 3, 5, 8, 11, 12, 14, 15, 16] ?_
  refine rg_ [0, 3, 5, 8, 11, 12, 14, 15, 16] ?_
  refine rs_ [0, 3, 5, 8, 11, 12, 14, 15, 16, 17] ?_
  refine sg_ ?_
  refine cl_ (hc := c18 T k _ _ _ (atApp hk) hT) (k := ?_)
  refine sg_ ?_
  refine re_ ?_
  refine rs_ [0, 3, 5, 8, 11, 12, 14, 15, 16, 17, 19] ?_
  refine sg_ ?_
  refine cl_ (hc := c106 _ _ _ _ (get_ok hT _)) (k := ?_)
  refine sg_ ?_
  refine re_ ?_
  refine rs_ [0, 3, 5, 8, 11, 12, 14, 15, 16, 17, 19, 20] ?_
  refine sg_ ?_
  refine cl_ (hc := c18 T k _ _ _ (atApp hk) hT) (k := ?_)
  refine sg_ ?_
  refine re_ ?_
  refine sk_ fun K5 hK5 => ?_
  refine awp_block ?_
  refine rg_ [0, 3, 5, 8, 11, 12, 14, 15, 16, 19, 20, 59] ?_
  refine cd_ (ht := fun hb3 => ?_) (hf := fun hb3 => ?_)
  · refine rg_ [8, 9] ?_
    refine awp_ret (up_ ?_)
    refine fp_ Tryz.results81 (hK := ?_)
    exact ⟨by rw [hrF, hres2, if_pos hb3]; rfl, rfl, rfl⟩
  refine rs_ [0, 3, 5, 8, 11, 12, 14, 15, 16, 19, 20, 64] ?_
  refine sg_ ?_
  refine cl_ (hc := c26 T k c _ _ _ _ _ (atApp hk) hT hgs) (k := ?_)
  refine sg_ ?_
  refine re_ ?_
  refine cd_ (ht := fun hb4 => ?_) (hf := fun hb4 => ?_)
  · refine rg_ [8, 9] ?_
    refine awp_ret (up_ ?_)
    refine fp_ Tryz.results81 (hK := ?_)
    exact ⟨by rw [hrF, hres2, if_neg (fun h => h hb3), if_pos hb4]; rfl, rfl, rfl⟩
  refine rg_ [0, 3, 5, 8, 11, 12, 14, 15, 16, 19, 20, 71] ?_
  refine cd_ (ht := fun hb5 => ?_) (hf := fun hb5 => ?_)
  · refine awp_exit (up_ ?_)
    refine ⟨⟨⟨m, i, n, (l.drop 1), (capOf q true false false)⟩, by rw [hres2, if_neg (fun h => h hb3), if_neg (by rw [hb4]; decide), if_pos hb5], by dsimp only; omega, by dsimp only; omega, by dsimp only; omega⟩, ?_, (by first | rfl | trivial | (simp only [List.length_set]; done) | simp), by dsimp only; omega⟩
    try dsimp only
    exact tf_ (hB _ _ _ _) (fun _ h => h)
  refine rg_ [0, 3, 5, 8, 11, 12, 14, 15, 16, 19, 20, 74] ?_
  refine cd_ (ht := fun hb6 => ?_) (hf := fun hb6 => ?_)
  · refine sk_ fun K6 hK6 => ?_
    refine rs_ [0, 3, 5, 8, 11, 12, 14, 15, 22] ?_
    refine sg_ ?_
    refine cl_ (hc := c25 T k _ _ _ (atApp hk) hT) (k := ?_)
    refine sg_ ?_
    refine re_ ?_
    refine rg_ [0, 3, 5, 8, 11, 12, 14, 15, 22, 81] ?_
    refine cd_ (ht := fun hb7 => ?_) (hf := fun hb7 => ?_)
    · refine rt_ [0, 3, 5, 8, 11, 12, 14, 15] ?_
      refine sg_ ?_
      refine rn_ (up_ ?_)
      refine hK6 _ ?_
      refine awp_exit (up_ ?_)
      refine ⟨⟨⟨m, T.parent i, n, (l.drop 1), (capOf q true false false)⟩, by rw [hres2, if_neg (fun h => h hb3), if_neg (by rw [hb4]; decide), if_neg hb5, if_pos hb6, if_pos hb7], by dsimp only; omega, by dsimp only; omega, by dsimp only; omega⟩, ?_, (by first | rfl | trivial | (simp only [List.length_set]; done) | simp), by dsimp only; omega⟩
      try dsimp only
      exact tf_ (hB _ _ _ _) (fun _ h => h)
    refine awp_skip (up_ ?_)
    refine hK6 _ ?_
    refine awp_exit (up_ ?_)
    refine ⟨⟨⟨m, i, n, (l.drop 1), (capOf q true false false)⟩, by rw [hres2, if_neg (fun h => h hb3), if_neg (by rw [hb4]; decide), if_neg hb5, if_pos hb6, if_neg (fun h => h hb7)], by dsimp only; omega, by dsimp only; omega, by dsimp only; omega⟩, ?_, (by first | rfl | trivial | (simp only [List.length_set]; done) | simp), by dsimp only; omega⟩
    try dsimp only
    exact tf_ (hB _ _ _ _) (fun _ h => h)
  refine rg_ [0, 3, 5, 8, 11, 12, 14, 15, 16, 19, 20, 83] ?_
  refine cd_ (ht := fun hb8 => ?_) (hf := fun hb8 => ?_)
  · refine rg_ [8, 9] ?_
    refine awp_ret (up_ ?_)
    refine fp_ Tryz.results81 (hK := ?_)
    exact ⟨by rw [hrF, hres2, if_neg (fun h => h hb3), if_neg (by rw [hb4]; decide), if_neg hb5, if_neg hb6, if_pos hb8]; rfl, rfl, rfl⟩
  refine rg_ [0, 3, 5, 8, 11, 12, 14, 15, 16, 19, 20, 88] ?_
  refine cd_ (ht := fun hb9 => ?_) (hf := fun hb9 => ?_)
  · refine rg_ [8, 9] ?_
    refine awp_ret (up_ ?_)
    refine fp_ Tryz.results81 (hK := ?_)
    exact ⟨by rw [hrF, hres2, if_neg (fun h => h hb3), if_neg (by rw [hb4]; decide), if_neg hb5, if_neg hb6, if_neg (by omega), if_pos hb9]; rfl, rfl, rfl⟩
  refine rg_ [0, 3, 5, 8, 11, 12, 14, 15, 16, 19, 20, 97] ?_
  refine cd_ (ht := fun hb10 => ?_) (hf := fun hb10 => ?_)
  · have htl := hR.link hT hb10.1
    have htb := splitL_bd htl
    refine sk_ fun K7 hK7 => ?_
    refine rg_ [0, 3, 5, 8, 11, 12, 14, 15, 20, 110] ?_
    refine cd_ (ht := fun hb11 => ?_) (hf := fun hb11 => ?_)
    · refine rg_ [8, 9] ?_
      refine awp_ret (up_ ?_)
      refine fp_ Tryz.results81 (hK := ?_)
      exact ⟨by rw [hrF, hres2, if_neg (fun h => h hb3), if_neg (by rw [hb4]; decide), if_neg hb5, if_neg hb6, if_neg (by omega), if_neg (fun h => by have := hb9 h.1; omega), if_pos hb10, if_pos hb11]; rfl, rfl, rfl⟩
    refine awp_skip (up_ ?_)
    refine hK7 _ ?_
    refine rs_ [0, 3, 5, 8, 11, 12, 14, 15] ?_
    refine sg_ ?_
    refine cl_ (hc := c105 _ (l.drop 1) (capOf q true false false) i n (h.length + 4) (h.length + 2) (h.length + 3) _ _ htl (by omega) (by simp only [push_cast]) (by simp only [push_cast]) (by simp only [push_cast]) (by omega) (by omega) (by omega) (by omega)) (k := ?_)
    refine re_ ?_
    refine awp_exit (up_ ?_)
    refine ⟨⟨⟨m, (if absF (T.get (findF (T.get i).1 (l.getD 0 []))).1.target = true then 1 else i), n + 1, (splitL (T.get (findF (T.get i).1 (l.getD 0 []))).1.target ++ l.drop 1), .none⟩, by rw [hres2, if_neg (fun h => h hb3), if_neg (by rw [hb4]; decide), if_neg hb5, if_neg hb6, if_neg (by omega), if_neg (fun h => by have := hb9 h.1; omega), if_pos hb10, if_neg hb11]; rfl, by dsimp only; omega, by dsimp only; rw [List.length_append]; omega, by dsimp only; omega⟩, ?_, (by first | rfl | trivial | (simp only [List.length_set]; done) | simp), by dsimp only; omega⟩
    try dsimp only
    exact tf_ (hB _ _ _ _) (fun _ h => h)
  refine rg_ [0, 3, 5, 8, 11, 12, 14, 15, 16, 19, 116] ?_
  refine cd_ (ht := fun hb12 => ?_) (hf := fun hb12 => ?_)
  · refine rg_ [8, 9] ?_
    refine awp_ret (up_ ?_)
    refine fp_ Tryz.results81 (hK := ?_)
    exact ⟨by rw [hrF, hres2, if_neg (fun h => h hb3), if_neg (by rw [hb4]; decide), if_neg hb5, if_neg hb6, if_neg (by omega), if_neg (fun h => by have := hb9 h.1; omega), if_neg (fun h => by obtain ⟨h1, h2⟩ := hb10 h.1; exact h.2.elim (fun e => by rw [h1] at e; cases e) (fun e => by omega)), if_pos hb12]; rfl, rfl, rfl⟩
  refine awp_skip (up_ ?_)
  refine hK5 _ ?_
  refine rt_ [0, 3, 5, 8, 11, 12, 14, 15] ?_
  refine sg_ ?_
  refine rn_ (up_ ?_)
  refine ⟨⟨⟨m, findF (T.get i).1 (l.getD 0 []), n, (l.drop 1), (capOf q true false false)⟩, by rw [hres2, if_neg (fun h => h hb3), if_neg (by rw [hb4]; decide), if_neg hb5, if_neg hb6, if_neg (by omega), if_neg (fun h => by have := hb9 h.1; omega), if_neg (fun h => by obtain ⟨h1, h2⟩ := hb10 h.1; exact h.2.elim (fun e => by rw [h1] at e; cases e) (fun e => by omega)), if_neg hb12], by dsimp only; omega, by dsimp only; omega, by dsimp only; omega⟩, ?_, (by first | rfl | trivial | (simp only [List.length_set]; done) | simp), by dsimp only; omega⟩
  try dsimp only
  exact tf_ (hB _ _ _ _) (fun _ h => h)

end Go.Proofs.YtjoklidphbmpoaaGreat
