import Derived.Test.YtjoklidphbmpoaaGreatAb20
import Derived.Test.YtjoklidphbmpoaaGreatTy
import Derived.Lib.Bytealg
/-
  TABLES: leaves of Go's library: where something stands in a list; copies of lists.
-/
namespace Go.Proofs.YtjoklidphbmpoaaGreat
open Go.Ab
set_option linter.unusedVariables false
set_option linter.unusedSimpArgs false
set_option maxRecDepth 8000
set_option maxHeartbeats 400000


/-- Where the first that something holds of stands; -1: nowhere. -/
def idxP {α : Type} (p : α → Bool) : List α → Int
  | [] => -1
  | x :: r => bif p x then 0 else bif decide (idxP p r < 0) then -1 else idxP p r + 1
theorem idxP_range {α : Type} (p : α → Bool) (l : List α) : -1 ≤ idxP p l ∧ idxP p l < l.length := by
  induction l with
  | nil => exact ⟨Int.le_refl _, by show (-1 : Int) < 0; omega⟩
  | cons x r ih =>
    unfold idxP
    cases p x with
    | true => exact ⟨by simp, by simp only [cond_true, List.length_cons]; omega⟩
    | false =>
      simp only [cond_false, List.length_cons]
      by_cases h : idxP p r < 0
      · rw [decide_eq_true h]; simp; omega
      · rw [decide_eq_false h]; simp; omega
theorem idxP_at {α : Type} {p : α → Bool} (d : α) : ∀ {l : List α} {i : Nat}, i < l.length → p (l.getD i d) = true → (∀ j, j < i → p (l.getD j d) = false) → idxP p l = i
  | x :: r, 0, _, h, _ => by
    simp at h
    simp [idxP, h]
  | x :: r, i + 1, hi, h, hn => by
    have h0 : p x = false := by simpa using hn 0 (by omega)
    have ih := idxP_at d (l := r) (i := i) (by simpa using hi) (by simpa using h) (fun j hj => by simpa using hn (j + 1) (by omega))
    unfold idxP
    rw [h0, ih, decide_eq_false (by omega)]
    simp
theorem idxP_none {α : Type} {p : α → Bool} (d : α) : ∀ {l : List α}, (∀ j, j < l.length → p (l.getD j d) = false) → idxP p l = -1
  | [], _ => rfl
  | x :: r, hn => by
    have h0 : p x = false := by simpa using hn 0 (by simp)
    have ih := idxP_none d (l := r) (fun j hj => by simpa using hn (j + 1) (by simpa using hj))
    unfold idxP
    rw [h0, ih]; rfl
theorem idxP_any {α : Type} (p : α → Bool) (l : List α) : decide (0 ≤ idxP p l) = l.any p := by
  induction l with
  | nil => rfl
  | cons x r ih =>
    unfold idxP
    rw [List.any_cons]
    cases hp : p x with
    | true => simp
    | false =>
      simp only [cond_false, Bool.false_or]
      rw [← ih]
      by_cases h : idxP p r < 0
      · rw [decide_eq_true h]; simp; omega
      · rw [decide_eq_false h]; simp; omega
def iV (n : Int) : AV := .int .i64 n
theorem getD_iV {l : List Int} {i : Nat} {d : AV} (h : i < l.length) : (l.map iV).getD i d = .int .i64 (l.getD i 0) := by
  simp [List.getD_eq_getElem?_getD, h, iV]
theorem clL_iV (n : Nat) (l : List Int) : AV.clL n (l.map iV) := by
  rw [AV.clL_mem]; intro x hx; obtain ⟨y, _, rfl⟩ := List.mem_map.1 hx; trivial
theorem cells_iV (l : List Int) : ∀ y ∈ l.map iV, y.cells.length = 1 := by
  intro y hy; obtain ⟨a, _, rfl⟩ := List.mem_map.1 hy; rfl
theorem erL_iV (l : List Int) : AV.erL (l.map iV) = l.map iV := by
  rw [AV.erL_map, List.map_map]; rfl
def oV (b : Bool) : AV := .bool b
theorem getD_oV {l : List Bool} {i : Nat} {d : AV} (h : i < l.length) : (l.map oV).getD i d = .bool (l.getD i false) := by
  simp [List.getD_eq_getElem?_getD, h, oV]
theorem clL_oV (n : Nat) (l : List Bool) : AV.clL n (l.map oV) := by
  rw [AV.clL_mem]; intro x hx; obtain ⟨y, _, rfl⟩ := List.mem_map.1 hx; trivial
/-- An entry: a name, and a node. -/
abbrev En := List UInt8 × Int
def eV (e : En) : AV := .agg [.str e.1, .int .i64 e.2]
theorem getD_eV {l : List En} {i : Nat} {d : AV} (h : i < l.length) : (l.map eV).getD i d = .agg [.str (l.getD i ([], 0)).1, .int .i64 (l.getD i ([], 0)).2] := by
  simp [List.getD_eq_getElem?_getD, h, eV]
theorem clL_eV (n : Nat) (l : List En) : AV.clL n (l.map eV) := by
  rw [AV.clL_mem]; intro x hx; obtain ⟨y, _, rfl⟩ := List.mem_map.1 hx; exact ⟨trivial, trivial, trivial⟩
theorem cells_eV (l : List En) : ∀ y ∈ l.map eV, y.cells.length = 2 := by
  intro y hy; obtain ⟨a, _, rfl⟩ := List.mem_map.1 hy; rfl
theorem erL_eV (l : List En) : AV.erL (l.map eV) = l.map eV := by
  rw [AV.erL_map, List.map_map]; rfl
theorem allSz_eV (l : List En) : allSz (l.map eV) 2 ↔ True := iff_true_intro (allSz_map _ _ _ fun _ => rfl)
theorem allSz_iV (l : List Int) : allSz (l.map iV) 1 ↔ True := iff_true_intro (allSz_map _ _ _ fun _ => rfl)
attribute [push_cast] getD_iV getD_oV getD_eV allSz_eV allSz_iV
theorem idx_range (l : List UInt8) (c : UInt8) : -1 ≤ Lib.indexByte l c ∧ Lib.indexByte l c < l.length := by
  refine ⟨Lib.indexByte_ge l c, ?_⟩
  induction l with
  | nil => exact (by decide : (-1 : Int) < 0)
  | cons b l ih =>
    have := Lib.indexByte_ge l c
    unfold Lib.indexByte
    simp only [List.length_cons]
    split
    · omega
    · split <;> omega
theorem c138 (l : List UInt8) (c : UInt8) (h : List Blk) (live : List Nat) : ACalls Tryz.prog 138 [.str l, .int .u8 c.toNat] h live (ret (.int .i64 (Lib.indexByte l c)) h live) := by
  intro w G vs hvl hr hh
  match vs, hvl with
  | [a, b], _ =>
    have h0 := hr 0 (by simp)
    have h1 := hr 1 (by simp)
    simp at h0 h1
    cases h0; cases h1
    have hrun := run_callFunc_extern (P := Tryz.prog) (f := 138) (e := Extern.BytealgIndexByte.indexByte) Tryz.func138 rfl rfl (by kernel_rfl) (by kernel_rfl) [Value.string ⟨l.toArray⟩, .int .u8 c.toNat].toArray w
    rw [Lib.run_indexByteString] at hrun
    rw [hrun]
    refine ⟨_, h, live, G, ⟨rfl, rfl, rfl⟩, ?_, hh, Evo.refl _ _ _⟩
    have : ((c.toNat : Int).toNat.toUInt8) = c := by simp
    rw [this]
    exact .int _ _

attribute [push_cast] clL_iV erL_iV clL_oV clL_eV erL_eV

theorem c128 (l : List UInt8) (c : UInt8) (h : List Blk) (live : List Nat) : ACalls Tryz.prog 128 [.str l, .int .u8 c.toNat] h live (ret (.int .i64 (Lib.indexByte l c)) h live) := by
  refine ab_ Tryz.func128 (hw := fun hH hX => ?_)
  have sx := sx0
  refine rg_ [0, 1] ?_
  refine rs_ [4] ?_
  refine sg_ ?_
  refine cl_ (hc := c138 _ _ _ _) (k := ?_)
  refine sg_ ?_
  refine re_ ?_
  refine awp_ret (up_ ?_)
  refine fp_ Tryz.results128 (hK := ?_)
  exact ⟨rfl, rfl, rfl⟩

theorem c117 (l : List UInt8) (c : UInt8) (h : List Blk) (live : List Nat) : ACalls Tryz.prog 117 [.str l, .int .u8 c.toNat] h live (ret (.int .i64 (Lib.indexByte l c)) h live) := by
  refine ab_ Tryz.func117 (hw := fun hH hX => ?_)
  have sx := sx0
  refine rg_ [0, 1] ?_
  refine rs_ [4] ?_
  refine sg_ ?_
  refine cl_ (hc := c128 _ _ _ _) (k := ?_)
  refine sg_ ?_
  refine re_ ?_
  refine awp_ret (up_ ?_)
  refine fp_ Tryz.results117 (hK := ?_)
  exact ⟨rfl, rfl, rfl⟩

theorem c101 (l : List Int) (c : Cap) (v0 : Int) (h : List Blk) (live : List Nat) (hl : l.length ≤ 1000000000) : ACalls Tryz.prog 101 [.slice (l.map iV) c, .int .i64 v0] h live (ret (.int .i64 (idxP (fun y => decide (v0 = y)) l)) h live) := by
  refine ab_ Tryz.func101 (hw := fun hH hX => ?_)
  have sx := sx0
  refine rg_ [0, 1] ?_
  refine sk_ fun K1 hK1 => ?_
  refine rg_ [0, 1, 7, 8] ?_
  refine awp_block ?_
  refine awp_loop' (X := {i : Nat // i ≤ l.length ∧ ∀ j, j < i → (fun y => decide (v0 = y)) (l.getD j 0) = false}) (fun x => ⟨Tryz.f101.ntmps, fget [(0, .slice (l.map iV) c), (1, .int .i64 v0), (7, .int .i64 l.length), (8, .int .i64 (x.1 : Nat))], h, live⟩) (fun x => l.length - x.1) (⟨0, by omega, fun j hj => by omega⟩) ?_ (by first | rfl | simp only [List.length_set]) (fun ⟨i, hi, hn⟩ => ?_)
  · try dsimp only
    exact ts_ hH
  try dsimp only
  refine rg_ [0, 1, 7, 8, 9] ?_
  refine sk_ fun K2 hK2 => ?_
  refine cd_ (ht := fun hb1 => ?_) (hf := fun hb1 => ?_)
  rotate_left
  · have hx := idxP_none (p := fun y => decide (v0 = y)) 0 (l := l) fun j hj => hn j (by omega)
    refine awp_exit (up_ ?_)
    refine hK1 _ ?_
    refine rg_ [4] ?_
    refine awp_ret (up_ ?_)
    refine fp_ Tryz.results101 (hK := ?_)
    refine ⟨?_, rfl, rfl⟩
    rw [hx]
  refine awp_skip (up_ ?_)
  refine hK2 _ ?_
  refine sk_ fun K3 hK3 => ?_
  refine awp_block ?_
  refine rg_ [0, 1, 5, 7, 8] ?_
  refine rg_ [0, 1, 5, 7, 8, 16] ?_
  refine cb_ (ht := fun hb2 => ?_) (hf := fun hb2 => ?_)
  · have hx := idxP_at (p := fun y => decide (v0 = y)) 0 (l := l) (i := i) (by omega) (by simpa using hb2) hn
    refine rg_ [4] ?_
    refine awp_ret (up_ ?_)
    refine fp_ Tryz.results101 (hK := ?_)
    refine ⟨?_, rfl, rfl⟩
    rw [hx]
  refine awp_skip (up_ ?_)
  refine hK3 _ ?_
  refine rt_ [0, 1, 7, 8] ?_
  refine sg_ ?_
  refine rn_ (up_ ?_)
  refine ⟨⟨i + 1, by omega, fun j hj => by rcases Nat.lt_succ_iff_lt_or_eq.1 hj with h | h; exact hn j h; subst h; simpa using hb2⟩, ?_, (by first | rfl | trivial | (simp only [List.length_set]; done) | simp), by dsimp only; omega⟩
  try dsimp only
  exact ts_ hH

theorem c126 (l : List Bool) (c : Cap) (v0 : Bool) (h : List Blk) (live : List Nat) (hl : l.length ≤ 1000000000) : ACalls Tryz.prog 126 [.slice (l.map oV) c, .bool v0] h live (ret (.int .i64 (idxP (fun y => v0 == y) l)) h live) := by
  refine ab_ Tryz.func126 (hw := fun hH hX => ?_)
  have sx := sx0
  refine rg_ [0, 1] ?_
  refine sk_ fun K1 hK1 => ?_
  refine rg_ [0, 1, 7, 8] ?_
  refine awp_block ?_
  refine awp_loop' (X := {i : Nat // i ≤ l.length ∧ ∀ j, j < i → (fun y => v0 == y) (l.getD j false) = false}) (fun x => ⟨Tryz.f126.ntmps, fget [(0, .slice (l.map oV) c), (1, .bool v0), (7, .int .i64 l.length), (8, .int .i64 (x.1 : Nat))], h, live⟩) (fun x => l.length - x.1) (⟨0, by omega, fun j hj => by omega⟩) ?_ (by first | rfl | simp only [List.length_set]) (fun ⟨i, hi, hn⟩ => ?_)
  · try dsimp only
    exact ts_ hH
  try dsimp only
  refine rg_ [0, 1, 7, 8, 9] ?_
  refine sk_ fun K2 hK2 => ?_
  refine cd_ (ht := fun hb1 => ?_) (hf := fun hb1 => ?_)
  rotate_left
  · have hx := idxP_none (p := fun y => v0 == y) false (l := l) fun j hj => hn j (by omega)
    refine awp_exit (up_ ?_)
    refine hK1 _ ?_
    refine rg_ [4] ?_
    refine awp_ret (up_ ?_)
    refine fp_ Tryz.results126 (hK := ?_)
    refine ⟨?_, rfl, rfl⟩
    rw [hx]
  refine awp_skip (up_ ?_)
  refine hK2 _ ?_
  refine sk_ fun K3 hK3 => ?_
  refine awp_block ?_
  refine rg_ [0, 1, 5, 7, 8] ?_
  refine rg_ [0, 1, 5, 7, 8, 16] ?_
  refine cb_ (ht := fun hb2 => ?_) (hf := fun hb2 => ?_)
  · have hx := idxP_at (p := fun y => v0 == y) false (l := l) (i := i) (by omega) (by simpa using hb2) hn
    refine rg_ [4] ?_
    refine awp_ret (up_ ?_)
    refine fp_ Tryz.results126 (hK := ?_)
    refine ⟨?_, rfl, rfl⟩
    rw [hx]
  refine awp_skip (up_ ?_)
  refine hK3 _ ?_
  refine rt_ [0, 1, 7, 8] ?_
  refine sg_ ?_
  refine rn_ (up_ ?_)
  refine ⟨⟨i + 1, by omega, fun j hj => by rcases Nat.lt_succ_iff_lt_or_eq.1 hj with h | h; exact hn j h; subst h; simpa using hb2⟩, ?_, (by first | rfl | trivial | (simp only [List.length_set]; done) | simp), by dsimp only; omega⟩
  try dsimp only
  exact ts_ hH

theorem c77 (l : List Int) (c : Cap) (x : Int) (h : List Blk) (live : List Nat) (hl : l.length ≤ 1000000000) : ACalls Tryz.prog 77 [.slice (l.map iV) c, .int .i64 x] h live (ret (.bool (l.any fun y => decide (x = y))) h live) := by
  refine ab_ Tryz.func77 (hw := fun hH hX => ?_)
  have sx := (And.intro @idxP_any sx0)
  refine rg_ [0, 1] ?_
  refine rs_ [4] ?_
  refine sg_ ?_
  refine cl_ (hc := c101 _ _ _ _ _ (by omega)) (k := ?_)
  refine sg_ ?_
  refine re_ ?_
  refine awp_ret (up_ ?_)
  refine fp_ Tryz.results77 (hK := ?_)
  exact ⟨rfl, rfl, rfl⟩

theorem c112 (l : List Bool) (c : Cap) (x : Bool) (h : List Blk) (live : List Nat) (hl : l.length ≤ 1000000000) : ACalls Tryz.prog 112 [.slice (l.map oV) c, .bool x] h live (ret (.bool (l.any fun y => x == y)) h live) := by
  refine ab_ Tryz.func112 (hw := fun hH hX => ?_)
  have sx := (And.intro @idxP_any sx0)
  refine rg_ [0, 1] ?_
  refine rs_ [4] ?_
  refine sg_ ?_
  refine cl_ (hc := c126 _ _ _ _ _ (by omega)) (k := ?_)
  refine sg_ ?_
  refine re_ ?_
  refine awp_ret (up_ ?_)
  refine fp_ Tryz.results112 (hK := ?_)
  exact ⟨rfl, rfl, rfl⟩

theorem c86 (l : List Bool) (c : Cap) (h : List Blk) (live : List Nat) (hl : l.length ≤ 1000000000) : ACalls Tryz.prog 86 [.slice (l.map oV) c] h live (ret (.bool (l.any fun y => true == y)) h live) := by
  refine ab_ Tryz.func86 (hw := fun hH hX => ?_)
  have sx := sx0
  refine rg_ [0] ?_
  refine rs_ [2] ?_
  refine sg_ ?_
  refine cl_ (hc := c112 _ _ _ _ _ (by omega)) (k := ?_)
  refine sg_ ?_
  refine re_ ?_
  refine awp_ret (up_ ?_)
  refine fp_ Tryz.results86 (hK := ?_)
  exact ⟨rfl, rfl, rfl⟩

theorem c65 (l : List UInt8) (c : Cap) (h : List Blk) (live : List Nat) (hl : l.length ≤ 1000000) : ACalls Tryz.prog 65 [.slice (l.map bV) c] h live (ret (.slice (l.map bV) .none) h live) := by
  refine ab_ Tryz.func65 (hw := fun hH hX => ?_)
  have sx := sx0
  refine rg_ [0] ?_
  refine sk_ fun K1 hK1 => ?_
  refine rs_ [0, 4] ?_
  refine sg_ ?_
  refine dawp_w rfl rfl rfl rfl (AOp.eqNil _ _ _ rfl (by kernel_rfl) (by (simp (disch := omega) only [push_cast, ↓reduceIte, Nat.reduceEqDiff, Nat.reduceAdd, Nat.reduceLeDiff, sx]) <;> rfl) ?_)
  intro nb4 hn4
  refine re_ ?_
  refine cb_ (ht := fun hb1 => ?_) (hf := fun hb1 => ?_)
  · have hl0 := List.map_eq_nil_iff.1 (hn4 hb1)
    subst hl0
    refine rg_ [2] ?_
    refine awp_ret (up_ ?_)
    refine fp_ Tryz.results65 (hx := by (simp only [atuple, AV.er, AV.erL, push_cast, erL_bV, erL_eV]) <;> rfl) (hcl := (by simp [AV.cl, AV.clL, clL_bV, clL_eV, -List.map_map])) (hK := ?_)
    exact ⟨rfl, rfl, rfl⟩
  refine awp_skip (up_ ?_)
  refine hK1 _ ?_
  refine rs_ [2] ?_
  refine sg_ ?_
  refine dawp_w rfl rfl rfl rfl (AOp.append _ _ _ rfl (by (simp (disch := omega) only [push_cast, ↓reduceIte, Nat.reduceEqDiff, Nat.reduceAdd, Nat.reduceLeDiff, sx]) <;> rfl) (by (simp (disch := omega) only [push_cast, ↓reduceIte, Nat.reduceEqDiff, Nat.reduceAdd, Nat.reduceLeDiff, sx]) <;> rfl) (by (simp (disch := omega) only [push_cast, ↓reduceIte, Nat.reduceEqDiff, Nat.reduceAdd, Nat.reduceLeDiff, sx]) <;> rfl) (.inl rfl) (by simp) (cells_bV _) (by simp; omega) (by simp; omega) ?_)
  intro c7 live7 hk7
  refine sg_ ?_
  refine re_ ?_
  refine awp_ret (up_ ?_)
  refine fp_ Tryz.results65 (hx := by (simp only [atuple, AV.er, AV.erL, push_cast, erL_bV, erL_eV]) <;> rfl) (hcl := (by simp [AV.cl, AV.clL, clL_bV, clL_eV, -List.map_map])) (hl := (fun u hu => (hk7.2 u hu (fun e => by cases e)).1)) (hK := ?_)
  exact ⟨rfl, rfl, rfl⟩

theorem c66 (l : List En) (c : Cap) (h : List Blk) (live : List Nat) (hl : l.length ≤ 1000000) : ACalls Tryz.prog 66 [.slice (l.map eV) c] h live (ret (.slice (l.map eV) .none) h live) := by
  refine ab_ Tryz.func66 (hw := fun hH hX => ?_)
  have sx := sx0
  refine rg_ [0] ?_
  refine sk_ fun K1 hK1 => ?_
  refine rs_ [0, 4] ?_
  refine sg_ ?_
  refine dawp_w rfl rfl rfl rfl (AOp.eqNil _ _ _ rfl (by kernel_rfl) (by (simp (disch := omega) only [push_cast, ↓reduceIte, Nat.reduceEqDiff, Nat.reduceAdd, Nat.reduceLeDiff, sx]) <;> rfl) ?_)
  intro nb4 hn4
  refine re_ ?_
  refine cb_ (ht := fun hb1 => ?_) (hf := fun hb1 => ?_)
  · have hl0 := List.map_eq_nil_iff.1 (hn4 hb1)
    subst hl0
    refine rg_ [2] ?_
    refine awp_ret (up_ ?_)
    refine fp_ Tryz.results66 (hx := by (simp only [atuple, AV.er, AV.erL, push_cast, erL_bV, erL_eV]) <;> rfl) (hcl := (by simp [AV.cl, AV.clL, clL_bV, clL_eV, -List.map_map])) (hK := ?_)
    exact ⟨rfl, rfl, rfl⟩
  refine awp_skip (up_ ?_)
  refine hK1 _ ?_
  refine rs_ [2] ?_
  refine sg_ ?_
  refine dawp_w rfl rfl rfl rfl (AOp.append _ _ _ rfl (by (simp (disch := omega) only [push_cast, ↓reduceIte, Nat.reduceEqDiff, Nat.reduceAdd, Nat.reduceLeDiff, sx]) <;> rfl) (by (simp (disch := omega) only [push_cast, ↓reduceIte, Nat.reduceEqDiff, Nat.reduceAdd, Nat.reduceLeDiff, sx]) <;> rfl) (by (simp (disch := omega) only [push_cast, ↓reduceIte, Nat.reduceEqDiff, Nat.reduceAdd, Nat.reduceLeDiff, sx]) <;> rfl) (.inl rfl) (by simp) (cells_eV _) (by simp; omega) (by simp; omega) ?_)
  intro c7 live7 hk7
  refine sg_ ?_
  refine re_ ?_
  refine awp_ret (up_ ?_)
  refine fp_ Tryz.results66 (hx := by (simp only [atuple, AV.er, AV.erL, push_cast, erL_bV, erL_eV]) <;> rfl) (hcl := (by simp [AV.cl, AV.clL, clL_bV, clL_eV, -List.map_map])) (hl := (fun u hu => (hk7.2 u hu (fun e => by cases e)).1)) (hK := ?_)
  exact ⟨rfl, rfl, rfl⟩

end Go.Proofs.YtjoklidphbmpoaaGreat
