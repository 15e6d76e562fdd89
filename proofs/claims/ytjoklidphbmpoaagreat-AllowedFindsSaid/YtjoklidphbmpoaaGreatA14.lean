import Derived.Test.YtjoklidphbmpoaaGreatA13
/-
  TABLES: what is allowed.
-/
namespace Go.Proofs.YtjoklidphbmpoaaGreat
open Go.Ab
set_option linter.unusedVariables false
set_option linter.unusedSimpArgs false
set_option maxRecDepth 8000
set_option maxHeartbeats 400000


def mayMode (c : Cr) (u : Int) : Bool := decide (c.uid = 0) || decide (u = c.uid)
def modeF (c : Cr) (kind gid m : Int) : Int := bif decide (c.uid = 0) || !decide (kind = 1) || memF c gid then bits .and .i64 m 4095 else bits .andNot .i64 (bits .and .i64 m 4095) 1024
def mayOwn (c : Cr) (u g tu tg : Int) : Bool := decide (c.uid = 0) || (decide (u = c.uid) && (decide (tu < 0) || decide (tu = u)) && (decide (tg < 0) || decide (tg = g) || memF c tg))
def clearF (is : Bool) (m bit : Int) : Int := bif is then bits .andNot .i64 m bit else m
def fileF (c : Cr) (kind : Int) : Bool := !(decide (c.uid = 0) || !decide (kind = 1))
def writtenF (c : Cr) (kind m : Int) : Int :=
  clearF (fileF c kind && !decide (bits .and .i64 (clsI (clearF (fileF c kind) (bits .and .i64 m 4095) 2048) 1) 1 = 0)) (clearF (fileF c kind) (bits .and .i64 m 4095) 2048) 1024
theorem written_eq (f : Bool) (m : Int) : clearF (f && !decide (bits .and .i64 (clsI (clearF true m 2048) 1) 1 = 0)) (clearF f m 2048) 1024 = clearF (f && !decide (bits .and .i64 (clsI (clearF f m 2048) 1) 1 = 0)) (clearF f m 2048) 1024 := by
  cases f
  · simp only [Bool.false_and]
  · rfl
def stickyF (c : Cr) (m du u : Int) : Bool := decide (c.uid = 0) || decide (bits .and .i64 m 512 = 0) || decide (du = c.uid) || decide (u = c.uid)
/-- Who asks, what was, what became of it, and files that are open. -/
def stC (c : Cr) (k : Nat) (x : Ch) (a b : Nd) (ws : List Int) : List AV := [.int .i64 c.uid, .int .i64 c.gid, .slice (c.gs.map iV) .none, .ptr k 0, .int .i64 x.kind, .int .i64 x.node, .int .i64 x.dir, .str x.name, .int .i64 x.to, .str x.other, .int .i64 x.over,
  .int .i64 a.kind, .int .i64 a.mode, .int .i64 a.uid, .int .i64 a.gid, .slice (a.data.map bV) .none, .slice (a.ents.map eV) .none, .str a.target, .int .i64 b.kind, .int .i64 b.mode, .int .i64 b.uid, .int .i64 b.gid, .slice (b.data.map bV) .none, .slice (b.ents.map eV) .none, .str b.target, .slice (ws.map iV) .none]
def intoF (T : Tab) (c : Cr) (d : Int) : Bool := wayF T c d && canT c T d 3
def stickT (T : Tab) (c : Cr) (d i : Int) : Bool := stickyF c (T.get d).1.mode (T.get d).1.uid (T.get i).1.uid
def wornF (c : Cr) (a b : Nd) : Bool := decide (b.mode = writtenF c a.kind a.mode)
def writeF (T : Tab) (c : Cr) (x : Ch) (a b : Nd) (ws : List Int) : Bool := ((ws.any fun y => decide (x.node = y)) || (seenF T c x.node && canT c T x.node 2)) && decide (a.kind = 1) && wornF c a b
def asF (was is : Int) : Int := bif decide (was = is) then -1 else is
def attrF (T : Tab) (c : Cr) (x : Ch) (a b : Nd) (ws : List Int) : Bool :=
  bif decide (a.uid = b.uid) && decide (a.gid = b.gid) then (seenF T c x.node && mayMode c a.uid && (decide (b.mode = modeF c a.kind a.gid b.mode) || wornF c a b)) || writeF T c x a b ws
  else seenF T c x.node && mayOwn c a.uid a.gid (asF a.uid b.uid) (asF a.gid b.gid) && wornF c a b
def takenF (T : Tab) (c : Cr) (x : Ch) : Bool := intoF T c x.dir && stickT T c x.dir x.node
def mvF (T : Tab) (c : Cr) (x : Ch) : Bool := takenF T c x && intoF T c x.to && (decide (x.over = 0) || stickT T c x.to x.over)
def mkF (T : Tab) (c : Cr) (x : Ch) (b : Nd) : Bool :=
  intoF T c x.dir && decide (b.uid = c.uid) && decide (b.gid = bif !decide (bits .and .i64 (T.get x.dir).1.mode 1024 = 0) then (T.get x.dir).1.gid else c.gid)
    && decide (bits .and .i64 b.mode 3072 = bif !decide (bits .and .i64 (T.get x.dir).1.mode 1024 = 0) && decide (b.kind = 2) then 1024 else 0) && decide ((b.data.length : Int) + b.ents.length = 0)

theorem c72 (c : Cr) (u : Int) (h : List Blk) (live : List Nat) : ACalls Tryz.prog 72 [.agg [.int .i64 c.uid, .int .i64 c.gid, .slice (c.gs.map iV) .none], .int .i64 u] h live (ret (.bool (mayMode c u)) h live) := by
  refine ab_ Tryz.func72 (hw := fun hH hX => ?_)
  have sx := (And.intro @any2 sx0)
  refine rg_ [1, 2] ?_
  refine rsq_ [4] ⟨true, [], [], [], [], [], 0⟩ (fun _ => ⟨by kernel_rfl, by kernel_rfl⟩) ?_
  refine sg_ ?_
  refine cr_ (hc := c87 c _ _ _) (k := ?_)
  refine sg_ ?_
  refine cr_ (hc := c86 [decide (c.uid = 0), decide (u = c.uid)] _ _ _ (by simp)) (k := ?_)
  refine sg_ ?_
  refine re_ ?_
  refine awp_ret (up_ ?_)
  refine fp_ Tryz.results72 (hK := ?_)
  exact ⟨rfl, rfl, rfl⟩

theorem c73 (c : Cr) (kn gid m : Int) (h : List Blk) (live : List Nat) (hgs : c.gs.length ≤ 1000000000) : ACalls Tryz.prog 73 [.agg [.int .i64 c.uid, .int .i64 c.gid, .slice (c.gs.map iV) .none], .int .i64 kn, .int .i64 gid, .int .i64 m] h live (ret (.int .i64 (modeF c kn gid m)) h live) := by
  refine ab_ Tryz.func73 (hw := fun hH hX => ?_)
  have sx := (And.intro @any3 sx0)
  refine rg_ [1, 2, 3, 4] ?_
  refine rg_ [1, 2, 3, 4] ?_
  refine sk_ fun K1 hK1 => ?_
  refine rsq_ [3, 19] ⟨true, [], [], [], [], [], 0⟩ (fun _ => ⟨by kernel_rfl, by kernel_rfl⟩) ?_
  refine sg_ ?_
  refine cr_ (hc := c87 c _ _ _) (k := ?_)
  refine sg_ ?_
  refine cr_ (hc := c99 c _ _ _ _ hgs) (k := ?_)
  refine sg_ ?_
  refine cr_ (hc := c86 [decide (c.uid = 0), !decide (kn = 1), memF c gid] _ _ _ (by simp)) (k := ?_)
  refine re_ ?_
  refine cb_ (ht := fun hb1 => ?_) (hf := fun hb1 => ?_)
  · refine rg_ [8] ?_
    refine awp_ret (up_ ?_)
    refine fp_ Tryz.results73 (hK := ?_)
    exact ⟨by unfold modeF; rw [hb1]; rfl, rfl, rfl⟩
  refine awp_skip (up_ ?_)
  refine hK1 _ ?_
  refine rg_ [8] ?_
  refine awp_ret (up_ ?_)
  refine fp_ Tryz.results73 (hK := ?_)
  exact ⟨by unfold modeF; rw [hb1]; rfl, rfl, rfl⟩

theorem c76 (c : Cr) (u gr tu tg : Int) (h : List Blk) (live : List Nat) (hgs : c.gs.length ≤ 1000000000) : ACalls Tryz.prog 76 [.agg [.int .i64 c.uid, .int .i64 c.gid, .slice (c.gs.map iV) .none], .int .i64 u, .int .i64 gr, .int .i64 tu, .int .i64 tg] h live (ret (.bool (mayOwn c u gr tu tg)) h live) := by
  refine ab_ Tryz.func76 (hw := fun hH hX => ?_)
  have sx := (And.intro @any2 (And.intro @any3 sx0))
  refine rg_ [1, 2, 3, 4, 5] ?_
  refine rs_ [5, 11] ?_
  refine sg_ ?_
  refine cg_ (hc := fun hg => c86 [decide (tu < 0), decide (tu = u)] _ _ _ (by simp)) (k := ?_)
  refine sg_ ?_
  refine cg_ (hc := fun hg => c99 c _ _ _ _ hgs) (k := ?_)
  refine sg_ ?_
  refine cg_ (hc := fun hg => c86 [decide (tg < 0), decide (tg = gr), memF c tg] _ _ _ (by simp)) (k := ?_)
  refine sg_ ?_
  refine re_ ?_
  refine rs_ [10] ?_
  refine sg_ ?_
  refine cl_ (hc := c87 c _ _ _) (k := ?_)
  refine sg_ ?_
  refine cl_ (hc := c86 [decide (c.uid = 0), (decide (u = c.uid) && (decide (tu < 0) || decide (tu = u)) && (decide (tg < 0) || decide (tg = gr) || memF c tg))] _ _ _ (by simp)) (k := ?_)
  refine sg_ ?_
  refine re_ ?_
  refine awp_ret (up_ ?_)
  refine fp_ Tryz.results76 (hK := ?_)
  exact ⟨rfl, rfl, rfl⟩

theorem c120 (b : Nat) (is : Bool) (bit m : Int) (h : List Blk) (live : List Nat) (hb : h[b]? = some (.cells [.int .i64 m])) : ACalls Tryz.prog 120 [.bool is, .int .i64 bit, .ptr b 0] h live (ret (.tup []) (h.set b (.cells [.int .i64 (clearF is m bit)])) live) := by
  refine ab_ Tryz.func120 (hw := fun hH hX => ?_)
  have hbl := lt_of_get hb
  have hB : ∀ x, HCl (h.set b (.cells [.int .i64 x])) := fun x => HCl.set hH b ⟨trivial, trivial⟩
  have sx := (And.intro @hb sx0)
  refine rg_ [1, 2, 5] ?_
  refine cb_ (ht := fun hb1 => ?_) (hf := fun hb1 => ?_)
  · refine rt_ [] ?_
    refine sg_ ?_
    refine rn_ (up_ ?_)
    refine fg_ (h1 := h.set b _) Tryz.results120 (hH := (hB _)) (hK := ?_)
    exact ⟨rfl, by unfold clearF; rw [hb1]; rfl, rfl⟩
  refine awp_skip (up_ ?_)
  refine fg_ (h1 := h.set b _) Tryz.results120 (hh := (⟨[], by rw [List.append_nil]; exact (set_self hb).symm⟩)) (hH := (hB _)) (hK := ?_)
  exact ⟨rfl, by unfold clearF; rw [hb1]; rfl, rfl⟩

theorem c100 (c : Cr) (kn m : Int) (h : List Blk) (live : List Nat) : ACalls Tryz.prog 100 [.agg [.int .i64 c.uid, .int .i64 c.gid, .slice (c.gs.map iV) .none], .int .i64 kn, .int .i64 m] h live (ret (.int .i64 (writtenF c kn m)) h live) := by
  refine ab_ Tryz.func100 (hw := fun hH hX => ?_)
  have sx := (And.intro @any2 sx0)
  refine rg_ [1, 3, 5] ?_
  refine rg_ [1, 3, 5] ?_
  refine rg_ [1, 3, 5, 7] ?_
  refine rs_ [5, 7, 8] ?_
  refine sg_ ?_
  refine cl_ (hc := c87 c _ _ _) (k := ?_)
  refine sg_ ?_
  refine cl_ (hc := c86 [decide (c.uid = 0), !decide (kn = 1)] _ _ _ (by simp)) (k := ?_)
  refine sg_ ?_
  refine re_ ?_
  refine rs_ [5, 7, 8] ?_
  refine sg_ ?_
  refine cl_ (hc := c120 (h.length + 1) _ _ _ _ _ (by simp only [push_cast]; rfl)) (k := ?_)
  refine re_ ?_
  refine rs_ [5] ?_
  refine sg_ ?_
  refine cg_ (hc := fun hg => c88 _ _ _ _) (k := ?_)
  refine sg_ ?_
  refine cl_ (hc := c120 (h.length + 1) _ _ _ _ _ (by simp only [push_cast]; rfl)) (k := ?_)
  refine re_ ?_
  refine rg_ [6] ?_
  refine awp_ret (up_ ?_)
  refine fp_ Tryz.results100 (hK := ?_)
  exact ⟨by unfold writtenF fileF; rw [written_eq], rfl, rfl⟩

theorem c102 (c : Cr) (m du u : Int) (h : List Blk) (live : List Nat) : ACalls Tryz.prog 102 [.agg [.int .i64 c.uid, .int .i64 c.gid, .slice (c.gs.map iV) .none], .int .i64 m, .int .i64 du, .int .i64 u] h live (ret (.bool (stickyF c m du u)) h live) := by
  refine ab_ Tryz.func102 (hw := fun hH hX => ?_)
  have sx := (And.intro @any4 sx0)
  refine rg_ [1, 2, 3, 4] ?_
  refine rsq_ [8] ⟨true, [], [], [], [], [], 0⟩ (fun _ => ⟨by kernel_rfl, by kernel_rfl⟩) ?_
  refine sg_ ?_
  refine cr_ (hc := c87 c _ _ _) (k := ?_)
  refine sg_ ?_
  refine cr_ (hc := c86 [decide (c.uid = 0), decide (bits .and .i64 m 512 = 0), decide (du = c.uid), decide (u = c.uid)] _ _ _ (by simp)) (k := ?_)
  refine sg_ ?_
  refine re_ ?_
  refine awp_ret (up_ ?_)
  refine fp_ Tryz.results102 (hK := ?_)
  exact ⟨rfl, rfl, rfl⟩

theorem c42 (T : Tab) (c : Cr) (k : Nat) (x : Ch) (a b : Nd) (ws : List Int) (i : Int) (h : List Blk) (live : List Nat) (hk : h[k]? = some (tabBlk T)) (hT : T.Ok) (hgs : c.gs.length ≤ 1000000000)  : ACalls Tryz.prog 42 [.agg (stC c k x a b ws), .int .i64 i] h live (ret (.agg (ndC (T.get i).1)) h live) := by
  refine ab_ Tryz.func42 (hw := fun hH hX => ?_)
  unfold stC
  have sx := (And.intro @Bool.true_and sx0)
  refine rg_ [1, 2, 4] ?_
  refine rs_ [4, 5] ?_
  refine sg_ ?_
  refine cl_ (hc := c18 T k _ _ _ (atApp hk) hT) (k := ?_)
  refine sg_ ?_
  refine re_ ?_
  refine rg_ [4] ?_
  refine awp_ret (up_ ?_)
  refine fp_ Tryz.results42 (hx := by (simp only [atuple, AV.er, AV.erL, push_cast, er_ndC]) <;> rfl) (hcl := (by exact clL_ndC _ _)) (hK := ?_)
  exact ⟨rfl, rfl, rfl⟩

theorem c78 (T : Tab) (c : Cr) (k : Nat) (x : Ch) (a b : Nd) (ws : List Int) (d : Int) (h : List Blk) (live : List Nat) (hk : h[k]? = some (tabBlk T)) (hT : T.Ok) (hgs : c.gs.length ≤ 1000000000)  : ACalls Tryz.prog 78 [.agg (stC c k x a b ws), .int .i64 d] h live (ret (.bool (intoF T c d)) h live) := by
  refine ab_ Tryz.func78 (hw := fun hH hX => ?_)
  unfold stC
  have sx := (And.intro @Bool.true_and sx0)
  refine rg_ [1, 2] ?_
  refine rs_ [4] ?_
  refine sg_ ?_
  refine cl_ (hc := c8 T k c _ _ _ _ (atApp hk) hT hgs) (k := ?_)
  refine sg_ ?_
  refine cg_ (hc := fun hg => c26 T k c _ _ _ _ _ (atApp hk) hT hgs) (k := ?_)
  refine sg_ ?_
  refine re_ ?_
  refine awp_ret (up_ ?_)
  refine fp_ Tryz.results78 (hK := ?_)
  exact ⟨rfl, rfl, rfl⟩

theorem c79 (T : Tab) (c : Cr) (k : Nat) (x : Ch) (a b : Nd) (ws : List Int) (d i : Int) (h : List Blk) (live : List Nat) (hk : h[k]? = some (tabBlk T)) (hT : T.Ok) (hgs : c.gs.length ≤ 1000000000)  : ACalls Tryz.prog 79 [.agg (stC c k x a b ws), .int .i64 d, .int .i64 i] h live (ret (.bool (stickT T c d i)) h live) := by
  refine ab_ Tryz.func79 (hw := fun hH hX => ?_)
  unfold stC
  have sx := (And.intro @Bool.true_and sx0)
  refine rg_ [1, 2, 3] ?_
  refine rs_ [2, 3, 7] ?_
  refine sg_ ?_
  refine cl_ (hc := c42 T c k x a b ws _ _ _ (atApp hk) hT hgs) (k := ?_)
  refine sg_ ?_
  refine re_ ?_
  refine rsq_ [6] ⟨true, [], [], [], [], [], 0⟩ (fun _ => ⟨by kernel_rfl, by kernel_rfl⟩) ?_
  refine sg_ ?_
  refine cr_ (hc := c42 T c k x a b ws _ _ _ (atApp hk) hT hgs) (k := ?_)
  refine sg_ ?_
  refine cr_ (hc := c102 c _ _ _ _ _) (k := ?_)
  refine sg_ ?_
  refine re_ ?_
  refine awp_ret (up_ ?_)
  refine fp_ Tryz.results79 (hK := ?_)
  exact ⟨rfl, rfl, rfl⟩

theorem c74 (T : Tab) (c : Cr) (k : Nat) (x : Ch) (a b : Nd) (ws : List Int)  (h : List Blk) (live : List Nat) (hk : h[k]? = some (tabBlk T)) (hT : T.Ok) (hgs : c.gs.length ≤ 1000000000)  : ACalls Tryz.prog 74 [.agg (stC c k x a b ws)] h live (ret (.bool (wornF c a b)) h live) := by
  refine ab_ Tryz.func74 (hw := fun hH hX => ?_)
  unfold stC
  have sx := (And.intro @Bool.true_and sx0)
  refine rg_ [1] ?_
  refine rsq_ [2] ⟨true, [], [], [], [], [], 0⟩ (fun _ => ⟨by kernel_rfl, by kernel_rfl⟩) ?_
  refine sg_ ?_
  refine cr_ (hc := c100 c _ _ _ _) (k := ?_)
  refine sg_ ?_
  refine re_ ?_
  refine awp_ret (up_ ?_)
  refine fp_ Tryz.results74 (hK := ?_)
  exact ⟨rfl, rfl, rfl⟩

theorem c45 (T : Tab) (c : Cr) (k : Nat) (x : Ch) (a b : Nd) (ws : List Int)  (h : List Blk) (live : List Nat) (hk : h[k]? = some (tabBlk T)) (hT : T.Ok) (hgs : c.gs.length ≤ 1000000000) (hws : ws.length ≤ 1000000000) : ACalls Tryz.prog 45 [.agg (stC c k x a b ws)] h live (ret (.bool (writeF T c x a b ws)) h live) := by
  refine ab_ Tryz.func45 (hw := fun hH hX => ?_)
  unfold stC
  have sx := (And.intro @Bool.true_and sx0)
  refine rg_ [1] ?_
  refine rs_ [1, 3] ?_
  refine sg_ ?_
  refine cl_ (hc := c77 ws _ _ _ _ hws) (k := ?_)
  refine sg_ ?_
  refine cg_ (hc := fun hg => c12 T k c _ _ _ _ (atApp hk) hT hgs) (k := ?_)
  refine sg_ ?_
  refine cg_ (hc := fun hg => c26 T k c _ _ _ _ _ (atApp hk) hT hgs) (k := ?_)
  refine sg_ ?_
  refine re_ ?_
  refine rs_ [2] ?_
  refine sg_ ?_
  refine cg_ (hc := fun hg => c74 T c k x a b ws _ _ (atApp hk) hT hgs) (k := ?_)
  refine sg_ ?_
  refine re_ ?_
  refine awp_ret (up_ ?_)
  refine fp_ Tryz.results45 (hK := ?_)
  exact ⟨rfl, rfl, rfl⟩

theorem c75 (was is : Int) (h : List Blk) (live : List Nat) : ACalls Tryz.prog 75 [.int .i64 was, .int .i64 is] h live (ret (.int .i64 (asF was is)) h live) := by
  refine ab_ Tryz.func75 (hw := fun hH hX => ?_)
  have sx := sx0
  refine rg_ [0, 1] ?_
  refine sk_ fun K1 hK1 => ?_
  refine rg_ [1, 7] ?_
  refine cb_ (ht := fun hb1 => ?_) (hf := fun hb1 => ?_)
  · refine rg_ [4] ?_
    refine awp_ret (up_ ?_)
    refine fp_ Tryz.results75 (hK := ?_)
    exact ⟨by unfold asF; rw [hb1]; rfl, rfl, rfl⟩
  refine awp_skip (up_ ?_)
  refine hK1 _ ?_
  refine rg_ [4] ?_
  refine awp_ret (up_ ?_)
  refine fp_ Tryz.results75 (hK := ?_)
  exact ⟨by unfold asF; rw [hb1]; rfl, rfl, rfl⟩

theorem c47 (T : Tab) (c : Cr) (k : Nat) (x : Ch) (a b : Nd) (ws : List Int)  (h : List Blk) (live : List Nat) (hk : h[k]? = some (tabBlk T)) (hT : T.Ok) (hgs : c.gs.length ≤ 1000000000)  : ACalls Tryz.prog 47 [.agg (stC c k x a b ws)] h live (ret (.bool (takenF T c x)) h live) := by
  refine ab_ Tryz.func47 (hw := fun hH hX => ?_)
  unfold stC
  have sx := (And.intro @Bool.true_and sx0)
  refine rg_ [1] ?_
  refine rs_ [2] ?_
  refine sg_ ?_
  refine cl_ (hc := c78 T c k x a b ws _ _ _ (atApp hk) hT hgs) (k := ?_)
  refine sg_ ?_
  refine cg_ (hc := fun hg => c79 T c k x a b ws _ _ _ _ (atApp hk) hT hgs) (k := ?_)
  refine sg_ ?_
  refine re_ ?_
  refine awp_ret (up_ ?_)
  refine fp_ Tryz.results47 (hK := ?_)
  exact ⟨rfl, rfl, rfl⟩

theorem c48 (T : Tab) (c : Cr) (k : Nat) (x : Ch) (a b : Nd) (ws : List Int)  (h : List Blk) (live : List Nat) (hk : h[k]? = some (tabBlk T)) (hT : T.Ok) (hgs : c.gs.length ≤ 1000000000)  : ACalls Tryz.prog 48 [.agg (stC c k x a b ws)] h live (ret (.bool (mvF T c x)) h live) := by
  refine ab_ Tryz.func48 (hw := fun hH hX => ?_)
  unfold stC
  have sx := (And.intro @Bool.true_and sx0)
  refine rg_ [1] ?_
  refine rs_ [2] ?_
  refine sg_ ?_
  refine cl_ (hc := c47 T c k x a b ws _ _ (atApp hk) hT hgs) (k := ?_)
  refine sg_ ?_
  refine cg_ (hc := fun hg => c78 T c k x a b ws _ _ _ (atApp hk) hT hgs) (k := ?_)
  refine sg_ ?_
  refine cg_ (hc := fun hg => c79 T c k x a b ws _ _ _ _ (atApp hk) hT hgs) (k := ?_)
  refine sg_ ?_
  refine re_ ?_
  refine awp_ret (up_ ?_)
  refine fp_ Tryz.results48 (hK := ?_)
  exact ⟨rfl, rfl, rfl⟩

end Go.Proofs.YtjoklidphbmpoaaGreat
