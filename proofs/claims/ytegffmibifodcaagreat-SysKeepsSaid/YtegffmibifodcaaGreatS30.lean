import Derived.Test.YtegffmibifodcaaGreatS28
/-
  CALLS: the law that what is open is read to its end.
-/
namespace Go.Proofs.YtegffmibifodcaaGreat
open Go.Ab
set_option linter.unusedVariables false
set_option linter.unusedSimpArgs false
set_option maxRecDepth 8000
set_option maxHeartbeats 400000

/-- Another process's call turns nothing that is a process's own. -/
theorem doF_fd (T : Tab) (ps : List Pr) {pid : Int} (ca : Ca) {p : Int} (k : Int) (h : p ≠ pid) : fdQ (doF T ps pid ca).2.2 p k = fdQ ps p k := by
  unfold doF
  split
  · unfold fdQ
    rw [List.length_set]
    by_cases hc : (0 ≤ p ∧ p < ps.length) ∧ 0 ≤ k ∧ k < 3
    · rw [if_pos hc, if_pos hc, List.getD_eq_getElem?_getD, List.getElem?_set_ne (by omega), List.getD_eq_getElem?_getD]
    · rw [if_neg hc, if_neg hc]
  · rfl
theorem doF_um (T : Tab) (ps : List Pr) {pid : Int} (ca : Ca) {p : Int} (h : p ≠ pid) : umQ (doF T ps pid ca).2.2 p = umQ ps p := by
  unfold doF
  split
  · unfold umQ
    rw [List.length_set]
    by_cases hc : 0 ≤ p ∧ p < ps.length
    · rw [if_pos hc, if_pos hc, List.getD_eq_getElem?_getD, List.getElem?_set_ne (by omega), List.getD_eq_getElem?_getD]
    · rw [if_neg hc, if_neg hc]
  · rfl

theorem free_get {T : Tab} (hT : T.Ok) (j : Int) (o : List Int) {k : Int} (hk : k ∈ o) : (freeF T j o).2.get k = T.get k := by
  unfold freeF
  split
  · rfl
  · rename_i h
    show (dropT T j).get k = _
    rw [drop_get hT, if_neg]
    intro e
    subst e
    exact h (.inr (List.any_eq_true.2 ⟨k, hk, by simp⟩))
theorem cut_get_f {T : Tab} (hT : Gd T) (d : Int) (s : List UInt8) {k : Int} (hk : (T.get k).1.kind = 1) : (cutF T d s).get k = T.get k := by
  rw [cut_get hT, if_neg]
  rintro ⟨rfl, h⟩
  omega
theorem unlink_get {T : Tab} (hT : Gd T) (c : Cr) (p : List UInt8) {o : List Int} {k : Int} (hk : (T.get k).1.kind = 1) (ho : k ∈ o) : (unlinkF T c p o).2.get k = T.get k := by
  unfold unlinkF
  split
  · rfl
  split
  · rfl
  · show ((freeF _ _ _).2).get k = _
    rw [free_get (hT.cut _ _).1 _ _ ho, cut_get_f hT _ _ hk]
theorem renL_get {T U : Tab} (hU : Gd U) (c : Cr) (p q : List UInt8) {o : List Int} {k : Int} (hk : (U.get k).1.kind = 1) (ho : k ∈ o) : (renL T c p q o U).2.get k = U.get k := by
  have hnm := resF_nm T c q false
  have hC := hU.cut (rD T c p false) (rS T c p false)
  have hCk := cut_get_f hU (rD T c p false) (rS T c p false) hk
  unfold renL
  split
  · rename_i hw
    have hn := withN_ok (s := rS T c q false) (id := rN T c p false) (hC.nd (rD T c q false)) (by omega)
    show ((freeF _ _ _).2).get k = _
    rw [free_get (hC.put hn _).1 _ _ ho]
    by_cases hd : ((cutF U (rD T c p false) (rS T c p false)).get (rD T c q false)).1.kind = 2
    · rw [(putT_get hC.1 hn (withN_right (hC.2.kind (by omega)) hw) (get_kind_at (by omega))).2, if_neg, hCk]
      intro e
      rw [← e, hCk] at hd; omega
    · unfold withN at hw
      rw [if_pos hd] at hw; cases hw
  · show ((freeF _ _ _).2).get k = _
    rw [free_get hC.1 _ _ ho, hCk]
theorem rename_get {T : Tab} (hT : Gd T) (c : Cr) (p q : List UInt8) {o : List Int} {k : Int} (hk : (T.get k).1.kind = 1) (ho : k ∈ o) : (renameF T c p q o).2.get k = T.get k := by
  unfold renameF
  split
  · rfl
  split
  · rfl
  split
  · rfl
  split
  · rfl
  split
  · rfl
  split
  · rfl
  split
  · rfl
  split
  · split
    · rfl
    · have := cut_get_f hT (rD T c q false) (rS T c q false) hk
      rw [renL_get (hT.cut _ _) c p q (by rw [this]; exact hk) ho, this]
  · exact renL_get hT c p q hk ho
theorem prO_mem {P : Pr} {j n : Nat} (hj : j < n) (h : (P.fd j).node ≠ 0) : (P.fd j).node ∈ prO P n := List.mem_map.2 ⟨j, List.mem_filter.2 ⟨List.mem_range.2 hj, decide_eq_true h⟩, rfl⟩
theorem open_mem {ps : List Pr} {i : Int} {off : Int} {r w : Bool} (h : fdQ ps 0 0 = ⟨i, off, r, w⟩) (hi : i ≠ 0) : i ∈ openL ps := by
  unfold fdQ at h
  split at h
  · rename_i hc
    have hp : 0 < ps.length := by omega
    rw [show ((0 : Int)).toNat = 0 from rfl, List.getD_eq_getElem?_getD, List.getElem?_eq_getElem hp] at h
    have h2 : ps[0].fd 0 = ⟨i, off, r, w⟩ := h
    unfold openL
    refine List.mem_flatMap.2 ⟨ps[0], List.getElem_mem hp, ?_⟩
    have := prO_mem (P := ps[0]) (j := 0) (n := 3) (by omega) (by rw [h2]; exact hi)
    rw [h2] at this; exact this
  · cases h; exact absurd rfl hi
/-- Another process takes an entry away, or moves one: what is open stays. -/
theorem doF_keep {T : Tab} (hT : Gd T) (ps : List Pr) (pid : Int) (ca : Ca) (hk : ca.kind = 10 ∨ ca.kind = 12) {i : Int} (hi : (T.get i).1.kind = 1) (ho : i ∈ openL ps) : (doF T ps pid ca).2.1.get i = T.get i := by
  unfold doF
  split
  · rcases hk with hk | hk
    · have e : ∀ n P, (stepF T ps n P ca).2.1 = (unlinkF T P.c ca.path (openL ps)).2 := fun n P => by
        unfold stepF chaF; simp [hk]
      rw [e]; exact unlink_get hT _ _ hi ho
    · have e : ∀ n P, (stepF T ps n P ca).2.1 = (renameF T P.c ca.path ca.other (openL ps)).2 := fun n P => by
        unfold stepF chaF; simp [hk]
      rw [e]; exact rename_get hT _ _ _ hi ho
  · rfl
def kA (p : List UInt8) : Ca := ⟨13, p, [], 1, 0, []⟩
def kU (p : List UInt8) : Ca := ⟨10, p, [], 0, 0, []⟩
def kR (p : List UInt8) : Ca := ⟨12, p, [109, 111, 118, 101, 100], 0, 0, []⟩
def kB (b : Int) : Ca := ⟨14, [], [], 0, b, []⟩
def kCs : List Cr := [⟨0, 0, []⟩, ⟨0, 0, []⟩]
def kPs : List Pr := kCs.map (pr1 18)
/-- A file is opened for reading. -/
theorem open_read {T : Tab} (hT : Gd T) (p : List UInt8) : ((doF T kPs 0 (kA p)).1.err ≠ 0 ∧ (doF T kPs 0 (kA p)).1.n = 0) ∨ ((doF T kPs 0 (kA p)).1.err = 0 ∧ (doF T kPs 0 (kA p)).1.n = 0 ∧ (doF T kPs 0 (kA p)).2.1 = T ∧ ∃ i, i ≠ 0 ∧ fdQ (doF T kPs 0 (kA p)).2.2 0 0 = ⟨i, 0, true, false⟩ ∧ (T.get i).1.kind = 1) := by
  have e : doF T kPs 0 (kA p) = ((opnAt T (pr1 18 ⟨0, 0, []⟩) (kA p) 0).1, (opnAt T (pr1 18 ⟨0, 0, []⟩) (kA p) 0).2.1, kPs.set 0 (opnAt T (pr1 18 ⟨0, 0, []⟩) (kA p) 0).2.2) := rfl
  rw [e]
  unfold opnAt
  split
  · rename_i h; exact .inl ⟨h, rfl⟩
  · rename_i h
    have h0 := Classical.not_not.1 h
    right
    refine ⟨rfl, rfl, ?_⟩
    unfold openF at h0 ⊢
    have f1 : flagsF 1 = true := by decide
    have f2 : hasF 1 40 = false := by decide
    have f3 : hasF 1 4 = false := by decide
    have f4 : hasF 1 8 = false := by decide
    have f5 : hasF 1 16 = false := by decide
    have f6 : hasF 1 1 = true := by decide
    have f7 : hasF 1 2 = false := by decide
    simp only [kA, f1, f2, f3, f4, f5, f6, f7, Bool.not_false, Bool.true_eq_false, Bool.false_eq_true, if_false, if_true] at h0 ⊢
    split at h0
    · rename_i k; exact absurd h0 k
    rename_i k1; rw [if_neg k1]
    split at h0
    · cases h0
    rename_i k2; rw [if_neg k2]
    split at h0
    · cases h0
    rename_i k3; rw [if_neg k3]
    split at h0
    · cases h0
    rename_i k4; rw [if_neg k4]
    generalize bits .or .i64 4 0 = w at h0 ⊢
    split at h0
    · cases h0
    rename_i k5; rw [if_neg k5]
    have hi : (T.get (rN T ⟨0, 0, []⟩ p true)).2 = true := by
      cases hh : (T.get (rN T ⟨0, 0, []⟩ p true)).2 with
      | true => rfl
      | false => exact absurd hh k2
    refine ⟨rfl, rN T ⟨0, 0, []⟩ p true, ?_, rfl, ?_⟩
    · have := get_pos hT.1 hi; omega
    · rcases right_cases (hT.2.get hi) with ⟨_, h | h | h⟩
      · exact h.1
      · exact absurd h.1 k4
      · exact absurd h.1 k3
/-- A file that is open is read. -/
theorem do_read {T : Tab} {ps : List Pr} {i : Int} {off : Nat} (hps : 0 < ps.length) (h : fdQ ps 0 0 = ⟨i, off, true, false⟩) (hi : i ≠ 0) (hk : (T.get i).1.kind = 1) {b : Int} (hb : 0 ≤ b) (ho : off ≤ 1000) (hd : (T.get i).1.data.length ≤ 1000) :
    (doF T ps 0 (kB b)).1.err = 0 ∧ (doF T ps 0 (kB b)).1.data = ((T.get i).1.data.drop off).take b.toNat ∧ (doF T ps 0 (kB b)).2.1 = T ∧ fdQ (doF T ps 0 (kB b)).2.2 0 0 = ⟨i, ((off + min b.toNat ((T.get i).1.data.length - off) : Nat) : Int), true, false⟩ := by
  have h2 : (ps[0]'hps).fd 0 = ⟨i, off, true, false⟩ := by
    unfold fdQ at h
    split at h
    · rw [show ((0 : Int)).toNat = 0 from rfl, List.getD_eq_getElem?_getD, List.getElem?_eq_getElem hps] at h
      exact h
    · cases h
  have hr : readF T i off b = (((T.get i).1.data.drop off).take b.toNat, 0) := by
    unfold readF
    rw [if_neg (fun h => h hk), if_neg (by omega), Int.toNat_natCast]
  have hg : ps.getD 0 pr0 = ps[0] := by rw [List.getD_eq_getElem?_getD, List.getElem?_eq_getElem hps]; rfl
  have hred : redF T ps[0] (kB b) = (⟨0, 0, sta0, [], [], ((T.get i).1.data.drop off).take b.toNat⟩, (ps[0]).put 0 ⟨i, IntKind.i64.wrap (off + (((T.get i).1.data.drop off).take b.toNat).length), true, false⟩) := by
    unfold redF
    show (if ((0 : Int) < 0 ∨ 3 ≤ (0 : Int)) ∨ ((ps[0]).fd 0).node = 0 ∨ ((ps[0]).fd 0).rd = false then _ else _) = _
    rw [h2, if_neg (by rintro (h | h | h); omega; exact hi h; cases h)]
    show ((⟨(readF T ((ps[0]).fd 0).node ((ps[0]).fd 0).off b).2, 0, sta0, [], [], (readF T ((ps[0]).fd 0).node ((ps[0]).fd 0).off b).1⟩ : Rs), (ps[0]).put 0 ⟨((ps[0]).fd 0).node, IntKind.i64.wrap (((ps[0]).fd 0).off + (readF T ((ps[0]).fd 0).node ((ps[0]).fd 0).off b).1.length), ((ps[0]).fd 0).rd, ((ps[0]).fd 0).wr⟩) = _
    rw [h2]
    show ((⟨(readF T i off b).2, 0, sta0, [], [], (readF T i off b).1⟩ : Rs), (ps[0]).put 0 ⟨i, IntKind.i64.wrap (off + (readF T i off b).1.length), true, false⟩) = _
    rw [hr]
  have e : doF T ps 0 (kB b) = ((redF T ps[0] (kB b)).1, T, ps.set 0 (redF T ps[0] (kB b)).2) := by
    unfold doF
    rw [if_pos ⟨by omega, by omega⟩, show ((0 : Int)).toNat = 0 from rfl, hg]
    rfl
  rw [e, hred]
  refine ⟨rfl, rfl, rfl, ?_⟩
  unfold fdQ
  rw [List.length_set, if_pos ⟨⟨by omega, by omega⟩, by omega, by omega⟩, show ((0 : Int)).toNat = 0 from rfl, List.getD_eq_getElem?_getD, List.getElem?_set_self hps]
  show (⟨i, IntKind.i64.wrap (off + (((T.get i).1.data.drop off).take b.toNat).length), true, false⟩ : Fde) = _
  have hw := wrapS (a := (off : Int) + (min b.toNat ((T.get i).1.data.length - off) : Nat)) (by omega) (by omega)
  rw [List.length_take, List.length_drop, hw, ← Int.natCast_add]
/-- What stands while a file is read. -/
structure KeepI (n k14 k16 : Nat) (r1 : Rs) (N : Nd) (i : Int) (H : List Blk) (T : Tab) (ps : List Pr) (off : Nat) : Prop where
  sys : SysAt H (n + 1) n (n + 3) T ps
  b14 : H[k14]? = some (.cells (rsC r1))
  b16 : H[k16]? = some (.cells (ndC N))
  cl : HCl H
  ln : ps.length = 2
  fd : fdQ ps 0 0 = ⟨i, off, true, false⟩
  nd : (T.get i).1 = N
  le : off ≤ N.data.length
theorem KeepI.other {n k14 k16 : Nat} {r1 : Rs} {N : Nd} {i : Int} {H : List Blk} {T : Tab} {ps : List Pr} {off : Nat} (hk : KeepI n k14 k16 r1 N i H T ps off) (hi : i ≠ 0) (hN : N.kind = 1) (h14 : n + 6 ≤ k14) (h16 : n + 6 ≤ k16) {ca : Ca} (hc : ca.kind = 10 ∨ ca.kind = 12) {H2 : List Blk} {d : Rs × Tab × List Pr} (e : doF T ps 1 ca = d)
    (hy : SysAt H2 (n + 1) n (n + 3) d.2.1 d.2.2) (ho : ∀ i, i ≠ n → (∀ j, j < ps.length → i ≠ n + 3 + 2 * j) → H2[i]? = H[i]?) (hcl : HCl H2) : KeepI n k14 k16 r1 N i H2 d.2.1 d.2.2 off := by
  have hl := hk.ln
  refine ⟨hy, (ho _ (by omega) (fun j hj => by omega)).trans hk.b14, (ho _ (by omega) (fun j hj => by omega)).trans hk.b16, hcl, ?_, ?_, ?_, hk.le⟩
  · rw [← e, doF_len]; exact hl
  · rw [← e, doF_fd _ _ _ _ (by decide)]; exact hk.fd
  · rw [← e, doF_keep ⟨hk.sys.ok, hk.sys.rt⟩ _ _ _ hc (by rw [hk.nd]; exact hN) (open_mem hk.fd hi)]; exact hk.nd


theorem KeepI.read {n k14 k16 : Nat} {r1 : Rs} {N : Nd} {i : Int} {H : List Blk} {T : Tab} {ps : List Pr} {off : Nat} (hk : KeepI n k14 k16 r1 N i H T ps off) {H2 : List Blk} {d : Rs × Tab × List Pr} {o2 : Nat} (hy : SysAt H2 (n + 1) n (n + 3) d.2.1 d.2.2) (e14 : H2[k14]? = H[k14]?) (e16 : H2[k16]? = H[k16]?) (hcl : HCl H2)
    (hdl : d.2.2.length = 2) (hfd : fdQ d.2.2 0 0 = ⟨i, o2, true, false⟩) (hTd : d.2.1 = T) (hle : o2 ≤ N.data.length) : KeepI n k14 k16 r1 N i H2 d.2.1 d.2.2 o2 :=
  ⟨hy, e14.trans hk.b14, e16.trans hk.b16, hcl, hdl, hfd, by rw [hTd]; exact hk.nd, hle⟩
theorem u8i (c : UInt8) : IntKind.i64.wrap ((c.toNat : Int) % 5) = (c.toNat : Int) % 5 := wrapS (by omega) (by omega)
theorem kPs_len : kPs.length = 2 := rfl
theorem abs_bV (l : List UInt8) : abytes (l.map bV) = some l := by
  induction l with
  | nil => rfl
  | cons c l ih =>
    show (match abytes (l.map bV) with | some bs => some (UInt8.ofNat ((c.toNat : Int)).toNat :: bs) | none => none) = _
    rw [ih]; simp

theorem c4 (room : Int) (l : List Rw) (path : List UInt8) (pieces : List UInt8) (kind : UInt8) (h : List Blk) (live : List Nat) (hh0 : h = []) (hn : l.length ≤ 9223372036854775807) (hp : path.length ≤ 9223372036854775807) (hpc : pieces.length ≤ 9223372036854775807) : ACalls Tryz.prog 4 [.int .i64 room, .slice (l.map rV) .none, .str path, .slice (pieces.map bV) .none, .int .u8 kind.toNat] h live (ret (.bool true) h live) := by
  refine ab_ Tryz.func4 (hw := fun hH hX => ?_)
  have sx := sx0
  refine rg_ [0, 1, 2, 3, 4] ?_
  refine rs_ [0, 1, 2, 3, 4, 11] ?_
  refine cl_ (hc := c8 _ _ hh0) (k := ?_)
  refine sg_ ?_
  refine re_ ?_
  refine sk_ fun K1 hK1 => ?_
  refine rg_ [0, 1, 2, 3, 4, 23] ?_
  refine cdn_ (ht := fun hb1 => ?_) (hf := fun hb1 => ?_)
  · exfalso; exact Bool.noConfusion hb1
  refine awp_skip (up_ ?_)
  refine hK1 _ ?_
  refine rs_ [2, 3, 4, 12, 13] ?_
  refine sg_ ?_
  refine ck_ (k := ?_)
  refine erx_ (ys := [.int .i64 room, .slice (l.map rV) .none, .int .i64 18, .slice (kCs.map crV) .none]) (by simp only [List.map_cons, List.map_nil, AV.er, AV.erL, erL_rV] <;> rfl) ((ACalls.hclK (c9 room l 18 kCs _ _ hn (by decide) (by decide))).mono ?_); rintro x0 H0 live ⟨hb0, hH0⟩; obtain ⟨rfl, p0, rfl, hp0⟩ := begun_el hb0
  refine sg_ ?_
  refine re_ ?_
  refine sk_ fun K2 hK2 => ?_
  refine rg_ [2, 3, 4, 12, 49] ?_
  refine cdn_ (ht := fun hb2 => ?_) (hf := fun hb2 => ?_)
  · refine rg_ [10] ?_
    refine awp_ret (up_ ?_)
    refine fg_ (h1 := h) Tryz.results4 (hh := (⟨_, by rw [hh0]; exact (List.nil_append _).symm⟩)) (hK := ?_)
    exact ⟨rfl, rfl, rfl⟩
  obtain ⟨⟨⟨hb21, hb22⟩, hb23⟩, hb24⟩ := hb2
  obtain ⟨T, hTe⟩ := Option.isSome_iff_exists.1 hb21
  obtain ⟨n, rfl, hy0⟩ := hp0 T hTe (by decide) (by decide)
  have hnl := lt_of_get hy0.s
  have hGd : Gd T := ⟨hy0.ok, hy0.rt⟩
  obtain ⟨d1, hd1⟩ : ∃ d, doF T kPs 0 (kA path) = d := ⟨_, rfl⟩
  have hor := open_read hGd path
  rw [hd1] at hor
  refine awp_skip (up_ ?_)
  refine hK2 _ ?_
  refine rs_ [2, 3, 4, 12, 14] ?_
  refine sg_ ?_
  refine ck_ (k := ?_)
  refine erx_ (ys := [.ptr (n + 1) 0, .int .i64 0, .agg (caC (kA path))]) (by simp only [List.map_cons, List.map_nil, AV.er, AV.erL, List.append_nil] <;> rfl) ((kDo hy0 0 (kA path) hd1 (by simp [kA, kU, kR, kB]; try omega) (by simp [kA, kU, kR, kB]) (by simp [kA, kU, kR, kB])).mono ?_); rintro _ H1 live ⟨⟨rfl, hy1, hl1, ho1, rfl⟩, hH1⟩
  refine sg_ ?_
  refine re_ ?_
  refine sk_ fun K3 hK3 => ?_
  refine rg_ [2, 3, 4, 12, 14, 56] ?_
  refine cdy_ (ht := fun hb3 => ?_) (hf := fun hb3 => ?_)
  · have hn0 : d1.1.n = 0 := hor.elim (fun h => h.2) (fun h => absurd h.1 hb3)
    refine rg_ [10] ?_
    refine awp_ret (up_ ?_)
    refine fg_ (h1 := h) Tryz.results4 (hh := (⟨_, by rw [hh0]; exact (List.nil_append _).symm⟩)) (hK := ?_)
    exact ⟨by rw [hn0]; rfl, rfl, rfl⟩
  simp at hb3
  obtain ⟨he1, hn1, hT1, i, hi0, hfd, hik⟩ : d1.1.err = 0 ∧ d1.1.n = 0 ∧ d1.2.1 = T ∧ ∃ i, i ≠ 0 ∧ fdQ d1.2.2 0 0 = ⟨i, 0, true, false⟩ ∧ (T.get i).1.kind = 1 := hor.elim (fun h => absurd hb3 h.1) id
  clear hor
  have hfn : (fdQ d1.2.2 0 0).node = i := by rw [hfd]
  have hdl1 : d1.2.2.length = 2 := by rw [← hd1]; exact doF_len _ _ _ _
  obtain ⟨N, hN⟩ : ∃ N, (d1.2.1.get i).1 = N := ⟨_, rfl⟩
  have hNk : N.kind = 1 := by rw [← hN, hT1]; exact hik
  have hNd : N.data.length ≤ 48 := by
    rcases right_cases (hGd.2.kind (by omega : (T.get i).1.kind ≠ 0)) with ⟨_, h | h | h⟩
    · rw [← hN, hT1]; exact h.2.2.2
    · omega
    · omega
  have sx := And.intro hn1 (And.intro hfn (And.intro hN sx))
  refine awp_skip (up_ ?_)
  refine hK3 _ ?_
  refine rs_ [2, 3, 4, 12, 14, 15] ?_
  refine sg_ ?_
  refine cl_ (hc := c22 _ _ _ _ _ _ _ hy1.app _ _) (k := ?_)
  refine sg_ ?_
  refine re_ ?_
  refine rs_ [2, 3, 4, 12, 14, 16] ?_
  refine sg_ ?_
  refine cl_ (hc := c14 _ _ _ _ _ _ _ hy1.app) (k := ?_)
  refine sg_ ?_
  refine cl_ (hc := c24 d1.2.1 _ _ _ _ (by simp only [push_cast]) hy1.ok) (k := ?_)
  refine sg_ ?_
  refine re_ ?_
  refine rs_ [2, 3, 4, 12, 14, 16, 18] ?_
  obtain ⟨k14, hk14⟩ : ∃ k, H1.length = k := ⟨_, rfl⟩
  obtain ⟨k16, hk16⟩ : ∃ k, k14 + 2 = k := ⟨_, rfl⟩
  simp only [hk14, hk16]
  have hl0 := lt_of_get (hy0.p 1 (by decide))
  have h14 : n + 6 ≤ k14 := by omega
  have h16 : n + 6 ≤ k16 := by omega
  have hHc : HCl (H1 ++ [.cells (rsC d1.1), tabBlk d1.2.1, .cells (ndC N)]) := by
    have := HCl.snoc (HCl.snoc (HCl.snoc (b := .cells (rsC d1.1)) hH1 (clL_rsC _ _)) (b := tabBlk d1.2.1) (cl_tab _ _)) (b := .cells (ndC N)) (clL_ndC _ _)
    rw [List.append_assoc, List.append_assoc] at this; exact this
  have hkp0 : KeepI n k14 k16 d1.1 N i (H1 ++ [.cells (rsC d1.1), tabBlk d1.2.1, .cells (ndC N)]) d1.2.1 d1.2.2 0 := ⟨hy1.app, by rw [← hk14, get_app0]; rfl, by rw [← hk16, ← hk14, get_app]; rfl, hHc, hdl1, hfd, hN, Nat.zero_le _⟩
  refine sg_ ?_
  refine re_ ?_
  refine sk_ fun K4 hK4 => ?_
  refine rg_ [2, 3, 4, 12, 14, 16, 18, 19] ?_
  refine awp_block ?_
  refine awp_loopG (X := {x : Nat × List Blk × Tab × List Pr × Nat // x.1 ≤ 60 ∧ KeepI n k14 k16 d1.1 N i x.2.1 x.2.2.1 x.2.2.2.1 x.2.2.2.2 ∧ min x.1 N.data.length ≤ x.2.2.2.2}) (fun x => ⟨Tryz.f4.ntmps, fget [(2, .str path), (3, .slice (pieces.map bV) .none), (4, .int .u8 kind.toNat), (12, .ptr (n + 1) 0), (14, .ptr k14 0), (16, .ptr k16 0), (18, .str (N.data.take x.1.2.2.2.2)), (19, .int .i64 (x.1.1 : Nat))], x.1.2.1, live⟩) (fun x => 60 - x.1.1) (⟨⟨0, H1 ++ [.cells (rsC d1.1), tabBlk d1.2.1, .cells (ndC N)], d1.2.1, d1.2.2, 0⟩, by dsimp only; omega, hkp0, by simp⟩) ?_ (by first | rfl | (simp only [List.length_set]; done) | simp) (fun ⟨⟨k, H, T1, ps, off⟩, hk60, hkp, hmin⟩ => ?_)
  · try dsimp only
    refine Trunc.of (by first | exact (List.append_nil _).symm | exact rfl | (rw [List.append_assoc]; rfl)) ?_ (by first | exact hHc | exact hkp5.cl) (fun _ h => h)
    refine FTr.cons (by first | rfl | ((simp (disch := omega) only [push_cast, ↓reduceIte, Nat.reduceEqDiff, Nat.reduceAdd, Nat.reduceLeDiff, sx]) <;> rfl)) (by first | exact trivial | exact clL_bV _ _ | (simp [AV.cl, AV.clL]; done) | (simp only [AV.cl]; omega) | (simp [AV.cl]; omega)) ?_
    refine FTr.cons (by first | rfl | ((simp (disch := omega) only [push_cast, ↓reduceIte, Nat.reduceEqDiff, Nat.reduceAdd, Nat.reduceLeDiff, sx]) <;> rfl)) (by first | exact trivial | exact clL_bV _ _ | (simp [AV.cl, AV.clL]; done) | (simp only [AV.cl]; omega) | (simp [AV.cl]; omega)) ?_
    refine FTr.cons (by first | rfl | ((simp (disch := omega) only [push_cast, ↓reduceIte, Nat.reduceEqDiff, Nat.reduceAdd, Nat.reduceLeDiff, sx]) <;> rfl)) (by first | exact trivial | exact clL_bV _ _ | (simp [AV.cl, AV.clL]; done) | (simp only [AV.cl]; omega) | (simp [AV.cl]; omega)) ?_
    refine FTr.cons (by first | rfl | ((simp (disch := omega) only [push_cast, ↓reduceIte, Nat.reduceEqDiff, Nat.reduceAdd, Nat.reduceLeDiff, sx]) <;> rfl)) (by first | exact trivial | exact clL_bV _ _ | (simp [AV.cl, AV.clL]; done) | (simp only [AV.cl]; omega) | (simp [AV.cl]; omega)) ?_
    refine FTr.cons (by first | rfl | ((simp (disch := omega) only [push_cast, ↓reduceIte, Nat.reduceEqDiff, Nat.reduceAdd, Nat.reduceLeDiff, sx]) <;> rfl)) (by first | exact trivial | exact clL_bV _ _ | (simp [AV.cl, AV.clL]; done) | (simp only [AV.cl]; omega) | (simp [AV.cl]; omega)) ?_
    refine FTr.cons (by first | rfl | ((simp (disch := omega) only [push_cast, ↓reduceIte, Nat.reduceEqDiff, Nat.reduceAdd, Nat.reduceLeDiff, sx]) <;> rfl)) (by first | exact trivial | exact clL_bV _ _ | (simp [AV.cl, AV.clL]; done) | (simp only [AV.cl]; omega) | (simp [AV.cl]; omega)) ?_
    refine FTr.cons (by first | rfl | ((simp (disch := omega) only [push_cast, ↓reduceIte, Nat.reduceEqDiff, Nat.reduceAdd, Nat.reduceLeDiff, sx]) <;> rfl)) (by first | exact trivial | exact clL_bV _ _ | (simp [AV.cl, AV.clL]; done) | (simp only [AV.cl]; omega) | (simp [AV.cl]; omega)) ?_
    refine FTr.cons (by first | rfl | ((simp (disch := omega) only [push_cast, ↓reduceIte, Nat.reduceEqDiff, Nat.reduceAdd, Nat.reduceLeDiff, sx]) <;> rfl)) (by first | exact trivial | exact clL_bV _ _ | (simp [AV.cl, AV.clL]; done) | (simp only [AV.cl]; omega) | (simp [AV.cl]; omega)) ?_
    exact FTr.nil
  try dsimp only
  dsimp only at hk60 hkp hmin
  have hnl2 := lt_of_get hkp.sys.s
  have hkl2 := lt_of_get hkp.b16
  have hkl3 := lt_of_get hkp.b14
  refine sk_ fun K5 hK5 => ?_
  refine rg_ [2, 3, 4, 12, 14, 16, 18, 19, 73] ?_
  refine cd_ (ht := fun hb4 => ?_) (hf := fun hb4 => ?_)
  rotate_left
  · have hke : k = 60 := by omega
    have hle := hkp.le
    have hoe : off = N.data.length := by omega
    have hb14 := hkp.b14
    have hb16 := hkp.b16
    have hfo : (fdQ ps 0 0).off = (N.data.length : Nat) := by rw [hkp.fd, hoe]
    have hta : N.data.take off = N.data := by rw [hoe, List.take_length]
    have hab := abs_bV N.data
    have sx := And.intro hb14 (And.intro hb16 (And.intro hfo (And.intro hta (And.intro hab sx))))
    refine awp_exit (up_ ?_)
    refine hK4 _ ?_
    refine rsq_ [10] ⟨true, [], [], [], [], [], 0⟩ (fun _ => ⟨by kernel_rfl, by kernel_rfl⟩) ?_
    refine sg_ ?_
    refine cg_ (hc := fun hg => c22 _ _ _ _ _ _ _ hkp.sys _ _) (k := ?_)
    refine sg_ ?_
    refine re_ ?_
    refine awp_ret (up_ ?_)
    refine fg_ (h1 := h) Tryz.results4 (hh := (⟨_, by rw [hh0]; exact (List.nil_append _).symm⟩)) (hK := ?_)
    exact ⟨rfl, rfl, rfl⟩
  refine awp_skip (up_ ?_)
  refine hK5 _ ?_
  refine sk_ fun K6 hK6 => ?_
  refine awp_block ?_
  refine awp_seq_m (X := {x : List Blk × Tab × List Pr // KeepI n k14 k16 d1.1 N i x.1 x.2.1 x.2.2 off ∧ x.1.length = H.length}) (fun x => ⟨Tryz.f4.ntmps, fget [(2, .str path), (3, .slice (pieces.map bV) .none), (4, .int .u8 kind.toNat), (12, .ptr (n + 1) 0), (14, .ptr k14 0), (16, .ptr k16 0), (18, .str (N.data.take off)), (19, .int .i64 (k : Nat))], x.1.1, live⟩) ?_ (fun ⟨⟨H3, T3, ps3⟩, hkp3, hl3⟩ => ?_)
  rotate_left
  · dsimp only at hkp3 hl3 ⊢
    have hnl3 := lt_of_get hkp3.sys.s
    have hkl3 := lt_of_get hkp3.b16
    have hkl6 := lt_of_get hkp3.b14
    refine awp_seq_m (X := {x : List Blk × Tab × List Pr // KeepI n k14 k16 d1.1 N i x.1 x.2.1 x.2.2 off ∧ x.1.length = H3.length}) (fun x => ⟨Tryz.f4.ntmps, fget [(2, .str path), (3, .slice (pieces.map bV) .none), (4, .int .u8 kind.toNat), (12, .ptr (n + 1) 0), (14, .ptr k14 0), (16, .ptr k16 0), (18, .str (N.data.take off)), (19, .int .i64 (k : Nat))], x.1.1, live⟩) ?_ (fun ⟨⟨H4, T4, ps4⟩, hkp4, hl4⟩ => ?_)
    rotate_left
    · dsimp only at hkp4 hl4 ⊢
      have hnl4 := lt_of_get hkp4.sys.s
      have hkl4 := lt_of_get hkp4.b16
      have hkl5 := lt_of_get hkp4.b14
      have hpz : 0 < pieces.length := by omega
      have hkm : k % pieces.length < pieces.length := Nat.mod_lt _ hpz
      have hmod : (k : Int).tmod (pieces.length : Nat) = ((k % pieces.length : Nat) : Int) := by rw [Int.tmod_eq_emod_of_nonneg (by omega)]; rfl
      obtain ⟨b, hb⟩ : ∃ b : Int, ((pieces.getD (k % pieces.length) 0).toNat : Int).tmod 5 + 1 = b := ⟨_, rfl⟩
      have hbb : 1 ≤ b ∧ b ≤ 5 := by rw [← hb, Int.tmod_eq_emod_of_nonneg (by omega)]; omega
      have hbw : IntKind.i64.wrap (((pieces.getD (k % pieces.length) 0).toNat : Int).tmod 5) = ((pieces.getD (k % pieces.length) 0).toNat : Int).tmod 5 := wrapS (by omega) (by omega)
      obtain ⟨d, hd⟩ : ∃ d, doF T4 ps4 0 (kB b) = d := ⟨_, rfl⟩
      have hle4 := hkp4.le
      obtain ⟨he, hda, hTd, hfd2⟩ := do_read (T := T4) (ps := ps4) (i := i) (off := off) (by have := hkp4.ln; omega) hkp4.fd hi0 (by rw [hkp4.nd]; exact hNk) (b := b) (by omega) (by omega) (by rw [hkp4.nd]; omega)
      rw [hd] at he hda hTd hfd2
      rw [hkp4.nd] at hda hfd2
      have hdl : d.2.2.length = 2 := by rw [← hd, doF_len]; exact hkp4.ln
      have h14p : ∀ g : List Blk, (H4 ++ g)[k14]? = some (.cells (rsC d1.1)) := fun g => atApp hkp4.b14
      obtain ⟨o2, ho2'⟩ : ∃ o2, off + min b.toNat (N.data.length - off) = o2 := ⟨_, rfl⟩
      rw [ho2'] at hfd2
      have htk : N.data.take off ++ (N.data.drop off).take b.toNat = N.data.take o2 := by
        rw [← ho2', List.take_add]; congr 1
        rw [← List.length_drop]; simp
      have hb14 := hkp4.b14
      have hcc : (N.data.take off).length + ((N.data.drop off).take b.toNat).length ≤ 9223372036854775807 := by rw [List.length_take, List.length_take, List.length_drop]; omega
      have hmod2 : ((k : Int) % (pieces.length : Int)).toNat = k % pieces.length := by rw [show ((k : Int) % (pieces.length : Int)) = ((k % pieces.length : Nat) : Int) from rfl]; exact Int.toNat_natCast _
      have hwb : IntKind.i64.wrap b = b := wrapS (by omega) (by omega)
      have sx := And.intro h14p (And.intro hb14 (And.intro hmod (And.intro hmod2 (And.intro hbw (And.intro hb (And.intro hwb sx))))))
      refine awp_seqG (X := {X : List Blk // KeepI n k14 k16 d1.1 N i X d.2.1 d.2.2 o2 ∧ X.length = H4.length + 1 ∧ X[H4.length]? = some (.cells (rsC d.1))}) (fun X => ⟨Tryz.f4.ntmps, fget [(2, .str path), (3, .slice (pieces.map bV) .none), (4, .int .u8 kind.toNat), (12, .ptr (n + 1) 0), (14, .ptr k14 0), (16, .ptr k16 0), (18, .str (N.data.take off)), (19, .int .i64 (k : Nat)), (20, .ptr H4.length 0)], X.1, live⟩) ?_ (fun ⟨H5, hkp5, hl5, hx5⟩ => ?_)
      rotate_left
      · try dsimp only
        have hxg := fun g : List Blk => atApp (g := g) hx5
        have hnl5 := lt_of_get hkp5.sys.s
        have hkl7 := lt_of_get hkp5.b16
        have hkl8 := lt_of_get hkp5.b14
        have hab := abs_bV d.1.data
        have sx := And.intro hx5 (And.intro hxg (And.intro hab (And.intro he (And.intro hda (And.intro htk sx)))))
        refine sk_ fun K7 hK7 => ?_
        refine rg_ [2, 3, 4, 12, 14, 16, 18, 19, 20, 115] ?_
        refine cb_ (ht := fun hb7 => ?_) (hf := fun hb7 => ?_)
        · exfalso; simp at hb7
        refine awp_skip (up_ ?_)
        refine hK7 _ ?_
        refine rt_ [2, 3, 4, 12, 14, 16, 18, 19] ?_
        refine sg_ ?_
        refine rn_ (up_ ?_)
        refine hK6 _ ?_
        refine rt_ [2, 3, 4, 12, 14, 16, 18, 19] ?_
        refine sg_ ?_
        refine rn_ (up_ ?_)
        refine ⟨⟨⟨k + 1, H5, d.2.1, d.2.2, o2⟩, by dsimp only; omega, hkp5, by dsimp only; omega⟩, ?_, (by first | exact Nat.le_refl _ | (dsimp only; omega)), by dsimp only; omega⟩
        try dsimp only
        refine Trunc.of (by first | exact (List.append_nil _).symm | exact rfl | (rw [List.append_assoc]; rfl)) ?_ (by first | exact hHc | exact hkp5.cl) (fun _ h => h)
        refine FTr.cons (by (simp (disch := omega) only [push_cast, ↓reduceIte, Nat.reduceEqDiff, Nat.reduceAdd, Nat.reduceLeDiff, sx]) <;> first | rfl | (congr 2; omega)) (by first | exact trivial | exact clL_bV _ _ | (simp [AV.cl, AV.clL]; done) | (simp only [AV.cl]; omega) | (simp [AV.cl]; omega)) ?_
        refine FTr.cons (by (simp (disch := omega) only [push_cast, ↓reduceIte, Nat.reduceEqDiff, Nat.reduceAdd, Nat.reduceLeDiff, sx]) <;> first | rfl | (congr 2; omega)) (by first | exact trivial | exact clL_bV _ _ | (simp [AV.cl, AV.clL]; done) | (simp only [AV.cl]; omega) | (simp [AV.cl]; omega)) ?_
        refine FTr.cons (by (simp (disch := omega) only [push_cast, ↓reduceIte, Nat.reduceEqDiff, Nat.reduceAdd, Nat.reduceLeDiff, sx]) <;> first | rfl | (congr 2; omega)) (by first | exact trivial | exact clL_bV _ _ | (simp [AV.cl, AV.clL]; done) | (simp only [AV.cl]; omega) | (simp [AV.cl]; omega)) ?_
        refine FTr.cons (by (simp (disch := omega) only [push_cast, ↓reduceIte, Nat.reduceEqDiff, Nat.reduceAdd, Nat.reduceLeDiff, sx]) <;> first | rfl | (congr 2; omega)) (by first | exact trivial | exact clL_bV _ _ | (simp [AV.cl, AV.clL]; done) | (simp only [AV.cl]; omega) | (simp [AV.cl]; omega)) ?_
        refine FTr.cons (by (simp (disch := omega) only [push_cast, ↓reduceIte, Nat.reduceEqDiff, Nat.reduceAdd, Nat.reduceLeDiff, sx]) <;> first | rfl | (congr 2; omega)) (by first | exact trivial | exact clL_bV _ _ | (simp [AV.cl, AV.clL]; done) | (simp only [AV.cl]; omega) | (simp [AV.cl]; omega)) ?_
        refine FTr.cons (by (simp (disch := omega) only [push_cast, ↓reduceIte, Nat.reduceEqDiff, Nat.reduceAdd, Nat.reduceLeDiff, sx]) <;> first | rfl | (congr 2; omega)) (by first | exact trivial | exact clL_bV _ _ | (simp [AV.cl, AV.clL]; done) | (simp only [AV.cl]; omega) | (simp [AV.cl]; omega)) ?_
        refine FTr.cons (by (simp (disch := omega) only [push_cast, ↓reduceIte, Nat.reduceEqDiff, Nat.reduceAdd, Nat.reduceLeDiff, sx]) <;> first | rfl | (congr 2; omega)) (by first | exact trivial | exact clL_bV _ _ | (simp [AV.cl, AV.clL]; done) | (simp only [AV.cl]; omega) | (simp [AV.cl]; omega)) ?_
        refine FTr.cons (by (simp (disch := omega) only [push_cast, ↓reduceIte, Nat.reduceEqDiff, Nat.reduceAdd, Nat.reduceLeDiff, sx]) <;> first | rfl | (congr 2; omega)) (by first | exact trivial | exact clL_bV _ _ | (simp [AV.cl, AV.clL]; done) | (simp only [AV.cl]; omega) | (simp [AV.cl]; omega)) ?_
        exact FTr.nil
      refine rt2_ (l1 := [_, _, _, _, _, _, _, _, _, _, _, _, _, _]) [2, 3, 4, 12, 14, 16, 18, 19, 20] ⟨false, [(k14, 1, .one)], [100, 107], [], [20], [], 0⟩ rfl ⟨by kernel_rfl, by kernel_rfl⟩ ?_
      refine sg_ ?_
      refine dawp_f rfl rfl (by simp (disch := omega) only [push_cast, ↓reduceIte, Nat.reduceEqDiff, Nat.reduceAdd, Nat.reduceLeDiff, sx]; first | rfl | (simp; rfl)) rfl rfl ?_
      refine sg_ ?_
      refine dawp_f rfl rfl (by simp (disch := omega) only [push_cast, ↓reduceIte, Nat.reduceEqDiff, Nat.reduceAdd, Nat.reduceLeDiff, sx]; first | rfl | (simp; rfl)) rfl rfl ?_
      iterate 4 (refine dawp_p rfl (by (simp (disch := omega) only [push_cast, ↓reduceIte, Nat.reduceEqDiff, Nat.reduceAdd, Nat.reduceLeDiff, sx]) <;> rfl) rfl rfl ?_)
      refine ⟨?_, ?_⟩
      · refine ck_ (k := ?_)
        refine erx_ (ys := [.ptr (n + 1) 0, .int .i64 0, .agg (caC (kB b))]) (by simp only [List.map_cons, List.map_nil, AV.er, AV.erL, List.append_nil] <;> rfl) ((kDo (by first | exact hkp4.sys | exact hkp4.sys.app) 0 (kB b) hd (by simp [kA, kU, kR, kB]; try omega) (by simp [kA, kU, kR, kB]) (by simp [kA, kU, kR, kB])).mono ?_); rintro _ H2 live ⟨⟨rfl, hy2, hl2, ho2, rfl⟩, hH2⟩
        try simp at hl2
        have h2k : H2[k14]? = some (.cells (rsC d1.1)) := by
          rw [ho2 _ (by omega) (by intro j hj; have := hkp4.ln; omega)]
          first | exact hkp4.b14 | exact h14p _
        have h2kg := fun g : List Blk => atApp (g := g) h2k
        have sx := And.intro h2k (And.intro h2kg sx)
        first
          | (have hq : H2[H4.length]? = some (.cells [.int .i64 0, .int .i64 0, .int .i64 0, .int .i64 0, .int .i64 0, .int .i64 0, .int .i64 0, .int .i64 0, .int .i64 0, .str [], .slice [] .full, .slice [] .full]) := by
               rw [ho2 _ (by have := hkp4.ln; omega) (by intro j hj; have := hkp4.ln; omega)]; simp
             have sx := And.intro hq sx)
          | skip
        refine dawp_ga rfl rfl (by (simp (disch := omega) only [push_cast, ↓reduceIte, Nat.reduceEqDiff, Nat.reduceAdd, Nat.reduceLeDiff, sx]) <;> rfl) rfl rfl (by exact stab.cons (by simp (disch := omega) only [push_cast, ↓reduceIte, Nat.reduceEqDiff, Nat.reduceAdd, Nat.reduceLeDiff, sx]) (stab.nil)) ?_
        refine sg_ ?_
        refine rn_ (up_ ?_)
        first
          | (refine ⟨⟨H2 ++ [.cells (rsC d.1)], hkp4.read hy2.app (by rw [List.getElem?_append_left (by omega), ho2 _ (by omega) (by intro j hj; have := hkp4.ln; omega)]) (by rw [List.getElem?_append_left (by omega), ho2 _ (by omega) (by intro j hj; have := hkp4.ln; omega)]) (HCl.snoc (b := .cells (rsC d.1)) hH2 (clL_rsC _ _)) hdl hfd2 hTd (by omega), by rw [List.length_append, List.length_singleton]; omega, by rw [← hl2, List.getElem?_append_right (Nat.le_refl _), Nat.sub_self]; rfl⟩, ?_, (by dsimp only; simp <;> omega)⟩
             dsimp only
             rw [show AV.ptr H2.length 0 = AV.ptr H4.length 0 by rw [hl2]]
             exact tf_ (HCl.snoc (b := .cells (rsC d.1)) hH2 (clL_rsC _ _)) (fun _ h => h))
          | (have hlt5 : H4.length < H2.length := by omega
             refine ⟨⟨H2.set H4.length (.cells (rsC d.1)), hkp4.read (hy2.set (by omega) (by omega) (fun j hj => by rw [hdl] at hj; omega) _) (by rw [List.getElem?_set_ne (by omega), ho2 _ (by omega) (by intro j hj; have := hkp4.ln; omega), List.getElem?_append_left (by omega)]) (by rw [List.getElem?_set_ne (by omega), ho2 _ (by omega) (by intro j hj; have := hkp4.ln; omega), List.getElem?_append_left (by omega)]) (HCl.set hH2 _ (clL_rsC _ _)) hdl hfd2 hTd (by omega), by rw [List.length_set]; omega, get_setk hlt5⟩, ?_, (by dsimp only; simp <;> omega)⟩
             dsimp only
             exact tf_ (HCl.set hH2 _ (clL_rsC _ _)) (fun _ h => h))
      · refine dawp_ga rfl rfl (by (simp (disch := omega) only [push_cast, ↓reduceIte, Nat.reduceEqDiff, Nat.reduceAdd, Nat.reduceLeDiff, sx]) <;> rfl) rfl rfl (by exact stab.cons (by simp (disch := omega) only [push_cast, ↓reduceIte, Nat.reduceEqDiff, Nat.reduceAdd, Nat.reduceLeDiff, sx]) (stab.nil)) ?_
        refine ck_ (k := ?_)
        refine erx_ (ys := [.ptr (n + 1) 0, .int .i64 0, .agg (caC (kB b))]) (by simp only [List.map_cons, List.map_nil, AV.er, AV.erL, List.append_nil] <;> rfl) ((kDo (by first | exact hkp4.sys | exact hkp4.sys.app) 0 (kB b) hd (by simp [kA, kU, kR, kB]; try omega) (by simp [kA, kU, kR, kB]) (by simp [kA, kU, kR, kB])).mono ?_); rintro _ H2 live ⟨⟨rfl, hy2, hl2, ho2, rfl⟩, hH2⟩
        try simp at hl2
        have h2k : H2[k14]? = some (.cells (rsC d1.1)) := by
          rw [ho2 _ (by omega) (by intro j hj; have := hkp4.ln; omega)]
          first | exact hkp4.b14 | exact h14p _
        have h2kg := fun g : List Blk => atApp (g := g) h2k
        have sx := And.intro h2k (And.intro h2kg sx)
        first
          | (have hq : H2[H4.length]? = some (.cells [.int .i64 0, .int .i64 0, .int .i64 0, .int .i64 0, .int .i64 0, .int .i64 0, .int .i64 0, .int .i64 0, .int .i64 0, .str [], .slice [] .full, .slice [] .full]) := by
               rw [ho2 _ (by have := hkp4.ln; omega) (by intro j hj; have := hkp4.ln; omega)]; simp
             have sx := And.intro hq sx)
          | skip
        refine sg_ ?_
        refine rn_ (up_ ?_)
        first
          | (refine ⟨⟨H2 ++ [.cells (rsC d.1)], hkp4.read hy2.app (by rw [List.getElem?_append_left (by omega), ho2 _ (by omega) (by intro j hj; have := hkp4.ln; omega)]) (by rw [List.getElem?_append_left (by omega), ho2 _ (by omega) (by intro j hj; have := hkp4.ln; omega)]) (HCl.snoc (b := .cells (rsC d.1)) hH2 (clL_rsC _ _)) hdl hfd2 hTd (by omega), by rw [List.length_append, List.length_singleton]; omega, by rw [← hl2, List.getElem?_append_right (Nat.le_refl _), Nat.sub_self]; rfl⟩, ?_, (by dsimp only; simp <;> omega)⟩
             dsimp only
             rw [show AV.ptr H2.length 0 = AV.ptr H4.length 0 by rw [hl2]]
             exact tf_ (HCl.snoc (b := .cells (rsC d.1)) hH2 (clL_rsC _ _)) (fun _ h => h))
          | (have hlt5 : H4.length < H2.length := by omega
             refine ⟨⟨H2.set H4.length (.cells (rsC d.1)), hkp4.read (hy2.set (by omega) (by omega) (fun j hj => by rw [hdl] at hj; omega) _) (by rw [List.getElem?_set_ne (by omega), ho2 _ (by omega) (by intro j hj; have := hkp4.ln; omega), List.getElem?_append_left (by omega)]) (by rw [List.getElem?_set_ne (by omega), ho2 _ (by omega) (by intro j hj; have := hkp4.ln; omega), List.getElem?_append_left (by omega)]) (HCl.set hH2 _ (clL_rsC _ _)) hdl hfd2 hTd (by omega), by rw [List.length_set]; omega, get_setk hlt5⟩, ?_, (by dsimp only; simp <;> omega)⟩
             dsimp only
             exact tf_ (HCl.set hH2 _ (clL_rsC _ _)) (fun _ h => h))
    refine rg_ [2, 3, 4, 12, 14, 16, 18, 19, 93] ?_
    refine cb_ (ht := fun hb6 => ?_) (hf := fun hb6 => ?_)
    · obtain ⟨d, hd⟩ : ∃ d, doF T3 ps3 1 (kR path) = d := ⟨_, rfl⟩
      refine rt_ [2, 3, 4, 12, 14, 16, 18, 19] ?_
      refine sg_ ?_
      refine ck_ (k := ?_)
      refine erx_ (ys := [.ptr (n + 1) 0, .int .i64 1, .agg (caC (kR path))]) (by simp only [List.map_cons, List.map_nil, AV.er, AV.erL, List.append_nil] <;> rfl) ((kDo hkp3.sys 1 (kR path) hd (by simp [kA, kU, kR, kB]; try omega) (by simp [kA, kU, kR, kB]) (by simp [kA, kU, kR, kB])).mono ?_); rintro _ H2 live ⟨⟨rfl, hy2, hl2, ho2, rfl⟩, hH2⟩
      refine rn_ (up_ ?_)
      first
        | exact ⟨⟨(H2, d.2.1, d.2.2), hkp3.other hi0 hNk h14 h16 (by first | exact .inl rfl | exact .inr rfl) hd hy2 ho2 hH2, hl2⟩, tf_ hH2 (fun _ h => h), hl2⟩
        | exact ⟨⟨(H3, T3, ps3), hkp3, rfl⟩, ts_ hkp3.cl, rfl⟩
    refine awp_skip (up_ ?_)
    first
      | exact ⟨⟨(H2, d.2.1, d.2.2), hkp3.other hi0 hNk h14 h16 (by first | exact .inl rfl | exact .inr rfl) hd hy2 ho2 hH2, hl2⟩, tf_ hH2 (fun _ h => h), hl2⟩
      | exact ⟨⟨(H3, T3, ps3), hkp3, rfl⟩, ts_ hkp3.cl, rfl⟩
  refine rg_ [2, 3, 4, 12, 14, 16, 18, 19, 82] ?_
  refine cb_ (ht := fun hb5 => ?_) (hf := fun hb5 => ?_)
  · obtain ⟨d, hd⟩ : ∃ d, doF T1 ps 1 (kU path) = d := ⟨_, rfl⟩
    refine rt_ [2, 3, 4, 12, 14, 16, 18, 19] ?_
    refine sg_ ?_
    refine ck_ (k := ?_)
    refine erx_ (ys := [.ptr (n + 1) 0, .int .i64 1, .agg (caC (kU path))]) (by simp only [List.map_cons, List.map_nil, AV.er, AV.erL, List.append_nil] <;> rfl) ((kDo hkp.sys 1 (kU path) hd (by simp [kA, kU, kR, kB]; try omega) (by simp [kA, kU, kR, kB]) (by simp [kA, kU, kR, kB])).mono ?_); rintro _ H2 live ⟨⟨rfl, hy2, hl2, ho2, rfl⟩, hH2⟩
    refine rn_ (up_ ?_)
    first
      | exact ⟨⟨(H2, d.2.1, d.2.2), hkp.other hi0 hNk h14 h16 (by first | exact .inl rfl | exact .inr rfl) hd hy2 ho2 hH2, hl2⟩, tf_ hH2 (fun _ h => h), hl2⟩
      | exact ⟨⟨(H, T1, ps), hkp, rfl⟩, ts_ hkp.cl, rfl⟩
  refine awp_skip (up_ ?_)
  first
    | exact ⟨⟨(H2, d.2.1, d.2.2), hkp.other hi0 hNk h14 h16 (by first | exact .inl rfl | exact .inr rfl) hd hy2 ho2 hH2, hl2⟩, tf_ hH2 (fun _ h => h), hl2⟩
    | exact ⟨⟨(H, T1, ps), hkp, rfl⟩, ts_ hkp.cl, rfl⟩

end Go.Proofs.YtegffmibifodcaaGreat
