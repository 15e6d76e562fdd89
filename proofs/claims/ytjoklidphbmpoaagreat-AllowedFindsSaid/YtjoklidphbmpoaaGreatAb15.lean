import Derived.Test.YtjoklidphbmpoaaGreatAb14
import Derived.Laws.RangeAny
/-
  THE FRAMEWORK, 15: what goes through a word, or through a map; bytes as a word.
-/
namespace Go.Ab
set_option linter.unusedVariables false
set_option linter.unusedSimpArgs false
open Go.RowKit

def entsBlk : Option Blk → Option (List (AV × AV))
  | some (.map es) => some es
  | _ => none
theorem entsBlk_map (es : List (AV × AV)) : entsBlk (some (.map es)) = some es := rfl
theorem entsOf_map (h : List Blk) (b : Nat) : entsOf h (.map b) = entsBlk h[b]? := by
  unfold entsOf entsBlk; rfl
theorem entsOf_nil (h : List Blk) : entsOf h (.raw (.map none)) = some [] := rfl
/-- What a step of a range gives. -/
def nextV (b : Bool) (xs : List AV) : AV := .tup (bif b then .bool true :: xs else [.bool false])
theorem nextV_0 (b : Bool) (xs : List AV) : extractOf (nextV b xs) 0 = some (.bool b) := by cases b <;> rfl
theorem nextV_t (xs : List AV) : nextV true xs = .tup (.bool true :: xs) := rfl
theorem nextV_f (xs : List AV) : nextV false xs = .tup [.bool false] := rfl
attribute [push_cast] nextV_0 nextV_t nextV_f

/-- The letter that stands in a text at a place, and how long it is. -/
def dec (l : List UInt8) (pos : Nat) : Nat × Nat := Utf8.decode ⟨l.toArray⟩ pos

theorem dec_ascii {l : List UInt8} {pos : Nat} (h : pos < l.length) (ha : (l.getD pos 0).toNat < 128) : dec l pos = ((l.getD pos 0).toNat, 1) := by
  have h' : pos < (⟨l.toArray⟩ : ByteArray).size := by simpa [ByteArray.size] using h
  have e : (⟨l.toArray⟩ : ByteArray)[pos]'h' = l.getD pos 0 := by
    simp [List.getD_eq_getElem?_getD, h, ByteArray.getElem_eq_getElem_data]
  have := decode_ascii ⟨l.toArray⟩ pos h' (by rw [e]; exact ha)
  rw [e] at this
  exact this

theorem dec_high {l : List UInt8} {pos : Nat} (h : pos < l.length) (ha : 128 ≤ (l.getD pos 0).toNat) : 128 ≤ (dec l pos).1 ∧ 1 ≤ (dec l pos).2 := by
  have h' : pos < (⟨l.toArray⟩ : ByteArray).size := by simpa [ByteArray.size] using h
  have e : (⟨l.toArray⟩ : ByteArray)[pos]'h' = l.getD pos 0 := by
    simp [List.getD_eq_getElem?_getD, h, ByteArray.getElem_eq_getElem_data]
  exact decode_high ⟨l.toArray⟩ pos h' (by rw [e]; exact ha)

theorem dec_le (l : List UInt8) (pos : Nat) : (dec l pos).1 ≤ 2147483647 := decode_le _ _

theorem set_same {h : List Blk} {b : Nat} {x : Blk} (hb : h[b]? = some x) : h.set b x = h := by
  obtain ⟨hlt, he⟩ := List.getElem?_eq_some_iff.1 hb
  rw [← he]; exact List.set_getElem_self hlt

def wordT (P : Program) (t : TypeId) : Bool := isStrT P t
def isMapT (P : Program) (t : TypeId) : Bool := match P.underlying t with
  | some (.map _ _) => true
  | _ => false

section
variable {P : Program} {fr : Nat → AV} {h : List Blk} {live : List Nat} {o : Oper} {K : KT}

theorem AOp.rangeS (t : TypeId) (x : Operand) (ho : o.op = .range t x) (ht : isStrT P t = true) {l : List UInt8} (hx : ev fr x = .str l) (hK : K (.ptr h.length 0) (h ++ [.siter l 0]) live) : AOp P fr h live o K := by
  obtain ⟨dst, op, ty, pos, after, guard⟩ := o
  simp only at ho; subst ho
  intro w G ρ hρ hr hh
  have hrx := hr x (by simp [Op.operands])
  rw [hx] at hrx
  generalize hxv : ρ x = xv at hrx
  cases hrx
  obtain ⟨G', hh', he, hn, hb⟩ := HRel.pushObj hh (.stringIter ⟨l.toArray⟩ 0) (.siter l 0) fun G' _ hw => hw
  have hrun : (execOp ρ ⟨dst, .range t x, ty, pos, after, guard⟩).run P w = .ok (.value (.pointer (some ⟨w.heap.size, 0, none⟩))) (w.alloc (.stringIter ⟨l.toArray⟩ 0)) := by
    simp [execOp, hxv, Instr.range, run_underlying (isStrT_sound ht), run_newObj]
  rw [hrun]
  refine ⟨_, _, _, G', hK, ?_, hh', he⟩
  have := Rep.ptr (w := w.alloc (.stringIter ⟨l.toArray⟩ 0)) (G := G') h.length 0 (by rw [hn, hh.len]; exact Nat.lt_succ_self _)
  rw [hh.len, hb] at this
  rw [hh.len]
  exact this

theorem AOp.nextS (x : Operand) (ho : o.op = .next x true) {b : Nat} (hx : ev fr x = .ptr b 0) {l : List UInt8} {pos : Nat} (hb : h[b]? = some (.siter l pos))
    (hK : K (nextV (decide ((pos : Int) < l.length)) [.int .i64 pos, .int .i32 (dec l pos).1]) (h.set b (.siter l (bif decide ((pos : Int) < l.length) then pos + (dec l pos).2 else pos))) live) : AOp P fr h live o K := by
  obtain ⟨dst, op, ty, ps, after, guard⟩ := o
  simp only at ho; subst ho
  intro w G ρ hρ hr hh
  have hrx := hr x (by simp [Op.operands])
  rw [hx] at hrx
  generalize hxv : ρ x = xv at hrx
  cases hrx
  rename_i hbn
  have h1 : w.heap[G.blk b]? = some (.stringIter ⟨l.toArray⟩ pos) := hh.blk b _ hb
  by_cases hp : pos < l.length
  · have hp' : pos < (⟨l.toArray⟩ : ByteArray).size := by simpa [ByteArray.size] using hp
    have hd : decide ((pos : Int) < l.length) = true := decide_eq_true (by omega)
    rw [hd] at hK
    have hset := MapKept.heap_set (o' := .stringIter ⟨l.toArray⟩ (pos + (dec l pos).2)) h1
    have hrun : (execOp ρ ⟨dst, .next x true, ty, ps, after, guard⟩).run P w = .ok (.value (.tuple #[.bool true, .int .i64 pos, .int .i32 (dec l pos).1])) { w with heap := w.heap.setIfInBounds (G.blk b) (.stringIter ⟨l.toArray⟩ (pos + (dec l pos).2)) } := by
      simp only [execOp, hxv, Instr.next, getObj, setObj, Sem.run_bind, Sem.run, h1, Result.andThen, hp', if_true]
      rfl
    rw [hrun]
    obtain ⟨hh', hev⟩ := hh.put (x := .siter l (pos + (dec l pos).2)) hbn { w with heap := w.heap.setIfInBounds (G.blk b) (.stringIter ⟨l.toArray⟩ (pos + (dec l pos).2)) } rfl rfl rfl (by simp) (fun q hq => hset.2 q hq) hset.1
    refine ⟨_, _, _, G, hK, ?_, hh', hev⟩
    exact .tup [.bool true, .int .i64 pos, .int .i32 (dec l pos).1] [.bool true, .int .i64 pos, .int .i32 (dec l pos).1] rfl (fun q hq => by
      match q, hq with
      | 0, _ => exact .bool _
      | 1, _ => exact .int _ _
      | 2, _ => exact .int _ _)
  · have hp' : ¬ pos < (⟨l.toArray⟩ : ByteArray).size := by simpa [ByteArray.size] using hp
    have hd : decide ((pos : Int) < l.length) = false := decide_eq_false (by omega)
    rw [hd] at hK
    have hrun : (execOp ρ ⟨dst, .next x true, ty, ps, after, guard⟩).run P w = .ok (.value (.tuple #[.bool false])) w := by
      simp only [execOp, hxv, Instr.next, getObj, Sem.run_bind, Sem.run, h1, Result.andThen, hp', if_false]
      rfl
    rw [hrun]
    have hse : h.set b (.siter l pos) = h := set_same hb
    simp only [cond_false] at hK
    rw [hse] at hK
    exact ⟨_, _, _, G, hK, .tup [.bool false] [.bool false] rfl (fun q hq => by
      match q, hq with
      | 0, _ => exact .bool _), hh, Evo.refl _ _ _⟩

theorem AOp.rangeM (t : TypeId) (x : Operand) (ho : o.op = .range t x) (ht : isMapT P t = true) {k : Nat} (hx : ev fr x = .map k) {es : List (AV × AV)} (hm : h[k]? = some (.map es))
    (hK : K (.ptr h.length 0) (h ++ [.miter k es.length [] es.length]) live) : AOp P fr h live o K := by
  obtain ⟨dst, op, ty, pos, after, guard⟩ := o
  simp only at ho; subst ho
  intro w G ρ hρ hr hh
  have hrx := hr x (by simp [Op.operands])
  rw [hx] at hrx
  generalize hxv : ρ x = xv at hrx
  cases hrx
  rename_i hkn
  obtain ⟨us, clock, h1, h2, ⟨h3, h4⟩, h5⟩ := hh.blk k _ hm
  have hcl : clock = es.length := by rw [h3, h2]
  subst hcl
  obtain ⟨G', hh', he, hn, hb⟩ := HRel.pushObj hh (.mapIter (some (G.blk k)) es.length #[] es.length) (.miter k es.length [] es.length) fun G' hex hw => ⟨Nat.lt_of_lt_of_le hkn hex.n, by rw [hex.blk k hkn]; exact hw⟩
  have hmt : ∃ a b, P.underlying t = some (.map a b) := by
    unfold isMapT at ht
    split at ht
    · rename_i a b e; exact ⟨a, b, e⟩
    · simp at ht
  obtain ⟨a, b, hu⟩ := hmt
  have hrun : (execOp ρ ⟨dst, .range t x, ty, pos, after, guard⟩).run P w = .ok (.value (.pointer (some ⟨w.heap.size, 0, none⟩))) (w.alloc (.mapIter (some (G.blk k)) es.length #[] es.length)) := by
    simp [execOp, hxv, Instr.range, run_underlying hu, MapKept.run_getObj_map h1, run_newObj, Result.andThen]
  rw [hrun]
  refine ⟨_, _, _, G', hK, ?_, hh', he⟩
  have := Rep.ptr (w := w.alloc (.mapIter (some (G.blk k)) es.length #[] es.length)) (G := G') h.length 0 (by rw [hn, hh.len]; exact Nat.lt_succ_self _)
  rw [hh.len, hb] at this
  rw [hh.len]
  exact this

theorem AOp.nextM (x : Operand) (ho : o.op = .next x false) {it k : Nat} (hx : ev fr x = .ptr it 0) {es : List (AV × AV)} {seen : List Nat} (hm : h[k]? = some (.map es)) (hit : h[it]? = some (.miter k es.length seen es.length))
    (hK : ∀ (b : Bool) (i : Nat), (b = true → i < es.length ∧ i ∉ seen) → (b = false → ∀ j, j < es.length → j ∈ seen) →
      K (nextV b [(es.getD i (.undef, .undef)).1, (es.getD i (.undef, .undef)).2]) (h.set it (.miter k es.length (bif b then seen ++ [i] else seen) es.length)) live) : AOp P fr h live o K := by
  obtain ⟨dst, op, ty, ps, after, guard⟩ := o
  simp only at ho; subst ho
  intro w G ρ hρ hr hh
  have hrx := hr x (by simp [Op.operands])
  rw [hx] at hrx
  generalize hxv : ρ x = xv at hrx
  cases hrx
  rename_i hbn
  obtain ⟨us, clock, h1, h2, ⟨h3, h4⟩, h5⟩ := hh.blk k _ hm
  have hcl : clock = es.length := by rw [h3, h2]
  subst hcl
  obtain ⟨hkn, hi1⟩ := hh.blk it _ hit
  have hold : ∀ e ∈ us.toList, e.born < es.length := fun e he => by
    obtain ⟨q, hq, rfl⟩ := List.mem_iff_getElem.1 he
    have hq' : q < us.size := by simpa using hq
    have := h4 q hq'
    simp [Array.getD, hq'] at this
    simp only [Array.getElem_toList]
    rw [this, ← h2]; exact hq'
  rcases run_next_at (P := P) w ty (G.blk it) (G.blk k) es.length es.length seen.toArray us es.length hi1 h1 hold (Nat.le_refl _) with ⟨hl, hrun⟩ | ⟨e, he, w1, hw1, hrun⟩
  · -- nothing is left
    have hall : ∀ j, j < es.length → j ∈ seen := fun j hj => by
      have hju : j < us.size := by omega
      apply Classical.byContradiction
      intro hn
      have hm : us[j] ∈ (leftOf us seen.toArray).toList := by
        have hb := h4 j hju
        simp [Array.getD, hju] at hb
        simp [leftOf, hb, hn]
      have : (leftOf us seen.toArray).toList = [] := by
        apply List.eq_nil_of_length_eq_zero
        simpa using hl
      rw [this] at hm; simp at hm
    have hrun' : (execOp ρ ⟨dst, .next x false, ty, ps, after, guard⟩).run P w = .ok (.value (.tuple #[.bool false])) w := by
      simp only [execOp, hxv]
      exact run_value hrun
    rw [hrun']
    have hse : h.set it (.miter k es.length seen es.length) = h := set_same hit
    have := hK false 0 (fun e => Bool.noConfusion e) (fun _ => hall)
    simp only [cond_false] at this
    rw [hse] at this
    exact ⟨_, _, _, G, this, .tup [.bool false] [.bool false] rfl (fun q hq => by
      match q, hq with
      | 0, _ => exact .bool _), hh, Evo.refl _ _ _⟩
  · -- one that is left
    have he2 : e ∈ us.toList ∧ e.born ∉ seen := by simpa [leftOf] using he
    obtain ⟨q, hq, hqe⟩ := List.mem_iff_getElem.1 he2.1
    have hqu : q < us.size := by simpa using hq
    have hqb := h4 q hqu
    simp [Array.getD, hqu] at hqb
    have hqe' : us[q] = e := by simpa using hqe
    rw [hqe'] at hqb
    have hqn : q < es.length := by omega
    have hns : q ∉ seen := by rw [← hqb]; exact he2.2
    have hset := fun (w0 : World) (hw : w0.heap[G.blk it]? = some (.mapIter (some (G.blk k)) es.length seen.toArray es.length)) => MapKept.heap_set (o' := .mapIter (some (G.blk k)) es.length (seen.toArray.push e.born) es.length) hw
    have hrun' : (execOp ρ ⟨dst, .next x false, ty, ps, after, guard⟩).run P w = .ok (.value (.tuple #[.bool true, e.key, e.val])) (ChangeMaps.setBlock w1 (G.blk it) (.mapIter (some (G.blk k)) es.length (seen.toArray.push e.born) es.length)) := by
      simp only [execOp, hxv]
      exact run_value hrun
    rw [hrun']
    have hK' := hK true q (fun _ => ⟨hqn, hns⟩) (fun e => Bool.noConfusion e)
    have hrep := h5 q hqn
    simp [Array.getD, hqu] at hrep
    rw [hqe'] at hrep
    -- the world: as it was, or with a draw more
    have base : ∃ G1, HRel w1 G1 h live ∧ Evo w G live w1 G1 live ∧ G1 = G ∧ w1.heap = w.heap := by
      rcases hw1 with rfl | rfl
      · exact ⟨G, hh, Evo.refl _ _ _, rfl, rfl⟩
      · have hev : Evo w G live w.drew G live := ⟨rfl, rfl, rfl, Nat.le_refl _, fun _ _ _ => rfl, fun _ _ _ => rfl, fun _ _ h => h, Ext.refl G⟩
        exact ⟨G, ⟨hh.len, fun k x hx => BlkRep.mono (w := w) (w' := w.drew) rfl hev.imm (Ext.refl G) (hh.blk k x hx), hh.blk_lt, hh.inj, hh.imm_lt, hh.imm_blk, hh.tok, hh.tok_ne⟩, hev, rfl, rfl⟩
    obtain ⟨G1, hh1, hev1, rfl, hheap⟩ := base
    have hs := hset w1 (by rw [hheap]; exact hi1)
    have hsz : (ChangeMaps.setBlock w1 (G1.blk it) (.mapIter (some (G1.blk k)) es.length (seen.toArray.push e.born) es.length)).heap.size = w1.heap.size := by simp [ChangeMaps.setBlock]
    obtain ⟨hh', hev⟩ := hh1.put (x := .miter k es.length (seen ++ [q]) es.length) hbn (ChangeMaps.setBlock w1 (G1.blk it) (.mapIter (some (G1.blk k)) es.length (seen.toArray.push e.born) es.length)) rfl rfl rfl hsz (fun q hq => hs.2 q hq)
      ⟨hkn, by
        have e1 : (seen ++ [q]).toArray = seen.toArray.push e.born := by rw [hqb]; simp
        rw [e1]; exact hs.1⟩
    refine ⟨_, _, _, G1, hK', ?_, hh', hev1.trans hev⟩
    refine .tup [.bool true, (es.getD q (.undef, .undef)).1, (es.getD q (.undef, .undef)).2] [.bool true, e.key, e.val] rfl (fun q' hq' => ?_)
    match q', hq' with
    | 0, _ => exact .bool _
    | 1, _ => exact (hev1.trans hev).rep (by simpa [List.getD_eq_getElem?_getD] using hrep.1)
    | 2, _ => exact (hev1.trans hev).rep (by simpa [List.getD_eq_getElem?_getD] using hrep.2)

theorem AOp.entry (x : Operand) (ho : o.op = .entry x) {it k : Nat} (hx : ev fr x = .ptr it 0) {es : List (AV × AV)} {seen : List Nat} {i : Nat} (hi : i < es.length) (hm : h[k]? = some (.map es)) (hit : h[it]? = some (.miter k es.length (seen ++ [i]) es.length)) :
    AOp P fr h live o (ret (.tup [(es.getD i (.undef, .undef)).1, (es.getD i (.undef, .undef)).2]) h live) := by
  obtain ⟨dst, op, ty, ps, after, guard⟩ := o
  simp only at ho; subst ho
  refine AOp.gives fun w G ρ hr hh => ?_
  have hrx := hr x (by simp [Op.operands])
  rw [hx] at hrx
  generalize hxv : ρ x = xv at hrx
  cases hrx
  rename_i hbn
  obtain ⟨us, clock, h1, h2, ⟨h3, h4⟩, h5⟩ := hh.blk k _ hm
  have hcl : clock = es.length := by rw [h3, h2]
  subst hcl
  obtain ⟨hkn, hi1⟩ := hh.blk it _ hit
  have hiu : i < us.size := by omega
  have hb := h4 i hiu
  simp [Array.getD, hiu] at hb
  have hnd : (us.toList.map (·.born)).Nodup := by
    have e : us.toList.map (·.born) = List.range us.size := by
      apply List.ext_getElem
      · simp
      · intro q q1 q2
        have hq : q < us.size := by simpa using q1
        have := h4 q hq
        simp [Array.getD, hq] at this
        simpa using this
    rw [e]; exact List.nodup_range
  have hrun := run_entry_at (P := P) w (G.blk it) (G.blk k) es.length seen.toArray us es.length us[i] (by rw [hi1]; simp [hb]) h1 (by simp) hnd
  refine ⟨.tuple #[us[i].key, us[i].val], by simp only [execOp, hxv]; exact run_value hrun, ?_⟩
  have hrep := h5 i hi
  simp [Array.getD, hiu] at hrep
  refine .tup [(es.getD i (.undef, .undef)).1, (es.getD i (.undef, .undef)).2] [us[i].key, us[i].val] rfl (fun q hq => ?_)
  match q, hq with
  | 0, _ => simpa [List.getD_eq_getElem?_getD] using hrep.1
  | 1, _ => simpa [List.getD_eq_getElem?_getD] using hrep.2

/-! Bytes as a word. -/
def bV (p : UInt8) : AV := .int .u8 p.toNat
theorem getD_bV {l : List UInt8} {i : Nat} {d : AV} (h : i < l.length) : (l.map bV).getD i d = .int .u8 (l.getD i 0).toNat := by
  simp [List.getD_eq_getElem?_getD, h, bV]
theorem clL_bV (n : Nat) (l : List UInt8) : AV.clL n (l.map bV) := by
  rw [AV.clL_mem]; intro x hx; obtain ⟨y, _, rfl⟩ := List.mem_map.1 hx; trivial
theorem erL_bV (l : List UInt8) : AV.erL (l.map bV) = l.map bV := by
  rw [AV.erL_map, List.map_map]; rfl
theorem cells_bV (l : List UInt8) : ∀ y ∈ l.map bV, y.cells.length = 1 := by
  intro y hy; obtain ⟨a, _, rfl⟩ := List.mem_map.1 hy; rfl
theorem allSz_bV (l : List UInt8) : allSz (l.map bV) 1 ↔ True := iff_true_intro (allSz_map _ _ _ fun _ => rfl)
attribute [push_cast] getD_bV allSz_bV

theorem abytes_bV : ∀ l : List UInt8, abytes (l.map bV) = some l
  | [] => rfl
  | b :: l => by
    show (match abytes (l.map bV) with | some r => some (UInt8.ofNat ((b.toNat : Int)).toNat :: r) | none => none) = _
    rw [abytes_bV l]
    simp
theorem abytes_one (n : Int) : abytes [.int .u8 n] = some [UInt8.ofNat n.toNat] := rfl
theorem aconvert_bytes {s d : TypeId} (l : List AV) (c : Cap) : aconvert P s d (.slice l c) = match isBytesT P s, isStrT P d with
    | true, true => match abytes l with
      | some bs => some (.str bs)
      | none => none
    | _, _ => none := rfl
attribute [push_cast] abytes_bV abytes_one
end
end Go.Ab
