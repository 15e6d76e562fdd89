import Derived.Test.YtjoklidphbmpoaaGreatAb5
/-
  THE FRAMEWORK, 5b: append.
-/
namespace Go.Ab
set_option linter.unusedVariables false
set_option linter.unusedSimpArgs false
open Go.RowKit

def CapOK (live : List Nat) (c : Cap) : Prop := c = .full ∨ ∃ t, c = .own t ∧ t ∈ live
/-- What appending may turn: the room of the row that was appended to; the new one is nobody else's. -/
def Keeps (live : List Nat) (c : Cap) (live' : List Nat) (c' : Cap) : Prop := CapOK live' c' ∧ ∀ u, u ∈ live → c ≠ .own u → u ∈ live' ∧ c' ≠ .own u
theorem Keeps.refl {live : List Nat} {c : Cap} (h : CapOK live c) : Keeps live c live c := ⟨h, fun _ h k => ⟨h, k⟩⟩
theorem Keeps.trans {la lb lc : List Nat} {a b c : Cap} (h : Keeps la a lb b) (k : Keeps lb b lc c) : Keeps la a lc c := ⟨k.1, fun u hu hn => k.2 u (h.2 u hu hn).1 (h.2 u hu hn).2⟩
theorem Keeps.ok {la lb : List Nat} {a b : Cap} (h : Keeps la a lb b) : CapOK lb b := h.1

def flatV (sz n : Nat) (f : Nat → Nat → Value) : List Value := (List.range (n * sz)).map fun q => f (q / sz) (q % sz)

theorem flatV_length (sz n : Nat) (f : Nat → Nat → Value) : (flatV sz n f).length = n * sz := by simp [flatV]

theorem divmod_lt {sz n q : Nat} (h : q < n * sz) : q / sz < n ∧ q % sz < sz ∧ q / sz * sz + q % sz = q := by
  have hs : 0 < sz := by
    rcases Nat.eq_zero_or_pos sz with rfl | h'
    · simp at h
    · exact h'
  exact ⟨(Nat.div_lt_iff_lt_mul hs).2 h, Nat.mod_lt _ hs, Nat.div_add_mod' q sz⟩

theorem flat_lt {sz n i j : Nat} (hi : i < n) (hj : j < sz) : i * sz + j < n * sz := by
  have := Nat.mul_le_mul_right sz (show i + 1 ≤ n from hi)
  rw [Nat.add_mul] at this
  omega

theorem flatV_get {sz n i j : Nat} (f : Nat → Nat → Value) (hi : i < n) (hj : j < sz) : (flatV sz n f)[i * sz + j]? = some (f i j) := by
  have hs : 0 < sz := by omega
  have h1 : (i * sz + j) / sz = i := by rw [Nat.mul_comm, Nat.mul_add_div hs, Nat.div_eq_of_lt hj]; rfl
  have h2 : (i * sz + j) % sz = j := by rw [Nat.mul_comm, Nat.mul_add_mod, Nat.mod_eq_of_lt hj]
  simp [flatV, List.getElem?_range (flat_lt hi hj), h1, h2]

theorem flatV_cells {w : World} {b o sz n : Nat} {f : Nat → Nat → Value} (hc : ∀ i j, i < n → j < sz → w.cell? ⟨b, o + (i * sz + j), none⟩ = some (f i j)) :
    ∀ (j : Nat) (v : Value), (flatV sz n f)[j]? = some v → w.cell? ((⟨b, o, none⟩ : Addr).add j) = some v := by
  intro j v hv
  have hj : j < n * sz := by rw [← flatV_length sz n f]; exact (List.getElem?_eq_some_iff.1 hv).1
  obtain ⟨h1, h2, h3⟩ := divmod_lt hj
  have hv' := flatV_get f h1 h2
  rw [h3] at hv'
  rw [hv'] at hv
  cases hv
  have := hc _ _ h1 h2
  rw [h3] at this
  rw [Addr.add_lit]
  exact this

theorem flatV_one {sz n : Nat} {f : Nat → Nat → Value} (hc : ∀ i j, i < n → j < sz → (f i j).oneCell' = true) : ∀ v ∈ flatV sz n f, v.oneCell' = true := by
  intro v hv
  simp only [flatV, List.mem_map, List.mem_range] at hv
  obtain ⟨q, hq, rfl⟩ := hv
  obtain ⟨h1, h2, _⟩ := divmod_lt hq
  exact hc _ _ h1 h2

section
variable {P : Program} {w : World} {G : Gh} {h : List Blk} {live : List Nat}

theorem append_room (t ty e e' : TypeId) (i : TypeInfo) (ht : P.underlying t = some (.slice e)) (hi : P.info? e = some i)
    (g sLen sCap : Nat) (cur : Array Value) (hg : w.heap[g]? = some (.cells cur e' (0, 0)))
    (a : Addr) (m c : Nat) (news : List Value) (hl : news.length = m * i.size) (hnews : ∀ (j : Nat) (u : Value), news[j]? = some u → w.cell? (a.add j) = some u) (h1 : ∀ u ∈ news, u.oneCell' = true)
    (hroom : sLen + m ≤ sCap) (hfit : sLen * i.size + news.length ≤ cur.size) :
    (Builtin.append_ #[t, t] ty #[.slice (some ⟨g, 0, none⟩) sLen sCap, .slice (some a) m c]).run P w =
      .ok (.slice (some ⟨g, 0, none⟩) (sLen + m) sCap) (w.setRow g (cur.toList.take (sLen * i.size) ++ news ++ cur.toList.drop (sLen * i.size + news.length)).toArray) := by
  have hf := run_firstCells_some (P := P) w i.size m a m c news hl hnews
  have hst := run_storeCells_at P g (sLen * i.size) e' news 0 cur w hg (by simpa using hfit) h1
  simp only [Nat.add_zero] at hst
  simp [Builtin.append_, run_underlying ht, sizeOf, typeInfo, hi, Builtin.lenOf, hroom, hf, Addr.add_lit, hst]

theorem append_zero {t ty e : TypeId} {i : TypeInfo} (ht : P.underlying t = some (.slice e)) (hi : P.info? e = some i) (base base' : Option Addr) (n cap cap' : Nat) (hn : n ≤ cap) :
    (Builtin.append_ #[t, t] ty #[.slice base n cap, .slice base' 0 cap']).run P w = .ok (.slice base n cap) w := by
  cases base <;> cases base' <;> simp [Builtin.append_, run_underlying ht, sizeOf, typeInfo, hi, Builtin.lenOf, hn, Builtin.firstCells, loadCells, loadCellsFrom, storeCells]

/-- A new row, known as far as its first cells, with a token of its own. -/
theorem HRel.grow (hh : HRel w G h live) (vs : Array Value) (e : TypeId) (sz len cap : Nat) (hvs : vs.size = cap * sz) (hlc : len ≤ cap) (hmax : cap ≤ maxLen) :
    let w' := w.drew.alloc (.cells vs e)
    let G' : Gh := { G with imm := fun b q => G.imm b q ∨ (b = w.heap.size ∧ q < len * sz), toks := G.toks ++ [⟨w.heap.size, e, sz, len, cap⟩] }
    HRel w' G' h (G.toks.length :: live) ∧ Evo w G live w' G' (G.toks.length :: live) := by
  intro w' G'
  have hcell : ∀ a, w'.cell? a = (w.alloc (.cells vs e)).cell? a := fun _ => rfl
  have hheap : ∀ b, b < w.heap.size → w'.heap[b]? = w.heap[b]? := fun b hb => Below.heap_alloc w.drew _ b hb
  have hnew : w'.heap[w.heap.size]? = some (.cells vs e (0, 0)) := heap_alloc_new w.drew _
  have hsize : w'.heap.size = w.heap.size + 1 := by show (w.drew.alloc _).heap.size = _; simp
  have himm : ∀ b q, G.imm b q → w'.cell? ⟨b, q, none⟩ = w.cell? ⟨b, q, none⟩ := fun b q hb => World.cell?_alloc_lt w _ ⟨b, q, none⟩ (hh.imm_lt b q hb)
  have htok : ∀ (t : Nat) (d : Tok), G.toks[t]? = some d → G'.toks[t]? = some d := fun t d hd => by
    show (G.toks ++ _)[t]? = _
    rw [List.getElem?_append_left (List.getElem?_eq_some_iff.1 hd).1]; exact hd
  have hext : Ext G G' := ⟨Nat.le_refl _, fun _ _ => rfl, fun _ _ h => .inl h, htok⟩
  have htl : ∀ d, TokOk w G d → d.b < w.heap.size := fun d ⟨⟨cur, hc, _⟩, _⟩ => (Array.getElem?_eq_some_iff.1 hc).1
  have hme : G'.toks[G.toks.length]? = some ⟨w.heap.size, e, sz, len, cap⟩ := by show (G.toks ++ _)[G.toks.length]? = _; simp
  have hlt : ∀ t, t ∈ live → t < G.toks.length := fun t ht => by obtain ⟨d, hd, _⟩ := hh.tok t ht; exact (List.getElem?_eq_some_iff.1 hd).1
  have hinv : ∀ t, t ∈ live → ∀ d, G'.toks[t]? = some d → G.toks[t]? = some d := fun t ht d hd => by
    have : (G.toks ++ [(⟨w.heap.size, e, sz, len, cap⟩ : Tok)])[t]? = some d := hd
    rwa [List.getElem?_append_left (hlt t ht)] at this
  refine ⟨⟨hh.len, fun k x hx => ?_, fun k hk => ?_, hh.inj, fun b q hb => ?_, fun b q k hb hk => ?_, fun t ht => ?_, fun t u d d' ht hu hd hd' hb => ?_⟩,
    ⟨rfl, rfl, rfl, by omega, himm, fun b hb _ => hheap b hb, fun b hb ho => ?_, hext⟩⟩
  · have hk : k < G.n := by rw [← hh.len]; exact (List.getElem?_eq_some_iff.1 hx).1
    exact (hh.blk k x hx).mono (hheap _ (hh.blk_lt k hk)) himm hext
  · have := hh.blk_lt k hk; show G.blk k < _; omega
  · rcases hb with hb | ⟨rfl, _⟩
    · have := hh.imm_lt b q hb; omega
    · omega
  · rcases hb with hb | ⟨rfl, _⟩
    · exact hh.imm_blk b q k hb hk
    · have := hh.blk_lt k hk; show G.blk k ≠ _; omega
  · rcases List.mem_cons.1 ht with rfl | ht
    · refine ⟨_, hme, ⟨vs, hnew, hvs⟩, hlc, hmax, fun q hq hi => ?_, fun k hk => ?_⟩
      · rcases hi with hi | ⟨_, hi⟩
        · have : w.heap.size < w.heap.size := hh.imm_lt _ _ hi; omega
        · have hq : len * sz ≤ q := hq
          omega
      · have := hh.blk_lt k hk; show G.blk k ≠ _; simp only []; omega
    · obtain ⟨d, hd, hok⟩ := hh.tok t ht
      have hl := htl d hok
      obtain ⟨⟨cur, hc, hs⟩, h1, h2, h3, h4⟩ := hok
      refine ⟨d, htok t d hd, ⟨⟨cur, (hheap _ hl).trans hc, hs⟩, h1, h2, fun q hq hi => ?_, h4⟩⟩
      rcases hi with hi | ⟨hi, _⟩
      · exact h3 q hq hi
      · omega
  · have hbl : ∀ t, t ∈ live → ∀ d, G.toks[t]? = some d → d.b < w.heap.size := fun t ht d hd => by
      obtain ⟨d2, hd2, hok⟩ := hh.tok t ht
      rw [hd] at hd2; cases hd2
      exact htl d hok
    rcases List.mem_cons.1 ht with rfl | ht <;> rcases List.mem_cons.1 hu with rfl | hu
    · rfl
    · rw [hme] at hd; cases hd
      have := hbl u hu d' (hinv u hu d' hd'); simp only [] at hb; omega
    · rw [hme] at hd'; cases hd'
      have := hbl t ht d (hinv t ht d hd); simp only [] at hb; omega
    · exact hh.tok_ne t u d d' ht hu (hinv t ht d hd) (hinv u hu d' hd') hb
  · rcases ho with ho | ⟨t, d, ht, hd, hb'⟩
    · exact .inl ho
    · rcases List.mem_cons.1 ht with rfl | ht
      · rw [hme] at hd; cases hd
        simp only [] at hb'; omega
      · exact .inr ⟨t, d, ht, hinv t ht d hd, hb'⟩

/-- The spare room of an owned row is filled further. -/
theorem HRel.fillUp (hh : HRel w G h live) {t : Nat} (ht : t ∈ live) {d : Tok} (hd : G.toks[t]? = some d) (cur vs : Array Value) (hcur : w.heap[d.b]? = some (.cells cur d.e (0, 0))) (q : Nat) (hq : d.len + q ≤ d.cap)
    (hvs : vs.size = d.cap * d.sz) (hsame : ∀ j, j < d.len * d.sz → vs[j]? = cur[j]?) :
    let w' := w.setRow d.b vs
    let G' : Gh := { G with imm := fun b o => G.imm b o ∨ (b = d.b ∧ d.len * d.sz ≤ o ∧ o < (d.len + q) * d.sz), toks := G.toks ++ [⟨d.b, d.e, d.sz, d.len + q, d.cap⟩] }
    HRel w' G' h (G.toks.length :: live.filter (· ≠ t)) ∧ Evo w G live w' G' (G.toks.length :: live.filter (· ≠ t)) := by
  intro w' G'
  obtain ⟨d2, hd2, ⟨⟨cur2, hc2, hs2⟩, k1, k2, k3, k4⟩⟩ := hh.tok t ht
  rw [hd] at hd2; cases hd2
  have hbl : d.b < w.heap.size := (Array.getElem?_eq_some_iff.1 hcur).1
  have hoth : ∀ b, b ≠ d.b → w'.heap[b]? = w.heap[b]? := fun b hb => setRow_other w _ b _ hb
  have hself : w'.heap[d.b]? = some (.cells vs d.e (0, 0)) := setRow_heap w _ cur vs d.e _ hcur
  have hsize : w'.heap.size = w.heap.size := by simp [w']
  have himm : ∀ b o, G.imm b o → w'.cell? ⟨b, o, none⟩ = w.cell? ⟨b, o, none⟩ := fun b o hb => by
    by_cases hbd : b = d.b
    · subst hbd
      have ho : o < d.len * d.sz := by
        rcases Nat.lt_or_ge o (d.len * d.sz) with h' | h'
        · exact h'
        · exact (k3 o h' hb).elim
      rw [cell_of_row w' _ o vs d.e _ hself, cell_of_row w _ o cur d.e _ hcur]
      exact hsame o ho
    · exact World.cell?_of_block (hoth b hbd)
  have htok : ∀ (t : Nat) (d : Tok), G.toks[t]? = some d → G'.toks[t]? = some d := fun t d hd => by
    show (G.toks ++ _)[t]? = _
    rw [List.getElem?_append_left (List.getElem?_eq_some_iff.1 hd).1]; exact hd
  have hext : Ext G G' := ⟨Nat.le_refl _, fun _ _ => rfl, fun _ _ h => .inl h, htok⟩
  have hme : G'.toks[G.toks.length]? = some ⟨d.b, d.e, d.sz, d.len + q, d.cap⟩ := by show (G.toks ++ _)[G.toks.length]? = _; simp
  have hlt : ∀ t, t ∈ live → t < G.toks.length := fun t ht => by obtain ⟨d, hd, _⟩ := hh.tok t ht; exact (List.getElem?_eq_some_iff.1 hd).1
  have hinv : ∀ u, u ∈ live → ∀ d', G'.toks[u]? = some d' → G.toks[u]? = some d' := fun u hu d' hd' => by
    have : (G.toks ++ [(⟨d.b, d.e, d.sz, d.len + q, d.cap⟩ : Tok)])[u]? = some d' := hd'
    rwa [List.getElem?_append_left (hlt u hu)] at this
  have hmem : ∀ u, u ∈ live.filter (· ≠ t) → u ∈ live ∧ u ≠ t := fun u hu => by simpa using hu
  refine ⟨⟨hh.len, fun k x hx => ?_, fun k hk => by rw [hsize]; exact hh.blk_lt k hk, hh.inj, fun b o hb => ?_, fun b o k hb hk => ?_, fun u hu => ?_, fun u v d1 d2 hu hv hd1 hd2 hb => ?_⟩,
    ⟨rfl, rfl, rfl, by omega, himm, fun b hb hn => hoth b (fun e => hn (.inr ⟨t, d, ht, hd, e.symm⟩)), fun b hb ho => ?_, hext⟩⟩
  · have hk : k < G.n := by rw [← hh.len]; exact (List.getElem?_eq_some_iff.1 hx).1
    exact (hh.blk k x hx).mono (hoth _ (k4 k hk)) himm hext
  · rw [hsize]
    rcases hb with hb | ⟨rfl, _⟩
    · exact hh.imm_lt b o hb
    · exact hbl
  · rcases hb with hb | ⟨rfl, _⟩
    · exact hh.imm_blk b o k hb hk
    · exact k4 k hk
  · rcases List.mem_cons.1 hu with rfl | hu
    · refine ⟨_, hme, ⟨vs, hself, hvs⟩, hq, k2, fun o ho hi => ?_, k4⟩
      rcases hi with hi | ⟨_, _, hi⟩
      · have : d.len * d.sz ≤ (d.len + q) * d.sz := Nat.mul_le_mul_right _ (by omega)
        exact k3 o (by simp only [] at ho; omega) hi
      · simp only [] at ho; omega
    · obtain ⟨hu, hut⟩ := hmem u hu
      obtain ⟨d', hd', ⟨⟨cur', hc', hs'⟩, h1, h2, h3, h4⟩⟩ := hh.tok u hu
      have hbne : d'.b ≠ d.b := fun e => hut (hh.tok_ne u t d' d hu ht hd' hd e)
      refine ⟨d', htok u d' hd', ⟨⟨cur', (hoth _ hbne).trans hc', hs'⟩, h1, h2, fun o ho hi => ?_, h4⟩⟩
      rcases hi with hi | ⟨hi, _⟩
      · exact h3 o ho hi
      · exact hbne hi
  · rcases List.mem_cons.1 hu with rfl | hu <;> rcases List.mem_cons.1 hv with rfl | hv
    · rfl
    · obtain ⟨hv, hvt⟩ := hmem v hv
      rw [hme] at hd1; cases hd1
      exact (hvt (hh.tok_ne v t d2 d hv ht (hinv v hv d2 hd2) hd hb.symm)).elim
    · obtain ⟨hu, hut⟩ := hmem u hu
      rw [hme] at hd2; cases hd2
      exact (hut (hh.tok_ne u t d1 d hu ht (hinv u hu d1 hd1) hd hb)).elim
    · exact hh.tok_ne u v d1 d2 (hmem u hu).1 (hmem v hv).1 (hinv u (hmem u hu).1 d1 hd1) (hinv v (hmem v hv).1 d2 hd2) hb
  · rcases ho with ho | ⟨u, d', hu, hd', hb'⟩
    · exact .inl ho
    · rcases List.mem_cons.1 hu with rfl | hu
      · rw [hme] at hd'; cases hd'
        exact .inr ⟨t, d, ht, hd, hb'⟩
      · exact .inr ⟨u, d', (hmem u hu).1, hinv u (hmem u hu).1 d' hd', hb'⟩

/-- The cells of two lists, one behind the other. -/
theorem both_get {sz n m i j : Nat} (f g : Nat → Nat → Value) (tail : List Value) (hi : i < n + m) (hj : j < sz) :
    (flatV sz n f ++ flatV sz m g ++ tail)[i * sz + j]? = some (if i < n then f i j else g (i - n) j) := by
  rw [List.getElem?_append_left (by rw [List.length_append, flatV_length, flatV_length, ← Nat.add_mul]; exact flat_lt hi hj)]
  by_cases h1 : i < n
  · rw [if_pos h1, List.getElem?_append_left (by rw [flatV_length]; exact flat_lt h1 hj)]
    exact flatV_get f h1 hj
  · rw [if_neg h1, List.getElem?_append_right (by rw [flatV_length]; have := Nat.mul_le_mul_right sz (show n ≤ i by omega); omega), flatV_length]
    have : i * sz + j - n * sz = (i - n) * sz + j := by
      have h2 : i * sz = (i - n) * sz + n * sz := by rw [← Nat.add_mul]; congr 1; omega
      omega
    rw [this]
    exact flatV_get g (by omega) hj

theorem getD_append' {α : Type} (l m : List α) (i : Nat) (d : α) : (l ++ m).getD i d = if i < l.length then l.getD i d else m.getD (i - l.length) d := by
  simp only [List.getD_eq_getElem?_getD, List.getElem?_append]
  split <;> rfl

theorem append_sound {fr : Nat → AV} {o : Oper} {K : KT} (s x : Operand) (t e : TypeId) (ho : o.op = .call { callee := .builtin .append, args := #[s, x], argTypes := #[t, t] })
    (i : TypeInfo) (z : Value) (ht : P.underlying t = some (.slice e)) (hi : P.info? e = some i) (hz : i.zero = some z) (hzs : z.cells.size = i.size) (hsz : 0 < i.size)
    {l m : List AV} {c c2 : Cap} (hs : ev fr s = .slice l c) (hx : ev fr x = .slice m c2) (hc : CapOK live c)
    (hl : ∀ y ∈ l, y.cells.length = i.size) (hm : ∀ y ∈ m, y.cells.length = i.size) (hbytes : (l.length + m.length) * i.bytes ≤ 140737488355328) (hmx : l.length + m.length ≤ 140737488355328)
    (hK : ∀ c' live', Keeps live c live' c' → K (.slice (l ++ m) c') h live') : AOp P fr h live o K := by
  intro w G ρ hρ hr hh
  obtain ⟨dst, op, ty, pos, after, guard⟩ := o
  simp only at ho
  subst ho
  have hrs := hr s (by simp [Op.operands, Call.operands])
  have hrx := hr x (by simp [Op.operands, Call.operands])
  rw [hs] at hrs; rw [hx] at hrx
  have hgl : ∀ q, q < l.length → (l.getD q .undef).cells.length = i.size := fun q hq => hl _ (by rw [List.getD_eq_getElem?_getD, List.getElem?_eq_getElem hq]; exact List.getElem_mem hq)
  have hgm : ∀ q, q < m.length → (m.getD q .undef).cells.length = i.size := fun q hq => hm _ (by rw [List.getD_eq_getElem?_getD, List.getElem?_eq_getElem hq]; exact List.getElem_mem hq)
  generalize hu : ρ s = u at hrs
  generalize hv : ρ x = v at hrx
  have hrun : ∀ (z' : Value) (w' : World), (Builtin.append_ #[t, t] ty #[u, v]).run P w = .ok z' w' → (execOp ρ ⟨dst, .call { callee := .builtin .append, args := #[s, x], argTypes := #[t, t] }, ty, pos, after, guard⟩).run P w = .ok (.value z') w' := fun z' w' hz' => by
    simp [execOp, resolve, invoke, builtin, hu, hv, hz']
  -- nothing is appended
  by_cases hm0 : m = []
  · subst hm0
    have key : ∃ base n cap base' cap', u = .slice base n cap ∧ n ≤ cap ∧ v = .slice base' 0 cap' := by
      cases hrs with
      | nilSlice => cases hrx with
        | nilSlice => exact ⟨_, _, _, _, _, rfl, Nat.le_refl _, rfl⟩
        | emptySlice => exact ⟨_, _, _, _, _, rfl, Nat.le_refl _, rfl⟩
        | slice => exact ⟨_, _, _, _, _, rfl, Nat.le_refl _, rfl⟩
      | emptySlice => cases hrx with
        | nilSlice => exact ⟨_, _, _, _, _, rfl, Nat.le_refl _, rfl⟩
        | emptySlice => exact ⟨_, _, _, _, _, rfl, Nat.le_refl _, rfl⟩
        | slice => exact ⟨_, _, _, _, _, rfl, Nat.le_refl _, rfl⟩
      | slice _ _ b o cap sz f hcap => cases hrx with
        | nilSlice => exact ⟨_, _, _, _, _, rfl, hcap, rfl⟩
        | emptySlice => exact ⟨_, _, _, _, _, rfl, hcap, rfl⟩
        | slice => exact ⟨_, _, _, _, _, rfl, hcap, rfl⟩
    obtain ⟨base, n, cap, base', cap', rfl, hn, rfl⟩ := key
    rw [hrun _ _ (append_zero ht hi base base' n cap cap' hn)]
    refine ⟨_, h, live, G, hK c live (Keeps.refl hc), ?_, hh, Evo.refl _ _ _⟩
    rw [List.append_nil]
    exact hrs
  · have hmpos : 0 < m.length := List.length_pos_iff.2 hm0
    cases hrx with
    | nilSlice => simp at hm0
    | emptySlice => simp at hm0
    | slice _ _ b2 o2 cap2 sz2 g hcap2 hmax2 hsz2 himm2 hcell2 hone2 hrep2 hcc2 =>
      have e2 : sz2 = i.size := by rw [← hsz2 0 hmpos]; exact hgm 0 hmpos
      subst e2
      have hnews := flatV_cells hcell2
      have hnone := flatV_one hone2
      have hnl := flatV_length i.size m.length g
      have h63 : l.length + m.length ≤ maxLen := by unfold maxLen; omega
      -- what is common to both ways
      have fin : ∀ (w' : World) (G' : Gh) (live' : List Nat) (b cap : Nat) (f : Nat → Nat → Value) (t' : Nat) (e' : TypeId), Evo w G live w' G' live' → HRel w' G' h live' →
          l.length + m.length ≤ cap → cap ≤ maxLen →
          (∀ q j, q < l.length → j < i.size → (f q j).oneCell' = true ∧ Rep w G ((l.getD q .undef).cells.getD j .undef) (f q j)) →
          (∀ q, q < (l.length + m.length) * i.size → G'.imm b q) →
          (∀ q j, q < l.length + m.length → j < i.size → w'.cell? ⟨b, q * i.size + j, none⟩ = some (if q < l.length then f q j else g (q - l.length) j)) →
          G'.toks[t']? = some ⟨b, e', i.size, l.length + m.length, cap⟩ → t' ∈ live' → t' = G.toks.length → (∀ u, u ∈ live → c ≠ .own u → u ∈ live') →
          Post w G live K (.slice (some ⟨b, 0, none⟩) (l.length + m.length) cap) w' := by
        intro w' G' live' b cap f t' e' hev hh' hle hmx hf himm' hcell' htk htl hfr hkeep
        refine ⟨.slice (l ++ m) (.own t'), h, live', G', hK _ _ ⟨.inr ⟨t', rfl, htl⟩, fun u hu hn => ⟨hkeep u hu hn, fun e => by
          cases e
          obtain ⟨d, hd, _⟩ := hh.tok _ hu
          rw [hfr] at hd
          simp at hd⟩⟩, ?_, hh', hev⟩
        have key := Rep.slice (w := w') (G := G') (l ++ m) (.own t') b 0 cap i.size (fun q j => if q < l.length then f q j else g (q - l.length) j) (by simp; omega) hmx
          (fun q hq => by
            simp only [List.length_append] at hq
            rw [getD_append']; split
            · exact hgl q (by assumption)
            · exact hgm _ (by omega))
          (fun q j hq hj => by rw [Nat.zero_add]; exact himm' _ (flat_lt (by simpa using hq) hj))
          (fun q j hq hj => by rw [Nat.zero_add]; exact hcell' q j (by simpa using hq) hj)
          (fun q j hq hj => by
            simp only [List.length_append] at hq
            split
            · exact (hf q j (by assumption) hj).1
            · exact hone2 _ _ (by omega) hj)
          (fun q j hq hj => by
            simp only [List.length_append] at hq
            rw [getD_append']
            split
            · exact hev.rep (hf q j (by assumption) hj).2
            · exact hev.rep (hrep2 _ _ (by omega) hj))
          ⟨rfl, by simp; omega, e', by simpa using htk⟩
        simpa using key
      -- a new row
      have grow : ∀ (f : Nat → Nat → Value) (old : Nat), old < l.length + m.length →
          (∀ q j, q < l.length → j < i.size → (f q j).oneCell' = true ∧ Rep w G ((l.getD q .undef).cells.getD j .undef) (f q j)) →
          Post w G live K (.slice (some ⟨w.heap.size, 0, none⟩) (l.length + m.length) (grownCap w (l.length + m.length) old e))
            (w.drew.alloc (.cells ((flatV i.size l.length f).toArray ++ (flatV i.size m.length g).toArray ++ Builtin.zeroCells z.cells (grownCap w (l.length + m.length) old e - (l.length + m.length))) e)) := by
        intro f old hold hf
        have hge := grownCap_ge w (l.length + m.length) old e
        have hcm := grownCap_le_maxLen w (l.length + m.length) old e h63
        have hvs : ((flatV i.size l.length f).toArray ++ (flatV i.size m.length g).toArray ++ Builtin.zeroCells z.cells (grownCap w (l.length + m.length) old e - (l.length + m.length))).size = grownCap w (l.length + m.length) old e * i.size := by
          simp only [Array.size_append, List.size_toArray, size_zeroCells, hzs, flatV_length, ← Nat.add_mul]
          congr 1; omega
        obtain ⟨hh', hev⟩ := hh.grow _ e i.size (l.length + m.length) (grownCap w (l.length + m.length) old e) hvs hge hcm
        refine fin _ _ _ _ _ f G.toks.length e hev hh' hge hcm hf (fun q hq => .inr ⟨rfl, hq⟩) (fun q j hq hj => ?_) (by simp) (by simp) rfl (fun u hu _ => List.mem_cons_of_mem _ hu)
        show (w.drew.alloc _).cell? _ = _
        have hc' := World.cell?_alloc_new w.drew ((flatV i.size l.length f).toArray ++ (flatV i.size m.length g).toArray ++ Builtin.zeroCells z.cells (grownCap w (l.length + m.length) old e - (l.length + m.length))) e (q * i.size + j)
        rw [World.size_drew] at hc'
        rw [hc']
        have := both_get f g (Builtin.zeroCells z.cells (grownCap w (l.length + m.length) old e - (l.length + m.length))).toList hq hj
        rw [← this, ← Array.getElem?_toList]
        simp
      have hsm : m.length * i.bytes ≤ 140737488355328 := by
        have := Nat.mul_le_mul_right i.bytes (show m.length ≤ l.length + m.length by omega)
        omega
      cases hrs with
      | nilSlice =>
        have hr' := run_append_nil (P := P) w t ty e i z ht hi hz ⟨b2, o2, none⟩ m.length cap2 _ hnl hnews hmpos (by omega) (by omega)
        rw [hrun _ _ hr']
        have := grow (fun _ _ => undef) 0 (by simp; exact hmpos) (fun q j hq => by simp at hq)
        simp only [List.length_nil, Nat.zero_add] at this
        have e0 : (flatV i.size 0 fun _ _ => undef).toArray = #[] := by simp [flatV]
        rw [e0, Array.empty_append] at this
        exact this
      | emptySlice a0 _ _ =>
        have hr' := run_append_grow (P := P) w t ty e i z ht hi hz a0 0 0 [] (by simp) (by simp) ⟨b2, o2, none⟩ m.length cap2 _ hnl hnews (by omega) (by omega) (growslice_fits (by omega) (by simpa using hbytes))
        rw [hrun _ _ hr']
        have := grow (fun _ _ => undef) 0 (by simp; exact hmpos) (fun q j hq => by simp at hq)
        simp only [List.length_nil, Nat.zero_add] at this
        have e0 : (flatV i.size 0 fun _ _ => undef).toArray = #[] := by simp [flatV]
        rw [e0, Array.empty_append] at this
        simp only [Nat.zero_add, List.nil_append]
        rw [Array.empty_append]
        exact this
      | slice _ _ b o cap sz f hcap hmax hsz' himm hcell hone hrep hcc =>
        -- the elements' size: where there is one, it is the type's
        have hszl : 0 < l.length → sz = i.size := fun h0 => by rw [← hsz' 0 h0]; exact hgl 0 h0
        have hcell' : ∀ q j, q < l.length → j < i.size → w.cell? ⟨b, o + (q * i.size + j), none⟩ = some (f q j) := fun q j hq hj => by
          have := hszl (by omega); subst this; exact hcell q j hq hj
        have hf : ∀ q j, q < l.length → j < i.size → (f q j).oneCell' = true ∧ Rep w G ((l.getD q .undef).cells.getD j .undef) (f q j) := fun q j hq hj => by
          have := hszl (by omega); subst this; exact ⟨hone q j hq hj, hrep q j hq hj⟩
        by_cases hroom : l.length + m.length ≤ cap
        · rcases hc with rfl | ⟨t0, rfl, ht0⟩
          · simp only [CapRep] at hcc; omega
          · obtain ⟨rfl, hl0, e0, htk⟩ := hcc
            obtain ⟨d, hd, ⟨⟨cur, hcur, hcs⟩, k1, k2, k3, k4⟩⟩ := hh.tok t0 ht0
            rw [htk] at hd
            cases hd
            simp only at hcur hcs k1 k2 k3 k4
            have := hszl hl0
            subst this
            have hfit : l.length * i.size + (flatV i.size m.length g).length ≤ cur.size := by rw [flatV_length, hcs, ← Nat.add_mul]; exact Nat.mul_le_mul_right _ hroom
            have hr' := append_room (P := P) t ty e e0 i ht hi b l.length cap cur hcur ⟨b2, o2, none⟩ m.length cap2 _ hnl hnews hnone hroom hfit
            rw [hrun _ _ hr']
            have hlc : l.length * i.size ≤ cur.size := by omega
            have htk0 : (cur.toList.take (l.length * i.size)).length = l.length * i.size := by simp; omega
            obtain ⟨hh', hev⟩ := hh.fillUp ht0 htk cur (cur.toList.take (l.length * i.size) ++ flatV i.size m.length g ++ cur.toList.drop (l.length * i.size + (flatV i.size m.length g).length)).toArray hcur m.length hroom
              (by simp only [List.size_toArray, List.length_append, List.length_drop, htk0, flatV_length, Array.length_toList]; rw [hcs] at hfit ⊢; rw [flatV_length] at hfit; omega)
              (fun j hj => by
                have hj' : j < l.length * i.size := hj
                simp only [List.getElem?_toArray, List.append_assoc]
                rw [List.getElem?_append_left (by rw [htk0]; exact hj'), List.getElem?_take_of_lt hj']
                simp)
            refine fin _ _ _ _ _ f G.toks.length e0 hev hh' hroom hmax hf (fun q hq => ?_) (fun q j hq hj => ?_) (by simp) (by simp) rfl (fun u hu hne => ?_)
            · by_cases h1 : q < l.length * i.size
              · obtain ⟨d1, d2, d3⟩ := divmod_lt h1
                refine .inl ?_
                have := himm _ _ d1 d2
                rwa [d3, Nat.zero_add] at this
              · exact .inr ⟨rfl, by simp only []; omega, hq⟩
            · rw [cell_of_row _ _ _ _ e0 _ (setRow_heap w b cur _ e0 _ hcur)]
              by_cases h1 : q < l.length
              · rw [if_pos h1]
                have hlt := flat_lt h1 hj
                have := hcell' q j h1 hj
                rw [Nat.zero_add, cell_of_row w b _ cur e0 _ hcur] at this
                simp only [List.getElem?_toArray, List.append_assoc]
                rw [List.getElem?_append_left (by rw [htk0]; exact hlt), List.getElem?_take_of_lt hlt]
                simpa using this
              · rw [if_neg h1]
                have e1 : q * i.size + j - l.length * i.size = (q - l.length) * i.size + j := by
                  have h2 : q * i.size = (q - l.length) * i.size + l.length * i.size := by rw [← Nat.add_mul]; congr 1; omega
                  omega
                have e2 : l.length * i.size ≤ q * i.size + j := by have := Nat.mul_le_mul_right i.size (show l.length ≤ q by omega); omega
                simp only [List.getElem?_toArray, List.append_assoc]
                rw [List.getElem?_append_right (by rw [htk0]; exact e2), htk0, e1, List.getElem?_append_left (by rw [flatV_length]; exact flat_lt (by omega) hj)]
                exact flatV_get g (by omega) hj
            · refine List.mem_cons_of_mem _ (List.mem_filter.2 ⟨hu, ?_⟩)
              simp only [ne_eq, decide_not, Bool.not_eq_eq_eq_not, Bool.not_true, decide_eq_false_iff_not]
              intro e; subst e; exact hne rfl
        · have hr' := run_append_grow (P := P) w t ty e i z ht hi hz ⟨b, o, none⟩ l.length cap (flatV i.size l.length f) (flatV_length _ _ _) (flatV_cells hcell') ⟨b2, o2, none⟩ m.length cap2 _ hnl hnews (by omega) (by omega) (growslice_fits (by omega) hbytes)
          rw [hrun _ _ hr']
          exact grow f cap (by omega) hf

/-- A slice type to which can be appended: its elements' cells, and bytes. -/
def appSz (P : Program) (t : TypeId) : Option (Nat × Nat) :=
  match P.underlying t with
  | some (.slice e) => match P.info? e with
    | some i => match i.zero with
      | some z => if z.cells.size = i.size ∧ 0 < i.size then some (i.size, i.bytes) else none
      | none => none
    | none => none
  | _ => none

theorem AOp.append {fr : Nat → AV} {o : Oper} {K : KT} (s x : Operand) (t : TypeId) (ho : o.op = .call { callee := .builtin .append, args := #[s, x], argTypes := #[t, t] }) {sz bytes : Nat} (ht : appSz P t = some (sz, bytes))
    {l m : List AV} {c c2 : Cap} (hs : ev fr s = .slice l c) (hx : ev fr x = .slice m c2) (hc : CapOK live c)
    (hl : ∀ y ∈ l, y.cells.length = sz) (hm : ∀ y ∈ m, y.cells.length = sz) (hbytes : (l.length + m.length) * bytes ≤ 140737488355328) (hmx : l.length + m.length ≤ 140737488355328)
    (hK : ∀ c' live', Keeps live c live' c' → K (.slice (l ++ m) c') h live') : AOp P fr h live o K := by
  unfold appSz at ht
  split at ht
  · rename_i e he
    split at ht
    · rename_i i hi
      split at ht
      · rename_i z hz
        split at ht
        · rename_i hcnd
          simp only [Option.some.injEq, Prod.mk.injEq] at ht
          obtain ⟨rfl, rfl⟩ := ht
          exact append_sound s x t e ho i z he hi hz hcnd.1 hcnd.2 hs hx hc hl hm hbytes hmx hK
        · simp at ht
      · simp at ht
    · simp at ht
  · simp at ht

end
end Go.Ab
