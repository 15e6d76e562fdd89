import Derived.Test.YtjoklidphbmpoaaGreatR0
import Derived.Test.YtjoklidphbmpoaaGreatA18
namespace Go.Proofs.YtjoklidphbmpoaaGreat
set_option linter.unusedVariables false
set_option linter.unusedSimpArgs false
open Go.Ab Go.RowKit
/-- A slice of what is told by some values of which something is known. -/
theorem TV_sliceP {P : Program} {d : Nat} {t : TypeId} {x : AV} {α : Type} {enc : α → AV} {p : α → Prop} {e : TypeId} (hu : P.underlying t = some (.slice e)) (he : ∀ y, TV P d e y → ∃ a, y = enc a ∧ p a) (h : TV P (d + 1) t x) : ∃ l : List α, x = .slice (l.map enc) .none ∧ l.length ≤ maxLen ∧ ∀ a ∈ l, p a := by
  obtain ⟨l, rfl, hl⟩ := TV_slice (enc := fun a : {a // p a} => enc a.1) hu (fun y hy => by obtain ⟨a, rfl, ha⟩ := he y hy; exact ⟨⟨a, ha⟩, rfl⟩) h
  refine ⟨l.map (·.1), by rw [List.map_map]; rfl, by simpa using hl, fun a ha => ?_⟩
  obtain ⟨b, _, rfl⟩ := List.mem_map.1 ha
  exact b.2
set_option maxRecDepth 100000 in
theorem TV_ent {d : Nat} {x : AV} (h : TV Tryz.prog (d + 1 + 1) 77 x) : ∃ e : En, x = eV e ∧ e.1.length ≤ 9223372036854775807 := by
  obtain ⟨ys, rfl, h2⟩ := TV_struct (ts := [9, 3]) (by kernel_rfl) (by kernel_rfl) h
  obtain ⟨a, b, rfl, ha, hb⟩ := TVl_two h2
  obtain ⟨a, rfl, hl⟩ := TV_str uStr ha
  obtain ⟨b, rfl⟩ := TV_i hb
  exact ⟨(a, b), rfl, hl⟩
theorem uEnts : Tryz.prog.underlying 45 = some (.slice 77) := by kernel_rfl
set_option maxRecDepth 100000 in
theorem TV_node {d : Nat} {x : AV} (h : TV Tryz.prog (d + 1 + 1 + 1 + 1) 47 x) : ∃ n : Nd, x = .agg (ndC n) ∧ ∀ e ∈ n.ents, e.1.length ≤ 9223372036854775807 := by
  obtain ⟨ys, rfl, h2⟩ := TV_struct (ts := [3, 3, 3, 3, 44, 45, 9]) (by kernel_rfl) (by kernel_rfl) h
  obtain ⟨a, b, c, e, f, g, i, rfl, ha, hb, hc, he, hf, hg, hi⟩ := TVl_n7 h2
  obtain ⟨a, rfl⟩ := TV_i ha
  obtain ⟨b, rfl⟩ := TV_i hb
  obtain ⟨c, rfl⟩ := TV_i hc
  obtain ⟨e, rfl⟩ := TV_i he
  obtain ⟨f, rfl, _⟩ := TV_bytes hf
  obtain ⟨g, rfl, _, hge⟩ := TV_sliceP (enc := eV) uEnts (fun y hy => TV_ent hy) hg
  obtain ⟨i, rfl, _⟩ := TV_str uStr hi
  exact ⟨⟨a, b, c, e, f, g, i⟩, rfl, hge⟩
set_option maxRecDepth 100000 in
theorem TV_act {d : Nat} {x : AV} (h : TV Tryz.prog (d + 1 + 1 + 1 + 1 + 1) 82 x) : ∃ a : Ac, x = aV a ∧ ∀ e ∈ a.n.ents, e.1.length ≤ 9223372036854775807 := by
  obtain ⟨ys, rfl, h2⟩ := TV_struct (ts := [5, 3, 47]) (by kernel_rfl) (by kernel_rfl) h
  obtain ⟨a, b, c, rfl, ha, hb, hc⟩ := TVl_three h2
  obtain ⟨a, rfl⟩ := TV_u8 uU8 ha
  obtain ⟨b, rfl⟩ := TV_i hb
  obtain ⟨c, rfl, hcn⟩ := TV_node hc
  exact ⟨⟨a, b, c⟩, rfl, hcn⟩
theorem uActs : Tryz.prog.underlying 39 = some (.slice 82) := by kernel_rfl
set_option maxRecDepth 100000 in
theorem TV_acts {d : Nat} {x : AV} (h : TV Tryz.prog (d + 1 + 1 + 1 + 1 + 1 + 1) 39 x) : ∃ l : List Ac, x = .slice (l.map aV) .none ∧ l.length ≤ maxLen ∧ ∀ a ∈ l, ∀ e ∈ a.n.ents, e.1.length ≤ 9223372036854775807 :=
  TV_sliceP (enc := aV) uActs (fun y hy => TV_act hy) h
end Go.Proofs.YtjoklidphbmpoaaGreat
