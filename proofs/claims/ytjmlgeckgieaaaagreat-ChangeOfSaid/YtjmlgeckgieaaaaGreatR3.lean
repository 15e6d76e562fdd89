/- ChangeOf: for every input the law returns true, and each argument reads afterwards as it read before. No condition. -/
import Derived.Test.YtjmlgeckgieaaaaGreatRows
import Derived.Test.YtjmlgeckgieaaaaGreatR0
import Derived.Test.YtjmlgeckgieaaaaGreatC14
set_option linter.unusedVariables false
set_option linter.unusedSimpArgs false
namespace Go.Proofs.YtjmlgeckgieaaaaGreat
open Go.Ab Go.RowKit Go.ChangeShapes Go.WideShapes Go.ChangeAt
set_option maxRecDepth 100000 in
theorem changeOf_any (ys:List AV) (h:TVl Tryz.prog 9 Tryz.f3.params.toList ys):ACalls Tryz.prog 3 ys [] [] (ret (.bool true) [] []):=by
 rw [show Tryz.f3.params.toList=[3,22,23] by rfl] at h
 obtain ⟨a,b,e,rfl,ha,hb,he⟩:=TVl_three h
 obtain ⟨room,rfl⟩:=TV_i ha
 obtain ⟨l,rfl,hl⟩:=TV_raws hb
 obtain ⟨acs,rfl,hal,han⟩:=TV_acts he
 exact c3 room l acs [] [] rfl hl hal han
set_option maxRecDepth 100000 in
theorem changeOf_lifted (os:Os) (started:os.Started) (H:Type) (enc:TypeId×Value→H) :
 ReturnsInHanded {} Tryz.checked os 3 .any (Rows.changeOfSpec.pre6 enc Tryz.prog Tryz.f3 Rows.changeOfRow.domain false) (Rows.changeOfSpec.post enc Tryz.prog Tryz.f3 false true false false):=by
 refine returnsInHanded_of_change_sized (C:=Tryz.checked) own started (by kernel_rfl) Tryz.func3
  (ChangeSpec.witness6 (enc:=enc) (C:=Tryz.checked) false ⟨#[],#[.int .i64 0,.slice none 0 0,.slice none 0 0],[]⟩ 8 (by kernel_rfl) (by kernel_rfl) (by kernel_rfl) (by kernel_rfl)) ?_
 intro W base args ds gs before hval hW hcnd hsz _
 refine law_true (d:=9) (tb:=4) laidOut (by kernel_rfl) (by kernel_rfl) Tryz.func3 (by kernel_rfl) (by kernel_rfl) (by kernel_rfl) uBool rfl ?_ changeOf_any hval hW hsz
 intro ds hds
 rw [show Tryz.f3.params.toList=[3,22,23] by rfl] at hds
 match ds,hds with
 | [d1,d2,d3], _=>rfl
theorem changeOf_holds:Rows.ChangeOfSaid:=
 OpenClaim.holds_of_wide 3 Tryz.f3 rfl rfl rfl rfl rfl rfl rfl ⟨rfl,rfl,rfl,rfl,rfl⟩ rfl rfl rfl rfl rfl (by kernel_rfl) Tryz.func3 (by kernel_rfl)
  (of_decide_eq_true (by kernel_rfl)) (by unfold Func.isWrapper;rw [if_neg (by decide +kernel)];exact ⟨rfl,rfl⟩)
  (fun os started H enc _=>changeOf_lifted os started H enc)
end Go.Proofs.YtjmlgeckgieaaaaGreat
