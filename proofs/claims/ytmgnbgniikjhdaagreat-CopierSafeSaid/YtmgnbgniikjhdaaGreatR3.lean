/- CopierSafe: for every input the law returns true, and each argument reads afterwards as it read before. No condition. -/
import Derived.Test.YtmgnbgniikjhdaaGreatRows
import Derived.Test.YtmgnbgniikjhdaaGreatR0
import Derived.Test.YtmgnbgniikjhdaaGreatK20
set_option linter.unusedVariables false
set_option linter.unusedSimpArgs false
namespace Go.Proofs.YtmgnbgniikjhdaaGreat
open Go.Ab Go.RowKit Go.ChangeShapes Go.WideShapes Go.ChangeAt
set_option maxRecDepth 100000 in
theorem copierSafe_any (ys:List AV) (h:TVl Tryz.prog 9 Tryz.f5.params.toList ys):ACalls Tryz.prog 5 ys [] [] (ret (.bool true) [] []):=by
 rw [show Tryz.f5.params.toList=[3,22,25,3,37] by rfl] at h
 obtain ⟨a,b,c,e,f,rfl,ha,hb,hc,he,hf⟩:=TVl_n5 h
 obtain ⟨room,rfl⟩:=TV_i ha
 obtain ⟨l,rfl,hl⟩:=TV_raws hb
 obtain ⟨cr,rfl,hg⟩:=TV_cred hc
 obtain ⟨um,rfl⟩:=TV_i he
 obtain ⟨ws,rfl,hw⟩:=TV_strs2 hf
 exact c5 room l cr um ws [] [] rfl hl hg hw
set_option maxRecDepth 100000 in
theorem copierSafe_lifted (os:Os) (started:os.Started) (H:Type) (enc:TypeId×Value→H) :
 ReturnsInHanded {} Tryz.checked os 5 .any (Rows.copierSafeSpec.pre6 enc Tryz.prog Tryz.f5 Rows.copierSafeRow.domain false) (Rows.copierSafeSpec.post enc Tryz.prog Tryz.f5 false true false false):=by
 refine returnsInHanded_of_change_sized (C:=Tryz.checked) own started (by kernel_rfl) Tryz.func5
  (ChangeSpec.witness6 (enc:=enc) (C:=Tryz.checked) false ⟨#[],#[.int .i64 0,.slice none 0 0,.agg #[.int .i64 0,.int .i64 0,.slice none 0 0],.int .i64 0,.slice none 0 0],[]⟩ 8 (by kernel_rfl) (by kernel_rfl) (by kernel_rfl) (by kernel_rfl)) ?_
 intro W base args ds gs before hval hW hcnd hsz _
 refine law_true (d:=9) (tb:=4) laidOut (by kernel_rfl) (by kernel_rfl) Tryz.func5 (by kernel_rfl) (by kernel_rfl) (by kernel_rfl) uBool rfl ?_ copierSafe_any hval hW hsz
 intro ds hds
 rw [show Tryz.f5.params.toList=[3,22,25,3,37] by rfl] at hds
 match ds,hds with
 | [d1,d2,d3,d4,d5], _=>rfl
theorem copierSafe_holds:Rows.CopierSafeSaid:=
 OpenClaim.holds_of_wide 5 Tryz.f5 rfl rfl rfl rfl rfl rfl rfl ⟨rfl,rfl,rfl,rfl,rfl⟩ rfl rfl rfl rfl rfl (by kernel_rfl) Tryz.func5 (by kernel_rfl)
  (of_decide_eq_true (by kernel_rfl)) (by unfold Func.isWrapper;rw [if_neg (by decide +kernel)];exact ⟨rfl,rfl⟩)
  (fun os started H enc _=>copierSafe_lifted os started H enc)
end Go.Proofs.YtmgnbgniikjhdaaGreat
