/- CopierSame: for every input the law returns true, and each argument reads afterwards as it read before. No condition. -/
import Derived.Test.YtmgnbgniikjhdaaGreatRows
import Derived.Test.YtmgnbgniikjhdaaGreatR0
import Derived.Test.YtmgnbgniikjhdaaGreatK27
set_option linter.unusedVariables false
set_option linter.unusedSimpArgs false
namespace Go.Proofs.YtmgnbgniikjhdaaGreat
open Go.Ab Go.RowKit Go.ChangeShapes Go.WideShapes Go.ChangeAt
set_option maxRecDepth 100000 in
theorem copierSame_any (ys:List AV) (h:TVl Tryz.prog 9 Tryz.f7.params.toList ys):ACalls Tryz.prog 7 ys [] [] (ret (.bool true) [] []):=by
 rw [show Tryz.f7.params.toList=[3,22,3,9,9,4] by rfl] at h
 obtain ⟨a,b,c,e,f,i,rfl,ha,hb,hc,he,hf,hi⟩:=TVl_n6 h
 obtain ⟨room,rfl⟩:=TV_i ha
 obtain ⟨l,rfl,hl⟩:=TV_raws hb
 obtain ⟨um,rfl⟩:=TV_i hc
 obtain ⟨p,rfl,hp⟩:=TV_str uStr he
 obtain ⟨q,rfl,hq⟩:=TV_str uStr hf
 obtain ⟨kp,rfl⟩:=TV_bool uBool hi
 exact c7 room l um p q kp [] [] rfl hl hp hq
set_option maxRecDepth 100000 in
theorem copierSame_lifted (os:Os) (started:os.Started) (H:Type) (enc:TypeId×Value→H) :
 ReturnsInHanded {} Tryz.checked os 7 .any (Rows.copierSameSpec.pre6 enc Tryz.prog Tryz.f7 Rows.copierSameRow.domain false) (Rows.copierSameSpec.post enc Tryz.prog Tryz.f7 false true false false):=by
 refine returnsInHanded_of_change_sized (C:=Tryz.checked) own started (by kernel_rfl) Tryz.func7
  (ChangeSpec.witness6 (enc:=enc) (C:=Tryz.checked) false ⟨#[],#[.int .i64 0,.slice none 0 0,.int .i64 0,.string ⟨#[]⟩,.string ⟨#[]⟩,.bool false],[]⟩ 8 (by kernel_rfl) (by kernel_rfl) (by kernel_rfl) (by kernel_rfl)) ?_
 intro W base args ds gs before hval hW hcnd hsz _
 refine law_true (d:=9) (tb:=4) laidOut (by kernel_rfl) (by kernel_rfl) Tryz.func7 (by kernel_rfl) (by kernel_rfl) (by kernel_rfl) uBool rfl ?_ copierSame_any hval hW hsz
 intro ds hds
 rw [show Tryz.f7.params.toList=[3,22,3,9,9,4] by rfl] at hds
 match ds,hds with
 | [d1,d2,d3,d4,d5,d6], _=>rfl
theorem copierSame_holds:Rows.CopierSameSaid:=
 OpenClaim.holds_of_wide 7 Tryz.f7 rfl rfl rfl rfl rfl rfl rfl ⟨rfl,rfl,rfl,rfl,rfl⟩ rfl rfl rfl rfl rfl (by kernel_rfl) Tryz.func7 (by kernel_rfl)
  (of_decide_eq_true (by kernel_rfl)) (by unfold Func.isWrapper;rw [if_neg (by decide +kernel)];exact ⟨rfl,rfl⟩)
  (fun os started H enc _=>copierSame_lifted os started H enc)
end Go.Proofs.YtmgnbgniikjhdaaGreat
