import Derived.Test.YtmgnbgniikjhdaaGreatR0
import Derived.Test.YtmgnbgniikjhdaaGreatK16
set_option linter.unusedVariables false
set_option linter.unusedSimpArgs false
namespace Go.Proofs.YtmgnbgniikjhdaaGreat
open Go.Ab Go.RowKit
set_option maxRecDepth 100000 in
theorem TV_res {d:Nat} {x:AV} (h:TV Tryz.prog (d+1+1+1) 66 x):∃r:Rs,x=rsV r:=by
 obtain ⟨ys,rfl,h2⟩:=TV_struct (ts:=[40,3,64,9,37,59]) (by kernel_rfl) (by kernel_rfl) h
 obtain ⟨a,b,c,e,f,g,rfl,ha,hb,hc,he,hf,hg⟩:=TVl_n6 h2
 obtain ⟨a,rfl, _⟩:=TV_int uErr ha
 obtain ⟨b,rfl⟩:=TV_i hb
 obtain ⟨zs,rfl,h3⟩:=TV_struct (ts:=[3,3,3,3,3,3,3]) (by kernel_rfl) (by kernel_rfl) hc
 obtain ⟨s0,s1,s2,s3,s4,s5,s6,rfl,k0,k1,k2,k3,k4,k5,k6⟩:=TVl_n7 h3
 obtain ⟨s0,rfl⟩:=TV_i k0
 obtain ⟨s1,rfl⟩:=TV_i k1
 obtain ⟨s2,rfl⟩:=TV_i k2
 obtain ⟨s3,rfl⟩:=TV_i k3
 obtain ⟨s4,rfl⟩:=TV_i k4
 obtain ⟨s5,rfl⟩:=TV_i k5
 obtain ⟨s6,rfl⟩:=TV_i k6
 obtain ⟨e,rfl, _⟩:=TV_str uStr he
 obtain ⟨f,rfl, _⟩:=TV_strs2 hf
 obtain ⟨g,rfl, _⟩:=TV_bytes hg
 exact ⟨⟨a,b,⟨s0,s1,s2,s3,s4,s5,s6⟩,e,f,g⟩,rfl⟩
theorem uRess:Tryz.prog.underlying 70=some (.slice 66):=by kernel_rfl
set_option maxRecDepth 100000 in
theorem TV_ress {d:Nat} {x:AV} (h:TV Tryz.prog (d+1+1+1+1) 70 x):∃l:List Rs,x=.slice (l.map rsV) .none∧l.length≤maxLen:=
 TV_slice (enc:=rsV) uRess (fun y hy=>TV_res hy) h
end Go.Proofs.YtmgnbgniikjhdaaGreat
