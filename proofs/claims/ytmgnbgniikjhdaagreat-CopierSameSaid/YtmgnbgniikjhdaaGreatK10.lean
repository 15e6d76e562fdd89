import Derived.Test.YtmgnbgniikjhdaaGreatK9
/-
  CP: it ends; what stays while a machine is run.
-/
set_option linter.unusedVariables false
set_option linter.unusedSimpArgs false
namespace Go.Proofs.YtmgnbgniikjhdaaGreat
open Go.Ab
set_option maxRecDepth 8000
set_option maxHeartbeats 400000
def cpM (c:Cp):Nat:=match c.nx with
 | 0=>0
 | 1=>101
 | 2=>100
 | 3=>99
 | 4=>2+2*(49 - c.n.toNat)
 | 5=>1+2*(49 - c.n.toNat)
 | 6=>1
 | _=>0
def CpO (c:Cp):Prop:=match c.nx with
 | 1 | 2 | 3=>c.n=0
 | 4=>1≤c.n∧c.n≤49
 | 5=>1≤c.n∧c.n≤48
 | _=>True
theorem cpM_step {c:Cp} (r:Rs) (h:CpO c) (hm:(cpN c r).1.2=true):cpM (cpN c r).2+1≤cpM c∧CpO (cpN c r).2:=by
 obtain ⟨fr,to,fl,md,a,b,m,wp,we,nx⟩:=c
 unfold cpN at hm ⊢
 unfold CpO at h
 dsimp only at h hm ⊢
 match nx with
 | 0=>cases hm
 | 1=>exact ⟨Nat.le_refl _,h⟩
 | 2=>
  simp only [cpOpened] at hm ⊢
  split at hm
  · cases hm
  · rename_i he;rw [if_neg he];exact ⟨Nat.le_refl _,h⟩
 | 3=>
  have h:m=0:=h
  simp only [cpBoth]
  split
  · exact ⟨by simp [cpM,cpShut],trivial⟩
  ·
   simp only [cpRead,h,show IntKind.i64.wrap ((0:Int)+1)=1 by rfl]
   exact ⟨by simp [cpM],by simp [CpO]⟩
 | 4=>
  have h:1≤m∧m≤49:=h
  have hB:∀c:Cp,c.n=m→cpM (cpB c).2+1≤2+2*(49 - m.toNat)∧CpO (cpB c).2:=fun c hc=>⟨by simp only [cpM,cpB];omega,trivial⟩
  simp only [cpGot]
  split
  · exact hB _ rfl
  split
  · exact hB _ rfl
  split
  · exact hB _ rfl
  · exact ⟨by simp only [cpM];omega,by simp only [CpO];omega⟩
 | 5=>
  have h:1≤m∧m≤48:=h
  simp only [cpPut]
  split
  · exact ⟨by simp only [cpM,cpB];omega,trivial⟩
  ·
   simp only [cpRead]
   rw [show IntKind.i64.wrap (m+1)=m+1 from wrapS (by omega) (by omega)]
   exact ⟨by simp only [cpM];omega,by simp only [CpO];omega⟩
 | 6=>exact ⟨by simp [cpM,cpShut],trivial⟩
 | _+7=>cases hm
def CmO (c:Cm):Prop:=c.nx=5→CpO c.cp
def cmM (c:Cm):Nat:=c.left.length*105+match c.nx with
 | 0=>0
 | 1=>1
 | 2=>0
 | 3=>104
 | 4=>103
 | 5=>cpM c.cp+2
 | 6=>1
 | _=>0
theorem srcM {c:Cm} (hm:(cmSrc c).1.2=true):cmM (cmSrc c).2+1≤c.left.length*105∧CmO (cmSrc c).2:=by
 unfold cmSrc at hm ⊢
 split at hm
 · cases hm
 ·
  rename_i h
  rw [if_neg h]
  refine ⟨?_,fun h=>nomatch h⟩
  have:(c.left.drop 1).length+1=c.left.length:=by rw [List.length_drop];omega
  simp only [cmM]
  omega
theorem copiesM {c:Cm} {r:Rs} (h:CpO c.cp) (hm:(cmCopies c r).1.2=true):cmM (cmCopies c r).2+1≤c.left.length*105+(cpM c.cp+2)∧CmO (cmCopies c r).2:=by
 unfold cmCopies at hm ⊢
 dsimp only at hm ⊢
 cases h1:(cpN c.cp r).1.2 with
 | true=>
  obtain ⟨k1,k2⟩:=cpM_step r h h1
  rw [cond_true]
  exact ⟨by simp only [cmM];omega,fun _=>k2⟩
 | false=>
  rw [h1,cond_false] at hm
  rw [cond_false]
  cases h2:wrF (cpN c.cp r).2 with
  | true=>
   rw [h2,cond_true] at hm
   rw [cond_true]
   obtain ⟨k1,k2⟩:=srcM hm
   exact ⟨by have:cmM _+1≤c.left.length*105:=k1;unfold cmSkip;omega,k2⟩
  | false=>
   rw [h2,cond_false] at hm
   rw [cond_false]
   cases h3:c.keep with
   | true=>rw [cond_true];exact ⟨by simp only [cmM];omega,fun h=>nomatch h⟩
   | false=>
    rw [h3,cond_false] at hm
    rw [cond_false]
    obtain ⟨k1,k2⟩:=srcM hm
    exact ⟨by have:cmM _+1≤c.left.length*105:=k1;omega,k2⟩
theorem cmM_step {c:Cm} (r:Rs) (h:CmO c) (hm:(cmN c r).1.2=true):cmM (cmN c r).2+1≤cmM c∧CmO (cmN c r).2:=by
 obtain ⟨dg,keep,into,tgt,left,fr,to,s,cp,nx⟩:=c
 unfold cmN at hm ⊢
 dsimp only at hm ⊢
 match nx with
 | 0=>cases hm
 | 1=>exact ⟨by simp [cmM,cmFirst],fun h=>nomatch h⟩
 | 2=>
  simp only [cmAimed] at hm ⊢
  split at hm
  ·
   obtain ⟨k1,k2⟩:=srcM hm
   simp only [List.length_nil,Nat.zero_mul] at k1
   omega
  ·
   rename_i hc
   rw [if_neg hc]
   obtain ⟨k1,k2⟩:=srcM hm
   exact ⟨by simp only [cmM] at k1 ⊢;omega,k2⟩
 | 3=>
  simp only [cmLooked] at hm ⊢
  split at hm
  ·
   rename_i hc;rw [if_pos hc]
   obtain ⟨k1,k2⟩:=srcM hm
   exact ⟨Nat.le_trans k1 (by simp [cmM,cmFail]),k2⟩
  rename_i hc;rw [if_neg hc]
  split at hm
  ·
   rename_i hc;rw [if_pos hc]
   obtain ⟨k1,k2⟩:=srcM hm
   exact ⟨Nat.le_trans k1 (by simp [cmM,cmFail]),k2⟩
  rename_i hc;rw [if_neg hc]
  exact ⟨by simp [cmM],fun h=>nomatch h⟩
 | 4=>
  simp only [cmBegin] at hm ⊢
  split at hm
  ·
   rename_i hc;rw [if_pos hc]
   obtain ⟨k1,k2⟩:=srcM hm
   exact ⟨Nat.le_trans k1 (by simp [cmM,cmFail]),k2⟩
  ·
   rename_i hc;rw [if_neg hc]
   exact copiesM (c:=⟨dg,keep,into,tgt,left,fr,to,s,cp0 fr to 22 (bits .and .i64 s.mode 511),4⟩) rfl hm
 | 5=>exact copiesM (c:=⟨dg,keep,into,tgt,left,fr,to,s,cp,5⟩) (h rfl) hm
 | 6=>exact ⟨by simp [cmM,cmOwned],fun h=>nomatch h⟩
 | _+7=>
  simp only [cmDone] at hm ⊢
  split at hm
  ·
   rename_i hc;rw [if_pos hc]
   obtain ⟨k1,k2⟩:=srcM hm
   exact ⟨Nat.le_trans k1 (by simp [cmM,cmFail]),k2⟩
  ·
   rename_i hc;rw [if_neg hc]
   obtain ⟨k1,k2⟩:=srcM hm
   exact ⟨Nat.le_trans k1 (by simp [cmM]),k2⟩
section
variable {σ : Type} {nxt : σ → Rs→(Ca×Bool) × σ}
theorem run_y {f:Nat} {T:Tab} {ps:List Pr} {s : σ} {r:Rs} {n:Nat} (h:(nxt s r).1.2=true):runF nxt (f+1) T ps s r n=runF nxt f (doF T ps 0 (nxt s r).1.1).2.1 (doF T ps 0 (nxt s r).1.1).2.2 (nxt s r).2 (doF T ps 0 (nxt s r).1.1).1 (n+1):=by
 rw [runF,h];rfl
theorem run_n {f:Nat} {T:Tab} {ps:List Pr} {s : σ} {r:Rs} {n:Nat} (h:(nxt s r).1.2=false):runF nxt (f+1) T ps s r n=((n:Int),T,ps,(nxt s r).2):=by
 rw [runF,h];rfl
theorem run_ends (M : σ → Nat) (I : σ → Prop) (h:∀s r,I s→(nxt s r).1.2=true→M (nxt s r).2+1≤M s∧I (nxt s r).2):∀(f:Nat) (T:Tab) (ps:List Pr) (s : σ) (r:Rs) (n:Nat),I s→M s<f→0≤(runF nxt f T ps s r n).1
 | 0, _, _, _, _, _, _,hf=>absurd hf (Nat.not_lt_zero _)
 | f+1,T,ps,s,r,n,hI,hf=>by
  cases hb:(nxt s r).1.2 with
  | true=>
   obtain ⟨k1,k2⟩:=h s r hI hb
   rw [run_y hb]
   exact run_ends M I h f _ _ _ _ _ k2 (by omega)
  | false=>rw [run_n hb];exact Int.natCast_nonneg n
theorem run_inv {J:Tab→List Pr → σ → Rs→Prop} {K:Tab→List Pr → σ → Prop} (h:∀T ps s r,J T ps s r→(nxt s r).1.2=true→J (doF T ps 0 (nxt s r).1.1).2.1 (doF T ps 0 (nxt s r).1.1).2.2 (nxt s r).2 (doF T ps 0 (nxt s r).1.1).1)
 (hK:∀T ps s r,J T ps s r→(nxt s r).1.2=false→K T ps (nxt s r).2):∀(f:Nat) (T:Tab) (ps:List Pr) (s : σ) (r:Rs) (n:Nat),J T ps s r→0≤(runF nxt f T ps s r n).1→K (runF nxt f T ps s r n).2.1 (runF nxt f T ps s r n).2.2.1 (runF nxt f T ps s r n).2.2.2
 | 0, _, _, _, _, _, _,hn=>absurd hn (by simp [runF])
 | f+1,T,ps,s,r,n,hJ,hn=>by
  cases hb:(nxt s r).1.2 with
  | true=>
   rw [run_y hb] at hn ⊢
   exact run_inv h hK f _ _ _ _ _ (h T ps s r hJ hb) hn
  | false=>rw [run_n hb];exact hK T ps s r hJ hb
end
end Go.Proofs.YtmgnbgniikjhdaaGreat
