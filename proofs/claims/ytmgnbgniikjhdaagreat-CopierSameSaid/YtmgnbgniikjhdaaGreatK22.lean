import Derived.Test.YtmgnbgniikjhdaaGreatK18
/-
  PATHS, for root, while a tree grows.
-/
set_option linter.unusedVariables false
set_option linter.unusedSimpArgs false
namespace Go.Proofs.YtmgnbgniikjhdaaGreat
open Go.Ab
set_option maxRecDepth 8000
set_option maxHeartbeats 400000
section
variable {T U:Tab} {c:Cr} {o:List Int}
structure Mor (T U:Tab):Prop where
 kd:∀i,(T.get i).2=true→(U.get i).2=true∧(U.get i).1.kind=(T.get i).1.kind∧(U.get i).1.target=(T.get i).1.target
 fi:∀i s,findF (T.get i).1 s≠0→findF (U.get i).1 s=findF (T.get i).1 s
 nw:∀i s,findF (T.get i).1 s=0→(U.get (findF (U.get i).1 s)).1.kind≠3
 pa:∀i,(T.get i).1.kind=2→U.parent i=T.parent i
theorem find_mem {n:Nd} (h:rightF n=true) {s:List UInt8} (hz:findF n s≠0):(s,findF n s)∈n.ents:=by
 rcases findF_pos h (s:=s) with ⟨h1, _⟩ | ⟨_, _,h3⟩
 · exact absurd h1 hz
 · exact h3
theorem find_ent0 (hT:Gd T) {i:Int} {s:List UInt8} (hz:findF (T.get i).1 s≠0):Ent T i (s,findF (T.get i).1 s):=by
 cases hi:(T.get i).2 with
 | true=>exact find_mem (hT.2.get hi) hz
 | false=>rw [get_no' hi] at hz;exact absurd (show findF nd0 s=0 from by rfl) hz
theorem find_of (hT:Gd T) {i:Int} {s:List UInt8} {y:Int} (he:Ent T i (s,y)):findF (T.get i).1 s=y:=by
 have hi:=get_kind_at (T:=T) (i:=i) (by rw [ent_dir hT he];decide)
 have hr:=hT.2.get hi
 rcases findF_pos hr (s:=s) with ⟨h1,h2⟩ | ⟨_, _,h3⟩
 · exact absurd rfl (idx_none h2 _ he)
 ·
  have:=ent_name hT (d:=i) (e:=(s,findF (T.get i).1 s)) (e':=(s,y)) h3 he rfl
  exact congrArg Prod.snd this
theorem Mor.of (hT:Gd T) (hU:Gd U) (hW:TreeW T o []) {o':List Int} (hV:TreeW U o' []) (hk:∀i,(T.get i).2=true→(U.get i).2=true∧(U.get i).1.kind=(T.get i).1.kind∧(U.get i).1.target=(T.get i).1.target)
 (he:∀d e,Ent T d e→Ent U d e) (hn:∀d e,Ent U d e→Ent T d e∨((T.get e.2).2=false∧(U.get e.2).1.kind≠3)):Mor T U where
 kd:=hk
 fi:=fun i s hz=>find_of hU (he _ _ (find_ent0 hT hz))
 nw:=fun i s hz=>by
  by_cases hy:findF (U.get i).1 s=0
  · rw [hy,get_zero];decide
  ·
   rcases hn _ _ (find_ent0 hU hy) with h | h
   ·
    have:=find_of hT h
    rw [this] at hz;exact absurd hz hy
   · exact h.2
 pa:=fun i hi=>by
  have hi2:=get_kind_at (T:=T) (i:=i) (by rw [hi];decide)
  by_cases hp:T.parent i=0
  ·
   rw [hp]
   apply Classical.byContradiction
   intro hq
   obtain ⟨e,h1,h2⟩:=par_pos hU.1 hq
   rcases hn _ _ h1 with h | h
   ·
    have:=hW.par hT h (by rw [h2];exact hi)
    rw [h2,hp] at this
    have hz:=ent_dir hT h
    rw [←this,get_zero] at hz;cases hz
   · rw [h2,hi2] at h;cases h.1
  ·
   obtain ⟨e,h1,h2⟩:=par_pos hT.1 hp
   have:=hV.par hU (he _ _ h1) (by rw [h2,(hk i hi2).2.1];exact hi)
   rw [h2] at this;exact this
theorem can0 (hc:c.uid=0) (i w:Int):canT c T i w=(T.get i).2:=by
 unfold canT canF;rw [decide_eq_true hc,Bool.true_or,Bool.and_true]
theorem resL_mor (hc:c.uid=0) (hT:Gd T) (hW:TreeW T o []) (m:Mor T U):∀(n:Nat) (i k:Int) (l:List (List UInt8)) (d:Int) (s:List UInt8) (x:Int),(T.get i).2=true→resL T c true n i k l=((d,s,x),0) →
 (x≠0→resL U c true n i k l=((d,s,x),0))∧(x=0→s≠[]→resL U c true n i k l=((d,s,findF (U.get d).1 s),0))
 | 0,i,k,l,d,s,x,hi,h=>by cases h;exact ⟨fun h=>absurd rfl h,fun _ h=>absurd rfl h⟩
 | n+1,i,k,[],d,s,x,hi,h=>by cases h;exact ⟨fun _=>rfl,fun _ h=>absurd rfl h⟩
 | n+1,i,k,t::l,d,s,x,hi,h=>by
  obtain ⟨u1,u2,u3⟩:=m.kd i hi
  rw [resL_cons] at h
  have hfo:∀e:Int,e≠0→fo e≠((d,s,x),0):=fun e he hh=>he (congrArg Prod.snd hh)
  by_cases h1:(T.get i).1.kind≠2
  · rw [if_pos h1] at h;exact absurd h (hfo _ (by decide))
  rw [if_neg h1,if_neg (by rw [can0 hc,hi];decide)] at h
  have hk2:=Classical.not_not.1 h1
  rw [resL_cons,if_neg (by rw [u2];exact h1),if_neg (by rw [can0 hc,u1];decide)]
  by_cases h3:t=[46]
  · rw [if_pos h3] at h ⊢;exact resL_mor hc hT hW m n i k l d s x hi h
  rw [if_neg h3] at h ⊢
  by_cases h4:t=[46,46]
  ·
   rw [if_pos h4] at h ⊢
   rw [m.pa i hk2]
   refine resL_mor hc hT hW m n _ k l d s x ?_ h
   split
   ·
    rename_i hp
    obtain ⟨e,he, _⟩:=par_pos hT.1 hp
    exact get_kind_at (by rw [ent_dir hT he];decide)
   · exact hi
  rw [if_neg h4] at h ⊢
  by_cases h5:(12:Int)<t.length
  · rw [if_pos h5] at h;exact absurd h (hfo _ (by decide))
  rw [if_neg h5] at h ⊢
  by_cases hz:findF (T.get i).1 t=0
  ·
   by_cases h6:(0:Int)<l.length
   · rw [if_pos ⟨hz,h6⟩] at h;exact absurd h (hfo _ (by decide))
   have hl:(l.length:Int)=0:=by omega
   rw [if_neg (fun hh=>h6 hh.2),if_neg (by rw [hz,get_zero];exact fun hh=>absurd hh.1 (by decide)),if_pos hl] at h
   rw [if_neg (fun hh=>h6 hh.2),if_neg (fun hh=>m.nw i t hz hh.1),if_pos hl]
   rw [hz] at h
   cases h
   exact ⟨fun hh=>absurd rfl hh,fun _ _=>rfl⟩
  ·
   have hf:=m.fi i t hz
   have hy:=hW.kid i _ (find_ent0 hT hz)
   obtain ⟨v1,v2,v3⟩:=m.kd _ hy
   rw [hf]
   rw [if_neg (fun hh=>hz hh.1)] at h ⊢
   dsimp only at v2 v3
   rw [v2,v3]
   by_cases h7:(T.get (findF (T.get i).1 t)).1.kind=3∧(true=true∨(0:Int)<l.length)
   ·
    rw [if_pos h7] at h ⊢
    by_cases h8:k=8
    · rw [if_pos h8] at h;exact absurd h (hfo _ (by decide))
    rw [if_neg h8] at h ⊢
    refine resL_mor hc hT hW m n _ _ _ d s x ?_ h
    split
    · exact get_kind_at (by rw [hW.root];decide)
    · exact hi
   rw [if_neg h7] at h ⊢
   by_cases h9:(l.length:Int)=0
   ·
    rw [if_pos h9] at h ⊢
    cases h
    exact ⟨fun _=>rfl,fun hh=>absurd hh hz⟩
   ·
    rw [if_neg h9] at h ⊢
    exact resL_mor hc hT hW m n _ k l d s x hy h
theorem resF_mor (hc:c.uid=0) (hT:Gd T) (hW:TreeW T o []) (m:Mor T U) {p:List UInt8} {d:Int} {s:List UInt8} {x:Int} (h:resF T c p true=((d,s,x),0)):(x≠0→resF U c p true=((d,s,x),0))∧(x=0→s≠[]→resF U c p true=((d,s,findF (U.get d).1 s),0)):=by
 have h1:(T.get 1).2=true:=get_kind_at (by rw [hW.root];decide)
 have hf:fitE U p=fitE T p:=by unfold fitE;rw [h1,(m.kd 1 h1).1]
 unfold resF at h ⊢
 rw [hf]
 by_cases hz:fitE T p≠0
 ·
  rw [if_pos hz] at h
  exact absurd (congrArg Prod.snd h) hz
 ·
  rw [if_neg hz] at h ⊢
  exact resL_mor hc hT hW m _ _ _ _ d s x h1 h
theorem stat_mor (hc:c.uid=0) (hT:Gd T) (hW:TreeW T o []) (m:Mor T U) {p:List UInt8} (h:(statF T c p true).2=0):(statF U c p true).2=0∧(statF U c p true).1.node=(statF T c p true).1.node∧(statF U c p true).1.kind=(statF T c p true).1.kind:=by
 unfold statF at h ⊢
 split at h
 · rename_i h1;exact absurd h h1
 rename_i h1
 rw [if_neg h1]
 split at h
 ·
  rename_i h2
  rw [if_pos h2]
  generalize hr:resF T c p true=r at h1 h2 ⊢
  obtain ⟨⟨d,s,x⟩,e⟩:=r
  have he:e=0:=Classical.not_not.1 h1
  subst he
  dsimp only at h2 ⊢
  have hx:x≠0:=fun e=>by rw [e,get_zero] at h2;cases h2
  rw [(resF_mor hc hT hW m hr).1 hx]
  obtain ⟨v1,v2, _⟩:=m.kd x h2
  rw [if_neg (fun h=>h rfl),if_pos v1]
  unfold staF
  rw [if_pos v1,if_pos h2]
  exact ⟨rfl,rfl,v2⟩
 · cases h
end
end Go.Proofs.YtmgnbgniikjhdaaGreat
