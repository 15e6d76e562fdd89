import Derived.Test.YtmgnbgniikjhdaaGreatK17
/-
  CP: what it can't do, run to its end.
-/
set_option linter.unusedVariables false
set_option linter.unusedSimpArgs false
namespace Go.Proofs.YtmgnbgniikjhdaaGreat
open Go.Ab
set_option maxRecDepth 8000
set_option maxHeartbeats 400000
section
variable {W T:Tab} {c:Cr} {any:Prop} {o:List Int}
theorem get_zero (T:Tab):T.get 0=(nd0,false):=get_no (by unfold Tab.at;rw [if_neg (by omega)])
theorem resL_nolink (hT:Gd T) (hW:TreeW T o []):∀(n:Nat) (i k:Int) (l:List (List UInt8)),(T.get i).1.kind≠3→(T.get (resL T c true n i k l).1.2.2).1.kind≠3
 | 0,i,k,l,hi=>by show (T.get 0).1.kind≠3;rw [get_zero];decide
 | n+1,i,k,[],hi=>hi
 | n+1,i,k,s::l,hi=>by
  have h0:∀e:Int,(T.get (fo e).1.2.2).1.kind≠3:=fun e=>by show (T.get 0).1.kind≠3;rw [get_zero];decide
  rw [resL_cons]
  split
  · exact h0 _
  split
  · exact h0 _
  split
  · exact resL_nolink hT hW n i k l hi
  split
  ·
   refine resL_nolink hT hW n _ k l ?_
   split
   ·
    rename_i hp
    obtain ⟨e,he, _⟩:=par_pos hT.1 hp
    rw [ent_dir hT he];decide
   · exact hi
  split
  · exact h0 _
  split
  · exact h0 _
  split
  ·
   split
   · exact h0 _
   ·
    refine resL_nolink hT hW n _ _ _ ?_
    split
    · rw [hW.root];decide
    · exact hi
  rename_i hl
  have hk:(T.get (findF (T.get i).1 s)).1.kind≠3:=fun e=>hl ⟨e,.inl rfl⟩
  split
  · exact hk
  · exact resL_nolink hT hW n _ k l hk
theorem stat_ok (hT:Gd T) (hW:TreeW T o []) {p:List UInt8} (h:(statF T c p true).2=0):∃i,(T.get i).2=true∧(T.get i).1.kind≠3∧(statF T c p true).1=⟨i,(T.get i).1.kind,(T.get i).1.mode,(T.get i).1.uid,(T.get i).1.gid,T.links i,sizeF (T.get i).1⟩:=by
 unfold statF at h ⊢
 split at h
 · rename_i h1;exact absurd h h1
 rename_i h1
 rw [if_neg h1]
 split at h
 ·
  rename_i h2
  rw [if_pos h2]
  refine ⟨_,h2,?_,by unfold staF;rw [if_pos h2]⟩
  unfold resF at h1 ⊢
  split at h1
  · rename_i h3;exact absurd h3 h1
  · rename_i h3;rw [if_neg h3];exact resL_nolink hT hW _ _ _ _ (by rw [hW.root];decide)
 · cases h
def Qs (any:Prop) (c:Cr) (s:Sta):Prop:=s.kind=1∧0≤s.uid∧(0≤s.mode∧s.mode≤4095)∧(suB s.mode→s.uid=c.uid→any)
def SfJ (any:Prop) (c:Cr) (m:Cm) (r:Rs):Prop:=match m.nx with
 | 3=>r.err=0→r.st.kind≠2→Qs any c r.st
 | 4=>Qs any c m.s
 | 5=>Qs any c m.s
 | 6=>Qs any c m.s∧(r.err=0→m.s.uid=c.uid)
 | _=>True
theorem one_do {P:Pr} (k:Ca):doF T [P] 0 k=((stepF T [P] 0 P k).1,(stepF T [P] 0 P k).2.1,[(stepF T [P] 0 P k).2.2]):=by
 unfold doF;rw [if_pos ⟨by decide,by simp⟩];rfl
theorem Sf.stat {ps:List Pr} (hS:Sf W c any T ps) (ha:∀i,(W.get i).1.kind=1→suB (W.get i).1.mode→(W.get i).1.uid=c.uid→any) (p:List UInt8) (h:(doF T ps 0 ⟨1,p,[],0,0,[]⟩).1.err=0) (hk:(doF T ps 0 ⟨1,p,[],0,0,[]⟩).1.st.kind≠2):Qs any c (doF T ps 0 ⟨1,p,[],0,0,[]⟩).1.st:=by
 obtain ⟨P,rfl,hP⟩:=hS.pr
 have e:(doF T [P] 0 ⟨1,p,[],0,0,[]⟩).1=⟨(statF T c p true).2,0,(statF T c p true).1,[],[],[]⟩:=by
  rw [one_do]
  show (stepF T [P] 0 P ⟨1,p,[],0,0,[]⟩).1=_
  unfold stepF askF
  rw [hP];rfl
 rw [e] at h hk ⊢
 obtain ⟨i,hi,h3,hs⟩:=stat_ok hS.gd hS.tr h
 have hr:=hS.gd.2.get hi
 dsimp only at hk ⊢
 rw [hs] at hk ⊢
 have hk1:(T.get i).1.kind=1:=by
  rcases right_cases hr with ⟨_,k | k | k⟩
  · exact k.1
  · exact absurd k.1 hk
  · exact absurd k.1 h3
 refine ⟨hk1,(right_mode hr).2,(right_mode hr).1,fun hm hu=>?_⟩
 dsimp only at hm hu
 cases hw:(W.get i).2 with
 | true=>
  obtain ⟨-,a2,a3⟩:=hS.old i hw
  by_cases hsw:suB (W.get i).1.mode
  · exact ha i (by rw [←a3];exact hk1) hsw (by rw [←a2];exact hu)
  · exact ((hS.set i hk1 hm).1 hsw).2
 | false=>
  refine ((hS.set i hk1 hm).1 ?_).2
  rw [get_no' hw]
  exact fun h=>h (by decide)
theorem src_sf {ps:List Pr} (hS:Sf W c any T ps) (ha:∀i,(W.get i).1.kind=1→suB (W.get i).1.mode→(W.get i).1.uid=c.uid→any) {m:Cm} (hm:(cmSrc m).1.2=true):SafeC any (cmSrc m).1.1∧SfJ any c (cmSrc m).2 (doF T ps 0 (cmSrc m).1.1).1:=by
 unfold cmSrc at hm ⊢
 split at hm
 · cases hm
 ·
  rename_i h
  rw [if_neg h]
  exact ⟨.inl rfl,hS.stat ha _⟩
theorem cp_kinds (x:Cp) (r:Rs):(cpN x r).1.2=false∨(13≤(cpN x r).1.1.kind∧(cpN x r).1.1.kind≤16):=by
 unfold cpN cpFirst cpOpened cpBoth cpGot cpPut cpShut cpEnd cpRead cpB
 repeat' split
 all_goals first | exact .inl rfl | exact .inr (by dsimp only;decide)
theorem cp_safe {x:Cp} {r:Rs} (hm:(cpN x r).1.2=true):SafeC any (cpN x r).1.1:=by
 rcases cp_kinds x r with h | h
 · rw [hm] at h;cases h
 · unfold SafeC;omega
theorem chown_mine {ps:List Pr} (hc:c.uid≠0) (hS:Sf W c any T ps) {p:List UInt8} {u g:Int} (hu:0≤u) (h:(doF T ps 0 ⟨6,p,[],u,g,[]⟩).1.err=0):u=c.uid:=by
 obtain ⟨P,rfl,hP⟩:=hS.pr
 have e:(doF T [P] 0 ⟨6,p,[],u,g,[]⟩).1.err=(chownF T c p u g true).1:=by
  rw [one_do]
  show (stepF T [P] 0 P ⟨6,p,[],u,g,[]⟩).1.err=_
  unfold stepF chaF
  rw [hP];rfl
 rw [e] at h
 unfold chownF at h
 split at h
 · cases h
 unfold chgF at h
 split at h
 · rename_i h1;exact absurd h h1
 split at h
 · cases h
 split at h
 · rename_i h1;exact absurd h h1
 rename_i h1
 have h2:=Classical.not_not.1 h1
 unfold chownG at h2
 generalize T.get (rN T c p true)=n at h2
 cases hb:mayOwn c n.1.uid n.1.gid u g with
 | false=>rw [hb] at h2;cases h2
 | true=>
  simp only [mayOwn,Bool.or_eq_true,Bool.and_eq_true,decide_eq_true_eq] at hb
  rcases hb with hb | ⟨⟨hb,hb2⟩, _⟩
  · exact absurd hb hc
  · omega
theorem copies_sf {ps:List Pr} (hc:c.uid≠0) (hS:Sf W c any T ps) (ha:∀i,(W.get i).1.kind=1→suB (W.get i).1.mode→(W.get i).1.uid=c.uid→any) {m:Cm} {r:Rs} (hq:Qs any c m.s) (hm:(cmCopies m r).1.2=true):SafeC any (cmCopies m r).1.1∧SfJ any c (cmCopies m r).2 (doF T ps 0 (cmCopies m r).1.1).1:=by
 unfold cmCopies at hm ⊢
 dsimp only at hm ⊢
 cases h1:(cpN m.cp r).1.2 with
 | true=>rw [cond_true];exact ⟨cp_safe h1,hq⟩
 | false=>
  rw [h1,cond_false] at hm
  rw [cond_false]
  cases h2:wrF (cpN m.cp r).2 with
  | true=>
   rw [h2,cond_true] at hm
   rw [cond_true]
   exact src_sf hS ha hm
  | false=>
   rw [h2,cond_false] at hm
   rw [cond_false]
   cases h3:m.keep with
   | true=>rw [cond_true];exact ⟨.inr (.inr (.inl rfl)),hq,fun he=>chown_mine hc hS hq.2.1 he⟩
   | false=>
    rw [h3,cond_false] at hm
    rw [cond_false]
    exact src_sf hS ha hm
theorem su_an {m:Int} (h:0≤m∧m≤4095):¬suB (bits .andNot .i64 m 3072):=by
 obtain ⟨a,ha,rfl⟩:=n4096 h
 unfold suB
 rw [su_an_fin ⟨a,ha⟩]
 exact fun h=>h rfl
theorem cm_sf {ps:List Pr} (hc:c.uid≠0) (hS:Sf W c any T ps) (ha:∀i,(W.get i).1.kind=1→suB (W.get i).1.mode→(W.get i).1.uid=c.uid→any) {m:Cm} {r:Rs} (hJ:SfJ any c m r) (hm:(cmN m r).1.2=true):SafeC any (cmN m r).1.1∧SfJ any c (cmN m r).2 (doF T ps 0 (cmN m r).1.1).1:=by
 obtain ⟨dg,keep,into,tgt,left,fr,to,s,cp,nx⟩:=m
 unfold cmN at hm ⊢
 unfold SfJ at hJ
 dsimp only at hm hJ ⊢
 rcases (show nx=0∨nx=1∨nx=2∨nx=3∨nx=4∨nx=5∨nx=6∨7≤nx by omega) with rfl | rfl | rfl | rfl | rfl | rfl | rfl | h7
 · cases hm
 · exact ⟨.inl rfl,trivial⟩
 ·
  simp only [cmAimed] at hm ⊢
  split at hm
  ·
   obtain ⟨k1,k2⟩:=srcM hm
   simp only [List.length_nil,Nat.zero_mul] at k1
   omega
  · rename_i h;rw [if_neg h];exact src_sf hS ha hm
 ·
  simp only [cmLooked] at hm ⊢
  split at hm
  · rename_i h;rw [if_pos h];exact src_sf hS ha hm
  rename_i h1;rw [if_neg h1]
  split at hm
  · rename_i h;rw [if_pos h];exact src_sf hS ha hm
  rename_i h2;rw [if_neg h2]
  exact ⟨.inl rfl,hJ (Classical.not_not.1 h1) h2⟩
 ·
  simp only [cmBegin] at hm ⊢
  split at hm
  · rename_i h;rw [if_pos h];exact src_sf hS ha hm
  · rename_i h;rw [if_neg h];exact copies_sf hc hS ha hJ hm
 · exact copies_sf hc hS ha hJ hm
 ·
  obtain ⟨hq,hu⟩:=hJ
  refine ⟨.inr (.inl ⟨rfl,fun hs=>?_⟩),trivial⟩
  simp only [cmOwned] at hs
  by_cases he:r.err=0
  ·
   rw [if_neg (fun h=>h he)] at hs
   exact hq.2.2.2 hs (hu he)
  ·
   rw [if_pos he] at hs
   exact absurd hs (su_an hq.2.2.1)
 ·
  obtain ⟨n,rfl⟩:∃n,nx=n+7:=⟨nx - 7,by omega⟩
  simp only [cmDone] at hm ⊢
  split at hm
  · rename_i h;rw [if_pos h];exact src_sf hS ha hm
  · rename_i h;rw [if_neg h];exact src_sf hS ha hm
end
end Go.Proofs.YtmgnbgniikjhdaaGreat
