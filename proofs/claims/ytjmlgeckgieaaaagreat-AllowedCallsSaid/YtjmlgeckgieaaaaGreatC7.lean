import Derived.Test.YtjmlgeckgieaaaaGreatS33
/-
  CHANGES: what a tree's entries tell of a change.
-/
set_option linter.unusedVariables false
set_option linter.unusedSimpArgs false
namespace Go.Proofs.YtjmlgeckgieaaaaGreat
open Go.Ab
set_option maxRecDepth 8000
set_option maxHeartbeats 400000
theorem list_one {α:Type} {l:List α} {x:α} (hn:l.Nodup) (h:∀z,z∈l↔z=x):l=[x]:=by
 match l,hn,h with
 | [], _,h=>exact absurd ((h x).2 rfl) (by simp)
 | [a], _,h=>rw [(h a).1 (by simp)]
 | a::b::r,hn,h=>
  have ha:=(h a).1 (by simp)
  have hb:=(h b).1 (by simp)
  rw [List.nodup_cons] at hn
  exact absurd (by rw [ha,←hb];simp) hn.1
theorem list_two {α:Type} {l:List α} {x y:α} (hn:l.Nodup) (hxy:x≠y) (h:∀z,z∈l↔z=x∨z=y):l=[x,y]∨l=[y,x]:=by
 match l,hn,h with
 | [], _,h=>exact absurd ((h x).2 (.inl rfl)) (by simp)
 | [a], _,h=>
  have hx:=(h x).2 (.inl rfl)
  have hy:=(h y).2 (.inr rfl)
  rw [List.mem_singleton] at hx hy
  exact absurd (hx.trans hy.symm) hxy
 | [a,b],hn,h=>
  have hab:a≠b:=by simp at hn;exact hn
  rcases (h a).1 (by simp) with rfl | rfl
  ·
   rcases (h b).1 (by simp) with rfl | rfl
   · exact absurd rfl hab
   · exact .inl rfl
  ·
   rcases (h b).1 (by simp) with rfl | rfl
   · exact .inr rfl
   · exact absurd rfl hab
 | a::b::c::r,hn,h=>
  exfalso
  simp only [List.nodup_cons,List.mem_cons,not_or] at hn
  obtain ⟨⟨n1,n2, _⟩,⟨n3, _⟩, _⟩:=hn
  rcases (h a).1 (by simp) with e1 | e1<;>rcases (h b).1 (by simp) with e2 | e2<;>rcases (h c).1 (by simp) with e3 | e3<;>first | exact n1 (e1.trans e2.symm) | exact n2 (e1.trans e3.symm) | exact n3 (e2.trans e3.symm)
theorem mem_b {A B:Tab} {f:Nat} (hf:f<4) {i:Int}:i∈(dfN A B 24).b f↔(1≤i∧i≤24)∧fate A B i=f:=by
 rw [dfN_b A B hf]
 simp only [List.mem_map,List.mem_filter,List.mem_range,decide_eq_true_eq]
 constructor
 · rintro ⟨j,⟨hj,hf⟩,rfl⟩;exact ⟨by omega,hf⟩
 ·
  rintro ⟨h,hf⟩
  exact ⟨(i - 1).toNat,⟨by omega,by rw [show (((i - 1).toNat:Nat):Int)+1=i by omega];exact hf⟩,by omega⟩
theorem mem_less {d:Int} {l o:List En} {z:Ey}:z∈lessF d l o↔z.1=d∧z.2∈l∧z.2∉o:=by
 unfold lessF
 simp only [List.mem_map,List.mem_filter,Bool.not_eq_true',List.any_eq_false,decide_eq_true_eq]
 constructor
 · rintro ⟨e,⟨h1,h2⟩,rfl⟩;exact ⟨rfl,h1,fun h=>h2 e h rfl⟩
 · rintro ⟨rfl,h1,h2⟩;exact ⟨z.2,⟨h1,fun y hy e=>h2 (e▸hy)⟩,rfl⟩
theorem mem_lost {A B:Tab} {z:Ey}:z∈(dfN A B 24).lost↔(1≤z.1∧z.1≤24)∧fate A B z.1=2∧z.2∈(A.get z.1).1.ents∧z.2∉(B.get z.1).1.ents:=by
 rw [dfN_lost,List.mem_flatMap]
 constructor
 ·
  rintro ⟨j,hj,h⟩
  have hj:=List.mem_range.1 hj
  unfold lostAt at h
  split at h
  ·
   rename_i hf
   obtain ⟨h1,h2,h3⟩:=mem_less.1 h
   rw [h1];exact ⟨by omega,hf,h2,h3⟩
  · cases h
 ·
  rintro ⟨h1,h2,h3,h4⟩
  have e:(((z.1 - 1).toNat:Nat):Int)+1=z.1:=by omega
  refine ⟨(z.1 - 1).toNat,List.mem_range.2 (by omega),?_⟩
  rw [e];unfold lostAt;rw [if_pos h2]
  exact mem_less.2 ⟨rfl,h3,h4⟩
theorem mem_won {A B:Tab} {z:Ey}:z∈(dfN A B 24).won↔(1≤z.1∧z.1≤24)∧fate A B z.1=2∧z.2∈(B.get z.1).1.ents∧z.2∉(A.get z.1).1.ents:=by
 rw [dfN_won,List.mem_flatMap]
 constructor
 ·
  rintro ⟨j,hj,h⟩
  have hj:=List.mem_range.1 hj
  unfold wonAt at h
  split at h
  ·
   rename_i hf
   obtain ⟨h1,h2,h3⟩:=mem_less.1 h
   rw [h1];exact ⟨by omega,hf,h2,h3⟩
  · cases h
 ·
  rintro ⟨h1,h2,h3,h4⟩
  have e:(((z.1 - 1).toNat:Nat):Int)+1=z.1:=by omega
  refine ⟨(z.1 - 1).toNat,List.mem_range.2 (by omega),?_⟩
  rw [e];unfold wonAt;rw [if_pos h2]
  exact mem_less.2 ⟨rfl,h3,h4⟩
theorem nodup_b (A B:Tab) {f:Nat} (hf:f<4):((dfN A B 24).b f).Nodup:=by
 rw [dfN_b A B hf]
 exact List.Pairwise.map (R:=fun a b:Nat=>a≠b) _ (fun a b h=>by show (a:Int)+1≠(b:Int)+1;omega) (List.Pairwise.filter _ List.nodup_range)
theorem ris_nodup {l:List En} (h:RisP l):l.Nodup:=List.Pairwise.imp (fun {a b} h e=>by
 subst e
 have:=bl_asym _ _ h;rw [h] at this;cases this) h
theorem nodup_flat {f:Nat→List Ey} (h1:∀j,(f j).Nodup) (h2:∀j,∀z∈f j,z.1=(j:Int)+1) (n:Nat):((List.range n).flatMap f).Nodup:=by
 induction n with
 | zero=>exact List.Pairwise.nil
 | succ n ih=>
  rw [List.range_succ,List.flatMap_append,List.nodup_append]
  refine ⟨ih,by simpa using h1 n,fun a ha b hb e=>?_⟩
  obtain ⟨j,hj,hz⟩:=List.mem_flatMap.1 ha
  have hj:=List.mem_range.1 hj
  have:=h2 j a hz
  have hb':b∈f n:=by simpa using hb
  have:=h2 n b hb'
  rw [←e] at this
  omega
theorem ents_ris {T:Tab} (hT:Gd T) (i:Int):RisP (T.get i).1.ents:=by
 by_cases hk:(T.get i).1.kind=0
 ·
  have:(T.get i).2=false:=by rw [get_kind hT.1,hk];rfl
  rw [get_none this];exact List.Pairwise.nil
 · exact (risP_of (hT.2.kind hk)).1
theorem nodup_less {d:Int} {l o:List En} (h:l.Nodup):(lessF d l o).Nodup:=
 List.Pairwise.map (R:=fun a b:En=>a≠b) _ (fun a b h e=>h (congrArg Prod.snd e)) (List.Pairwise.filter _ h)
theorem nodup_lost {A:Tab} (B:Tab) (hA:Gd A):(dfN A B 24).lost.Nodup:=by
 rw [dfN_lost]
 refine nodup_flat (fun j=>?_) (fun j z hz=>?_) 24
 ·
  unfold lostAt;split
  · exact nodup_less (ris_nodup (ents_ris hA _))
  · exact List.Pairwise.nil
 ·
  unfold lostAt at hz;split at hz
  · exact (mem_less.1 hz).1
  · cases hz
theorem nodup_won {B:Tab} (A:Tab) (hB:Gd B):(dfN A B 24).won.Nodup:=by
 rw [dfN_won]
 refine nodup_flat (fun j=>?_) (fun j z hz=>?_) 24
 ·
  unfold wonAt;split
  · exact nodup_less (ris_nodup (ents_ris hB _))
  · exact List.Pairwise.nil
 ·
  unfold wonAt at hz;split at hz
  · exact (mem_less.1 hz).1
  · cases hz
structure Upd (A B:Tab) (G N:Int→Prop):Prop where
 keep:∀i,¬G i→¬N i→(B.get i).2=(A.get i).2∧(B.get i).1=nWith (A.get i).1 (B.get i).1.ents
 gone:∀i,G i→(A.get i).2=true∧(B.get i).2=false∧(A.get i).1.ents=[]
 new:∀i,N i→(A.get i).2=false∧(B.get i).2=true∧(B.get i).1.ents=[]
section
variable {A B:Tab} {G N:Int→Prop}
theorem Upd.fate (hA:Gd A) (hB:Gd B) (h:Upd A B G N) (i:Int):(N i∧fate A B i=0)∨(G i∧fate A B i=1)∨(¬G i∧¬N i∧(A.get i).1.ents≠(B.get i).1.ents∧fate A B i=2)∨(¬G i∧¬N i∧(A.get i).1.ents=(B.get i).1.ents∧fate A B i=4):=by
 have kA:=get_kind hA.1 i
 have kB:=get_kind hB.1 i
 by_cases hN:N i
 ·
  obtain ⟨h1,h2, _⟩:=h.new i hN
  refine .inl ⟨hN,?_⟩
  have hne:(A.get i).1≠(B.get i).1:=fun e=>by rw [e,←kB,h2,h1] at kA;cases kA
  unfold Proofs.YtjmlgeckgieaaaaGreat.fate
  rw [same_no hne,h1];rfl
 ·
  by_cases hG:G i
  ·
   obtain ⟨h1,h2, _⟩:=h.gone i hG
   refine .inr (.inl ⟨hG,?_⟩)
   have hne:(A.get i).1≠(B.get i).1:=fun e=>by rw [e,←kB,h2,h1] at kA;cases kA
   unfold Proofs.YtjmlgeckgieaaaaGreat.fate
   rw [same_no hne,h1,h2];rfl
  ·
   obtain ⟨h1,h2⟩:=h.keep i hG hN
   by_cases he:(A.get i).1.ents=(B.get i).1.ents
   ·
    refine .inr (.inr (.inr ⟨hG,hN,he,fate_4 ?_⟩))
    rw [h2,←he];rfl
   ·
    refine .inr (.inr (.inl ⟨hG,hN,he,?_⟩))
    have hne:(A.get i).1≠(B.get i).1:=fun e=>he (by rw [e])
    have hkk:(B.get i).1.kind=(A.get i).1.kind:=by rw [h2];rfl
    have hk2:(A.get i).1.kind=2:=by
     cases ha:(A.get i).1.ents with
     | cons e l=>exact ent_dir hA (d:=i) (e:=e) (by unfold Ent;rw [ha];simp)
     | nil=>
      cases hb:(B.get i).1.ents with
      | nil=>exact absurd (ha.trans hb.symm) he
      | cons e l=>rw [←hkk];exact ent_dir hB (d:=i) (e:=e) (by unfold Ent;rw [hb];simp)
    have ha2:(A.get i).2=true:=by rw [kA,hk2];rfl
    unfold Proofs.YtjmlgeckgieaaaaGreat.fate
    rw [same_no hne,h1,ha2,hk2,same_iff.2 (show nEnts (A.get i).1 (B.get i).1=(B.get i).1 from h2.symm)];rfl
theorem Upd.lost (hA:Gd A) (hB:Gd B) (h:Upd A B G N) (z:Ey):z∈(dfN A B 24).lost↔Ent A z.1 z.2∧¬Ent B z.1 z.2:=by
 rw [mem_lost]
 constructor
 · rintro ⟨_, _,h1,h2⟩;exact ⟨h1,h2⟩
 ·
  rintro ⟨h1,h2⟩
  have hr:=ent_room hA.1 h1
  have hm:=hA.1.hi
  refine ⟨by omega,?_,h1,h2⟩
  rcases h.fate hA hB z.1 with k | k | k | k
  ·
   have:=(h.new _ k.1).1
   rw [ents_is h1] at this;cases this
  ·
   have:=(h.gone _ k.1).2.2
   unfold Ent at h1;rw [this] at h1;cases h1
  · exact k.2.2.2
  · exact absurd (by unfold Ent at h1 ⊢;rw [←k.2.2.1];exact h1) h2
theorem Upd.won (hA:Gd A) (hB:Gd B) (h:Upd A B G N) (z:Ey):z∈(dfN A B 24).won↔Ent B z.1 z.2∧¬Ent A z.1 z.2:=by
 rw [mem_won]
 constructor
 · rintro ⟨_, _,h1,h2⟩;exact ⟨h1,h2⟩
 ·
  rintro ⟨h1,h2⟩
  have hr:=ent_room hB.1 h1
  have hm:=hB.1.hi
  refine ⟨by omega,?_,h1,h2⟩
  rcases h.fate hA hB z.1 with k | k | k | k
  ·
   have:=(h.new _ k.1).2.2
   unfold Ent at h1;rw [this] at h1;cases h1
  ·
   have:=(h.gone _ k.1).2.1
   rw [ents_is h1] at this;cases this
  · exact k.2.2.2
  · exact absurd (by unfold Ent at h1 ⊢;rw [k.2.2.1];exact h1) h2
theorem Upd.b3 (hA:Gd A) (hB:Gd B) (h:Upd A B G N):(dfN A B 24).b 3=[]:=b_none (by decide) fun i=>by
 rcases h.fate hA hB i with k | k | k | k<;>omega
theorem Upd.b0 (hA:Gd A) (hB:Gd B) (h:Upd A B G fun _=>False):(dfN A B 24).b 0=[]:=b_none (by decide) fun i=>by
 rcases h.fate hA hB i with k | k | k | k
 · exact k.1.elim
 all_goals omega
theorem Upd.b1 (hA:Gd A) (hB:Gd B) (h:Upd A B (fun _=>False) N):(dfN A B 24).b 1=[]:=b_none (by decide) fun i=>by
 rcases h.fate hA hB i with k | k | k | k
 · omega
 · exact k.1.elim
 all_goals omega
theorem get_24 (hA:Gd A) {k:Int} (hk:(A.get k).2=true):1≤k∧k≤24:=by
 obtain ⟨j, _,hj,hr⟩:=get_isat hk
 have:=hA.1.hi
 omega
theorem Upd.b0k (hA:Gd A) (hB:Gd B) {k:Int} (h:Upd A B G (· = k)):(dfN A B 24).b 0=[k]:=by
 refine list_one (nodup_b A B (by decide)) fun z=>?_
 rw [mem_b (by decide)]
 constructor
 ·
  rintro ⟨_,hz⟩
  rcases h.fate hA hB z with q | q | q | q
  · exact q.1
  all_goals omega
 ·
  rintro rfl
  refine ⟨get_24 hB (h.new z rfl).2.1,?_⟩
  rcases h.fate hA hB z with q | q | q | q
  · exact q.2
  · have h1:=(h.new z rfl).1;rw [(h.gone z q.1).1] at h1;cases h1
  · exact absurd rfl q.2.1
  · exact absurd rfl q.2.1
theorem Upd.b1k (hA:Gd A) (hB:Gd B) {k:Int} (h:Upd A B (· = k) N):(dfN A B 24).b 1=[k]:=by
 refine list_one (nodup_b A B (by decide)) fun z=>?_
 rw [mem_b (by decide)]
 constructor
 ·
  rintro ⟨_,hz⟩
  rcases h.fate hA hB z with q | q | q | q
  · omega
  · exact q.1
  all_goals omega
 ·
  rintro rfl
  refine ⟨get_24 hA (h.gone z rfl).1,?_⟩
  rcases h.fate hA hB z with q | q | q | q
  · have h1:=(h.gone z rfl).1;rw [(h.new z q.1).1] at h1;cases h1
  · exact q.2
  · exact absurd rfl q.1
  · exact absurd rfl q.1
end
theorem ents_lost {A B:Tab} {w:Ey} (h:w∈(dfN A B 24).lost):(dfN A B 24).b 2≠[]:=fun e=>by
 have:=mem_lost.1 h
 have h2:w.1∈(dfN A B 24).b 2:=(mem_b (by decide)).2 ⟨this.1,this.2.1⟩
 rw [e] at h2;cases h2
theorem len_pos {α:Type} {l:List α} (h:l≠[]):(0:Int)<l.length:=by
 cases l with
 | nil=>exact absurd rfl h
 | cons x l=>rw [List.length_cons];omega
section
variable {A B:Tab}
theorem chOf_make {k d:Int} {s:List UInt8} (h0:(dfN A B 24).b 0=[k]) (h1:(dfN A B 24).b 1=[]) (h3:(dfN A B 24).b 3=[]) (hl:(dfN A B 24).lost=[]) (hw:(dfN A B 24).won=[(d,s,k)]):chOf A B=⟨3,k,d,s,0,[],0⟩:=by
 have hs:sumI (dfN A B 24) 4≠0:=by simp only [sumI,h0,List.length_singleton];omega
 unfold chOf chF
 rw [decide_eq_false hs,h0,h1,h3,hl,hw]
 simp [ownK]
theorem chOf_take {d n:Int} {s:List UInt8} (h0:(dfN A B 24).b 0=[]) (h1:(dfN A B 24).b 1=[]∨(dfN A B 24).b 1=[n]) (h3:(dfN A B 24).b 3=[]) (hl:(dfN A B 24).lost=[(d,s,n)]) (hw:(dfN A B 24).won=[]):chOf A B=⟨4,n,d,s,0,[],0⟩:=by
 have h2:=len_pos (ents_lost (A:=A) (B:=B) (w:=(d,s,n)) (by rw [hl];simp))
 have hs:sumI (dfN A B 24) 4≠0:=by simp only [sumI];omega
 have ho:ownK ((dfN A B 24).b 1) [(dfN A B 24).b 2]=false:=by
  unfold ownK
  simp only [List.any_cons,List.any_nil,decide_eq_true h2,Bool.true_or,Bool.not_true,Bool.and_false]
 unfold chOf chF
 rw [decide_eq_false hs,h0,h3,ho,hl,hw]
 rcases h1 with h1 | h1<;>rw [h1]<;>simp [ownK]
theorem moved_two {D:Df} {dp np dq nq:Int} {sp sq:List UInt8} (hw:D.won=[(dq,sq,np)]) (hl:D.lost=[(dp,sp,np),(dq,sq,nq)]∨D.lost=[(dq,sq,nq),(dp,sp,np)]) (hn:nq≠np) (hq:nq≠0) (hd:dp≠0) (hg:D.b 1=[]∨D.b 1=[nq]):movedF D=⟨5,np,dp,sp,dq,sq,nq⟩:=by
 have e1:stepM (dq,sq,np) (m0 (dq,sq,np)) (dp,sp,np)=some ⟨5,np,dp,sp,dq,sq,0⟩:=by
  unfold stepM m0;simp
 have e2:stepM (dq,sq,np) ⟨5,np,dp,sp,dq,sq,0⟩ (dq,sq,nq)=some ⟨5,np,dp,sp,dq,sq,nq⟩:=by
  unfold stepM;simp [hn]
 have e3:stepM (dq,sq,np) (m0 (dq,sq,np)) (dq,sq,nq)=some ⟨5,np,0,[],dq,sq,nq⟩:=by
  unfold stepM m0;simp [hn]
 have e4:stepM (dq,sq,np) ⟨5,np,0,[],dq,sq,nq⟩ (dp,sp,np)=some ⟨5,np,dp,sp,dq,sq,nq⟩:=by
  unfold stepM;simp
 have key:loopM (dq,sq,np) D.lost (m0 (dq,sq,np))=some ⟨5,np,dp,sp,dq,sq,nq⟩:=by
  rcases hl with hl | hl
  · rw [hl];simp only [loopM,e1,e2]
  · rw [hl];simp only [loopM,e3,e4]
 unfold movedF
 rw [hw]
 simp only [List.getD_cons_zero,key]
 rcases hg with hg | hg<;>rw [hg]<;>simp [ownK,hd,hq]
theorem chOf_move {np dq:Int} {sq:List UInt8} {m:Ch} (h0:(dfN A B 24).b 0=[]) (h3:(dfN A B 24).b 3=[]) (hw:(dfN A B 24).won=[(dq,sq,np)]) (hm:movedF (dfN A B 24)=m):chOf A B=m:=by
 have h2:=len_pos (ents_won (A:=A) (B:=B) (w:=(dq,sq,np)) (by rw [hw];simp))
 have hs:sumI (dfN A B 24) 4≠0:=by simp only [sumI];omega
 have ho:ownK ((dfN A B 24).b 1) [(dfN A B 24).b 2]=false:=by
  unfold ownK
  simp only [List.any_cons,List.any_nil,decide_eq_true h2,Bool.true_or,Bool.not_true,Bool.and_false]
 unfold chOf chF
 rw [decide_eq_false hs,h0,h3,ho,hw,hm]
 simp
end
end Go.Proofs.YtjmlgeckgieaaaaGreat
