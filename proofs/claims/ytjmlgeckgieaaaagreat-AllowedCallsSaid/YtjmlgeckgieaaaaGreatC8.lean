import Derived.Test.YtjmlgeckgieaaaaGreatC7
/-
  CHANGES: what calls come to.
-/
set_option linter.unusedVariables false
set_option linter.unusedSimpArgs false
namespace Go.Proofs.YtjmlgeckgieaaaaGreat
open Go.Ab
set_option maxRecDepth 8000
set_option maxHeartbeats 400000
def Keep (A B:Tab):Prop:=∀i,(B.get i).2=(A.get i).2∧(B.get i).1=nWith (A.get i).1 (B.get i).1.ents
theorem Keep.refl (A:Tab):Keep A A:=fun i=>⟨rfl,rfl⟩
theorem Keep.trans {A B C:Tab} (h:Keep A B) (k:Keep B C):Keep A C:=fun i=>⟨(k i).1.trans (h i).1,by
 have h2:=(h i).2
 have k2:=(k i).2
 rw [h2] at k2
 exact k2⟩
theorem Keep.cut {T:Tab} (hT:Gd T) (d:Int) (s:List UInt8):Keep T (cutF T d s):=fun i=>by
 rw [cut_get hT]
 split
 ·
  rename_i h
  rw [h.1]
  exact ⟨(get_kind_at (T:=T) (i:=d) (by rw [h.2];decide)).symm,rfl⟩
 · exact ⟨rfl,rfl⟩
theorem Keep.upd {A B:Tab} (h:Keep A B):Upd A B (fun _=>False) (fun _=>False):=⟨fun i _ _=>h i,fun _ h=>h.elim,fun _ h=>h.elim⟩
theorem Keep.drop {A V:Tab} (h:Keep A V) (hV:V.Ok) {n:Int} (hn:(A.get n).2=true) (he:(A.get n).1.ents=[]):Upd A (dropT V n) (· = n) (fun _=>False):=by
 refine ⟨fun i hi _=>?_,fun i hi=>?_,fun _ h=>h.elim⟩
 · rw [drop_get hV,if_neg hi];exact h i
 ·
  subst hi
  rw [drop_get hV,if_pos rfl];exact ⟨hn,rfl,he⟩
theorem drop_ent {V:Tab} (hV:V.Ok) {n:Int} (he:(V.get n).1.ents=[]) (d:Int) (e:En):Ent (dropT V n) d e↔Ent V d e:=by
 unfold Ent
 rw [drop_get hV]
 split
 ·
  rename_i h
  rw [h,he];exact Iff.rfl
 · exact Iff.rfl
theorem freeF_or (V:Tab) (n:Int) (o:List Int):(freeF V n o).2=V∨(freeF V n o).2=dropT V n:=by
 unfold freeF
 split
 · exact .inl rfl
 · exact .inr rfl
theorem ch_sort {A V U:Tab} (hA:Gd A) (hV:Gd V) (hk:Keep A V) {n:Int} (hU:U=V∨(U=dropT V n∧(A.get n).2=true∧(A.get n).1.ents=[]∧(V.get n).1.ents=[])) :
 Gd U∧(∀d e,Ent U d e↔Ent V d e)∧(dfN A U 24).b 0=[]∧(dfN A U 24).b 3=[]∧((dfN A U 24).b 1=[]∨(dfN A U 24).b 1=[n])∧(∀z,z∈(dfN A U 24).lost↔Ent A z.1 z.2∧¬Ent V z.1 z.2)∧(∀z,z∈(dfN A U 24).won↔Ent V z.1 z.2∧¬Ent A z.1 z.2):=by
 rcases hU with rfl | ⟨rfl,hn,he,hv⟩
 ·
  have hu:=hk.upd
  exact ⟨hV,fun _ _=>Iff.rfl,hu.b0 hA hV,hu.b3 hA hV,.inl (hu.b1 hA hV),hu.lost hA hV,hu.won hA hV⟩
 ·
  have hu:=hk.drop hV.1 hn he
  have hUg:=hV.drop n
  have hx:=drop_ent hV.1 hv
  exact ⟨hUg,hx,hu.b0 hA hUg,hu.b3 hA hUg,.inr (hu.b1k hA hUg),fun z=>by rw [hu.lost hA hUg,hx],fun z=>by rw [hu.won hA hUg,hx]⟩
theorem take_ch {T U:Tab} (hT:Gd T) {d n:Int} {s:List UInt8} (he:Ent T d (s,n)) (hnd:n≠d) (hn:(T.get n).2=true) (hne:(T.get n).1.ents=[]) (hU:U=cutF T d s∨U=dropT (cutF T d s) n):chOf T U=⟨4,n,d,s,0,[],0⟩:=by
 have hC:=hT.cut d s
 have hCe:((cutF T d s).get n).1.ents=[]:=by
  rw [cut_get hT,if_neg (fun h=>hnd h.1)];exact hne
 obtain ⟨hUg, _,b0,b3,b1,hl,hw⟩:=ch_sort (U:=U) (n:=n) hT hC (Keep.cut hT d s) (hU.imp id fun h=>⟨h,hn,hne,hCe⟩)
 refine chOf_take b0 b1 b3 (list_one (nodup_lost U hT) fun z=>?_) (List.eq_nil_iff_forall_not_mem.2 fun z hz=>?_)
 ·
  rw [hl,cut_ent hT]
  constructor
  ·
   rintro ⟨h1,h2⟩
   have h3:z.1=d∧z.2.1=s:=Classical.byContradiction fun h=>h2 ⟨h1,fun hd hs=>h ⟨hd,hs⟩⟩
   obtain ⟨z1,z2⟩:=z
   obtain ⟨rfl,h3⟩:=h3
   exact Prod.ext rfl (ent_name hT h1 he h3)
  ·
   rintro rfl
   exact ⟨he,fun h=>h.2 rfl rfl⟩
 ·
  have:=(hw z).1 hz
  exact this.2 ((cut_ent hT _ _ _ _).1 this.1).1
theorem withN_fresh {n:Nd} {s:List UInt8} {id:Int} (h:(withN n s id).2=0):∀e∈n.ents,e.1≠s:=by
 unfold withN at h
 split at h
 · cases h
 cases hb:badN s id with
 | true=>rw [hb] at h;cases h
 | false=>
  rw [hb,cond_false] at h
  split at h
  · cases h
  split at h
  · cases h
  · exact idx_none (by omega)
theorem make_ch {T U:Tab} (hT:Gd T) (hU:Gd U) {d k:Int} {s:List UInt8} {nn:Nd} (hd:(T.get d).1.kind=2) (hk:(T.get k).2=false) (hf:∀e∈(T.get d).1.ents,e.1≠s) (hne:d≠k) (he:nn.ents=[])
 (hg:∀i,U.get i=if i=d then (nWith (T.get d).1 (insF (T.get d).1.ents s k),true) else if i=k then (nn,true) else T.get i):chOf T U=⟨3,k,d,s,0,[],0⟩:=by
 have hdi:=get_kind_at (T:=T) (i:=d) (by rw [hd];decide)
 have hu:Upd T U (fun _=>False) (· = k):=by
  refine ⟨fun i _ hi=>?_,fun _ h=>h.elim,fun i hi=>?_⟩
  ·
   by_cases e:i=d
   · rw [hg,if_pos e,e];exact ⟨hdi.symm,rfl⟩
   · rw [hg,if_neg e,if_neg hi];exact ⟨rfl,rfl⟩
  ·
   subst hi
   rw [hg,if_neg (Ne.symm hne),if_pos rfl]
   exact ⟨hk,rfl,he⟩
 have hke:(T.get k).1.ents=[]:=by rw [get_none hk];rfl
 have hx:∀d' e,Ent U d' e↔Ent T d' e∨(d'=d∧e=(s,k)):=fun d' e=>by
  unfold Ent
  rw [hg]
  by_cases h1:d'=d
  ·
   rw [if_pos h1,h1]
   show e∈insF (T.get d).1.ents s k↔_
   rw [mem_insF]
   exact ⟨fun h=>h.elim (fun h=>.inr ⟨rfl,h⟩) .inl,fun h=>h.elim .inr (fun h=>.inl h.2)⟩
  ·
   rw [if_neg h1]
   by_cases h2:d'=k
   ·
    rw [if_pos h2,h2,hke]
    show e∈nn.ents↔_
    rw [he]
    exact ⟨fun h=>(nomatch h),fun h=>h.elim (fun h=>nomatch h) (fun h=>absurd (h2.trans rfl) (fun _=>h1 (h2.trans h.1)))⟩
   ·
    rw [if_neg h2]
    exact ⟨.inl,fun h=>h.elim id fun h=>absurd h.1 h1⟩
 refine chOf_make (hu.b0k hT hU) (hu.b1 hT hU) (hu.b3 hT hU) (List.eq_nil_iff_forall_not_mem.2 fun z hz=>?_) (list_one (nodup_won T hU) fun z=>?_)
 ·
  have:=(hu.lost hT hU z).1 hz
  exact this.2 ((hx _ _).2 (.inl this.1))
 ·
  rw [hu.won hT hU,hx]
  constructor
  ·
   rintro ⟨h1,h2⟩
   rcases h1 with h1 | h1
   · exact absurd h1 h2
   · exact Prod.ext h1.1 h1.2
  ·
   rintro rfl
   exact ⟨.inr ⟨rfl,rfl⟩,fun h=>hf _ h rfl⟩
theorem move_ch {T V U:Tab} (hT:Gd T) (hV:Gd V) (hk:Keep T V) {dp np dq nq:Int} {sp sq:List UInt8} (hP:Ent T dp (sp,np)) (hQ:nq≠0→Ent T dq (sq,nq)) (hQ0:nq=0→∀e,Ent T dq e→e.1≠sq) (hnp:1≤np) (hnq:nq≠np)
 (hx:∀d e,Ent V d e↔(Ent T d e∧(d=dq→e.1≠sq)∧(d=dp→e.1≠sp))∨(d=dq∧e=(sq,np)))
 (hU:U=V∨(U=dropT V nq∧(T.get nq).2=true∧(T.get nq).1.ents=[]∧(V.get nq).1.ents=[])):chOf T U=⟨5,np,dp,sp,dq,sq,nq⟩:=by
 obtain ⟨hUg, _,b0,b3,b1,hl,hw⟩:=ch_sort hT hV hk hU
 have hdp:=(ent_room hT.1 hP).1
 have hss:¬(dp=dq∧sp=sq):=fun h=>by
  obtain ⟨rfl,rfl⟩:=h
  by_cases h0:nq=0
  · exact hQ0 h0 _ hP rfl
  · exact hnq (congrArg Prod.snd (ent_name hT (hQ h0) hP rfl))
 have hw1:(dfN T U 24).won=[(dq,sq,np)]:=by
  refine list_one (nodup_won T hUg) fun z=>?_
  rw [hw,hx]
  constructor
  ·
   rintro ⟨h1 | h1,h2⟩
   · exact absurd h1.1 h2
   · exact Prod.ext h1.1 h1.2
  ·
   rintro rfl
   refine ⟨.inr ⟨rfl,rfl⟩,fun h=>?_⟩
   by_cases h0:nq=0
   · exact hQ0 h0 _ h rfl
   · exact hnq (congrArg Prod.snd (ent_name hT (hQ h0) h rfl))
 have hl1:∀z,z∈(dfN T U 24).lost↔z=(dp,sp,np)∨(nq≠0∧z=(dq,sq,nq)):=fun z=>by
  rw [hl,hx]
  constructor
  ·
   rintro ⟨h1,h2⟩
   obtain ⟨z1,z2⟩:=z
   dsimp only at h1 h2
   by_cases hq:z1=dq∧z2.1=sq
   ·
    right
    obtain ⟨rfl,hq⟩:=hq
    have h0:nq≠0:=fun h0=>hQ0 h0 _ h1 hq
    exact ⟨h0,Prod.ext rfl (ent_name hT h1 (hQ h0) hq)⟩
   ·
    left
    have hp:z1=dp∧z2.1=sp:=Classical.byContradiction fun h=>h2 (.inl ⟨h1,fun a b=>hq ⟨a,b⟩,fun a b=>h ⟨a,b⟩⟩)
    obtain ⟨rfl,hp⟩:=hp
    exact Prod.ext rfl (ent_name hT h1 hP hp)
  ·
   rintro (rfl | ⟨h0,rfl⟩)
   ·
    refine ⟨hP,fun h=>?_⟩
    rcases h with h | h
    · exact h.2.2 rfl rfl
    · exact hss ⟨h.1,congrArg Prod.fst h.2⟩
   ·
    refine ⟨hQ h0,fun h=>?_⟩
    rcases h with h | h
    · exact h.2.1 rfl rfl
    · exact hnq (congrArg Prod.snd h.2)
 refine chOf_move b0 b3 hw1 ?_
 by_cases h0:nq=0
 ·
  have hl2:(dfN T U 24).lost=[(dp,sp,np)]:=list_one (nodup_lost U hT) fun z=>by
   rw [hl1];exact ⟨fun h=>h.elim id fun h=>absurd h0 h.1,.inl⟩
  have hb:(dfN T U 24).b 1=[]:=by
   rcases hU with rfl | ⟨_,h2, _⟩
   · exact hk.upd.b1 hT hV
   · rw [h0,get_eq hT.1,if_neg (by omega)] at h2;cases h2
  rw [moved_one hw1 hl2 rfl hdp hb,h0]
 ·
  exact moved_two hw1 (list_two (nodup_lost U hT) (fun e=>hss (by
   have e1:=congrArg Prod.fst e
   have e2:=congrArg (fun z:Ey=>z.2.1) e
   exact ⟨e1,e2⟩)) fun z=>by
    rw [hl1];exact ⟨fun h=>h.imp id And.right,fun h=>h.imp id fun h=>⟨h0,h⟩⟩) hnq h0 (by omega) b1
theorem put_ch {T:Tab} (hT:Gd T) {i:Int} {n:Nd} (hn:NdOk n) (hi:(T.get i).2=true) (he:n.ents=(T.get i).1.ents):chOf T (putT T i n).2=chK 0∨(rightF n=true∧n≠(T.get i).1∧(∀j,(putT T i n).2.get j=if j=i then (n,true) else T.get j)∧chOf T (putT T i n).2=aloneF i (T.get i).1 n):=by
 by_cases hr:rightF n=true
 ·
  obtain ⟨_,hg⟩:=putT_get hT.1 hn hr hi
  obtain ⟨f4,f3⟩:=put_fate hi hg he
  by_cases hne:n=(T.get i).1
  ·
   refine .inl (chOf_same fun j=>?_)
   rw [hg];split
   · rename_i e;rw [e];exact hne.symm
   · rfl
  ·
   refine .inr ⟨hr,hne,hg,?_⟩
   rw [chOf_alone (get_24 hT hi) (f3 hne) f4,hg,if_pos rfl]
 ·
  left
  have e:(putT T i n).2=T:=by
   obtain ⟨j,ha, _⟩:=get_isat hi
   unfold putT;rw [ha];simp [show rightF n=false by simpa using hr]
  rw [e];exact chOf_same fun _=>rfl
theorem TreeI.treeW {T:Tab} {m:Nat} (h:TreeI T m):TreeW T [] []:=by
 have hd:∀d e,Ent T d e→1≤d∧d≤m:=fun d e he=>(h.used d).1 (ents_is he)
 refine ⟨h.root,fun d e he h1=>?_,fun d e he=>(h.used _).2 ⟨(h.kid d e he).1,(h.kid d e he).2.1⟩,fun i _ hi h1=>?_,h.one,⟨fun i=>i.toNat,fun d e he hk=>?_⟩,fun i _ hi hk=>?_,fun i hi=>nomatch hi⟩
 ·
  have:=(h.kid d e he).2.2 (by rw [h1];exact h.root)
  have:=hd d e he;omega
 ·
  have:=(h.used i).1 (get_kind_at (by rw [hi];decide))
  obtain ⟨d,e,he,hei, _⟩:=h.par i (by omega) this.2
  exact ⟨d,e,he,hei⟩
 ·
  have:=(h.kid d e he).2.2 hk
  have:=hd d e he
  show d.toNat<e.2.toNat
  omega
 ·
  have:=(h.used i).1 hi
  have h1:i≠1:=fun e=>hk (by rw [e];exact h.root)
  obtain ⟨d,e,he,hei, _⟩:=h.par i (by omega) this.2
  exact .inl ⟨d,e,he,hei⟩
theorem built_treeW {room:Int} {l:List Rw} {c:Cr} {T:Tab} (h:builtF room l c=some T):TreeW T [] []:=by
 unfold builtF at h
 cases h1:(decide ((50:Int)<l.length)||decide ((10:Int)<c.gs.length)) with
 | true=>rw [h1] at h;cases h
 | false=>
  rw [h1,cond_false] at h
  cases h2:l.any bigR with
  | true=>rw [h2] at h;cases h
  | false=>
   rw [h2,cond_false] at h
   split at h
   · cases h
   ·
    rename_i T' hT'
    cases h
    obtain ⟨m,hm⟩:=TreeI.build (small_ok h2) hT'
    exact hm.treeW
theorem openL_new (um:Int) (cs:List Cr):openL (cs.map (pr1 um))=[]:=by
 unfold openL
 rw [List.flatMap_map]
 exact List.flatMap_eq_nil_iff.2 fun c _=>rfl
end Go.Proofs.YtjmlgeckgieaaaaGreat
