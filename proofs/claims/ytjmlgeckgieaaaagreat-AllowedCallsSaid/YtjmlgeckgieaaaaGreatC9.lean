import Derived.Test.YtjmlgeckgieaaaaGreatC8
/-
  CHANGES: the law that a call makes one change at most, of its kind.
-/
set_option linter.unusedVariables false
set_option linter.unusedSimpArgs false
namespace Go.Proofs.YtjmlgeckgieaaaaGreat
open Go.Ab
set_option maxRecDepth 8000
set_option maxHeartbeats 400000
theorem alone_attr {i:Int} {a b:Nd} (h:asAttr a b=b):aloneF i a b=⟨1,i,0,[],0,[],0⟩:=by
 unfold aloneF;rw [same_iff.2 h];rfl
theorem alone_data {i:Int} {a b:Nd} (hk:a.kind=1) (h:asData a b=b):aloneF i a b=⟨1,i,0,[],0,[],0⟩∨aloneF i a b=⟨2,i,0,[],0,[],0⟩:=by
 unfold aloneF
 cases sameF (asAttr a b) b with
 | true=>exact .inl rfl
 | false=>rw [cond_false,same_iff.2 h,decide_eq_true hk];exact .inr rfl
theorem chg_ch {T:Tab} (hT:Gd T) {c:Cr} {p:List UInt8} {fl:Bool} {g:Nd→Nd×Int} (hg:∀n,NdOk n→NdOk (g n).1) (ha:∀n,asAttr n (g n).1=(g n).1) :
 chOf T (chgF T c p fl g).2=chK 0∨(rE T c p fl=0∧(T.get (rN T c p fl)).2=true∧(g (T.get (rN T c p fl)).1).2=0∧(∀j,(chgF T c p fl g).2.get j=if j=rN T c p fl then ((g (T.get (rN T c p fl)).1).1,true) else T.get j)∧chOf T (chgF T c p fl g).2=⟨1,rN T c p fl,0,[],0,[],0⟩):=by
 have h0:chOf T T=chK 0:=chOf_same fun _=>rfl
 unfold chgF
 split
 · exact .inl h0
 rename_i h1
 split
 · exact .inl h0
 rename_i h2
 split
 · exact .inl h0
 rename_i h3
 have h2':(T.get (rN T c p fl)).2=true:=by simpa using h2
 have he:(g (T.get (rN T c p fl)).1).1.ents=(T.get (rN T c p fl)).1.ents:=by rw [←ha];rfl
 rcases put_ch hT (hg _ (hT.nd _)) h2' he with h | ⟨_, _,h,k⟩
 · exact .inl h
 · exact .inr ⟨Classical.not_not.1 h1,h2',Classical.not_not.1 h3,h,by rw [k];exact alone_attr (ha _)⟩
theorem chmod_at (c:Cr) (m:Int) (n:Nd):asAttr n (chmodG c m n).1=(chmodG c m n).1:=by
 unfold chmodG
 cases mayMode c n.uid<;>rfl
theorem chown_at (c:Cr) (u g:Int) (n:Nd):asAttr n (chownG c u g n).1=(chownG c u g n).1:=by
 unfold chownG
 cases mayOwn c n.uid n.gid u g with
 | false=>rfl
 | true=>rw [cond_true];split<;>rfl
theorem data_ch {T:Tab} (hT:Gd T) {i:Int} {c:Cr} {b:List UInt8} (hi:(T.get i).2=true) (hk:(T.get i).1.kind=1) (hb:b.length≤1000) :
 chOf T (putT T i (dataN c (T.get i).1 b)).2=chK 0∨((∀j,(putT T i (dataN c (T.get i).1 b)).2.get j=if j=i then (dataN c (T.get i).1 b,true) else T.get j)∧(chOf T (putT T i (dataN c (T.get i).1 b)).2=⟨1,i,0,[],0,[],0⟩∨chOf T (putT T i (dataN c (T.get i).1 b)).2=⟨2,i,0,[],0,[],0⟩)):=by
 rcases put_ch hT (dataN_ok (c:=c) (hT.nd i) hb) hi rfl with h | ⟨_, _,h,k⟩
 · exact .inl h
 ·
  right
  rw [k]
  exact ⟨h,alone_data hk rfl⟩
theorem plant_facts {T:Tab} (hT:Gd T) {c:Cr} {p:List UInt8} {fl:Bool} {g:Nd→Nd} (hg:∀n,NdOk n→NdOk (g n)) (he:∀n,(g n).ents=[]) (h:(plantF T c p fl g).1.2=0) :
 rE T c p fl=0∧rN T c p fl=0∧canT c T (rD T c p fl) 3=true∧(T.get (rD T c p fl)).1.kind=2∧(T.get (plantF T c p fl g).1.1).2=false∧rD T c p fl≠(plantF T c p fl g).1.1 ∧
 (∀i,(plantF T c p fl g).2.get i=if i=rD T c p fl then (nWith (T.get (rD T c p fl)).1 (insF (T.get (rD T c p fl)).1.ents (rS T c p fl) (plantF T c p fl g).1.1),true) else if i=(plantF T c p fl g).1.1 then (ownN c (T.get (rD T c p fl)).1 (g (T.get (rD T c p fl)).1),true) else T.get i) ∧
 chOf T (plantF T c p fl g).2=⟨3,(plantF T c p fl g).1.1,rD T c p fl,rS T c p fl,0,[],0⟩:=by
 have hno:NdOk (ownN c (T.get (rD T c p fl)).1 (g (T.get (rD T c p fl)).1)):=ownN_ok (hg _ (hT.nd _))
 have hnm:=resF_nm T c p fl
 have hG:=hT.plant (c:=c) p fl hg
 unfold plantF at h ⊢
 unfold plantF at hG
 split at h
 · rename_i h1;exact absurd h h1
 rename_i h1;rw [if_neg h1] at hG ⊢
 split at h
 · cases h
 rename_i h2;rw [if_neg h2] at hG ⊢
 split at h
 · cases h
 rename_i h3;rw [if_neg h3] at hG ⊢
 split at h
 · cases h
 rename_i h4;rw [if_neg h4] at hG ⊢
 split at h
 · rename_i h5;exact absurd h h5
 rename_i h5;rw [if_neg h5] at hG ⊢
 have h50:=Classical.not_not.1 h5
 split at h
 · rename_i h6;exact absurd h h6
 rename_i h6;rw [if_neg h6] at hG ⊢
 have h60:=Classical.not_not.1 h6
 obtain ⟨hfr,hga⟩:=add_get hT.1 hno h50
 have hwk:=withN_kind h60
 have hwz:=withN_zero h60
 have hd:(T.get (rD T c p fl)).1.kind=2:=by rw [hwz] at hwk;exact hwk
 have hdi:=get_kind_at (T:=T) (i:=rD T c p fl) (by rw [hd];decide)
 have hne:rD T c p fl≠(addT T (ownN c (T.get (rD T c p fl)).1 (g (T.get (rD T c p fl)).1))).1.1:=fun e=>by rw [←e,hdi] at hfr;cases hfr
 obtain ⟨_,hpg⟩:=putT_get (addT_ok hT.1 hno) (withN_ok (hT.nd _) (by omega)) (withN_right (hT.2.kind (by omega)) h60) (by rw [hga,if_neg hne];exact hdi)
 have hform:∀i,(putT (addT T (ownN c (T.get (rD T c p fl)).1 (g (T.get (rD T c p fl)).1))).2 (rD T c p fl) (withN (T.get (rD T c p fl)).1 (rS T c p fl) (addT T (ownN c (T.get (rD T c p fl)).1 (g (T.get (rD T c p fl)).1))).1.1).1).2.get i =
  if i=rD T c p fl then (nWith (T.get (rD T c p fl)).1 (insF (T.get (rD T c p fl)).1.ents (rS T c p fl) (addT T (ownN c (T.get (rD T c p fl)).1 (g (T.get (rD T c p fl)).1))).1.1),true) else if i=(addT T (ownN c (T.get (rD T c p fl)).1 (g (T.get (rD T c p fl)).1))).1.1 then (ownN c (T.get (rD T c p fl)).1 (g (T.get (rD T c p fl)).1),true) else T.get i:=fun i=>by
  rw [hpg,hwz]
  split
  · rfl
  · exact hga i
 dsimp only at hG ⊢
 exact ⟨Classical.not_not.1 h1,Classical.not_not.1 h2,by simpa using h3,hd,hfr,hne,hform,make_ch (nn:=ownN c (T.get (rD T c p fl)).1 (g (T.get (rD T c p fl)).1)) hT hG hd hfr (withN_fresh h60) hne (he (T.get (rD T c p fl)).1) hform⟩
theorem plant_ch {T:Tab} (hT:Gd T) {c:Cr} {p:List UInt8} {fl:Bool} {g:Nd→Nd} (hg:∀n,NdOk n→NdOk (g n)) (he:∀n,(g n).ents=[]) :
 chOf T (plantF T c p fl g).2=chK 0∨((plantF T c p fl g).1.2=0∧chOf T (plantF T c p fl g).2=⟨3,(plantF T c p fl g).1.1,rD T c p fl,rS T c p fl,0,[],0⟩):=by
 by_cases h:(plantF T c p fl g).1.2=0
 · exact .inr ⟨h,(plant_facts hT hg he h).2.2.2.2.2.2.2⟩
 ·
  left
  rw [plantF_bad hT hg h];exact chOf_same fun _=>rfl
theorem unlink_ch {T:Tab} (hT:Gd T) {o:List Int} (hW:TreeW T o []) {c:Cr} {p:List UInt8} :
 chOf T (unlinkF T c p o).2=chK 0∨(findE T c p=0∧(T.get (rN T c p false)).1.kind≠2∧chOf T (unlinkF T c p o).2=⟨4,rN T c p false,rD T c p false,rS T c p false,0,[],0⟩):=by
 have h0:chOf T T=chK 0:=chOf_same fun _=>rfl
 unfold unlinkF
 split
 · exact .inl h0
 rename_i h1
 split
 · exact .inl h0
 rename_i h2
 have h10:=Classical.not_not.1 h1
 obtain ⟨he,hd,hn⟩:=find_ent hT h10
 exact .inr ⟨h10,h2,take_ch hT he (fun e=>h2 (by rw [e];exact hd)) (hW.kid _ _ he) (no_ents hT h2) (freeF_or _ _ _)⟩
theorem rmdir_ch {T:Tab} (hT:Gd T) {o:List Int} (hW:TreeW T o []) {c:Cr} {p:List UInt8} :
 chOf T (rmdirF T c p).2=chK 0∨(findE T c p=0∧(T.get (rN T c p false)).1.kind=2∧chOf T (rmdirF T c p).2=⟨4,rN T c p false,rD T c p false,rS T c p false,0,[],0⟩):=by
 have h0:chOf T T=chK 0:=chOf_same fun _=>rfl
 unfold rmdirF
 split
 · exact .inl h0
 rename_i h1
 split
 · exact .inl h0
 rename_i h2
 split
 · exact .inl h0
 rename_i h3
 have h10:=Classical.not_not.1 h1
 have h20:=Classical.not_not.1 h2
 obtain ⟨he,hd,hn⟩:=find_ent hT h10
 exact .inr ⟨h10,h20,take_ch hT he (hW.irr he h20) (hW.kid _ _ he) (List.length_eq_zero_iff.1 (by omega)) (.inr rfl)⟩
theorem Keep.put {C V:Tab} {d:Int} {l:List En} (hd:(C.get d).2=true) (h:∀i,V.get i=if i=d then (nWith (C.get d).1 l,true) else C.get i):Keep C V:=fun i=>by
 rw [h]
 split
 · rename_i e;rw [e];exact ⟨hd.symm,rfl⟩
 · exact ⟨rfl,rfl⟩
theorem rename_ch {T:Tab} (hT:Gd T) {o:List Int} (hW:TreeW T o []) {c:Cr} {p q:List UInt8} :
 chOf T (renameF T c p q o).2=chK 0∨(findE T c p=0∧rE T c q false=0∧rS T c q false≠[]∧canT c T (rD T c q false) 3=true∧(rN T c q false≠0→overF c (T.get (rN T c p false)).1 (T.get (rD T c q false)).1 (T.get (rN T c q false)).1=0) ∧
  chOf T (renameF T c p q o).2=⟨5,rN T c p false,rD T c p false,rS T c p false,rD T c q false,rS T c q false,rN T c q false⟩):=by
 have h0:chOf T T=chK 0:=chOf_same fun _=>rfl
 unfold renameF
 split
 · exact .inl h0
 rename_i h1
 split
 · exact .inl h0
 rename_i h2
 split
 · exact .inl h0
 rename_i h3
 split
 · exact .inl h0
 rename_i h4
 split
 · exact .inl h0
 rename_i h5
 split
 · exact .inl h0
 rename_i h6
 split
 · exact .inl h0
 rename_i h7
 have h10:=Classical.not_not.1 h1
 have h20:=Classical.not_not.1 h2
 have h40:canT c T (rD T c q false) 3=true:=by simpa using h4
 obtain ⟨heP,hdP,hnP⟩:=find_ent hT h10
 have hqa:=resF_at hT.2 c q false h20
 have hnm:=resF_nm T c q false
 rcases hqa with hqa | ⟨qk,qn,q1,q2,q3,qf⟩
 · exact absurd hqa.1 h3
 dsimp only at qk qf
 have hQ:rN T c q false≠0→Ent T (rD T c q false) (rS T c q false,rN T c q false):=fun h8=>by
  rcases findF_pos (hT.2.kind (i:=rD T c q false) (by omega)) (s:=rS T c q false) with ⟨f1, _⟩ | ⟨_, _,f3⟩
  · rw [←qf] at f1;exact absurd f1 h8
  · rw [←qf] at f3;exact f3
 have hQ0:rN T c q false=0→∀e,Ent T (rD T c q false) e→e.1≠rS T c q false:=fun h8=>by
  rcases findF_pos (hT.2.kind (i:=rD T c q false) (by omega)) (s:=rS T c q false) with ⟨_,f2⟩ | ⟨f1, _, _⟩
  · exact idx_none f2
  · rw [←qf] at f1;omega
 have key:∀(W:Tab),Gd W→Keep T W→(∀d e,Ent W d e↔Ent T d e∧(d=rD T c q false→e.1≠rS T c q false)) →
  (withN ((cutF W (rD T c p false) (rS T c p false)).get (rD T c q false)).1 (rS T c q false) (rN T c p false)).2=0 →
  ∃V,V=(putT (cutF W (rD T c p false) (rS T c p false)) (rD T c q false) (withN ((cutF W (rD T c p false) (rS T c p false)).get (rD T c q false)).1 (rS T c q false) (rN T c p false)).1).2∧Gd V∧Keep T V ∧
   ∀d e,Ent V d e↔(Ent T d e∧(d=rD T c q false→e.1≠rS T c q false)∧(d=rD T c p false→e.1≠rS T c p false))∨(d=rD T c q false∧e=(rS T c q false,rN T c p false)):=by
  intro W hWg hk hx hw
  have hC:=hWg.cut (rD T c p false) (rS T c p false)
  have hKC:=hk.trans (Keep.cut hWg (rD T c p false) (rS T c p false))
  have hn:=withN_ok (s:=rS T c q false) (id:=rN T c p false) (hC.nd (rD T c q false)) (by omega)
  have hdk:((cutF W (rD T c p false) (rS T c p false)).get (rD T c q false)).1.kind=2:=by rw [(hKC _).2];exact qk
  have hdi:=get_kind_at (T:=cutF W (rD T c p false) (rS T c p false)) (i:=rD T c q false) (by rw [hdk];decide)
  obtain ⟨_,hpg⟩:=putT_get hC.1 hn (withN_right (hC.2.kind (by rw [hdk];decide)) hw) hdi
  have hform:∀i,(putT (cutF W (rD T c p false) (rS T c p false)) (rD T c q false) (withN ((cutF W (rD T c p false) (rS T c p false)).get (rD T c q false)).1 (rS T c q false) (rN T c p false)).1).2.get i=if i=rD T c q false then (nWith ((cutF W (rD T c p false) (rS T c p false)).get (rD T c q false)).1 (insF ((cutF W (rD T c p false) (rS T c p false)).get (rD T c q false)).1.ents (rS T c q false) (rN T c p false)),true) else (cutF W (rD T c p false) (rS T c p false)).get i:=fun i=>by
   rw [hpg,withN_zero hw]
  refine ⟨_,rfl,hC.put hn _,hKC.trans (Keep.put hdi hform),fun d e=>?_⟩
  have hc:=cut_ent hWg (rD T c p false) (rS T c p false) d e
  unfold Ent at hc ⊢
  rw [hform]
  by_cases hd:d=rD T c q false
  ·
   rw [if_pos hd]
   rw [hd] at hc
   show e∈insF _ _ _↔_
   rw [mem_insF,hc,hd]
   have:=hx (rD T c q false) e
   unfold Ent at this
   rw [this]
   constructor
   ·
    rintro (h | h)
    · exact .inr ⟨rfl,h⟩
    · exact .inl ⟨h.1.1,h.1.2,h.2⟩
   ·
    rintro (h | h)
    · exact .inr ⟨⟨h.1,h.2.1⟩,h.2.2⟩
    · exact .inl h.2
  ·
   rw [if_neg hd,hc]
   have:=hx d e
   unfold Ent at this
   rw [this]
   constructor
   · intro h;exact .inl ⟨h.1.1,h.1.2,h.2⟩
   ·
    rintro (h | h)
    · exact ⟨⟨h.1,h.2.1⟩,h.2.2⟩
    · exact absurd h.1 hd
 split
 ·
  rename_i h8
  split
  · exact .inl h0
  ·
   rename_i h9
   have h90:=Classical.not_not.1 h9
   obtain ⟨g1,g2⟩:=renL_good hT o h10 h20 h3 (.inl ⟨h8,rfl⟩)
   obtain ⟨V,hVe,hV,hK,hx⟩:=key _ (hT.cut (rD T c q false) (rS T c q false)) (Keep.cut hT _ _) (fun d e=>cut_ent hT _ _ _ _) g1
   have heQ:=hQ h8
   have hqe:(T.get (rN T c q false)).1.ents=[]:=by
    unfold overF at h90
    split at h90
    · cases h90
    split at h90
    · cases h90
    split at h90
    · cases h90
    split at h90
    · cases h90
    · exact List.length_eq_zero_iff.1 (by omega)
   have hVq:(V.get (rN T c q false)).1.ents=[]:=List.eq_nil_iff_forall_not_mem.2 fun e he=>by
    rcases (hx _ e).1 he with h | h
    · have:=h.1;unfold Ent at this;rw [hqe] at this;cases this
    · exact hW.irr heQ (by show (T.get (rN T c q false)).1.kind=2;rw [h.1];exact qk) h.1
   refine .inr ⟨h10,h20,h3,h40,fun _=>h90,?_⟩
   unfold renL
   rw [if_pos g1]
   show chOf T (freeF _ _ _).2=_
   rw [←hVe]
   exact move_ch hT hV hK heP hQ hQ0 hnP h5 hx ((freeF_or V (rN T c q false) o).imp id fun h=>⟨h,hW.kid _ _ heQ,hqe,hVq⟩)
 ·
  rename_i h8
  have h80:=Classical.not_not.1 h8
  obtain ⟨g1,g2⟩:=renL_good hT o h10 h20 h3 (.inr ⟨h80,rfl,by
   by_cases e:rD T c q false=rD T c p false
   · exact .inl e
   ·
    exact .inr (by
     by_cases e8:(8:Int)≤(T.get (rD T c q false)).1.ents.length
     · exact absurd ⟨h80,e,e8⟩ h7
     · omega)⟩)
  obtain ⟨V,hVe,hV,hK,hx⟩:=key _ hT (Keep.refl T) (fun d e=>⟨fun h=>⟨h,fun hd=>by rw [hd] at h;exact hQ0 h80 e h⟩,fun h=>h.1⟩) g1
  refine .inr ⟨h10,h20,h3,h40,fun h=>absurd h80 h,?_⟩
  unfold renL
  rw [if_pos g1]
  show chOf T (freeF _ (rN T c q false) _).2=_
  rw [←hVe]
  refine move_ch hT hV hK heP hQ hQ0 hnP h5 hx (.inl ?_)
  rw [h80,free_zero]
theorem free_ch {T:Tab} (hT:Gd T) (n:Int) (o:List Int):chOf T (freeF T n o).2=chK 0∨(T.links n≤0∧chOf T (freeF T n o).2=⟨6,n,0,[],0,[],0⟩):=by
 unfold freeF
 split
 · exact .inl (chOf_same fun _=>rfl)
 ·
  rename_i h
  show chOf T (dropT T n)=_∨(_∧chOf T (dropT T n)=_)
  have hg:=drop_get hT.1 n
  cases hn:(T.get n).2 with
  | false=>
   left
   refine chOf_same fun i=>?_
   rw [hg];split
   · rename_i e;rw [e,get_none hn]
   · rfl
  | true=>
   right
   refine ⟨by
    have:¬(n=1∨0<T.links n):=fun k=>h (.inl k)
    omega,chOf_free (get_24 hT hn) ?_ fun i hi=>fate_4 (by rw [hg,if_neg hi])⟩
   have hk:=get_kind hT.1 n
   have hne:(T.get n).1≠((dropT T n).get n).1:=fun e=>by
    rw [hg,if_pos rfl] at e
    rw [e,hn] at hk;cases hk
   unfold fate
   rw [same_no hne,hn,hg,if_pos rfl];rfl
def mayK (ck k:Int):Prop:=k=0∨((ck=5∨ck=6∨ck=7)∧k=1)∨((ck=8∨ck=9)∧k=3)∨((ck=10∨ck=11)∧k=4)∨(ck=12∧k=5)∨(ck=13∧(k=3∨k=2∨k=1))∨(ck=15∧(k=2∨k=1))∨(ck=16∧k=6)∨ck=18
theorem open_ch {T:Tab} (hT:Gd T) {c:Cr} {um:Int} {p:List UInt8} {f m:Int}:(chOf T (openF T c um p f m).2).kind=0∨(chOf T (openF T c um p f m).2).kind=1∨(chOf T (openF T c um p f m).2).kind=2∨(chOf T (openF T c um p f m).2).kind=3:=by
 have h0:chOf T T=chK 0:=chOf_same fun _=>rfl
 have hz:∀ {x:Ch},x=chK 0→x.kind=0:=fun h=>by rw [h];rfl
 unfold openF
 split
 · exact .inl (hz h0)
 split
 · exact .inl (hz h0)
 split
 ·
  split
  · exact .inl (hz h0)
  ·
   rcases plant_ch hT (c:=c) (p:=p) (fl:=!hasF f 40) (g:=fileG um m) (fun n hn=>⟨Nat.zero_le _,Nat.zero_le _,Nat.zero_le _,fun e he=>nomatch he⟩) (fun n=>rfl) with h | ⟨_,h⟩
   · exact .inl (hz h)
   ·
    refine .inr (.inr (.inr ?_))
    show (chOf T (plantF T c p (!hasF f 40) (fileG um m)).2).kind=3
    rw [h]
 rename_i h3
 have hi:(T.get (rN T c p (!hasF f 40))).2=true:=by simpa using h3
 split
 · exact .inl (hz h0)
 split
 · exact .inl (hz h0)
 rename_i h5
 split
 · exact .inl (hz h0)
 rename_i h6
 generalize bits .or .i64 (if hasF f 1=true then 4 else 0) (if hasF f 2=true then 2 else 0)=w
 split
 · exact .inl (hz h0)
 split
 ·
  have hk:(T.get (rN T c p (!hasF f 40))).1.kind=1:=by
   rcases right_cases (hT.2.get hi) with ⟨_,k | k | k⟩
   · exact k.1
   · exact absurd k.1 h6
   · exact absurd k.1 h5
  rcases data_ch hT (c:=c) (b:=[]) hi hk (Nat.zero_le _) with h | ⟨_,h | h⟩
  · exact .inl (hz h)
  ·
   refine .inr (.inl ?_)
   show (chOf T (putT T (rN T c p (!hasF f 40)) (dataN c (T.get (rN T c p (!hasF f 40))).1 [])).2).kind=1
   rw [h]
  ·
   refine .inr (.inr (.inl ?_))
   show (chOf T (putT T (rN T c p (!hasF f 40)) (dataN c (T.get (rN T c p (!hasF f 40))).1 [])).2).kind=2
   rw [h]
 · exact .inl (hz h0)
theorem write_ch {T:Tab} (hT:Gd T) {c:Cr} {i off:Int} {b:List UInt8}:(chOf T (writeAtF T c i off b).2).kind=0∨(chOf T (writeAtF T c i off b).2).kind=2∨(chOf T (writeAtF T c i off b).2).kind=1:=by
 have h0:(chOf T T).kind=0:=by rw [chOf_same fun _=>rfl];rfl
 have hd:=(hT.nd i).1
 unfold writeAtF
 split
 · exact .inl h0
 rename_i h1
 split
 · exact .inl h0
 split
 · exact .inl h0
 split
 · exact .inl h0
 have hk:=Classical.not_not.1 h1
 show (chOf T (putT T i (dataN c (T.get i).1 _)).2).kind=0∨_
 rcases data_ch hT (c:=c) (b:=overB (T.get i).1.data off.toNat b) (get_kind_at (by rw [hk];decide)) hk (by rw [overB_len];omega) with h | ⟨_,h | h⟩
 · left;rw [h];rfl
 · right;right;show (chOf T (putT T i _).2).kind=1;rw [h]
 · right;left;show (chOf T (putT T i _).2).kind=2;rw [h]
theorem cha_ch {T:Tab} (hT:Gd T) {o:List Int} (hW:TreeW T o []) (P:Pr) (ca:Ca) (hk:5≤ca.kind∧ca.kind≤12):mayK ca.kind (chOf T (chaF T P ca o).2).kind:=by
 have h0:(chOf T T).kind=0:=by rw [chOf_same fun _=>rfl];rfl
 have hz:∀ {x:Ch},x=chK 0→x.kind=0:=fun h=>by rw [h];rfl
 have hz':mayK ca.kind (chOf T T).kind:=.inl h0
 unfold chaF
 split
 ·
  rename_i e
  unfold chmodF
  split
  · exact hz'
  ·
   rcases chg_ch hT (c:=P.c) (p:=ca.path) (fl:=true) (chmodG_ok P.c ca.a) (chmod_at _ _) with h | ⟨_, _, _, _,h⟩
   · exact .inl (hz h)
   · exact .inr (.inl ⟨.inl e,by rw [h]⟩)
 split
 ·
  rename_i e
  rcases plant_ch hT (c:=P.c) (p:=ca.path) (fl:=false) (g:=mkdirG P.um ca.a) (fun n hn=>⟨Nat.zero_le _,Nat.zero_le _,Nat.zero_le _,fun e he=>nomatch he⟩) (fun n=>rfl) with h | ⟨_,h⟩
  · exact .inl (hz h)
  ·
   refine .inr (.inr (.inl ⟨.inl e,?_⟩))
   show (chOf T (plantF T P.c ca.path false (mkdirG P.um ca.a)).2).kind=3
   rw [h]
 split
 ·
  rename_i e
  unfold symlinkF
  split
  · exact hz'
  split
  · exact hz'
  split
  · exact hz'
  ·
   rcases plant_ch hT (c:=P.c) (p:=ca.path) (fl:=false) (g:=symG ca.other) (fun n hn=>⟨Nat.zero_le _,Nat.zero_le _,(by show ca.other.length≤1000;omega),fun e he=>nomatch he⟩) (fun n=>rfl) with h | ⟨_,h⟩
   · exact .inl (hz h)
   ·
    refine .inr (.inr (.inl ⟨.inr e,?_⟩))
    show (chOf T (plantF T P.c ca.path false (symG ca.other)).2).kind=3
    rw [h]
 split
 ·
  rename_i e
  rcases unlink_ch hT hW (c:=P.c) (p:=ca.path) with h | ⟨_, _,h⟩
  · exact .inl (hz h)
  · exact .inr (.inr (.inr (.inl ⟨.inl e,by rw [h]⟩)))
 split
 ·
  rename_i e
  rcases rmdir_ch hT hW (c:=P.c) (p:=ca.path) with h | ⟨_, _,h⟩
  · exact .inl (hz h)
  · exact .inr (.inr (.inr (.inl ⟨.inr e,by rw [h]⟩)))
 split
 ·
  rename_i e
  rcases rename_ch hT hW (c:=P.c) (p:=ca.path) (q:=ca.other) with h | ⟨_, _, _, _, _,h⟩
  · exact .inl (hz h)
  · exact .inr (.inr (.inr (.inr (.inl ⟨e,by rw [h]⟩))))
 ·
  unfold chownF
  split
  · exact hz'
  ·
   rcases chg_ch hT (c:=P.c) (p:=ca.path) (fl:=decide (ca.kind=6)) (chownG_ok P.c ca.a ca.b) (chown_at _ _ _) with h | ⟨_, _, _, _,h⟩
   · exact .inl (hz h)
   · exact .inr (.inl ⟨by omega,by rw [h]⟩)
theorem calls_law {T:Tab} (hT:Gd T) {ps:List Pr} (hW:TreeW T (openL ps) []) (pid:Int) (ca:Ca) {d:Rs×Tab×List Pr} (hd:doF T ps pid ca=d):mayK ca.kind (chOf T d.2.1).kind∧(d.1.err≠0→(chOf T d.2.1).kind=0):=by
 subst hd
 have h0:(chOf T T).kind=0:=by rw [chOf_same fun _=>rfl];rfl
 refine ⟨?_,fun h=>by rw [(doF_bad hT ps pid ca (.inl h)).1];exact h0⟩
 have hz':mayK ca.kind (chOf T T).kind:=.inl h0
 unfold doF
 split
 ·
  show mayK ca.kind (chOf T (stepF T ps pid.toNat (ps.getD pid.toNat pr0) ca).2.1).kind
  generalize pid.toNat=n
  generalize ps.getD n pr0=P
  unfold stepF
  split
  ·
   rename_i e
   have ho:∀i,mayK ca.kind (chOf T (opnAt T P ca i).2.1).kind:=fun i=>by
    have h1:(opnAt T P ca i).2.1=(openF T P.c P.um ca.path ca.a ca.b).2:=by unfold opnAt;split<;>rfl
    rw [h1]
    rcases open_ch hT (c:=P.c) (um:=P.um) (p:=ca.path) (f:=ca.a) (m:=ca.b) with h | h | h | h
    · exact .inl h
    · exact .inr (.inr (.inr (.inr (.inr (.inl ⟨e,.inr (.inr h)⟩)))))
    · exact .inr (.inr (.inr (.inr (.inr (.inl ⟨e,.inr (.inl h)⟩)))))
    · exact .inr (.inr (.inr (.inr (.inr (.inl ⟨e,.inl h⟩)))))
   unfold opnF
   repeat' split
   · exact ho 0
   · exact ho 1
   · exact ho 2
   · exact hz'
  split
  · exact hz'
  split
  ·
   rename_i e
   unfold wriF
   have hw:mayK ca.kind (chOf T (writeAtF T P.c (P.fd ca.a.toNat).node (P.fd ca.a.toNat).off ca.data).2).kind:=by
    rcases write_ch hT (c:=P.c) (i:=(P.fd ca.a.toNat).node) (off:=(P.fd ca.a.toNat).off) (b:=ca.data) with h | h | h
    · exact .inl h
    · exact .inr (.inr (.inr (.inr (.inr (.inr (.inl ⟨e,.inl h⟩))))))
    · exact .inr (.inr (.inr (.inr (.inr (.inr (.inl ⟨e,.inr h⟩))))))
   repeat' split
   · exact hz'
   · exact hw
   · exact hw
  split
  ·
   rename_i e
   unfold shutF
   split
   · exact hz'
   ·
    rcases free_ch hT (P.fd ca.a.toNat).node (openL (ps.set n (P.put ca.a.toNat fd0))) with h | ⟨_,h⟩
    · exact .inl (by show (chOf T (freeF T _ _).2).kind=0;rw [h];rfl)
    ·
     refine .inr (.inr (.inr (.inr (.inr (.inr (.inr (.inl ⟨e,?_⟩)))))))
     show (chOf T (freeF T _ _).2).kind=6
     rw [h]
  split
  · exact hz'
  split
  ·
   rename_i e
   exact .inr (.inr (.inr (.inr (.inr (.inr (.inr (.inr e)))))))
  split
  · exact hz'
  split
  ·
   rename_i e
   exact cha_ch hT hW P ca e
  · exact hz'
 · exact hz'
end Go.Proofs.YtjmlgeckgieaaaaGreat
