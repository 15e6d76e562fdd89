import Derived.Test.YtmgnbgniikjhdaaGreatP7
/-
  TREES: whatever calls processes make, a tree stays one.
-/
set_option linter.unusedVariables false
set_option linter.unusedSimpArgs false
namespace Go.Proofs.YtmgnbgniikjhdaaGreat
open Go.Ab
set_option maxRecDepth 8000
set_option maxHeartbeats 400000
theorem withN_kind {n:Nd} {s:List UInt8} {id:Int} (h:(withN n s id).2=0):(withN n s id).1.kind=2:=by
 rw [withN_zero h]
 show n.kind=2
 apply Classical.byContradiction
 intro hk
 unfold withN at h
 rw [if_pos hk] at h;cases h
theorem TreeW.more {T:Tab} {o o' X:List Int} (hW:TreeW T o X) (h:∀i∈o,i∈o') (hf:∀i∈o',(T.get i).1.kind=1):TreeW T o' X:=
 ⟨hW.root,hW.top,hW.kid,hW.has,hW.one,hW.rk,fun i hx hi hk=>(hW.opn i hx hi hk).elim .inl fun k=>.inr (h i k),hf⟩
theorem TreeW.less {T:Tab} {o o' X Y:List Int} (hW:TreeW T o X) (h:∀i∈o',i∈o) (hX:∀i∈X,i∈Y) (h2:∀i∈o,i∈o'∨i∈Y):TreeW T o' Y:=
 ⟨hW.root,hW.top,hW.kid,fun i hx=>hW.has i (fun k=>hx (hX i k)),hW.one,hW.rk,fun i hx hi hk=>(hW.opn i (fun k=>hx (hX i k)) hi hk).elim .inl fun k=>(h2 i k).elim .inr fun k=>absurd k hx,fun i hi=>hW.fil i (h i hi)⟩
theorem no_ents {T:Tab} (hT:Gd T) {i:Int} (h:(T.get i).1.kind≠2):(T.get i).1.ents=[]:=by
 apply List.eq_nil_iff_forall_not_mem.2
 intro e he
 exact h (ent_dir hT (d:=i) he)
theorem plant_tree {T:Tab} (hT:Gd T) {o X:List Int} (hW:TreeW T o X) {c:Cr} {p:List UInt8} {fl:Bool} {g:Nd→Nd} (hg:∀n,NdOk n→NdOk (g n)) (he:∀n,(g n).ents=[]) (h:(plantF T c p fl g).1.2=0) :
 TreeW (plantF T c p fl g).2 o X∧((plantF T c p fl g).2.get (plantF T c p fl g).1.1).1.kind=(g (T.get (rD T c p fl)).1).kind∧(plantF T c p fl g).1.1≠0:=by
 have hno:NdOk (ownN c (T.get (rD T c p fl)).1 (g (T.get (rD T c p fl)).1)):=ownN_ok (hg _ (hT.nd _))
 have hnm:=resF_nm T c p fl
 unfold plantF at h ⊢
 split at h
 · rename_i h1;exact absurd h h1
 rename_i h1;rw [if_neg h1]
 split at h
 · cases h
 rename_i h2;rw [if_neg h2]
 split at h
 · cases h
 rename_i h3;rw [if_neg h3]
 split at h
 · cases h
 rename_i h4;rw [if_neg h4]
 split at h
 · rename_i h5;exact absurd h h5
 rename_i h5;rw [if_neg h5]
 have h50:=Classical.not_not.1 h5
 split at h
 · rename_i h6;exact absurd h h6
 rename_i h6;rw [if_neg h6]
 have h60:=Classical.not_not.1 h6
 obtain ⟨hr,j,hf,ej⟩:=addT_good h50
 obtain ⟨hfr,hga⟩:=add_get hT.1 hno h50
 have hwk:=withN_kind h60
 have hwz:=withN_zero h60
 have hd:(T.get (rD T c p fl)).1.kind=2:=by rw [hwz] at hwk;exact hwk
 have hdi:=get_kind_at (T:=T) (i:=rD T c p fl) (by rw [hd];decide)
 have hne:rD T c p fl≠(addT T (ownN c (T.get (rD T c p fl)).1 (g (T.get (rD T c p fl)).1))).1.1:=fun e=>by rw [←e,hdi] at hfr;cases hfr
 obtain ⟨_,hpg⟩:=putT_get (addT_ok hT.1 hno) (withN_ok (hT.nd _) (by omega)) (withN_right (hT.2.kind (by omega)) h60) (by rw [hga,if_neg hne];exact hdi)
 have hk0:(addT T (ownN c (T.get (rD T c p fl)).1 (g (T.get (rD T c p fl)).1))).1.1≠0:=by rw [ej];show (j:Int)+1≠0;omega
 refine ⟨hW.plant hT hd hfr (s:=rS T c p fl) (nn:=ownN c (T.get (rD T c p fl)).1 (g (T.get (rD T c p fl)).1)) (he _) hne fun i=>?_,?_,hk0⟩
 ·
  show (putT _ _ _).2.get i=_
  rw [hpg]
  split
  · rw [hwz]
  · rw [hga]
 ·
  show ((putT _ _ _).2.get _).1.kind=_
  rw [hpg,if_neg (Ne.symm hne),hga,if_pos rfl];rfl
theorem plant_any {T:Tab} (hT:Gd T) {o X:List Int} (hW:TreeW T o X) {c:Cr} {p:List UInt8} {fl:Bool} {g:Nd→Nd} (hg:∀n,NdOk n→NdOk (g n)) (he:∀n,(g n).ents=[]):TreeW (plantF T c p fl g).2 o X:=by
 by_cases h:(plantF T c p fl g).1.2=0
 · exact (plant_tree hT hW hg he h).1
 · rw [plantF_bad hT hg h];exact hW
theorem chg_tree {T:Tab} (hT:Gd T) {o X:List Int} (hW:TreeW T o X) {c:Cr} {p:List UInt8} {fl:Bool} {g:Nd→Nd×Int} (hg:∀n,NdOk n→NdOk (g n).1) (hs:∀n,(g n).1.kind=n.kind∧(g n).1.ents=n.ents):TreeW (chgF T c p fl g).2 o X:=by
 unfold chgF
 split
 · exact hW
 split
 · exact hW
 split
 · exact hW
 · exact hW.put hT (hg _ (hT.nd _)) (hs _).1 (hs _).2
theorem find_ent {T:Tab} (hT:Gd T) {c:Cr} {p:List UInt8} (h:findE T c p=0):Ent T (rD T c p false) (rS T c p false,rN T c p false)∧(T.get (rD T c p false)).1.kind=2∧1≤rN T c p false:=by
 obtain ⟨h1,h2,h3, _⟩:=findE_zero h
 rcases resF_at hT.2 c p false h1 with k | ⟨k1, _, _, _, _,k2⟩
 · exact absurd k.1 h3
 ·
  dsimp only at k1 k2
  rcases findF_pos (hT.2.kind (i:=rD T c p false) (by omega)) (s:=rS T c p false) with ⟨f1, _⟩ | ⟨f1, _,f3⟩
  · omega
  ·
   rw [←k2] at f1 f3
   exact ⟨f3,k1,f1⟩
theorem TreeW.irr {T:Tab} {o X:List Int} (hW:TreeW T o X) {d:Int} {e:En} (h:Ent T d e) (hk:(T.get e.2).1.kind=2):e.2≠d:=by
 obtain ⟨rk,hrk⟩:=hW.rk
 intro he
 have:=hrk d e h hk
 rw [he] at this
 exact absurd this (Nat.lt_irrefl _)
theorem unlink_tree {T:Tab} (hT:Gd T) {o:List Int} (hW:TreeW T o []) {c:Cr} {p:List UInt8}:TreeW (unlinkF T c p o).2 o []:=by
 unfold unlinkF
 split
 · exact hW
 rename_i h1
 split
 · exact hW
 rename_i h2
 obtain ⟨he,hd,hn⟩:=find_ent hT (Classical.not_not.1 h1)
 have hC:=hT.cut (rD T c p false) (rS T c p false)
 show TreeW (freeF _ _ _).2 o []
 refine (hW.cut hT he).free hC (hW.top _ _ he) ?_ (fun i hi=>by simpa using hi)
 exact no_ents hC (by rw [(cut_kind hT _ _ _).1];exact h2)
theorem rmdir_tree {T:Tab} (hT:Gd T) {o:List Int} (hW:TreeW T o []) {c:Cr} {p:List UInt8}:TreeW (rmdirF T c p).2 o []:=by
 unfold rmdirF
 split
 · exact hW
 rename_i h1
 split
 · exact hW
 rename_i h2
 split
 · exact hW
 rename_i h3
 obtain ⟨he,hd,hn⟩:=find_ent hT (Classical.not_not.1 h1)
 have hC:=hT.cut (rD T c p false) (rS T c p false)
 have hk:=Classical.not_not.1 h2
 have hir:=hW.irr he hk
 show TreeW (dropT _ _) o []
 refine (hW.cut hT he).gone hC (hW.top _ _ he) (fun d e h hei=>?_) ?_ (fun ho=>by
  have h9:(T.get (rN T c p false)).1.kind=1:=hW.fil _ ho
  omega) (fun i hi=>by simpa using hi)
 ·
  obtain ⟨k1,k2⟩:=(cut_ent hT _ _ _ _).1 h
  obtain ⟨q1,q2⟩:=hW.one _ _ _ _ k1 he hei (by rw [hei];exact hk)
  exact k2 q1 (by rw [q2])
 ·
  rw [cut_get hT,if_neg (fun h=>hir h.1)]
  show (T.get (rN T c p false)).1.ents=[]
  exact List.length_eq_zero_iff.1 (by omega)
theorem free_zero {T:Tab} (o:List Int):(freeF T 0 o).2=T:=by
 have:T.at 0=none:=by unfold Tab.at;rw [if_neg (by omega)]
 unfold freeF
 split
 · rfl
 ·
  show dropT T 0=T
  unfold dropT;rw [this]
theorem rename_tree {T:Tab} (hT:Gd T) {o:List Int} (hW:TreeW T o []) {c:Cr} {p q:List UInt8}:TreeW (renameF T c p q o).2 o []:=by
 by_cases hz:(renameF T c p q o).1=0
 case neg=>rw [renameF_bad hT hz];exact hW
 unfold renameF at hz ⊢
 split
 · exact hW
 rename_i h1;rw [if_neg h1] at hz
 split
 · exact hW
 rename_i h2;rw [if_neg h2] at hz
 split
 · exact hW
 rename_i h3;rw [if_neg h3] at hz
 split
 · exact hW
 rename_i h4;rw [if_neg h4] at hz
 split
 · exact hW
 rename_i h5;rw [if_neg h5] at hz
 split
 · exact hW
 rename_i h6;rw [if_neg h6] at hz
 split
 · exact hW
 rename_i h7;rw [if_neg h7] at hz
 have h10:=Classical.not_not.1 h1
 have h20:=Classical.not_not.1 h2
 obtain ⟨heP,hdP,hnP⟩:=find_ent hT h10
 have hqa:=resF_at hT.2 c q false h20
 have hnm:=resF_nm T c q false
 rcases hqa with hqa | ⟨qk,qn,q1,q2,q3,qf⟩
 · exact absurd hqa.1 h3
 dsimp only at qk qf
 have key:∀(U:Tab) (X:List Int),Gd U→TreeW U o X→(∀d e,Ent U d e→Ent T d e)→(∀i,(U.get i).1.kind=(T.get i).1.kind∧(U.get i).2=(T.get i).2)→Ent U (rD T c p false) (rS T c p false,rN T c p false) →
  (withN ((cutF U (rD T c p false) (rS T c p false)).get (rD T c q false)).1 (rS T c q false) (rN T c p false)).2=0 →
  TreeW (putT (cutF U (rD T c p false) (rS T c p false)) (rD T c q false) (withN ((cutF U (rD T c p false) (rS T c p false)).get (rD T c q false)).1 (rS T c q false) (rN T c p false)).1).2 o X ∧
  (∀d e,Ent (putT (cutF U (rD T c p false) (rS T c p false)) (rD T c q false) (withN ((cutF U (rD T c p false) (rS T c p false)).get (rD T c q false)).1 (rS T c q false) (rN T c p false)).1).2 d e→d=rD T c q false∨Ent T d e) ∧
  Gd (putT (cutF U (rD T c p false) (rS T c p false)) (rD T c q false) (withN ((cutF U (rD T c p false) (rS T c p false)).get (rD T c q false)).1 (rS T c q false) (rN T c p false)).1).2:=by
  intro U X hUg hU hsub hkd heU hw
  have hC:=hUg.cut (rD T c p false) (rS T c p false)
  have hWC:=hU.cut hUg heU
  have hCk:=fun i=>cut_kind hUg (rD T c p false) (rS T c p false) i
  have hCsub:∀d e,Ent (cutF U (rD T c p false) (rS T c p false)) d e→Ent T d e:=fun d e h=>hsub d e ((cut_ent hUg _ _ _ _).1 h).1
  have hn:=withN_ok (s:=rS T c q false) (id:=rN T c p false) (hC.nd (rD T c q false)) (by omega)
  have hdk:((cutF U (rD T c p false) (rS T c p false)).get (rD T c q false)).1.kind=2:=by rw [(hCk _).1,(hkd _).1];exact qk
  obtain ⟨_,hpg⟩:=putT_get hC.1 hn (withN_right (hC.2.kind (by rw [hdk];decide)) hw) (get_kind_at (by rw [hdk];decide))
  have hform:∀i,(putT (cutF U (rD T c p false) (rS T c p false)) (rD T c q false) (withN ((cutF U (rD T c p false) (rS T c p false)).get (rD T c q false)).1 (rS T c q false) (rN T c p false)).1).2.get i=if i=rD T c q false then (nWith ((cutF U (rD T c p false) (rS T c p false)).get (rD T c q false)).1 (insF ((cutF U (rD T c p false) (rS T c p false)).get (rD T c q false)).1.ents (rS T c q false) (rN T c p false)),true) else (cutF U (rD T c p false) (rS T c p false)).get i:=fun i=>by
   rw [hpg,withN_zero hw]
  refine ⟨hWC.ins hC hdk (by rw [(hCk _).2,(hkd _).2];exact hW.kid _ _ heP) (hW.top _ _ heP) (fun hnk=>?_) (fun i hi=>by simpa using hi) hform,fun d e h=>?_,hC.put hn _⟩
  ·
   have hnk2:(T.get (rN T c p false)).1.kind=2:=by rw [←(hkd _).1,←(hCk _).1];exact hnk
   refine ⟨fun d e h hei=>?_,fun k hk=>?_⟩
   ·
    obtain ⟨k1,k2⟩:=(cut_ent hUg _ _ _ _).1 h
    obtain ⟨r1,r2⟩:=hW.one _ _ _ _ (hsub _ _ k1) heP hei (by rw [hei];exact hnk2)
    exact k2 r1 (by rw [r2])
   ·
    have hb:belowL T (rN T c p false) 24 (rD T c q false)=false:=by
     cases hb:belowL T (rN T c p false) 24 (rD T c q false) with
     | false=>rfl
     | true=>exact absurd ⟨hnk2,hb⟩ h6
    have h0:=par_zero hC hWC
    obtain ⟨u1, _⟩:=up_sub hT hC hW (.inr h0) hCsub qk k (by rw [hk];show rN T c p false≠0;omega)
    exact below_never hT hW (by omega) qk hb k (by rw [←u1];exact hk)
  ·
   unfold Ent at h
   rw [hform] at h
   split at h
   · rename_i hd;exact .inl hd
   · exact .inr (hCsub d e h)
 split
 ·
  rename_i h8
  rw [if_pos h8] at hz
  split
  · exact hW
  ·
   rename_i h9
   have heQ:Ent T (rD T c q false) (rS T c q false,rN T c q false):=by
    rcases findF_pos (hT.2.kind (i:=rD T c q false) (by omega)) (s:=rS T c q false) with ⟨f1, _⟩ | ⟨_, _,f3⟩
    · rw [←qf] at f1;exact absurd f1 h8
    · rw [←qf] at f3;exact f3
   obtain ⟨g1,g2⟩:=renL_good hT o h10 h20 h3 (.inl ⟨h8,rfl⟩)
   have hUg:=hT.cut (rD T c q false) (rS T c q false)
   have heU:Ent (cutF T (rD T c q false) (rS T c q false)) (rD T c p false) (rS T c p false,rN T c p false):=(cut_ent hT _ _ _ _).2 ⟨heP,fun hd hs=>by
    dsimp only at hs
    rw [hd] at heP
    have:=ent_name hT heP heQ hs
    exact h5 (congrArg Prod.snd this).symm⟩
   obtain ⟨k1,k2,k3⟩:=key _ _ hUg (hW.cut hT heQ) (fun d e h=>((cut_ent hT _ _ _ _).1 h).1) (fun i=>cut_kind hT _ _ i) heU g1
   unfold renL
   rw [if_pos g1]
   show TreeW (freeF _ _ _).2 o []
   have hqe:(T.get (rN T c q false)).1.ents=[]:=by
    have h90:=Classical.not_not.1 h9
    unfold overF at h90
    split at h90
    · cases h90
    split at h90
    · cases h90
    split at h90
    · cases h90
    split at h90
    · cases h90
    · exact List.length_eq_zero_iff.1 (by omega)
   refine k1.free k3 (hW.top _ _ heQ) (List.eq_nil_iff_forall_not_mem.2 fun e he=>?_) (fun i hi=>by simpa using hi)
   rcases k2 _ e he with hd | he
   · exact hW.irr heQ (by rw [←hd] at qk;exact qk) hd
   · unfold Ent at he;rw [hqe] at he;cases he
 ·
  rename_i h8
  rw [if_neg h8] at hz
  have h80:=Classical.not_not.1 h8
  obtain ⟨g1,g2⟩:=renL_good hT o h10 h20 h3 (.inr ⟨h80,rfl,by
   by_cases e:rD T c q false=rD T c p false
   · exact .inl e
   ·
    exact .inr (by
     by_cases e8:(8:Int)≤(T.get (rD T c q false)).1.ents.length
     · exact absurd ⟨h80,e,e8⟩ h7
     · omega)⟩)
  obtain ⟨k1,k2,k3⟩:=key _ _ hT hW (fun d e h=>h) (fun i=>⟨rfl,rfl⟩) heP g1
  unfold renL
  rw [if_pos g1]
  show TreeW (freeF _ (rN T c q false) _).2 o []
  rw [h80,free_zero];exact k1
theorem cha_tree {T:Tab} (hT:Gd T) {o:List Int} (hW:TreeW T o []) (P:Pr) (ca:Ca):TreeW (chaF T P ca o).2 o []:=by
 unfold chaF
 split
 ·
  unfold chmodF;split
  · exact hW
  · exact chg_tree hT hW (chmodG_ok _ _) fun n=>by unfold chmodG;cases mayMode P.c n.uid<;>exact ⟨rfl,rfl⟩
 split
 · exact plant_any hT hW (fun n hn=>⟨Nat.zero_le _,Nat.zero_le _,Nat.zero_le _,fun e he=>nomatch he⟩) fun n=>rfl
 split
 ·
  unfold symlinkF
  split
  · exact hW
  split
  · exact hW
  split
  · exact hW
  · exact plant_any hT hW (fun n hn=>⟨Nat.zero_le _,Nat.zero_le _,(by show ca.other.length≤1000;omega),fun e he=>nomatch he⟩) fun n=>rfl
 split
 · exact unlink_tree hT hW
 split
 · exact rmdir_tree hT hW
 split
 · exact rename_tree hT hW
 ·
  unfold chownF;split
  · exact hW
  ·
   refine chg_tree hT hW (chownG_ok _ _ _) fun n=>?_
   unfold chownG
   cases mayOwn P.c n.uid n.gid ca.a ca.b with
   | false=>exact ⟨rfl,rfl⟩
   | true=>
    rw [cond_true]
    split<;>exact ⟨rfl,rfl⟩
theorem open_tree {T:Tab} (hT:Gd T) {o:List Int} (hW:TreeW T o []) {c:Cr} {um:Int} {p:List UInt8} {f m:Int} (h:(openF T c um p f m).1.2=0) :
 TreeW (openF T c um p f m).2 o []∧((openF T c um p f m).2.get (openF T c um p f m).1.1).1.kind=1∧(openF T c um p f m).1.1≠0:=by
 unfold openF at h ⊢
 split at h
 · cases h
 rename_i h1;rw [if_neg h1]
 split at h
 · rename_i h2;exact absurd h h2
 rename_i h2;rw [if_neg h2]
 split at h
 ·
  rename_i h3;rw [if_pos h3]
  split at h
  · cases h
  ·
   rename_i h4;rw [if_neg h4]
   exact plant_tree hT hW (fun n hn=>⟨Nat.zero_le _,Nat.zero_le _,Nat.zero_le _,fun e he=>nomatch he⟩) (fun n=>rfl) h
 rename_i h3;rw [if_neg h3]
 have hi:(T.get (rN T c p (!hasF f 40))).2=true:=by simpa using h3
 split at h
 · cases h
 rename_i h4;rw [if_neg h4]
 split at h
 · cases h
 rename_i h5;rw [if_neg h5]
 split at h
 · cases h
 rename_i h6;rw [if_neg h6]
 generalize bits .or .i64 (if hasF f 1=true then 4 else 0) (if hasF f 2=true then 2 else 0)=w at h ⊢
 split at h
 · cases h
 rename_i h7;rw [if_neg h7]
 have hk:(T.get (rN T c p (!hasF f 40))).1.kind=1:=by
  rcases right_cases (hT.2.get hi) with ⟨_,k | k | k⟩
  · exact k.1
  · exact absurd k.1 h6
  · exact absurd k.1 h5
 have hp:=get_pos hT.1 hi
 split
 ·
  have hn:=dataN_ok (c:=c) (hT.nd (rN T c p (!hasF f 40))) (b:=[]) (Nat.zero_le _)
  refine ⟨hW.put hT hn rfl rfl,?_,by show rN T c p (!hasF f 40)≠0;omega⟩
  show ((putT _ _ _).2.get (rN T c p (!hasF f 40))).1.kind=1
  by_cases hr:rightF (dataN c (T.get (rN T c p (!hasF f 40))).1 [])=true
  · rw [(putT_get hT.1 hn hr hi).2,if_pos rfl];exact hk
  ·
   have e:(putT T (rN T c p (!hasF f 40)) (dataN c (T.get (rN T c p (!hasF f 40))).1 [])).2=T:=by
    obtain ⟨j,ha, _⟩:=get_isat hi
    unfold putT;rw [ha];simp [show rightF (dataN c (T.get (rN T c p (!hasF f 40))).1 [])=false by simpa using hr]
   rw [e];exact hk
 · exact ⟨hW,hk,by show rN T c p (!hasF f 40)≠0;omega⟩
theorem prO_iff {P:Pr} {n:Nat} {y:Int}:y∈prO P n↔∃j,j<n∧(P.fd j).node=y∧y≠0:=by
 unfold prO
 rw [List.mem_map]
 constructor
 ·
  rintro ⟨j,hj,rfl⟩
  obtain ⟨h1,h2⟩:=List.mem_filter.1 hj
  exact ⟨j,List.mem_range.1 h1,rfl,by simpa using h2⟩
 ·
  rintro ⟨j,hj,rfl,hn⟩
  exact ⟨j,List.mem_filter.2 ⟨List.mem_range.2 hj,by simpa using hn⟩,rfl⟩
theorem openL_iff {ps:List Pr} {y:Int}:y∈openL ps↔∃i,∃h:i<ps.length,∃j,j<3∧(ps[i].fd j).node=y∧y≠0:=by
 unfold openL
 rw [List.mem_flatMap]
 constructor
 ·
  rintro ⟨P,hP,hy⟩
  obtain ⟨i,hi,rfl⟩:=List.mem_iff_getElem.1 hP
  exact ⟨i,hi,prO_iff.1 hy⟩
 ·
  rintro ⟨i,hi,h⟩
  exact ⟨ps[i],List.getElem_mem hi,prO_iff.2 h⟩
theorem fd_put_same (P:Pr) {i:Nat} (f:Fde) (hi:i<3):(P.put i f).fd i=f:=by
 rcases (show i=0∨i=1∨i=2 by omega) with rfl | rfl | rfl<;>rfl
theorem fd_put_ne (P:Pr) {i j:Nat} (f:Fde) (hi:i<3) (hj:j<3) (h:j≠i):(P.put i f).fd j=P.fd j:=by
 rcases (show i=0∨i=1∨i=2 by omega) with rfl | rfl | rfl<;>rcases (show j=0∨j=1∨j=2 by omega) with rfl | rfl | rfl<;>first | rfl | exact absurd rfl h
theorem shut_tree {T:Tab} (hT:Gd T) {ps:List Pr} {pid:Nat} {P:Pr} (hp:pid<ps.length) (hP:ps[pid]=P) (hW:TreeW T (openL ps) []) (a:Int):TreeW (shutF T ps pid P a).2.1 (openL (ps.set pid (shutF T ps pid P a).2.2)) []:=by
 unfold shutF
 split
 ·
  show TreeW T (openL (ps.set pid P)) []
  rw [openL_set hp (by intro j;rw [hP])];exact hW
 ·
  rename_i h
  obtain ⟨i,hi,hi3⟩:∃i:Nat,a.toNat=i∧i<3:=⟨a.toNat,rfl,by
   apply Classical.byContradiction
   intro hc
   exact h (.inl (by omega))⟩
  rw [hi] at h ⊢
  have hn0:(P.fd i).node≠0:=fun e=>h (.inr e)
  have hmem:(P.fd i).node∈openL ps:=openL_iff.2 ⟨pid,hp,i,hi3,by rw [hP],hn0⟩
  have hk:=hW.fil _ hmem
  show TreeW (freeF T (P.fd i).node (openL (ps.set pid (P.put i fd0)))).2 (openL (ps.set pid (P.put i fd0))) []
  have hW2:TreeW T (openL (ps.set pid (P.put i fd0))) [(P.fd i).node]:=hW.less (fun y hy=>by
   obtain ⟨q,hq,j,hj,hy1,hy2⟩:=openL_iff.1 hy
   rw [List.length_set] at hq
   rw [List.getElem_set] at hy1
   split at hy1
   ·
    by_cases hji:j=i
    ·
     subst hji
     rw [fd_put_same P fd0 hj] at hy1
     exact absurd hy1.symm hy2
    ·
     rw [fd_put_ne P fd0 hi3 hj hji] at hy1
     exact openL_iff.2 ⟨pid,hp,j,hj,by rw [hP];exact hy1,hy2⟩
   · exact openL_iff.2 ⟨q,hq,j,hj,hy1,hy2⟩) (fun i hi=>nomatch hi) (fun y hy=>by
   obtain ⟨q,hq,j,hj,hy1,hy2⟩:=openL_iff.1 hy
   by_cases hqp:q=pid
   ·
    subst hqp
    rw [hP] at hy1
    by_cases hji:j=i
    · subst hji;exact .inr (by simp [hy1])
    ·
     refine .inl (openL_iff.2 ⟨q,by rw [List.length_set];exact hq,j,hj,?_,hy2⟩)
     rw [List.getElem_set_self,fd_put_ne P fd0 hi3 hj hji];exact hy1
   ·
    refine .inl (openL_iff.2 ⟨q,by rw [List.length_set];exact hq,j,hj,?_,hy2⟩)
    rw [List.getElem_set_ne (Ne.symm hqp)];exact hy1)
  exact hW2.free hT (fun e=>by rw [e,hW.root] at hk;cases hk) (no_ents hT (by rw [hk];decide)) (fun i hi=>by simpa using hi)
theorem shutN_tree {T:Tab} (hT:Gd T) {ps:List Pr} {pid:Nat} {P:Pr} (hp:pid<ps.length) (hP:ps[pid]=P) (hW:TreeW T (openL ps) []):∀n,TreeW (shutN T ps pid P n).1 (openL (ps.set pid (shutN T ps pid P n).2)) []
 | 0=>by
  show TreeW T (openL (ps.set pid P)) []
  rw [openL_set hp (by intro j;rw [hP])];exact hW
 | n+1=>by
  obtain ⟨h1,h2, _⟩:=shutN_ok (ps:=ps) (pid:=pid) (P:=P) hT.1 hT.2 n
  have:=shut_tree ⟨h1,h2⟩ (ps:=ps.set pid (shutN T ps pid P n).2) (pid:=pid) (P:=(shutN T ps pid P n).2) (by rw [List.length_set];exact hp) (List.getElem_set_self _) (shutN_tree hT hp hP hW n) (n:Nat)
  rw [List.set_set] at this
  exact this
theorem shutN_fd {T:Tab} {ps:List Pr} {pid:Nat} {P:Pr}:∀n,n≤3→∀j,j<n→((shutN T ps pid P n).2.fd j).node=0
 | 0, _,j,hj=>absurd hj (Nat.not_lt_zero _)
 | n+1,hn,j,hj=>by
  show ((shutF (shutN T ps pid P n).1 (ps.set pid (shutN T ps pid P n).2) pid (shutN T ps pid P n).2 (n:Nat)).2.2.fd j).node=0
  unfold shutF
  split
  ·
   rename_i h
   rw [Int.toNat_natCast] at h
   rcases Nat.lt_succ_iff_lt_or_eq.1 hj with h1 | h1
   · exact shutN_fd n (by omega) j h1
   ·
    subst h1
    exact h.elim (fun h=>by omega) id
  ·
   rw [Int.toNat_natCast]
   show (((shutN T ps pid P n).2.put n fd0).fd j).node=0
   by_cases hjn:j=n
   · subst hjn;rw [fd_put_same _ _ (by omega)];rfl
   · rw [fd_put_ne _ _ (by omega) (by omega) hjn];exact shutN_fd n (by omega) j (by omega)
theorem doF_tree {T:Tab} (hT:Gd T) {ps:List Pr} (hW:TreeW T (openL ps) []) (pid:Int) (ca:Ca):TreeW (doF T ps pid ca).2.1 (openL (doF T ps pid ca).2.2) []:=by
 unfold doF
 by_cases hp:0≤pid∧pid<ps.length
 ·
  rw [if_pos hp]
  obtain ⟨n,rfl⟩:∃n:Nat,pid=(n:Int):=⟨pid.toNat,by omega⟩
  have hn:n<ps.length:=by omega
  rw [Int.toNat_natCast]
  have hgd:ps.getD n pr0=ps[n]:=by rw [List.getD_eq_getElem?_getD,List.getElem?_eq_getElem hn];rfl
  rw [hgd]
  have hsame:∀(U:Tab) (Q:Pr),TreeW U (openL ps) []→(∀j,(Q.fd j).node=(ps[n].fd j).node)→TreeW U (openL (ps.set n Q)) []:=fun U Q hU hQ=>by rw [openL_set hn hQ];exact hU
  show TreeW (stepF T ps n ps[n] ca).2.1 (openL (ps.set n (stepF T ps n ps[n] ca).2.2)) []
  obtain ⟨P,hP⟩:∃P,ps[n]=P:=⟨_,rfl⟩
  rw [hP] at hsame ⊢
  have ho:∀i,i<3→(P.fd i).node=0→TreeW (opnAt T P ca i).2.1 (openL (ps.set n (opnAt T P ca i).2.2)) []:=fun i hi h0=>by
   unfold opnAt
   split
   ·
    rename_i he
    show TreeW (openF T P.c P.um ca.path ca.a ca.b).2 (openL (ps.set n P)) []
    rw [openF_bad hT he]
    exact hsame T P hW fun j=>rfl
   ·
    rename_i he
    obtain ⟨k1,k2,k3⟩:=open_tree hT hW (Classical.not_not.1 he)
    generalize openF T P.c P.um ca.path ca.a ca.b=r at k1 k2 k3
    show TreeW r.2 (openL (ps.set n (P.put i ⟨r.1.1,0,hasF ca.a 1,hasF ca.a 2⟩))) []
    refine k1.more (fun y hy=>?_) (fun y hy=>?_)
    ·
     obtain ⟨q,hq,j,hj,hy1,hy2⟩:=openL_iff.1 hy
     by_cases hqn:q=n
     ·
      subst hqn
      rw [hP] at hy1
      refine openL_iff.2 ⟨q,by rw [List.length_set];exact hq,j,hj,?_,hy2⟩
      rw [List.getElem_set_self,fd_put_ne P _ hi hj (fun e=>by subst e;rw [h0] at hy1;exact hy2 hy1.symm)]
      exact hy1
     ·
      refine openL_iff.2 ⟨q,by rw [List.length_set];exact hq,j,hj,?_,hy2⟩
      rw [List.getElem_set_ne (Ne.symm hqn)];exact hy1
    ·
     obtain ⟨q,hq,j,hj,hy1,hy2⟩:=openL_iff.1 hy
     rw [List.length_set] at hq
     rw [List.getElem_set] at hy1
     split at hy1
     ·
      by_cases hji:j=i
      ·
       subst hji
       rw [fd_put_same P _ hj] at hy1
       rw [←hy1];exact k2
      ·
       rw [fd_put_ne P _ hi hj hji] at hy1
       exact k1.fil y (openL_iff.2 ⟨n,hn,j,hj,by rw [hP];exact hy1,hy2⟩)
     · exact k1.fil y (openL_iff.2 ⟨q,hq,j,hj,hy1,hy2⟩)
  unfold stepF
  split
  ·
   unfold opnF
   split
   · rename_i k;exact ho 0 (by omega) k
   split
   · rename_i k;exact ho 1 (by omega) k
   split
   · rename_i k;exact ho 2 (by omega) k
   · exact hsame T P hW fun j=>rfl
  split
  ·
   refine hsame T (redF T P ca).2 hW fun j=>?_
   unfold redF
   split
   · rfl
   · exact put_node P _ j _ rfl (by omega)
  split
  ·
   unfold wriF
   split
   · exact hsame T P hW fun j=>rfl
   have hw:TreeW (writeAtF T P.c (P.fd ca.a.toNat).node (P.fd ca.a.toNat).off ca.data).2 (openL ps) []:=by
    have hd:=(hT.nd (P.fd ca.a.toNat).node).1
    unfold writeAtF
    split
    · exact hW
    split
    · exact hW
    split
    · exact hW
    split
    · exact hW
    · exact hW.put hT (dataN_ok (hT.nd _) (by rw [overB_len];omega)) rfl rfl
   split
   · exact hsame _ P hw fun j=>rfl
   · exact hsame _ _ hw fun j=>put_node P _ j _ rfl (by omega)
  split
  · exact shut_tree hT hn hP hW ca.a
  split
  · exact hsame T _ hW fun j=>by unfold maskF;match j with | 0=>rfl | 1=>rfl | j+2=>rfl
  split
  · exact shutN_tree hT hn hP hW 3
  split
  · exact hsame T P hW fun j=>rfl
  split
  · exact hsame _ P (cha_tree hT hW P ca) fun j=>rfl
  · exact hsame T P hW fun j=>rfl
 · rw [if_neg hp];exact hW
end Go.Proofs.YtmgnbgniikjhdaaGreat
