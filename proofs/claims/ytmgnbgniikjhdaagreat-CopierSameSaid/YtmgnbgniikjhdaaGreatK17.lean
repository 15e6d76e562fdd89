import Derived.Test.YtmgnbgniikjhdaaGreatK16
/-
  CP: what it can't do.
-/
set_option linter.unusedVariables false
set_option linter.unusedSimpArgs false
namespace Go.Proofs.YtmgnbgniikjhdaaGreat
open Go.Ab
set_option maxRecDepth 8000
set_option maxHeartbeats 400000
theorem get_no' {T:Tab} {i:Int} (h:(T.get i).2=false):T.get i=(nd0,false):=by
 cases ha:T.at i with
 | none=>exact get_no ha
 | some j=>rw [get_at ha] at h;cases h
theorem plant_get {T:Tab} (hT:Gd T) {c:Cr} {p:List UInt8} {fl:Bool} {g:Nd→Nd} (hg:∀n,NdOk n→NdOk (g n)) (he:∀n,(g n).ents=[]) (h:(plantF T c p fl g).1.2=0) :
 rE T c p fl=0∧rN T c p fl=0∧canT c T (rD T c p fl) 3=true∧(T.get (rD T c p fl)).1.kind=2∧(T.get (plantF T c p fl g).1.1).2=false∧rD T c p fl≠(plantF T c p fl g).1.1 ∧
 (∀i,(plantF T c p fl g).2.get i=if i=rD T c p fl then (nWith (T.get (rD T c p fl)).1 (insF (T.get (rD T c p fl)).1.ents (rS T c p fl) (plantF T c p fl g).1.1),true) else if i=(plantF T c p fl g).1.1 then (ownN c (T.get (rD T c p fl)).1 (g (T.get (rD T c p fl)).1),true) else T.get i):=by
 have hno:NdOk (ownN c (T.get (rD T c p fl)).1 (g (T.get (rD T c p fl)).1)):=ownN_ok (hg _ (hT.nd _))
 have hnm:=resF_nm T c p fl
 have hG:=hT.plant (c:=c) p fl hg
 unfold plantF at h ⊢
 unfold plantF at hG
 split at h
 · rename_i h1;exact absurd h h1
 rename_i h1;rw [if_neg h1] at hG ⊢
 split at h
 · cases h
 rename_i h2;rw [if_neg h2] at hG ⊢
 split at h
 · cases h
 rename_i h3;rw [if_neg h3] at hG ⊢
 split at h
 · cases h
 rename_i h4;rw [if_neg h4] at hG ⊢
 split at h
 · rename_i h5;exact absurd h h5
 rename_i h5;rw [if_neg h5] at hG ⊢
 have h50:=Classical.not_not.1 h5
 split at h
 · rename_i h6;exact absurd h h6
 rename_i h6;rw [if_neg h6] at hG ⊢
 have h60:=Classical.not_not.1 h6
 obtain ⟨hfr,hga⟩:=add_get hT.1 hno h50
 have hwk:=withN_kind h60
 have hwz:=withN_zero h60
 have hd:(T.get (rD T c p fl)).1.kind=2:=by rw [hwz] at hwk;exact hwk
 have hdi:=get_kind_at (T:=T) (i:=rD T c p fl) (by rw [hd];decide)
 have hne:rD T c p fl≠(addT T (ownN c (T.get (rD T c p fl)).1 (g (T.get (rD T c p fl)).1))).1.1:=fun e=>by rw [←e,hdi] at hfr;cases hfr
 obtain ⟨_,hpg⟩:=putT_get (addT_ok hT.1 hno) (withN_ok (hT.nd _) (by omega)) (withN_right (hT.2.kind (by omega)) h60) (by rw [hga,if_neg hne];exact hdi)
 have hform:∀i,(putT (addT T (ownN c (T.get (rD T c p fl)).1 (g (T.get (rD T c p fl)).1))).2 (rD T c p fl) (withN (T.get (rD T c p fl)).1 (rS T c p fl) (addT T (ownN c (T.get (rD T c p fl)).1 (g (T.get (rD T c p fl)).1))).1.1).1).2.get i =
  if i=rD T c p fl then (nWith (T.get (rD T c p fl)).1 (insF (T.get (rD T c p fl)).1.ents (rS T c p fl) (addT T (ownN c (T.get (rD T c p fl)).1 (g (T.get (rD T c p fl)).1))).1.1),true) else if i=(addT T (ownN c (T.get (rD T c p fl)).1 (g (T.get (rD T c p fl)).1))).1.1 then (ownN c (T.get (rD T c p fl)).1 (g (T.get (rD T c p fl)).1),true) else T.get i:=fun i=>by
  rw [hpg,hwz]
  split
  · rfl
  · exact hga i
 dsimp only at hG ⊢
 exact ⟨Classical.not_not.1 h1,Classical.not_not.1 h2,by simpa using h3,hd,hfr,hne,hform⟩
def suB (m:Int):Prop:=bits .and .i64 m 2048≠0
theorem n4096 {m:Int} (h:0≤m∧m≤4095):∃a:Nat,a<4096∧m=a:=⟨m.toNat,by omega,by omega⟩
theorem su_wr_fin:∀(a:Fin 4096) (b:Bool),bits .and .i64 (clearF b (clearF true (bits .and .i64 (a.val:Int) 4095) 2048) 1024) 2048=0:=by decide +kernel
theorem su_md_fin:∀(a:Fin 4096),(bits .and .i64 (bits .and .i64 (a.val:Int) 4095) 2048=0∨bits .and .i64 (a.val:Int) 2048≠0)∧(bits .and .i64 (bits .andNot .i64 (bits .and .i64 (a.val:Int) 4095) 1024) 2048=0∨bits .and .i64 (a.val:Int) 2048≠0):=by decide +kernel
theorem su_an_fin:∀(a:Fin 4096),bits .and .i64 (bits .andNot .i64 (a.val:Int) 3072) 2048=0:=by decide +kernel
theorem su_lo_fin:∀(a:Fin 512),bits .and .i64 (a.val:Int) 2048=0:=by decide +kernel
theorem and511_bd (m:Int):∃a:Nat,a<512∧bits .and .i64 m 511=a:=by
 have h7:(BitVec.ofInt 64 511).toNat=2^9 - 1:=by decide
 have key:(BitVec.ofInt 64 m &&& BitVec.ofInt 64 511).toNat=(m%((2^64:Nat):Int)).toNat%2^9:=by
  rw [BitVec.toNat_and,BitVec.toNat_ofInt,h7,Nat.and_two_pow_sub_one_eq_mod]
 refine ⟨_,?_,show IntKind.i64.wrap ((BitVec.ofInt 64 m &&& BitVec.ofInt 64 511).toNat:Nat)=_ from IntWalk.i64_in _ (by rw [key];omega)⟩
 rw [key];omega
theorem anot_bd {a:Nat} (h:a<512) (u:Int):∃b:Nat,b<512∧bits .andNot .i64 (a:Int) u=b:=by
 have key:(BitVec.ofInt 64 (a:Int) &&& ~~~BitVec.ofInt 64 u).toNat≤a:=by
  rw [BitVec.toNat_and,BitVec.ofInt_natCast,BitVec.toNat_ofNat,Nat.mod_eq_of_lt (show a<2^64 by omega)]
  exact Nat.and_le_left
 exact ⟨_,by omega,show IntKind.i64.wrap ((BitVec.ofInt 64 (a:Int) &&& ~~~BitVec.ofInt 64 u).toNat:Nat)=_ from IntWalk.i64_in _ (by omega)⟩
theorem su_file (um m:Int) (d:Nd):¬suB (fileG um m d).mode:=by
 obtain ⟨a,ha,e⟩:=and511_bd m
 obtain ⟨b,hb,e2⟩:=anot_bd ha um
 have h:(fileG um m d).mode=(b:Int):=by rw [←e2,←e];rfl
 unfold suB
 rw [h,su_lo_fin ⟨b,hb⟩]
 exact fun h=>h rfl
theorem su_writ {c:Cr} (hc:c.uid≠0) {m:Int} (h:0≤m∧m≤4095):¬suB (writtenF c 1 m):=by
 obtain ⟨a,ha,rfl⟩:=n4096 h
 have hf:fileF c 1=true:=by simp [fileF,hc]
 unfold suB writtenF
 rw [hf]
 exact fun k=>k (su_wr_fin ⟨a,ha⟩ _)
theorem su_mode {c:Cr} {k g m:Int} (h:0≤m∧m≤4095) (hs:suB (modeF c k g m)):suB m:=by
 obtain ⟨a,ha,rfl⟩:=n4096 h
 obtain ⟨h1,h2⟩:=su_md_fin ⟨a,ha⟩
 unfold suB modeF at *
 cases hb:(decide (c.uid=0)||!decide (k=1)||memF c g) with
 | true=>rw [hb] at hs;exact h1.resolve_left hs
 | false=>rw [hb] at hs;exact h2.resolve_left hs
theorem right_mode {n:Nd} (h:rightF n=true):(0≤n.mode∧n.mode≤4095)∧0≤n.uid:=by
 have:=(right_cases h).1
 simp only [Bool.or_eq_false_iff,decide_eq_false_iff_not,Bool.not_eq_false',idB,Bool.and_eq_true,decide_eq_true_eq] at this
 omega
section
variable {W T T':Tab} {c:Cr} {any:Prop}
structure NdS (c:Cr) (any:Prop) (a b:Nd):Prop where
 u:b.uid=a.uid
 k:b.kind=a.kind
 s:a.kind=1→suB b.mode→(suB a.mode∨(a.uid=c.uid∧any))∧(a.uid≠c.uid→b.data=a.data)
theorem NdS.refl (a:Nd):NdS c any a a:=⟨rfl,rfl,fun _ h=>⟨.inl h,fun _=>rfl⟩⟩
structure TbS (c:Cr) (any:Prop) (T T':Tab):Prop where
 keep:∀i,(T.get i).2=true→(T'.get i).2=true∧NdS c any (T.get i).1 (T'.get i).1
 make:∀i,(T.get i).2=false→(T'.get i).2=true→(T'.get i).1.uid=c.uid∧((T'.get i).1.kind=1→¬suB (T'.get i).1.mode)∧∃d e,Ent T' d e∧e.2=i
 ent:∀d e,Ent T d e→∃d' e',Ent T' d' e'∧e'.2=e.2
theorem TbS.refl:TbS c any T T:=⟨fun i h=>⟨h,.refl _⟩,fun i h h'=>(by rw [h] at h';cases h'),fun d e h=>⟨d,e,h,rfl⟩⟩
theorem put_or (hT:Gd T) {i:Int} {n:Nd} (hn:NdOk n):(putT T i n).2=T∨((T.get i).2=true∧∀k,(putT T i n).2.get k=if k=i then (n,true) else T.get k):=by
 cases ha:T.at i with
 | none=>left;unfold putT;rw [ha]
 | some j=>
  by_cases hr:rightF n=true
  ·
   have hi:(T.get i).2=true:=by rw [get_at ha]
   exact .inr ⟨hi,(putT_get hT.1 hn hr hi).2⟩
  · left;unfold putT;rw [ha];simp [show rightF n=false by simpa using hr]
theorem TbS.put (hT:Gd T) {i:Int} {n:Nd} (hn:NdOk n) (h:(T.get i).2=true→NdS c any (T.get i).1 n) (he:n.ents=(T.get i).1.ents):TbS c any T (putT T i n).2:=by
 rcases put_or hT hn (i:=i) with e | ⟨hi,hg⟩
 · rw [e];exact .refl
 refine ⟨fun k hk=>?_,fun k hk hk'=>?_,fun d e hd=>⟨d,e,?_,rfl⟩⟩
 ·
  rw [hg];split
  · rename_i e;subst e;exact ⟨rfl,h hi⟩
  · exact ⟨hk,.refl _⟩
 ·
  rw [hg] at hk'
  split at hk'
  · rename_i e;subst e;rw [hi] at hk;cases hk
  · rw [hk] at hk';cases hk'
 ·
  unfold Ent at hd ⊢
  rw [hg];split
  · rename_i e;subst e;show _∈n.ents;rw [he];exact hd
  · exact hd
theorem TbS.chg (hT:Gd T) {p:List UInt8} {fl:Bool} {g:Nd→Nd×Int} (hg:∀n,NdOk n→NdOk (g n).1) (h:∀n,rightF n=true→(g n).2=0→NdS c any n (g n).1) (he:∀n,(g n).1.ents=n.ents):TbS c any T (chgF T c p fl g).2:=by
 unfold chgF
 split
 · exact .refl
 split
 · exact .refl
 rename_i h1
 split
 · exact .refl
 rename_i h2
 exact .put hT (hg _ (hT.nd _)) (fun hi=>h _ (hT.2.get hi) (Classical.not_not.1 h2)) (he _)
theorem TbS.data (hT:Gd T) (hc:c.uid≠0) {i:Int} {b:List UInt8} (hb:b.length≤1000) (hk:(T.get i).1.kind=1):TbS c any T (putT T i (dataN c (T.get i).1 b)).2:=by
 refine .put hT (dataN_ok (hT.nd i) hb) (fun hi=>⟨rfl,rfl,fun _ hs=>?_⟩) rfl
 exfalso
 have hm:=right_mode (hT.2.get hi)
 have hs2:suB (writtenF c (T.get i).1.kind (T.get i).1.mode):=hs
 rw [hk] at hs2
 exact su_writ hc hm.1 hs2
theorem TbS.plant (hT:Gd T) {p:List UInt8} {fl:Bool} {g:Nd→Nd} (hg:∀n,NdOk n→NdOk (g n)) (he:∀n,(g n).ents=[]) (hs:∀n,¬suB (g n).mode):TbS c any T (plantF T c p fl g).2:=by
 by_cases h:(plantF T c p fl g).1.2=0
 ·
  obtain ⟨-, -, -,hd,hf,hne,hG⟩:=plant_get hT hg he h
  generalize rD T c p fl=d at hd hne hG
  generalize rS T c p fl=s at hG
  generalize (plantF T c p fl g).1.1=k at hf hne hG
  generalize (plantF T c p fl g).2=U at hG
  have hdi:=get_kind_at (T:=T) (i:=d) (by rw [hd];decide)
  refine ⟨fun i hi=>?_,fun i hi hi'=>?_,fun d' e hd'=>⟨d',e,?_,rfl⟩⟩
  ·
   rw [hG];split
   · rename_i e;subst e;exact ⟨rfl,rfl,rfl,fun hk=>by rw [hd] at hk;cases hk⟩
   split
   · rename_i e;subst e;rw [hf] at hi;cases hi
   · exact ⟨hi,.refl _⟩
  ·
   have hk:i=k:=by
    rw [hG] at hi'
    split at hi'
    · rename_i e;subst e;rw [hdi] at hi;cases hi
    split at hi'
    · assumption
    · rw [hi] at hi';cases hi'
   subst hk
   refine ⟨?_,fun _=>?_,d,(s,i),?_,rfl⟩
   · rw [hG,if_neg (Ne.symm hne),if_pos rfl];rfl
   · rw [hG,if_neg (Ne.symm hne),if_pos rfl];exact hs _
   · unfold Ent;rw [hG,if_pos rfl];exact mem_insF.2 (.inl rfl)
  ·
   unfold Ent at hd' ⊢
   rw [hG];split
   · rename_i e;subst e;exact mem_insF.2 (.inr hd')
   split
   ·
    rename_i e;subst e
    have:=get_no' hf
    rw [this] at hd';cases hd'
   · exact hd'
 · rw [plantF_bad hT hg h];exact .refl
structure Sf (W:Tab) (c:Cr) (any:Prop) (T:Tab) (ps:List Pr):Prop where
 gd:Gd T
 tr:TreeW T (openL ps) []
 pr:∃P,ps=[P]∧P.c=c
 lk:∀i,(T.get i).2=true→i≠1→∃d e,Ent T d e∧e.2=i
 old:∀i,(W.get i).2=true→(T.get i).2=true∧(T.get i).1.uid=(W.get i).1.uid∧(T.get i).1.kind=(W.get i).1.kind
 new:∀i,(W.get i).2=false→(T.get i).2=true→(T.get i).1.uid=c.uid
 set:∀i,(T.get i).1.kind=1→suB (T.get i).1.mode→(¬suB (W.get i).1.mode→(T.get i).1.uid=c.uid∧any)∧((T.get i).1.uid≠c.uid→(T.get i).1.data=(W.get i).1.data)
theorem Sf.step {ps ps':List Pr} (h:Sf W c any T ps) (hs:TbS c any T T') (hg:Gd T') (ht:TreeW T' (openL ps') []) (hp:∃P,ps'=[P]∧P.c=c):Sf W c any T' ps' where
 gd:=hg
 tr:=ht
 pr:=hp
 lk:=fun i hi h1=>by
  cases hb:(T.get i).2 with
  | true=>
   obtain ⟨d,e,hd,he⟩:=h.lk i hb h1
   obtain ⟨d',e',hd',he'⟩:=hs.ent d e hd
   exact ⟨d',e',hd',he'.trans he⟩
  | false=>exact (hs.make i hb hi).2.2
 old:=fun i hi=>by
  obtain ⟨h1,h2,h3⟩:=h.old i hi
  obtain ⟨k1,k2⟩:=hs.keep i h1
  exact ⟨k1,k2.u.trans h2,k2.k.trans h3⟩
 new:=fun i hi hi'=>by
  cases hb:(T.get i).2 with
  | true=>rw [(hs.keep i hb).2.u];exact h.new i hi hb
  | false=>exact (hs.make i hb hi').1
 set:=fun i hk hm=>by
  have hi':(T'.get i).2=true:=get_kind_at (by rw [hk];decide)
  cases hb:(T.get i).2 with
  | true=>
   obtain ⟨-,k⟩:=hs.keep i hb
   have hk1:(T.get i).1.kind=1:=by rw [←k.k];exact hk
   obtain ⟨s1,s2⟩:=k.s hk1 hm
   rw [k.u]
   rcases s1 with s1 | ⟨s1,s3⟩
   ·
    obtain ⟨t1,t2⟩:=h.set i hk1 s1
    exact ⟨t1,fun hu=>(s2 hu).trans (t2 hu)⟩
   · exact ⟨fun _=>⟨s1,s3⟩,fun hu=>absurd s1 hu⟩
  | false=>exact absurd hm ((hs.make i hb hi').2.1 hk)
def SafeC (any:Prop) (k:Ca):Prop:=k.kind=1∨(k.kind=5∧(suB k.a→any))∨k.kind=6∨k.kind=13∨k.kind=14∨k.kind=15∨k.kind=16
theorem TbS.open (hT:Gd T) (hc:c.uid≠0) (um:Int) (p:List UInt8) (f m:Int):TbS c any T (openF T c um p f m).2:=by
 unfold openF
 split
 · exact .refl
 split
 · exact .refl
 split
 ·
  split
  · exact .refl
  · exact .plant hT (fun n hn=>⟨Nat.zero_le _,Nat.zero_le _,Nat.zero_le _,fun e he=>nomatch he⟩) (fun n=>rfl) (fun n=>su_file um m n)
 rename_i h3
 split
 · exact .refl
 split
 · exact .refl
 rename_i h5
 split
 · exact .refl
 rename_i h6
 have hi:(T.get (rN T c p (!hasF f 40))).2=true:=by simpa using h3
 have hk:(T.get (rN T c p (!hasF f 40))).1.kind=1:=by
  rcases right_cases (hT.2.get hi) with ⟨_,k | k | k⟩
  · exact k.1
  · exact absurd k.1 h6
  · exact absurd k.1 h5
 generalize bits .or .i64 (if hasF f 1=true then 4 else 0) (if hasF f 2=true then 2 else 0)=w
 split
 · exact .refl
 split
 · exact .data hT hc (Nat.zero_le _) hk
 · exact .refl
theorem TbS.write (hT:Gd T) (hc:c.uid≠0) (i off:Int) (b:List UInt8):TbS c any T (writeAtF T c i off b).2:=by
 have hd:=(hT.nd i).1
 unfold writeAtF
 split
 · exact .refl
 rename_i hk
 split
 · exact .refl
 split
 · exact .refl
 split
 · exact .refl
 · exact .data hT hc (by rw [overB_len];omega) (Classical.not_not.1 hk)
theorem Sf.call {ps:List Pr} (hc:c.uid≠0) (h:Sf W c any T ps) {k:Ca} (hk:SafeC any k):Sf W c any (doF T ps 0 k).2.1 (doF T ps 0 k).2.2:=by
 have hgd:=doF_gd h.gd ps 0 k
 have htr:=doF_tree h.gd h.tr 0 k
 have hlen:=doF_len T ps 0 k
 obtain ⟨P,rfl,hP⟩:=h.pr
 have e:doF T [P] 0 k=((stepF T [P] 0 P k).1,(stepF T [P] 0 P k).2.1,[(stepF T [P] 0 P k).2.2]):=by
  unfold doF;rw [if_pos ⟨by decide,by simp⟩];rfl
 have hst:=(stepF_gd h.gd [P] 0 P k).2
 rw [e] at hgd htr hlen ⊢
 refine h.step ?_ hgd htr ⟨_,rfl,hst.trans hP⟩
 show TbS c any T (stepF T [P] 0 P k).2.1
 have ho:∀i,TbS c any T (opnAt T P k i).2.1:=fun i=>by
  unfold opnAt;rw [hP]
  split
  · exact .open h.gd hc _ _ _ _
  · exact .open h.gd hc _ _ _ _
 unfold stepF
 split
 ·
  unfold opnF
  repeat' split
  all_goals first | exact ho _ | exact .refl
 split
 · exact .refl
 split
 ·
  unfold wriF;rw [hP]
  split
  · exact .refl
  split
  · exact .write h.gd hc _ _ _
  · exact .write h.gd hc _ _ _
 split
 ·
  unfold shutF
  split
  · exact .refl
  ·
   rename_i hn
   have hn1:0≤k.a∧k.a<3:=by
    refine ⟨Classical.byContradiction fun hh=>hn (.inl (.inl (by omega))),Classical.byContradiction fun hh=>hn (.inl (.inr (by omega)))⟩
   have hn2:(P.fd k.a.toNat).node≠0:=fun hh=>hn (.inr hh)
   generalize hi:(P.fd k.a.toNat).node=i at hn2 ⊢
   have hmem:i∈openL [P]:=openL_iff.2 ⟨0,by simp,k.a.toNat,by omega,hi,hn2⟩
   have hk1:=h.tr.fil i hmem
   have hi1:i≠1:=fun e=>by rw [e,h.tr.root] at hk1;cases hk1
   obtain ⟨d,e,hd,he⟩:=h.lk i (get_kind_at (by rw [hk1];decide)) hi1
   have hl:0<T.links i:=(links_pos h.gd.1 i).2 ⟨d,e,hd,he⟩
   show TbS c any T (freeF T i _).2
   unfold freeF
   rw [if_pos (.inl (.inr hl))]
   exact .refl
 rename_i h1 h2 h3 h4
 unfold SafeC at hk
 split
 · exact .refl
 split
 · omega
 split
 · exact .refl
 rename_i h5 h6 h7
 split
 ·
  rename_i h8
  show TbS c any T (chaF T P k (openL [P])).2
  unfold chaF
  rcases hk with hk | ⟨hk,ha⟩ | hk | hk | hk | hk | hk
  · omega
  ·
   rw [if_pos hk,hP]
   unfold chmodF
   split
   · exact .refl
   ·
    rename_i hm
    refine .chg h.gd (chmodG_ok c k.a) (fun n _ hz=>?_) (fun n=>by unfold chmodG;cases mayMode c n.uid<;>rfl)
    unfold chmodG at hz ⊢
    cases hb:mayMode c n.uid with
    | false=>rw [hb] at hz;cases hz
    | true=>
     have hu:n.uid=c.uid:=by
      simp only [mayMode,Bool.or_eq_true,decide_eq_true_eq] at hb
      exact hb.resolve_left hc
     exact ⟨rfl,rfl,fun _ hs=>⟨.inr ⟨hu,ha (su_mode ⟨by omega,by omega⟩ hs)⟩,fun hne=>absurd hu hne⟩⟩
  ·
   rw [if_neg (by omega),if_neg (by omega),if_neg (by omega),if_neg (by omega),if_neg (by omega),if_neg (by omega),hP]
   unfold chownF
   split
   · exact .refl
   ·
    refine .chg h.gd (chownG_ok c k.a k.b) (fun n hr hz=>?_) (fun n=>by unfold chownG;cases mayOwn c n.uid n.gid k.a k.b;rfl;rw [cond_true];split<;>rfl)
    unfold chownG at hz ⊢
    cases hb:mayOwn c n.uid n.gid k.a k.b with
    | false=>rw [hb] at hz;cases hz
    | true=>
     rw [cond_true]
     split
     · exact .refl _
     ·
      refine ⟨?_,rfl,fun hk1 hs=>?_⟩
      ·
       simp only [mayOwn,Bool.or_eq_true,Bool.and_eq_true,decide_eq_true_eq] at hb
       rcases hb with hb | ⟨⟨hb,hb2⟩, _⟩
       · exact absurd hb hc
       ·
        show (if 0≤k.a then k.a else n.uid)=n.uid
        split
        · omega
        · rfl
      ·
       exfalso
       have hs2:suB (writtenF c n.kind n.mode):=hs
       rw [hk1] at hs2
       exact su_writ hc (right_mode hr).1 hs2
  all_goals omega
 · exact .refl
end
end Go.Proofs.YtmgnbgniikjhdaaGreat
