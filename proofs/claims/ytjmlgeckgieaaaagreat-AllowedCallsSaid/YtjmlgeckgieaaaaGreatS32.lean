import Derived.Test.YtjmlgeckgieaaaaGreatS31
/-
  TREES: entries are taken away, and put elsewhere.
-/
set_option linter.unusedVariables false
set_option linter.unusedSimpArgs false
namespace Go.Proofs.YtjmlgeckgieaaaaGreat
open Go.Ab
set_option maxRecDepth 8000
set_option maxHeartbeats 400000
theorem TreeW.weak {T:Tab} {o X Y:List Int} (hW:TreeW T o X) (h:∀i∈X,i∈Y):TreeW T o Y:=
 ⟨hW.root,hW.top,hW.kid,fun i hx=>hW.has i (fun k=>hx (h i k)),hW.one,hW.rk,fun i hx=>hW.opn i (fun k=>hx (h i k)),hW.fil⟩
theorem cut_ent {T:Tab} (hT:Gd T) (d:Int) (s:List UInt8) (d':Int) (e:En):Ent (cutF T d s) d' e↔Ent T d' e∧(d'=d→e.1≠s):=by
 unfold Ent
 rw [cut_get hT]
 by_cases h:d'=d∧(T.get d).1.kind=2
 ·
  rw [if_pos h]
  show e∈remL _ _↔_
  rw [h.1]
  refine ⟨fun he=>⟨(remL_sub _ _).subset he,fun _=>remL_ne (risP_of (hT.2.kind (by rw [h.2];decide))).1 e he⟩,fun he=>remL_mem he.1 (he.2 rfl)⟩
 ·
  rw [if_neg h]
  refine ⟨fun he=>⟨he,fun hd=>?_⟩,fun he=>he.1⟩
  have:=ent_dir hT (d:=d') he
  rw [hd] at this
  exact absurd ⟨hd,this⟩ h
theorem cut_kind {T:Tab} (hT:Gd T) (d:Int) (s:List UInt8) (i:Int):((cutF T d s).get i).1.kind=(T.get i).1.kind∧((cutF T d s).get i).2=(T.get i).2:=by
 rw [cut_get hT]
 split
 ·
  rename_i h
  rw [h.1]
  exact ⟨rfl,(get_kind_at (by rw [h.2];decide)).symm⟩
 · exact ⟨rfl,rfl⟩
theorem ent_name {T:Tab} (hT:Gd T) {d:Int} {e e':En} (h:Ent T d e) (h':Ent T d e') (hn:e.1=e'.1):e=e':=by
 have hr:=(risP_of (hT.2.kind (i:=d) (by rw [ent_dir hT h];decide))).1
 obtain ⟨i,hi,rfl⟩:=List.mem_iff_getElem.1 h
 obtain ⟨j,hj,rfl⟩:=List.mem_iff_getElem.1 h'
 have hirr:∀s:List UInt8,Op.bytesLess s s≠true:=fun s h=>by
  have:=bl_asym s s h;rw [h] at this;cases this
 have hp:=List.pairwise_iff_getElem.1 hr
 rcases Nat.lt_trichotomy i j with h1 | h1 | h1
 · have:=hp i j hi hj h1;rw [hn] at this;exact absurd this (hirr _)
 · subst h1;rfl
 · have:=hp j i hj hi h1;rw [hn] at this;exact absurd this (hirr _)
theorem TreeW.cut {T:Tab} {o X:List Int} (hT:Gd T) (hW:TreeW T o X) {d:Int} {s:List UInt8} {n:Int} (he:Ent T d (s,n)):TreeW (cutF T d s) o (n::X):=by
 have hE:=cut_ent hT d s
 have hK:=cut_kind hT d s
 obtain ⟨rk,hrk⟩:=hW.rk
 have hkeep:∀d' e,Ent T d' e→e.2≠n→Ent (cutF T d s) d' e:=fun d' e h hne=>(hE d' e).2 ⟨h,fun hd hs=>hne (by
  subst hd;rw [ent_name hT h he hs])⟩
 refine ⟨by rw [(hK 1).1];exact hW.root,fun d' e h=>hW.top d' e ((hE _ _).1 h).1,fun d' e h=>by rw [(hK _).2];exact hW.kid d' e ((hE _ _).1 h).1,fun i hx hi h1=>?_,
  fun a b e e' h h' hee hk=>hW.one a b e e' ((hE _ _).1 h).1 ((hE _ _).1 h').1 hee (by rw [←(hK _).1];exact hk),⟨rk,fun d' e h hk=>hrk d' e ((hE _ _).1 h).1 (by rw [←(hK _).1];exact hk)⟩,fun i hx hi hk=>?_,fun i hi=>by rw [(hK i).1];exact hW.fil i hi⟩
 ·
  rw [(hK i).1] at hi
  simp only [List.mem_cons,not_or] at hx
  obtain ⟨d',e,h,hei⟩:=hW.has i hx.2 hi h1
  exact ⟨d',e,hkeep d' e h (by rw [hei];exact hx.1),hei⟩
 ·
  rw [(hK i).1] at hk
  rw [(hK i).2] at hi
  simp only [List.mem_cons,not_or] at hx
  rcases hW.opn i hx.2 hi hk with ⟨d',e,h,hei⟩ | h
  · exact .inl ⟨d',e,hkeep d' e h (by rw [hei];exact hx.1),hei⟩
  · exact .inr h
theorem TreeW.gone {T:Tab} {o X:List Int} (hT:Gd T) (hW:TreeW T o X) {n:Int} (h1:n≠1) (hno:∀d e,Ent T d e→e.2≠n) (hne:(T.get n).1.ents=[]) (ho:n∉o) {Y:List Int} (hY:∀i,i∈X→i=n∨i∈Y):TreeW (dropT T n) o Y:=by
 have hG:=drop_get hT.1 n
 have hE:∀d e,Ent (dropT T n) d e↔Ent T d e:=fun d e=>by
  unfold Ent;rw [hG]
  split
  · rename_i h;rw [h,hne];simp [nd0]
  · rfl
 have hK:∀i,i≠n→(dropT T n).get i=T.get i:=fun i hi=>by rw [hG,if_neg hi]
 have hz:(dropT T n).get n=(nd0,false):=by rw [hG,if_pos rfl]
 obtain ⟨rk,hrk⟩:=hW.rk
 refine ⟨by rw [hK 1 (Ne.symm h1)];exact hW.root,fun d e h=>hW.top d e ((hE _ _).1 h),fun d e h=>by rw [hK _ (hno d e ((hE _ _).1 h))];exact hW.kid d e ((hE _ _).1 h),fun i hx hi hi1=>?_,
  fun a b e e' h h' hee hk=>hW.one a b e e' ((hE _ _).1 h) ((hE _ _).1 h') hee (by rw [←hK _ (hno a e ((hE _ _).1 h))];exact hk),⟨rk,fun d e h hk=>hrk d e ((hE _ _).1 h) (by rw [←hK _ (hno d e ((hE _ _).1 h))];exact hk)⟩,fun i hx hi hk=>?_,fun i hi=>?_⟩
 ·
  have hin:i≠n:=fun e=>by rw [e,hz] at hi;cases hi
  rw [hK i hin] at hi
  obtain ⟨d,e,h,hei⟩:=hW.has i (fun h=>(hY i h).elim hin hx) hi hi1
  exact ⟨d,e,(hE _ _).2 h,hei⟩
 ·
  have hin:i≠n:=fun e=>by rw [e,hz] at hi;cases hi
  rw [hK i hin] at hi hk
  rcases hW.opn i (fun h=>(hY i h).elim hin hx) hi hk with ⟨d,e,h,hei⟩ | h
  · exact .inl ⟨d,e,(hE _ _).2 h,hei⟩
  · exact .inr h
 · rw [hK i (fun e=>ho (e▸hi))];exact hW.fil i hi
theorem TreeW.free {T:Tab} {o X Y:List Int} (hT:Gd T) (hW:TreeW T o X) {n:Int} (h1:n≠1) (hne:(T.get n).1.ents=[]) (hY:∀i,i∈X→i=n∨i∈Y):TreeW (freeF T n o).2 o Y:=by
 unfold freeF
 split
 ·
  rename_i h
  show TreeW T o Y
  refine ⟨hW.root,hW.top,hW.kid,fun i hx hi hi1=>?_,hW.one,hW.rk,fun i hx hi hk=>?_,hW.fil⟩
  ·
   by_cases hin:i=n
   ·
    subst hin
    rcases h with (h | h) | h
    · exact absurd h h1
    · exact (links_pos hT.1 _).1 h
    ·
     obtain ⟨y,hy,hyi⟩:=List.any_eq_true.1 h
     have:i=y:=by simpa using hyi
     subst this
     have:=hW.fil i hy;omega
   · exact hW.has i (fun h=>(hY i h).elim hin hx) hi hi1
  ·
   by_cases hin:i=n
   ·
    subst hin
    rcases h with (h | h) | h
    · exact absurd h h1
    · exact .inl ((links_pos hT.1 _).1 h)
    ·
     obtain ⟨y,hy,hyi⟩:=List.any_eq_true.1 h
     have:i=y:=by simpa using hyi
     subst this
     exact .inr hy
   · exact hW.opn i (fun h=>(hY i h).elim hin hx) hi hk
 ·
  rename_i h
  show TreeW (dropT T n) o Y
  refine hW.gone hT h1 (fun d e he hei=>h (.inl (.inr ((links_pos hT.1 n).2 ⟨d,e,he,hei⟩)))) hne (fun ho=>h (.inr (List.any_eq_true.2 ⟨n,ho,by simp⟩))) hY
theorem up_sub {T U:Tab} {o X:List Int} (hT:Gd T) (hU:Gd U) (hW:TreeW T o X) (hWU:TreeW U o X∨U.parent 0=0) (hE:∀d e,Ent U d e→Ent T d e) {i:Int} (hi:(T.get i).1.kind=2):∀k,up U k i≠0→up U k i=up T k i∧(T.get (up U k i)).1.kind=2
 | 0, _=>⟨rfl,hi⟩
 | k+1,h=>by
  have h0:U.parent 0=0:=hWU.elim (fun h=>par_zero hU h) id
  have hk:up U k i≠0:=fun e=>h (by show U.parent (up U k i)=0;rw [e,h0])
  obtain ⟨h1,h2⟩:=up_sub hT hU hW hWU hE hi k hk
  obtain ⟨e,he,hei⟩:=par_pos hU.1 (i:=up U k i) h
  have heT:=hE _ _ he
  have:T.parent (up U k i)=U.parent (up U k i):=by
   have:=hW.par hT heT (by rw [hei];exact h2)
   rw [hei] at this;exact this
  refine ⟨?_,ent_dir hT heT⟩
  show U.parent (up U k i)=T.parent (up T k i)
  rw [←h1,this]
theorem TreeW.ins {T U:Tab} {o X Y:List Int} (hT:Gd T) (hW:TreeW T o X) {d n:Int} {s:List UInt8} (hd:(T.get d).1.kind=2) (hn:(T.get n).2=true) (hn1:n≠1) (hdir:(T.get n).1.kind=2→(∀d' e,Ent T d' e→e.2≠n)∧∀k,up T k d≠n)
 (hY:∀i,i∈X→i=n∨i∈Y) (hU:∀i,U.get i=if i=d then (nWith (T.get d).1 (insF (T.get d).1.ents s n),true) else T.get i):TreeW U o Y:=by
 obtain ⟨rk,hrk⟩:=hW.rk
 have hE:∀d' e,Ent U d' e↔(d'=d∧e=(s,n))∨Ent T d' e:=fun d' e=>by
  unfold Ent
  rw [hU]
  by_cases h1:d'=d
  ·
   rw [if_pos h1]
   show e∈insF _ _ _↔_
   rw [mem_insF,h1];simp
  · rw [if_neg h1];simp [h1]
 have hK:∀i,(U.get i).1.kind=(T.get i).1.kind∧(U.get i).2=(T.get i).2:=fun i=>by
  rw [hU]
  split
  · rename_i h;subst h;exact ⟨rfl,(get_kind_at (by rw [hd];decide)).symm⟩
  · exact ⟨rfl,rfl⟩
 refine ⟨by rw [(hK 1).1];exact hW.root,fun d' e h=>?_,fun d' e h=>?_,fun i hx hi h1=>?_,fun a b e e' h h' hee hkk=>?_,?_,fun i hx hi hkk=>?_,fun i hi=>by rw [(hK i).1];exact hW.fil i hi⟩
 ·
  rcases (hE d' e).1 h with ⟨_,rfl⟩ | h
  · exact hn1
  · exact hW.top d' e h
 ·
  rw [(hK _).2]
  rcases (hE d' e).1 h with ⟨_,rfl⟩ | h
  · exact hn
  · exact hW.kid d' e h
 ·
  by_cases e:i=n
  · exact ⟨d,(s,n),(hE _ _).2 (.inl ⟨rfl,rfl⟩),e.symm⟩
  ·
   rw [(hK i).1] at hi
   obtain ⟨d',e',h,h2⟩:=hW.has i (fun h=>(hY i h).elim e hx) hi h1
   exact ⟨d',e',(hE _ _).2 (.inr h),h2⟩
 ·
  rw [(hK _).1] at hkk
  rcases (hE a e).1 h with ⟨rfl,rfl⟩ | h
  ·
   rcases (hE b e').1 h' with ⟨rfl,rfl⟩ | h'
   · exact ⟨rfl,rfl⟩
   · exact absurd hee.symm ((hdir hkk).1 b e' h')
  ·
   rcases (hE b e').1 h' with ⟨rfl,rfl⟩ | h'
   · exact absurd hee ((hdir (by rw [hee] at hkk;exact hkk)).1 a e h)
   · exact hW.one a b e e' h h' hee hkk
 ·
  by_cases hnd:(T.get n).1.kind=2
  ·
   obtain ⟨hno,hup⟩:=hdir hnd
   refine ⟨fun i=>@ite Nat (∃k,up T k i=n) (Classical.propDecidable _) (rk i+(rk d+1)) (rk i),fun d' e h hkk=>?_⟩
   rw [(hK _).1] at hkk
   dsimp only
   rcases (hE d' e).1 h with ⟨rfl,rfl⟩ | h
   · rw [if_neg (fun ⟨k,hk⟩=>hup k hk),if_pos ⟨0,rfl⟩];omega
   ·
    have hlt:=hrk d' e h hkk
    have hp:=hW.par hT h hkk
    have hiff:(∃k,up T k e.2=n)↔∃k,up T k d'=n:=by
     constructor
     ·
      rintro ⟨k,hk⟩
      cases k with
      | zero=>exact absurd hk (hno d' e h)
      | succ k=>exact ⟨k,by rw [←hp,up_in];exact hk⟩
     · rintro ⟨k,hk⟩;exact ⟨k+1,by rw [←up_in,hp];exact hk⟩
    by_cases hc:∃k,up T k d'=n
    · rw [if_pos hc,if_pos (hiff.2 hc)];omega
    · rw [if_neg hc,if_neg (fun h=>hc (hiff.1 h))];exact hlt
  ·
   refine ⟨rk,fun d' e h hkk=>?_⟩
   rw [(hK _).1] at hkk
   rcases (hE d' e).1 h with ⟨rfl,rfl⟩ | h
   · exact absurd hkk hnd
   · exact hrk d' e h hkk
 ·
  by_cases e:i=n
  · exact .inl ⟨d,(s,n),(hE _ _).2 (.inl ⟨rfl,rfl⟩),e.symm⟩
  ·
   rw [(hK i).1] at hkk
   rw [(hK i).2] at hi
   rcases hW.opn i (fun h=>(hY i h).elim e hx) hi hkk with ⟨d',e',h,h2⟩ | h
   · exact .inl ⟨d',e',(hE _ _).2 (.inr h),h2⟩
   · exact .inr h
theorem below_up {T:Tab} {n:Int}:∀(m:Nat) (i:Int),belowL T n m i=false→(∀k,k≤m→(∀j,j≤k→up T j i≠0)→up T k i≠n)
 | 0,i,h,k,hk, _=>by
  have:k=0:=by omega
  subst this
  show i≠n
  simpa [belowL] using h
 | m+1,i,h,k,hk,hz=>by
  unfold belowL at h
  have h0:=hz 0 (Nat.zero_le _)
  split at h
  ·
   rename_i hc
   rcases hc with hc | hc
   · simp [hc] at h
   · exact absurd hc h0
  ·
   rename_i hc
   cases k with
   | zero=>exact fun e=>hc (.inl e)
   | succ k=>
    have:=below_up m (T.parent i) h k (by omega) (fun j hj=>by rw [up_in];exact hz (j+1) (by omega))
    rwa [up_in] at this
theorem up_zero {T:Tab} (h:T.parent 0=0) {i:Int} {k:Nat} (hk:up T k i=0):∀m,k≤m→up T m i=0
 | 0,hm=>by rw [show k=0 by omega] at hk;exact hk
 | m+1,hm=>by
  by_cases e:k=m+1
  · rw [←e];exact hk
  ·
   show T.parent (up T m i)=0
   rw [up_zero h hk m (by omega),h]
theorem below_never {T:Tab} {o:List Int} (hT:Gd T) (hW:TreeW T o []) {n d:Int} (hn:n≠0) (hd:(T.get d).1.kind=2) (h:belowL T n 24 d=false):∀k,up T k d≠n:=by
 intro k hk
 obtain ⟨m,hm,h1⟩:=hW.reach hT hd
 have hp0:=par_zero hT hW
 have hz:up T (m+1) d=0:=by show T.parent (up T m d)=0;rw [h1,par_one hT hW]
 have hkm:k≤m:=by
  apply Classical.byContradiction
  intro hc
  have:=up_zero hp0 hz k (by omega)
  rw [this] at hk;exact hn hk.symm
 refine below_up 24 d h k (by omega) (fun j hj hj0=>?_) hk
 have:=up_zero hp0 hj0 k hj
 rw [this] at hk;exact hn hk.symm
end Go.Proofs.YtjmlgeckgieaaaaGreat
