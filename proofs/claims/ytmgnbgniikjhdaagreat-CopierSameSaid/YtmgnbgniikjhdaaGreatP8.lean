import Derived.Test.YtmgnbgniikjhdaaGreatP7
/-
  TREES: a tree stays one, but for what is open.
-/
set_option linter.unusedVariables false
set_option linter.unusedSimpArgs false
namespace Go.Proofs.YtmgnbgniikjhdaaGreat
open Go.Ab
set_option maxRecDepth 8000
set_option maxHeartbeats 400000
theorem parent_spec {T:Tab} (hT:T.Ok) (i:Int):(T.parent i=0∧∀(d:Int) (e:En),e∈(T.get d).1.ents→e.2≠i)∨(1≤T.parent i∧∃e∈(T.get (T.parent i)).1.ents,e.2=i):=by
 have hl:=refL_len hT
 have h3:=hT.lo
 rw [←rPar_eq hT]
 unfold rPar
 rcases idxP_spec (hasK i) nd0 (refL T) with ⟨h1,h2⟩ | ⟨k,h1,h2,h3'⟩
 ·
  left
  rw [if_pos h1]
  refine ⟨rfl,fun d e he hei=>?_⟩
  have hd:=ents_is he
  rw [get_eq hT] at hd he
  split at hd
  ·
   rename_i hc
   rw [if_pos hc] at he
   have:=h2 (d - 1).toNat (by rw [hl];omega)
   rw [ref_getD (by omega),hasK_ents,List.any_eq_false] at this
   exact this e he (by simp [hei])
  · cases hd
 ·
  right
  rw [if_neg (by omega),h1]
  rw [hl] at h2
  rw [ref_getD h2,hasK_ents,List.any_eq_true] at h3'
  obtain ⟨e,he,hee⟩:=h3'
  refine ⟨by omega,e,?_,by simpa using hee⟩
  rw [get_eq hT,if_pos ⟨by omega,by omega⟩,show ((k:Int)+1 - 1).toNat=k by omega];exact he
def Ent (T:Tab) (d:Int) (e:En):Prop:=e∈(T.get d).1.ents
def cnt (T:Tab) (i:Int):Nat→Nat
 | 0=>0
 | m+1=>cnt T i m+((T.get ((m:Int)+1)).1.ents.countP fun e=>decide (e.2=i))
theorem entsF_cnt (i d:Int):∀(l:List En) (v:Int),0≤v→v+l.length≤1000000→entsF (fun v _=>IntKind.i64.wrap (v+1)) i d v l=v+(l.countP fun e=>decide (e.2=i):Nat)
 | [],v, _, _=>by simp [entsF]
 | e::l,v,h0,h1=>by
  rw [List.length_cons] at h1
  show entsF (fun v _=>IntKind.i64.wrap (v+1)) i d (if e.2=i then IntKind.i64.wrap (v+1) else v) l=_
  rw [List.countP_cons]
  by_cases h:e.2=i
  · rw [if_pos h,wrapS (by omega) (by omega),entsF_cnt i d l _ (by omega) (by omega),if_pos (by simp [h])];omega
  · rw [if_neg h,entsF_cnt i d l _ h0 (by omega),if_neg (by simp [h])];omega
theorem cnt_le {T:Tab} (hT:T.Ok) (i:Int):∀m,cnt T i m≤1000*m
 | 0=>Nat.le_refl _
 | m+1=>by
  have:=cnt_le hT i m
  have h1:=(get_ok hT ((m:Int)+1)).2.1
  have h2:=List.countP_le_length (p:=fun e:En=>decide (e.2=i)) (l:=(T.get ((m:Int)+1)).1.ents)
  show cnt T i m+_≤_
  omega
theorem scan_cnt {T:Tab} (hT:T.Ok) (i:Int):∀m,m≤T.room.toNat→T.scan (fun v _=>IntKind.i64.wrap (v+1)) i 0 m=cnt T i m
 | 0, _=>rfl
 | m+1,hm=>by
  have ih:=scan_cnt hT i m (by omega)
  have hb:=cnt_le hT i m
  have hr:=hT.hi
  have h1:=(get_ok hT ((m:Int)+1)).2.1
  show (match T.at ((m:Int)+1) with | some j=>_ | none=>_)=_
  cases ha:T.at ((m:Int)+1) with
  | none=>
   simp only []
   rw [ih]
   show _=((cnt T i m+((T.get ((m:Int)+1)).1.ents.countP fun e=>decide (e.2=i)):Nat):Int)
   rw [get_no ha];rfl
  | some j=>
   simp only []
   rw [ih]
   show _=((cnt T i m+((T.get ((m:Int)+1)).1.ents.countP fun e=>decide (e.2=i)):Nat):Int)
   rw [get_at ha] at h1 ⊢
   dsimp only at h1 ⊢
   rw [entsF_cnt _ _ _ _ (by omega) (by omega)];omega
theorem links_cnt {T:Tab} (hT:T.Ok) (i:Int):T.links i=cnt T i T.room.toNat:=scan_cnt hT i _ (Nat.le_refl _)
theorem ent_room {T:Tab} (hT:T.Ok) {d:Int} {e:En} (h:Ent T d e):1≤d∧d≤T.room:=by
 have:=ents_is h
 rw [get_eq hT] at this
 split at this
 · assumption
 · cases this
theorem cnt_zero {T:Tab} {i:Int}:∀ {m:Nat},cnt T i m=0↔∀d:Nat,d<m→∀e,Ent T ((d:Int)+1) e→e.2≠i
 | 0=>⟨fun _ d h=>absurd h (Nat.not_lt_zero _),fun _=>rfl⟩
 | m+1=>by
  show cnt T i m+_=0↔_
  rw [Nat.add_eq_zero_iff,cnt_zero,List.countP_eq_zero]
  constructor
  ·
   rintro ⟨h1,h2⟩ d hd e he
   rcases Nat.lt_succ_iff_lt_or_eq.1 hd with h | h
   · exact h1 d h e he
   · subst h;simpa using h2 e he
  ·
   intro h
   exact ⟨fun d hd=>h d (by omega),fun e he=>by simpa using h m (by omega) e he⟩
theorem links_zero {T:Tab} (hT:T.Ok) (i:Int):T.links i=0↔∀d e,Ent T d e→e.2≠i:=by
 rw [links_cnt hT,Int.natCast_eq_zero,cnt_zero]
 constructor
 ·
  intro h d e he
  obtain ⟨h1,h2⟩:=ent_room hT he
  have hd:((d - 1).toNat:Int)+1=d:=by omega
  exact h (d - 1).toNat (by omega) e (by rw [hd];exact he)
 · intro h d _ e he;exact h _ e he
theorem links_pos {T:Tab} (hT:T.Ok) (i:Int):0<T.links i↔∃d e,Ent T d e∧e.2=i:=by
 have h0:0≤T.links i:=by rw [links_cnt hT];omega
 constructor
 ·
  intro h
  apply Classical.byContradiction
  intro hn
  have:=(links_zero hT i).2 fun d e he hi=>hn ⟨d,e,he,hi⟩
  omega
 ·
  rintro ⟨d,e,he,hi⟩
  rcases Int.lt_or_eq_of_le h0 with h | h
  · exact h
  · exact absurd hi ((links_zero hT i).1 h.symm d e he)
theorem count_one {l:List En} (hr:RisP l) {e:En} (he:e∈l) {i:Int} (hi:e.2=i) (hu:∀e'∈l,e'.2=i→e'=e):(l.countP fun e=>decide (e.2=i))=1:=by
 obtain ⟨l1,l2,rfl⟩:=List.append_of_mem he
 rw [RisP,List.pairwise_append,List.pairwise_cons] at hr
 obtain ⟨_,⟨h2, _⟩,h3⟩:=hr
 have hirr:∀s:List UInt8,Op.bytesLess s s≠true:=fun s h=>by
  have:=bl_asym s s h;rw [h] at this;cases this
 rw [List.countP_append,List.countP_cons,if_pos (by simp [hi]),List.countP_eq_zero.2,List.countP_eq_zero.2]
 ·
  intro x hx hxi
  have:=hu x (by simp [hx]) (by simpa using hxi)
  have h4:=h2 x hx
  rw [this] at h4;exact hirr _ h4
 ·
  intro x hx hxi
  have:=hu x (by simp [hx]) (by simpa using hxi)
  have h4:=h3 x hx e (by simp)
  rw [this] at h4;exact hirr _ h4
theorem links_one {T:Tab} (hT:Gd T) {i d:Int} {e:En} (he:Ent T d e) (hi:e.2=i) (hu:∀d' e',Ent T d' e'→e'.2=i→d'=d∧e'=e):T.links i=1:=by
 obtain ⟨h1,h2⟩:=ent_room hT.1 he
 have hdk:(T.get d).1.kind≠0:=by
  intro h0
  have:=ents_is he
  rw [get_kind hT.1,h0] at this;cases this
 have hr:=risP_of (hT.2.kind hdk)
 have key:∀m,cnt T i m=if d≤m then 1 else 0:=fun m=>by
  induction m with
  | zero=>rw [if_neg (by omega)];rfl
  | succ m ih=>
   show cnt T i m+_=_
   by_cases hd:(m:Int)+1=d
   · rw [ih,if_neg (by omega),if_pos (by omega),hd,count_one hr.1 he hi fun e' he' hi'=>(hu d e' he' hi').2]
   ·
    have hz:((T.get ((m:Int)+1)).1.ents.countP fun e=>decide (e.2=i))=0:=List.countP_eq_zero.2 fun x hx hxi=>hd (hu _ x hx (by simpa using hxi)).1
    rw [ih,hz]
    by_cases hm:d≤m
    · rw [if_pos hm,if_pos (by omega)]
    · rw [if_neg hm,if_neg (by omega)]
 rw [links_cnt hT.1,key,if_pos (by omega)];rfl
structure TreeW (T:Tab) (o X:List Int):Prop where
 root:(T.get 1).1.kind=2
 top:∀d e,Ent T d e→e.2≠1
 kid:∀d e,Ent T d e→(T.get e.2).2=true
 has:∀i,i∉X→(T.get i).1.kind=2→i≠1→∃d e,Ent T d e∧e.2=i
 one:∀d d' e e',Ent T d e→Ent T d' e'→e.2=e'.2→(T.get e.2).1.kind=2→d=d'∧e=e'
 rk:∃rk:Int→Nat,∀d e,Ent T d e→(T.get e.2).1.kind=2→rk d<rk e.2
 opn:∀i,i∉X→(T.get i).2=true→(T.get i).1.kind≠2→(∃d e,Ent T d e∧e.2=i)∨i∈o
 fil:∀i∈o,(T.get i).1.kind=1
def up (T:Tab):Nat→Int→Int
 | 0,i=>i
 | k+1,i=>T.parent (up T k i)
theorem up_in (T:Tab):∀(k:Nat) (i:Int),up T k (T.parent i)=up T (k+1) i
 | 0, _=>rfl
 | k+1,i=>by show T.parent (up T k (T.parent i))=_;rw [up_in T k i];rfl
theorem ent_dir {T:Tab} (hT:Gd T) {d:Int} {e:En} (h:Ent T d e):(T.get d).1.kind=2:=by
 have hk:(T.get d).1.kind≠0:=by
  intro h0
  have:=ents_is h
  rw [get_kind hT.1,h0] at this;cases this
 rcases right_cases (hT.2.kind hk) with ⟨_,k | k | k⟩
 · unfold Ent at h;rw [k.2.1] at h;cases h
 · exact k.1
 · unfold Ent at h;rw [k.2.2.1] at h;cases h
theorem par_pos {T:Tab} (hT:T.Ok) {i:Int} (h:T.parent i≠0):∃e,Ent T (T.parent i) e∧e.2=i:=by
 rcases parent_spec hT i with h1 | ⟨_,e,he,hi⟩
 · exact absurd h1.1 h
 · exact ⟨e,he,hi⟩
theorem par_of {T:Tab} (hT:T.Ok) {d:Int} {e:En} (h:Ent T d e) (hu:∀d' e',Ent T d' e'→e'.2=e.2→d'=d):T.parent e.2=d:=by
 rcases parent_spec hT e.2 with h1 | ⟨_,e',he,hi⟩
 · exact absurd rfl (h1.2 d e h)
 · exact hu _ e' he hi
theorem TreeW.par {T:Tab} {o X:List Int} (hT:Gd T) (hW:TreeW T o X) {d:Int} {e:En} (h:Ent T d e) (hk:(T.get e.2).1.kind=2):T.parent e.2=d:=
 par_of hT.1 h fun d' e' h' hi=>(hW.one d' d e' e h' h hi (by rw [hi];exact hk)).1
theorem par_zero {T:Tab} {o X:List Int} (hT:Gd T) (hW:TreeW T o X):T.parent 0=0:=by
 apply Classical.byContradiction
 intro h
 obtain ⟨e,he,hi⟩:=par_pos hT.1 h
 have:=get_pos hT.1 (hW.kid _ e he)
 omega
theorem par_one {T:Tab} {o X:List Int} (hT:Gd T) (hW:TreeW T o X):T.parent 1=0:=by
 apply Classical.byContradiction
 intro h
 obtain ⟨e,he,hi⟩:=par_pos hT.1 h
 exact hW.top _ e he hi
theorem pigeon:∀(N m:Nat) (f:Nat→Nat),(∀j,j<m→f j<N)→(∀i j,i<j→j<m→f i≠f j)→m≤N
 | 0,m,f,h, _=>by
  cases m with
  | zero=>exact Nat.le_refl _
  | succ m=>exact absurd (h 0 (by omega)) (Nat.not_lt_zero _)
 | N+1,m,f,h,hi=>by
  by_cases hx:∃j,j<m∧f j=N
  ·
   obtain ⟨j0,hj,hf⟩:=hx
   have:=pigeon N (m - 1) (fun j=>f (if j<j0 then j else j+1)) (fun j hj2=>by
    have h1:=h (if j<j0 then j else j+1) (by split<;>omega)
    have h2:f (if j<j0 then j else j+1)≠N:=by
     rw [←hf]
     split
     · exact hi _ _ (by omega) hj
     · exact (hi _ _ (by omega) (by omega)).symm
    omega) (fun i j hij hj2=>hi _ _ (by split<;>split<;>omega) (by split<;>omega))
   omega
  ·
   have:=pigeon N m f (fun j hj=>by
    have:=h j hj
    have:f j≠N:=fun e=>hx ⟨j,hj,e⟩
    omega) hi
   omega
theorem TreeW.reach {T:Tab} {o:List Int} (hT:Gd T) (hW:TreeW T o []) {i:Int} (hi:(T.get i).1.kind=2):∃k,k<24∧up T k i=1:=by
 obtain ⟨rk,hrk⟩:=hW.rk
 apply Classical.byContradiction
 intro hn
 have hdir:∀k,k≤24→(T.get (up T k i)).1.kind=2∧(∀j,j<k→rk (up T k i)<rk (up T j i)):=by
  intro k
  induction k with
  | zero=>exact fun _=>⟨hi,fun j hj=>absurd hj (Nat.not_lt_zero _)⟩
  | succ k ih=>
   intro hk
   obtain ⟨h1,h2⟩:=ih (by omega)
   obtain ⟨d,e,he,hei⟩:=hW.has (up T k i) (by simp) h1 (fun e=>hn ⟨k,by omega,e⟩)
   have hp:up T (k+1) i=d:=by
    show T.parent (up T k i)=d
    rw [←hei];exact hW.par hT he (by rw [hei];exact h1)
   have hr:=hrk d e he (by rw [hei];exact h1)
   rw [hei] at hr
   rw [hp]
   refine ⟨ent_dir hT he,fun j hj=>?_⟩
   rcases Nat.lt_succ_iff_lt_or_eq.1 hj with h | h
   · exact Nat.lt_trans hr (h2 j h)
   · subst h;exact hr
 have hb:∀j,j<25→1≤up T j i∧up T j i≤24:=fun j hj=>by
  have h1:=get_kind_at (T:=T) (i:=up T j i) (by rw [(hdir j (by omega)).1];decide)
  obtain ⟨a, _,h2,h3⟩:=get_isat h1
  have:=hT.1.hi
  omega
 have:=pigeon 24 25 (fun j=>(up T j i - 1).toNat) (fun j hj=>by have:=hb j hj;omega) (fun a b hab hbl=>by
  have h1:=(hdir b (by omega)).2 a hab
  have ha:=hb a (by omega)
  have hbb:=hb b hbl
  intro e
  have:up T a i=up T b i:=by omega
  rw [this] at h1
  exact absurd h1 (Nat.lt_irrefl _))
 omega
theorem TreeW.same {T U:Tab} {o X:List Int} (hW:TreeW T o X) (h:∀k,(U.get k).2=(T.get k).2∧(U.get k).1.kind=(T.get k).1.kind∧(U.get k).1.ents=(T.get k).1.ents):TreeW U o X:=by
 have hE:∀d e,Ent U d e↔Ent T d e:=fun d e=>by unfold Ent;rw [(h d).2.2]
 obtain ⟨rk,hrk⟩:=hW.rk
 exact ⟨by rw [(h 1).2.1];exact hW.root,fun d e he=>hW.top d e ((hE d e).1 he),fun d e he=>by rw [(h _).1];exact hW.kid d e ((hE d e).1 he),
  fun i hx hi h1=>by rw [(h i).2.1] at hi;obtain ⟨d,e,he,hei⟩:=hW.has i hx hi h1;exact ⟨d,e,(hE d e).2 he,hei⟩,
  fun d d' e e' he he' hee hk=>hW.one d d' e e' ((hE d e).1 he) ((hE d' e').1 he') hee (by rw [←(h _).2.1];exact hk),
  ⟨rk,fun d e he hk=>hrk d e ((hE d e).1 he) (by rw [←(h _).2.1];exact hk)⟩,
  fun i hx hi hk=>by
   rw [(h i).1] at hi;rw [(h i).2.1] at hk
   rcases hW.opn i hx hi hk with ⟨d,e,he,hei⟩ | h
   · exact .inl ⟨d,e,(hE d e).2 he,hei⟩
   · exact .inr h,
  fun i hi=>by rw [(h i).2.1];exact hW.fil i hi⟩
theorem TreeW.put {T:Tab} {o X:List Int} (hT:Gd T) (hW:TreeW T o X) {i:Int} {n:Nd} (hn:NdOk n) (hk:n.kind=(T.get i).1.kind) (he:n.ents=(T.get i).1.ents):TreeW (putT T i n).2 o X:=by
 cases ha:T.at i with
 | none=>
  have e:(putT T i n).2=T:=by unfold putT;rw [ha]
  rw [e];exact hW
 | some j=>
  by_cases hr:rightF n=true
  ·
   have hi:(T.get i).2=true:=by rw [get_at ha]
   refine hW.same fun k=>?_
   rw [(putT_get hT.1 hn hr hi).2]
   split
   · rename_i e;rw [e,hi];exact ⟨rfl,hk,he⟩
   · exact ⟨rfl,rfl,rfl⟩
  ·
   have e:(putT T i n).2=T:=by unfold putT;rw [ha];simp [show rightF n=false by simpa using hr]
   rw [e];exact hW
theorem TreeW.plant {T U:Tab} {o X:List Int} (hT:Gd T) (hW:TreeW T o X) {d k:Int} {nn:Nd} {s:List UInt8} (hd:(T.get d).1.kind=2) (hk:(T.get k).2=false) (he:nn.ents=[]) (hdk:d≠k)
 (hU:∀i,U.get i=if i=d then (nWith (T.get d).1 (insF (T.get d).1.ents s k),true) else if i=k then (nn,true) else T.get i):TreeW U o X:=by
 obtain ⟨rk,hrk⟩:=hW.rk
 have hk0:(T.get k).1=nd0:=by
  cases ha:T.at k with
  | none=>rw [get_no ha]
  | some j=>rw [get_at ha] at hk;cases hk
 have hno:∀d' e,Ent T d' e→e.2≠k:=fun d' e h h2=>by have:=hW.kid d' e h;rw [h2,hk] at this;cases this
 have hnk:∀e,¬Ent T k e:=fun e h=>by unfold Ent at h;rw [hk0] at h;cases h
 have hE:∀d' e,Ent U d' e↔(d'=d∧e=(s,k))∨Ent T d' e:=fun d' e=>by
  unfold Ent
  rw [hU]
  by_cases h1:d'=d
  ·
   rw [if_pos h1]
   show e∈insF _ _ _↔_
   rw [mem_insF,h1];simp
  ·
   rw [if_neg h1]
   by_cases h2:d'=k
   ·
    rw [if_pos h2]
    show e∈nn.ents↔_
    rw [he]
    refine ⟨fun h=>(nomatch h),fun h=>h.elim (fun h=>absurd h.1 h1) fun h=>?_⟩
    rw [h2] at h;exact absurd h (hnk e)
   · rw [if_neg h2];simp [h1]
 have hK:∀i,i≠k→(U.get i).1.kind=(T.get i).1.kind∧(U.get i).2=(T.get i).2:=fun i hi=>by
  rw [hU]
  split
  · rename_i h;subst h;exact ⟨rfl,(get_kind_at (by rw [hd];decide)).symm⟩
  · simp [hi]
 have h1k:(1:Int)≠k:=fun e=>by have:=hW.root;rw [e,hk0] at this;cases this
 refine ⟨by rw [(hK 1 h1k).1];exact hW.root,fun d' e h=>?_,fun d' e h=>?_,fun i hx hi h1=>?_,fun a b e e' h h' hee hkk=>?_,?_,fun i hx hi hkk=>?_,fun i hi=>?_⟩
 ·
  rcases (hE d' e).1 h with ⟨_,rfl⟩ | h
  · exact fun e=>h1k e.symm
  · exact hW.top d' e h
 ·
  rcases (hE d' e).1 h with ⟨_,rfl⟩ | h
  ·
   show (U.get k).2=true
   rw [hU,if_neg (Ne.symm hdk),if_pos rfl]
  · rw [(hK _ (hno d' e h)).2];exact hW.kid d' e h
 ·
  by_cases e:i=k
  · exact ⟨d,(s,k),(hE _ _).2 (.inl ⟨rfl,rfl⟩),e.symm⟩
  ·
   rw [(hK i e).1] at hi
   obtain ⟨d',e',h,h2⟩:=hW.has i hx hi h1
   exact ⟨d',e',(hE _ _).2 (.inr h),h2⟩
 ·
  rcases (hE a e).1 h with ⟨rfl,rfl⟩ | h
  ·
   rcases (hE b e').1 h' with ⟨rfl,rfl⟩ | h'
   · exact ⟨rfl,rfl⟩
   · exact absurd hee.symm (hno b e' h')
  ·
   rcases (hE b e').1 h' with ⟨rfl,rfl⟩ | h'
   · exact absurd hee (hno a e h)
   · exact hW.one a b e e' h h' hee (by rw [←(hK _ (hno a e h)).1];exact hkk)
 ·
  refine ⟨fun i=>if i=k then rk d+1 else rk i,fun d' e h hkk=>?_⟩
  rcases (hE d' e).1 h with ⟨rfl,rfl⟩ | h
  ·
   show (if d'=k then _ else rk d')<(if k=k then _ else _)
   rw [if_neg hdk,if_pos rfl];omega
  ·
   have h1:=hno d' e h
   have h2:d'≠k:=fun e2=>by rw [e2] at h;exact hnk e h
   dsimp only
   rw [if_neg h2,if_neg h1]
   exact hrk d' e h (by rw [←(hK _ h1).1];exact hkk)
 ·
  by_cases e:i=k
  · exact .inl ⟨d,(s,k),(hE _ _).2 (.inl ⟨rfl,rfl⟩),e.symm⟩
  ·
   rw [(hK i e).1] at hkk
   rw [(hK i e).2] at hi
   rcases hW.opn i hx hi hkk with ⟨d',e',h,h2⟩ | h
   · exact .inl ⟨d',e',(hE _ _).2 (.inr h),h2⟩
   · exact .inr h
 ·
  have:i≠k:=fun e=>by have:=hW.fil i hi;rw [e,hk0] at this;cases this
  rw [(hK i this).1];exact hW.fil i hi
end Go.Proofs.YtmgnbgniikjhdaaGreat
namespace Go.Proofs.YtmgnbgniikjhdaaGreat
open Go.Ab
set_option maxRecDepth 8000
set_option maxHeartbeats 400000
theorem TreeW.weak {T:Tab} {o X Y:List Int} (hW:TreeW T o X) (h:∀i∈X,i∈Y):TreeW T o Y:=
 ⟨hW.root,hW.top,hW.kid,fun i hx=>hW.has i (fun k=>hx (h i k)),hW.one,hW.rk,fun i hx=>hW.opn i (fun k=>hx (h i k)),hW.fil⟩
theorem cut_ent {T:Tab} (hT:Gd T) (d:Int) (s:List UInt8) (d':Int) (e:En):Ent (cutF T d s) d' e↔Ent T d' e∧(d'=d→e.1≠s):=by
 unfold Ent
 rw [cut_get hT]
 by_cases h:d'=d∧(T.get d).1.kind=2
 ·
  rw [if_pos h]
  show e∈remL _ _↔_
  rw [h.1]
  refine ⟨fun he=>⟨(remL_sub _ _).subset he,fun _=>remL_ne (risP_of (hT.2.kind (by rw [h.2];decide))).1 e he⟩,fun he=>remL_mem he.1 (he.2 rfl)⟩
 ·
  rw [if_neg h]
  refine ⟨fun he=>⟨he,fun hd=>?_⟩,fun he=>he.1⟩
  have:=ent_dir hT (d:=d') he
  rw [hd] at this
  exact absurd ⟨hd,this⟩ h
theorem cut_kind {T:Tab} (hT:Gd T) (d:Int) (s:List UInt8) (i:Int):((cutF T d s).get i).1.kind=(T.get i).1.kind∧((cutF T d s).get i).2=(T.get i).2:=by
 rw [cut_get hT]
 split
 ·
  rename_i h
  rw [h.1]
  exact ⟨rfl,(get_kind_at (by rw [h.2];decide)).symm⟩
 · exact ⟨rfl,rfl⟩
theorem ent_name {T:Tab} (hT:Gd T) {d:Int} {e e':En} (h:Ent T d e) (h':Ent T d e') (hn:e.1=e'.1):e=e':=by
 have hr:=(risP_of (hT.2.kind (i:=d) (by rw [ent_dir hT h];decide))).1
 obtain ⟨i,hi,rfl⟩:=List.mem_iff_getElem.1 h
 obtain ⟨j,hj,rfl⟩:=List.mem_iff_getElem.1 h'
 have hirr:∀s:List UInt8,Op.bytesLess s s≠true:=fun s h=>by
  have:=bl_asym s s h;rw [h] at this;cases this
 have hp:=List.pairwise_iff_getElem.1 hr
 rcases Nat.lt_trichotomy i j with h1 | h1 | h1
 · have:=hp i j hi hj h1;rw [hn] at this;exact absurd this (hirr _)
 · subst h1;rfl
 · have:=hp j i hj hi h1;rw [hn] at this;exact absurd this (hirr _)
theorem TreeW.cut {T:Tab} {o X:List Int} (hT:Gd T) (hW:TreeW T o X) {d:Int} {s:List UInt8} {n:Int} (he:Ent T d (s,n)):TreeW (cutF T d s) o (n::X):=by
 have hE:=cut_ent hT d s
 have hK:=cut_kind hT d s
 obtain ⟨rk,hrk⟩:=hW.rk
 have hkeep:∀d' e,Ent T d' e→e.2≠n→Ent (cutF T d s) d' e:=fun d' e h hne=>(hE d' e).2 ⟨h,fun hd hs=>hne (by
  subst hd;rw [ent_name hT h he hs])⟩
 refine ⟨by rw [(hK 1).1];exact hW.root,fun d' e h=>hW.top d' e ((hE _ _).1 h).1,fun d' e h=>by rw [(hK _).2];exact hW.kid d' e ((hE _ _).1 h).1,fun i hx hi h1=>?_,
  fun a b e e' h h' hee hk=>hW.one a b e e' ((hE _ _).1 h).1 ((hE _ _).1 h').1 hee (by rw [←(hK _).1];exact hk),⟨rk,fun d' e h hk=>hrk d' e ((hE _ _).1 h).1 (by rw [←(hK _).1];exact hk)⟩,fun i hx hi hk=>?_,fun i hi=>by rw [(hK i).1];exact hW.fil i hi⟩
 ·
  rw [(hK i).1] at hi
  simp only [List.mem_cons,not_or] at hx
  obtain ⟨d',e,h,hei⟩:=hW.has i hx.2 hi h1
  exact ⟨d',e,hkeep d' e h (by rw [hei];exact hx.1),hei⟩
 ·
  rw [(hK i).1] at hk
  rw [(hK i).2] at hi
  simp only [List.mem_cons,not_or] at hx
  rcases hW.opn i hx.2 hi hk with ⟨d',e,h,hei⟩ | h
  · exact .inl ⟨d',e,hkeep d' e h (by rw [hei];exact hx.1),hei⟩
  · exact .inr h
theorem TreeW.gone {T:Tab} {o X:List Int} (hT:Gd T) (hW:TreeW T o X) {n:Int} (h1:n≠1) (hno:∀d e,Ent T d e→e.2≠n) (hne:(T.get n).1.ents=[]) (ho:n∉o) {Y:List Int} (hY:∀i,i∈X→i=n∨i∈Y):TreeW (dropT T n) o Y:=by
 have hG:=drop_get hT.1 n
 have hE:∀d e,Ent (dropT T n) d e↔Ent T d e:=fun d e=>by
  unfold Ent;rw [hG]
  split
  · rename_i h;rw [h,hne];simp [nd0]
  · rfl
 have hK:∀i,i≠n→(dropT T n).get i=T.get i:=fun i hi=>by rw [hG,if_neg hi]
 have hz:(dropT T n).get n=(nd0,false):=by rw [hG,if_pos rfl]
 obtain ⟨rk,hrk⟩:=hW.rk
 refine ⟨by rw [hK 1 (Ne.symm h1)];exact hW.root,fun d e h=>hW.top d e ((hE _ _).1 h),fun d e h=>by rw [hK _ (hno d e ((hE _ _).1 h))];exact hW.kid d e ((hE _ _).1 h),fun i hx hi hi1=>?_,
  fun a b e e' h h' hee hk=>hW.one a b e e' ((hE _ _).1 h) ((hE _ _).1 h') hee (by rw [←hK _ (hno a e ((hE _ _).1 h))];exact hk),⟨rk,fun d e h hk=>hrk d e ((hE _ _).1 h) (by rw [←hK _ (hno d e ((hE _ _).1 h))];exact hk)⟩,fun i hx hi hk=>?_,fun i hi=>?_⟩
 ·
  have hin:i≠n:=fun e=>by rw [e,hz] at hi;cases hi
  rw [hK i hin] at hi
  obtain ⟨d,e,h,hei⟩:=hW.has i (fun h=>(hY i h).elim hin hx) hi hi1
  exact ⟨d,e,(hE _ _).2 h,hei⟩
 ·
  have hin:i≠n:=fun e=>by rw [e,hz] at hi;cases hi
  rw [hK i hin] at hi hk
  rcases hW.opn i (fun h=>(hY i h).elim hin hx) hi hk with ⟨d,e,h,hei⟩ | h
  · exact .inl ⟨d,e,(hE _ _).2 h,hei⟩
  · exact .inr h
 · rw [hK i (fun e=>ho (e▸hi))];exact hW.fil i hi
theorem TreeW.free {T:Tab} {o X Y:List Int} (hT:Gd T) (hW:TreeW T o X) {n:Int} (h1:n≠1) (hne:(T.get n).1.ents=[]) (hY:∀i,i∈X→i=n∨i∈Y):TreeW (freeF T n o).2 o Y:=by
 unfold freeF
 split
 ·
  rename_i h
  show TreeW T o Y
  refine ⟨hW.root,hW.top,hW.kid,fun i hx hi hi1=>?_,hW.one,hW.rk,fun i hx hi hk=>?_,hW.fil⟩
  ·
   by_cases hin:i=n
   ·
    subst hin
    rcases h with (h | h) | h
    · exact absurd h h1
    · exact (links_pos hT.1 _).1 h
    ·
     obtain ⟨y,hy,hyi⟩:=List.any_eq_true.1 h
     have:i=y:=by simpa using hyi
     subst this
     have:=hW.fil i hy;omega
   · exact hW.has i (fun h=>(hY i h).elim hin hx) hi hi1
  ·
   by_cases hin:i=n
   ·
    subst hin
    rcases h with (h | h) | h
    · exact absurd h h1
    · exact .inl ((links_pos hT.1 _).1 h)
    ·
     obtain ⟨y,hy,hyi⟩:=List.any_eq_true.1 h
     have:i=y:=by simpa using hyi
     subst this
     exact .inr hy
   · exact hW.opn i (fun h=>(hY i h).elim hin hx) hi hk
 ·
  rename_i h
  show TreeW (dropT T n) o Y
  refine hW.gone hT h1 (fun d e he hei=>h (.inl (.inr ((links_pos hT.1 n).2 ⟨d,e,he,hei⟩)))) hne (fun ho=>h (.inr (List.any_eq_true.2 ⟨n,ho,by simp⟩))) hY
theorem up_sub {T U:Tab} {o X:List Int} (hT:Gd T) (hU:Gd U) (hW:TreeW T o X) (hWU:TreeW U o X∨U.parent 0=0) (hE:∀d e,Ent U d e→Ent T d e) {i:Int} (hi:(T.get i).1.kind=2):∀k,up U k i≠0→up U k i=up T k i∧(T.get (up U k i)).1.kind=2
 | 0, _=>⟨rfl,hi⟩
 | k+1,h=>by
  have h0:U.parent 0=0:=hWU.elim (fun h=>par_zero hU h) id
  have hk:up U k i≠0:=fun e=>h (by show U.parent (up U k i)=0;rw [e,h0])
  obtain ⟨h1,h2⟩:=up_sub hT hU hW hWU hE hi k hk
  obtain ⟨e,he,hei⟩:=par_pos hU.1 (i:=up U k i) h
  have heT:=hE _ _ he
  have:T.parent (up U k i)=U.parent (up U k i):=by
   have:=hW.par hT heT (by rw [hei];exact h2)
   rw [hei] at this;exact this
  refine ⟨?_,ent_dir hT heT⟩
  show U.parent (up U k i)=T.parent (up T k i)
  rw [←h1,this]
theorem TreeW.ins {T U:Tab} {o X Y:List Int} (hT:Gd T) (hW:TreeW T o X) {d n:Int} {s:List UInt8} (hd:(T.get d).1.kind=2) (hn:(T.get n).2=true) (hn1:n≠1) (hdir:(T.get n).1.kind=2→(∀d' e,Ent T d' e→e.2≠n)∧∀k,up T k d≠n)
 (hY:∀i,i∈X→i=n∨i∈Y) (hU:∀i,U.get i=if i=d then (nWith (T.get d).1 (insF (T.get d).1.ents s n),true) else T.get i):TreeW U o Y:=by
 obtain ⟨rk,hrk⟩:=hW.rk
 have hE:∀d' e,Ent U d' e↔(d'=d∧e=(s,n))∨Ent T d' e:=fun d' e=>by
  unfold Ent
  rw [hU]
  by_cases h1:d'=d
  ·
   rw [if_pos h1]
   show e∈insF _ _ _↔_
   rw [mem_insF,h1];simp
  · rw [if_neg h1];simp [h1]
 have hK:∀i,(U.get i).1.kind=(T.get i).1.kind∧(U.get i).2=(T.get i).2:=fun i=>by
  rw [hU]
  split
  · rename_i h;subst h;exact ⟨rfl,(get_kind_at (by rw [hd];decide)).symm⟩
  · exact ⟨rfl,rfl⟩
 refine ⟨by rw [(hK 1).1];exact hW.root,fun d' e h=>?_,fun d' e h=>?_,fun i hx hi h1=>?_,fun a b e e' h h' hee hkk=>?_,?_,fun i hx hi hkk=>?_,fun i hi=>by rw [(hK i).1];exact hW.fil i hi⟩
 ·
  rcases (hE d' e).1 h with ⟨_,rfl⟩ | h
  · exact hn1
  · exact hW.top d' e h
 ·
  rw [(hK _).2]
  rcases (hE d' e).1 h with ⟨_,rfl⟩ | h
  · exact hn
  · exact hW.kid d' e h
 ·
  by_cases e:i=n
  · exact ⟨d,(s,n),(hE _ _).2 (.inl ⟨rfl,rfl⟩),e.symm⟩
  ·
   rw [(hK i).1] at hi
   obtain ⟨d',e',h,h2⟩:=hW.has i (fun h=>(hY i h).elim e hx) hi h1
   exact ⟨d',e',(hE _ _).2 (.inr h),h2⟩
 ·
  rw [(hK _).1] at hkk
  rcases (hE a e).1 h with ⟨rfl,rfl⟩ | h
  ·
   rcases (hE b e').1 h' with ⟨rfl,rfl⟩ | h'
   · exact ⟨rfl,rfl⟩
   · exact absurd hee.symm ((hdir hkk).1 b e' h')
  ·
   rcases (hE b e').1 h' with ⟨rfl,rfl⟩ | h'
   · exact absurd hee ((hdir (by rw [hee] at hkk;exact hkk)).1 a e h)
   · exact hW.one a b e e' h h' hee hkk
 ·
  by_cases hnd:(T.get n).1.kind=2
  ·
   obtain ⟨hno,hup⟩:=hdir hnd
   refine ⟨fun i=>@ite Nat (∃k,up T k i=n) (Classical.propDecidable _) (rk i+(rk d+1)) (rk i),fun d' e h hkk=>?_⟩
   rw [(hK _).1] at hkk
   dsimp only
   rcases (hE d' e).1 h with ⟨rfl,rfl⟩ | h
   · rw [if_neg (fun ⟨k,hk⟩=>hup k hk),if_pos ⟨0,rfl⟩];omega
   ·
    have hlt:=hrk d' e h hkk
    have hp:=hW.par hT h hkk
    have hiff:(∃k,up T k e.2=n)↔∃k,up T k d'=n:=by
     constructor
     ·
      rintro ⟨k,hk⟩
      cases k with
      | zero=>exact absurd hk (hno d' e h)
      | succ k=>exact ⟨k,by rw [←hp,up_in];exact hk⟩
     · rintro ⟨k,hk⟩;exact ⟨k+1,by rw [←up_in,hp];exact hk⟩
    by_cases hc:∃k,up T k d'=n
    · rw [if_pos hc,if_pos (hiff.2 hc)];omega
    · rw [if_neg hc,if_neg (fun h=>hc (hiff.1 h))];exact hlt
  ·
   refine ⟨rk,fun d' e h hkk=>?_⟩
   rw [(hK _).1] at hkk
   rcases (hE d' e).1 h with ⟨rfl,rfl⟩ | h
   · exact absurd hkk hnd
   · exact hrk d' e h hkk
 ·
  by_cases e:i=n
  · exact .inl ⟨d,(s,n),(hE _ _).2 (.inl ⟨rfl,rfl⟩),e.symm⟩
  ·
   rw [(hK i).1] at hkk
   rw [(hK i).2] at hi
   rcases hW.opn i (fun h=>(hY i h).elim e hx) hi hkk with ⟨d',e',h,h2⟩ | h
   · exact .inl ⟨d',e',(hE _ _).2 (.inr h),h2⟩
   · exact .inr h
theorem below_up {T:Tab} {n:Int}:∀(m:Nat) (i:Int),belowL T n m i=false→(∀k,k≤m→(∀j,j≤k→up T j i≠0)→up T k i≠n)
 | 0,i,h,k,hk, _=>by
  have:k=0:=by omega
  subst this
  show i≠n
  simpa [belowL] using h
 | m+1,i,h,k,hk,hz=>by
  unfold belowL at h
  have h0:=hz 0 (Nat.zero_le _)
  split at h
  ·
   rename_i hc
   rcases hc with hc | hc
   · simp [hc] at h
   · exact absurd hc h0
  ·
   rename_i hc
   cases k with
   | zero=>exact fun e=>hc (.inl e)
   | succ k=>
    have:=below_up m (T.parent i) h k (by omega) (fun j hj=>by rw [up_in];exact hz (j+1) (by omega))
    rwa [up_in] at this
theorem up_zero {T:Tab} (h:T.parent 0=0) {i:Int} {k:Nat} (hk:up T k i=0):∀m,k≤m→up T m i=0
 | 0,hm=>by rw [show k=0 by omega] at hk;exact hk
 | m+1,hm=>by
  by_cases e:k=m+1
  · rw [←e];exact hk
  ·
   show T.parent (up T m i)=0
   rw [up_zero h hk m (by omega),h]
theorem below_never {T:Tab} {o:List Int} (hT:Gd T) (hW:TreeW T o []) {n d:Int} (hn:n≠0) (hd:(T.get d).1.kind=2) (h:belowL T n 24 d=false):∀k,up T k d≠n:=by
 intro k hk
 obtain ⟨m,hm,h1⟩:=hW.reach hT hd
 have hp0:=par_zero hT hW
 have hz:up T (m+1) d=0:=by show T.parent (up T m d)=0;rw [h1,par_one hT hW]
 have hkm:k≤m:=by
  apply Classical.byContradiction
  intro hc
  have:=up_zero hp0 hz k (by omega)
  rw [this] at hk;exact hn hk.symm
 refine below_up 24 d h k (by omega) (fun j hj hj0=>?_) hk
 have:=up_zero hp0 hj0 k hj
 rw [this] at hk;exact hn hk.symm
end Go.Proofs.YtmgnbgniikjhdaaGreat
namespace Go.Proofs.YtmgnbgniikjhdaaGreat
open Go.Ab
set_option maxRecDepth 8000
set_option maxHeartbeats 400000
theorem withN_kind {n:Nd} {s:List UInt8} {id:Int} (h:(withN n s id).2=0):(withN n s id).1.kind=2:=by
 rw [withN_zero h]
 show n.kind=2
 apply Classical.byContradiction
 intro hk
 unfold withN at h
 rw [if_pos hk] at h;cases h
theorem TreeW.more {T:Tab} {o o' X:List Int} (hW:TreeW T o X) (h:∀i∈o,i∈o') (hf:∀i∈o',(T.get i).1.kind=1):TreeW T o' X:=
 ⟨hW.root,hW.top,hW.kid,hW.has,hW.one,hW.rk,fun i hx hi hk=>(hW.opn i hx hi hk).elim .inl fun k=>.inr (h i k),hf⟩
theorem TreeW.less {T:Tab} {o o' X Y:List Int} (hW:TreeW T o X) (h:∀i∈o',i∈o) (hX:∀i∈X,i∈Y) (h2:∀i∈o,i∈o'∨i∈Y):TreeW T o' Y:=
 ⟨hW.root,hW.top,hW.kid,fun i hx=>hW.has i (fun k=>hx (hX i k)),hW.one,hW.rk,fun i hx hi hk=>(hW.opn i (fun k=>hx (hX i k)) hi hk).elim .inl fun k=>(h2 i k).elim .inr fun k=>absurd k hx,fun i hi=>hW.fil i (h i hi)⟩
theorem no_ents {T:Tab} (hT:Gd T) {i:Int} (h:(T.get i).1.kind≠2):(T.get i).1.ents=[]:=by
 apply List.eq_nil_iff_forall_not_mem.2
 intro e he
 exact h (ent_dir hT (d:=i) he)
theorem plant_tree {T:Tab} (hT:Gd T) {o X:List Int} (hW:TreeW T o X) {c:Cr} {p:List UInt8} {fl:Bool} {g:Nd→Nd} (hg:∀n,NdOk n→NdOk (g n)) (he:∀n,(g n).ents=[]) (h:(plantF T c p fl g).1.2=0) :
 TreeW (plantF T c p fl g).2 o X∧((plantF T c p fl g).2.get (plantF T c p fl g).1.1).1.kind=(g (T.get (rD T c p fl)).1).kind∧(plantF T c p fl g).1.1≠0:=by
 have hno:NdOk (ownN c (T.get (rD T c p fl)).1 (g (T.get (rD T c p fl)).1)):=ownN_ok (hg _ (hT.nd _))
 have hnm:=resF_nm T c p fl
 unfold plantF at h ⊢
 split at h
 · rename_i h1;exact absurd h h1
 rename_i h1;rw [if_neg h1]
 split at h
 · cases h
 rename_i h2;rw [if_neg h2]
 split at h
 · cases h
 rename_i h3;rw [if_neg h3]
 split at h
 · cases h
 rename_i h4;rw [if_neg h4]
 split at h
 · rename_i h5;exact absurd h h5
 rename_i h5;rw [if_neg h5]
 have h50:=Classical.not_not.1 h5
 split at h
 · rename_i h6;exact absurd h h6
 rename_i h6;rw [if_neg h6]
 have h60:=Classical.not_not.1 h6
 obtain ⟨hr,j,hf,ej⟩:=addT_good h50
 obtain ⟨hfr,hga⟩:=add_get hT.1 hno h50
 have hwk:=withN_kind h60
 have hwz:=withN_zero h60
 have hd:(T.get (rD T c p fl)).1.kind=2:=by rw [hwz] at hwk;exact hwk
 have hdi:=get_kind_at (T:=T) (i:=rD T c p fl) (by rw [hd];decide)
 have hne:rD T c p fl≠(addT T (ownN c (T.get (rD T c p fl)).1 (g (T.get (rD T c p fl)).1))).1.1:=fun e=>by rw [←e,hdi] at hfr;cases hfr
 obtain ⟨_,hpg⟩:=putT_get (addT_ok hT.1 hno) (withN_ok (hT.nd _) (by omega)) (withN_right (hT.2.kind (by omega)) h60) (by rw [hga,if_neg hne];exact hdi)
 have hk0:(addT T (ownN c (T.get (rD T c p fl)).1 (g (T.get (rD T c p fl)).1))).1.1≠0:=by rw [ej];show (j:Int)+1≠0;omega
 refine ⟨hW.plant hT hd hfr (s:=rS T c p fl) (nn:=ownN c (T.get (rD T c p fl)).1 (g (T.get (rD T c p fl)).1)) (he _) hne fun i=>?_,?_,hk0⟩
 ·
  show (putT _ _ _).2.get i=_
  rw [hpg]
  split
  · rw [hwz]
  · rw [hga]
 ·
  show ((putT _ _ _).2.get _).1.kind=_
  rw [hpg,if_neg (Ne.symm hne),hga,if_pos rfl];rfl
theorem plant_any {T:Tab} (hT:Gd T) {o X:List Int} (hW:TreeW T o X) {c:Cr} {p:List UInt8} {fl:Bool} {g:Nd→Nd} (hg:∀n,NdOk n→NdOk (g n)) (he:∀n,(g n).ents=[]):TreeW (plantF T c p fl g).2 o X:=by
 by_cases h:(plantF T c p fl g).1.2=0
 · exact (plant_tree hT hW hg he h).1
 · rw [plantF_bad hT hg h];exact hW
theorem chg_tree {T:Tab} (hT:Gd T) {o X:List Int} (hW:TreeW T o X) {c:Cr} {p:List UInt8} {fl:Bool} {g:Nd→Nd×Int} (hg:∀n,NdOk n→NdOk (g n).1) (hs:∀n,(g n).1.kind=n.kind∧(g n).1.ents=n.ents):TreeW (chgF T c p fl g).2 o X:=by
 unfold chgF
 split
 · exact hW
 split
 · exact hW
 split
 · exact hW
 · exact hW.put hT (hg _ (hT.nd _)) (hs _).1 (hs _).2
theorem find_ent {T:Tab} (hT:Gd T) {c:Cr} {p:List UInt8} (h:findE T c p=0):Ent T (rD T c p false) (rS T c p false,rN T c p false)∧(T.get (rD T c p false)).1.kind=2∧1≤rN T c p false:=by
 obtain ⟨h1,h2,h3, _⟩:=findE_zero h
 rcases resF_at hT.2 c p false h1 with k | ⟨k1, _, _, _, _,k2⟩
 · exact absurd k.1 h3
 ·
  dsimp only at k1 k2
  rcases findF_pos (hT.2.kind (i:=rD T c p false) (by omega)) (s:=rS T c p false) with ⟨f1, _⟩ | ⟨f1, _,f3⟩
  · omega
  ·
   rw [←k2] at f1 f3
   exact ⟨f3,k1,f1⟩
theorem TreeW.irr {T:Tab} {o X:List Int} (hW:TreeW T o X) {d:Int} {e:En} (h:Ent T d e) (hk:(T.get e.2).1.kind=2):e.2≠d:=by
 obtain ⟨rk,hrk⟩:=hW.rk
 intro he
 have:=hrk d e h hk
 rw [he] at this
 exact absurd this (Nat.lt_irrefl _)
theorem unlink_tree {T:Tab} (hT:Gd T) {o:List Int} (hW:TreeW T o []) {c:Cr} {p:List UInt8}:TreeW (unlinkF T c p o).2 o []:=by
 unfold unlinkF
 split
 · exact hW
 rename_i h1
 split
 · exact hW
 rename_i h2
 obtain ⟨he,hd,hn⟩:=find_ent hT (Classical.not_not.1 h1)
 have hC:=hT.cut (rD T c p false) (rS T c p false)
 show TreeW (freeF _ _ _).2 o []
 refine (hW.cut hT he).free hC (hW.top _ _ he) ?_ (fun i hi=>by simpa using hi)
 exact no_ents hC (by rw [(cut_kind hT _ _ _).1];exact h2)
theorem rmdir_tree {T:Tab} (hT:Gd T) {o:List Int} (hW:TreeW T o []) {c:Cr} {p:List UInt8}:TreeW (rmdirF T c p).2 o []:=by
 unfold rmdirF
 split
 · exact hW
 rename_i h1
 split
 · exact hW
 rename_i h2
 split
 · exact hW
 rename_i h3
 obtain ⟨he,hd,hn⟩:=find_ent hT (Classical.not_not.1 h1)
 have hC:=hT.cut (rD T c p false) (rS T c p false)
 have hk:=Classical.not_not.1 h2
 have hir:=hW.irr he hk
 show TreeW (dropT _ _) o []
 refine (hW.cut hT he).gone hC (hW.top _ _ he) (fun d e h hei=>?_) ?_ (fun ho=>by
  have h9:(T.get (rN T c p false)).1.kind=1:=hW.fil _ ho
  omega) (fun i hi=>by simpa using hi)
 ·
  obtain ⟨k1,k2⟩:=(cut_ent hT _ _ _ _).1 h
  obtain ⟨q1,q2⟩:=hW.one _ _ _ _ k1 he hei (by rw [hei];exact hk)
  exact k2 q1 (by rw [q2])
 ·
  rw [cut_get hT,if_neg (fun h=>hir h.1)]
  show (T.get (rN T c p false)).1.ents=[]
  exact List.length_eq_zero_iff.1 (by omega)
theorem free_zero {T:Tab} (o:List Int):(freeF T 0 o).2=T:=by
 have:T.at 0=none:=by unfold Tab.at;rw [if_neg (by omega)]
 unfold freeF
 split
 · rfl
 ·
  show dropT T 0=T
  unfold dropT;rw [this]
theorem rename_tree {T:Tab} (hT:Gd T) {o:List Int} (hW:TreeW T o []) {c:Cr} {p q:List UInt8}:TreeW (renameF T c p q o).2 o []:=by
 by_cases hz:(renameF T c p q o).1=0
 case neg=>rw [renameF_bad hT hz];exact hW
 unfold renameF at hz ⊢
 split
 · exact hW
 rename_i h1;rw [if_neg h1] at hz
 split
 · exact hW
 rename_i h2;rw [if_neg h2] at hz
 split
 · exact hW
 rename_i h3;rw [if_neg h3] at hz
 split
 · exact hW
 rename_i h4;rw [if_neg h4] at hz
 split
 · exact hW
 rename_i h5;rw [if_neg h5] at hz
 split
 · exact hW
 rename_i h6;rw [if_neg h6] at hz
 split
 · exact hW
 rename_i h7;rw [if_neg h7] at hz
 have h10:=Classical.not_not.1 h1
 have h20:=Classical.not_not.1 h2
 obtain ⟨heP,hdP,hnP⟩:=find_ent hT h10
 have hqa:=resF_at hT.2 c q false h20
 have hnm:=resF_nm T c q false
 rcases hqa with hqa | ⟨qk,qn,q1,q2,q3,qf⟩
 · exact absurd hqa.1 h3
 dsimp only at qk qf
 have key:∀(U:Tab) (X:List Int),Gd U→TreeW U o X→(∀d e,Ent U d e→Ent T d e)→(∀i,(U.get i).1.kind=(T.get i).1.kind∧(U.get i).2=(T.get i).2)→Ent U (rD T c p false) (rS T c p false,rN T c p false) →
  (withN ((cutF U (rD T c p false) (rS T c p false)).get (rD T c q false)).1 (rS T c q false) (rN T c p false)).2=0 →
  TreeW (putT (cutF U (rD T c p false) (rS T c p false)) (rD T c q false) (withN ((cutF U (rD T c p false) (rS T c p false)).get (rD T c q false)).1 (rS T c q false) (rN T c p false)).1).2 o X ∧
  (∀d e,Ent (putT (cutF U (rD T c p false) (rS T c p false)) (rD T c q false) (withN ((cutF U (rD T c p false) (rS T c p false)).get (rD T c q false)).1 (rS T c q false) (rN T c p false)).1).2 d e→d=rD T c q false∨Ent T d e) ∧
  Gd (putT (cutF U (rD T c p false) (rS T c p false)) (rD T c q false) (withN ((cutF U (rD T c p false) (rS T c p false)).get (rD T c q false)).1 (rS T c q false) (rN T c p false)).1).2:=by
  intro U X hUg hU hsub hkd heU hw
  have hC:=hUg.cut (rD T c p false) (rS T c p false)
  have hWC:=hU.cut hUg heU
  have hCk:=fun i=>cut_kind hUg (rD T c p false) (rS T c p false) i
  have hCsub:∀d e,Ent (cutF U (rD T c p false) (rS T c p false)) d e→Ent T d e:=fun d e h=>hsub d e ((cut_ent hUg _ _ _ _).1 h).1
  have hn:=withN_ok (s:=rS T c q false) (id:=rN T c p false) (hC.nd (rD T c q false)) (by omega)
  have hdk:((cutF U (rD T c p false) (rS T c p false)).get (rD T c q false)).1.kind=2:=by rw [(hCk _).1,(hkd _).1];exact qk
  obtain ⟨_,hpg⟩:=putT_get hC.1 hn (withN_right (hC.2.kind (by rw [hdk];decide)) hw) (get_kind_at (by rw [hdk];decide))
  have hform:∀i,(putT (cutF U (rD T c p false) (rS T c p false)) (rD T c q false) (withN ((cutF U (rD T c p false) (rS T c p false)).get (rD T c q false)).1 (rS T c q false) (rN T c p false)).1).2.get i=if i=rD T c q false then (nWith ((cutF U (rD T c p false) (rS T c p false)).get (rD T c q false)).1 (insF ((cutF U (rD T c p false) (rS T c p false)).get (rD T c q false)).1.ents (rS T c q false) (rN T c p false)),true) else (cutF U (rD T c p false) (rS T c p false)).get i:=fun i=>by
   rw [hpg,withN_zero hw]
  refine ⟨hWC.ins hC hdk (by rw [(hCk _).2,(hkd _).2];exact hW.kid _ _ heP) (hW.top _ _ heP) (fun hnk=>?_) (fun i hi=>by simpa using hi) hform,fun d e h=>?_,hC.put hn _⟩
  ·
   have hnk2:(T.get (rN T c p false)).1.kind=2:=by rw [←(hkd _).1,←(hCk _).1];exact hnk
   refine ⟨fun d e h hei=>?_,fun k hk=>?_⟩
   ·
    obtain ⟨k1,k2⟩:=(cut_ent hUg _ _ _ _).1 h
    obtain ⟨r1,r2⟩:=hW.one _ _ _ _ (hsub _ _ k1) heP hei (by rw [hei];exact hnk2)
    exact k2 r1 (by rw [r2])
   ·
    have hb:belowL T (rN T c p false) 24 (rD T c q false)=false:=by
     cases hb:belowL T (rN T c p false) 24 (rD T c q false) with
     | false=>rfl
     | true=>exact absurd ⟨hnk2,hb⟩ h6
    have h0:=par_zero hC hWC
    obtain ⟨u1, _⟩:=up_sub hT hC hW (.inr h0) hCsub qk k (by rw [hk];show rN T c p false≠0;omega)
    exact below_never hT hW (by omega) qk hb k (by rw [←u1];exact hk)
  ·
   unfold Ent at h
   rw [hform] at h
   split at h
   · rename_i hd;exact .inl hd
   · exact .inr (hCsub d e h)
 split
 ·
  rename_i h8
  rw [if_pos h8] at hz
  split
  · exact hW
  ·
   rename_i h9
   have heQ:Ent T (rD T c q false) (rS T c q false,rN T c q false):=by
    rcases findF_pos (hT.2.kind (i:=rD T c q false) (by omega)) (s:=rS T c q false) with ⟨f1, _⟩ | ⟨_, _,f3⟩
    · rw [←qf] at f1;exact absurd f1 h8
    · rw [←qf] at f3;exact f3
   obtain ⟨g1,g2⟩:=renL_good hT o h10 h20 h3 (.inl ⟨h8,rfl⟩)
   have hUg:=hT.cut (rD T c q false) (rS T c q false)
   have heU:Ent (cutF T (rD T c q false) (rS T c q false)) (rD T c p false) (rS T c p false,rN T c p false):=(cut_ent hT _ _ _ _).2 ⟨heP,fun hd hs=>by
    dsimp only at hs
    rw [hd] at heP
    have:=ent_name hT heP heQ hs
    exact h5 (congrArg Prod.snd this).symm⟩
   obtain ⟨k1,k2,k3⟩:=key _ _ hUg (hW.cut hT heQ) (fun d e h=>((cut_ent hT _ _ _ _).1 h).1) (fun i=>cut_kind hT _ _ i) heU g1
   unfold renL
   rw [if_pos g1]
   show TreeW (freeF _ _ _).2 o []
   have hqe:(T.get (rN T c q false)).1.ents=[]:=by
    have h90:=Classical.not_not.1 h9
    unfold overF at h90
    split at h90
    · cases h90
    split at h90
    · cases h90
    split at h90
    · cases h90
    split at h90
    · cases h90
    · exact List.length_eq_zero_iff.1 (by omega)
   refine k1.free k3 (hW.top _ _ heQ) (List.eq_nil_iff_forall_not_mem.2 fun e he=>?_) (fun i hi=>by simpa using hi)
   rcases k2 _ e he with hd | he
   · exact hW.irr heQ (by rw [←hd] at qk;exact qk) hd
   · unfold Ent at he;rw [hqe] at he;cases he
 ·
  rename_i h8
  rw [if_neg h8] at hz
  have h80:=Classical.not_not.1 h8
  obtain ⟨g1,g2⟩:=renL_good hT o h10 h20 h3 (.inr ⟨h80,rfl,by
   by_cases e:rD T c q false=rD T c p false
   · exact .inl e
   ·
    exact .inr (by
     by_cases e8:(8:Int)≤(T.get (rD T c q false)).1.ents.length
     · exact absurd ⟨h80,e,e8⟩ h7
     · omega)⟩)
  obtain ⟨k1,k2,k3⟩:=key _ _ hT hW (fun d e h=>h) (fun i=>⟨rfl,rfl⟩) heP g1
  unfold renL
  rw [if_pos g1]
  show TreeW (freeF _ (rN T c q false) _).2 o []
  rw [h80,free_zero];exact k1
theorem cha_tree {T:Tab} (hT:Gd T) {o:List Int} (hW:TreeW T o []) (P:Pr) (ca:Ca):TreeW (chaF T P ca o).2 o []:=by
 unfold chaF
 split
 ·
  unfold chmodF;split
  · exact hW
  · exact chg_tree hT hW (chmodG_ok _ _) fun n=>by unfold chmodG;cases mayMode P.c n.uid<;>exact ⟨rfl,rfl⟩
 split
 · exact plant_any hT hW (fun n hn=>⟨Nat.zero_le _,Nat.zero_le _,Nat.zero_le _,fun e he=>nomatch he⟩) fun n=>rfl
 split
 ·
  unfold symlinkF
  split
  · exact hW
  split
  · exact hW
  split
  · exact hW
  · exact plant_any hT hW (fun n hn=>⟨Nat.zero_le _,Nat.zero_le _,(by show ca.other.length≤1000;omega),fun e he=>nomatch he⟩) fun n=>rfl
 split
 · exact unlink_tree hT hW
 split
 · exact rmdir_tree hT hW
 split
 · exact rename_tree hT hW
 ·
  unfold chownF;split
  · exact hW
  ·
   refine chg_tree hT hW (chownG_ok _ _ _) fun n=>?_
   unfold chownG
   cases mayOwn P.c n.uid n.gid ca.a ca.b with
   | false=>exact ⟨rfl,rfl⟩
   | true=>
    rw [cond_true]
    split<;>exact ⟨rfl,rfl⟩
theorem open_tree {T:Tab} (hT:Gd T) {o:List Int} (hW:TreeW T o []) {c:Cr} {um:Int} {p:List UInt8} {f m:Int} (h:(openF T c um p f m).1.2=0) :
 TreeW (openF T c um p f m).2 o []∧((openF T c um p f m).2.get (openF T c um p f m).1.1).1.kind=1∧(openF T c um p f m).1.1≠0:=by
 unfold openF at h ⊢
 split at h
 · cases h
 rename_i h1;rw [if_neg h1]
 split at h
 · rename_i h2;exact absurd h h2
 rename_i h2;rw [if_neg h2]
 split at h
 ·
  rename_i h3;rw [if_pos h3]
  split at h
  · cases h
  ·
   rename_i h4;rw [if_neg h4]
   exact plant_tree hT hW (fun n hn=>⟨Nat.zero_le _,Nat.zero_le _,Nat.zero_le _,fun e he=>nomatch he⟩) (fun n=>rfl) h
 rename_i h3;rw [if_neg h3]
 have hi:(T.get (rN T c p (!hasF f 40))).2=true:=by simpa using h3
 split at h
 · cases h
 rename_i h4;rw [if_neg h4]
 split at h
 · cases h
 rename_i h5;rw [if_neg h5]
 split at h
 · cases h
 rename_i h6;rw [if_neg h6]
 generalize bits .or .i64 (if hasF f 1=true then 4 else 0) (if hasF f 2=true then 2 else 0)=w at h ⊢
 split at h
 · cases h
 rename_i h7;rw [if_neg h7]
 have hk:(T.get (rN T c p (!hasF f 40))).1.kind=1:=by
  rcases right_cases (hT.2.get hi) with ⟨_,k | k | k⟩
  · exact k.1
  · exact absurd k.1 h6
  · exact absurd k.1 h5
 have hp:=get_pos hT.1 hi
 split
 ·
  have hn:=dataN_ok (c:=c) (hT.nd (rN T c p (!hasF f 40))) (b:=[]) (Nat.zero_le _)
  refine ⟨hW.put hT hn rfl rfl,?_,by show rN T c p (!hasF f 40)≠0;omega⟩
  show ((putT _ _ _).2.get (rN T c p (!hasF f 40))).1.kind=1
  by_cases hr:rightF (dataN c (T.get (rN T c p (!hasF f 40))).1 [])=true
  · rw [(putT_get hT.1 hn hr hi).2,if_pos rfl];exact hk
  ·
   have e:(putT T (rN T c p (!hasF f 40)) (dataN c (T.get (rN T c p (!hasF f 40))).1 [])).2=T:=by
    obtain ⟨j,ha, _⟩:=get_isat hi
    unfold putT;rw [ha];simp [show rightF (dataN c (T.get (rN T c p (!hasF f 40))).1 [])=false by simpa using hr]
   rw [e];exact hk
 · exact ⟨hW,hk,by show rN T c p (!hasF f 40)≠0;omega⟩
theorem prO_iff {P:Pr} {n:Nat} {y:Int}:y∈prO P n↔∃j,j<n∧(P.fd j).node=y∧y≠0:=by
 unfold prO
 rw [List.mem_map]
 constructor
 ·
  rintro ⟨j,hj,rfl⟩
  obtain ⟨h1,h2⟩:=List.mem_filter.1 hj
  exact ⟨j,List.mem_range.1 h1,rfl,by simpa using h2⟩
 ·
  rintro ⟨j,hj,rfl,hn⟩
  exact ⟨j,List.mem_filter.2 ⟨List.mem_range.2 hj,by simpa using hn⟩,rfl⟩
theorem openL_iff {ps:List Pr} {y:Int}:y∈openL ps↔∃i,∃h:i<ps.length,∃j,j<3∧(ps[i].fd j).node=y∧y≠0:=by
 unfold openL
 rw [List.mem_flatMap]
 constructor
 ·
  rintro ⟨P,hP,hy⟩
  obtain ⟨i,hi,rfl⟩:=List.mem_iff_getElem.1 hP
  exact ⟨i,hi,prO_iff.1 hy⟩
 ·
  rintro ⟨i,hi,h⟩
  exact ⟨ps[i],List.getElem_mem hi,prO_iff.2 h⟩
theorem fd_put_same (P:Pr) {i:Nat} (f:Fde) (hi:i<3):(P.put i f).fd i=f:=by
 rcases (show i=0∨i=1∨i=2 by omega) with rfl | rfl | rfl<;>rfl
theorem fd_put_ne (P:Pr) {i j:Nat} (f:Fde) (hi:i<3) (hj:j<3) (h:j≠i):(P.put i f).fd j=P.fd j:=by
 rcases (show i=0∨i=1∨i=2 by omega) with rfl | rfl | rfl<;>rcases (show j=0∨j=1∨j=2 by omega) with rfl | rfl | rfl<;>first | rfl | exact absurd rfl h
theorem shut_tree {T:Tab} (hT:Gd T) {ps:List Pr} {pid:Nat} {P:Pr} (hp:pid<ps.length) (hP:ps[pid]=P) (hW:TreeW T (openL ps) []) (a:Int):TreeW (shutF T ps pid P a).2.1 (openL (ps.set pid (shutF T ps pid P a).2.2)) []:=by
 unfold shutF
 split
 ·
  show TreeW T (openL (ps.set pid P)) []
  rw [openL_set hp (by intro j;rw [hP])];exact hW
 ·
  rename_i h
  obtain ⟨i,hi,hi3⟩:∃i:Nat,a.toNat=i∧i<3:=⟨a.toNat,rfl,by
   apply Classical.byContradiction
   intro hc
   exact h (.inl (by omega))⟩
  rw [hi] at h ⊢
  have hn0:(P.fd i).node≠0:=fun e=>h (.inr e)
  have hmem:(P.fd i).node∈openL ps:=openL_iff.2 ⟨pid,hp,i,hi3,by rw [hP],hn0⟩
  have hk:=hW.fil _ hmem
  show TreeW (freeF T (P.fd i).node (openL (ps.set pid (P.put i fd0)))).2 (openL (ps.set pid (P.put i fd0))) []
  have hW2:TreeW T (openL (ps.set pid (P.put i fd0))) [(P.fd i).node]:=hW.less (fun y hy=>by
   obtain ⟨q,hq,j,hj,hy1,hy2⟩:=openL_iff.1 hy
   rw [List.length_set] at hq
   rw [List.getElem_set] at hy1
   split at hy1
   ·
    by_cases hji:j=i
    ·
     subst hji
     rw [fd_put_same P fd0 hj] at hy1
     exact absurd hy1.symm hy2
    ·
     rw [fd_put_ne P fd0 hi3 hj hji] at hy1
     exact openL_iff.2 ⟨pid,hp,j,hj,by rw [hP];exact hy1,hy2⟩
   · exact openL_iff.2 ⟨q,hq,j,hj,hy1,hy2⟩) (fun i hi=>nomatch hi) (fun y hy=>by
   obtain ⟨q,hq,j,hj,hy1,hy2⟩:=openL_iff.1 hy
   by_cases hqp:q=pid
   ·
    subst hqp
    rw [hP] at hy1
    by_cases hji:j=i
    · subst hji;exact .inr (by simp [hy1])
    ·
     refine .inl (openL_iff.2 ⟨q,by rw [List.length_set];exact hq,j,hj,?_,hy2⟩)
     rw [List.getElem_set_self,fd_put_ne P fd0 hi3 hj hji];exact hy1
   ·
    refine .inl (openL_iff.2 ⟨q,by rw [List.length_set];exact hq,j,hj,?_,hy2⟩)
    rw [List.getElem_set_ne (Ne.symm hqp)];exact hy1)
  exact hW2.free hT (fun e=>by rw [e,hW.root] at hk;cases hk) (no_ents hT (by rw [hk];decide)) (fun i hi=>by simpa using hi)
theorem shutN_tree {T:Tab} (hT:Gd T) {ps:List Pr} {pid:Nat} {P:Pr} (hp:pid<ps.length) (hP:ps[pid]=P) (hW:TreeW T (openL ps) []):∀n,TreeW (shutN T ps pid P n).1 (openL (ps.set pid (shutN T ps pid P n).2)) []
 | 0=>by
  show TreeW T (openL (ps.set pid P)) []
  rw [openL_set hp (by intro j;rw [hP])];exact hW
 | n+1=>by
  obtain ⟨h1,h2, _⟩:=shutN_ok (ps:=ps) (pid:=pid) (P:=P) hT.1 hT.2 n
  have:=shut_tree ⟨h1,h2⟩ (ps:=ps.set pid (shutN T ps pid P n).2) (pid:=pid) (P:=(shutN T ps pid P n).2) (by rw [List.length_set];exact hp) (List.getElem_set_self _) (shutN_tree hT hp hP hW n) (n:Nat)
  rw [List.set_set] at this
  exact this
theorem shutN_fd {T:Tab} {ps:List Pr} {pid:Nat} {P:Pr}:∀n,n≤3→∀j,j<n→((shutN T ps pid P n).2.fd j).node=0
 | 0, _,j,hj=>absurd hj (Nat.not_lt_zero _)
 | n+1,hn,j,hj=>by
  show ((shutF (shutN T ps pid P n).1 (ps.set pid (shutN T ps pid P n).2) pid (shutN T ps pid P n).2 (n:Nat)).2.2.fd j).node=0
  unfold shutF
  split
  ·
   rename_i h
   rw [Int.toNat_natCast] at h
   rcases Nat.lt_succ_iff_lt_or_eq.1 hj with h1 | h1
   · exact shutN_fd n (by omega) j h1
   ·
    subst h1
    exact h.elim (fun h=>by omega) id
  ·
   rw [Int.toNat_natCast]
   show (((shutN T ps pid P n).2.put n fd0).fd j).node=0
   by_cases hjn:j=n
   · subst hjn;rw [fd_put_same _ _ (by omega)];rfl
   · rw [fd_put_ne _ _ (by omega) (by omega) hjn];exact shutN_fd n (by omega) j (by omega)
theorem doF_tree {T:Tab} (hT:Gd T) {ps:List Pr} (hW:TreeW T (openL ps) []) (pid:Int) (ca:Ca):TreeW (doF T ps pid ca).2.1 (openL (doF T ps pid ca).2.2) []:=by
 unfold doF
 by_cases hp:0≤pid∧pid<ps.length
 ·
  rw [if_pos hp]
  obtain ⟨n,rfl⟩:∃n:Nat,pid=(n:Int):=⟨pid.toNat,by omega⟩
  have hn:n<ps.length:=by omega
  rw [Int.toNat_natCast]
  have hgd:ps.getD n pr0=ps[n]:=by rw [List.getD_eq_getElem?_getD,List.getElem?_eq_getElem hn];rfl
  rw [hgd]
  have hsame:∀(U:Tab) (Q:Pr),TreeW U (openL ps) []→(∀j,(Q.fd j).node=(ps[n].fd j).node)→TreeW U (openL (ps.set n Q)) []:=fun U Q hU hQ=>by rw [openL_set hn hQ];exact hU
  show TreeW (stepF T ps n ps[n] ca).2.1 (openL (ps.set n (stepF T ps n ps[n] ca).2.2)) []
  obtain ⟨P,hP⟩:∃P,ps[n]=P:=⟨_,rfl⟩
  rw [hP] at hsame ⊢
  have ho:∀i,i<3→(P.fd i).node=0→TreeW (opnAt T P ca i).2.1 (openL (ps.set n (opnAt T P ca i).2.2)) []:=fun i hi h0=>by
   unfold opnAt
   split
   ·
    rename_i he
    show TreeW (openF T P.c P.um ca.path ca.a ca.b).2 (openL (ps.set n P)) []
    rw [openF_bad hT he]
    exact hsame T P hW fun j=>rfl
   ·
    rename_i he
    obtain ⟨k1,k2,k3⟩:=open_tree hT hW (Classical.not_not.1 he)
    generalize openF T P.c P.um ca.path ca.a ca.b=r at k1 k2 k3
    show TreeW r.2 (openL (ps.set n (P.put i ⟨r.1.1,0,hasF ca.a 1,hasF ca.a 2⟩))) []
    refine k1.more (fun y hy=>?_) (fun y hy=>?_)
    ·
     obtain ⟨q,hq,j,hj,hy1,hy2⟩:=openL_iff.1 hy
     by_cases hqn:q=n
     ·
      subst hqn
      rw [hP] at hy1
      refine openL_iff.2 ⟨q,by rw [List.length_set];exact hq,j,hj,?_,hy2⟩
      rw [List.getElem_set_self,fd_put_ne P _ hi hj (fun e=>by subst e;rw [h0] at hy1;exact hy2 hy1.symm)]
      exact hy1
     ·
      refine openL_iff.2 ⟨q,by rw [List.length_set];exact hq,j,hj,?_,hy2⟩
      rw [List.getElem_set_ne (Ne.symm hqn)];exact hy1
    ·
     obtain ⟨q,hq,j,hj,hy1,hy2⟩:=openL_iff.1 hy
     rw [List.length_set] at hq
     rw [List.getElem_set] at hy1
     split at hy1
     ·
      by_cases hji:j=i
      ·
       subst hji
       rw [fd_put_same P _ hj] at hy1
       rw [←hy1];exact k2
      ·
       rw [fd_put_ne P _ hi hj hji] at hy1
       exact k1.fil y (openL_iff.2 ⟨n,hn,j,hj,by rw [hP];exact hy1,hy2⟩)
     · exact k1.fil y (openL_iff.2 ⟨q,hq,j,hj,hy1,hy2⟩)
  unfold stepF
  split
  ·
   unfold opnF
   split
   · rename_i k;exact ho 0 (by omega) k
   split
   · rename_i k;exact ho 1 (by omega) k
   split
   · rename_i k;exact ho 2 (by omega) k
   · exact hsame T P hW fun j=>rfl
  split
  ·
   refine hsame T (redF T P ca).2 hW fun j=>?_
   unfold redF
   split
   · rfl
   · exact put_node P _ j _ rfl (by omega)
  split
  ·
   unfold wriF
   split
   · exact hsame T P hW fun j=>rfl
   have hw:TreeW (writeAtF T P.c (P.fd ca.a.toNat).node (P.fd ca.a.toNat).off ca.data).2 (openL ps) []:=by
    have hd:=(hT.nd (P.fd ca.a.toNat).node).1
    unfold writeAtF
    split
    · exact hW
    split
    · exact hW
    split
    · exact hW
    split
    · exact hW
    · exact hW.put hT (dataN_ok (hT.nd _) (by rw [overB_len];omega)) rfl rfl
   split
   · exact hsame _ P hw fun j=>rfl
   · exact hsame _ _ hw fun j=>put_node P _ j _ rfl (by omega)
  split
  · exact shut_tree hT hn hP hW ca.a
  split
  · exact hsame T _ hW fun j=>by unfold maskF;match j with | 0=>rfl | 1=>rfl | j+2=>rfl
  split
  · exact shutN_tree hT hn hP hW 3
  split
  · exact hsame T P hW fun j=>rfl
  split
  · exact hsame _ P (cha_tree hT hW P ca) fun j=>rfl
  · exact hsame T P hW fun j=>rfl
 · rw [if_neg hp];exact hW
end Go.Proofs.YtmgnbgniikjhdaaGreat
