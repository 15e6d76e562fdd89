import Derived.Test.YtjmlgeckgieaaaaGreatP7
/-
  TREES: a tree stays one, but for what is open.
-/
set_option linter.unusedVariables false
set_option linter.unusedSimpArgs false
namespace Go.Proofs.YtjmlgeckgieaaaaGreat
open Go.Ab
set_option maxRecDepth 8000
set_option maxHeartbeats 400000
theorem parent_spec {T:Tab} (hT:T.Ok) (i:Int):(T.parent i=0∧∀(d:Int) (e:En),e∈(T.get d).1.ents→e.2≠i)∨(1≤T.parent i∧∃e∈(T.get (T.parent i)).1.ents,e.2=i):=by
 have hl:=refL_len hT
 have h3:=hT.lo
 rw [←rPar_eq hT]
 unfold rPar
 rcases idxP_spec (hasK i) nd0 (refL T) with ⟨h1,h2⟩ | ⟨k,h1,h2,h3'⟩
 ·
  left
  rw [if_pos h1]
  refine ⟨rfl,fun d e he hei=>?_⟩
  have hd:=ents_is he
  rw [get_eq hT] at hd he
  split at hd
  ·
   rename_i hc
   rw [if_pos hc] at he
   have:=h2 (d - 1).toNat (by rw [hl];omega)
   rw [ref_getD (by omega),hasK_ents,List.any_eq_false] at this
   exact this e he (by simp [hei])
  · cases hd
 ·
  right
  rw [if_neg (by omega),h1]
  rw [hl] at h2
  rw [ref_getD h2,hasK_ents,List.any_eq_true] at h3'
  obtain ⟨e,he,hee⟩:=h3'
  refine ⟨by omega,e,?_,by simpa using hee⟩
  rw [get_eq hT,if_pos ⟨by omega,by omega⟩,show ((k:Int)+1 - 1).toNat=k by omega];exact he
def Ent (T:Tab) (d:Int) (e:En):Prop:=e∈(T.get d).1.ents
def cnt (T:Tab) (i:Int):Nat→Nat
 | 0=>0
 | m+1=>cnt T i m+((T.get ((m:Int)+1)).1.ents.countP fun e=>decide (e.2=i))
theorem entsF_cnt (i d:Int):∀(l:List En) (v:Int),0≤v→v+l.length≤1000000→entsF (fun v _=>IntKind.i64.wrap (v+1)) i d v l=v+(l.countP fun e=>decide (e.2=i):Nat)
 | [],v, _, _=>by simp [entsF]
 | e::l,v,h0,h1=>by
  rw [List.length_cons] at h1
  show entsF (fun v _=>IntKind.i64.wrap (v+1)) i d (if e.2=i then IntKind.i64.wrap (v+1) else v) l=_
  rw [List.countP_cons]
  by_cases h:e.2=i
  · rw [if_pos h,wrapS (by omega) (by omega),entsF_cnt i d l _ (by omega) (by omega),if_pos (by simp [h])];omega
  · rw [if_neg h,entsF_cnt i d l _ h0 (by omega),if_neg (by simp [h])];omega
theorem cnt_le {T:Tab} (hT:T.Ok) (i:Int):∀m,cnt T i m≤1000*m
 | 0=>Nat.le_refl _
 | m+1=>by
  have:=cnt_le hT i m
  have h1:=(get_ok hT ((m:Int)+1)).2.1
  have h2:=List.countP_le_length (p:=fun e:En=>decide (e.2=i)) (l:=(T.get ((m:Int)+1)).1.ents)
  show cnt T i m+_≤_
  omega
theorem scan_cnt {T:Tab} (hT:T.Ok) (i:Int):∀m,m≤T.room.toNat→T.scan (fun v _=>IntKind.i64.wrap (v+1)) i 0 m=cnt T i m
 | 0, _=>rfl
 | m+1,hm=>by
  have ih:=scan_cnt hT i m (by omega)
  have hb:=cnt_le hT i m
  have hr:=hT.hi
  have h1:=(get_ok hT ((m:Int)+1)).2.1
  show (match T.at ((m:Int)+1) with | some j=>_ | none=>_)=_
  cases ha:T.at ((m:Int)+1) with
  | none=>
   simp only []
   rw [ih]
   show _=((cnt T i m+((T.get ((m:Int)+1)).1.ents.countP fun e=>decide (e.2=i)):Nat):Int)
   rw [get_no ha];rfl
  | some j=>
   simp only []
   rw [ih]
   show _=((cnt T i m+((T.get ((m:Int)+1)).1.ents.countP fun e=>decide (e.2=i)):Nat):Int)
   rw [get_at ha] at h1 ⊢
   dsimp only at h1 ⊢
   rw [entsF_cnt _ _ _ _ (by omega) (by omega)];omega
theorem links_cnt {T:Tab} (hT:T.Ok) (i:Int):T.links i=cnt T i T.room.toNat:=scan_cnt hT i _ (Nat.le_refl _)
theorem ent_room {T:Tab} (hT:T.Ok) {d:Int} {e:En} (h:Ent T d e):1≤d∧d≤T.room:=by
 have:=ents_is h
 rw [get_eq hT] at this
 split at this
 · assumption
 · cases this
theorem cnt_zero {T:Tab} {i:Int}:∀ {m:Nat},cnt T i m=0↔∀d:Nat,d<m→∀e,Ent T ((d:Int)+1) e→e.2≠i
 | 0=>⟨fun _ d h=>absurd h (Nat.not_lt_zero _),fun _=>rfl⟩
 | m+1=>by
  show cnt T i m+_=0↔_
  rw [Nat.add_eq_zero_iff,cnt_zero,List.countP_eq_zero]
  constructor
  ·
   rintro ⟨h1,h2⟩ d hd e he
   rcases Nat.lt_succ_iff_lt_or_eq.1 hd with h | h
   · exact h1 d h e he
   · subst h;simpa using h2 e he
  ·
   intro h
   exact ⟨fun d hd=>h d (by omega),fun e he=>by simpa using h m (by omega) e he⟩
theorem links_zero {T:Tab} (hT:T.Ok) (i:Int):T.links i=0↔∀d e,Ent T d e→e.2≠i:=by
 rw [links_cnt hT,Int.natCast_eq_zero,cnt_zero]
 constructor
 ·
  intro h d e he
  obtain ⟨h1,h2⟩:=ent_room hT he
  have hd:((d - 1).toNat:Int)+1=d:=by omega
  exact h (d - 1).toNat (by omega) e (by rw [hd];exact he)
 · intro h d _ e he;exact h _ e he
theorem links_pos {T:Tab} (hT:T.Ok) (i:Int):0<T.links i↔∃d e,Ent T d e∧e.2=i:=by
 have h0:0≤T.links i:=by rw [links_cnt hT];omega
 constructor
 ·
  intro h
  apply Classical.byContradiction
  intro hn
  have:=(links_zero hT i).2 fun d e he hi=>hn ⟨d,e,he,hi⟩
  omega
 ·
  rintro ⟨d,e,he,hi⟩
  rcases Int.lt_or_eq_of_le h0 with h | h
  · exact h
  · exact absurd hi ((links_zero hT i).1 h.symm d e he)
theorem count_one {l:List En} (hr:RisP l) {e:En} (he:e∈l) {i:Int} (hi:e.2=i) (hu:∀e'∈l,e'.2=i→e'=e):(l.countP fun e=>decide (e.2=i))=1:=by
 obtain ⟨l1,l2,rfl⟩:=List.append_of_mem he
 rw [RisP,List.pairwise_append,List.pairwise_cons] at hr
 obtain ⟨_,⟨h2, _⟩,h3⟩:=hr
 have hirr:∀s:List UInt8,Op.bytesLess s s≠true:=fun s h=>by
  have:=bl_asym s s h;rw [h] at this;cases this
 rw [List.countP_append,List.countP_cons,if_pos (by simp [hi]),List.countP_eq_zero.2,List.countP_eq_zero.2]
 ·
  intro x hx hxi
  have:=hu x (by simp [hx]) (by simpa using hxi)
  have h4:=h2 x hx
  rw [this] at h4;exact hirr _ h4
 ·
  intro x hx hxi
  have:=hu x (by simp [hx]) (by simpa using hxi)
  have h4:=h3 x hx e (by simp)
  rw [this] at h4;exact hirr _ h4
theorem links_one {T:Tab} (hT:Gd T) {i d:Int} {e:En} (he:Ent T d e) (hi:e.2=i) (hu:∀d' e',Ent T d' e'→e'.2=i→d'=d∧e'=e):T.links i=1:=by
 obtain ⟨h1,h2⟩:=ent_room hT.1 he
 have hdk:(T.get d).1.kind≠0:=by
  intro h0
  have:=ents_is he
  rw [get_kind hT.1,h0] at this;cases this
 have hr:=risP_of (hT.2.kind hdk)
 have key:∀m,cnt T i m=if d≤m then 1 else 0:=fun m=>by
  induction m with
  | zero=>rw [if_neg (by omega)];rfl
  | succ m ih=>
   show cnt T i m+_=_
   by_cases hd:(m:Int)+1=d
   · rw [ih,if_neg (by omega),if_pos (by omega),hd,count_one hr.1 he hi fun e' he' hi'=>(hu d e' he' hi').2]
   ·
    have hz:((T.get ((m:Int)+1)).1.ents.countP fun e=>decide (e.2=i))=0:=List.countP_eq_zero.2 fun x hx hxi=>hd (hu _ x hx (by simpa using hxi)).1
    rw [ih,hz]
    by_cases hm:d≤m
    · rw [if_pos hm,if_pos (by omega)]
    · rw [if_neg hm,if_neg (by omega)]
 rw [links_cnt hT.1,key,if_pos (by omega)];rfl
structure TreeW (T:Tab) (o X:List Int):Prop where
 root:(T.get 1).1.kind=2
 top:∀d e,Ent T d e→e.2≠1
 kid:∀d e,Ent T d e→(T.get e.2).2=true
 has:∀i,i∉X→(T.get i).1.kind=2→i≠1→∃d e,Ent T d e∧e.2=i
 one:∀d d' e e',Ent T d e→Ent T d' e'→e.2=e'.2→(T.get e.2).1.kind=2→d=d'∧e=e'
 rk:∃rk:Int→Nat,∀d e,Ent T d e→(T.get e.2).1.kind=2→rk d<rk e.2
 opn:∀i,i∉X→(T.get i).2=true→(T.get i).1.kind≠2→(∃d e,Ent T d e∧e.2=i)∨i∈o
 fil:∀i∈o,(T.get i).1.kind=1
def up (T:Tab):Nat→Int→Int
 | 0,i=>i
 | k+1,i=>T.parent (up T k i)
theorem up_in (T:Tab):∀(k:Nat) (i:Int),up T k (T.parent i)=up T (k+1) i
 | 0, _=>rfl
 | k+1,i=>by show T.parent (up T k (T.parent i))=_;rw [up_in T k i];rfl
theorem ent_dir {T:Tab} (hT:Gd T) {d:Int} {e:En} (h:Ent T d e):(T.get d).1.kind=2:=by
 have hk:(T.get d).1.kind≠0:=by
  intro h0
  have:=ents_is h
  rw [get_kind hT.1,h0] at this;cases this
 rcases right_cases (hT.2.kind hk) with ⟨_,k | k | k⟩
 · unfold Ent at h;rw [k.2.1] at h;cases h
 · exact k.1
 · unfold Ent at h;rw [k.2.2.1] at h;cases h
theorem par_pos {T:Tab} (hT:T.Ok) {i:Int} (h:T.parent i≠0):∃e,Ent T (T.parent i) e∧e.2=i:=by
 rcases parent_spec hT i with h1 | ⟨_,e,he,hi⟩
 · exact absurd h1.1 h
 · exact ⟨e,he,hi⟩
theorem par_of {T:Tab} (hT:T.Ok) {d:Int} {e:En} (h:Ent T d e) (hu:∀d' e',Ent T d' e'→e'.2=e.2→d'=d):T.parent e.2=d:=by
 rcases parent_spec hT e.2 with h1 | ⟨_,e',he,hi⟩
 · exact absurd rfl (h1.2 d e h)
 · exact hu _ e' he hi
theorem TreeW.par {T:Tab} {o X:List Int} (hT:Gd T) (hW:TreeW T o X) {d:Int} {e:En} (h:Ent T d e) (hk:(T.get e.2).1.kind=2):T.parent e.2=d:=
 par_of hT.1 h fun d' e' h' hi=>(hW.one d' d e' e h' h hi (by rw [hi];exact hk)).1
theorem par_zero {T:Tab} {o X:List Int} (hT:Gd T) (hW:TreeW T o X):T.parent 0=0:=by
 apply Classical.byContradiction
 intro h
 obtain ⟨e,he,hi⟩:=par_pos hT.1 h
 have:=get_pos hT.1 (hW.kid _ e he)
 omega
theorem par_one {T:Tab} {o X:List Int} (hT:Gd T) (hW:TreeW T o X):T.parent 1=0:=by
 apply Classical.byContradiction
 intro h
 obtain ⟨e,he,hi⟩:=par_pos hT.1 h
 exact hW.top _ e he hi
theorem pigeon:∀(N m:Nat) (f:Nat→Nat),(∀j,j<m→f j<N)→(∀i j,i<j→j<m→f i≠f j)→m≤N
 | 0,m,f,h, _=>by
  cases m with
  | zero=>exact Nat.le_refl _
  | succ m=>exact absurd (h 0 (by omega)) (Nat.not_lt_zero _)
 | N+1,m,f,h,hi=>by
  by_cases hx:∃j,j<m∧f j=N
  ·
   obtain ⟨j0,hj,hf⟩:=hx
   have:=pigeon N (m - 1) (fun j=>f (if j<j0 then j else j+1)) (fun j hj2=>by
    have h1:=h (if j<j0 then j else j+1) (by split<;>omega)
    have h2:f (if j<j0 then j else j+1)≠N:=by
     rw [←hf]
     split
     · exact hi _ _ (by omega) hj
     · exact (hi _ _ (by omega) (by omega)).symm
    omega) (fun i j hij hj2=>hi _ _ (by split<;>split<;>omega) (by split<;>omega))
   omega
  ·
   have:=pigeon N m f (fun j hj=>by
    have:=h j hj
    have:f j≠N:=fun e=>hx ⟨j,hj,e⟩
    omega) hi
   omega
theorem TreeW.reach {T:Tab} {o:List Int} (hT:Gd T) (hW:TreeW T o []) {i:Int} (hi:(T.get i).1.kind=2):∃k,k<24∧up T k i=1:=by
 obtain ⟨rk,hrk⟩:=hW.rk
 apply Classical.byContradiction
 intro hn
 have hdir:∀k,k≤24→(T.get (up T k i)).1.kind=2∧(∀j,j<k→rk (up T k i)<rk (up T j i)):=by
  intro k
  induction k with
  | zero=>exact fun _=>⟨hi,fun j hj=>absurd hj (Nat.not_lt_zero _)⟩
  | succ k ih=>
   intro hk
   obtain ⟨h1,h2⟩:=ih (by omega)
   obtain ⟨d,e,he,hei⟩:=hW.has (up T k i) (by simp) h1 (fun e=>hn ⟨k,by omega,e⟩)
   have hp:up T (k+1) i=d:=by
    show T.parent (up T k i)=d
    rw [←hei];exact hW.par hT he (by rw [hei];exact h1)
   have hr:=hrk d e he (by rw [hei];exact h1)
   rw [hei] at hr
   rw [hp]
   refine ⟨ent_dir hT he,fun j hj=>?_⟩
   rcases Nat.lt_succ_iff_lt_or_eq.1 hj with h | h
   · exact Nat.lt_trans hr (h2 j h)
   · subst h;exact hr
 have hb:∀j,j<25→1≤up T j i∧up T j i≤24:=fun j hj=>by
  have h1:=get_kind_at (T:=T) (i:=up T j i) (by rw [(hdir j (by omega)).1];decide)
  obtain ⟨a, _,h2,h3⟩:=get_isat h1
  have:=hT.1.hi
  omega
 have:=pigeon 24 25 (fun j=>(up T j i - 1).toNat) (fun j hj=>by have:=hb j hj;omega) (fun a b hab hbl=>by
  have h1:=(hdir b (by omega)).2 a hab
  have ha:=hb a (by omega)
  have hbb:=hb b hbl
  intro e
  have:up T a i=up T b i:=by omega
  rw [this] at h1
  exact absurd h1 (Nat.lt_irrefl _))
 omega
theorem TreeW.same {T U:Tab} {o X:List Int} (hW:TreeW T o X) (h:∀k,(U.get k).2=(T.get k).2∧(U.get k).1.kind=(T.get k).1.kind∧(U.get k).1.ents=(T.get k).1.ents):TreeW U o X:=by
 have hE:∀d e,Ent U d e↔Ent T d e:=fun d e=>by unfold Ent;rw [(h d).2.2]
 obtain ⟨rk,hrk⟩:=hW.rk
 exact ⟨by rw [(h 1).2.1];exact hW.root,fun d e he=>hW.top d e ((hE d e).1 he),fun d e he=>by rw [(h _).1];exact hW.kid d e ((hE d e).1 he),
  fun i hx hi h1=>by rw [(h i).2.1] at hi;obtain ⟨d,e,he,hei⟩:=hW.has i hx hi h1;exact ⟨d,e,(hE d e).2 he,hei⟩,
  fun d d' e e' he he' hee hk=>hW.one d d' e e' ((hE d e).1 he) ((hE d' e').1 he') hee (by rw [←(h _).2.1];exact hk),
  ⟨rk,fun d e he hk=>hrk d e ((hE d e).1 he) (by rw [←(h _).2.1];exact hk)⟩,
  fun i hx hi hk=>by
   rw [(h i).1] at hi;rw [(h i).2.1] at hk
   rcases hW.opn i hx hi hk with ⟨d,e,he,hei⟩ | h
   · exact .inl ⟨d,e,(hE d e).2 he,hei⟩
   · exact .inr h,
  fun i hi=>by rw [(h i).2.1];exact hW.fil i hi⟩
theorem TreeW.put {T:Tab} {o X:List Int} (hT:Gd T) (hW:TreeW T o X) {i:Int} {n:Nd} (hn:NdOk n) (hk:n.kind=(T.get i).1.kind) (he:n.ents=(T.get i).1.ents):TreeW (putT T i n).2 o X:=by
 cases ha:T.at i with
 | none=>
  have e:(putT T i n).2=T:=by unfold putT;rw [ha]
  rw [e];exact hW
 | some j=>
  by_cases hr:rightF n=true
  ·
   have hi:(T.get i).2=true:=by rw [get_at ha]
   refine hW.same fun k=>?_
   rw [(putT_get hT.1 hn hr hi).2]
   split
   · rename_i e;rw [e,hi];exact ⟨rfl,hk,he⟩
   · exact ⟨rfl,rfl,rfl⟩
  ·
   have e:(putT T i n).2=T:=by unfold putT;rw [ha];simp [show rightF n=false by simpa using hr]
   rw [e];exact hW
theorem TreeW.plant {T U:Tab} {o X:List Int} (hT:Gd T) (hW:TreeW T o X) {d k:Int} {nn:Nd} {s:List UInt8} (hd:(T.get d).1.kind=2) (hk:(T.get k).2=false) (he:nn.ents=[]) (hdk:d≠k)
 (hU:∀i,U.get i=if i=d then (nWith (T.get d).1 (insF (T.get d).1.ents s k),true) else if i=k then (nn,true) else T.get i):TreeW U o X:=by
 obtain ⟨rk,hrk⟩:=hW.rk
 have hk0:(T.get k).1=nd0:=by
  cases ha:T.at k with
  | none=>rw [get_no ha]
  | some j=>rw [get_at ha] at hk;cases hk
 have hno:∀d' e,Ent T d' e→e.2≠k:=fun d' e h h2=>by have:=hW.kid d' e h;rw [h2,hk] at this;cases this
 have hnk:∀e,¬Ent T k e:=fun e h=>by unfold Ent at h;rw [hk0] at h;cases h
 have hE:∀d' e,Ent U d' e↔(d'=d∧e=(s,k))∨Ent T d' e:=fun d' e=>by
  unfold Ent
  rw [hU]
  by_cases h1:d'=d
  ·
   rw [if_pos h1]
   show e∈insF _ _ _↔_
   rw [mem_insF,h1];simp
  ·
   rw [if_neg h1]
   by_cases h2:d'=k
   ·
    rw [if_pos h2]
    show e∈nn.ents↔_
    rw [he]
    refine ⟨fun h=>(nomatch h),fun h=>h.elim (fun h=>absurd h.1 h1) fun h=>?_⟩
    rw [h2] at h;exact absurd h (hnk e)
   · rw [if_neg h2];simp [h1]
 have hK:∀i,i≠k→(U.get i).1.kind=(T.get i).1.kind∧(U.get i).2=(T.get i).2:=fun i hi=>by
  rw [hU]
  split
  · rename_i h;subst h;exact ⟨rfl,(get_kind_at (by rw [hd];decide)).symm⟩
  · simp [hi]
 have h1k:(1:Int)≠k:=fun e=>by have:=hW.root;rw [e,hk0] at this;cases this
 refine ⟨by rw [(hK 1 h1k).1];exact hW.root,fun d' e h=>?_,fun d' e h=>?_,fun i hx hi h1=>?_,fun a b e e' h h' hee hkk=>?_,?_,fun i hx hi hkk=>?_,fun i hi=>?_⟩
 ·
  rcases (hE d' e).1 h with ⟨_,rfl⟩ | h
  · exact fun e=>h1k e.symm
  · exact hW.top d' e h
 ·
  rcases (hE d' e).1 h with ⟨_,rfl⟩ | h
  ·
   show (U.get k).2=true
   rw [hU,if_neg (Ne.symm hdk),if_pos rfl]
  · rw [(hK _ (hno d' e h)).2];exact hW.kid d' e h
 ·
  by_cases e:i=k
  · exact ⟨d,(s,k),(hE _ _).2 (.inl ⟨rfl,rfl⟩),e.symm⟩
  ·
   rw [(hK i e).1] at hi
   obtain ⟨d',e',h,h2⟩:=hW.has i hx hi h1
   exact ⟨d',e',(hE _ _).2 (.inr h),h2⟩
 ·
  rcases (hE a e).1 h with ⟨rfl,rfl⟩ | h
  ·
   rcases (hE b e').1 h' with ⟨rfl,rfl⟩ | h'
   · exact ⟨rfl,rfl⟩
   · exact absurd hee.symm (hno b e' h')
  ·
   rcases (hE b e').1 h' with ⟨rfl,rfl⟩ | h'
   · exact absurd hee (hno a e h)
   · exact hW.one a b e e' h h' hee (by rw [←(hK _ (hno a e h)).1];exact hkk)
 ·
  refine ⟨fun i=>if i=k then rk d+1 else rk i,fun d' e h hkk=>?_⟩
  rcases (hE d' e).1 h with ⟨rfl,rfl⟩ | h
  ·
   show (if d'=k then _ else rk d')<(if k=k then _ else _)
   rw [if_neg hdk,if_pos rfl];omega
  ·
   have h1:=hno d' e h
   have h2:d'≠k:=fun e2=>by rw [e2] at h;exact hnk e h
   dsimp only
   rw [if_neg h2,if_neg h1]
   exact hrk d' e h (by rw [←(hK _ h1).1];exact hkk)
 ·
  by_cases e:i=k
  · exact .inl ⟨d,(s,k),(hE _ _).2 (.inl ⟨rfl,rfl⟩),e.symm⟩
  ·
   rw [(hK i e).1] at hkk
   rw [(hK i e).2] at hi
   rcases hW.opn i hx hi hkk with ⟨d',e',h,h2⟩ | h
   · exact .inl ⟨d',e',(hE _ _).2 (.inr h),h2⟩
   · exact .inr h
 ·
  have:i≠k:=fun e=>by have:=hW.fil i hi;rw [e,hk0] at this;cases this
  rw [(hK i this).1];exact hW.fil i hi
end Go.Proofs.YtjmlgeckgieaaaaGreat
