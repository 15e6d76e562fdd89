import Derived.Test.YtmgnbgniikjhdaaGreatP2
/-
  TABLES: the document's tables, as lists of nodes.
-/
set_option linter.unusedVariables false
set_option linter.unusedSimpArgs false
namespace Go.Proofs.YtmgnbgniikjhdaaGreat
open Go.Ab
set_option maxRecDepth 8000
set_option maxHeartbeats 400000
def nmL (n:Nd):List (List UInt8):=n.ents.map (·.1)
def kdL (n:Nd):List Int:=n.ents.map (·.2)
theorem nmL_len (n:Nd):(nmL n).length=n.ents.length:=List.length_map _
theorem kdL_len (n:Nd):(kdL n).length=n.ents.length:=List.length_map _
def nvC (n:Nd):List AV:=[.int .i64 n.kind,.int .i64 n.mode,.int .i64 n.uid,.int .i64 n.gid,.str n.data,.slice ((nmL n).map .str) .none,.slice ((kdL n).map iV) .none,.str n.target]
def nV (n:Nd):AV:=.agg (nvC n)
theorem nvC_len (n:Nd):(nvC n).length=8:=rfl
theorem nvC_0 (n:Nd):(nvC n)[0]? = some (.int .i64 n.kind):=rfl
theorem nvC_1 (n:Nd):(nvC n)[1]? = some (.int .i64 n.mode):=rfl
theorem nvC_2 (n:Nd):(nvC n)[2]? = some (.int .i64 n.uid):=rfl
theorem nvC_3 (n:Nd):(nvC n)[3]? = some (.int .i64 n.gid):=rfl
theorem nvC_4 (n:Nd):(nvC n)[4]? = some (.str n.data):=rfl
theorem nvC_5 (n:Nd):(nvC n)[5]? = some (.slice ((nmL n).map .str) .none):=rfl
theorem nvC_6 (n:Nd):(nvC n)[6]? = some (.slice ((kdL n).map iV) .none):=rfl
theorem nvC_7 (n:Nd):(nvC n)[7]? = some (.str n.target):=rfl
theorem nvTake (n:Nd):(nvC n).take 8=nvC n:=rfl
theorem nvPut (a b c d e f g h:AV) (n:Nd):putAt [a,b,c,d,e,f,g,h] 0 (nvC n)=nvC n:=rfl
theorem nvPut' (m n:Nd):putAt (nvC m) 0 (nvC n)=nvC n:=rfl
attribute [push_cast] nvC_len nvC_0 nvC_1 nvC_2 nvC_3 nvC_4 nvC_5 nvC_6 nvC_7 nvTake nvPut nvPut'
theorem clL_nvC (m:Nat) (n:Nd):AV.clL m (nvC n):=by simp [nvC,AV.clL,AV.cl,clL_str,clL_iV, -List.map_map]
theorem erL_strs (l:List (List UInt8)):AV.erL (l.map .str)=l.map .str:=by rw [AV.erL_map,List.map_map];rfl
theorem er_nvC (n:Nd):AV.erL (nvC n)=nvC n:=by simp [nvC,AV.erL,AV.er,erL_strs,erL_iV, -List.map_map]
theorem clL_nV (n:Nat) (l:List Nd):AV.clL n (l.map nV):=by
 rw [AV.clL_mem];intro x hx;obtain ⟨y, _,rfl⟩:=List.mem_map.1 hx;exact clL_nvC _ _
theorem erL_nV (l:List Nd):AV.erL (l.map nV)=l.map nV:=by
 rw [AV.erL_map,List.map_map]
 exact List.map_congr_left fun n _=>congrArg AV.agg (er_nvC n)
theorem getD_nV {l:List Nd} {i:Nat} {d:AV} (h:i<l.length):(l.map nV).getD i d=.agg (nvC (l.getD i nd0)):=by
 simp [List.getD_eq_getElem?_getD,h,nV]
theorem allSz_nV (l:List Nd):allSz (l.map nV) 8↔True:=iff_true_intro (allSz_map _ _ _ fun _=>rfl)
attribute [push_cast] getD_nV allSz_nV
theorem cells_nV (l:List Nd):∀y∈l.map nV,y.cells.length=8:=by
 intro y hy;obtain ⟨a, _,rfl⟩:=List.mem_map.1 hy;rfl
theorem cat_put {α:Type} (f:α→List AV) (s:Nat) (hf:∀x,(f x).length=s):∀(l:List α) (j:Nat) (x:α) (r:List AV),j<l.length→putAt (l.flatMap f++r) (j*s) (f x)=(l.set j x).flatMap f++r
 | y::l,0,x,r, _=>by
  rw [Nat.zero_mul,List.flatMap_cons,List.append_assoc,putAt_eq _ _ _ (by simp [hf]),List.set_cons_zero,List.flatMap_cons,hf]
  simp [hf]
 | y::l,j+1,x,r,h=>by
  have hl:(j+1)*s=(f y).length+j*s:=by rw [hf,Nat.add_mul];omega
  rw [List.flatMap_cons,List.append_assoc,hl,putAt_right,cat_put f s hf l j x r (by simpa using h),List.set_cons_succ,List.flatMap_cons,List.append_assoc]
theorem cat_el {α:Type} (f:α→List AV) (s:Nat) (hf:∀x,(f x).length=s):∀(l:List α) (j:Nat) (r:List AV) (h:j<l.length),(((l.flatMap f++r).drop (j*s)).take s)=f l[j]
 | y::l,0,r, _=>by
  rw [Nat.zero_mul,List.drop_zero,List.flatMap_cons,List.append_assoc]
  exact List.take_left' (hf y)
 | y::l,j+1,r,h=>by
  have hl:(j+1)*s=(f y).length+j*s:=by rw [hf,Nat.add_mul];omega
  rw [List.flatMap_cons,List.append_assoc,hl,List.drop_append,List.drop_of_length_le (by omega),List.nil_append,Nat.add_sub_cancel_left]
  exact cat_el f s hf l j r (by simpa using h)
theorem cat_frozen {α:Type} (f:α→List AV) (s:Nat) (hf:∀x,(f x).length=s) (l:List α) (r:List AV):((List.range l.length).map fun i=>mkEl true (((l.flatMap f++r).drop (0+i*s)).take s))=l.map fun x=>.agg (f x):=by
 refine List.ext_getElem (by simp) fun i h1 h2=>?_
 simp only [List.length_map,List.length_range] at h1
 rw [List.getElem_map,List.getElem_map,List.getElem_range,Nat.zero_add,cat_el f s hf l i r h1]
 rfl
theorem cat_len {α:Type} (f:α→List AV) (s:Nat) (hf:∀x,(f x).length=s):∀(l:List α),(l.flatMap f).length=l.length*s
 | []=>by simp
 | y::l=>by rw [List.flatMap_cons,List.length_append,hf,cat_len f s hf l,List.length_cons,Nat.add_mul];omega
theorem flat_nV (l:List Nd):flat (l.map nV)=l.flatMap nvC:=by
 induction l with
 | nil=>rfl
 | cons n l ih=>simp only [flat,List.map_cons,List.flatMap_cons] at ih ⊢;rw [ih];rfl
theorem rep_cat (n:Nat) (z:List AV) (hz:0<z.length):rep n z=(List.replicate n ()).flatMap fun _=>z:=by
 have hc:∀m,(List.replicate m ()).flatMap (fun _=>z)=flat (List.replicate m (AV.agg z)):=fun m=>by
  induction m with
  | zero=>rfl
  | succ m ih=>rw [List.replicate_succ,List.replicate_succ,List.flatMap_cons,ih];rfl
 have hm:∀y∈List.replicate n (AV.agg z),y.cells.length=z.length:=fun y hy=>by rw [(List.mem_replicate.1 hy).2];rfl
 rw [hc]
 refine List.ext_getElem (by rw [rep_length,flat_length hm,List.length_replicate]) fun q h1 h2=>?_
 rw [rep_length] at h1
 have hd:=divmod_lt (sz:=z.length) (n:=n) h1
 have:=flat_getD hm (i:=q / z.length) (j:=q%z.length) (by rw [List.length_replicate];exact hd.1) hd.2.1
 rw [hd.2.2] at this
 rw [List.getD_eq_getElem?_getD,List.getElem?_eq_getElem h2,Option.getD_some] at this
 rw [this]
 simp only [rep,List.getElem_map,List.getElem_range]
 rw [List.getD_eq_getElem?_getD (l:=List.replicate n (AV.agg z)),List.getElem?_replicate,if_pos hd.1]
 rfl
def zN:List AV:=[.int .i64 0,.int .i64 0,.int .i64 0,.int .i64 0,.str [],.slice [] .full,.slice [] .full,.str []]
theorem erL_rep (r:Nat):AV.erL (List.replicate r (AV.agg zN))=(List.replicate r nd0).map nV:=by
 rw [AV.erL_map,List.map_replicate,List.map_replicate];rfl
theorem new_frz (r:Nat) (h:List Blk) (x:Blk) (live:List Nat):((AV.agg [.bsl (h.length+1) 0 8 true r r]).frz (h++[x,.cells (rep r zN)]) h.length).er=.agg [.slice ((List.replicate r nd0).map nV) .none]:=by
 have hg:(h++[x,Blk.cells (rep r zN)])[h.length+1]? = some (.cells (rep r zN)):=by
  rw [List.getElem?_append_right (by omega),show h.length+1 - h.length=1 by omega];rfl
 have hc:=cat_frozen (fun _:Unit=>zN) 8 (fun _=>rfl) (List.replicate r ()) []
 rw [List.append_nil,←rep_cat r zN (by decide),List.length_replicate] at hc
 simp only [AV.frz,AV.frzL]
 rw [if_pos (by omega),hg]
 simp only []
 rw [if_pos ⟨by rw [rep_length];show 0+r*8≤r*8;omega,by decide,.inl trivial⟩,hc,List.map_replicate]
 simp only [AV.er,AV.erL,erL_rep]
theorem set_frz (L:List Nd) (j:Nat) (hj:j<L.length) (n:Nd) (h:List Blk) (x y z:Blk) (cap:Nat) (r:List AV) :
 ((AV.agg [.bsl (h.length+3) 0 8 true L.length cap]).frz (h++[x,y,z,.cells (putAt (L.flatMap nvC++r) (j*8) (nvC n))]) h.length).er=.agg [.slice ((L.set j n).map nV) .none]:=by
 have hg:(h++[x,y,z,Blk.cells (putAt (L.flatMap nvC++r) (j*8) (nvC n))])[h.length+3]? = some (.cells ((L.set j n).flatMap nvC++r)):=by
  rw [List.getElem?_append_right (by omega),show h.length+3 - h.length=3 by omega,cat_put nvC 8 nvC_len L j n r hj];rfl
 have hc:=cat_frozen nvC 8 nvC_len (L.set j n) r
 rw [List.length_set] at hc
 simp only [AV.frz,AV.frzL]
 rw [if_pos (by omega),hg]
 simp only []
 rw [if_pos ⟨by rw [List.length_append,cat_len nvC 8 nvC_len,List.length_set];omega,by decide,.inl trivial⟩,hc]
 simp only [AV.er,AV.erL]
 exact congrArg (fun l=>AV.agg [.slice l .none]) (erL_nV (L.set j n))
def tV (L:List Nd):AV:=.agg [.slice (L.map nV) .none]
theorem nm_step {n:Nd} {i:Nat} (h:i<n.ents.length):List.map AV.str ((nmL n).take i)++[.str (n.ents.getD i ([],0)).1]=((nmL n).take (i+1)).map AV.str:=by
 rw [List.take_succ_eq_append_getElem (by rw [nmL_len];exact h),List.map_append]
 simp [nmL,List.getD_eq_getElem?_getD,h]
theorem kd_step {n:Nd} {i:Nat} (h:i<n.ents.length):List.map iV ((kdL n).take i)++[.int .i64 (n.ents.getD i ([],0)).2]=((kdL n).take (i+1)).map iV:=by
 rw [List.take_succ_eq_append_getElem (by rw [kdL_len];exact h),List.map_append]
 simp [kdL,List.getD_eq_getElem?_getD,h,iV]
theorem cells_strs' (l:List (List UInt8)):∀y∈l.map AV.str,y.cells.length=1:=by
 intro y hy;obtain ⟨x, _,rfl⟩:=List.mem_map.1 hy;rfl
attribute [push_cast] clL_nvC erL_strs er_nvC clL_nV erL_nV erL_rep
theorem c14 (c:Cr) (h:List Blk) (live:List Nat):AC Tryz.prog 14 [.agg [.int .i64 c.uid,.int .i64 c.gid,.slice (c.gs.map iV) .none]] h live (.agg [.int .i64 c.uid,.int .i64 c.gid,.slice (c.gs.map iV) .none]):=by
 refine aq_ Tryz.func14 fun hH hX=>?_
 refine rg_ [1,2] ?_
 refine rg_ [2] ?_
 refine ret_ ?_
 refine fq_ Tryz.results14 ?_ (hcl:=(by simp [AV.cl,AV.clL,clL_iV, -List.map_map]))
 exact rk_ rfl
theorem c38 (r:Nat) (h:List Blk) (live:List Nat) (h1:1≤r) (h24:r≤24):AC Tryz.prog 38 [.int .i64 r] h live (tV (List.replicate r nd0)):=by
 refine aq_ Tryz.func38 fun hH hX=>?_
 refine rg_ [0,2] ?_
 refine rg_ [2,3] ?_
 refine sk_ fun K1 hK1=>?_
 refine rg_ [2,3,6] ?_
 refine cx_ (fun hb1=>?_) (fun hb1=>?_)
 · exfalso;omega
 refine skp_ ?_
 refine hK1 _ ?_
 refine sk_ fun K2 hK2=>?_
 refine rg_ [2,3,8] ?_
 refine cx_ (fun hb2=>?_) (fun hb2=>?_)
 · exfalso;omega
 refine skp_ ?_
 refine hK2 _ ?_
 refine rs_ [2] ?_
 refine sg_ ?_
 refine dawp_w rfl rfl rfl rfl (AOp.makeSlice _ _ _ rfl Ty.makeT_30 (n:=r) (m:=r) rfl rfl (by omega) (by omega) (by omega) ?_)
 refine srt_ ?_
 refine fz_ (h1:=h) Tryz.results38 (hx:=(new_frz r h _ live)) (hcl:=(by exact ⟨clL_nV _ _,trivial⟩)) (hK:=?_)
 exact rk_ rfl
theorem c39 (L:List Nd) (j:Nat) (n:Nd) (h:List Blk) (live:List Nat) (hj:j<L.length) (hL:L.length≤1000):AC Tryz.prog 39 [tV L,.int .i64 ((j:Int)+1),.agg (nvC n)] h live (tV (L.set j n)):=by
 refine aq_ Tryz.func39 fun hH hX=>?_
 unfold tV
 have hcl:(L.flatMap nvC).length=L.length*8:=cat_len nvC 8 nvC_len L
 have sx:=(And.intro @flat_nV (And.intro @if_and_t (And.intro @bq_n (And.intro @bq_b (And.intro @Int.add_sub_cancel (And.intro @Nat.zero_add (And.intro @hcl sx0)))))))
 refine rg_ [1,3,5,6] ?_
 refine rg_ [1,3,5,6,7] ?_
 refine rs_ [1,5,6,7] ?_
 refine sg_ ?_
 refine dawp_w rfl rfl rfl rfl (AOp.appendM _ _ _ rfl Ty.makeT_30 (by (simp (disch:=omega) only [push_cast])<;>rfl) (by (simp (disch:=omega) only [push_cast])<;>rfl) (by simp;omega) (cells_nV _) (by simp;omega) (by simp;omega) ?_)
 intro cap rn
 refine sre_ ?_
 refine rg_ [6,7] ?_
 refine rg_ [6] ?_
 refine ret_ ?_
 refine fz_ (h1:=h) Tryz.results39 (hx:=(set_frz L j hj n h _ _ _ _ _)) (hcl:=(by exact ⟨clL_nV _ _,trivial⟩)) (hK:=?_)
 exact rk_ rfl
theorem cap_mid {l l1:List Nat} {c d c1:Cap} (hd:CapOK l d) (hcd:∀u,c=.own u→d≠.own u) (k1:Keeps l c l1 c1):CapOK l1 d:=by
 rcases hd with rfl | ⟨t,rfl,ht⟩
 · exact .inl rfl
 · exact .inr ⟨t,rfl,(k1.2 t ht (fun e=>hcd t e rfl)).1⟩
theorem two_caps {live l l1 l2:List Nat} {c d c1 d1:Cap} (hd:CapOK l d) (hcd:∀u,c=.own u→d≠.own u) (hlv:∀u∈live,u∈l∧c≠.own u∧d≠.own u) (k1:Keeps l c l1 c1) (k2:Keeps l1 d l2 d1) :
 CapOK l2 c1∧CapOK l2 d1∧(∀u,c1=.own u→d1≠.own u)∧∀u∈live,u∈l2∧c1≠.own u∧d1≠.own u:=by
 have hne:∀u,c1=.own u→d≠.own u:=fun u hu e=>by
  rcases hd with rfl | ⟨t,rfl,ht⟩
  · cases e
  ·
   cases e
   exact (k1.2 u ht (fun e=>hcd u e rfl)).2 hu
 have hc1:∀u,c1=.own u→u∈l1:=fun u hu=>by
  rcases k1.1 with h | ⟨t,h,ht⟩
  · rw [h] at hu;cases hu
  · rw [h] at hu;cases hu;exact ht
 refine ⟨?_,k2.1,fun u hu=>(k2.2 u (hc1 u hu) (hne u hu)).2,fun u hu=>?_⟩
 ·
  rcases k1.1 with h | ⟨t,h,ht⟩
  · exact .inl h
  · exact .inr ⟨t,h,(k2.2 t ht (hne t h)).1⟩
 ·
  obtain ⟨h1,h2,h3⟩:=hlv u hu
  have a:=k1.2 u h1 h2
  have b:=k2.2 u a.1 h3
  exact ⟨b.1,a.2,b.2⟩
theorem c40 (n:Nd) (h:List Blk) (live:List Nat) (hn:NdOk n):AC Tryz.prog 40 [.agg (ndC n)] h live (.agg (nvC n)):=by
 refine aq_ Tryz.func40 fun hH hX=>?_
 obtain ⟨hn1,hn2,hn3, -⟩:=hn
 have hnl:=nmL_len n
 have hkl:=kdL_len n
 have hB:∀a b (c d:Cap),HCl (h++[.cells (ndC n),.cells [.int .i64 0,.int .i64 0,.int .i64 0,.int .i64 0,.str [],.slice [] .full,.slice [] .full,.str []],.cells [.int .i64 n.kind,.int .i64 n.mode,.int .i64 n.uid,.int .i64 n.gid,.str n.data,.slice (((nmL n).take a).map .str) c,.slice (((kdL n).take b).map iV) d,.str n.target]]):=fun a b c d=>by
  have:=HCl.snoc (HCl.snoc (HCl.snoc (b:=.cells (ndC n)) hH (clL_ndC _ _)) (b:=.cells [.int .i64 0,.int .i64 0,.int .i64 0,.int .i64 0,.str [],.slice [] .full,.slice [] .full,.str []]) (by simp [Blk.cl,AV.clL,AV.cl])) (b:=.cells [.int .i64 n.kind,.int .i64 n.mode,.int .i64 n.uid,.int .i64 n.gid,.str n.data,.slice (((nmL n).take a).map .str) c,.slice (((kdL n).take b).map iV) d,.str n.target]) (by simp [Blk.cl,AV.clL,AV.cl,clL_str,clL_iV, -List.map_take, -List.map_map])
  rw [List.append_assoc,List.append_assoc] at this;exact this
 have sx:=(And.intro @nm_step (And.intro @kd_step sx0))
 refine rg_ [1,2] ?_
 refine rg_ [1,2,3] ?_
 refine sk_ fun K1 hK1=>?_
 refine rg_ [1,2,3,4] ?_
 refine awp_block ?_
 refine lp_ (X:={p:Nat×Cap×Cap×List Nat // p.1≤n.ents.length∧CapOK p.2.2.2 p.2.1∧CapOK p.2.2.2 p.2.2.1∧(∀u,p.2.1=.own u→p.2.2.1≠.own u)∧∀u∈live,u∈p.2.2.2∧p.2.1≠.own u∧p.2.2.1≠.own u}) (fun x=>⟨Tryz.f40.ntmps,fget [(1,.ptr h.length 0),(2,.ptr (h.length+1) 0),(3,.ptr (h.length+2) 0),(4,.int .i64 (x.1.1:Nat))],h++[.cells (ndC n),.cells [.int .i64 0,.int .i64 0,.int .i64 0,.int .i64 0,.str [],.slice [] .full,.slice [] .full,.str []],.cells [.int .i64 n.kind,.int .i64 n.mode,.int .i64 n.uid,.int .i64 n.gid,.str n.data,.slice (((nmL n).take x.1.1).map .str) x.1.2.1,.slice (((kdL n).take x.1.1).map iV) x.1.2.2.1,.str n.target]],x.1.2.2.2⟩) (fun x=>n.ents.length - x.1.1) (⟨⟨0,.full,.full,live⟩,Nat.zero_le _,.inl rfl,.inl rfl,(fun u hu=>by cases hu),fun u hu=>⟨hu,Cap.noConfusion,Cap.noConfusion⟩⟩) ?_ (fun ⟨⟨i,c,d,live'⟩,hi,hc,hd,hcd,hlv⟩=>?_)
 ·
  try dsimp only
  exact tf_ (hB _ _ _ _) (fun _ h=>h)
 try dsimp only
 dsimp only at hi hc hd hcd hlv
 refine sk_ fun K2 hK2=>?_
 refine rg_ [1,2,3,4,23] ?_
 refine cx_ (fun hb1=>?_) (fun hb1=>?_)
 rotate_left
 ·
  have hie:i=n.ents.length:=by omega
  subst hie
  refine awp_exit (up_ ?_)
  refine hK1 _ ?_
  refine rg_ [2] ?_
  refine ret_ ?_
  refine fq_ Tryz.results40 ?_ (hcl:=(by simp [AV.cl,AV.clL,clL_str,clL_iV, -List.map_map, -List.map_take])) (hl:=(fun u hu=>(hlv u hu).1))
  exact rk_ (by rw [←hnl,List.take_of_length_le (by simp),hnl,←hkl,List.take_of_length_le (by simp)];rfl)
 have hil:i<n.ents.length:=by omega
 refine skp_ ?_
 refine hK2 _ ?_
 refine sk_ fun K3 hK3=>?_
 refine awp_block ?_
 refine rsq_ [1,2,3,4] ⟨false,[],[],[],[],[],0⟩ (fun _=>⟨by kernel_rfl,by kernel_rfl⟩) ?_
 refine sg_ ?_
 refine ap_ (a:=hc) (b:=cells_strs' _) (c':=by simp [AV.cells]) (d:=by simp;omega) (e:=by simp;omega) (k:=?_)
 intro c35 live35 hk35
 refine sre_ ?_
 refine rtq_ [1,2,3,4] ⟨false,[],[],[],[],[],0⟩ (fun _=>⟨by kernel_rfl,by kernel_rfl⟩) ?_
 refine sg_ ?_
 refine ap_ (a:=cap_mid hd hcd hk35) (b:=cells_iV _) (c':=by simp [AV.cells]) (d:=by simp;omega) (e:=by simp;omega) (k:=?_)
 intro c46 live46 hk46
 refine srn_ ?_
 refine hK3 _ ?_
 refine rt_ [1,2,3,4] ?_
 refine srn_ ?_
 refine ln_ ⟨⟨i+1,c35,c46,live46⟩,by dsimp only;omega,two_caps hd hcd hlv hk35 hk46⟩ ?_
 try dsimp only
 exact tf_ (hB _ _ _ _) (fun _ h=>h)
end Go.Proofs.YtmgnbgniikjhdaaGreat
namespace Go.Proofs.YtmgnbgniikjhdaaGreat
open Go.Ab
set_option maxRecDepth 8000
set_option maxHeartbeats 400000
def refL (T:Tab):List Nd:=T.ns.take T.room.toNat
def stL (T:Tab) (m:Nat):List Nd:=T.ns.take m++List.replicate (T.room.toNat - m) nd0
theorem refL_len {T:Tab} (hT:T.Ok):(refL T).length=T.room.toNat:=by
 have h1:=hT.len;have h2:=hT.hi;have h3:=hT.lo
 unfold refL;rw [List.length_take];omega
theorem stL_len {T:Tab} (hT:T.Ok) {m:Nat} (hm:m≤T.room.toNat):(stL T m).length=T.room.toNat:=by
 have h1:=hT.len;have h2:=hT.hi;have h3:=hT.lo
 unfold stL;rw [List.length_append,List.length_take,List.length_replicate];omega
theorem stL_all {T:Tab}:stL T T.room.toNat=refL T:=by
 unfold stL refL;rw [Nat.sub_self];simp
theorem stL_0 (T:Tab):stL T 0=List.replicate T.room.toNat nd0:=by unfold stL;simp
theorem stL_set {T:Tab} (hT:T.Ok) {m:Nat} (hm:m<T.room.toNat):(stL T m).set m (T.ns.getD m nd0)=stL T (m+1):=by
 have h1:=hT.len;have h2:=hT.hi;have h3:=hT.lo
 unfold stL
 rw [List.set_append_right _ _ (by rw [List.length_take];omega),List.length_take,Nat.min_eq_left (by omega),Nat.sub_self,
  show T.room.toNat - m=(T.room.toNat - (m+1))+1 by omega,List.replicate_succ,List.set_cons_zero,List.take_succ_eq_append_getElem (show m<T.ns.length by omega),List.append_assoc,List.singleton_append,List.getD_eq_getElem?_getD,List.getElem?_eq_getElem (show m<T.ns.length by omega),Option.getD_some]
theorem stL_no {T:Tab} (hT:T.Ok) {m:Nat} (hm:m<T.room.toNat) (h:T.at ((m:Int)+1)=none):stL T m=stL T (m+1):=by
 have h1:=hT.len;have h2:=hT.hi;have h3:=hT.lo
 have hk:(T.ns.getD m nd0).kind=0:=by
  unfold Tab.at at h
  by_cases hc:(T.ns.getD m nd0).kind=0
  · exact hc
  · rw [if_pos ⟨by omega,by omega,by rw [show ((m:Int)+1 - 1).toNat=m by omega];exact hc⟩] at h;cases h
 have hz:T.ns.getD m nd0=nd0:=by
  rw [List.getD_eq_getElem?_getD,List.getElem?_eq_getElem (by omega)] at hk ⊢
  exact hT.zero _ (List.getElem_mem _) hk
 rw [←stL_set hT hm,hz]
 unfold stL
 rw [List.set_append_right _ _ (by rw [List.length_take];omega),List.length_take,Nat.min_eq_left (by omega),Nat.sub_self,
  show T.room.toNat - m=(T.room.toNat - (m+1))+1 by omega,List.replicate_succ,List.set_cons_zero]
theorem at_m {T:Tab} (hT:T.Ok) {m:Nat} (j:Nat) (h:T.at ((m:Int)+1)=some j):j=m:=by
 have:=(at_some hT h).2.1;omega
theorem get_step {T:Tab} (hT:T.Ok) {m:Nat} (h:(T.get ((m:Int)+1)).2=true):(T.get ((m:Int)+1)).1=T.ns.getD m nd0:=by
 cases ha:T.at ((m:Int)+1) with
 | none=>rw [get_no ha] at h;cases h
 | some j=>rw [get_at ha,at_m hT j ha]
theorem at_of_get {T:Tab} {i:Int} (h:(T.get i).2=false):T.at i=none:=by
 cases ha:T.at i with
 | none=>rfl
 | some j=>rw [get_at ha] at h;cases h
def rGet (L:List Nd) (i:Int):Nd:=bif (decide (i<1)||decide ((L.length:Int)<i)) then nd0 else L.getD (i - 1).toNat nd0
def rIs (L:List Nd) (i:Int):Bool:=decide (1≤i)&&decide (i≤L.length)&&!decide ((L.getD (i - 1).toNat nd0).kind=0)
def hasK (i:Int) (n:Nd):Bool:=(kdL n).any fun y=>decide (y=i)
def rPar (L:List Nd) (i:Int):Int:=if idxP (hasK i) L<0 then 0 else idxP (hasK i) L+1
def rCan (L:List Nd) (c:Cr) (i w:Int):Bool:=!decide ((rGet L i).kind=0)&&canF c (rGet L i).uid (rGet L i).gid (rGet L i).mode w
def rWayL (L:List Nd) (c:Cr):Nat→Int→Bool
 | 0, _=>false
 | n+1,d=>if d=1 then true else bif rCan L c (rPar L d) 1 then rWayL L c n (rPar L d) else false
def rWay (L:List Nd) (c:Cr) (d:Int):Bool:=bif decide ((rGet L d).kind=2) then rWayL L c 24 d else false
def rSeenAt (L:List Nd) (c:Cr) (i:Int) (d:Nat):Bool:=hasK i (L.getD d nd0)&&rWay L c ((d:Int)+1)&&rCan L c ((d:Int)+1) 1
def rSeen (L:List Nd) (c:Cr) (i:Int):Bool:=rIs L i&&(decide (i=1)||(List.range L.length).any (rSeenAt L c i))
theorem rWayL_m (T:List Nd) (c:Cr) {m:Nat} (hm:m<24) (d:Int):rWayL T c (24 - m) d=if d=1 then true else bif rCan T c (rPar T d) 1 then rWayL T c (24 - (m+1)) (rPar T d) else false:=by
 rw [show 24 - m=(24 - (m+1))+1 by omega];rfl
theorem rPar_at {L:List Nd} {i:Int} {d:Nat} (hd:d<L.length) (h:hasK i (L.getD d nd0)=true) (hn:∀j,j<d→hasK i (L.getD j nd0)=false):rPar L i=(d:Int)+1:=by
 unfold rPar;rw [idxP_at nd0 hd h hn,if_neg (by omega)]
theorem rPar_no {L:List Nd} {i:Int} (hn:∀j,j<L.length→hasK i (L.getD j nd0)=false):rPar L i=0:=by
 unfold rPar;rw [idxP_none nd0 hn,if_pos (by omega)]
theorem getD_kd {n:Nd} {i:Nat} {d:AV} (h:i<n.ents.length):((kdL n).map iV).getD i d=.int .i64 ((kdL n).getD i 0):=getD_iV (by rw [kdL_len];exact h)
theorem hasK_t {i:Int} {n:Nd} {k:Nat} (hk:k<n.ents.length) (h:(kdL n).getD k 0=i):hasK i n=true:=any_getD_t 0 (by rw [kdL_len];exact hk) (decide_eq_true h)
theorem hasK_f {i:Int} {n:Nd} (h:∀k,k<n.ents.length→(kdL n).getD k 0≠i):hasK i n=false:=any_getD_f 0 fun j hj=>decide_eq_false (h j (by rw [←kdL_len];exact hj))
theorem c12 (T:Tab) (k:Nat) (h:List Blk) (live:List Nat) (hk:h[k]? = some (tabBlk T)) (hT:T.Ok):AC Tryz.prog 12 [.ptr k 0] h live (tV (refL T)):=by
 refine aq_ Tryz.func12 fun hH hX=>?_
 have hkl:=lt_of_get hk
 have hlo:=hT.lo
 have hhi:=hT.hi
 have hr:((T.room.toNat:Nat):Int)=T.room:=by omega
 have hB:∀m,HCl (h++[.cells [.slice [] .full],.cells [.slice ((stL T m).map nV) .none]]):=fun m=>by
  have:=HCl.snoc (HCl.snoc (b:=.cells [.slice [] .full]) hH (by simp [Blk.cl,AV.clL,AV.cl])) (b:=.cells [.slice ((stL T m).map nV) .none]) (by simp [Blk.cl,AV.clL,AV.cl,clL_nV, -List.map_map])
  rw [List.append_assoc] at this;exact this
 have hlen:∀m,m≤T.room.toNat→(stL T m).length=T.room.toNat:=fun m hm=>stL_len hT hm
 refine rg_ [0,2] ?_
 refine rs_ [0,2,3] ?_
 refine sg_ ?_
 refine cl_ (hc:=c22 T k _ _ (atApp hk)) (k:=?_)
 refine cl_ (hc:=(hr▸c38 T.room.toNat _ _ (by omega) (by omega))) (k:=?_)
 refine sre_ ?_
 refine sk_ fun K1 hK1=>?_
 refine rg_ [0,2,3,4] ?_
 refine awp_block ?_
 refine lp_ (X:={m:Nat // m≤T.room.toNat}) (fun x=>⟨Tryz.f12.ntmps,fget [(0,.ptr k 0),(2,.ptr h.length 0),(3,.ptr (h.length+1) 0),(4,.int .i64 ((x.1:Int)+1))],h++[.cells [.slice [] .full],.cells [.slice ((stL T x.1).map nV) .none]],live⟩) (fun x=>T.room.toNat - x.1) (⟨0,by omega⟩) ?_ (fun ⟨m,hm⟩=>?_)
 ·
  try dsimp only
  exact tf_ (hB _) (fun _ h=>h) (hj:=(by first | exact (List.append_nil _).symm | (rw [hgs,stL_set hT hml,List.append_assoc];rfl) | (rw [stL_no hT hml (at_of_get hb2)];rw [List.append_assoc];rfl) | (rw [List.append_assoc];rfl) | (rw [stL_0];exact (List.append_nil _).symm)))
 try dsimp only
 refine sk_ fun K2 hK2=>?_
 refine rs_ [0,2,3,4,13] ?_
 refine sg_ ?_
 refine cl_ (hc:=c22 T k _ _ (atApp hk)) (k:=?_)
 refine sre_ ?_
 refine cx_ (fun hb1=>?_) (fun hb1=>?_)
 rotate_left
 ·
  have hme:m=T.room.toNat:=by omega
  subst hme
  refine awp_exit (up_ ?_)
  refine hK1 _ ?_
  refine rg_ [2] ?_
  refine ret_ ?_
  refine fq_ Tryz.results12 ?_ (hcl:=(by exact ⟨clL_nV _ _,trivial⟩))
  exact rk_ (by rw [stL_all];rfl)
 have hml:m<T.room.toNat:=by omega
 refine skp_ ?_
 refine hK2 _ ?_
 refine sk_ fun K3 hK3=>?_
 refine awp_block ?_
 refine rs_ [0,2,3,4,5,6] ?_
 refine sg_ ?_
 refine cl_ (hc:=c23 T k _ _ _ (atApp hk) hT) (k:=?_)
 refine sre_ ?_
 refine rg_ [0,2,3,4,5,22] ?_
 refine cy_ (fun hb2=>?_) (fun hb2=>?_)
 ·
  have hgs:=get_step hT hb2
  refine rtq_ [0,2,3,4] ⟨true,[],[],[],[],[],0⟩ (fun _=>⟨by kernel_rfl,by kernel_rfl⟩) ?_
  refine sg_ ?_
  refine cr_ (hc:=c40 _ _ _ (get_ok hT _)) (k:=?_)
  refine cr_ (hc:=c39 (stL T m) m (T.get ((m:Int)+1)).1 _ _ (by rw [hlen m hm];exact hml) (by rw [hlen m hm];omega)) (k:=?_)
  refine srn_ ?_
  refine hK3 _ ?_
  refine rt_ [0,2,3,4] ?_
  refine srn_ ?_
  refine ln_ ⟨m+1,by omega⟩ ?_
  try dsimp only
  exact tf_ (hB _) (fun _ h=>h) (hj:=(by first | exact (List.append_nil _).symm | (rw [hgs,stL_set hT hml,List.append_assoc];rfl) | (rw [stL_no hT hml (at_of_get hb2)];rw [List.append_assoc];rfl) | (rw [List.append_assoc];rfl) | (rw [stL_0];exact (List.append_nil _).symm)))
 refine skp_ ?_
 refine hK3 _ ?_
 refine rt_ [0,2,3,4] ?_
 refine srn_ ?_
 refine ln_ ⟨m+1,by omega⟩ ?_
 try dsimp only
 exact tf_ (hB _) (fun _ h=>h) (hj:=(by first | exact (List.append_nil _).symm | (rw [hgs,stL_set hT hml,List.append_assoc];rfl) | (rw [stL_no hT hml (at_of_get hb2)];rw [List.append_assoc];rfl) | (rw [List.append_assoc];rfl) | (rw [stL_0];exact (List.append_nil _).symm)))
theorem c45 (L:List Nd) (i:Int) (h:List Blk) (live:List Nat) (hL:L.length≤1000):AC Tryz.prog 45 [tV L,.int .i64 i] h live (.agg (nvC (rGet L i))):=by
 refine aq_ Tryz.func45 fun hH hX=>?_
 unfold tV
 refine rg_ [1,2,4] ?_
 refine sk_ fun K1 hK1=>?_
 refine rg_ [1,2,4,13] ?_
 refine cy_ (fun hb1=>?_) (fun hb1=>?_)
 ·
  refine rg_ [4] ?_
  refine ret_ ?_
  refine fq_ Tryz.results45 ?_ (hcl:=(by simp [AV.cl,AV.clL,clL_nvC]))
  exact rk_ (by unfold rGet;rw [hb1];rfl)
 have hb1':=hb1
 simp only [decide_eq_true_eq,decide_eq_false_iff_not,Bool.not_eq_true',Bool.not_eq_false',Bool.or_eq_true,Bool.and_eq_true,Bool.or_eq_false_iff,Bool.and_eq_false_imp,Int.not_lt,Int.not_le] at hb1'
 refine skp_ ?_
 refine hK1 _ ?_
 refine rg_ [4] ?_
 refine ret_ ?_
 refine fq_ Tryz.results45 ?_ (hcl:=(by simp [AV.cl,AV.clL,clL_nvC]))
 exact rk_ (by unfold rGet;rw [hb1];rfl)
theorem c254 (L:List Nd) (i:Int) (h:List Blk) (live:List Nat) (hL:L.length≤1000):AC Tryz.prog 254 [tV L,.int .i64 i] h live (.bool (rIs L i)):=by
 refine aq_ Tryz.func254 fun hH hX=>?_
 unfold tV
 refine rg_ [1,2] ?_
 refine rg_ [4] ?_
 refine ret_ ?_
 refine fq_ Tryz.results254 ?_
 exact rk_ rfl
theorem c215 (l:List Int) (n:Int) (h:List Blk) (live:List Nat) (hl:l.length≤1000000):AC Tryz.prog 215 [.slice (l.map iV) .none,.int .i64 n] h live (.bool (l.any fun y=>decide (y=n))):=by
 refine aq_ Tryz.func215 fun hH hX=>?_
 refine rg_ [0,1] ?_
 refine sk_ fun K1 hK1=>?_
 refine rg_ [0,1,5] ?_
 refine awp_block ?_
 refine lp_ (X:={i:Nat // i≤l.length∧∀j,j<i→decide (l.getD j 0=n)=false}) (fun x=>⟨Tryz.f215.ntmps,fget [(0,.slice (l.map iV) .none),(1,.int .i64 n),(5,.int .i64 (x.1:Nat))],h,live⟩) (fun x=>l.length - x.1) (⟨0,by omega,fun j hj=>by omega⟩) ?_ (fun ⟨i,hi,hn⟩=>?_)
 ·
  try dsimp only
  exact ts_ hH
 try dsimp only
 refine sk_ fun K2 hK2=>?_
 refine rg_ [0,1,5,9] ?_
 refine cx_ (fun hb1=>?_) (fun hb1=>?_)
 rotate_left
 ·
  have hx:=any_getD_f (p:=fun y=>decide (y=n)) 0 fun j hj=>hn j (by omega)
  refine awp_exit (up_ ?_)
  refine hK1 _ ?_
  refine rg_ [4] ?_
  refine ret_ ?_
  refine fq_ Tryz.results215 ?_
  exact rk_ (by rw [hx])
 refine skp_ ?_
 refine hK2 _ ?_
 refine sk_ fun K3 hK3=>?_
 refine awp_block ?_
 refine rg_ [0,1,5,17] ?_
 refine cy_ (fun hb2=>?_) (fun hb2=>?_)
 ·
  have hx:=any_getD_t (p:=fun y=>decide (y=n)) 0 (l:=l) (j:=i) (by omega) hb2
  refine rg_ [4] ?_
  refine ret_ ?_
  refine fq_ Tryz.results215 ?_
  exact rk_ (by rw [hx])
 refine skp_ ?_
 refine hK3 _ ?_
 refine rt_ [0,1,5] ?_
 refine srn_ ?_
 refine ln_ ⟨i+1,by omega,fun j hj=>by rcases Nat.lt_succ_iff_lt_or_eq.1 hj with h | h;exact hn j h;subst h;exact hb2⟩ ?_
 try dsimp only
 exact ts_ hH
theorem c200 (L:List Nd) (c:Cr) (i w:Int) (h:List Blk) (live:List Nat) (hL:L.length≤1000) (hgs:c.gs.length≤17592186044416):AC Tryz.prog 200 [tV L,.agg [.int .i64 c.uid,.int .i64 c.gid,.slice (c.gs.map iV) .none],.int .i64 i,.int .i64 w] h live (.bool (rCan L c i w)):=by
 refine aq_ Tryz.func200 fun hH hX=>?_
 unfold tV
 refine rg_ [2,3,4,5] ?_
 refine rs_ [3,5,9] ?_
 refine sg_ ?_
 refine cl_ (hc:=c45 L i _ _ hL) (k:=?_)
 refine sre_ ?_
 refine rs_ [8] ?_
 refine sg_ ?_
 refine cg_ (hc:=fun hg=>c246 c _ _ _ _ _ _ _ hgs) (k:=?_)
 refine srt_ ?_
 refine fq_ Tryz.results200 ?_
 exact rk_ rfl
theorem c273 (L:List Nd) (i:Int) (h:List Blk) (live:List Nat) (hL:L.length≤1000) (hnd:∀n∈L,NdOk n):AC Tryz.prog 273 [tV L,.int .i64 i] h live (.int .i64 (rPar L i)):=by
 refine aq_ Tryz.func273 fun hH hX=>?_
 unfold tV
 have hB:HCl (h++[.cells [.slice (L.map nV) .none]]):=HCl.snoc hH (by simp [Blk.cl,AV.cl,AV.clL,clL_nV, -List.map_map])
 have hkd:∀d,(kdL (L.getD d nd0)).length=(L.getD d nd0).ents.length:=fun d=>kdL_len _
 have hne:∀d,(L.getD d nd0).ents.length≤1000:=fun d=>by
  by_cases h:d<L.length
  · rw [List.getD_eq_getElem?_getD,List.getElem?_eq_getElem h];exact (hnd _ (List.getElem_mem h)).2.1
  · rw [List.getD_eq_getElem?_getD,List.getElem?_eq_none (by omega)];exact Nat.zero_le _
 have sx:=(And.intro @kdL_len sx0)
 refine rg_ [1,2] ?_
 refine sk_ fun K1 hK1=>?_
 refine rg_ [1,2,5] ?_
 refine awp_block ?_
 refine lp_ (X:={d:Nat // d≤L.length∧∀j,j<d→hasK i (L.getD j nd0)=false}) (fun x=>⟨Tryz.f273.ntmps,fget [(1,.int .i64 i),(2,.ptr h.length 0),(5,.int .i64 (x.1:Nat))],h++[.cells [.slice (L.map nV) .none]],live⟩) (fun x=>L.length - x.1) (⟨0,by omega,fun j hj=>by omega⟩) ?_ (fun ⟨d,hd,hno⟩=>?_)
 ·
  try dsimp only
  exact tf_ hB (fun _ h=>h)
 try dsimp only
 have hned:=hne d
 have hkdd:=hkd d
 refine sk_ fun K2 hK2=>?_
 refine rg_ [1,2,5,11] ?_
 refine cx_ (fun hb1=>?_) (fun hb1=>?_)
 rotate_left
 ·
  have hx:=rPar_no (i:=i) fun j hj=>hno j (by omega)
  refine awp_exit (up_ ?_)
  refine hK1 _ ?_
  refine rg_ [4] ?_
  refine ret_ ?_
  refine fq_ Tryz.results273 ?_
  exact rk_ (by rw [hx])
 have hdl:d<L.length:=by omega
 refine skp_ ?_
 refine hK2 _ ?_
 refine sk_ fun K3 hK3=>?_
 refine awp_block ?_
 refine rg_ [1,2,5,6] ?_
 refine awp_block ?_
 refine lp_ (X:={k:Nat // k≤(L.getD d nd0).ents.length∧∀j,j<k→(kdL (L.getD d nd0)).getD j 0≠i}) (fun x=>⟨Tryz.f273.ntmps,fget [(1,.int .i64 i),(2,.ptr h.length 0),(5,.int .i64 (d:Nat)),(6,.int .i64 (x.1:Nat))],h++[.cells [.slice (L.map nV) .none]],live⟩) (fun x=>(L.getD d nd0).ents.length - x.1) (⟨0,by omega,fun j hj=>by omega⟩) ?_ (fun ⟨k,hk,hnk⟩=>?_)
 ·
  try dsimp only
  exact tf_ hB (fun _ h=>h)
 try dsimp only
 refine sk_ fun K4 hK4=>?_
 refine rg_ [1,2,5,6,22] ?_
 refine cx_ (fun hb2=>?_) (fun hb2=>?_)
 rotate_left
 ·
  have hf:hasK i (L.getD d nd0)=false:=hasK_f fun j hj=>hnk j (by omega)
  refine awp_exit (up_ ?_)
  refine hK3 _ ?_
  refine rt_ [1,2,5] ?_
  refine srn_ ?_
  refine ln_ ⟨d+1,by omega,fun j hj=>by rcases Nat.lt_succ_iff_lt_or_eq.1 hj with h | h;exact hno j h;subst h;exact hf⟩ ?_
  try dsimp only
  exact tf_ hB (fun _ h=>h)
 have hkl:k<(L.getD d nd0).ents.length:=by omega
 have hkl':k<(kdL (L.getD d nd0)).length:=by omega
 refine skp_ ?_
 refine hK4 _ ?_
 refine sk_ fun K5 hK5=>?_
 refine awp_block ?_
 refine rg_ [1,2,5,6,35] ?_
 refine cx_ (fun hb3=>?_) (fun hb3=>?_)
 ·
  have hx:=rPar_at hdl (hasK_t hkl hb3) hno
  refine rg_ [4] ?_
  refine ret_ ?_
  refine fq_ Tryz.results273 ?_
  exact rk_ (by rw [hx])
 refine skp_ ?_
 refine hK5 _ ?_
 refine rt_ [1,2,5,6] ?_
 refine srn_ ?_
 refine ln_ ⟨k+1,by omega,fun j hj=>by rcases Nat.lt_succ_iff_lt_or_eq.1 hj with h | h;exact hnk j h;subst h;exact hb3⟩ ?_
 try dsimp only
 exact tf_ hB (fun _ h=>h)
end Go.Proofs.YtmgnbgniikjhdaaGreat
namespace Go.Proofs.YtmgnbgniikjhdaaGreat
open Go.Ab
set_option maxRecDepth 8000
set_option maxHeartbeats 400000
theorem eq_of_getD {α:Type} (d:α):∀ {a b:List α},a.length=b.length→(∀j,j<a.length→a.getD j d=b.getD j d)→a=b:=fun {a b} hl h=>by
 refine List.ext_getElem hl fun i h1 h2=>?_
 have:=h i h1
 simpa [List.getD_eq_getElem?_getD,h1,h2] using this
theorem ne_of_getD {α:Type} (d:α) {a b:List α} {j:Nat} (h:¬a.getD j d=b.getD j d):a≠b:=fun e=>h (by rw [e])
def sameF (a b:Nd):Bool:=decide (a.kind=b.kind)&&decide (a.mode=b.mode)&&decide (a.uid=b.uid)&&decide (a.gid=b.gid)&&decide (a.target=b.target)&&decide (a.data=b.data)&&decide (a.ents=b.ents)
theorem c60 (a b:List UInt8) (q r:Cap) (h:List Blk) (live:List Nat) (ha:a.length≤1000000) (hb:b.length≤1000000):AC Tryz.prog 60 [.slice (a.map bV) q,.slice (b.map bV) r] h live (.bool (decide (a=b))):=by
 refine aq_ Tryz.func60 fun hH hX=>?_
 refine rg_ [0,1] ?_
 refine sk_ fun K1 hK1=>?_
 refine rg_ [0,1,11] ?_
 refine cx_ (fun hb1=>?_) (fun hb1=>?_)
 ·
  refine rg_ [4] ?_
  refine ret_ ?_
  refine fq_ Tryz.results60 ?_
  exact rk_ (by rw [decide_eq_false (fun e=>hb1 (by rw [e]))])
 have hab:a.length=b.length:=by omega
 refine skp_ ?_
 refine hK1 _ ?_
 refine sk_ fun K2 hK2=>?_
 refine rg_ [1,12,13,14] ?_
 refine awp_block ?_
 refine lp_ (X:={i:Nat // i≤a.length∧∀j,j<i→a.getD j 0=b.getD j 0}) (fun x=>⟨Tryz.f60.ntmps,fget [(1,.slice (b.map bV) r),(12,.slice (a.map bV) q),(13,.int .i64 a.length),(14,.int .i64 (x.1:Nat))],h,live⟩) (fun x=>a.length - x.1) (⟨0,by omega,fun j hj=>by omega⟩) ?_ (fun ⟨i,hi,hn⟩=>?_)
 ·
  try dsimp only
  exact tf_ hH (fun _ h=>h)
 try dsimp only
 refine rg_ [1,12,13,14,15] ?_
 refine sk_ fun K3 hK3=>?_
 refine cx_ (fun hb2=>?_) (fun hb2=>?_)
 rotate_left
 ·
  have hx:=eq_of_getD 0 hab fun j hj=>hn j (by omega)
  refine awp_exit (up_ ?_)
  refine hK2 _ ?_
  refine rg_ [4] ?_
  refine ret_ ?_
  refine fq_ Tryz.results60 ?_
  exact rk_ (by rw [decide_eq_true hx])
 have hil:i<a.length:=by omega
 have hil':i<b.length:=by omega
 refine skp_ ?_
 refine hK3 _ ?_
 refine sk_ fun K4 hK4=>?_
 refine awp_block ?_
 refine rg_ [1,5,6,12,13,14] ?_
 refine rsq_ [1,12,13,14,24] ⟨true,[],[],[],[],[],0⟩ (fun h=>nomatch h) ?_
 refine sre_ ?_
 refine cx_ (fun hb3=>?_) (fun hb3=>?_)
 ·
  have hx:a≠b:=ne_of_getD 0 (j:=i) (fun e=>hb3 (by rw [e]))
  refine rg_ [4] ?_
  refine ret_ ?_
  refine fq_ Tryz.results60 ?_
  exact rk_ (by rw [decide_eq_false hx])
 have heq:a.getD i 0=b.getD i 0:=by
  first | exact UInt8.toNat_inj.1 (by omega) | exact Prod.ext hb3.1 hb3.2 | (simp at hb3;exact Prod.ext hb3.1 hb3.2)
 refine skp_ ?_
 refine hK4 _ ?_
 refine rt_ [1,12,13,14] ?_
 refine srn_ ?_
 refine ln_ ⟨i+1,by omega,fun j hj=>by rcases Nat.lt_succ_iff_lt_or_eq.1 hj with h | h;exact hn j h;subst h;exact heq⟩ ?_
 try dsimp only
 exact tf_ hH (fun _ h=>h)
theorem c61 (a b:List En) (q r:Cap) (h:List Blk) (live:List Nat) (ha:a.length≤1000000) (hb:b.length≤1000000):AC Tryz.prog 61 [.slice (a.map eV) q,.slice (b.map eV) r] h live (.bool (decide (a=b))):=by
 refine aq_ Tryz.func61 fun hH hX=>?_
 refine rg_ [0,1] ?_
 refine sk_ fun K1 hK1=>?_
 refine rg_ [0,1,11] ?_
 refine cx_ (fun hb1=>?_) (fun hb1=>?_)
 ·
  refine rg_ [4] ?_
  refine ret_ ?_
  refine fq_ Tryz.results61 ?_
  exact rk_ (by rw [decide_eq_false (fun e=>hb1 (by rw [e]))])
 have hab:a.length=b.length:=by omega
 refine skp_ ?_
 refine hK1 _ ?_
 refine sk_ fun K2 hK2=>?_
 refine rg_ [1,12,13,14] ?_
 refine awp_block ?_
 refine lp_ (X:={i:Nat // i≤a.length∧∀j,j<i→a.getD j ([],0)=b.getD j ([],0)}) (fun x=>⟨Tryz.f61.ntmps,fget [(1,.slice (b.map eV) r),(12,.slice (a.map eV) q),(13,.int .i64 a.length),(14,.int .i64 (x.1:Nat))],h,live⟩) (fun x=>a.length - x.1) (⟨0,by omega,fun j hj=>by omega⟩) ?_ (fun ⟨i,hi,hn⟩=>?_)
 ·
  try dsimp only
  exact tf_ hH (fun _ h=>h)
 try dsimp only
 refine rg_ [1,12,13,14,15] ?_
 refine sk_ fun K3 hK3=>?_
 refine cx_ (fun hb2=>?_) (fun hb2=>?_)
 rotate_left
 ·
  have hx:=eq_of_getD ([],0) hab fun j hj=>hn j (by omega)
  refine awp_exit (up_ ?_)
  refine hK2 _ ?_
  refine rg_ [4] ?_
  refine ret_ ?_
  refine fq_ Tryz.results61 ?_
  exact rk_ (by rw [decide_eq_true hx])
 have hil:i<a.length:=by omega
 have hil':i<b.length:=by omega
 refine skp_ ?_
 refine hK3 _ ?_
 refine sk_ fun K4 hK4=>?_
 refine awp_block ?_
 refine rg_ [1,5,6,12,13,14] ?_
 refine rsq_ [1,12,13,14,24] ⟨true,[],[],[],[],[],0⟩ (fun _=>⟨by kernel_rfl,by kernel_rfl⟩) ?_
 refine sre_ ?_
 refine cx_ (fun hb3=>?_) (fun hb3=>?_)
 ·
  have hx:a≠b:=ne_of_getD ([],0) (j:=i) (fun e=>by rw [e] at hb3;simp at hb3)
  refine rg_ [4] ?_
  refine ret_ ?_
  refine fq_ Tryz.results61 ?_
  exact rk_ (by rw [decide_eq_false hx])
 have heq:a.getD i ([],0)=b.getD i ([],0):=by
  first | exact UInt8.toNat_inj.1 (by omega) | exact Prod.ext hb3.1 hb3.2 | (simp at hb3;exact Prod.ext hb3.1 hb3.2)
 refine skp_ ?_
 refine hK4 _ ?_
 refine rt_ [1,12,13,14] ?_
 refine srn_ ?_
 refine ln_ ⟨i+1,by omega,fun j hj=>by rcases Nat.lt_succ_iff_lt_or_eq.1 hj with h | h;exact hn j h;subst h;exact heq⟩ ?_
 try dsimp only
 exact tf_ hH (fun _ h=>h)
theorem c32 (a b:Nd) (h:List Blk) (live:List Nat) (ha:NdOk a) (hb:NdOk b):AC Tryz.prog 32 [.agg (ndC a),.agg (ndC b)] h live (.bool (sameF a b)):=by
 refine aq_ Tryz.func32 fun hH hX=>?_
 obtain ⟨ha1,ha2, -, -⟩:=ha
 obtain ⟨hb1,hb2, -, -⟩:=hb
 refine rg_ [2,3] ?_
 refine rs_ [4] ?_
 refine sg_ ?_
 refine cg_ (hc:=fun hg=>c60 _ _ _ _ _ _ (by omega) (by omega)) (k:=?_)
 refine sg_ ?_
 refine cg_ (hc:=fun hg=>c61 _ _ _ _ _ _ (by omega) (by omega)) (k:=?_)
 refine srt_ ?_
 refine fq_ Tryz.results32 ?_
 exact rk_ rfl
end Go.Proofs.YtmgnbgniikjhdaaGreat
namespace Go.Proofs.YtmgnbgniikjhdaaGreat
open Go.Ab
set_option maxRecDepth 8000
set_option maxHeartbeats 400000
def dropT (T:Tab) (i:Int):Tab:=match T.at i with
 | none=>T
 | some j=>T.put j nd0
theorem dropT_ok {T:Tab} (hT:T.Ok) (i:Int):(dropT T i).Ok:=by
 unfold dropT
 split
 · exact hT
 ·
  refine ⟨hT.lo,hT.hi,by show (T.ns.set _ nd0).length=24;rw [List.length_set];exact hT.len,fun m hm=>?_,fun m hm h0=>?_⟩
  ·
   rcases List.mem_or_eq_of_mem_set hm with h | h
   · exact hT.nd m h
   · rw [h];exact ndOk_0
  ·
   rcases List.mem_or_eq_of_mem_set hm with h | h
   · exact hT.zero m h h0
   · exact h
theorem put_self (T:Tab) (j:Nat):T.put j (T.ns.getD j nd0)=T:=by
 unfold Tab.put
 have:T.ns.set j (T.ns.getD j nd0)=T.ns:=by
  refine List.ext_getElem? fun i=>?_
  rw [List.getElem?_set]
  split
  ·
   rename_i e;subst e
   split
   · rename_i hl;simp [List.getD_eq_getElem?_getD,hl]
   · rename_i hl;exact (List.getElem?_eq_none (by omega)).symm
  · rfl
 rw [this]
def sameT (A B:Tab):Bool:=(List.range 24).all fun j=>sameF (A.get ((j:Int)+1)).1 (B.get ((j:Int)+1)).1
theorem allR_t {p:Nat→Bool} {n:Nat} (h:∀j,j<n→p j=true):(List.range n).all p=true:=List.all_eq_true.2 fun j hj=>h j (List.mem_range.1 hj)
theorem allR_f {p:Nat→Bool} {m n:Nat} (hm:m<n) (h:p m=false):(List.range n).all p=false:=List.all_eq_false.2 ⟨m,List.mem_range.2 hm,by simp [h]⟩
def Tab.usedN (T:Tab):Nat→Int
 | 0=>0
 | m+1=>bif (T.at ((m:Int)+1)).isSome then IntKind.i64.wrap (T.usedN m+1) else T.usedN m
def Tab.used (T:Tab):Int:=T.usedN T.room.toNat
theorem tab_all (T:Tab) (hT:T.Ok):blkGet (some (tabBlk T)) 0 (.agg 169)=some (.agg (.int .i64 T.room::tabC T.ns)):=by
 have hl:(tabC T.ns).length=168:=by rw [tabC_len,hT.len]
 show (if 0+169≤(AV.int .i64 T.room::tabC T.ns).length then some (AV.agg (((AV.int .i64 T.room::tabC T.ns).drop 0).take 169)) else none)=_
 rw [if_pos (by rw [List.length_cons,hl];omega),List.drop_zero,List.take_of_length_le (by rw [List.length_cons,hl];omega)]
theorem clone_put (T:Tab) (hT:T.Ok):blkPut (some (.cells (.int .i64 0::zRest))) 0 (.agg 169) (.agg (.int .i64 T.room::tabC T.ns))=some (tabBlk T):=by
 have hl:(tabC T.ns).length=168:=by rw [tabC_len,hT.len]
 show (if ((AV.int .i64 T.room::tabC T.ns).length==169)=true∧0+(AV.int .i64 T.room::tabC T.ns).length≤(AV.int .i64 0::zRest).length then some (Blk.cells (putAt (AV.int .i64 0::zRest) 0 (AV.int .i64 T.room::tabC T.ns))) else none)=_
 rw [if_pos ⟨by rw [List.length_cons,hl];rfl,by rw [List.length_cons,List.length_cons,hl,zRest_len];omega⟩,putAt_eq _ _ _ (by rw [List.length_cons,List.length_cons,hl,zRest_len];omega)]
 rw [List.take_zero,List.nil_append,List.length_cons,hl,List.drop_of_length_le (by rw [List.length_cons,zRest_len];omega),List.append_nil];rfl
theorem cl_tabC (m:Nat) (T:Tab):AV.clL m (.int .i64 T.room::tabC T.ns):=⟨trivial,clL_tabC _ _⟩
theorem c41 (T:Tab) (k:Nat) (h:List Blk) (live:List Nat) (hk:h[k]? = some (tabBlk T)) (hT:T.Ok):ACalls Tryz.prog 41 [.ptr k 0] h live (ret (.ptr h.length 0) (h++[tabBlk T]) live):=by
 refine aq_ Tryz.func41 fun hH hX=>?_
 have hkl:=lt_of_get hk
 have hk1:∀g:List Blk,(h++g)[k]? = some (tabBlk T):=fun g=>atApp hk
 have hk2:∀(y:Blk) (g:List Blk),(h++g).set k y=h.set k y++g:=fun y g=>setApp hk
 have ht1:=tab_all T hT
 have ht2:=clone_put T hT
 have ht3:(tabC T.ns).length=168:=by rw [tabC_len,hT.len]
 have hlen:=hT.len
 have hps:=put_self T
 have hB:=hcl_new hH T
 have sx:=(And.intro @hk (And.intro @hk1 (And.intro @ht1 (And.intro @azero_tab (And.intro @tk_tab (And.intro @hps (And.intro @tab_agg (And.intro @tab_put sx0))))))))
 refine rg_ [0] ?_
 refine sk_ fun K1 hK1=>?_
 refine rg_ [0,6] ?_
 refine cdn_ (ht:=fun hb1=>?_) (hf:=fun hb1=>?_)
 · exfalso;exact Bool.noConfusion hb1
 refine skp_ ?_
 refine hK1 _ ?_
 refine rs_ [3] ?_
 refine dp_ ?_
 refine dp_ ?_
 refine dh_ ?_
 refine dh_ ?_
 refine dawp_hn rfl (show _=some (AV.undef,h++[tabBlk T]) from by simp only [sH_store,astore_eq,tk_tab,ev_tmp,fget_cons,fget_nil,Nat.reduceEqDiff,↓reduceIte,storeOf_ptr,get_app0,List.getElem?_cons_zero,cells_agg,ht2,setOf_some,set_app0,List.set_cons_zero,withU_some]) rfl ?_
 refine re_ ?_
 refine sk_ fun K2 hK2=>?_
 refine rg_ [3,10] ?_
 refine awp_block ?_
 refine lp_ (X:={i:Nat // i≤24}) (fun x=>⟨Tryz.f41.ntmps,fget [(3,.ptr h.length 0),(10,.int .i64 (x.1:Nat))],h++[tabBlk T],live⟩) (fun x=>24 - x.1) (⟨0,by omega⟩) ?_ (fun ⟨i,hi⟩=>?_)
 ·
  try dsimp only
  exact tf_ hB (fun _ h=>h)
 try dsimp only
 refine rg_ [3,10,11] ?_
 refine sk_ fun K3 hK3=>?_
 refine cx_ (fun hb2=>?_) (fun hb2=>?_)
 rotate_left
 ·
  refine awp_exit (up_ ?_)
  refine hK2 _ ?_
  refine rg_ [2] ?_
  refine ret_ ?_
  refine gq_ (h1:=h++[tabBlk T]) Tryz.results41 ?_ (hH:=hB)
  exact rk_ rfl
 have hil:i<24:=by omega
 refine skp_ ?_
 refine hK3 _ ?_
 refine sk_ fun K4 hK4=>?_
 refine awp_block ?_
 refine rg_ [3,4,10] ?_
 refine rt_ [3,10] ?_
 refine sg_ ?_
 refine cl_ (hc:=c47 _ _ _ (getD_nd hT _)) (k:=?_)
 refine srn_ ?_
 refine hK4 _ ?_
 refine rt_ [3,10] ?_
 refine srn_ ?_
 refine ln_ ⟨i+1,by omega⟩ ?_
 try dsimp only
 exact tf_ hB (fun _ h=>h)
theorem dn161 (T:Tab) (k:Nat) (i:Int) (h:List Blk) (live:List Nat) (hk:h[k]? = some (tabBlk T)) (hT:T.Ok) (ha:T.at i=none):AC Tryz.prog 161 [.ptr k 0,.int .i64 i] h live (.bool false):=by
 refine aq_ Tryz.func161 fun hH hX=>?_
 have sx:=(And.intro @ha sx0)
 refine rg_ [0,1] ?_
 refine rs_ [5] ?_
 refine sg_ ?_
 refine cl_ (hc:=c46 T k i _ _ hk hT) (k:=?_)
 refine sre_ ?_
 refine sk_ fun K1 hK1=>?_
 refine rg_ [5,10] ?_
 refine cdy_ (ht:=fun hb1=>?_) (hf:=fun hb1=>?_)
 ·
  refine rg_ [4] ?_
  refine ret_ ?_
  refine fq_ Tryz.results161 ?_
  exact rk_ rfl
 exfalso;exact Bool.noConfusion hb1
def zNd:List AV:=[.int .i64 0,.int .i64 0,.int .i64 0,.int .i64 0,.slice [] .full,.slice [] .full,.str []]
def drC (T:Tab) (j:Nat):List AV:=putAt (.int .i64 T.room::tabC T.ns) (1+j*7) zNd
theorem drop_put (T:Tab) {j:Nat} (hj:j<T.ns.length):blkPut (some (tabBlk T)) (1+j*7) (.agg 7) (.agg [.int .i64 0,.int .i64 0,.int .i64 0,.int .i64 0,.slice [] .full,.slice [] .full,.str []])=some (.cells (drC T j)):=by
 show (if fits (.agg 7) (.agg zNd)=true∧1+j*7+7≤(AV.int .i64 T.room::tabC T.ns).length then some (Blk.cells (drC T j)) else none)=_
 rw [if_pos ⟨rfl,by rw [List.length_cons,tabC_len];omega⟩]
theorem erL_putAt:∀(v c:List AV) (off:Nat),AV.erL (putAt c off v)=putAt (AV.erL c) off (AV.erL v)
 | [], _, _=>rfl
 | x::v,c,off=>by
  show AV.erL (putAt (c.set off x) (off+1) v)=putAt ((AV.erL c).set off x.er) (off+1) (AV.erL v)
  rw [erL_putAt v];simp only [AV.erL_map,List.map_set]
theorem erL_tabC:∀ns:List Nd,AV.erL (tabC ns)=tabC ns
 | []=>rfl
 | n::r=>by
  show AV.erL (ndC n++tabC r)=ndC n++tabC r
  rw [AV.erL_map,List.map_append,←AV.erL_map,←AV.erL_map,er_ndC,erL_tabC r]
theorem drop_er (T:Tab) {j:Nat} (hj:j<T.ns.length):tabBlk (T.put j nd0)=(Blk.cells (drC T j)).er:=by
 show Blk.cells (.int .i64 T.room::tabC (T.ns.set j nd0))=Blk.cells (AV.erL (drC T j))
 unfold drC
 rw [erL_putAt,show AV.erL (AV.int .i64 T.room::tabC T.ns)=.int .i64 T.room::tabC T.ns from congrArg _ (erL_tabC _),show AV.erL zNd=ndC nd0 from rfl,Nat.add_comm 1,putAt_cons,putAt_tabC _ _ _ hj]
attribute [push_cast] erL_putAt erL_tabC
theorem ds161 (T:Tab) (k:Nat) (i:Int) (j:Nat) (h:List Blk) (live:List Nat) (hk:h[k]? = some (tabBlk T)) (hT:T.Ok) (ha:T.at i=some j):ACalls Tryz.prog 161 [.ptr k 0,.int .i64 i] h live (ret (.bool true) (h.set k (tabBlk (T.put j nd0))) live):=by
 refine aq_ Tryz.func161 fun hH hX=>?_
 have hkl:=lt_of_get hk
 have hk1:∀g:List Blk,(h++g)[k]? = some (tabBlk T):=fun g=>atApp hk
 have hk2:∀(y:Blk) (g:List Blk),(h++g).set k y=h.set k y++g:=fun y g=>setApp hk
 obtain ⟨hj,hij,hir,hkd⟩:=at_some hT ha
 have ht0:=drop_put T hj
 have sx:=(And.intro @ha (And.intro @hk (And.intro @hk1 (And.intro @ht0 sx0))))
 refine rg_ [0,1] ?_
 refine rs_ [5] ?_
 refine sg_ ?_
 refine cl_ (hc:=c46 T k i _ _ hk hT) (k:=?_)
 refine sre_ ?_
 refine sk_ fun K1 hK1=>?_
 refine rg_ [5,10] ?_
 refine cdn_ (ht:=fun hb1=>?_) (hf:=fun hb1=>?_)
 · exfalso;exact Bool.noConfusion hb1
 refine skp_ ?_
 refine hK1 _ ?_
 refine rg_ [] ?_
 refine rg_ [4] ?_
 refine ret_ ?_
 refine fe_ (h1:=h.set k (tabBlk (T.put j nd0))) Tryz.results161 (hh:=⟨h.set k _,[],(List.append_nil _).symm,BW.set (drop_er T hj)⟩) (hH:=(hcl_tab hH _ _)) (hK:=?_)
 exact rk_ rfl
theorem c161 (T:Tab) (k:Nat) (i:Int) (h:List Blk) (live:List Nat) (hk:h[k]? = some (tabBlk T)) (hT:T.Ok):ACalls Tryz.prog 161 [.ptr k 0,.int .i64 i] h live (ret (.bool (T.at i).isSome) (h.set k (tabBlk (dropT T i))) live):=by
 unfold dropT
 cases ha:T.at i with
 | none=>rw [set_self hk];exact dn161 T k i h live hk hT ha
 | some j=>exact ds161 T k i j h live hk hT ha
theorem c262 (b:Nat) (i:Int) (p:AV) (h:List Blk) (live:List Nat) (v:Int) (hb:h[b]? = some (.cells [.int .i64 v])):ACalls Tryz.prog 262 (.int .i64 i::p::[.ptr b 0]) h live (ret (.tup []) (h.set b (.cells [.int .i64 (IntKind.i64.wrap (v+1))])) live):=by
 refine aq_ Tryz.func262 fun hH hX=>?_
 have hbl:=lt_of_get hb
 have hB:∀x,HCl (h.set b (.cells [.int .i64 x])):=fun x=>HCl.set hH b ⟨trivial,trivial⟩
 have sx:=(And.intro @hb sx0)
 refine rt_ [] ?_
 refine srn_ ?_
 refine gq_ (h1:=h.set b _) Tryz.results262 ?_ (hH:=(hB _))
 exact rk_ rfl
theorem c224 (T:Tab) (k:Nat) (h:List Blk) (live:List Nat) (hk:h[k]? = some (tabBlk T)) (hT:T.Ok):AC Tryz.prog 224 [.ptr k 0] h live (.int .i64 T.used):=by
 refine aq_ Tryz.func224 fun hH hX=>?_
 have hkl:=lt_of_get hk
 have hBu:∀v,HCl (h++[.cells [.int .i64 v]]):=fun v=>HCl.snoc hH ⟨trivial,trivial⟩
 refine rg_ [0] ?_
 refine rg_ [0,3] ?_
 refine rs_ [3] ?_
 refine sg_ ?_
 refine cl_ (hc:=c238 T k 262 [.ptr h.length 0] (fun m=>h++[.cells [.int .i64 (T.usedN m)]]) _ hT (fun m _=>atApp hk) (fun m _=>hBu _) (fun m _=>by simp only [List.length_append,List.length_cons]) (fun m hm hat=>by
  have:=c262 h.length ((m:Int)+1) (nodeP k (T.at ((m:Int)+1))) (h++[.cells [.int .i64 (T.usedN m)]]) live (T.usedN m) (by simp only [push_cast])
  rw [set_app0] at this
  have e:T.usedN (m+1)=IntKind.i64.wrap (T.usedN m+1):=by
   show (bif (T.at ((m:Int)+1)).isSome then _ else _)=_
   rw [hat];rfl
  rw [e];exact this) (fun m hm hat=>by
  have e:T.usedN (m+1)=T.usedN m:=by
   show (bif (T.at ((m:Int)+1)).isSome then _ else _)=_
   rw [hat];rfl
  rw [e]) (by simp [AV.cl,AV.clL])) (k:=?_)
 refine re_ ?_
 refine rg_ [2] ?_
 refine ret_ ?_
 refine fq_ Tryz.results224 ?_
 exact rk_ rfl
end Go.Proofs.YtmgnbgniikjhdaaGreat
namespace Go.Proofs.YtmgnbgniikjhdaaGreat
open Go.Ab
set_option maxRecDepth 8000
set_option maxHeartbeats 400000
def mayMode (c:Cr) (u:Int):Bool:=decide (c.uid=0)||decide (u=c.uid)
def modeF (c:Cr) (kind gid m:Int):Int:=bif decide (c.uid=0)||!decide (kind=1)||memF c gid then bits .and .i64 m 4095 else bits .andNot .i64 (bits .and .i64 m 4095) 1024
def mayOwn (c:Cr) (u g tu tg:Int):Bool:=decide (c.uid=0)||(decide (u=c.uid)&&(decide (tu<0)||decide (tu=u))&&(decide (tg<0)||decide (tg=g)||memF c tg))
def clearF (is:Bool) (m bit:Int):Int:=bif is then bits .andNot .i64 m bit else m
def fileF (c:Cr) (kind:Int):Bool:=!(decide (c.uid=0)||!decide (kind=1))
def writtenF (c:Cr) (kind m:Int):Int:=
 clearF (fileF c kind&&!decide (bits .and .i64 (clsI (clearF (fileF c kind) (bits .and .i64 m 4095) 2048) 1) 1=0)) (clearF (fileF c kind) (bits .and .i64 m 4095) 2048) 1024
theorem written_eq (f:Bool) (m:Int):clearF (f&&!decide (bits .and .i64 (clsI (clearF true m 2048) 1) 1=0)) (clearF f m 2048) 1024=clearF (f&&!decide (bits .and .i64 (clsI (clearF f m 2048) 1) 1=0)) (clearF f m 2048) 1024:=by
 cases f
 · simp only [Bool.false_and]
 · rfl
def stickyF (c:Cr) (m du u:Int):Bool:=decide (c.uid=0)||decide (bits .and .i64 m 512=0)||decide (du=c.uid)||decide (u=c.uid)
theorem c165 (c:Cr) (u:Int) (h:List Blk) (live:List Nat):AC Tryz.prog 165 [.agg [.int .i64 c.uid,.int .i64 c.gid,.slice (c.gs.map iV) .none],.int .i64 u] h live (.bool (mayMode c u)):=by
 refine aq_ Tryz.func165 fun hH hX=>?_
 have sx:=(And.intro @any2 sx0)
 refine rg_ [1,2] ?_
 refine rsq_ [4] ⟨true,[],[],[],[],[],0⟩ (fun _=>⟨by kernel_rfl,by kernel_rfl⟩) ?_
 refine sg_ ?_
 refine cr_ (hc:=c222 c _ _ _) (k:=?_)
 refine sg_ ?_
 refine cr_ (hc:=c221 [decide (c.uid=0),decide (u=c.uid)] _ _ _ (by simp)) (k:=?_)
 refine srt_ ?_
 refine fq_ Tryz.results165 ?_
 exact rk_ rfl
theorem c166 (c:Cr) (kn gid m:Int) (h:List Blk) (live:List Nat) (hgs:c.gs.length≤17592186044416):AC Tryz.prog 166 [.agg [.int .i64 c.uid,.int .i64 c.gid,.slice (c.gs.map iV) .none],.int .i64 kn,.int .i64 gid,.int .i64 m] h live (.int .i64 (modeF c kn gid m)):=by
 refine aq_ Tryz.func166 fun hH hX=>?_
 have sx:=(And.intro @any3 sx0)
 refine rg_ [1,2,3,4] ?_
 refine rg_ [1,2,3,4] ?_
 refine sk_ fun K1 hK1=>?_
 refine rsq_ [3,19] ⟨true,[],[],[],[],[],0⟩ (fun _=>⟨by kernel_rfl,by kernel_rfl⟩) ?_
 refine sg_ ?_
 refine cr_ (hc:=c222 c _ _ _) (k:=?_)
 refine sg_ ?_
 refine cr_ (hc:=c223 c _ _ _ _ hgs) (k:=?_)
 refine sg_ ?_
 refine cr_ (hc:=c221 [decide (c.uid=0),!decide (kn=1),memF c gid] _ _ _ (by simp)) (k:=?_)
 refine re_ ?_
 refine cy_ (fun hb1=>?_) (fun hb1=>?_)
 ·
  refine rg_ [8] ?_
  refine ret_ ?_
  refine fq_ Tryz.results166 ?_
  exact rk_ (by unfold modeF;rw [hb1];rfl)
 refine skp_ ?_
 refine hK1 _ ?_
 refine rg_ [8] ?_
 refine ret_ ?_
 refine fq_ Tryz.results166 ?_
 exact rk_ (by unfold modeF;rw [hb1];rfl)
theorem c178 (c:Cr) (u gr tu tg:Int) (h:List Blk) (live:List Nat) (hgs:c.gs.length≤17592186044416):AC Tryz.prog 178 [.agg [.int .i64 c.uid,.int .i64 c.gid,.slice (c.gs.map iV) .none],.int .i64 u,.int .i64 gr,.int .i64 tu,.int .i64 tg] h live (.bool (mayOwn c u gr tu tg)):=by
 refine aq_ Tryz.func178 fun hH hX=>?_
 have sx:=(And.intro @any2 (And.intro @any3 sx0))
 refine rg_ [1,2,3,4,5] ?_
 refine rs_ [5,11] ?_
 refine sg_ ?_
 refine cg_ (hc:=fun hg=>c221 [decide (tu<0),decide (tu=u)] _ _ _ (by simp)) (k:=?_)
 refine sg_ ?_
 refine cg_ (hc:=fun hg=>c223 c _ _ _ _ hgs) (k:=?_)
 refine sg_ ?_
 refine cg_ (hc:=fun hg=>c221 [decide (tg<0),decide (tg=gr),memF c tg] _ _ _ (by simp)) (k:=?_)
 refine sre_ ?_
 refine rs_ [10] ?_
 refine sg_ ?_
 refine cl_ (hc:=c222 c _ _ _) (k:=?_)
 refine sg_ ?_
 refine cl_ (hc:=c221 [decide (c.uid=0),(decide (u=c.uid)&&(decide (tu<0)||decide (tu=u))&&(decide (tg<0)||decide (tg=gr)||memF c tg))] _ _ _ (by simp)) (k:=?_)
 refine srt_ ?_
 refine fq_ Tryz.results178 ?_
 exact rk_ rfl
theorem c228 (b:Nat) (is:Bool) (bit m:Int) (h:List Blk) (live:List Nat) (hb:h[b]? = some (.cells [.int .i64 m])):ACalls Tryz.prog 228 [.bool is,.int .i64 bit,.ptr b 0] h live (ret (.tup []) (h.set b (.cells [.int .i64 (clearF is m bit)])) live):=by
 refine aq_ Tryz.func228 fun hH hX=>?_
 have hbl:=lt_of_get hb
 have hB:∀x,HCl (h.set b (.cells [.int .i64 x])):=fun x=>HCl.set hH b ⟨trivial,trivial⟩
 have sx:=(And.intro @hb sx0)
 refine rg_ [1,2,5] ?_
 refine cy_ (fun hb1=>?_) (fun hb1=>?_)
 ·
  refine rt_ [] ?_
  refine srn_ ?_
  refine gq_ (h1:=h.set b _) Tryz.results228 ?_ (hH:=(hB _))
  exact ⟨rfl,by unfold clearF;rw [hb1];rfl,rfl⟩
 refine skp_ ?_
 refine gq_ (h1:=h.set b _) Tryz.results228 ?_ (hh:=(⟨[],by rw [List.append_nil];exact (set_self hb).symm⟩)) (hH:=(hB _))
 exact ⟨rfl,by unfold clearF;rw [hb1];rfl,rfl⟩
theorem c179 (c:Cr) (kn m:Int) (h:List Blk) (live:List Nat):AC Tryz.prog 179 [.agg [.int .i64 c.uid,.int .i64 c.gid,.slice (c.gs.map iV) .none],.int .i64 kn,.int .i64 m] h live (.int .i64 (writtenF c kn m)):=by
 refine aq_ Tryz.func179 fun hH hX=>?_
 have sx:=(And.intro @any2 sx0)
 refine rg_ [1,3,5] ?_
 refine rg_ [1,3,5] ?_
 refine rg_ [1,3,5,7] ?_
 refine rs_ [5,7,8] ?_
 refine sg_ ?_
 refine cl_ (hc:=c222 c _ _ _) (k:=?_)
 refine sg_ ?_
 refine cl_ (hc:=c221 [decide (c.uid=0),!decide (kn=1)] _ _ _ (by simp)) (k:=?_)
 refine sre_ ?_
 refine rs_ [5,7,8] ?_
 refine sg_ ?_
 refine cl_ (hc:=c228 (h.length+1) _ _ _ _ _ (by simp only [push_cast];rfl)) (k:=?_)
 refine re_ ?_
 refine rs_ [5] ?_
 refine sg_ ?_
 refine cg_ (hc:=fun hg=>c229 _ _ _ _) (k:=?_)
 refine sg_ ?_
 refine cl_ (hc:=c228 (h.length+1) _ _ _ _ _ (by simp only [push_cast];rfl)) (k:=?_)
 refine re_ ?_
 refine rg_ [6] ?_
 refine ret_ ?_
 refine fq_ Tryz.results179 ?_
 exact rk_ (by unfold writtenF fileF;rw [written_eq])
theorem c264 (c:Cr) (m du u:Int) (h:List Blk) (live:List Nat):AC Tryz.prog 264 [.agg [.int .i64 c.uid,.int .i64 c.gid,.slice (c.gs.map iV) .none],.int .i64 m,.int .i64 du,.int .i64 u] h live (.bool (stickyF c m du u)):=by
 refine aq_ Tryz.func264 fun hH hX=>?_
 have sx:=(And.intro @any4 sx0)
 refine rg_ [1,2,3,4] ?_
 refine rsq_ [8] ⟨true,[],[],[],[],[],0⟩ (fun _=>⟨by kernel_rfl,by kernel_rfl⟩) ?_
 refine sg_ ?_
 refine cr_ (hc:=c222 c _ _ _) (k:=?_)
 refine sg_ ?_
 refine cr_ (hc:=c221 [decide (c.uid=0),decide (bits .and .i64 m 512=0),decide (du=c.uid),decide (u=c.uid)] _ _ _ (by simp)) (k:=?_)
 refine srt_ ?_
 refine fq_ Tryz.results264 ?_
 exact rk_ rfl
end Go.Proofs.YtmgnbgniikjhdaaGreat
namespace Go.Proofs.YtmgnbgniikjhdaaGreat
open Go.Ab
set_option maxRecDepth 8000
set_option maxHeartbeats 400000
theorem getD_zero {T:Tab} (hT:T.Ok) {j:Nat} (h:(T.ns.getD j nd0).kind=0):T.ns.getD j nd0=nd0:=by
 by_cases hj:j<T.ns.length
 ·
  rw [List.getD_eq_getElem?_getD,List.getElem?_eq_getElem hj] at h ⊢
  exact hT.zero _ (List.getElem_mem hj) h
 · rw [List.getD_eq_getElem?_getD,List.getElem?_eq_none (by omega)];rfl
theorem get_eq {T:Tab} (hT:T.Ok) (d:Int):T.get d=if 1≤d∧d≤T.room then (T.ns.getD (d - 1).toNat nd0,!decide ((T.ns.getD (d - 1).toNat nd0).kind=0)) else (nd0,false):=by
 by_cases h:1≤d∧d≤T.room
 ·
  rw [if_pos h]
  by_cases hk:(T.ns.getD (d - 1).toNat nd0).kind=0
  ·
   have:T.at d=none:=by unfold Tab.at;rw [if_neg (fun e=>e.2.2 hk)]
   rw [get_no this,decide_eq_true hk,getD_zero hT hk];rfl
  ·
   have:T.at d=some (d - 1).toNat:=by unfold Tab.at;rw [if_pos ⟨h.1,h.2,hk⟩]
   rw [get_at this,decide_eq_false hk];rfl
 ·
  rw [if_neg h]
  have:T.at d=none:=by unfold Tab.at;rw [if_neg (fun e=>h ⟨e.1,e.2.1⟩)]
  exact get_no this
theorem ref_getD {T:Tab} {j:Nat} (hj:j<T.room.toNat):(refL T).getD j nd0=T.ns.getD j nd0:=by
 unfold refL;rw [List.getD_eq_getElem?_getD,List.getElem?_take,if_pos hj,List.getD_eq_getElem?_getD]
theorem rGet_eq {T:Tab} (hT:T.Ok) (d:Int):rGet (refL T) d=(T.get d).1:=by
 have h3:=hT.lo
 unfold rGet
 rw [refL_len hT,get_eq hT]
 by_cases h:1≤d∧d≤T.room
 ·
  rw [if_pos h,decide_eq_false (by omega),decide_eq_false (by omega)]
  exact ref_getD (by omega)
 ·
  rw [if_neg h]
  by_cases h1:d<1
  · rw [decide_eq_true h1];rfl
  · rw [decide_eq_false h1,decide_eq_true (by omega)];rfl
theorem rIs_eq {T:Tab} (hT:T.Ok) (d:Int):rIs (refL T) d=(T.get d).2:=by
 have h3:=hT.lo
 unfold rIs
 rw [refL_len hT,get_eq hT]
 by_cases h:1≤d∧d≤T.room
 · rw [if_pos h,decide_eq_true h.1,decide_eq_true (by omega),ref_getD (by omega)];rfl
 ·
  rw [if_neg h]
  by_cases h1:1≤d
  · rw [decide_eq_true h1,decide_eq_false (by omega)];rfl
  · rw [decide_eq_false h1];rfl
theorem get_kind {T:Tab} (hT:T.Ok) (d:Int):(T.get d).2=!decide ((T.get d).1.kind=0):=by
 rw [get_eq hT]
 split
 · rfl
 · rfl
theorem rCan_eq {T:Tab} (hT:T.Ok) (c:Cr) (i w:Int):rCan (refL T) c i w=canT c T i w:=by
 unfold rCan canT;rw [rGet_eq hT,get_kind hT]
theorem idxP_snoc {α:Type} (p:α→Bool) (x:α):∀l:List α,idxP p (l++[x])=if idxP p l<0 then (if p x=true then (l.length:Int) else -1) else idxP p l
 | []=>by
  simp only [List.nil_append,idxP]
  cases p x<;>rfl
 | y::l=>by
  have ih:=idxP_snoc p x l
  have hr:=idxP_range p l
  simp only [List.cons_append,idxP]
  rcases Bool.eq_false_or_eq_true (p y) with hy | hy
  · simp [hy]
  ·
   simp only [hy,cond_false]
   rw [ih]
   by_cases h:idxP p l<0
   ·
    rw [if_pos h,decide_eq_true h,cond_true]
    by_cases hx:p x=true
    · rw [if_pos hx,if_pos hx,decide_eq_false (by omega),cond_false,if_pos (show (-1:Int)<0 by decide),List.length_cons];rfl
    · rw [if_neg hx,if_neg hx];rfl
   · rw [if_neg h,decide_eq_false h,cond_false,if_neg (by omega)]
theorem entsF_par (i d:Int) (hd:d≠0):∀(l:List En) (v:Int),entsF (fun v d=>if v=0 then d else v) i d v l=if v=0∧(l.any fun e=>decide (e.2=i))=true then d else v
 | [],v=>by simp [entsF]
 | e::l,v=>by
  show entsF (fun v d=>if v=0 then d else v) i d (if e.2=i then (if v=0 then d else v) else v) l=_
  rw [entsF_par i d hd l]
  by_cases he:e.2=i
  ·
   rw [if_pos he]
   by_cases hv:v=0
   · rw [if_pos hv,if_neg (by omega)];simp [he,hv]
   · rw [if_neg hv];simp [hv]
  · rw [if_neg he,List.any_cons,decide_eq_false he,Bool.false_or]
theorem hasK_ents (i:Int) (n:Nd):hasK i n=n.ents.any fun e=>decide (e.2=i):=by
 unfold hasK kdL;rw [List.any_map];rfl
theorem at_none_nd {T:Tab} (hT:T.Ok) {m:Nat} (hm:m<T.room.toNat) (h:T.at ((m:Int)+1)=none):T.ns.getD m nd0=nd0:=by
 refine getD_zero hT ?_
 unfold Tab.at at h
 by_cases hc:(T.ns.getD m nd0).kind=0
 · exact hc
 · rw [if_pos ⟨by omega,by omega,by rw [show ((m:Int)+1 - 1).toNat=m by omega];exact hc⟩] at h;cases h
theorem scan_par {T:Tab} (hT:T.Ok) (i:Int):∀m,m≤T.room.toNat→T.scan (fun v d=>if v=0 then d else v) i 0 m=if idxP (hasK i) ((refL T).take m)<0 then 0 else idxP (hasK i) ((refL T).take m)+1
 | 0, _=>by simp [Tab.scan,idxP]
 | m+1,hm=>by
  have ih:=scan_par hT i m (by omega)
  have hl:m<(refL T).length:=by rw [refL_len hT];omega
  have hg:(refL T)[m]=T.ns.getD m nd0:=by
   rw [←ref_getD (T:=T) (j:=m) (by omega),List.getD_eq_getElem?_getD,List.getElem?_eq_getElem hl];rfl
  have hr:=idxP_range (hasK i) ((refL T).take m)
  have htl:((refL T).take m).length=m:=by rw [List.length_take];omega
  rw [List.take_succ_eq_append_getElem hl,idxP_snoc,hg,htl]
  have hs:T.scan (fun v d=>if v=0 then d else v) i 0 (m+1)=if T.scan (fun v d=>if v=0 then d else v) i 0 m=0∧hasK i (T.ns.getD m nd0)=true then ((m:Int)+1) else T.scan (fun v d=>if v=0 then d else v) i 0 m:=by
   show (match T.at ((m:Int)+1) with | some j=>_ | none=>_)=_
   cases ha:T.at ((m:Int)+1) with
   | none=>
    rw [at_none_nd hT (by omega) ha]
    simp [hasK,kdL,nd0]
   | some j=>
    obtain rfl:=at_m hT j ha
    simp only []
    rw [entsF_par _ _ (by omega),hasK_ents]
  rw [hs,ih]
  by_cases h:idxP (hasK i) ((refL T).take m)<0
  ·
   rw [if_pos h,if_pos h]
   cases hasK i (T.ns.getD m nd0) with
   | true=>rw [if_pos ⟨rfl,rfl⟩,if_pos rfl,if_neg (by omega)]
   | false=>simp
  · rw [if_neg h,if_neg h,if_neg (by omega),if_neg h]
theorem rPar_eq {T:Tab} (hT:T.Ok) (i:Int):rPar (refL T) i=T.parent i:=by
 unfold rPar Tab.parent
 rw [scan_par hT i _ (Nat.le_refl _),List.take_of_length_le (by rw [refL_len hT];omega)]
theorem rWayL_eq {T:Tab} (hT:T.Ok) (c:Cr):∀(n:Nat) (d:Int),rWayL (refL T) c n d=wayL T c n d
 | 0, _=>rfl
 | n+1,d=>by
  unfold rWayL wayL
  rw [rPar_eq hT,rCan_eq hT,rWayL_eq hT c n]
theorem rWay_eq {T:Tab} (hT:T.Ok) (c:Cr) (d:Int):rWay (refL T) c d=wayF T c d:=by
 unfold rWay wayF;rw [rGet_eq hT,rWayL_eq hT]
theorem rSeen_eq {T:Tab} (hT:T.Ok) (c:Cr) (i:Int):rSeen (refL T) c i=seenF T c i:=by
 have h3:=hT.lo
 have h2:=hT.hi
 unfold rSeen seenF
 rw [rIs_eq hT,Bool.or_comm,refL_len hT]
 congr 2
 have hat:∀d:Nat,d<T.room.toNat→rSeenAt (refL T) c i d=seenAt T c i (d+1):=fun d hd=>by
  unfold rSeenAt seenAt
  rw [ref_getD hd,rWay_eq hT,rCan_eq hT,hasK_ents,show (((d+1:Nat):Int))=(d:Int)+1 by omega,get_eq hT ((d:Int)+1),if_pos ⟨by omega,by omega⟩,show ((d:Int)+1 - 1).toNat=d by omega]
 rw [Bool.eq_iff_iff,List.any_eq_true,List.any_eq_true]
 constructor
 ·
  rintro ⟨d,hd,h⟩
  have hd':=List.mem_range.1 hd
  exact ⟨d+1,List.mem_range.2 (by omega),by rw [←hat d hd'];exact h⟩
 ·
  rintro ⟨d,hd,h⟩
  have hd':=List.mem_range.1 hd
  have hin:1≤(d:Int)∧(d:Int)≤T.room:=by
   by_cases hc:1≤(d:Int)∧(d:Int)≤T.room
   · exact hc
   ·
    unfold seenAt at h
    rw [get_eq hT,if_neg hc] at h
    simp [nd0] at h
  obtain ⟨e,rfl⟩:∃e,d=e+1:=⟨d - 1,by omega⟩
  exact ⟨e,List.mem_range.2 (by omega),by rw [hat e (by omega)];exact h⟩
end Go.Proofs.YtmgnbgniikjhdaaGreat
