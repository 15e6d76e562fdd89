import Derived.Test.YtjmlgeckgieaaaaGreatP7
/-
  CHANGES: the document's.
-/
set_option linter.unusedVariables false
set_option linter.unusedSimpArgs false
namespace Go.Proofs.YtjmlgeckgieaaaaGreat
open Go.Ab
set_option maxRecDepth 8000
set_option maxHeartbeats 400000
theorem eq_getD {α:Type} (d:α) {l o:List α} (hl:l.length=o.length) (h:∀j,j<l.length→l.getD j d=o.getD j d):l=o:=by
 refine List.ext_getElem hl fun j h1 h2=>?_
 have:=h j h1
 rwa [List.getD_eq_getElem?_getD,List.getElem?_eq_getElem h1,List.getD_eq_getElem?_getD,List.getElem?_eq_getElem h2] at this
theorem nm_get (n:Nd) (i:Nat):(nmL n).getD i []=(n.ents.getD i ([],0)).1:=by
 simp only [nmL,List.getD_eq_getElem?_getD,List.getElem?_map]
 cases n.ents[i]? <;> rfl
theorem kd_get (n:Nd) (i:Nat):(kdL n).getD i 0=(n.ents.getD i ([],0)).2:=by
 simp only [kdL,List.getD_eq_getElem?_getD,List.getElem?_map]
 cases n.ents[i]? <;> rfl
theorem sameF_n {a b:Nd} (h:(!decide (a.kind=b.kind)||!decide (a.mode=b.mode)||!decide (a.uid=b.uid)||!decide (a.gid=b.gid)||!decide (a.data=b.data)||!decide (a.target=b.target)||!decide ((a.ents.length:Int)=b.ents.length))=true):sameF a b=false:=by
 apply Bool.eq_false_iff.2
 intro hs
 unfold sameF at hs
 simp only [Bool.and_eq_true,decide_eq_true_eq] at hs
 obtain ⟨⟨⟨⟨⟨⟨h1,h2⟩,h3⟩,h4⟩,h5⟩,h6⟩,h7⟩:=hs
 rw [h1,h2,h3,h4,h5,h6,h7] at h
 simp at h
theorem sameF_y {a b:Nd} (h:(!decide (a.kind=b.kind)||!decide (a.mode=b.mode)||!decide (a.uid=b.uid)||!decide (a.gid=b.gid)||!decide (a.data=b.data)||!decide (a.target=b.target)||!decide ((a.ents.length:Int)=b.ents.length))=false):a.ents.length=b.ents.length∧(a.ents=b.ents→sameF a b=true):=by
 simp only [Bool.or_eq_false_iff,Bool.not_eq_false',decide_eq_true_eq] at h
 obtain ⟨⟨⟨⟨⟨⟨h1,h2⟩,h3⟩,h4⟩,h5⟩,h6⟩,h7⟩:=h
 refine ⟨by omega,fun e=>?_⟩
 unfold sameF
 rw [h1,h2,h3,h4,h5,h6,e]
 simp
theorem sameF_e {a b:Nd} (h:a.ents≠b.ents):sameF a b=false:=by
 unfold sameF
 rw [decide_eq_false h,Bool.and_false]
attribute [push_cast] nm_get kd_get
theorem en_dec (x y:En):decide (x=y)=(decide (x.1=y.1)&&decide (x.2=y.2)):=by
 rw [Bool.eq_iff_iff];simp [Prod.ext_iff]
theorem any_snoc {α:Type} {p:α→Bool} {l:List α} {k:Nat} (d:α) (h:k<l.length):(l.take (k+1)).any p=((l.take k).any p||p (l.getD k d)):=by
 have e:l.getD k d=l[k]:=by simp [List.getD_eq_getElem?_getD,h]
 rw [List.take_succ_eq_append_getElem h,List.any_append,e];simp
theorem nv_bare (n:Nd):AV.erL (((nvC n).set 5 (.slice [] .full)).set 6 (.slice [] .full))=nvC (nWith n []):=rfl
def uidV (n:Nd) (u:Int):Nd:=⟨n.kind,n.mode,u,n.gid,n.data,n.ents,n.target⟩
def gidV (n:Nd) (u:Int):Nd:=⟨n.kind,n.mode,n.uid,u,n.data,n.ents,n.target⟩
def datV (n:Nd) (b:List UInt8):Nd:=⟨n.kind,n.mode,n.uid,n.gid,b,n.ents,n.target⟩
theorem nvs_1 (n:Nd) (x:Int):(nvC n).set 1 (.int .i64 x)=nvC (modeN n x):=rfl
theorem nvs_2 (n:Nd) (x:Int):(nvC n).set 2 (.int .i64 x)=nvC (uidV n x):=rfl
theorem nvs_3 (n:Nd) (x:Int):(nvC n).set 3 (.int .i64 x)=nvC (gidV n x):=rfl
theorem nvs_4 (n:Nd) (b:List UInt8):(nvC n).set 4 (.str b)=nvC (datV n b):=rfl
attribute [push_cast] nvs_1 nvs_2 nvs_3 nvs_4
def onlyF (l:List Int) (k:Int):Bool:=decide ((l.length:Int)=0)||(decide ((l.length:Int)=1)&&decide (l.getD 0 0=k)&&decide (0<k))
def rdC (D:Df) (cs:Nat→Cap):List AV:=[.slice ((D.b 0).map iV) (cs 0),.slice ((D.b 1).map iV) (cs 1),.slice ((D.b 3).map iV) (cs 2),.int .i64 ((D.b 2).length:Int),.slice (D.lost.map yV) (cs 3),.slice (D.won.map yV) (cs 4)]
theorem rdC_len (D:Df) (cs:Nat→Cap):(rdC D cs).length=6:=rfl
theorem rdC_0 (D:Df) (cs:Nat→Cap):(rdC D cs)[0]? = some (.slice ((D.b 0).map iV) (cs 0)):=rfl
theorem rdC_1 (D:Df) (cs:Nat→Cap):(rdC D cs)[1]? = some (.slice ((D.b 1).map iV) (cs 1)):=rfl
theorem rdC_2 (D:Df) (cs:Nat→Cap):(rdC D cs)[2]? = some (.slice ((D.b 3).map iV) (cs 2)):=rfl
theorem rdC_3 (D:Df) (cs:Nat→Cap):(rdC D cs)[3]? = some (.int .i64 ((D.b 2).length:Int)):=rfl
theorem rdC_4 (D:Df) (cs:Nat→Cap):(rdC D cs)[4]? = some (.slice (D.lost.map yV) (cs 3)):=rfl
theorem rdC_5 (D:Df) (cs:Nat→Cap):(rdC D cs)[5]? = some (.slice (D.won.map yV) (cs 4)):=rfl
theorem rdTake (D:Df) (cs:Nat→Cap):(rdC D cs).take 6=rdC D cs:=rfl
theorem rdPut (a b c d e f:AV) (D:Df) (cs:Nat→Cap):putAt [a,b,c,d,e,f] 0 (rdC D cs)=rdC D cs:=rfl
theorem rdSet4 (D:Df) (cs:Nat→Cap) (l:List Ey) (c:Cap):(rdC D cs).set 4 (.slice (l.map yV) c)=rdC ⟨D.b,l,D.won⟩ (updC cs 3 c):=rfl
theorem rdSet5 (D:Df) (cs:Nat→Cap) (l:List Ey) (c:Cap):(rdC D cs).set 5 (.slice (l.map yV) c)=rdC ⟨D.b,D.lost,l⟩ (updC cs 4 c):=rfl
attribute [push_cast] rdC_len rdC_0 rdC_1 rdC_2 rdC_3 rdC_4 rdC_5 rdTake rdPut rdSet4 rdSet5
theorem rdSet0 (D:Df) (cs:Nat→Cap) (i:Int) (c:Cap):(rdC D cs).set 0 (.slice ((D.b 0++[i]).map iV) c)=rdC (updB D 0 i) (updC cs 0 c):=rfl
theorem rdSet1 (D:Df) (cs:Nat→Cap) (i:Int) (c:Cap):(rdC D cs).set 1 (.slice ((D.b 1++[i]).map iV) c)=rdC (updB D 1 i) (updC cs 1 c):=rfl
theorem rdSet2 (D:Df) (cs:Nat→Cap) (i:Int) (c:Cap):(rdC D cs).set 2 (.slice ((D.b 3++[i]).map iV) c)=rdC (updB D 3 i) (updC cs 2 c):=rfl
theorem rdSet3 (D:Df) (cs:Nat→Cap) (i:Int):(rdC D cs).set 3 (.int .i64 ((D.b 2).length+1))=rdC (updB D 2 i) cs:=by
 have:(((updB D 2 i).b 2).length:Int)=((D.b 2).length:Int)+1:=by
  show (((D.b 2)++[i]).length:Int)=_
  simp
 show [_, _, _,AV.int .i64 (((D.b 2).length:Int)+1), _, _]=[_, _, _,AV.int .i64 (((updB D 2 i).b 2).length:Int), _, _]
 rw [this];rfl
theorem clL_rdC (n:Nat) (D:Df) (cs:Nat→Cap):AV.clL n (rdC D cs):=by simp [rdC,AV.clL,AV.cl,clL_iV,clL_yV, -List.map_map]
theorem er_rdC (D:Df) (cs:Nat→Cap):AV.erL (rdC D cs)=rdC D fun _=>.none:=by simp [rdC,AV.erL,AV.er,erL_iV,erL_yV, -List.map_map]
theorem same_bare (a b:Nd):sameF (nWith a []) (nWith b [])=sameF (nEnts a b) b:=by
 rw [Bool.eq_iff_iff,same_iff,same_iff,nEnts_eq]
 cases a;cases b;simp [nWith]
theorem nWith_nd {n:Nd} (h:NdOk n):NdOk (nWith n []):=⟨h.1,Nat.zero_le _,h.2.2.1,fun e he=>nomatch he⟩
attribute [push_cast] clL_rdC er_rdC
theorem c82 (n m:Nd) (h:List Blk) (live:List Nat) (hn:NdOk n) (hm:NdOk m):AC Tryz.prog 82 [.agg (nvC n),.agg (nvC m)] h live (.bool (sameF n m)):=by
 refine aq_ Tryz.func82 fun hH hX=>?_
 have hB0:HCl (h++[.cells (nvC n),.cells (nvC m)]):=by
  have:=(HCl.snoc hH (b:=.cells (nvC n)) (clL_nvC _ _)).snoc (b:=.cells (nvC m)) (clL_nvC _ _)
  rw [List.append_assoc] at this;exact this
 obtain ⟨hn1,hn2,hn3,hn4⟩:=hn
 obtain ⟨hm1,hm2,hm3,hm4⟩:=hm
 have hne:=nmL_len n
 have hkl:=kdL_len n
 have hne2:=nmL_len m
 have hkl2:=kdL_len m
 have sx:=(And.intro @nmL_len (And.intro @kdL_len (And.intro @nm_get (And.intro @kd_get sx0))))
 refine rg_ [2,3] ?_
 refine sk_ fun K1 hK1=>?_
 refine rg_ [2,3,54] ?_
 refine cy_ (fun hb1=>?_) (fun hb1=>?_)
 ·
  have hsf:=sameF_n hb1
  refine rg_ [4] ?_
  refine ret_ ?_
  refine fq_ Tryz.results82 ?_
  exact rk_ (by rw [hsf])
 obtain ⟨hle,hsf⟩:=sameF_y hb1
 refine skp_ ?_
 refine hK1 _ ?_
 refine sk_ fun K2 hK2=>?_
 refine rg_ [2,3,5] ?_
 refine awp_block ?_
 refine lp_ (X:={i:Nat // i≤n.ents.length∧∀j,j<i→n.ents.getD j ([],0)=m.ents.getD j ([],0)}) (fun x=>⟨Tryz.f82.ntmps,fget [(2,.ptr h.length 0),(3,.ptr (h.length+1) 0),(5,.int .i64 (x.1:Nat))],h++[.cells (nvC n),.cells (nvC m)],live⟩) (fun x=>n.ents.length - x.1) (⟨0,by omega,fun j hj=>by omega⟩) ?_ (fun ⟨i,hi,hno⟩=>?_)
 ·
  try dsimp only
  exact tf_ hB0 (fun _ h=>h)
 try dsimp only
 refine sk_ fun K3 hK3=>?_
 refine rg_ [2,3,5,59] ?_
 refine cy_ (fun hb2=>?_) (fun hb2=>?_)
 rotate_left
 ·
  simp only [decide_eq_true_eq,decide_eq_false_iff_not,Bool.not_eq_true',Bool.not_eq_false',Bool.or_eq_true,Bool.and_eq_true,Bool.or_eq_false_iff,Bool.and_eq_false_imp,Int.not_lt,Int.not_le,push_cast] at hb2
  have hie:i=n.ents.length:=by omega
  subst hie
  have hss:=hsf (eq_getD ([],0) hle hno)
  refine awp_exit (up_ ?_)
  refine hK2 _ ?_
  refine rg_ [4] ?_
  refine ret_ ?_
  refine fq_ Tryz.results82 ?_
  exact rk_ (by rw [hss])
 simp only [decide_eq_true_eq,decide_eq_false_iff_not,Bool.not_eq_true',Bool.not_eq_false',Bool.or_eq_true,Bool.and_eq_true,Bool.or_eq_false_iff,Bool.and_eq_false_imp,Int.not_lt,Int.not_le,push_cast] at hb2
 have hil:i<n.ents.length:=by omega
 have hil2:i<m.ents.length:=by omega
 refine skp_ ?_
 refine hK3 _ ?_
 refine sk_ fun K4 hK4=>?_
 refine awp_block ?_
 refine rsq_ [2,3,5,85] ⟨false,[],[],[],[],[],0⟩ (fun _=>⟨by kernel_rfl,by kernel_rfl⟩) ?_
 refine sre_ ?_
 refine cy_ (fun hb3=>?_) (fun hb3=>?_)
 ·
  have hss:=sameF_e (a:=n) (b:=m) (fun e=>by rw [e] at hb3;simp at hb3)
  refine rg_ [4] ?_
  refine ret_ ?_
  refine fq_ Tryz.results82 ?_
  exact rk_ (by rw [hss])
 have hee:n.ents.getD i ([],0)=m.ents.getD i ([],0):=by
  simp only [Bool.or_eq_false_iff,Bool.not_eq_false',decide_eq_true_eq] at hb3
  exact Prod.ext hb3.1 hb3.2
 refine skp_ ?_
 refine hK4 _ ?_
 refine rt_ [2,3,5] ?_
 refine srn_ ?_
 refine ln_ ⟨i+1,by omega,fun j hj=>by rcases Nat.lt_succ_iff_lt_or_eq.1 hj with h | h;exact hno j h;subst h;exact hee⟩ ?_
 try dsimp only
 exact tf_ hB0 (fun _ h=>h)
theorem c84 (dn:Int) (a b:Nd) (h:List Blk) (live:List Nat) (ha:NdOk a) (hb:NdOk b):AC Tryz.prog 84 [.int .i64 dn,.agg (nvC a),.agg (nvC b)] h live (.slice ((lessF dn a.ents b.ents).map yV) .none):=by
 refine aq_ Tryz.func84 fun hH hX=>?_
 have hB:HCl (h++[.cells (nvC a),.cells (nvC b)]):=by
  have:=(HCl.snoc hH (b:=.cells (nvC a)) (clL_nvC _ _)).snoc (b:=.cells (nvC b)) (clL_nvC _ _)
  rw [List.append_assoc] at this;exact this
 obtain ⟨ha1,ha2,ha3,ha4⟩:=ha
 obtain ⟨hb1_,hb2_,hb3_,hb4_⟩:=hb
 have hne:=nmL_len a
 have hkl:=kdL_len a
 have hne2:=nmL_len b
 have hkl2:=kdL_len b
 have sx:=(And.intro @nmL_len (And.intro @kdL_len sx0))
 refine rg_ [0,4,5] ?_
 refine rg_ [0,4,5,7] ?_
 refine sk_ fun K1 hK1=>?_
 refine rg_ [0,4,5,7,8] ?_
 refine awp_block ?_
 refine lp_ (X:={p:Nat×Cap×List Nat // p.1≤a.ents.length∧CapOK p.2.2 p.2.1∧∀u∈live,u∈p.2.2∧p.2.1≠.own u}) (fun x=>⟨Tryz.f84.ntmps,fget [(0,.int .i64 dn),(4,.ptr h.length 0),(5,.ptr (h.length+1) 0),(7,.slice ((lessF dn (a.ents.take x.1.1) b.ents).map yV) x.1.2.1),(8,.int .i64 (x.1.1:Nat))],h++[.cells (nvC a),.cells (nvC b)],x.1.2.2⟩) (fun x=>a.ents.length - x.1.1) (⟨⟨0,.full,live⟩,Nat.zero_le _,.inl rfl,fun u hu=>⟨hu,Cap.noConfusion⟩⟩) ?_ (fun ⟨⟨i,c,live'⟩,hi,hc,hlv⟩=>?_)
 ·
  try dsimp only
  refine Trunc.of (by first | exact (List.append_nil _).symm | exact rfl | (rw [List.append_assoc];rfl)) ?_ hB (fun _ h=>h)
  refine ftc_ ?_ (hc:=by simp [AV.cl,AV.clL,clL_yV, -List.map_map];try omega)
  refine ftc_ ?_ (hc:=by simp [AV.cl,AV.clL,clL_yV, -List.map_map];try omega)
  refine ftc_ ?_ (hc:=by simp [AV.cl,AV.clL,clL_yV, -List.map_map];try omega)
  refine FTr.cons (by first | rfl | (simp only [push_cast];rw [lessF_yes hil hb3'];simp only [List.map_append];rfl) | (simp only [push_cast];rw [lessF_no hil hb3'];rfl)) (by simp [AV.cl,AV.clL,clL_yV, -List.map_map]) ?_
  refine ftc_ ?_ (hc:=by simp [AV.cl,AV.clL,clL_yV, -List.map_map];try omega)
  exact FTr.nil
 try dsimp only
 dsimp only at hi hc hlv
 refine sk_ fun K2 hK2=>?_
 refine rg_ [0,4,5,7,8,15] ?_
 refine cy_ (fun hb1=>?_) (fun hb1=>?_)
 rotate_left
 ·
  simp only [decide_eq_true_eq,decide_eq_false_iff_not,Bool.not_eq_true',Bool.not_eq_false',Bool.or_eq_true,Bool.and_eq_true,Bool.or_eq_false_iff,Bool.and_eq_false_imp,Int.not_lt,Int.not_le,push_cast] at hb1
  have hie:i=a.ents.length:=by omega
  subst hie
  refine awp_exit (up_ ?_)
  refine hK1 _ ?_
  refine rg_ [6] ?_
  refine ret_ ?_
  refine fq_ Tryz.results84 ?_ (hcl:=(by simp [AV.cl,AV.clL,clL_yV, -List.map_map])) (hl:=(fun u hu=>(hlv u hu).1))
  exact rk_ (by rw [List.take_length])
 simp only [decide_eq_true_eq,decide_eq_false_iff_not,Bool.not_eq_true',Bool.not_eq_false',Bool.or_eq_true,Bool.and_eq_true,Bool.or_eq_false_iff,Bool.and_eq_false_imp,Int.not_lt,Int.not_le,push_cast] at hb1
 have hil:i<a.ents.length:=by omega
 have hll:=lessF_len dn (a.ents.take i) b.ents
 have htl:(a.ents.take i).length≤a.ents.length:=List.length_take_le' _ _
 refine skp_ ?_
 refine hK2 _ ?_
 refine sk_ fun K3 hK3=>?_
 refine awp_block ?_
 refine rg_ [0,4,5,7,8,9] ?_
 refine sk_ fun K4 hK4=>?_
 refine rg_ [0,4,5,7,8,9,10] ?_
 refine awp_block ?_
 refine lp_ (X:={k:Nat // k≤b.ents.length}) (fun x=>⟨Tryz.f84.ntmps,fget [(0,.int .i64 dn),(4,.ptr h.length 0),(5,.ptr (h.length+1) 0),(7,.slice ((lessF dn (a.ents.take i) b.ents).map yV) c),(8,.int .i64 (i:Nat)),(9,.bool ((b.ents.take x.1).any fun y=>decide (a.ents.getD i ([],0)=y))),(10,.int .i64 (x.1:Nat))],h++[.cells (nvC a),.cells (nvC b)],live'⟩) (fun x=>b.ents.length - x.1) (⟨0,by omega⟩) ?_ (fun ⟨k,hk⟩=>?_)
 ·
  try dsimp only
  exact tf_ hB (fun _ h=>h)
 try dsimp only
 refine sk_ fun K5 hK5=>?_
 refine rg_ [0,4,5,7,8,9,10,22] ?_
 refine cy_ (fun hb2=>?_) (fun hb2=>?_)
 rotate_left
 ·
  simp only [decide_eq_true_eq,decide_eq_false_iff_not,Bool.not_eq_true',Bool.not_eq_false',Bool.or_eq_true,Bool.and_eq_true,Bool.or_eq_false_iff,Bool.and_eq_false_imp,Int.not_lt,Int.not_le,push_cast] at hb2
  have hke:k=b.ents.length:=by omega
  subst hke
  have htk:=List.take_length (l:=b.ents)
  rw [htk]
  refine awp_exit (up_ ?_)
  refine hK4 _ ?_
  refine rg_ [0,4,5,7,8,53] ?_
  refine cy_ (fun hb3=>?_) (fun hb3=>?_)
  ·
   have hb3':=hb3
   simp only [Bool.not_eq_true'] at hb3'
   refine rtq_ [0,4,5,7,8] ⟨false,[],[],[],[],[],0⟩ (fun _=>⟨by kernel_rfl,by kernel_rfl⟩) ?_
   refine sg_ ?_
   refine ap_ (a:=hc) (b:=cells_yV _) (c':=by simp [AV.cells]) (d:=by simp;omega) (e:=by simp;omega) (k:=?_)
   intro c68 live68 hk68
   refine srn_ ?_
   refine hK3 _ ?_
   refine rt_ [0,4,5,7,8] ?_
   refine srn_ ?_
   refine ln_ ⟨⟨i+1,c68,live68⟩,by dsimp only;omega,cap_snoc hlv hk68⟩ ?_
   try dsimp only
   refine Trunc.of (by first | exact (List.append_nil _).symm | exact rfl | (rw [List.append_assoc];rfl)) ?_ hB (fun _ h=>h)
   refine ftc_ ?_ (hc:=by simp [AV.cl,AV.clL,clL_yV, -List.map_map];try omega)
   refine ftc_ ?_ (hc:=by simp [AV.cl,AV.clL,clL_yV, -List.map_map];try omega)
   refine ftc_ ?_ (hc:=by simp [AV.cl,AV.clL,clL_yV, -List.map_map];try omega)
   refine FTr.cons (by first | rfl | (simp only [push_cast];rw [lessF_yes hil hb3'];simp only [List.map_append];rfl) | (simp only [push_cast];rw [lessF_no hil hb3'];rfl)) (by simp [AV.cl,AV.clL,clL_yV, -List.map_map]) ?_
   refine ftc_ ?_ (hc:=by simp [AV.cl,AV.clL,clL_yV, -List.map_map];try omega)
   exact FTr.nil
  have hb3':=hb3
  simp only [Bool.not_eq_false'] at hb3'
  refine skp_ ?_
  refine hK3 _ ?_
  refine rt_ [0,4,5,7,8] ?_
  refine srn_ ?_
  refine ln_ ⟨⟨i+1,c,live'⟩,by dsimp only;omega,hc,hlv⟩ ?_
  try dsimp only
  refine Trunc.of (by first | exact (List.append_nil _).symm | exact rfl | (rw [List.append_assoc];rfl)) ?_ hB (fun _ h=>h)
  refine ftc_ ?_ (hc:=by simp [AV.cl,AV.clL,clL_yV, -List.map_map];try omega)
  refine ftc_ ?_ (hc:=by simp [AV.cl,AV.clL,clL_yV, -List.map_map];try omega)
  refine ftc_ ?_ (hc:=by simp [AV.cl,AV.clL,clL_yV, -List.map_map];try omega)
  refine FTr.cons (by first | rfl | (simp only [push_cast];rw [lessF_yes hil hb3'];simp only [List.map_append];rfl) | (simp only [push_cast];rw [lessF_no hil hb3'];rfl)) (by simp [AV.cl,AV.clL,clL_yV, -List.map_map]) ?_
  refine ftc_ ?_ (hc:=by simp [AV.cl,AV.clL,clL_yV, -List.map_map];try omega)
  exact FTr.nil
 simp only [decide_eq_true_eq,decide_eq_false_iff_not,Bool.not_eq_true',Bool.not_eq_false',Bool.or_eq_true,Bool.and_eq_true,Bool.or_eq_false_iff,Bool.and_eq_false_imp,Int.not_lt,Int.not_le,push_cast] at hb2
 have hkl3:k<b.ents.length:=by omega
 have hst:=any_snoc (p:=fun y=>decide (a.ents.getD i ([],0)=y)) ([],0) hkl3
 rw [en_dec] at hst
 have hst:=hst.symm
 have sx:=And.intro hst sx
 refine skp_ ?_
 refine hK5 _ ?_
 refine sk_ fun K6 hK6=>?_
 refine awp_block ?_
 refine rtq_ [0,4,5,7,8,9,10] ⟨false,[],[],[],[],[],0⟩ (fun _=>⟨by kernel_rfl,by kernel_rfl⟩) ?_
 refine srn_ ?_
 refine hK6 _ ?_
 refine rt_ [0,4,5,7,8,9,10] ?_
 refine srn_ ?_
 refine ln_ ⟨k+1,by omega⟩ ?_
 try dsimp only
 exact tf_ hB (fun _ h=>h)
theorem c83 (n:Nd) (h:List Blk) (live:List Nat) (hn:NdOk n):AC Tryz.prog 83 [.agg (nvC n)] h live (.agg (nvC (nWith n []))):=by
 refine aq_ Tryz.func83 fun hH hX=>?_
 refine rg_ [1,2] ?_
 refine rg_ [1,2] ?_
 refine rg_ [1,2] ?_
 refine rg_ [2] ?_
 refine ret_ ?_
 refine fq_ Tryz.results83 ?_ (hx:=by (simp only [atuple,AV.er,AV.erL,push_cast,nv_bare])<;>rfl) (hcl:=(by simp [nvC,AV.cl,AV.clL,AV.erL,AV.er,putAt, -List.map_map]))
 exact rk_ rfl
theorem c38 (i:Int) (a b:Nd) (h:List Blk) (live:List Nat) (ha:NdOk a) (hb:NdOk b):AC Tryz.prog 38 [.int .i64 i,.agg (nvC a),.agg (nvC b)] h live (.agg (chC (aloneF i a b))):=by
 refine aq_ Tryz.func38 fun hH hX=>?_
 refine rg_ [0,4,5,6] ?_
 refine rg_ [0,4,5,6,7] ?_
 refine rg_ [0,4,5,6,7] ?_
 refine rg_ [0,4,5,6,7] ?_
 refine rg_ [0,4,5,6,7] ?_
 refine rs_ [0,4,5,6,8] ?_
 refine sg_ ?_
 refine cl_ (hc:=c82 (asAttr a b) b _ _ (asAttr_ok ha) hb) (k:=?_)
 refine sre_ ?_
 refine sk_ fun K1 hK1=>?_
 refine rg_ [0,4,5,6,23] ?_
 refine cy_ (fun hb1=>?_) (fun hb1=>?_)
 ·
  refine rg_ [6] ?_
  refine ret_ ?_
  refine fq_ Tryz.results38 ?_ (hcl:=(by simp [AV.cl,AV.clL]))
  exact rk_ (by unfold aloneF;rw [hb1];rfl)
 refine skp_ ?_
 refine hK1 _ ?_
 refine rg_ [0,4,5,6,9] ?_
 refine rg_ [0,4,5,6,9] ?_
 refine rg_ [0,4,5,6,9] ?_
 refine sk_ fun K2 hK2=>?_
 refine rs_ [0,6,40] ?_
 refine sg_ ?_
 refine cg_ (hc:=fun hg=>c82 (asData a b) b _ _ (asData_ok ha hb) hb) (k:=?_)
 refine sre_ ?_
 refine cy_ (fun hb2=>?_) (fun hb2=>?_)
 ·
  refine rg_ [6] ?_
  refine ret_ ?_
  refine fq_ Tryz.results38 ?_ (hcl:=(by simp [AV.cl,AV.clL]))
  exact rk_ (by unfold aloneF;rw [hb1,hb2];rfl)
 refine skp_ ?_
 refine hK2 _ ?_
 refine rg_ [6] ?_
 refine ret_ ?_
 refine fq_ Tryz.results38 ?_ (hcl:=(by simp [AV.cl,AV.clL]))
 exact rk_ (by unfold aloneF;rw [hb1,hb2];rfl)
theorem c85 (l:List Int) (k:Int) (q:Cap) (h:List Blk) (live:List Nat):AC Tryz.prog 85 [.slice (l.map iV) q,.int .i64 k] h live (.bool (onlyF l k)):=by
 refine aq_ Tryz.func85 fun hH hX=>?_
 refine rg_ [0,1] ?_
 refine rg_ [4] ?_
 refine ret_ ?_
 refine fq_ Tryz.results85 ?_
 exact rk_ rfl
end Go.Proofs.YtjmlgeckgieaaaaGreat
