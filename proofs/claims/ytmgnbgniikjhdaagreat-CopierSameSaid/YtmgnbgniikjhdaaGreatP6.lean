import Derived.Test.YtmgnbgniikjhdaaGreatP5
/-
  CALLS: what is asked.
-/
set_option linter.unusedVariables false
set_option linter.unusedSimpArgs false
namespace Go.Proofs.YtmgnbgniikjhdaaGreat
open Go.Ab
set_option maxRecDepth 8000
set_option maxHeartbeats 400000
def readlinkF (T:Tab) (c:Cr) (p:List UInt8):List UInt8×Int:=
 if (statF T c p false).2≠0 then ([],(statF T c p false).2) else if (statF T c p false).1.kind≠3 then ([],22) else ((T.get (statF T c p false).1.node).1.target,0)
def listF (T:Tab) (c:Cr) (p:List UInt8):List (List UInt8)×Int:=
 if (statF T c p true).2≠0 then ([],(statF T c p true).2) else if (statF T c p true).1.kind≠2 then ([],20) else if canT c T (statF T c p true).1.node 4=false then ([],13)
 else (nmL (T.get (statF T c p true).1.node).1,0)
theorem ris_names {n:Nd} (hk:n.kind=2) (h:rightF n=true):n.ents.length≤8∧RisS (nmL n):=by
 unfold rightF at h
 cases hc:(decide (n.mode<0)||decide (4095<n.mode)||!idB n.uid||!idB n.gid) with
 | true=>rw [hc] at h;cases h
 | false=>
  rw [hc,cond_false,if_neg (by omega),if_pos hk] at h
  have hr:risingF n.ents=true:=by
   simp only [Bool.and_eq_true] at h;exact h.2
  unfold risingF at hr
  rw [Bool.and_eq_true,Bool.not_eq_true',decide_eq_true_eq] at hr
  obtain ⟨h1,h2⟩:=hr
  refine ⟨by omega,fun i hi0 hi=>?_⟩
  rw [nmL_len] at hi
  have hb:=List.any_eq_false.1 h1 i (List.mem_range.2 hi)
  have hg:∀j,(nmL n).getD j []=(n.ents.getD j ([],0)).1:=fun j=>by
   simp only [nmL,List.getD_eq_getElem?_getD,List.getElem?_map]
   cases n.ents[j]? <;> rfl
  rw [hg,hg]
  unfold badE at hb
  rw [show ((i:Int) - 1).toNat=i - 1 by omega] at hb
  cases hx:Op.bytesLess (n.ents.getD (i - 1) ([],0)).1 (n.ents.getD i ([],0)).1 with
  | true=>rfl
  | false=>
   rw [hx] at hb
   exact absurd (by simp;omega) hb
theorem stat_dir {T:Tab} {c:Cr} {p:List UInt8} {fl:Bool} {m:Int} (hm:m≠0) (h:(statF T c p fl).1.kind=m):(T.get (statF T c p fl).1.node).2=true∧(T.get (statF T c p fl).1.node).1.kind=m:=by
 unfold statF at h ⊢
 split at h
 · exact absurd h (Ne.symm hm)
 ·
  rename_i h1
  rw [if_neg h1]
  split at h
  ·
   rename_i h2
   rw [if_pos h2]
   have hn:=staF_node h2
   rw [hn]
   refine ⟨h2,?_⟩
   rw [←h];unfold staF;rw [if_pos h2]
  · exact absurd h (Ne.symm hm)
theorem cells_str1 (l:List (List UInt8)):∀y∈l.map AV.str,y.cells.length=1:=cells_strs' l
theorem c162 (n:Nd) (h:List Blk) (live:List Nat) (hl:n.ents.length≤8) (hr:RisS (nmL n)):AC Tryz.prog 162 [.agg (ndC n)] h live (.slice ((nmL n).map .str) .none):=by
 refine aq_ Tryz.func162 fun hH hX=>?_
 have hnl:=nmL_len n
 have hB:HCl (h++[.cells (ndC n)]):=HCl.snoc hH (cl_ndB _ _)
 have sx:=(And.intro @nm_step sx0)
 refine rg_ [1] ?_
 refine rg_ [1,3] ?_
 refine sk_ fun K1 hK1=>?_
 refine rg_ [3,7,8,9] ?_
 refine awp_block ?_
 refine lp_ (X:={p:Nat×Cap×List Nat // p.1≤n.ents.length∧CapOK p.2.2 p.2.1∧∀u∈live,u∈p.2.2∧p.2.1≠.own u}) (fun x=>⟨Tryz.f162.ntmps,fget [(3,.slice (((nmL n).take x.1.1).map .str) x.1.2.1),(7,.slice (n.ents.map eV) .none),(8,.int .i64 n.ents.length),(9,.int .i64 (x.1.1:Nat))],h++[.cells (ndC n)],x.1.2.2⟩) (fun x=>n.ents.length - x.1.1) (⟨⟨0,.full,live⟩,Nat.zero_le _,.inl rfl,fun u hu=>⟨hu,Cap.noConfusion⟩⟩) ?_ (fun ⟨⟨i,c,live'⟩,hi,hc,hlv⟩=>?_)
 ·
  try dsimp only
  exact tf_ hB (fun _ h=>h)
 try dsimp only
 dsimp only at hi hc hlv
 refine rg_ [3,7,8,9,10] ?_
 refine sk_ fun K2 hK2=>?_
 refine cx_ (fun hb1=>?_) (fun hb1=>?_)
 rotate_left
 ·
  have hie:i=n.ents.length:=by omega
  subst hie
  have htk:(nmL n).take n.ents.length=nmL n:=by rw [←hnl,List.take_length]
  have sx:=And.intro htk sx
  refine awp_exit (up_ ?_)
  refine hK1 _ ?_
  refine rs_ [3] ?_
  refine sg_ ?_
  refine cl_ (hc:=c220 (nmL n) _ _ _ (by omega) hr) (k:=?_)
  refine re_ ?_
  refine rg_ [2] ?_
  refine ret_ ?_
  refine fq_ Tryz.results162 ?_ (hcl:=(by simp [AV.cl,AV.clL,clL_str, -List.map_map])) (hl:=(fun u hu=>(hlv u hu).1))
  exact rk_ rfl
 have hil:i<n.ents.length:=by omega
 refine skp_ ?_
 refine hK2 _ ?_
 refine sk_ fun K3 hK3=>?_
 refine awp_block ?_
 refine rg_ [3,5,7,8,9] ?_
 refine rt_ [3,7,8,9] ?_
 refine sg_ ?_
 refine ap_ (a:=hc) (b:=cells_strs' _) (c':=by simp [AV.cells]) (d:=by simp;omega) (e:=by simp;omega) (k:=?_)
 intro c17 live17 hk17
 refine srn_ ?_
 refine hK3 _ ?_
 refine rt_ [3,7,8,9] ?_
 refine srn_ ?_
 refine ln_ ⟨⟨i+1,c17,live17⟩,by dsimp only;omega,hk17.1,fun u hu=>hk17.2 u (hlv u hu).1 (hlv u hu).2⟩ ?_
 try dsimp only
 exact tf_ hB (fun _ h=>h)
theorem c109 (T:Tab) (k:Nat) (c:Cr) (p:List UInt8) (h:List Blk) (live:List Nat) (hk:h[k]? = some (tabBlk T)) (hT:T.Ok) (hgs:c.gs.length≤17592186044416) (hR:T.Rt) (hp:p.length≤9223372036854775807):AC Tryz.prog 109 [.ptr k 0,.agg [.int .i64 c.uid,.int .i64 c.gid,.slice (c.gs.map iV) .none],.str p] h live (.tup [.agg (staC (statF T c p false).1),.int .i64 (statF T c p false).2]):=by
 refine aq_ Tryz.func109 fun hH hX=>?_
 refine rg_ [0,2,4,6] ?_
 refine rs_ [6,7] ?_
 refine sg_ ?_
 refine cl_ (hc:=c59 T k c p false _ _ (atApp hk) hT hgs hR hp) (k:=?_)
 refine srt_ ?_
 refine fq_ Tryz.results109 ?_
 exact rk_ rfl
theorem c110 (T:Tab) (k:Nat) (c:Cr) (p:List UInt8) (h:List Blk) (live:List Nat) (hk:h[k]? = some (tabBlk T)) (hT:T.Ok) (hgs:c.gs.length≤17592186044416) (hR:T.Rt) (hp:p.length≤9223372036854775807):AC Tryz.prog 110 [.ptr k 0,.agg [.int .i64 c.uid,.int .i64 c.gid,.slice (c.gs.map iV) .none],.str p] h live (.tup [.str (readlinkF T c p).1,.int .i64 (readlinkF T c p).2]):=by
 refine aq_ Tryz.func110 fun hH hX=>?_
 refine rg_ [0,2,4] ?_
 refine rs_ [0,8,9] ?_
 refine sg_ ?_
 refine cl_ (hc:=c109 T k c p _ _ (atApp hk) hT hgs hR hp) (k:=?_)
 refine sre_ ?_
 refine sk_ fun K1 hK1=>?_
 refine awp_block ?_
 refine rg_ [0,8,9,19] ?_
 refine cx_ (fun hb1=>?_) (fun hb1=>?_)
 ·
  refine rg_ [6,7] ?_
  refine ret_ ?_
  refine fq_ Tryz.results110 ?_
  exact rk_ (by unfold readlinkF;rw [if_pos hb1])
 refine rg_ [0,8,23] ?_
 refine cx_ (fun hb2=>?_) (fun hb2=>?_)
 ·
  refine rg_ [6,7] ?_
  refine ret_ ?_
  refine fq_ Tryz.results110 ?_
  exact rk_ (by unfold readlinkF;rw [if_neg (fun h=>h hb1),if_pos hb2])
 refine skp_ ?_
 refine hK1 _ ?_
 refine rs_ [10] ?_
 refine sg_ ?_
 refine cl_ (hc:=c23 T k _ _ _ (atApp hk) hT) (k:=?_)
 refine sre_ ?_
 refine rg_ [6,7] ?_
 refine ret_ ?_
 refine fq_ Tryz.results110 ?_
 exact rk_ (by unfold readlinkF;rw [if_neg (fun h=>h hb1),if_neg (fun h=>h hb2)])
theorem c111 (T:Tab) (k:Nat) (c:Cr) (p:List UInt8) (h:List Blk) (live:List Nat) (hk:h[k]? = some (tabBlk T)) (hT:T.Ok) (hgs:c.gs.length≤17592186044416) (hR:T.Rt) (hp:p.length≤9223372036854775807):AC Tryz.prog 111 [.ptr k 0,.agg [.int .i64 c.uid,.int .i64 c.gid,.slice (c.gs.map iV) .none],.str p] h live (.tup [.slice ((listF T c p).1.map .str) .none,.int .i64 (listF T c p).2]):=by
 refine aq_ Tryz.func111 fun hH hX=>?_
 refine rg_ [0,2,4] ?_
 refine rs_ [0,4,8,9] ?_
 refine sg_ ?_
 refine cl_ (hc:=c31 T k c p _ _ (atApp hk) hT hgs hR hp) (k:=?_)
 refine sre_ ?_
 refine sk_ fun K1 hK1=>?_
 refine awp_block ?_
 refine rg_ [0,4,8,9,19] ?_
 refine cx_ (fun hb1=>?_) (fun hb1=>?_)
 ·
  refine rg_ [6,7] ?_
  refine ret_ ?_
  refine fq_ Tryz.results111 ?_ (hcl:=(by simp [AV.cl,AV.clL,clL_str, -List.map_map]))
  exact rk_ (by unfold listF;rw [if_pos hb1]<;>rfl)
 refine rg_ [0,4,8,23] ?_
 refine cx_ (fun hb2=>?_) (fun hb2=>?_)
 ·
  refine rg_ [6,7] ?_
  refine ret_ ?_
  refine fq_ Tryz.results111 ?_ (hcl:=(by simp [AV.cl,AV.clL,clL_str, -List.map_map]))
  exact rk_ (by unfold listF;rw [if_neg (fun h=>h hb1),if_pos hb2]<;>rfl)
 obtain ⟨hdi,hdk⟩:=stat_dir (by decide) hb2
 obtain ⟨hrl,hrn⟩:=ris_names hdk (hR.get hdi)
 refine rs_ [0,8,27] ?_
 refine sg_ ?_
 refine cl_ (hc:=c128 T k c _ _ _ _ _ (atApp hk) hT hgs) (k:=?_)
 refine sre_ ?_
 refine cx_ (fun hb3=>?_) (fun hb3=>?_)
 ·
  refine rg_ [6,7] ?_
  refine ret_ ?_
  refine fq_ Tryz.results111 ?_ (hcl:=(by simp [AV.cl,AV.clL,clL_str, -List.map_map]))
  exact rk_ (by unfold listF;rw [if_neg (fun h=>h hb1),if_neg (fun h=>h hb2),if_pos hb3]<;>rfl)
 refine skp_ ?_
 refine hK1 _ ?_
 refine rs_ [10] ?_
 refine sg_ ?_
 refine cl_ (hc:=c23 T k _ _ _ (atApp hk) hT) (k:=?_)
 refine sre_ ?_
 refine rs_ [6,7] ?_
 refine sg_ ?_
 refine cl_ (hc:=c162 _ _ _ hrl hrn) (k:=?_)
 refine srt_ ?_
 refine fq_ Tryz.results111 ?_ (hcl:=(by simp [AV.cl,AV.clL,clL_str, -List.map_map]))
 exact rk_ (by unfold listF;rw [if_neg (fun h=>h hb1),if_neg (fun h=>h hb2),if_neg (by rw [hb3];decide)]<;>rfl)
end Go.Proofs.YtmgnbgniikjhdaaGreat
namespace Go.Proofs.YtmgnbgniikjhdaaGreat
open Go.Ab
set_option maxRecDepth 8000
set_option maxHeartbeats 400000
structure Fde where
 node:Int
 off:Int
 rd:Bool
 wr:Bool
 deriving DecidableEq
def fd0:Fde:=⟨0,0,false,false⟩
def fdC (f:Fde):List AV:=[.int .i64 f.node,.int .i64 f.off,.bool f.rd,.bool f.wr]
structure Pr where
 c:Cr
 um:Int
 f0:Fde
 f1:Fde
 f2:Fde
def Pr.fd (P:Pr):Nat→Fde
 | 0=>P.f0
 | 1=>P.f1
 | _=>P.f2
def Pr.put (P:Pr) (i:Nat) (f:Fde):Pr:=match i with
 | 0=>⟨P.c,P.um,f,P.f1,P.f2⟩
 | 1=>⟨P.c,P.um,P.f0,f,P.f2⟩
 | _=>⟨P.c,P.um,P.f0,P.f1,f⟩
def prC (P:Pr):List AV:=.int .i64 P.c.uid::.int .i64 P.c.gid::.slice (P.c.gs.map iV) .none::.int .i64 P.um::(fdC P.f0++(fdC P.f1++fdC P.f2))
structure Ca where
 kind:Int
 path:List UInt8
 other:List UInt8
 a:Int
 b:Int
 data:List UInt8
def caC (c:Ca):List AV:=[.int .i64 c.kind,.str c.path,.str c.other,.int .i64 c.a,.int .i64 c.b,.slice (c.data.map bV) .none]
structure Rs where
 err:Int
 n:Int
 st:Sta
 text:List UInt8
 names:List (List UInt8)
 data:List UInt8
def rsC (r:Rs):List AV:=.int .i64 r.err::.int .i64 r.n::(staC r.st++[.str r.text,.slice (r.names.map .str) .none,.slice (r.data.map bV) .none])
def tol (e:Int):Rs:=⟨e,0,sta0,[],[],[]⟩
def pB (kb:Nat) (n:Nat):List AV:=(List.range n).map fun i=>.ptr (kb+2*i) 0
structure SysAt (h:List Blk) (ks kt kb:Nat) (T:Tab) (ps:List Pr):Prop where
 s:h[ks]? = some (.cells [.ptr kt 0,.slice (pB kb ps.length) .none])
 t:h[kt]? = some (tabBlk T)
 p:∀i (hi:i<ps.length),h[kb+2*i]? = some (.cells (prC ps[i]))
 st:ks≠kt
 sb:ks<kb
 tb:kt<kb
 ok:T.Ok
 rt:T.Rt
 gs:∀P∈ps,P.c.gs.length≤17592186044416
 few:ps.length≤1000
theorem clL_prC (m:Nat) (P:Pr):AV.clL m (prC P):=⟨trivial,trivial,clL_iV _ _,trivial,trivial,trivial,trivial,trivial,trivial,trivial,trivial,trivial,trivial,trivial,trivial,trivial,trivial⟩
theorem clL_rsC (m:Nat) (r:Rs):AV.clL m (rsC r):=⟨trivial,trivial,trivial,trivial,trivial,trivial,trivial,trivial,trivial,trivial,clL_str _ _,clL_bV _ _,trivial⟩
theorem er_rsC (r:Rs):AV.erL (rsC r)=rsC r:=by
 show AV.int .i64 r.err::.int .i64 r.n::(staC r.st++[.str r.text,(AV.slice (r.names.map .str) .none).er,(AV.slice (r.data.map bV) .none).er])=_
 simp only [AV.er,erL_strs,erL_bV];rfl
theorem pB_len (kb n:Nat):(pB kb n).length=n:=by simp [pB]
theorem pB_get (kb n i:Nat) (h:i<n):(pB kb n)[i]? = some (.ptr (kb+2*i) 0):=by simp [pB,h]
theorem pB_getD (kb n i:Nat) (h:i<n):(pB kb n).getD i .undef=.ptr (kb+2*i) 0:=by rw [List.getD_eq_getElem?_getD,pB_get kb n i h];rfl
def arC (P:Pr):List AV:=fdC P.f0++(fdC P.f1++fdC P.f2)
theorem arC_len (P:Pr):(arC P).length=12:=rfl
theorem prC_len (P:Pr):(prC P).length=16:=rfl
theorem prC_arr (P:Pr):((prC P).drop 4).take 12=arC P:=rfl
theorem prC_3 (P:Pr):(prC P)[3]? = some (.int .i64 P.um):=rfl
theorem prC_cr (P:Pr):(prC P).take 3=[.int .i64 P.c.uid,.int .i64 P.c.gid,.slice (P.c.gs.map iV) .none]:=rfl
theorem caC_len (c:Ca):(caC c).length=6:=rfl
theorem caC_0 (c:Ca):(caC c)[0]? = some (.int .i64 c.kind):=rfl
theorem caC_1 (c:Ca):(caC c)[1]? = some (.str c.path):=rfl
theorem caC_2 (c:Ca):(caC c)[2]? = some (.str c.other):=rfl
theorem caC_3 (c:Ca):(caC c)[3]? = some (.int .i64 c.a):=rfl
theorem caC_4 (c:Ca):(caC c)[4]? = some (.int .i64 c.b):=rfl
theorem caC_5 (c:Ca):(caC c)[5]? = some (.slice (c.data.map bV) .none):=rfl
attribute [push_cast] pB_len arC_len prC_len prC_arr prC_3 prC_cr caC_len caC_0 caC_1 caC_2 caC_3 caC_4 caC_5
theorem arC_fd (P:Pr) {j:Nat} (hj:j<3):((arC P).drop (j*4)).take 4=fdC (P.fd j):=by
 rcases (show j=0∨j=1∨j=2 by omega) with rfl | rfl | rfl<;>rfl
def prO (P:Pr) (j:Nat):List Int:=((List.range j).filter fun i=>decide ((P.fd i).node≠0)).map fun i=>(P.fd i).node
theorem prO_y {P:Pr} {j:Nat} (h:(P.fd j).node≠0):prO P (j+1)=prO P j++[(P.fd j).node]:=by
 unfold prO;rw [List.range_succ,List.filter_append,List.map_append];simp [h]
theorem prO_n {P:Pr} {j:Nat} (h:(P.fd j).node=0):prO P (j+1)=prO P j:=by
 unfold prO;rw [List.range_succ,List.filter_append,List.map_append];simp [h]
def openL (ps:List Pr):List Int:=ps.flatMap fun P=>prO P 3
theorem openL_succ {ps:List Pr} {i:Nat} {P:Pr} (hi:i<ps.length) (hP:ps[i]=P):openL (ps.take i)++prO P 3=openL (ps.take (i+1)):=by
 unfold openL
 rw [List.take_succ_eq_append_getElem hi,List.flatMap_append,hP];simp
theorem prO_len (P:Pr) (j:Nat):(prO P j).length≤j:=by
 unfold prO;rw [List.length_map]
 exact Nat.le_trans (List.length_filter_le _ _) (by simp)
theorem openL_len (ps:List Pr):(openL ps).length≤3*ps.length:=by
 induction ps with
 | nil=>exact Nat.le_refl _
 | cons P r ih=>
  show (prO P 3++openL r).length≤_
  have:=prO_len P 3
  rw [List.length_append,List.length_cons];omega
theorem clL_arC (m:Nat) (P:Pr):AV.clL m (arC P):=⟨trivial,trivial,trivial,trivial,trivial,trivial,trivial,trivial,trivial,trivial,trivial,trivial,trivial⟩
theorem clL_all {m:Nat}:∀ {l:List AV},(∀x∈l,x.cl m)→AV.clL m l
 | [], _=>trivial
 | x::r,h=>⟨h x List.mem_cons_self,clL_all fun y hy=>h y (List.mem_cons_of_mem _ hy)⟩
theorem SysAt.pcl {h:List Blk} {ks kt kb:Nat} {T:Tab} {ps:List Pr} (hs:SysAt h ks kt kb T ps):AV.clL h.length (pB kb ps.length):=by
 refine clL_all fun x hx=>?_
 obtain ⟨i,hi,rfl⟩:=List.mem_map.1 hx
 exact (List.getElem?_eq_some_iff.1 (hs.p i (List.mem_range.1 hi))).1
theorem iV_snoc (l:List Int) (x:Int):l.map iV++[.int .i64 x]=(l++[x]).map iV:=by simp [iV]
attribute [push_cast] clL_prC clL_rsC er_rsC clL_arC clL_all
theorem c70 (e:Int) (h:List Blk) (live:List Nat):AC Tryz.prog 70 [.int .i64 e] h live (.agg (rsC (tol e))):=by
 refine aq_ Tryz.func70 fun hH hX=>?_
 refine rg_ [0,2] ?_
 refine rg_ [2] ?_
 refine ret_ ?_
 refine fq_ Tryz.results70 ?_
 exact rk_ rfl
theorem n69 (ks kt kb:Nat) (T:Tab) (ps:List Pr) (h:List Blk) (live:List Nat) (hs:SysAt h ks kt kb T ps) (pid:Int) (hp:pid<0∨(ps.length:Int)≤pid):AC Tryz.prog 69 [.ptr ks 0,.int .i64 pid] h live (.raw (.pointer none)):=by
 refine aq_ Tryz.func69 fun hH hX=>?_
 have hks:=hs.s
 have hkl:=lt_of_get hks
 have hfw:=hs.few
 have sx:=(And.intro @hks sx0)
 refine rg_ [0,1] ?_
 refine sk_ fun K1 hK1=>?_
 refine rg_ [0,1,19] ?_
 refine cx_ (fun hb1=>?_) (fun hb1=>?_)
 ·
  refine rg_ [4] ?_
  refine ret_ ?_
  refine fq_ Tryz.results69 ?_
  exact rk_ rfl
 exfalso;omega
theorem c69 (ks kt kb:Nat) (T:Tab) (ps:List Pr) (h:List Blk) (live:List Nat) (hs:SysAt h ks kt kb T ps) (pid:Nat) (hp:pid<ps.length):AC Tryz.prog 69 [.ptr ks 0,.int .i64 (pid:Nat)] h live (.ptr (kb+2*pid) 0):=by
 refine aq_ Tryz.func69 fun hH hX=>?_
 have hks:=hs.s
 have hkl:=lt_of_get hks
 have hfw:=hs.few
 have hpb:=pB_getD kb ps.length pid hp
 have hpg:=pB_get kb ps.length pid hp
 have hbl:=lt_of_get (hs.p pid hp)
 have sx:=(And.intro @hks (And.intro @hpb (And.intro @hpg sx0)))
 refine rg_ [0,1] ?_
 refine sk_ fun K1 hK1=>?_
 refine rg_ [0,1,19] ?_
 refine cdn_ (ht:=fun hb1=>?_) (hf:=fun hb1=>?_)
 ·
  exfalso
  simp at hb1
  omega
 refine skp_ ?_
 refine hK1 _ ?_
 refine rg_ [4] ?_
 refine ret_ ?_
 refine fq_ Tryz.results69 ?_
 exact rk_ rfl
theorem n105 (kp:Nat) (i:Int) (h:List Blk) (live:List Nat) (hkp:kp<h.length) (hi:i<0∨3≤i):AC Tryz.prog 105 [.ptr kp 0,.int .i64 i] h live (.raw (.pointer none)):=by
 refine aq_ Tryz.func105 fun hH hX=>?_
 refine rg_ [0,1] ?_
 refine sk_ fun K1 hK1=>?_
 refine rg_ [0,1,14] ?_
 refine cx_ (fun hb1=>?_) (fun hb1=>?_)
 ·
  refine rg_ [4] ?_
  refine ret_ ?_
  refine fq_ Tryz.results105 ?_
  exact rk_ rfl
 exfalso;omega
theorem c105 (kp i:Nat) (h:List Blk) (live:List Nat) (hkp:kp<h.length) (hi:i<3):AC Tryz.prog 105 [.ptr kp 0,.int .i64 (i:Nat)] h live (.ptr kp (4+i*4)):=by
 refine aq_ Tryz.func105 fun hH hX=>?_
 refine rg_ [0,1] ?_
 refine sk_ fun K1 hK1=>?_
 refine rg_ [0,1,14] ?_
 refine cdn_ (ht:=fun hb1=>?_) (hf:=fun hb1=>?_)
 ·
  exfalso
  simp at hb1
  omega
 refine skp_ ?_
 refine hK1 _ ?_
 refine rg_ [4] ?_
 refine ret_ ?_
 refine fq_ Tryz.results105 ?_
 exact rk_ rfl
theorem c20 (ks kt kb:Nat) (T:Tab) (ps:List Pr) (h:List Blk) (live:List Nat) (hs:SysAt h ks kt kb T ps):AC Tryz.prog 20 [.ptr ks 0] h live (.slice ((openL ps).map iV) .none):=by
 refine aq_ Tryz.func20 fun hH hX=>?_
 have hks:=hs.s
 have hkl:=lt_of_get hks
 have hfw:=hs.few
 have hol:=openL_len ps
 have hpc:=hs.pcl
 have hol2:=fun i=>openL_len (ps.take i)
 have hpo:=fun (P:Pr) j=>prO_len P j
 have sx:=(And.intro @hks sx0)
 refine rg_ [0] ?_
 refine sk_ fun K1 hK1=>?_
 refine rg_ [0,9] ?_
 refine cdn_ (ht:=fun hb1=>?_) (hf:=fun hb1=>?_)
 · exfalso;exact Bool.noConfusion hb1
 refine skp_ ?_
 refine hK1 _ ?_
 refine rg_ [0,3] ?_
 refine sk_ fun K2 hK2=>?_
 refine rg_ [3,13,14,15] ?_
 refine awp_block ?_
 refine lp_ (X:={p:Nat×Cap×List Nat // p.1≤ps.length∧CapOK p.2.2 p.2.1∧∀u∈live,u∈p.2.2∧p.2.1≠.own u}) (fun x=>⟨Tryz.f20.ntmps,fget [(3,.slice ((openL (ps.take x.1.1)).map iV) x.1.2.1),(13,.slice (pB kb ps.length) .none),(14,.int .i64 ps.length),(15,.int .i64 (x.1.1:Nat))],h,x.1.2.2⟩) (fun x=>ps.length - x.1.1) (⟨⟨0,.full,live⟩,Nat.zero_le _,.inl rfl,fun u hu=>⟨hu,Cap.noConfusion⟩⟩) ?_ (fun ⟨⟨i,c,live'⟩,hi,hc,hlv⟩=>?_)
 ·
  try dsimp only
  refine Trunc.of (by first | exact (List.append_nil _).symm | exact rfl | (rw [List.append_assoc];rfl)) ?_ hH (fun _ h=>h)
  refine ftc_ ?_ (hc:=by first | exact hpc | exact trivial | simp [AV.cl,AV.clL,clL_iV, -List.map_map, -List.map_append, -List.map_take])
  refine ftc_ ?_ (hc:=by first | exact hpc | exact trivial | simp [AV.cl,AV.clL,clL_iV, -List.map_map, -List.map_append, -List.map_take])
  refine ftc_ ?_ (hc:=by first | exact hpc | exact trivial | simp [AV.cl,AV.clL,clL_iV, -List.map_map, -List.map_append, -List.map_take])
  refine ftc_ ?_ (hc:=by first | exact hpc | exact trivial | simp [AV.cl,AV.clL,clL_iV, -List.map_map, -List.map_append, -List.map_take])
  exact FTr.nil
 try dsimp only
 dsimp only at hi hc hlv
 refine rg_ [3,13,14,15,16] ?_
 refine sk_ fun K3 hK3=>?_
 refine cx_ (fun hb2=>?_) (fun hb2=>?_)
 rotate_left
 ·
  have hie:i=ps.length:=by omega
  subst hie
  have htk:ps.take ps.length=ps:=List.take_length
  have sx:=And.intro htk sx
  refine awp_exit (up_ ?_)
  refine hK2 _ ?_
  refine rg_ [2] ?_
  refine ret_ ?_
  refine fq_ Tryz.results20 ?_ (hcl:=(by simp [AV.cl,AV.clL,clL_iV, -List.map_map])) (hl:=(fun u hu=>(hlv u hu).1))
  exact rk_ rfl
 have hil:i<ps.length:=by omega
 obtain ⟨P,hP⟩:∃P,ps[i]=P:=⟨_,rfl⟩
 have hpp:=hs.p i hil
 rw [hP] at hpp
 have hpl:=lt_of_get hpp
 have hpb:=pB_getD kb ps.length i hil
 have hpg:=pB_get kb ps.length i hil
 have sx:=And.intro hpp (And.intro hpb (And.intro hpg sx))
 refine skp_ ?_
 refine hK3 _ ?_
 refine sk_ fun K4 hK4=>?_
 refine awp_block ?_
 refine rg_ [3,5,13,14,15] ?_
 refine rg_ [3,13,14,15,22,23] ?_
 refine awp_block ?_
 refine lp_ (X:={p:Nat×Cap×List Nat // p.1≤3∧CapOK p.2.2 p.2.1∧∀u∈live,u∈p.2.2∧p.2.1≠.own u}) (fun x=>⟨Tryz.f20.ntmps,fget [(3,.slice ((openL (ps.take i)++prO P x.1.1).map iV) x.1.2.1),(13,.slice (pB kb ps.length) .none),(14,.int .i64 ps.length),(15,.int .i64 (i:Nat)),(22,.agg (arC P)),(23,.int .i64 (x.1.1:Nat))],h,x.1.2.2⟩) (fun x=>3 - x.1.1) (⟨⟨0,c,live'⟩,Nat.zero_le _,hc,hlv⟩) ?_ (fun ⟨⟨j,c2,live2⟩,hj,hc2,hlv2⟩=>?_)
 ·
  try dsimp only
  refine Trunc.of (by first | exact (List.append_nil _).symm | exact rfl | (rw [List.append_assoc];rfl)) ?_ hH (fun _ h=>h)
  refine FTr.cons (by show AV.slice (List.map iV (openL (List.take i ps))) c=_;rw [show prO P 0=[] from rfl,List.append_nil]) (by exact clL_iV _ _) ?_
  refine ftc_ ?_ (hc:=by first | exact hpc | exact trivial | exact clL_arC _ _ | simp [AV.cl,AV.clL,clL_iV, -List.map_map, -List.map_append, -List.map_take])
  refine ftc_ ?_ (hc:=by first | exact hpc | exact trivial | exact clL_arC _ _ | simp [AV.cl,AV.clL,clL_iV, -List.map_map, -List.map_append, -List.map_take])
  refine ftc_ ?_ (hc:=by first | exact hpc | exact trivial | exact clL_arC _ _ | simp [AV.cl,AV.clL,clL_iV, -List.map_map, -List.map_append, -List.map_take])
  refine ftc_ ?_ (hc:=by first | exact hpc | exact trivial | exact clL_arC _ _ | simp [AV.cl,AV.clL,clL_iV, -List.map_map, -List.map_append, -List.map_take])
  refine ftc_ ?_ (hc:=by first | exact hpc | exact trivial | exact clL_arC _ _ | simp [AV.cl,AV.clL,clL_iV, -List.map_map, -List.map_append, -List.map_take])
  exact FTr.nil
 try dsimp only
 dsimp only at hj hc2 hlv2
 refine rg_ [3,13,14,15,22,23,24] ?_
 refine sk_ fun K5 hK5=>?_
 refine cx_ (fun hb3=>?_) (fun hb3=>?_)
 rotate_left
 ·
  have hje:j=3:=by omega
  subst hje
  have hos:=openL_succ hil hP
  have sx:=And.intro hos sx
  refine awp_exit (up_ ?_)
  refine hK4 _ ?_
  refine rt_ [3,13,14,15] ?_
  refine srn_ ?_
  refine ln_ ⟨⟨i+1,c2,live2⟩,by dsimp only;omega,hc2,hlv2⟩ ?_
  try dsimp only
  refine Trunc.of (by first | exact (List.append_nil _).symm | exact rfl | (rw [List.append_assoc];rfl)) ?_ hH (fun _ h=>h)
  refine ftc_ ?_ (hc:=by first | exact hpc | exact trivial | simp [AV.cl,AV.clL,clL_iV, -List.map_map, -List.map_append, -List.map_take])
  refine ftc_ ?_ (hc:=by first | exact hpc | exact trivial | simp [AV.cl,AV.clL,clL_iV, -List.map_map, -List.map_append, -List.map_take])
  refine ftc_ ?_ (hc:=by first | exact hpc | exact trivial | simp [AV.cl,AV.clL,clL_iV, -List.map_map, -List.map_append, -List.map_take])
  refine ftc_ ?_ (hc:=by first | exact hpc | exact trivial | simp [AV.cl,AV.clL,clL_iV, -List.map_map, -List.map_append, -List.map_take])
  exact FTr.nil
 have ha1:=hol2 i
 have ha2:=hpo P j
 rw [List.length_take] at ha1
 have hfd:=arC_fd P (j:=j) (by omega)
 have sx:=And.intro hfd sx
 refine skp_ ?_
 refine hK5 _ ?_
 refine sk_ fun K6 hK6=>?_
 refine awp_block ?_
 refine rg_ [3,7,13,14,15,22,23] ?_
 refine rg_ [3,7,13,14,15,22,23,28] ?_
 refine cx_ (fun hb4=>?_) (fun hb4=>?_)
 ·
  have hpr:=prO_y hb4
  have sx:=And.intro hpr sx
  refine rt_ [3,13,14,15,22,23] ?_
  refine sg_ ?_
  refine ap_ (a:=hc2) (b:=cells_iV _) (c':=by simp [AV.cells]) (d:=by simp;omega) (e:=by simp;omega) (k:=?_)
  intro c33 live33 hk33
  refine srn_ ?_
  refine hK6 _ ?_
  refine rt_ [3,13,14,15,22,23] ?_
  refine srn_ ?_
  refine ln_ ⟨⟨j+1,c33,live33⟩,by dsimp only;omega,hk33.1,fun u hu=>hk33.2 u (hlv2 u hu).1 (hlv2 u hu).2⟩ ?_
  try dsimp only
  refine Trunc.of (by first | exact (List.append_nil _).symm | exact rfl | (rw [List.append_assoc];rfl)) ?_ hH (fun _ h=>h)
  refine FTr.cons (by show _=AV.slice (List.map iV (openL (List.take i ps)++prO P (j+1))) _;rw [hpr];first | rfl | (rw [←List.append_assoc,←iV_snoc];rfl)) (by exact clL_iV _ _) ?_
  refine ftc_ ?_ (hc:=by first | exact hpc | exact trivial | exact clL_arC _ _ | simp [AV.cl,AV.clL,clL_iV, -List.map_map, -List.map_append, -List.map_take])
  refine ftc_ ?_ (hc:=by first | exact hpc | exact trivial | exact clL_arC _ _ | simp [AV.cl,AV.clL,clL_iV, -List.map_map, -List.map_append, -List.map_take])
  refine ftc_ ?_ (hc:=by first | exact hpc | exact trivial | exact clL_arC _ _ | simp [AV.cl,AV.clL,clL_iV, -List.map_map, -List.map_append, -List.map_take])
  refine ftc_ ?_ (hc:=by first | exact hpc | exact trivial | exact clL_arC _ _ | simp [AV.cl,AV.clL,clL_iV, -List.map_map, -List.map_append, -List.map_take])
  refine ftc_ ?_ (hc:=by first | exact hpc | exact trivial | exact clL_arC _ _ | simp [AV.cl,AV.clL,clL_iV, -List.map_map, -List.map_append, -List.map_take])
  exact FTr.nil
 have hpr:=prO_n hb4
 have sx:=And.intro hpr sx
 refine skp_ ?_
 refine hK6 _ ?_
 refine rt_ [3,13,14,15,22,23] ?_
 refine srn_ ?_
 refine ln_ ⟨⟨j+1,c2,live2⟩,by dsimp only;omega,hc2,hlv2⟩ ?_
 try dsimp only
 refine Trunc.of (by first | exact (List.append_nil _).symm | exact rfl | (rw [List.append_assoc];rfl)) ?_ hH (fun _ h=>h)
 refine FTr.cons (by show _=AV.slice (List.map iV (openL (List.take i ps)++prO P (j+1))) _;rw [hpr];first | rfl | (rw [←List.append_assoc,←iV_snoc];rfl)) (by exact clL_iV _ _) ?_
 refine ftc_ ?_ (hc:=by first | exact hpc | exact trivial | exact clL_arC _ _ | simp [AV.cl,AV.clL,clL_iV, -List.map_map, -List.map_append, -List.map_take])
 refine ftc_ ?_ (hc:=by first | exact hpc | exact trivial | exact clL_arC _ _ | simp [AV.cl,AV.clL,clL_iV, -List.map_map, -List.map_append, -List.map_take])
 refine ftc_ ?_ (hc:=by first | exact hpc | exact trivial | exact clL_arC _ _ | simp [AV.cl,AV.clL,clL_iV, -List.map_map, -List.map_append, -List.map_take])
 refine ftc_ ?_ (hc:=by first | exact hpc | exact trivial | exact clL_arC _ _ | simp [AV.cl,AV.clL,clL_iV, -List.map_map, -List.map_append, -List.map_take])
 refine ftc_ ?_ (hc:=by first | exact hpc | exact trivial | exact clL_arC _ _ | simp [AV.cl,AV.clL,clL_iV, -List.map_map, -List.map_append, -List.map_take])
 exact FTr.nil
end Go.Proofs.YtmgnbgniikjhdaaGreat
namespace Go.Proofs.YtmgnbgniikjhdaaGreat
open Go.Ab
set_option maxRecDepth 8000
set_option maxHeartbeats 400000
theorem prC_fd (P:Pr) {i:Nat} (hi:i<3):((prC P).drop (4+i*4)).take 4=fdC (P.fd i):=by
 rcases (show i=0∨i=1∨i=2 by omega) with rfl | rfl | rfl<;>rfl
theorem prC_el (P:Pr) {i q:Nat} (hi:i<3) (hq:q<4):(prC P)[4+i*4+q]? = (fdC (P.fd i))[q]? := by
 rcases (show i=0∨i=1∨i=2 by omega) with rfl | rfl | rfl<;>rcases (show q=0∨q=1∨q=2∨q=3 by omega) with rfl | rfl | rfl | rfl<;>rfl
def pr0:Pr:=⟨⟨0,0,[]⟩,0,fd0,fd0,fd0⟩
def umQ (ps:List Pr) (pid:Int):Int:=if 0≤pid∧pid<ps.length then (ps.getD pid.toNat pr0).um else 0
def fdQ (ps:List Pr) (pid i:Int):Fde:=if (0≤pid∧pid<ps.length)∧0≤i∧i<3 then (ps.getD pid.toNat pr0).fd i.toNat else fd0
theorem SysAt.app {h g:List Blk} {ks kt kb:Nat} {T:Tab} {ps:List Pr} (hs:SysAt h ks kt kb T ps):SysAt (h++g) ks kt kb T ps:=
 ⟨atApp hs.s,atApp hs.t,fun i hi=>atApp (hs.p i hi),hs.st,hs.sb,hs.tb,hs.ok,hs.rt,hs.gs,hs.few⟩
theorem SysAt.pd {h:List Blk} {ks kt kb:Nat} {T:Tab} {ps:List Pr} (hs:SysAt h ks kt kb T ps) {i:Nat} (hi:i<ps.length):h[kb+2*i]? = some (.cells (prC (ps.getD i pr0))):=by
 have:=hs.p i hi
 rw [List.getD_eq_getElem?_getD,List.getElem?_eq_getElem hi];exact this
theorem SysAt.gd {h:List Blk} {ks kt kb:Nat} {T:Tab} {ps:List Pr} (hs:SysAt h ks kt kb T ps) {i:Nat} (hi:i<ps.length):(ps.getD i pr0).c.gs.length≤17592186044416:=by
 rw [List.getD_eq_getElem?_getD,List.getElem?_eq_getElem hi];exact hs.gs _ (List.getElem_mem hi)
theorem er_fdC (f:Fde):AV.erL (fdC f)=fdC f:=rfl
theorem clL_fdC (m:Nat) (f:Fde):AV.clL m (fdC f):=⟨trivial,trivial,trivial,trivial,trivial⟩
theorem fdC_len (f:Fde):(fdC f).length=4:=rfl
theorem fdC_t (f:Fde):(fdC f).take 4=fdC f:=rfl
theorem fdC_p (a b c d:AV) (f:Fde):putAt [a,b,c,d] 0 (fdC f)=fdC f:=rfl
attribute [push_cast] fdC_len fdC_t fdC_p
attribute [push_cast] er_fdC clL_fdC
theorem c13 (ks kt kb:Nat) (T:Tab) (ps:List Pr) (h:List Blk) (live:List Nat) (hs:SysAt h ks kt kb T ps):ACalls Tryz.prog 13 [.ptr ks 0] h live (ret (.ptr h.length 0) (h++[tabBlk T]) live):=by
 refine aq_ Tryz.func13 fun hH hX=>?_
 have hks:=hs.s
 have hkl:=lt_of_get hks
 have hkt:=hs.t
 have hktl:=lt_of_get hkt
 have hB:=hcl_new hH T
 have sx:=(And.intro @hks sx0)
 refine rg_ [0] ?_
 refine sk_ fun K1 hK1=>?_
 refine rg_ [0,4] ?_
 refine cdn_ (ht:=fun hb1=>?_) (hf:=fun hb1=>?_)
 · exfalso;exact Bool.noConfusion hb1
 refine skp_ ?_
 refine hK1 _ ?_
 refine rs_ [2] ?_
 refine sg_ ?_
 refine cl_ (hc:=c41 T kt _ _ hkt hs.ok) (k:=?_)
 refine srt_ ?_
 refine gq_ (h1:=h++[tabBlk T]) Tryz.results13 ?_ (hH:=hB)
 exact rk_ rfl
theorem z105 (i:Int) (h:List Blk) (live:List Nat):AC Tryz.prog 105 [.raw (.pointer none),.int .i64 i] h live (.raw (.pointer none)):=by
 refine aq_ Tryz.func105 fun hH hX=>?_
 refine rg_ [0,1] ?_
 refine sk_ fun K1 hK1=>?_
 refine rg_ [0,1,14] ?_
 refine cdy_ (ht:=fun hb1=>?_) (hf:=fun hb1=>?_)
 ·
  refine rg_ [4] ?_
  refine ret_ ?_
  refine fq_ Tryz.results105 ?_
  exact rk_ rfl
 exfalso
 simp at hb1
end Go.Proofs.YtmgnbgniikjhdaaGreat
namespace Go.Proofs.YtmgnbgniikjhdaaGreat
open Go.Ab
set_option maxRecDepth 8000
set_option maxHeartbeats 400000
def maskF (P:Pr) (ca:Ca):Rs×Pr:=(⟨0,P.um,sta0,[],[],[]⟩,⟨P.c,bits .and .i64 ca.a 511,P.f0,P.f1,P.f2⟩)
def askF (T:Tab) (P:Pr) (ca:Ca):Rs:=
 if ca.kind=1 then ⟨(statF T P.c ca.path true).2,0,(statF T P.c ca.path true).1,[],[],[]⟩
 else if ca.kind=2 then ⟨(statF T P.c ca.path false).2,0,(statF T P.c ca.path false).1,[],[],[]⟩
 else if ca.kind=3 then ⟨(readlinkF T P.c ca.path).2,0,sta0,(readlinkF T P.c ca.path).1,[],[]⟩
 else ⟨(listF T P.c ca.path).2,0,sta0,[],(listF T P.c ca.path).1,[]⟩
theorem prC_s3 (P:Pr) (m:Int):(prC P).set 3 (.int .i64 m)=prC ⟨P.c,m,P.f0,P.f1,P.f2⟩:=rfl
theorem caC_t (c:Ca):(caC c).take 6=caC c:=rfl
attribute [push_cast] prC_s3 caC_t
theorem rs_put (a b c0 c1 c2 c3 c4 c5 c6 t n d x0 x1 x2 x3 x4 x5 x6:AV):putAt [a,b,c0,c1,c2,c3,c4,c5,c6,t,n,d] 2 [x0,x1,x2,x3,x4,x5,x6]=[a,b,x0,x1,x2,x3,x4,x5,x6,t,n,d]:=rfl
theorem rs_take (a b c0 c1 c2 c3 c4 c5 c6 t n d:AV):[a,b,c0,c1,c2,c3,c4,c5,c6,t,n,d].take 12=[a,b,c0,c1,c2,c3,c4,c5,c6,t,n,d]:=rfl
theorem rs_all (a b c0 c1 c2 c3 c4 c5 c6 t n d a' b' c0' c1' c2' c3' c4' c5' c6' t' n' d':AV):putAt [a,b,c0,c1,c2,c3,c4,c5,c6,t,n,d] 0 [a',b',c0',c1',c2',c3',c4',c5',c6',t',n',d']=[a',b',c0',c1',c2',c3',c4',c5',c6',t',n',d']:=rfl
theorem sta_eq (s:Sta):staC s=[.int .i64 s.node,.int .i64 s.kind,.int .i64 s.mode,.int .i64 s.uid,.int .i64 s.gid,.int .i64 s.links,.int .i64 s.size]:=rfl
attribute [push_cast] rs_put rs_take rs_all
theorem c75 (s:AV) (h:List Blk) (live:List Nat) (kp:Nat) (P:Pr) (ca:Ca) (hkp:h[kp]? = some (.cells (prC P))):ACalls Tryz.prog 75 [s,.ptr kp 0,.agg (caC ca)] h live (ret (.agg (rsC (maskF P ca).1)) (h.set kp (.cells (prC (maskF P ca).2))) live):=by
 refine aq_ Tryz.func75 fun hH hX=>?_
 have hkl:=lt_of_get hkp
 have hpq:=fun g:List Blk=>atApp (g:=g) hkp
 have hs1:∀(y:Blk) (g:List Blk),(h++g).set kp y=h.set kp y++g:=fun y g=>setApp hkp
 have sx:=(And.intro @hpq (And.intro @hs1 sx0))
 refine rg_ [1,5,6] ?_
 refine rg_ [1,5,6,7] ?_
 refine rg_ [6,7] ?_
 refine rg_ [6] ?_
 refine ret_ ?_
 refine gq_ (h1:=h.set kp _) Tryz.results75 ?_ (hh:=(⟨_,rfl⟩)) (hH:=(HCl.set hH kp (clL_prC _ _)))
 exact rk_ rfl
theorem c77 (ks kt kb:Nat) (T:Tab) (ps:List Pr) (h:List Blk) (live:List Nat) (hs:SysAt h ks kt kb T ps) (kp:Nat) (P:Pr) (ca:Ca) (hkp:h[kp]? = some (.cells (prC P))) (hgs:P.c.gs.length≤17592186044416) (hpath:ca.path.length≤1000):AC Tryz.prog 77 [.ptr ks 0,.ptr kp 0,.agg (caC ca)] h live (.agg (rsC (askF T P ca))):=by
 refine aq_ Tryz.func77 fun hH hX=>?_
 have hks:=hs.s
 have hkt:=hs.t
 have hkl:=lt_of_get hks
 have hktl:=lt_of_get hkt
 have hkpl:=lt_of_get hkp
 have hpq:=fun g:List Blk=>atApp (g:=g) hkp
 have hksg:=fun g:List Blk=>atApp (g:=g) hks
 have sx:=(And.intro @hpq (And.intro @hksg (And.intro @sta_eq sx0)))
 refine rg_ [0,1,5,6] ?_
 refine sk_ fun K1 hK1=>?_
 refine rg_ [0,1,5,6,8] ?_
 refine awp_block ?_
 refine rg_ [0,1,5,6,8,25] ?_
 refine cx_ (fun hb1=>?_) (fun hb1=>?_)
 ·
  refine rtq_ [6] ⟨true,[],[],[],[],[],0⟩ (fun _=>⟨by kernel_rfl,by kernel_rfl⟩) ?_
  refine sg_ ?_
  refine cr_ (hc:=c31 T kt P.c ca.path _ _ (atApp hkt) hs.ok (by omega) hs.rt (by omega)) (k:=?_)
  refine srn_ ?_
  refine hK1 _ ?_
  refine rg_ [6] ?_
  refine ret_ ?_
  refine fq_ Tryz.results77 ?_ (hcl:=(by simp [AV.cl,AV.clL,clL_str,clL_bV, -List.map_map]))
  exact rk_ (by unfold askF;rw [if_pos hb1];rfl)
 refine rg_ [0,1,5,6,8,43] ?_
 refine cx_ (fun hb2=>?_) (fun hb2=>?_)
 ·
  refine rtq_ [6] ⟨true,[],[],[],[],[],0⟩ (fun _=>⟨by kernel_rfl,by kernel_rfl⟩) ?_
  refine sg_ ?_
  refine cr_ (hc:=c109 T kt P.c ca.path _ _ (atApp hkt) hs.ok (by omega) hs.rt (by omega)) (k:=?_)
  refine srn_ ?_
  refine hK1 _ ?_
  refine rg_ [6] ?_
  refine ret_ ?_
  refine fq_ Tryz.results77 ?_ (hcl:=(by simp [AV.cl,AV.clL,clL_str,clL_bV, -List.map_map]))
  exact rk_ (by unfold askF;rw [if_neg hb1,if_pos hb2];rfl)
 refine rg_ [0,1,5,6,61] ?_
 refine cx_ (fun hb3=>?_) (fun hb3=>?_)
 ·
  refine rtq_ [6] ⟨true,[],[],[],[],[],0⟩ (fun _=>⟨by kernel_rfl,by kernel_rfl⟩) ?_
  refine sg_ ?_
  refine cr_ (hc:=c110 T kt P.c ca.path _ _ (atApp hkt) hs.ok (by omega) hs.rt (by omega)) (k:=?_)
  refine srn_ ?_
  refine hK1 _ ?_
  refine rg_ [6] ?_
  refine ret_ ?_
  refine fq_ Tryz.results77 ?_ (hcl:=(by simp [AV.cl,AV.clL,clL_str,clL_bV, -List.map_map]))
  exact rk_ (by unfold askF;rw [if_neg hb1,if_neg hb2,if_pos hb3];rfl)
 refine rtq_ [6] ⟨true,[],[],[],[],[],0⟩ (fun _=>⟨by kernel_rfl,by kernel_rfl⟩) ?_
 refine sg_ ?_
 refine cr_ (hc:=c111 T kt P.c ca.path _ _ (atApp hkt) hs.ok (by omega) hs.rt (by omega)) (k:=?_)
 refine srn_ ?_
 refine hK1 _ ?_
 refine rg_ [6] ?_
 refine ret_ ?_
 refine fq_ Tryz.results77 ?_ (hcl:=(by simp [AV.cl,AV.clL,clL_str,clL_bV, -List.map_map]))
 exact rk_ (by unfold askF;rw [if_neg hb1,if_neg hb2,if_neg hb3];rfl)
end Go.Proofs.YtmgnbgniikjhdaaGreat
namespace Go.Proofs.YtmgnbgniikjhdaaGreat
open Go.Ab
set_option maxRecDepth 8000
set_option maxHeartbeats 400000
theorem SysAt.same {h h':List Blk} {ks kt kb:Nat} {T:Tab} {ps:List Pr} (hs:SysAt h ks kt kb T ps) (he:∀i,i<h.length→h'[i]? = h[i]?):SysAt h' ks kt kb T ps:=
 ⟨by rw [he _ (lt_of_get hs.s)];exact hs.s,by rw [he _ (lt_of_get hs.t)];exact hs.t,fun i hi=>by rw [he _ (lt_of_get (hs.p i hi))];exact hs.p i hi,hs.st,hs.sb,hs.tb,hs.ok,hs.rt,hs.gs,hs.few⟩
def chaF (T:Tab) (P:Pr) (ca:Ca) (o:List Int):Int×Tab:=
 if ca.kind=5 then chmodF T P.c ca.path ca.a
 else if ca.kind=8 then mkdirF T P.c P.um ca.path ca.a
 else if ca.kind=9 then symlinkF T P.c ca.other ca.path
 else if ca.kind=10 then unlinkF T P.c ca.path o
 else if ca.kind=11 then rmdirF T P.c ca.path
 else if ca.kind=12 then renameF T P.c ca.path ca.other o
 else chownF T P.c ca.path ca.a ca.b (decide (ca.kind=6))
theorem rsC_len (r:Rs):(rsC r).length=12:=rfl
theorem rsC_t (r:Rs):(rsC r).take 12=rsC r:=rfl
theorem rsC_p (a b c0 c1 c2 c3 c4 c5 c6 t n d:AV) (r:Rs):putAt [a,b,c0,c1,c2,c3,c4,c5,c6,t,n,d] 0 (rsC r)=rsC r:=rfl
attribute [push_cast] rsC_len rsC_t rsC_p
theorem c78 (ks kt kb:Nat) (T:Tab) (ps:List Pr) (h:List Blk) (live:List Nat) (hy:SysAt h ks kt kb T ps) (kp:Nat) (P:Pr) (ca:Ca) (hkp:h[kp]? = some (.cells (prC P))) (hgs:P.c.gs.length≤17592186044416) (hpath:ca.path.length≤1000) (hoth:ca.other.length≤1000):ACalls Tryz.prog 78 [.ptr ks 0,.ptr kp 0,.agg (caC ca)] h live (ret (.agg (rsC (tol (chaF T P ca (openL ps)).1))) (h.set kt (tabBlk (chaF T P ca (openL ps)).2)) live):=by
 refine aq_ Tryz.func78 fun hH hX=>?_
 have hks:=hy.s
 have hkt:=hy.t
 have hkl:=lt_of_get hks
 have hktl:=lt_of_get hkt
 have hkpl:=lt_of_get hkp
 have hpq:=fun g:List Blk=>atApp (g:=g) hkp
 have hksg:=fun g:List Blk=>atApp (g:=g) hks
 have hs1:∀(y:Blk) (g:List Blk),(h++g).set kt y=h.set kt y++g:=fun y g=>setApp hkt
 have hsl:∀y:Blk,(h.set kt y).length=h.length:=fun y=>List.length_set ..
 have hol:=openL_len ps
 have hfw:=hy.few
 have sx:=(And.intro @hpq (And.intro @hksg (And.intro @hs1 (And.intro @hsl sx0))))
 refine rg_ [0,1,5,6] ?_
 refine sk_ fun K1 hK1=>?_
 refine rg_ [0,1,5,6,8] ?_
 refine awp_block ?_
 refine rg_ [0,1,5,6,8,9] ?_
 refine cx_ (fun hb1=>?_) (fun hb1=>?_)
 ·
  refine rsq_ [6] ⟨false,[],[],[],[],[],0⟩ (fun _=>⟨by kernel_rfl,by kernel_rfl⟩) ?_
  refine sg_ ?_
  refine cl_ (hc:=c112 T kt P.c ca.path ca.a _ _ (atApp hkt) hy.ok (by omega) hy.rt (by omega)) (k:=?_)
  refine cl_ (hc:=c70 _ _ _) (k:=?_)
  refine srt_ ?_
  refine gq_ (h1:=h.set kt _) Tryz.results78 ?_ (hh:=(⟨_,rfl⟩)) (hH:=(hcl_tab hH _ _))
  exact ⟨by unfold chaF;rw [if_pos hb1],by unfold chaF;rw [if_pos hb1],rfl⟩
 refine rg_ [0,1,5,6,8,25] ?_
 refine cx_ (fun hb2=>?_) (fun hb2=>?_)
 ·
  refine rsq_ [6] ⟨false,[],[],[],[],[],0⟩ (fun _=>⟨by kernel_rfl,by kernel_rfl⟩) ?_
  refine sg_ ?_
  refine cl_ (hc:=c113 T kt P.c P.um ca.path ca.a _ _ (atApp hkt) hy.ok (by omega) hy.rt (by omega)) (k:=?_)
  refine cl_ (hc:=c70 _ _ _) (k:=?_)
  refine srt_ ?_
  refine gq_ (h1:=h.set kt _) Tryz.results78 ?_ (hh:=(⟨_,rfl⟩)) (hH:=(hcl_tab hH _ _))
  exact ⟨by unfold chaF;rw [if_neg hb1,if_pos hb2],by unfold chaF;rw [if_neg hb1,if_pos hb2],rfl⟩
 refine rg_ [0,1,5,6,8,45] ?_
 refine cx_ (fun hb3=>?_) (fun hb3=>?_)
 ·
  refine rsq_ [6] ⟨false,[],[],[],[],[],0⟩ (fun _=>⟨by kernel_rfl,by kernel_rfl⟩) ?_
  refine sg_ ?_
  refine cl_ (hc:=c114 T kt P.c ca.other ca.path _ _ (atApp hkt) hy.ok (by omega) hy.rt (by omega) (by omega)) (k:=?_)
  refine cl_ (hc:=c70 _ _ _) (k:=?_)
  refine srt_ ?_
  refine gq_ (h1:=h.set kt _) Tryz.results78 ?_ (hh:=(⟨_,rfl⟩)) (hH:=(hcl_tab hH _ _))
  exact ⟨by unfold chaF;rw [if_neg hb1,if_neg hb2,if_pos hb3],by unfold chaF;rw [if_neg hb1,if_neg hb2,if_pos hb3],rfl⟩
 refine rg_ [0,1,5,6,8,61] ?_
 refine cx_ (fun hb4=>?_) (fun hb4=>?_)
 ·
  refine rsq_ [6] ⟨false,[],[],[],[],[74],h.length⟩ (fun _=>⟨by kernel_rfl,by kernel_rfl⟩) ?_
  refine sg_ ?_
  refine ds_ (hc:=fun h' l' hs=>c20 ks kt kb T ps h' l' (hy.same fun k0 hk0=>by rw [hs k0 hk0];exact List.getElem?_append_left hk0)) (k:=?_)
  refine cl_ (hc:=c115 T kt P.c ca.path (openL ps) _ _ _ (atApp hkt) hy.ok (by omega) hy.rt (by omega) (by omega)) (k:=?_)
  refine cl_ (hc:=c70 _ _ _) (k:=?_)
  refine srt_ ?_
  refine gq_ (h1:=h.set kt _) Tryz.results78 ?_ (hh:=(⟨_,rfl⟩)) (hH:=(hcl_tab hH _ _))
  exact ⟨by unfold chaF;rw [if_neg hb1,if_neg hb2,if_neg hb3,if_pos hb4],by unfold chaF;rw [if_neg hb1,if_neg hb2,if_neg hb3,if_pos hb4],rfl⟩
 refine rg_ [0,1,5,6,8,77] ?_
 refine cx_ (fun hb5=>?_) (fun hb5=>?_)
 ·
  refine rsq_ [6] ⟨false,[],[],[],[],[],0⟩ (fun _=>⟨by kernel_rfl,by kernel_rfl⟩) ?_
  refine sg_ ?_
  refine cl_ (hc:=c116 T kt P.c ca.path _ _ (atApp hkt) hy.ok (by omega) hy.rt (by omega)) (k:=?_)
  refine cl_ (hc:=c70 _ _ _) (k:=?_)
  refine srt_ ?_
  refine gq_ (h1:=h.set kt _) Tryz.results78 ?_ (hh:=(⟨_,rfl⟩)) (hH:=(hcl_tab hH _ _))
  exact ⟨by unfold chaF;rw [if_neg hb1,if_neg hb2,if_neg hb3,if_neg hb4,if_pos hb5],by unfold chaF;rw [if_neg hb1,if_neg hb2,if_neg hb3,if_neg hb4,if_pos hb5],rfl⟩
 refine rg_ [0,1,5,6,91] ?_
 refine cx_ (fun hb6=>?_) (fun hb6=>?_)
 ·
  refine rsq_ [6] ⟨false,[],[],[],[],[106],h.length⟩ (fun _=>⟨by kernel_rfl,by kernel_rfl⟩) ?_
  refine sg_ ?_
  refine ds_ (hc:=fun h' l' hs=>c20 ks kt kb T ps h' l' (hy.same fun k0 hk0=>by rw [hs k0 hk0];exact List.getElem?_append_left hk0)) (k:=?_)
  refine cl_ (hc:=c117 T kt P.c ca.path ca.other (openL ps) _ _ _ (atApp hkt) hy.ok (by omega) hy.rt (by omega) (by omega) (by omega)) (k:=?_)
  refine cl_ (hc:=c70 _ _ _) (k:=?_)
  refine srt_ ?_
  refine gq_ (h1:=h.set kt _) Tryz.results78 ?_ (hh:=(⟨_,rfl⟩)) (hH:=(hcl_tab hH _ _))
  exact ⟨by unfold chaF;rw [if_neg hb1,if_neg hb2,if_neg hb3,if_neg hb4,if_neg hb5,if_pos hb6],by unfold chaF;rw [if_neg hb1,if_neg hb2,if_neg hb3,if_neg hb4,if_neg hb5,if_pos hb6],rfl⟩
 refine skp_ ?_
 refine hK1 _ ?_
 refine rsq_ [6] ⟨false,[],[],[],[],[],0⟩ (fun _=>⟨by kernel_rfl,by kernel_rfl⟩) ?_
 refine sg_ ?_
 refine cl_ (hc:=c118 T kt P.c ca.path ca.a ca.b (decide (ca.kind=6)) _ _ (atApp hkt) hy.ok (by omega) hy.rt (by omega)) (k:=?_)
 refine cl_ (hc:=c70 _ _ _) (k:=?_)
 refine srt_ ?_
 refine gq_ (h1:=h.set kt _) Tryz.results78 ?_ (hh:=(⟨_,rfl⟩)) (hH:=(hcl_tab hH _ _))
 exact ⟨by unfold chaF;rw [if_neg hb1,if_neg hb2,if_neg hb3,if_neg hb4,if_neg hb5,if_neg hb6],by unfold chaF;rw [if_neg hb1,if_neg hb2,if_neg hb3,if_neg hb4,if_neg hb5,if_neg hb6],rfl⟩
end Go.Proofs.YtmgnbgniikjhdaaGreat
namespace Go.Proofs.YtmgnbgniikjhdaaGreat
open Go.Ab
set_option maxRecDepth 8000
set_option maxHeartbeats 400000
theorem get_set2 (h:List Blk) (a b:Nat) (x y:Blk) (l:List Blk) (j:Nat):((h.set a x).set b y++l)[h.length+j]? = l[j]? := by
 have:=get_app ((h.set a x).set b y) l j
 rwa [List.length_set,List.length_set] at this
theorem set_set2 (h:List Blk) (a b:Nat) (x y z:Blk) (l:List Blk) (j:Nat):((h.set a x).set b y++l).set (h.length+j) z=(h.set a x).set b y++l.set j z:=by
 have:=set_app ((h.set a x).set b y) l j z
 rwa [List.length_set,List.length_set] at this
def sysH (h:List Blk) (kt kp:Nat) (T:Tab) (P:Pr):List Blk:=(h.set kt (tabBlk T)).set kp (.cells (prC P))
theorem sysH_self {h:List Blk} {kt kp:Nat} {T:Tab} {P:Pr} (ht:h[kt]? = some (tabBlk T)) (hp:h[kp]? = some (.cells (prC P))):sysH h kt kp T P=h:=by
 unfold sysH;rw [set_self ht,set_self hp]
theorem sysH_tab {h:List Blk} {kt kp:Nat} (T:Tab) {P:Pr} (hp:h[kp]? = some (.cells (prC P))) (hne:kt≠kp):sysH h kt kp T P=h.set kt (tabBlk T):=by
 unfold sysH;exact set_self (getSet hp (Ne.symm hne))
theorem sysH_pr {h:List Blk} {kt kp:Nat} {T:Tab} (P:Pr) (ht:h[kt]? = some (tabBlk T)):sysH h kt kp T P=h.set kp (.cells (prC P)):=by
 unfold sysH;rw [set_self ht]
theorem sysH_cl {h:List Blk} (hH:HCl h) (kt kp:Nat) (T:Tab) (P:Pr):HCl (sysH h kt kp T P):=HCl.set (hcl_tab hH _ _) kp (clL_prC _ _)
theorem sysH_len (h:List Blk) (kt kp:Nat) (T:Tab) (P:Pr):(sysH h kt kp T P).length=h.length:=by unfold sysH;rw [List.length_set,List.length_set]
theorem prC_put (P:Pr) {i:Nat} (hi:i<3) (a b:Int) (c d:Bool):putAt (prC P) (4+i*4) [.int .i64 a,.int .i64 b,.bool c,.bool d]=prC (P.put i ⟨a,b,c,d⟩):=by
 rcases (show i=0∨i=1∨i=2 by omega) with rfl | rfl | rfl<;>rfl
def opnAt (T:Tab) (P:Pr) (ca:Ca) (i:Nat):Rs×Tab×Pr:=
 if (openF T P.c P.um ca.path ca.a ca.b).1.2≠0 then (tol (openF T P.c P.um ca.path ca.a ca.b).1.2,(openF T P.c P.um ca.path ca.a ca.b).2,P)
 else (⟨0,i,sta0,[],[],[]⟩,(openF T P.c P.um ca.path ca.a ca.b).2,P.put i ⟨(openF T P.c P.um ca.path ca.a ca.b).1.1,0,hasF ca.a 1,hasF ca.a 2⟩)
def opnF (T:Tab) (P:Pr) (ca:Ca):Rs×Tab×Pr:=
 if (P.fd 0).node=0 then opnAt T P ca 0 else if (P.fd 1).node=0 then opnAt T P ca 1 else if (P.fd 2).node=0 then opnAt T P ca 2 else (tol 24,T,P)
theorem opnF_at {T:Tab} {P:Pr} {ca:Ca} {i:Nat} (hi:i<3) (hb:∀j,j<i→(P.fd j).node≠0) (h0:(P.fd i).node=0):opnF T P ca=opnAt T P ca i:=by
 unfold opnF
 rcases (show i=0∨i=1∨i=2 by omega) with rfl | rfl | rfl
 · exact if_pos h0
 · rw [if_neg (hb 0 (by omega))];exact if_pos h0
 · rw [if_neg (hb 0 (by omega)),if_neg (hb 1 (by omega))];exact if_pos h0
theorem opnF_no {T:Tab} {P:Pr} {ca:Ca} (hb:∀j,j<3→(P.fd j).node≠0):opnF T P ca=(tol 24,T,P):=by
 unfold opnF
 rw [if_neg (hb 0 (by omega)),if_neg (hb 1 (by omega)),if_neg (hb 2 (by omega))]
def redF (T:Tab) (P:Pr) (ca:Ca):Rs×Pr:=
 if (ca.a<0∨3≤ca.a)∨(P.fd ca.a.toNat).node=0∨(P.fd ca.a.toNat).rd=false then (tol 9,P)
 else (⟨(readF T (P.fd ca.a.toNat).node (P.fd ca.a.toNat).off ca.b).2,0,sta0,[],[],(readF T (P.fd ca.a.toNat).node (P.fd ca.a.toNat).off ca.b).1⟩,
  P.put ca.a.toNat ⟨(P.fd ca.a.toNat).node,IntKind.i64.wrap ((P.fd ca.a.toNat).off+(readF T (P.fd ca.a.toNat).node (P.fd ca.a.toNat).off ca.b).1.length),(P.fd ca.a.toNat).rd,(P.fd ca.a.toNat).wr⟩)
theorem c71 (ks kt kb:Nat) (T:Tab) (ps:List Pr) (h:List Blk) (live:List Nat) (hy:SysAt h ks kt kb T ps) (kp:Nat) (P:Pr) (ca:Ca) (hkp:h[kp]? = some (.cells (prC P))) (hne:kt≠kp) (hgs:P.c.gs.length≤17592186044416) (hpath:ca.path.length≤1000):ACalls Tryz.prog 71 [.ptr ks 0,.ptr kp 0,.agg (caC ca)] h live (ret (.agg (rsC (opnF T P ca).1)) (sysH h kt kp (opnF T P ca).2.1 (opnF T P ca).2.2) live):=by
 refine aq_ Tryz.func71 fun hH hX=>?_
 have hks:=hy.s
 have hkt:=hy.t
 have hkl:=lt_of_get hks
 have hktl:=lt_of_get hkt
 have hkpl:=lt_of_get hkp
 have hpq:=fun g:List Blk=>atApp (g:=g) hkp
 have hksg:=fun g:List Blk=>atApp (g:=g) hks
 have hs1:∀(y:Blk) (g:List Blk),(h++g).set kt y=h.set kt y++g:=fun y g=>setApp hkt
 have hsl:∀y:Blk,(h.set kt y).length=h.length:=fun y=>List.length_set ..
 have hk3:∀x:Blk,(h.set kt x)[kp]? = some (.cells (prC P)):=fun x=>getSet hkp (Ne.symm hne)
 have hk4:∀(x:Blk) (g:List Blk),(h.set kt x++g)[kp]? = some (.cells (prC P)):=fun x g=>atApp (hk3 x)
 have hs5:∀(x y:Blk) (g:List Blk),(h.set kt x++g).set kp y=(h.set kt x).set kp y++g:=fun x y g=>setApp (hk3 x)
 have hg5:=fun x y l j=>get_set2 h kt kp x y l j
 have hg6:=fun x y z l j=>set_set2 h kt kp x y z l j
 have hB:HCl (h++[.cells (caC ca),.cells [.int .i64 0,.int .i64 0,.int .i64 0,.int .i64 0,.int .i64 0,.int .i64 0,.int .i64 0,.int .i64 0,.int .i64 0,.str [],.slice [] .full,.slice [] .full]]):=by
  have:=HCl.snoc (HCl.snoc (b:=.cells (caC ca)) hH (by simp [caC,Blk.cl,AV.cl,AV.clL,clL_bV, -List.map_map])) (b:=.cells [.int .i64 0,.int .i64 0,.int .i64 0,.int .i64 0,.int .i64 0,.int .i64 0,.int .i64 0,.int .i64 0,.int .i64 0,.str [],.slice [] .full,.slice [] .full]) (by simp [Blk.cl,AV.cl,AV.clL])
  rw [List.append_assoc] at this;exact this
 have sx:=(And.intro @hpq (And.intro @hksg (And.intro @hs1 (And.intro @hsl (And.intro @hk3 (And.intro @hk4 (And.intro @hs5 (And.intro @hg5 (And.intro @hg6 sx0)))))))))
 refine rg_ [0,1,5,6] ?_
 refine sk_ fun K1 hK1=>?_
 refine rg_ [0,1,5,6,10] ?_
 refine awp_block ?_
 refine lp_ (X:={i:Nat // i≤3∧∀j,j<i→(P.fd j).node≠0}) (fun x=>⟨Tryz.f71.ntmps,fget [(0,.ptr ks 0),(1,.ptr kp 0),(5,.ptr h.length 0),(6,.ptr (h.length+1) 0),(10,.int .i64 (x.1:Nat))],h++[.cells (caC ca),.cells [.int .i64 0,.int .i64 0,.int .i64 0,.int .i64 0,.int .i64 0,.int .i64 0,.int .i64 0,.int .i64 0,.int .i64 0,.str [],.slice [] .full,.slice [] .full]],live⟩) (fun x=>3 - x.1) (⟨0,by omega,fun j hj=>by omega⟩) ?_ (fun ⟨i,hi,hb⟩=>?_)
 ·
  try dsimp only
  exact tf_ hB (fun _ h=>h)
 try dsimp only
 refine rg_ [0,1,5,6,10,11] ?_
 refine sk_ fun K2 hK2=>?_
 refine cx_ (fun hb1=>?_) (fun hb1=>?_)
 rotate_left
 ·
  have hie:i=3:=by omega
  subst hie
  have hno:=opnF_no (T:=T) (ca:=ca) hb
  refine awp_exit (up_ ?_)
  refine hK1 _ ?_
  refine rs_ [6] ?_
  refine cl_ (hc:=c70 _ _ _) (k:=?_)
  refine srt_ ?_
  refine gq_ (h1:=sysH h kt kp T P) Tryz.results71 ?_ (hh:=(by rw [sysH_self hkt hkp];exact ⟨_,rfl⟩)) (hH:=(sysH_cl hH _ _ _ _)) (hle:=(Nat.le_of_eq (sysH_len _ _ _ _ _).symm))
  exact ⟨by rw [hno],by rw [hno],rfl⟩
 have hi3:i<3:=by omega
 have hq0:=prC_el P (i:=i) (q:=0) hi3 (by omega)
 have hpf:=prC_put P hi3
 have sx:=And.intro hq0 (And.intro hpf sx)
 refine skp_ ?_
 refine hK2 _ ?_
 refine sk_ fun K3 hK3=>?_
 refine awp_block ?_
 refine rg_ [0,1,5,6,7,10] ?_
 refine sk_ fun K4 hK4=>?_
 refine rg_ [0,1,5,6,7,10,20] ?_
 refine cx_ (fun hb2=>?_) (fun hb2=>?_)
 ·
  refine awp_exit (up_ ?_)
  refine hK3 _ ?_
  refine rt_ [0,1,5,6,10] ?_
  refine srn_ ?_
  refine ln_ ⟨i+1,by omega,fun j hj=>by rcases Nat.lt_succ_iff_lt_or_eq.1 hj with h | h;exact hb j h;subst h;exact hb2⟩ ?_
  try dsimp only
  exact tf_ hB (fun _ h=>h)
 have hat:=opnF_at (T:=T) (ca:=ca) hi3 hb hb2
 refine skp_ ?_
 refine hK4 _ ?_
 refine rsq_ [1,5,6,7,8,9] ⟨false,[],[],[],[],[],0⟩ (fun _=>⟨by kernel_rfl,by kernel_rfl⟩) ?_
 refine sg_ ?_
 refine cl_ (hc:=c104 T kt P.c P.um ca.path ca.a ca.b _ _ (atApp hkt) hy.ok (by omega) hy.rt (by omega)) (k:=?_)
 refine sre_ ?_
 refine sk_ fun K5 hK5=>?_
 refine rg_ [1,5,6,7,8,9,44] ?_
 refine cx_ (fun hb3=>?_) (fun hb3=>?_)
 ·
  refine rs_ [6] ?_
  refine sg_ ?_
  refine cl_ (hc:=c70 _ _ _) (k:=?_)
  refine srt_ ?_
  refine gq_ (h1:=sysH h kt kp _ P) Tryz.results71 ?_ (hh:=(by rw [sysH_tab _ hkp hne];exact ⟨_,rfl⟩)) (hH:=(sysH_cl hH _ _ _ _)) (hle:=(Nat.le_of_eq (sysH_len _ _ _ _ _).symm))
  exact ⟨by rw [hat];unfold opnAt;rw [if_pos hb3],by rw [hat];unfold opnAt;rw [if_pos hb3],rfl⟩
 refine skp_ ?_
 refine hK5 _ ?_
 refine rsq_ [6,7] ⟨true,[],[],[],[],[],0⟩ (fun _=>⟨by kernel_rfl,by kernel_rfl⟩) ?_
 refine sre_ ?_
 refine rg_ [6] ?_
 refine ret_ ?_
 refine gq_ (h1:=sysH h kt kp _ _) Tryz.results71 ?_ (hh:=(⟨_,rfl⟩)) (hH:=(sysH_cl hH _ _ _ _)) (hle:=(Nat.le_of_eq (sysH_len _ _ _ _ _).symm))
 exact ⟨by rw [hat];unfold opnAt;rw [if_neg (fun h=>h hb3)];rfl,by rw [hat];unfold opnAt;rw [if_neg (fun h=>h hb3)];rfl,rfl⟩
end Go.Proofs.YtmgnbgniikjhdaaGreat
namespace Go.Proofs.YtmgnbgniikjhdaaGreat
open Go.Ab
set_option maxRecDepth 8000
set_option maxHeartbeats 400000
theorem prC_off (P:Pr) {i:Nat} (hi:i<3) (b:Int):(prC P).set (4+i*4+1) (.int .i64 b)=prC (P.put i ⟨(P.fd i).node,b,(P.fd i).rd,(P.fd i).wr⟩):=by
 rcases (show i=0∨i=1∨i=2 by omega) with rfl | rfl | rfl<;>rfl
theorem redF_y {T:Tab} {P:Pr} {ca:Ca} {i:Nat} (hca:ca.a=(i:Int)) (hi:i<3):redF T P ca=if (P.fd i).node=0∨(P.fd i).rd=false then (tol 9,P)
 else (⟨(readF T (P.fd i).node (P.fd i).off ca.b).2,0,sta0,[],[],(readF T (P.fd i).node (P.fd i).off ca.b).1⟩,
  P.put i ⟨(P.fd i).node,IntKind.i64.wrap ((P.fd i).off+(readF T (P.fd i).node (P.fd i).off ca.b).1.length),(P.fd i).rd,(P.fd i).wr⟩):=by
 unfold redF
 rw [hca,Int.toNat_natCast]
 by_cases h:(P.fd i).node=0∨(P.fd i).rd=false
 · rw [if_pos h,if_pos (.inr h)]
 · rw [if_neg h,if_neg (by rintro (h1 | h1);omega;exact h h1)]
def wriF (T:Tab) (P:Pr) (ca:Ca):Rs×Tab×Pr:=
 if (ca.a<0∨3≤ca.a)∨(P.fd ca.a.toNat).node=0∨(P.fd ca.a.toNat).wr=false then (tol 9,T,P)
 else if (writeAtF T P.c (P.fd ca.a.toNat).node (P.fd ca.a.toNat).off ca.data).1≠0 then (tol (writeAtF T P.c (P.fd ca.a.toNat).node (P.fd ca.a.toNat).off ca.data).1,(writeAtF T P.c (P.fd ca.a.toNat).node (P.fd ca.a.toNat).off ca.data).2,P)
 else (⟨0,ca.data.length,sta0,[],[],[]⟩,(writeAtF T P.c (P.fd ca.a.toNat).node (P.fd ca.a.toNat).off ca.data).2,
  P.put ca.a.toNat ⟨(P.fd ca.a.toNat).node,IntKind.i64.wrap ((P.fd ca.a.toNat).off+ca.data.length),(P.fd ca.a.toNat).rd,(P.fd ca.a.toNat).wr⟩)
theorem wriF_y {T:Tab} {P:Pr} {ca:Ca} {i:Nat} (hca:ca.a=(i:Int)) (hi:i<3):wriF T P ca=if (P.fd i).node=0∨(P.fd i).wr=false then (tol 9,T,P)
 else if (writeAtF T P.c (P.fd i).node (P.fd i).off ca.data).1≠0 then (tol (writeAtF T P.c (P.fd i).node (P.fd i).off ca.data).1,(writeAtF T P.c (P.fd i).node (P.fd i).off ca.data).2,P)
 else (⟨0,ca.data.length,sta0,[],[],[]⟩,(writeAtF T P.c (P.fd i).node (P.fd i).off ca.data).2,P.put i ⟨(P.fd i).node,IntKind.i64.wrap ((P.fd i).off+ca.data.length),(P.fd i).rd,(P.fd i).wr⟩):=by
 unfold wriF
 rw [hca,Int.toNat_natCast]
 by_cases h:(P.fd i).node=0∨(P.fd i).wr=false
 · rw [if_pos h,if_pos (.inr h)]
 · rw [if_neg h,if_neg (by rintro (h1 | h1);omega;exact h h1)]
theorem n72 (s:AV) (kp:Nat) (ca:Ca) (h:List Blk) (live:List Nat) (hkp:kp<h.length) (hi:ca.a<0∨3≤ca.a):AC Tryz.prog 72 [s,.ptr kp 0,.agg (caC ca)] h live (.agg (rsC (tol 9))):=by
 refine aq_ Tryz.func72 fun hH hX=>?_
 refine rg_ [0,1,5,6] ?_
 refine rs_ [0,5,6,7] ?_
 refine sg_ ?_
 refine cl_ (hc:=n105 kp _ _ _ (by simp;omega) hi) (k:=?_)
 refine sre_ ?_
 refine sk_ fun K1 hK1=>?_
 refine rs_ [0,5,6,7,29] ?_
 refine dp_ ?_
 refine dp_ ?_
 refine dp_ ?_
 iterate 5 (refine dawp_skip rfl rfl rfl ?_)
 refine dp_ ?_
 refine dp_ ?_
 iterate 5 (refine dawp_skip rfl rfl rfl ?_)
 refine sre_ ?_
 refine cdy_ (ht:=fun hb1=>?_) (hf:=fun hb1=>?_)
 ·
  refine rs_ [6] ?_
  refine cl_ (hc:=c70 _ _ _) (k:=?_)
  refine srt_ ?_
  refine fq_ Tryz.results72 ?_
  exact rk_ rfl
 exfalso
 simp at hb1
theorem n73 (s:AV) (kp:Nat) (ca:Ca) (h:List Blk) (live:List Nat) (hkp:kp<h.length) (hi:ca.a<0∨3≤ca.a):AC Tryz.prog 73 [s,.ptr kp 0,.agg (caC ca)] h live (.agg (rsC (tol 9))):=by
 refine aq_ Tryz.func73 fun hH hX=>?_
 refine rg_ [0,1,5,6] ?_
 refine rs_ [0,1,5,6,7] ?_
 refine sg_ ?_
 refine cl_ (hc:=n105 kp _ _ _ (by simp;omega) hi) (k:=?_)
 refine sre_ ?_
 refine sk_ fun K1 hK1=>?_
 refine rs_ [0,1,5,6,7,28] ?_
 refine dp_ ?_
 refine dp_ ?_
 refine dp_ ?_
 iterate 5 (refine dawp_skip rfl rfl rfl ?_)
 refine dp_ ?_
 refine dp_ ?_
 iterate 5 (refine dawp_skip rfl rfl rfl ?_)
 refine sre_ ?_
 refine cdy_ (ht:=fun hb1=>?_) (hf:=fun hb1=>?_)
 ·
  refine rs_ [6] ?_
  refine cl_ (hc:=c70 _ _ _) (k:=?_)
  refine srt_ ?_
  refine fq_ Tryz.results73 ?_
  exact rk_ rfl
 exfalso
 simp at hb1
theorem y72 (ks kt kb:Nat) (T:Tab) (ps:List Pr) (h:List Blk) (live:List Nat) (hy:SysAt h ks kt kb T ps) (kp:Nat) (P:Pr) (ca:Ca) (hkp:h[kp]? = some (.cells (prC P))) (hne:kt≠kp) (i:Nat) (hca:ca.a=(i:Int)) (hi:i<3):ACalls Tryz.prog 72 [.ptr ks 0,.ptr kp 0,.agg (caC ca)] h live (ret (.agg (rsC (redF T P ca).1)) (h.set kp (.cells (prC (redF T P ca).2))) live):=by
 refine aq_ Tryz.func72 fun hH hX=>?_
 have hks:=hy.s
 have hkt:=hy.t
 have hkl:=lt_of_get hks
 have hktl:=lt_of_get hkt
 have hkpl:=lt_of_get hkp
 have hpq:=fun g:List Blk=>atApp (g:=g) hkp
 have hksg:=fun g:List Blk=>atApp (g:=g) hks
 have hs1:∀(y:Blk) (g:List Blk),(h++g).set kt y=h.set kt y++g:=fun y g=>setApp hkt
 have hs2:∀(y:Blk) (g:List Blk),(h++g).set kp y=h.set kp y++g:=fun y g=>setApp hkp
 have hsl:∀y:Blk,(h.set kt y).length=h.length:=fun y=>List.length_set ..
 have hk3:∀x:Blk,(h.set kt x)[kp]? = some (.cells (prC P)):=fun x=>getSet hkp (Ne.symm hne)
 have hk4:∀(x:Blk) (g:List Blk),(h.set kt x++g)[kp]? = some (.cells (prC P)):=fun x g=>atApp (hk3 x)
 have hs5:∀(x y:Blk) (g:List Blk),(h.set kt x++g).set kp y=(h.set kt x).set kp y++g:=fun x y g=>setApp (hk3 x)
 have hg5:=fun x y l j=>get_set2 h kt kp x y l j
 have hg6:=fun x y z l j=>set_set2 h kt kp x y z l j
 have hg7:=fun x y l=>get_set2 h kt kp x y l 0
 simp only [Nat.add_zero] at hg7
 have hq0:=prC_el P (i:=i) (q:=0) hi (by omega)
 have hq1:=prC_el P (i:=i) (q:=1) hi (by omega)
 have hq2:=prC_el P (i:=i) (q:=2) hi (by omega)
 have hq3:=prC_el P (i:=i) (q:=3) hi (by omega)
 have hpo:=prC_off P hi
 have sx:=(And.intro @hpq (And.intro @hksg (And.intro @hs1 (And.intro @hs2 (And.intro @hsl (And.intro @hk3 (And.intro @hk4 (And.intro @hs5 (And.intro @hg5 (And.intro @hg6 (And.intro @hg7 (And.intro @hca (And.intro @hq0 (And.intro @hq1 (And.intro @hq2 (And.intro @hq3 (And.intro @hpo sx0)))))))))))))))))
 refine rg_ [0,1,5,6] ?_
 refine rs_ [0,5,6,7] ?_
 refine sg_ ?_
 refine cl_ (hc:=c105 kp i _ _ (by simp;omega) hi) (k:=?_)
 refine sre_ ?_
 refine sk_ fun K1 hK1=>?_
 refine rg_ [0,5,6,7,29] ?_
 refine cx_ (fun hb1=>?_) (fun hb1=>?_)
 ·
  refine rs_ [6] ?_
  refine cl_ (hc:=c70 _ _ _) (k:=?_)
  refine srt_ ?_
  refine gq_ (h1:=h) Tryz.results72 ?_ (hcl:=(by simp [AV.cl,AV.clL,clL_bV,clL_rsC, -List.map_map])) (hh:=(⟨_,rfl⟩)) (hH:=(by first | exact hH | exact HCl.set hH kp (clL_prC _ _)))
  exact ⟨by rw [redF_y hca hi,if_pos hb1],by rw [redF_y hca hi,if_pos hb1];exact set_self hkp,rfl⟩
 refine skp_ ?_
 refine hK1 _ ?_
 refine rsq_ [6,7,8,9] ⟨true,[],[],[],[],[],0⟩ (fun _=>⟨by kernel_rfl,by kernel_rfl⟩) ?_
 refine sg_ ?_
 refine cr_ (hc:=c106 T kt _ _ _ _ _ (atApp hkt) hy.ok) (k:=?_)
 refine sre_ ?_
 refine rg_ [6,8,9] ?_
 refine rg_ [6] ?_
 refine ret_ ?_
 refine gq_ (h1:=h.set kp _) Tryz.results72 ?_ (hcl:=(by simp [AV.cl,AV.clL,clL_bV,clL_rsC, -List.map_map])) (hh:=(⟨_,rfl⟩)) (hH:=(by first | exact hH | exact HCl.set hH kp (clL_prC _ _)))
 exact ⟨by rw [redF_y hca hi,if_neg (by rintro (h | h);exact hb1.1 h;rw [hb1.2] at h;cases h)]<;>rfl,by rw [redF_y hca hi,if_neg (by rintro (h | h);exact hb1.1 h;rw [hb1.2] at h;cases h)]<;>rfl,rfl⟩
theorem y73 (ks kt kb:Nat) (T:Tab) (ps:List Pr) (h:List Blk) (live:List Nat) (hy:SysAt h ks kt kb T ps) (kp:Nat) (P:Pr) (ca:Ca) (hkp:h[kp]? = some (.cells (prC P))) (hne:kt≠kp) (hgs:P.c.gs.length≤17592186044416) (hdat:ca.data.length≤1000) (i:Nat) (hca:ca.a=(i:Int)) (hi:i<3):ACalls Tryz.prog 73 [.ptr ks 0,.ptr kp 0,.agg (caC ca)] h live (ret (.agg (rsC (wriF T P ca).1)) (sysH h kt kp (wriF T P ca).2.1 (wriF T P ca).2.2) live):=by
 refine aq_ Tryz.func73 fun hH hX=>?_
 have hks:=hy.s
 have hkt:=hy.t
 have hkl:=lt_of_get hks
 have hktl:=lt_of_get hkt
 have hkpl:=lt_of_get hkp
 have hpq:=fun g:List Blk=>atApp (g:=g) hkp
 have hksg:=fun g:List Blk=>atApp (g:=g) hks
 have hs1:∀(y:Blk) (g:List Blk),(h++g).set kt y=h.set kt y++g:=fun y g=>setApp hkt
 have hs2:∀(y:Blk) (g:List Blk),(h++g).set kp y=h.set kp y++g:=fun y g=>setApp hkp
 have hsl:∀y:Blk,(h.set kt y).length=h.length:=fun y=>List.length_set ..
 have hk3:∀x:Blk,(h.set kt x)[kp]? = some (.cells (prC P)):=fun x=>getSet hkp (Ne.symm hne)
 have hk4:∀(x:Blk) (g:List Blk),(h.set kt x++g)[kp]? = some (.cells (prC P)):=fun x g=>atApp (hk3 x)
 have hs5:∀(x y:Blk) (g:List Blk),(h.set kt x++g).set kp y=(h.set kt x).set kp y++g:=fun x y g=>setApp (hk3 x)
 have hg5:=fun x y l j=>get_set2 h kt kp x y l j
 have hg6:=fun x y z l j=>set_set2 h kt kp x y z l j
 have hg7:=fun x y l=>get_set2 h kt kp x y l 0
 simp only [Nat.add_zero] at hg7
 have hq0:=prC_el P (i:=i) (q:=0) hi (by omega)
 have hq1:=prC_el P (i:=i) (q:=1) hi (by omega)
 have hq2:=prC_el P (i:=i) (q:=2) hi (by omega)
 have hq3:=prC_el P (i:=i) (q:=3) hi (by omega)
 have hpo:=prC_off P hi
 have sx:=(And.intro @hpq (And.intro @hksg (And.intro @hs1 (And.intro @hs2 (And.intro @hsl (And.intro @hk3 (And.intro @hk4 (And.intro @hs5 (And.intro @hg5 (And.intro @hg6 (And.intro @hg7 (And.intro @hca (And.intro @hq0 (And.intro @hq1 (And.intro @hq2 (And.intro @hq3 (And.intro @hpo sx0)))))))))))))))))
 refine rg_ [0,1,5,6] ?_
 refine rs_ [0,1,5,6,7] ?_
 refine sg_ ?_
 refine cl_ (hc:=c105 kp i _ _ (by simp;omega) hi) (k:=?_)
 refine sre_ ?_
 refine sk_ fun K1 hK1=>?_
 refine rg_ [0,1,5,6,7,28] ?_
 refine cx_ (fun hb1=>?_) (fun hb1=>?_)
 ·
  refine rs_ [6] ?_
  refine cl_ (hc:=c70 _ _ _) (k:=?_)
  refine srt_ ?_
  refine gq_ (h1:=sysH h kt kp T P) Tryz.results73 ?_ (hh:=(by rw [sysH_self hkt hkp];exact ⟨_,rfl⟩)) (hH:=(sysH_cl hH _ _ _ _)) (hle:=(Nat.le_of_eq (sysH_len _ _ _ _ _).symm))
  exact ⟨by rw [wriF_y hca hi,if_pos hb1]<;>rfl,by rw [wriF_y hca hi,if_pos hb1]<;>rfl,rfl⟩
 refine skp_ ?_
 refine hK1 _ ?_
 refine sk_ fun K2 hK2=>?_
 refine rsq_ [5,6,7,8] ⟨false,[],[],[],[],[],0⟩ (fun _=>⟨by kernel_rfl,by kernel_rfl⟩) ?_
 refine sg_ ?_
 refine cl_ (hc:=c107 T kt P.c _ _ ca.data _ _ _ (atApp hkt) hy.ok (by omega) (by omega)) (k:=?_)
 refine sre_ ?_
 refine rg_ [5,6,7,8,50] ?_
 refine cx_ (fun hb2=>?_) (fun hb2=>?_)
 ·
  refine rs_ [6] ?_
  refine sg_ ?_
  refine cl_ (hc:=c70 _ _ _) (k:=?_)
  refine srt_ ?_
  refine gq_ (h1:=sysH h kt kp _ P) Tryz.results73 ?_ (hh:=(by rw [sysH_tab _ hkp hne];exact ⟨_,rfl⟩)) (hH:=(sysH_cl hH _ _ _ _)) (hle:=(Nat.le_of_eq (sysH_len _ _ _ _ _).symm))
  exact ⟨by rw [wriF_y hca hi,if_neg (by rintro (h | h);exact hb1.1 h;rw [hb1.2] at h;cases h),if_pos hb2]<;>rfl,by rw [wriF_y hca hi,if_neg (by rintro (h | h);exact hb1.1 h;rw [hb1.2] at h;cases h),if_pos hb2]<;>rfl,rfl⟩
 refine skp_ ?_
 refine hK2 _ ?_
 refine rsq_ [5,6] ⟨true,[],[],[],[],[],0⟩ (fun _=>⟨by kernel_rfl,by kernel_rfl⟩) ?_
 refine sre_ ?_
 refine rg_ [6] ?_
 refine ret_ ?_
 refine gq_ (h1:=sysH h kt kp _ _) Tryz.results73 ?_ (hh:=(⟨_,rfl⟩)) (hH:=(sysH_cl hH _ _ _ _)) (hle:=(Nat.le_of_eq (sysH_len _ _ _ _ _).symm))
 exact ⟨by rw [wriF_y hca hi,if_neg (by rintro (h | h);exact hb1.1 h;rw [hb1.2] at h;cases h),if_neg (fun h=>h hb2)]<;>rfl,by rw [wriF_y hca hi,if_neg (by rintro (h | h);exact hb1.1 h;rw [hb1.2] at h;cases h),if_neg (fun h=>h hb2)]<;>rfl,rfl⟩
end Go.Proofs.YtmgnbgniikjhdaaGreat
namespace Go.Proofs.YtmgnbgniikjhdaaGreat
open Go.Ab
set_option maxRecDepth 8000
set_option maxHeartbeats 400000
theorem SysAt.put {h:List Blk} {ks kt kb:Nat} {T:Tab} {ps:List Pr} (hs:SysAt h ks kt kb T ps) {pid:Nat} {P P':Pr} (hpid:pid<ps.length) (hP:ps[pid]=P) (hc:P'.c=P.c):SysAt (h.set (kb+2*pid) (.cells (prC P'))) ks kt kb T (ps.set pid P') where
 s:=by rw [List.length_set];exact getSet hs.s (by have:=hs.sb;omega)
 t:=getSet hs.t (by have:=hs.tb;omega)
 p:=fun i hi=>by
  rw [List.length_set] at hi
  rw [List.getElem_set]
  split
  · rename_i e;subst e;exact get_setk (lt_of_get (hs.p pid hpid))
  · exact getSet (hs.p i hi) (by omega)
 st:=hs.st
 sb:=hs.sb
 tb:=hs.tb
 ok:=hs.ok
 rt:=hs.rt
 gs:=fun Q hQ=>by
  rcases List.mem_or_eq_of_mem_set hQ with h | h
  · exact hs.gs Q h
  · rw [h,hc,←hP];exact hs.gs _ (List.getElem_mem hpid)
 few:=by rw [List.length_set];exact hs.few
theorem SysAt.tab {h:List Blk} {ks kt kb:Nat} {T T':Tab} {ps:List Pr} (hs:SysAt h ks kt kb T ps) (hok:T'.Ok) (hrt:T'.Rt):SysAt (h.set kt (tabBlk T')) ks kt kb T' ps where
 s:=getSet hs.s hs.st
 t:=get_setk (lt_of_get hs.t)
 p:=fun i hi=>getSet (hs.p i hi) (by have:=hs.tb;omega)
 st:=hs.st
 sb:=hs.sb
 tb:=hs.tb
 ok:=hok
 rt:=hrt
 gs:=hs.gs
 few:=hs.few
theorem SysAt.next {h:List Blk} {ks kt kb:Nat} {T T':Tab} {ps:List Pr} (hs:SysAt h ks kt kb T ps) {pid:Nat} {P P':Pr} (hpid:pid<ps.length) (hP:ps[pid]=P) (hc:P'.c=P.c) (hok:T'.Ok) (hrt:T'.Rt):SysAt (sysH h kt (kb+2*pid) T' P') ks kt kb T' (ps.set pid P'):=
 (hs.tab hok hrt).put hpid hP hc
def shutF (T:Tab) (ps:List Pr) (pid:Nat) (P:Pr) (a:Int):Rs×Tab×Pr:=
 if (a<0∨3≤a)∨(P.fd a.toNat).node=0 then (tol 9,T,P)
 else (tol 0,(freeF T (P.fd a.toNat).node (openL (ps.set pid (P.put a.toNat fd0)))).2,P.put a.toNat fd0)
theorem shutF_y {T:Tab} {ps:List Pr} {pid:Nat} {P:Pr} {a:Int} {i:Nat} (hca:a=(i:Int)) (hi:i<3):shutF T ps pid P a=if (P.fd i).node=0 then (tol 9,T,P)
 else (tol 0,(freeF T (P.fd i).node (openL (ps.set pid (P.put i fd0)))).2,P.put i fd0):=by
 unfold shutF
 rw [hca,Int.toNat_natCast]
 by_cases h:(P.fd i).node=0
 · rw [if_pos h,if_pos (.inr h)]
 · rw [if_neg h,if_neg (by rintro (h1 | h1);omega;exact h h1)]
theorem put_c (P:Pr) (i:Nat) (f:Fde):(P.put i f).c=P.c:=by unfold Pr.put;split<;>rfl
theorem n74 (s:AV) (kp:Nat) (ca:Ca) (h:List Blk) (live:List Nat) (hkp:kp<h.length) (hi:ca.a<0∨3≤ca.a):AC Tryz.prog 74 [s,.ptr kp 0,.agg (caC ca)] h live (.agg (rsC (tol 9))):=by
 refine aq_ Tryz.func74 fun hH hX=>?_
 refine rg_ [0,1,5,6] ?_
 refine rs_ [0,6,7] ?_
 refine sg_ ?_
 refine cl_ (hc:=n105 kp _ _ _ (by simp;omega) hi) (k:=?_)
 refine sre_ ?_
 refine sk_ fun K1 hK1=>?_
 refine rs_ [0,6,7,21] ?_
 refine dp_ ?_
 refine dp_ ?_
 refine dp_ ?_
 iterate 5 (refine dawp_skip rfl rfl rfl ?_)
 refine sre_ ?_
 refine cdy_ (ht:=fun hb1=>?_) (hf:=fun hb1=>?_)
 ·
  refine rs_ [6] ?_
  refine cl_ (hc:=c70 _ _ _) (k:=?_)
  refine srt_ ?_
  refine fq_ Tryz.results74 ?_
  exact rk_ rfl
 exfalso
 simp at hb1
theorem y74 (ks kt kb:Nat) (T:Tab) (ps:List Pr) (h:List Blk) (live:List Nat) (hy:SysAt h ks kt kb T ps) (pid:Nat) (P:Pr) (hpid:pid<ps.length) (hP:ps[pid]=P) (ca:Ca) (i:Nat) (hca:ca.a=(i:Int)) (hi:i<3):ACalls Tryz.prog 74 [.ptr ks 0,.ptr (kb+2*pid) 0,.agg (caC ca)] h live (ret (.agg (rsC (shutF T ps pid P ca.a).1)) (sysH h kt (kb+2*pid) (shutF T ps pid P ca.a).2.1 (shutF T ps pid P ca.a).2.2) live):=by
 refine aq_ Tryz.func74 fun hH hX=>?_
 obtain ⟨kp,hkpe⟩:∃kp,kb+2*pid=kp:=⟨_,rfl⟩
 have hkp:h[kp]? = some (.cells (prC P)):=by have:=hy.p pid hpid;rw [hP,hkpe] at this;exact this
 have hne:kt≠kp:=by have:=hy.tb;omega
 simp only [hkpe]
 have hks:=hy.s
 have hkt:=hy.t
 have hkl:=lt_of_get hks
 have hktl:=lt_of_get hkt
 have hkpl:=lt_of_get hkp
 have hpq:=fun g:List Blk=>atApp (g:=g) hkp
 have hksg:=fun g:List Blk=>atApp (g:=g) hks
 have hs2:∀(y:Blk) (g:List Blk),(h++g).set kp y=h.set kp y++g:=fun y g=>setApp hkp
 have hsl:∀y:Blk,(h.set kp y).length=h.length:=fun y=>List.length_set ..
 have hk3:∀(x:Blk) (g:List Blk),(h.set kp x++g)[ks]? = some (.cells [.ptr kt 0,.slice (pB kb ps.length) .none]):=fun x g=>atApp (getSet hks (by have:=hy.sb;omega))
 have hk4:∀x:Blk,(h.set kp x)[kt]? = some (tabBlk T):=fun x=>getSet hkt hne
 have hs5:∀(x y:Blk) (g:List Blk),(h.set kp x++g).set kt y=(h.set kt y).set kp x++g:=fun x y g=>by rw [setApp (hk4 x),List.set_comm _ _ (Ne.symm hne)]
 have hg5:=fun x y l j=>get_set2 h kt kp x y l j
 have hg6:=fun x y z l j=>set_set2 h kt kp x y z l j
 have hol:=openL_len (ps.set pid (P.put i fd0))
 rw [List.length_set] at hol
 have hfw:=hy.few
 have hy1:=hy.put hpid hP (put_c P i fd0)
 rw [hkpe] at hy1
 have hq0:=prC_el P (i:=i) (q:=0) hi (by omega)
 have hpf:=prC_put P hi
 have sx:=(And.intro @hpq (And.intro @hksg (And.intro @hs2 (And.intro @hsl (And.intro @hk3 (And.intro @hs5 (And.intro @hg5 (And.intro @hg6 (And.intro @hca (And.intro @hq0 (And.intro @hpf sx0)))))))))))
 refine rg_ [0,1,5,6] ?_
 refine rs_ [0,6,7] ?_
 refine sg_ ?_
 refine cl_ (hc:=c105 kp i _ _ (by simp;omega) hi) (k:=?_)
 refine sre_ ?_
 refine sk_ fun K1 hK1=>?_
 refine rg_ [0,6,7,21] ?_
 refine cx_ (fun hb1=>?_) (fun hb1=>?_)
 ·
  refine rs_ [6] ?_
  refine cl_ (hc:=c70 _ _ _) (k:=?_)
  refine srt_ ?_
  refine gq_ (h1:=sysH h kt kp T P) Tryz.results74 ?_ (hh:=(by rw [sysH_self hkt hkp];exact ⟨_,rfl⟩)) (hH:=(sysH_cl hH _ _ _ _)) (hle:=(Nat.le_of_eq (sysH_len _ _ _ _ _).symm))
  exact ⟨by rw [shutF_y hca hi,if_pos hb1],by rw [shutF_y hca hi,if_pos hb1],rfl⟩
 refine skp_ ?_
 refine hK1 _ ?_
 refine rg_ [0,6,7,8] ?_
 refine rg_ [0,6,8] ?_
 refine rsq_ [6] ⟨false,[],[],[],[],[36],h.length⟩ (fun _=>⟨by kernel_rfl,by kernel_rfl⟩) ?_
 refine sg_ ?_
 refine ds_ (hc:=fun h' l' hs=>c20 ks kt kb T (ps.set pid (P.put i fd0)) h' l' (hy1.same fun k0 hk0=>by rw [hs k0 (by rw [List.length_set] at hk0;exact hk0)];exact List.getElem?_append_left hk0)) (k:=?_)
 refine cl_ (hc:=c108 T kt _ (openL (ps.set pid (P.put i fd0))) _ _ _ (atApp (hk4 _)) hy.ok (by omega)) (k:=?_)
 refine re_ ?_
 refine rg_ [6] ?_
 refine ret_ ?_
 refine gq_ (h1:=sysH h kt kp _ _) Tryz.results74 ?_ (hh:=(⟨_,rfl⟩)) (hH:=(sysH_cl hH _ _ _ _)) (hle:=(Nat.le_of_eq (sysH_len _ _ _ _ _).symm))
 exact ⟨by rw [shutF_y hca hi,if_neg hb1];rfl,by rw [shutF_y hca hi,if_neg hb1];rfl,rfl⟩
end Go.Proofs.YtmgnbgniikjhdaaGreat
namespace Go.Proofs.YtmgnbgniikjhdaaGreat
open Go.Ab
set_option maxRecDepth 8000
set_option maxHeartbeats 400000
theorem Tab.Rt.put {T:Tab} (h:T.Rt) {n:Nd} (hn:rightF n=true) (j:Nat):(T.put j n).Rt:=fun m hm hk=>by
 rcases List.mem_or_eq_of_mem_set hm with h1 | h1
 · exact h m h1 hk
 · rw [h1];exact hn
theorem Tab.Rt.add {T:Tab} (h:T.Rt) (n:Nd):(addT T n).2.Rt:=by
 unfold addT
 split
 · exact h
 ·
  rename_i hr
  split
  · exact h.put (by simpa using hr) _
  · exact h
theorem Tab.Rt.putT {T:Tab} (h:T.Rt) (i:Int) (n:Nd):(putT T i n).2.Rt:=by
 unfold Proofs.YtmgnbgniikjhdaaGreat.putT
 split
 · exact h
 ·
  split
  · exact h
  · rename_i hr;exact h.put (by simpa using hr) _
theorem Tab.Rt.drop {T:Tab} (h:T.Rt) (i:Int):(dropT T i).Rt:=by
 unfold dropT
 split
 · exact h
 ·
  intro m hm hk
  rcases List.mem_or_eq_of_mem_set hm with h1 | h1
  · exact h m h1 hk
  · rw [h1] at hk;exact absurd rfl hk
theorem c74 (ks kt kb:Nat) (T:Tab) (ps:List Pr) (h:List Blk) (live:List Nat) (hy:SysAt h ks kt kb T ps) (pid:Nat) (P:Pr) (hpid:pid<ps.length) (hP:ps[pid]=P) (ca:Ca):ACalls Tryz.prog 74 [.ptr ks 0,.ptr (kb+2*pid) 0,.agg (caC ca)] h live (ret (.agg (rsC (shutF T ps pid P ca.a).1)) (sysH h kt (kb+2*pid) (shutF T ps pid P ca.a).2.1 (shutF T ps pid P ca.a).2.2) live):=by
 by_cases hi:0≤ca.a∧ca.a<3
 · exact y74 ks kt kb T ps h live hy pid P hpid hP ca ca.a.toNat (by omega) (by omega)
 ·
  have hkp:=hy.p pid hpid
  rw [hP] at hkp
  have e:shutF T ps pid P ca.a=(tol 9,T,P):=by unfold shutF;rw [if_pos (.inl (by omega))]
  rw [e,sysH_self hy.t hkp]
  exact n74 _ _ ca h live (lt_of_get hkp) (by omega)
theorem freeF_ok {T:Tab} (hT:T.Ok) (i:Int) (o:List Int):(freeF T i o).2.Ok:=by
 unfold freeF;split
 · exact hT
 · exact dropT_ok hT i
theorem freeF_rt {T:Tab} (hR:T.Rt) (i:Int) (o:List Int):(freeF T i o).2.Rt:=by
 unfold freeF;split
 · exact hR
 · exact hR.drop i
theorem shutF_ok {T:Tab} {ps:List Pr} {pid:Nat} {P:Pr} {a:Int} (hT:T.Ok) (hR:T.Rt):(shutF T ps pid P a).2.1.Ok∧(shutF T ps pid P a).2.1.Rt∧(shutF T ps pid P a).2.2.c=P.c:=by
 unfold shutF;split
 · exact ⟨hT,hR,rfl⟩
 · exact ⟨freeF_ok hT _ _,freeF_rt hR _ _,put_c _ _ _⟩
attribute [simp] sysH_len
def shutN (T:Tab) (ps:List Pr) (pid:Nat) (P:Pr):Nat→Tab×Pr
 | 0=>(T,P)
 | n+1=>(shutF (shutN T ps pid P n).1 (ps.set pid (shutN T ps pid P n).2) pid (shutN T ps pid P n).2 (n:Nat)).2
theorem shutN_ok {T:Tab} {ps:List Pr} {pid:Nat} {P:Pr} (hT:T.Ok) (hR:T.Rt):∀n,(shutN T ps pid P n).1.Ok∧(shutN T ps pid P n).1.Rt∧(shutN T ps pid P n).2.c=P.c
 | 0=>⟨hT,hR,rfl⟩
 | n+1=>by
  obtain ⟨h1,h2,h3⟩:=shutN_ok (ps:=ps) (pid:=pid) (P:=P) hT hR n
  obtain ⟨k1,k2,k3⟩:=shutF_ok (ps:=ps.set pid (shutN T ps pid P n).2) (pid:=pid) (P:=(shutN T ps pid P n).2) (a:=(n:Nat)) h1 h2
  exact ⟨k1,k2,k3.trans h3⟩
theorem sysH_sysH (h g:List Blk) {kt kp:Nat} (hne:kt≠kp) (ht:kt<h.length) (hp:kp<h.length) (T T':Tab) (P P':Pr):sysH (sysH h kt kp T P++g) kt kp T' P'=sysH h kt kp T' P'++g:=by
 unfold sysH
 rw [List.set_append_left _ _ (by rw [List.length_set,List.length_set];exact ht),List.set_append_left _ _ (by rw [List.length_set,List.length_set,List.length_set];exact hp)]
 rw [List.set_comm _ _ (Ne.symm hne),List.set_set,List.set_set]
theorem c76 (ks kt kb:Nat) (T:Tab) (ps:List Pr) (h:List Blk) (live:List Nat) (hy:SysAt h ks kt kb T ps) (pid:Nat) (P:Pr) (hpid:pid<ps.length) (hP:ps[pid]=P) (ca:Ca):ACalls Tryz.prog 76 [.ptr ks 0,.ptr (kb+2*pid) 0,.agg (caC ca)] h live (ret (.agg (rsC (tol 0))) (sysH h kt (kb+2*pid) (shutN T ps pid P 3).1 (shutN T ps pid P 3).2) live):=by
 refine aq_ Tryz.func76 fun hH hX=>?_
 obtain ⟨kp,hkpe⟩:∃kp,kb+2*pid=kp:=⟨_,rfl⟩
 have hkp:h[kp]? = some (.cells (prC P)):=by have:=hy.p pid hpid;rw [hP,hkpe] at this;exact this
 have hne:kt≠kp:=by have:=hy.tb;omega
 simp only [hkpe]
 have hktl:=lt_of_get hy.t
 have hksl:=lt_of_get hy.s
 have hkpl:=lt_of_get hkp
 have hyN:∀i,SysAt (sysH h kt kp (shutN T ps pid P i).1 (shutN T ps pid P i).2) ks kt kb (shutN T ps pid P i).1 (ps.set pid (shutN T ps pid P i).2):=fun i=>by
  obtain ⟨h1,h2,h3⟩:=shutN_ok (ps:=ps) (pid:=pid) (P:=P) hy.ok hy.rt i
  have:=hy.next hpid hP h3 h1 h2;rw [hkpe] at this;exact this
 have hsH:=sysH_len h kt kp
 have hB:∀i,HCl (sysH h kt kp (shutN T ps pid P i).1 (shutN T ps pid P i).2++[.cells (caC ca),.cells [.int .i64 0,.int .i64 0,.int .i64 0,.int .i64 0,.int .i64 0,.int .i64 0,.int .i64 0,.int .i64 0,.int .i64 0,.str [],.slice [] .full,.slice [] .full]]):=fun i=>by
  have:=HCl.snoc (HCl.snoc (b:=.cells (caC ca)) (sysH_cl hH kt kp (shutN T ps pid P i).1 (shutN T ps pid P i).2) (by simp [caC,Blk.cl,AV.cl,AV.clL,clL_bV, -List.map_map])) (b:=.cells [.int .i64 0,.int .i64 0,.int .i64 0,.int .i64 0,.int .i64 0,.int .i64 0,.int .i64 0,.int .i64 0,.int .i64 0,.str [],.slice [] .full,.slice [] .full]) (by simp [Blk.cl,AV.cl,AV.clL])
  rw [List.append_assoc] at this;exact this
 have h00:sysH h kt kp (shutN T ps pid P 0).1 (shutN T ps pid P 0).2=h:=sysH_self hy.t hkp
 refine rg_ [0,1,6] ?_
 refine sk_ fun K1 hK1=>?_
 refine rg_ [0,1,6,8] ?_
 refine awp_block ?_
 refine lp_ (X:={i:Nat // i≤3}) (fun x=>⟨Tryz.f76.ntmps,fget [(0,.ptr ks 0),(1,.ptr kp 0),(6,.ptr (h.length+1) 0),(8,.int .i64 (x.1:Nat))],sysH h kt kp (shutN T ps pid P x.1).1 (shutN T ps pid P x.1).2++[.cells (caC ca),.cells [.int .i64 0,.int .i64 0,.int .i64 0,.int .i64 0,.int .i64 0,.int .i64 0,.int .i64 0,.int .i64 0,.int .i64 0,.str [],.slice [] .full,.slice [] .full]],live⟩) (fun x=>3 - x.1) (⟨0,by omega⟩) ?_ (fun ⟨i,hi⟩=>?_)
 ·
  try dsimp only
  refine Trunc.of (by first | (rw [h00,List.append_nil]) | (rw [sysH_sysH _ _ hne hktl hkpl,List.append_nil];rfl)) ?_ (hB _) (fun _ h=>h)
  refine ftc_ ?_ (hc:=by first | exact trivial | (simp [AV.cl,AV.clL,sysH_len];done) | (simp [AV.cl,AV.clL,sysH_len];omega))
  refine ftc_ ?_ (hc:=by first | exact trivial | (simp [AV.cl,AV.clL,sysH_len];done) | (simp [AV.cl,AV.clL,sysH_len];omega))
  refine ftc_ ?_ (hc:=by first | exact trivial | (simp [AV.cl,AV.clL,sysH_len];done) | (simp [AV.cl,AV.clL,sysH_len];omega))
  refine ftc_ ?_ (hc:=by first | exact trivial | (simp [AV.cl,AV.clL,sysH_len];done) | (simp [AV.cl,AV.clL,sysH_len];omega))
  exact FTr.nil
 try dsimp only
 refine rg_ [0,1,6,8,9] ?_
 refine sk_ fun K2 hK2=>?_
 refine cx_ (fun hb1=>?_) (fun hb1=>?_)
 rotate_left
 ·
  have hie:i=3:=by omega
  subst hie
  have hg8:∀l j,(sysH h kt kp (shutN T ps pid P 3).1 (shutN T ps pid P 3).2++l)[h.length+j]? = l[j]? := fun l j=>get_set2 h kt kp _ _ l j
  have hg9:∀l j z,(sysH h kt kp (shutN T ps pid P 3).1 (shutN T ps pid P 3).2++l).set (h.length+j) z=sysH h kt kp (shutN T ps pid P 3).1 (shutN T ps pid P 3).2++l.set j z:=fun l j z=>set_set2 h kt kp _ _ z l j
  have sx:=And.intro hg8 (And.intro hg9 sx)
  refine awp_exit (up_ ?_)
  refine hK1 _ ?_
  refine rg_ [6] ?_
  refine ret_ ?_
  refine gq_ (h1:=sysH h kt kp _ _) Tryz.results76 ?_ (hh:=(⟨_,rfl⟩)) (hH:=(sysH_cl hH _ _ _ _)) (hle:=(Nat.le_of_eq (sysH_len _ _ _ _ _).symm))
  exact rk_ rfl
 refine skp_ ?_
 refine hK2 _ ?_
 refine sk_ fun K3 hK3=>?_
 refine awp_block ?_
 refine rg_ [0,1,6,7,8] ?_
 refine rt_ [0,1,6,8] ?_
 refine sg_ ?_
 refine cl_ (hc:=erx_ (ys:=[.ptr ks 0,.ptr kp 0,.agg (caC ⟨0,[],[],(i:Nat),0,[]⟩)]) (by simp only [List.map_cons,List.map_nil,AV.er,AV.erL];rfl) (hkpe▸c74 ks kt kb _ _ _ _ (hyN i).app pid _ (by rw [List.length_set];exact hpid) (List.getElem_set_self _) ⟨0,[],[],(i:Nat),0,[]⟩)) (k:=?_)
 refine rn_ (up_ ?_)
 refine hK3 _ ?_
 refine rt_ [0,1,6,8] ?_
 refine srn_ ?_
 refine ⟨⟨i+1,by omega⟩,?_,(by simp [sysH_len]),by dsimp only;omega⟩
 try dsimp only
 refine Trunc.of (by first | (rw [h00,List.append_nil]) | (rw [sysH_sysH _ _ hne hktl hkpl,List.append_nil];rfl)) ?_ (hB _) (fun _ h=>h)
 refine ftc_ ?_ (hc:=by first | exact trivial | (simp [AV.cl,AV.clL,sysH_len];done) | (simp [AV.cl,AV.clL,sysH_len];omega))
 refine ftc_ ?_ (hc:=by first | exact trivial | (simp [AV.cl,AV.clL,sysH_len];done) | (simp [AV.cl,AV.clL,sysH_len];omega))
 refine ftc_ ?_ (hc:=by first | exact trivial | (simp [AV.cl,AV.clL,sysH_len];done) | (simp [AV.cl,AV.clL,sysH_len];omega))
 refine ftc_ ?_ (hc:=by first | exact trivial | (simp [AV.cl,AV.clL,sysH_len];done) | (simp [AV.cl,AV.clL,sysH_len];omega))
 exact FTr.nil
end Go.Proofs.YtmgnbgniikjhdaaGreat
namespace Go.Proofs.YtmgnbgniikjhdaaGreat
open Go.Ab
set_option maxRecDepth 8000
set_option maxHeartbeats 400000
theorem c72 (ks kt kb:Nat) (T:Tab) (ps:List Pr) (h:List Blk) (live:List Nat) (hy:SysAt h ks kt kb T ps) (pid:Nat) (P:Pr) (hpid:pid<ps.length) (hP:ps[pid]=P) (ca:Ca):ACalls Tryz.prog 72 [.ptr ks 0,.ptr (kb+2*pid) 0,.agg (caC ca)] h live (ret (.agg (rsC (redF T P ca).1)) (h.set (kb+2*pid) (.cells (prC (redF T P ca).2))) live):=by
 have hkp:=hy.p pid hpid
 rw [hP] at hkp
 by_cases hi:0≤ca.a∧ca.a<3
 · exact y72 ks kt kb T ps h live hy _ P ca hkp (by have:=hy.tb;omega) ca.a.toNat (by omega) (by omega)
 ·
  have e:redF T P ca=(tol 9,P):=by unfold redF;rw [if_pos (.inl (by omega))]
  rw [e,set_self hkp]
  exact n72 _ _ ca h live (lt_of_get hkp) (by omega)
theorem c73 (ks kt kb:Nat) (T:Tab) (ps:List Pr) (h:List Blk) (live:List Nat) (hy:SysAt h ks kt kb T ps) (pid:Nat) (P:Pr) (hpid:pid<ps.length) (hP:ps[pid]=P) (ca:Ca) (hdat:ca.data.length≤1000):ACalls Tryz.prog 73 [.ptr ks 0,.ptr (kb+2*pid) 0,.agg (caC ca)] h live (ret (.agg (rsC (wriF T P ca).1)) (sysH h kt (kb+2*pid) (wriF T P ca).2.1 (wriF T P ca).2.2) live):=by
 have hkp:=hy.p pid hpid
 have hg:=hy.gs _ (List.getElem_mem hpid)
 rw [hP] at hkp hg
 by_cases hi:0≤ca.a∧ca.a<3
 · exact y73 ks kt kb T ps h live hy _ P ca hkp (by have:=hy.tb;omega) hg hdat ca.a.toNat (by omega) (by omega)
 ·
  have e:wriF T P ca=(tol 9,T,P):=by unfold wriF;rw [if_pos (.inl (by omega))]
  rw [e,sysH_self hy.t hkp]
  exact n73 _ _ ca h live (lt_of_get hkp) (by omega)
def doesL:List (AV×AV):=[(.int .i64 13,.fn (.func 71) [] []),(.int .i64 14,.fn (.func 72) [] []),(.int .i64 15,.fn (.func 73) [] []),(.int .i64 16,.fn (.func 74) [] []),(.int .i64 17,.fn (.func 75) [] []),(.int .i64 18,.fn (.func 76) [] [])]
theorem does_eq:(aput (.int .i64 18) (.fn (.func 76) [] []) (aput (.int .i64 17) (.fn (.func 75) [] []) (aput (.int .i64 16) (.fn (.func 74) [] []) (aput (.int .i64 15) (.fn (.func 73) [] []) (aput (.int .i64 14) (.fn (.func 72) [] []) (aput (.int .i64 13) (.fn (.func 71) [] []) []))))))=doesL:=by rfl
def stepF (T:Tab) (ps:List Pr) (pid:Nat) (P:Pr) (ca:Ca):Rs×Tab×Pr:=
 if ca.kind=13 then opnF T P ca
 else if ca.kind=14 then ((redF T P ca).1,T,(redF T P ca).2)
 else if ca.kind=15 then wriF T P ca
 else if ca.kind=16 then shutF T ps pid P ca.a
 else if ca.kind=17 then ((maskF P ca).1,T,(maskF P ca).2)
 else if ca.kind=18 then (tol 0,shutN T ps pid P 3)
 else if 1≤ca.kind∧ca.kind≤4 then (askF T P ca,T,P)
 else if 5≤ca.kind∧ca.kind≤12 then (tol (chaF T P ca (openL ps)).1,(chaF T P ca (openL ps)).2,P)
 else (tol 22,T,P)
theorem sysH_app (h g:List Blk) {kt kp:Nat} (ht:kt<h.length) (hp:kp<h.length) (T:Tab) (P:Pr):sysH (h++g) kt kp T P=sysH h kt kp T P++g:=by
 unfold sysH
 rw [List.set_append_left _ _ ht,List.set_append_left _ _ (by rw [List.length_set];exact hp)]
theorem six (f:FuncId) (r:Rs×Tab×Pr) (ks kt kb:Nat) (T:Tab) (ps:List Pr) (h:List Blk) (live:List Nat) (hy:SysAt h ks kt kb T ps) (pid:Nat) (P:Pr) (hpid:pid<ps.length) (hP:ps[pid]=P) (ca:Ca) (hpath:ca.path.length≤1000) (hdat:ca.data.length≤1000) (hk:13≤ca.kind∧ca.kind≤18) (hf:aget (.int .i64 ca.kind) doesL=some (.fn (.func f) [] [])) :
 ACalls Tryz.prog f [.ptr ks 0,.ptr (kb+2*pid) 0,.agg (caC ca)] h live (ret (.agg (rsC (stepF T ps pid P ca).1)) (sysH h kt (kb+2*pid) (stepF T ps pid P ca).2.1 (stepF T ps pid P ca).2.2) live):=by
 have hkp:=hy.p pid hpid
 have hg:=hy.gs _ (List.getElem_mem hpid)
 rw [hP] at hkp hg
 have hne:kt≠kb+2*pid:=by have:=hy.tb;omega
 rcases (show ca.kind=13∨ca.kind=14∨ca.kind=15∨ca.kind=16∨ca.kind=17∨ca.kind=18 by omega) with e | e | e | e | e | e
 ·
  rw [e] at hf;cases hf
  have es:stepF T ps pid P ca=opnF T P ca:=by unfold stepF;rw [if_pos e]
  rw [es];exact c71 ks kt kb T ps h live hy _ P ca hkp hne hg hpath
 ·
  rw [e] at hf;cases hf
  have es:stepF T ps pid P ca=((redF T P ca).1,T,(redF T P ca).2):=by unfold stepF;rw [if_neg (by omega),if_pos e]
  rw [es,sysH_pr _ hy.t];exact c72 ks kt kb T ps h live hy pid P hpid hP ca
 ·
  rw [e] at hf;cases hf
  have es:stepF T ps pid P ca=wriF T P ca:=by unfold stepF;rw [if_neg (by omega),if_neg (by omega),if_pos e]
  rw [es];exact c73 ks kt kb T ps h live hy pid P hpid hP ca hdat
 ·
  rw [e] at hf;cases hf
  have es:stepF T ps pid P ca=shutF T ps pid P ca.a:=by unfold stepF;rw [if_neg (by omega),if_neg (by omega),if_neg (by omega),if_pos e]
  rw [es];exact c74 ks kt kb T ps h live hy pid P hpid hP ca
 ·
  rw [e] at hf;cases hf
  have es:stepF T ps pid P ca=((maskF P ca).1,T,(maskF P ca).2):=by unfold stepF;rw [if_neg (by omega),if_neg (by omega),if_neg (by omega),if_neg (by omega),if_pos e]
  rw [es,sysH_pr _ hy.t];exact c75 _ h live _ P ca hkp
 ·
  rw [e] at hf;cases hf
  have es:stepF T ps pid P ca=(tol 0,shutN T ps pid P 3):=by unfold stepF;rw [if_neg (by omega),if_neg (by omega),if_neg (by omega),if_neg (by omega),if_neg (by omega),if_pos e]
  rw [es];exact c76 ks kt kb T ps h live hy pid P hpid hP ca
end Go.Proofs.YtmgnbgniikjhdaaGreat
namespace Go.Proofs.YtmgnbgniikjhdaaGreat
open Go.Ab
set_option maxRecDepth 8000
set_option maxHeartbeats 400000
theorem n43 (ks kt kb:Nat) (T:Tab) (ps:List Pr) (h:List Blk) (live:List Nat) (hy:SysAt h ks kt kb T ps) (pid:Int) (hp:pid<0∨(ps.length:Int)≤pid) (ca:Ca):AC Tryz.prog 43 [.ptr ks 0,.int .i64 pid,.agg (caC ca)] h live (.agg (rsC (tol 22))):=by
 refine aq_ Tryz.func43 fun hH hX=>?_
 refine rg_ [0,1,5,6] ?_
 refine rs_ [0,5,6,7] ?_
 refine sg_ ?_
 refine cl_ (hc:=n69 ks kt kb T ps _ _ hy.app pid hp) (k:=?_)
 refine sre_ ?_
 refine sk_ fun K1 hK1=>?_
 refine rg_ [0,5,6,7,15] ?_
 refine cdy_ (ht:=fun hb1=>?_) (hf:=fun hb1=>?_)
 ·
  refine rs_ [6] ?_
  refine cl_ (hc:=c70 _ _ _) (k:=?_)
  refine srt_ ?_
  refine fq_ Tryz.results43 ?_
  exact rk_ rfl
 exfalso;exact Bool.noConfusion hb1
theorem s43 (f:FuncId) (ks kt kb:Nat) (T:Tab) (ps:List Pr) (h:List Blk) (live:List Nat) (hy:SysAt h ks kt kb T ps) (pid:Nat) (P:Pr) (hpid:pid<ps.length) (hP:ps[pid]=P) (ca:Ca) (hpath:ca.path.length≤1000) (hoth:ca.other.length≤1000) (hdat:ca.data.length≤1000) (hk:13≤ca.kind∧ca.kind≤18) (hf:aget (.int .i64 ca.kind) doesL=some (.fn (.func f) [] [])):ACalls Tryz.prog 43 [.ptr ks 0,.int .i64 (pid:Nat),.agg (caC ca)] h live (ret (.agg (rsC (stepF T ps pid P ca).1)) (sysH h kt (kb+2*pid) (stepF T ps pid P ca).2.1 (stepF T ps pid P ca).2.2) live):=by
 refine aq_ Tryz.func43 fun hH hX=>?_
 obtain ⟨kp,hkpe⟩:∃kp,kb+2*pid=kp:=⟨_,rfl⟩
 have hkp:h[kp]? = some (.cells (prC P)):=by have:=hy.p pid hpid;rw [hP,hkpe] at this;exact this
 have hg:=hy.gs _ (List.getElem_mem hpid)
 rw [hP] at hg
 have hne:kt≠kp:=by have:=hy.tb;omega
 simp only [hkpe]
 have hkt:=hy.t
 have hktl:=lt_of_get hy.t
 have hksl:=lt_of_get hy.s
 have hkpl:=lt_of_get hkp
 have hpc:∀g:List Blk,ACalls Tryz.prog 69 [.ptr ks 0,.int .i64 (pid:Nat)] (h++g) live (ret (.ptr kp 0) (h++g) live):=fun g=>by rw [←hkpe];exact c69 ks kt kb T ps _ _ hy.app pid hpid
 have hsa:∀(g:List Blk) (T:Tab) (P:Pr),sysH (h++g) kt kp T P=sysH h kt kp T P++g:=fun g T P=>sysH_app h g hktl hkpl T P
 have hg8:∀(T:Tab) (P:Pr) (l:List Blk) (j:Nat),(sysH h kt kp T P++l)[h.length+j]? = l[j]? := fun T P l j=>get_set2 h kt kp _ _ l j
 have hg9:∀(T:Tab) (P:Pr) (l:List Blk) (j:Nat) (z:Blk),(sysH h kt kp T P++l).set (h.length+j) z=sysH h kt kp T P++l.set j z:=fun T P l j z=>set_set2 h kt kp _ _ z l j
 have hlk:∀m z,alookup m z true (.int .i64 ca.kind) doesL=.tup [.fn (.func f) [] [],.bool true]:=fun m z=>by unfold alookup;rw [hf];rfl
 have hsx:∀g:List Blk,ACalls Tryz.prog f [.ptr ks 0,.ptr kp 0,.agg (caC ca)] (h++g) live (ret (.agg (rsC (stepF T ps pid P ca).1)) (sysH (h++g) kt kp (stepF T ps pid P ca).2.1 (stepF T ps pid P ca).2.2) live):=fun g=>by rw [←hkpe];exact six f (tol 0,T,P) ks kt kb T ps _ _ hy.app pid P hpid hP ca hpath hdat hk hf
 have sx:=(And.intro @does_eq (And.intro @hlk (And.intro @hsa (And.intro @hg8 (And.intro @hg9 sx0)))))
 refine rg_ [0,1,5,6] ?_
 refine rs_ [0,5,6,7] ?_
 refine sg_ ?_
 refine cl_ (hc:=hpc _) (k:=?_)
 refine sre_ ?_
 refine sk_ fun K1 hK1=>?_
 refine rg_ [0,5,6,7,15] ?_
 refine cdn_ (ht:=fun hb1=>?_) (hf:=fun hb1=>?_)
 · exfalso;exact Bool.noConfusion hb1
 refine skp_ ?_
 refine hK1 _ ?_
 refine rs_ [0,5,6,7,8] ?_
 refine dawp_w rfl rfl rfl rfl (AOp.makeMap _ rfl ?_)
 iterate 6 (refine dawp_wn rfl rfl rfl (AOp.insert _ _ _ _ rfl Ty.mapT_173 (by (simp (disch:=omega) only [push_cast,↓reduceIte,Nat.reduceEqDiff,Nat.reduceAdd,Nat.reduceLeDiff,sx])<;>rfl) (by (simp (disch:=omega) only [push_cast,↓reduceIte,Nat.reduceEqDiff,Nat.reduceAdd,Nat.reduceLeDiff,sx])<;>rfl) (by (simp (disch:=omega) only [push_cast,↓reduceIte,Nat.reduceEqDiff,Nat.reduceAdd,Nat.reduceLeDiff,sx])<;>rfl) (by (simp (disch:=omega) only [push_cast,↓reduceIte,Nat.reduceEqDiff,Nat.reduceAdd,Nat.reduceLeDiff,sx])<;>rfl) rfl rfl ?_))
 refine sre_ ?_
 refine sk_ fun K2 hK2=>?_
 refine rs_ [0,5,6,7,9,10] ?_
 refine sg_ ?_
 refine dawp_r rfl rfl rfl rfl (AOp.lookup _ _ _ _ rfl Ty.mapT_173 Ty.azero_171 (by (simp (disch:=omega) only [push_cast,↓reduceIte,Nat.reduceEqDiff,Nat.reduceAdd,Nat.reduceLeDiff,sx])<;>rfl) rfl (by (simp (disch:=omega) only [entsOf_map,entsOf_nil,entsBlk_map,push_cast,↓reduceIte,Nat.reduceEqDiff,Nat.reduceAdd,Nat.reduceLeDiff,sx])<;>rfl) rfl) ?_
 refine sre_ ?_
 refine awp_block ?_
 refine rg_ [0,5,6,7,9,26] ?_
 refine cdy_ (ht:=fun hb2=>?_) (hf:=fun hb2=>?_)
 ·
  refine rs_ [6] ?_
  refine sg_ ?_
  refine cl_ (hc:=hsx _) (k:=?_)
  refine srt_ ?_
  refine gq_ (h1:=sysH h kt kp _ _) Tryz.results43 ?_ (hh:=(⟨_,rfl⟩)) (hH:=(sysH_cl hH _ _ _ _)) (hle:=(Nat.le_of_eq (sysH_len _ _ _ _ _).symm))
  exact rk_ rfl
 exfalso;exact Bool.noConfusion hb2
theorem o43 (ks kt kb:Nat) (T:Tab) (ps:List Pr) (h:List Blk) (live:List Nat) (hy:SysAt h ks kt kb T ps) (pid:Nat) (P:Pr) (hpid:pid<ps.length) (hP:ps[pid]=P) (ca:Ca) (hpath:ca.path.length≤1000) (hoth:ca.other.length≤1000) (hdat:ca.data.length≤1000) (hk:ca.kind<13∨18<ca.kind):ACalls Tryz.prog 43 [.ptr ks 0,.int .i64 (pid:Nat),.agg (caC ca)] h live (ret (.agg (rsC (stepF T ps pid P ca).1)) (sysH h kt (kb+2*pid) (stepF T ps pid P ca).2.1 (stepF T ps pid P ca).2.2) live):=by
 refine aq_ Tryz.func43 fun hH hX=>?_
 obtain ⟨kp,hkpe⟩:∃kp,kb+2*pid=kp:=⟨_,rfl⟩
 have hkp:h[kp]? = some (.cells (prC P)):=by have:=hy.p pid hpid;rw [hP,hkpe] at this;exact this
 have hg:=hy.gs _ (List.getElem_mem hpid)
 rw [hP] at hg
 have hne:kt≠kp:=by have:=hy.tb;omega
 simp only [hkpe]
 have hkt:=hy.t
 have hktl:=lt_of_get hy.t
 have hksl:=lt_of_get hy.s
 have hkpl:=lt_of_get hkp
 have hpc:∀g:List Blk,ACalls Tryz.prog 69 [.ptr ks 0,.int .i64 (pid:Nat)] (h++g) live (ret (.ptr kp 0) (h++g) live):=fun g=>by rw [←hkpe];exact c69 ks kt kb T ps _ _ hy.app pid hpid
 have hsa:∀(g:List Blk) (T:Tab) (P:Pr),sysH (h++g) kt kp T P=sysH h kt kp T P++g:=fun g T P=>sysH_app h g hktl hkpl T P
 have hg8:∀(T:Tab) (P:Pr) (l:List Blk) (j:Nat),(sysH h kt kp T P++l)[h.length+j]? = l[j]? := fun T P l j=>get_set2 h kt kp _ _ l j
 have hg9:∀(T:Tab) (P:Pr) (l:List Blk) (j:Nat) (z:Blk),(sysH h kt kp T P++l).set (h.length+j) z=sysH h kt kp T P++l.set j z:=fun T P l j z=>set_set2 h kt kp _ _ z l j
 have hf:aget (.int .i64 ca.kind) doesL=none:=by
  have h1:∀n:Int,n=13∨n=14∨n=15∨n=16∨n=17∨n=18→keyEq (.int .i64 n) (.int .i64 ca.kind)=false:=fun n hn=>by simp [keyEq];omega
  simp [doesL,aget,h1]
 have hlk:∀m z,alookup m z true (.int .i64 ca.kind) doesL=.tup [z,.bool false]:=fun m z=>by unfold alookup;rw [hf];rfl
 have hst:stepF T ps pid P ca=if 1≤ca.kind∧ca.kind≤4 then (askF T P ca,T,P) else if 5≤ca.kind∧ca.kind≤12 then (tol (chaF T P ca (openL ps)).1,(chaF T P ca (openL ps)).2,P) else (tol 22,T,P):=by
  unfold stepF;rw [if_neg (by omega),if_neg (by omega),if_neg (by omega),if_neg (by omega),if_neg (by omega),if_neg (by omega)]
 have hs1:∀(y:Blk) (g:List Blk),(h++g).set kt y=h.set kt y++g:=fun y g=>setApp hkt
 have hsl:∀y:Blk,(h.set kt y).length=h.length:=fun y=>List.length_set ..
 have sx:=(And.intro @does_eq (And.intro @hlk (And.intro @hs1 (And.intro @hsl sx0))))
 refine rg_ [0,1,5,6] ?_
 refine rs_ [0,5,6,7] ?_
 refine sg_ ?_
 refine cl_ (hc:=hpc _) (k:=?_)
 refine sre_ ?_
 refine sk_ fun K1 hK1=>?_
 refine rg_ [0,5,6,7,15] ?_
 refine cdn_ (ht:=fun hb1=>?_) (hf:=fun hb1=>?_)
 · exfalso;exact Bool.noConfusion hb1
 refine skp_ ?_
 refine hK1 _ ?_
 refine rs_ [0,5,6,7,8] ?_
 refine dawp_w rfl rfl rfl rfl (AOp.makeMap _ rfl ?_)
 iterate 6 (refine dawp_wn rfl rfl rfl (AOp.insert _ _ _ _ rfl Ty.mapT_173 (by (simp (disch:=omega) only [push_cast,↓reduceIte,Nat.reduceEqDiff,Nat.reduceAdd,Nat.reduceLeDiff,sx])<;>rfl) (by (simp (disch:=omega) only [push_cast,↓reduceIte,Nat.reduceEqDiff,Nat.reduceAdd,Nat.reduceLeDiff,sx])<;>rfl) (by (simp (disch:=omega) only [push_cast,↓reduceIte,Nat.reduceEqDiff,Nat.reduceAdd,Nat.reduceLeDiff,sx])<;>rfl) (by (simp (disch:=omega) only [push_cast,↓reduceIte,Nat.reduceEqDiff,Nat.reduceAdd,Nat.reduceLeDiff,sx])<;>rfl) rfl rfl ?_))
 refine sre_ ?_
 refine sk_ fun K2 hK2=>?_
 refine rs_ [0,5,6,7,9,10] ?_
 refine sg_ ?_
 refine dawp_r rfl rfl rfl rfl (AOp.lookup _ _ _ _ rfl Ty.mapT_173 Ty.azero_171 (by (simp (disch:=omega) only [push_cast,↓reduceIte,Nat.reduceEqDiff,Nat.reduceAdd,Nat.reduceLeDiff,sx])<;>rfl) rfl (by (simp (disch:=omega) only [entsOf_map,entsOf_nil,entsBlk_map,push_cast,↓reduceIte,Nat.reduceEqDiff,Nat.reduceAdd,Nat.reduceLeDiff,sx])<;>rfl) rfl) ?_
 refine sre_ ?_
 refine awp_block ?_
 refine rg_ [0,5,6,7,9,26] ?_
 refine cdn_ (ht:=fun hb2=>?_) (hf:=fun hb2=>?_)
 · exfalso;exact Bool.noConfusion hb2
 refine rg_ [0,5,6,7,33] ?_
 refine cx_ (fun hb3=>?_) (fun hb3=>?_)
 ·
  refine rs_ [6] ?_
  refine sg_ ?_
  refine cl_ (hc:=c77 ks kt kb T ps _ _ hy.app kp P ca (atApp hkp) hg hpath) (k:=?_)
  refine srt_ ?_
  refine gq_ (h1:=sysH h kt kp T P) Tryz.results43 ?_ (hh:=(by rw [sysH_self hkt hkp];exact ⟨_,rfl⟩)) (hH:=(sysH_cl hH _ _ _ _)) (hle:=(Nat.le_of_eq (sysH_len _ _ _ _ _).symm))
  exact ⟨by rw [hst,if_pos hb3],by rw [hst,if_pos hb3],rfl⟩
 refine rg_ [0,5,6,7,46] ?_
 refine cx_ (fun hb4=>?_) (fun hb4=>?_)
 ·
  refine rs_ [6] ?_
  refine sg_ ?_
  refine cl_ (hc:=c78 ks kt kb T ps _ _ hy.app kp P ca (atApp hkp) hg hpath hoth) (k:=?_)
  refine srt_ ?_
  refine gq_ (h1:=sysH h kt kp _ P) Tryz.results43 ?_ (hh:=(by rw [sysH_tab _ hkp hne];exact ⟨_,rfl⟩)) (hH:=(sysH_cl hH _ _ _ _)) (hle:=(Nat.le_of_eq (sysH_len _ _ _ _ _).symm))
  exact ⟨by rw [hst,if_neg (by omega),if_pos hb4],by rw [hst,if_neg (by omega),if_pos hb4],rfl⟩
 refine skp_ ?_
 refine hK2 _ ?_
 refine rs_ [6] ?_
 refine cl_ (hc:=c70 _ _ _) (k:=?_)
 refine srt_ ?_
 refine gq_ (h1:=sysH h kt kp T P) Tryz.results43 ?_ (hh:=(by rw [sysH_self hkt hkp];exact ⟨_,rfl⟩)) (hH:=(sysH_cl hH _ _ _ _)) (hle:=(Nat.le_of_eq (sysH_len _ _ _ _ _).symm))
 exact ⟨by rw [hst,if_neg (by omega),if_neg (by omega)],by rw [hst,if_neg (by omega),if_neg (by omega)],rfl⟩
end Go.Proofs.YtmgnbgniikjhdaaGreat
