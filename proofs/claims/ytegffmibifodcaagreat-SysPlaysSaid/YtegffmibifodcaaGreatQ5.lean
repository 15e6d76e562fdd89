import Derived.Test.YtegffmibifodcaaGreatQ4
import Derived.Test.YtegffmibifodcaaGreatAb24
/-
  THE DOCUMENT: what a call does to a system.
-/
set_option linter.unusedVariables false
set_option linter.unusedSimpArgs false
namespace Go.Proofs.YtegffmibifodcaaGreat
open Go.Ab
set_option maxRecDepth 8000
set_option maxHeartbeats 400000
theorem mask0 (m:Int):bits .and .i64 m 511=(maskX m 0:Nat):=by
 have h1:=maskX_lt m 0
 have e:maskX m 0=(BitVec.ofInt 64 m &&& BitVec.ofInt 64 511).toNat:=by
  unfold maskX
  rw [show ~~~(BitVec.ofInt 64 0)=BitVec.allOnes 64 by decide,BitVec.and_allOnes]
 show IntKind.i64.wrap ((BitVec.ofInt 64 m &&& BitVec.ofInt 64 511).toNat:Nat)=_
 rw [←e,IntWalk.i64_in _ (by omega)]
theorem wrap_le (n:Int):IntKind.i64.wrap n≤9223372036854775807:=by rw [IntKind.wrap_i64];omega
theorem put_off {P:Pr} (h:∀k,k<3→(P.fd k).off≤9223372036854775807) {i:Nat} {f:Fde} (hf:f.off≤9223372036854775807):∀k,k<3→((P.put i f).fd k).off≤9223372036854775807:=fun k hk=>by
 have h0:=h 0 (by omega);have h1:=h 1 (by omega);have h2:=h 2 (by omega)
 unfold Pr.put
 rcases (show k=0∨k=1∨k=2 by omega) with rfl | rfl | rfl<;>split<;>first | exact hf | exact h0 | exact h1 | exact h2
theorem shut_off {T:Tab} {ps:List Pr} {pid:Nat} {P:Pr} {a:Int} (h:∀k,k<3→(P.fd k).off≤9223372036854775807):∀k,k<3→((shutF T ps pid P a).2.2.fd k).off≤9223372036854775807:=by
 unfold shutF
 split
 · exact h
 · exact put_off h (by decide)
theorem step_off {T:Tab} {ps:List Pr} {pid:Nat} {P:Pr} {ca:Ca} (h:∀k,k<3→(P.fd k).off≤9223372036854775807):∀k,k<3→((stepF T ps pid P ca).2.2.fd k).off≤9223372036854775807:=by
 have hopn:∀i,∀k,k<3→((opnAt T P ca i).2.2.fd k).off≤9223372036854775807:=fun i=>by
  unfold opnAt
  split
  · exact h
  · exact put_off h (by show (0:Int)≤_;decide)
 unfold stepF
 split
 ·
  unfold opnF
  split
  · exact hopn 0
  ·
   split
   · exact hopn 1
   ·
    split
    · exact hopn 2
    · exact h
 ·
  split
  ·
   show ∀k,k<3→((redF T P ca).2.fd k).off≤_
   unfold redF
   split
   · exact h
   · exact put_off h (wrap_le _)
  ·
   split
   ·
    unfold wriF
    split
    · exact h
    ·
     split
     · exact h
     · exact put_off h (wrap_le _)
   ·
    split
    · exact shut_off h
    ·
     split
     ·
      intro k hk
      have:=h k hk
      rcases (show k=0∨k=1∨k=2 by omega) with rfl | rfl | rfl<;>exact this
     ·
      split
      ·
       show ∀k,k<3→((shutN T ps pid P 3).2.fd k).off≤_
       exact shut_off (shut_off (shut_off h))
      ·
       split
       · exact h
       ·
        split
        · exact h
        · exact h
theorem DocI.next {T:Tab} {ps:List Pr} (hd:DocI T ps) (pid:Int) (ca:Ca):DocI (doF T ps pid ca).2.1 (doF T ps pid ca).2.2 where
 gd:=doF_gd hd.gd ps pid ca
 tree:=doF_tree hd.gd hd.tree pid ca
 len:=by rw [doF_len];exact hd.len
 gs:=fun Q hQ=>by
  unfold doF at hQ
  split at hQ
  ·
   rename_i hp
   rcases List.mem_or_eq_of_mem_set hQ with h1 | rfl
   · exact hd.gs Q h1
   ·
    rw [(stepF_gd hd.gd ps _ _ ca).2,List.getD_eq_getElem?_getD,List.getElem?_eq_getElem (by omega)]
    exact hd.gs _ (List.getElem_mem _)
  · exact hd.gs Q hQ
 off:=fun Q hQ=>by
  unfold doF at hQ
  split at hQ
  ·
   rename_i hp
   rcases List.mem_or_eq_of_mem_set hQ with h1 | rfl
   · exact hd.off Q h1
   ·
    refine step_off ?_
    rw [List.getD_eq_getElem?_getD,List.getElem?_eq_getElem (by omega)]
    exact hd.off _ (List.getElem_mem _)
  · exact hd.off Q hQ
theorem c50 (T:Tab) (ps:List Pr) (pid:Nat) (P:Pr) (hpid:pid<ps.length) (hP:ps[pid]=P) (ca:Ca) (h:List Blk) (live:List Nat) (hd:DocI T ps) (hk:ca.kind=14∨ca.kind=15∨ca.kind=16) (hdl:ca.data.length≤1000):ACalls Tryz.prog 50 [sV T ps,.int .i64 (pid:Nat),.agg (cvC ca)] h live (ret (.tup [sV (datF T ps pid P ca).2.1 (ps.set pid (datF T ps pid P ca).2.2),.agg (rvC (datF T ps pid P ca).1)]) h live):=by
 by_cases hi:ca.a<0∨3≤ca.a
 · exact n50 T ps pid P hpid hP ca h live hi
 ·
  obtain ⟨i,hca⟩:=Int.eq_ofNat_of_zero_le (show 0≤ca.a by omega)
  exact y50 T ps pid P hpid hP ca i h live hca (by omega) hd hk hdl
theorem step_dat {T:Tab} {ps:List Pr} {pid:Nat} {P:Pr} {ca:Ca} (hk:ca.kind=14∨ca.kind=15∨ca.kind=16):stepF T ps pid P ca=datF T ps pid P ca:=by
 unfold stepF datF
 rcases hk with k | k | k
 · rw [if_neg (by omega),if_pos k,if_pos k]
 · rw [if_neg (by omega),if_neg (by omega),if_pos k,if_neg (by omega),if_pos k]
 · rw [if_neg (by omega),if_neg (by omega),if_neg (by omega),if_pos k,if_neg (by omega),if_neg (by omega)]
theorem shutN_nn {T:Tab} {ps:List Pr} {pid:Nat} {P:Pr} (h:∀k,k<3→0≤(P.fd k).node):∀n,n≤3→∀k,k<3→0≤((shutN T ps pid P n).2.fd k).node
 | 0, _=>h
 | n+1,hn=>fun k hk=>by
  have ih:=shutN_nn (T:=T) (ps:=ps) (pid:=pid) h n (by omega)
  show 0≤((shutF (shutN T ps pid P n).1 (ps.set pid (shutN T ps pid P n).2) pid (shutN T ps pid P n).2 (n:Nat)).2.2.fd k).node
  rw [shutF_y rfl (show n<3 by omega)]
  split
  · exact ih k hk
  ·
   by_cases e:k=n
   · subst e;rw [fd_put_same _ _ hk];decide
   · rw [fd_put_ne _ _ (by omega) hk e];exact ih k hk
theorem NN.set {ps:List Pr} (h:NN ps) {pid:Nat} {Q:Pr} (hQ:∀i,i<3→0≤(Q.fd i).node):NN (ps.set pid Q):=fun R hR k hk=>by
 rcases List.mem_or_eq_of_mem_set hR with h1 | rfl
 · exact h R h1 k hk
 · exact hQ k hk
structure ShI (T:Tab) (ps:List Pr) (pid:Nat) (P:Pr) (i:Nat) (T1:Tab) (ps1:List Pr) (P1:Pr):Prop where
 le:i≤3
 tb:T1=(shutN T ps pid P i).1
 pr:P1=(shutN T ps pid P i).2
 al:ps1=ps.set pid P1
theorem ShI.len {T:Tab} {ps:List Pr} {pid:Nat} {P:Pr} {i:Nat} {T1:Tab} {ps1:List Pr} {P1:Pr} (h:ShI T ps pid P i T1 ps1 P1):ps1.length=ps.length:=by rw [h.al,List.length_set]
theorem ShI.get {T:Tab} {ps:List Pr} {pid:Nat} {P:Pr} {i:Nat} {T1:Tab} {ps1:List Pr} {P1:Pr} (h:ShI T ps pid P i T1 ps1 P1) (hp:pid<ps.length):ps1[pid]'(by rw [h.len];exact hp)=P1:=by
 have:=h.al;subst this;simp
theorem ShI.nx {T:Tab} {ps:List Pr} {pid:Nat} {P:Pr} {i:Nat} {T1:Tab} {ps1:List Pr} {P1:Pr} (h:ShI T ps pid P i T1 ps1 P1) (hi:i<3) (hz:(P1.fd i).node=0):ShI T ps pid P (i+1) T1 ps1 P1:=by
 obtain ⟨h1,h2,h3,h4⟩:=h
 have e:shutN T ps pid P (i+1)=(T1,P1):=by
  show (shutF (shutN T ps pid P i).1 (ps.set pid (shutN T ps pid P i).2) pid (shutN T ps pid P i).2 (i:Nat)).2=_
  rw [shutF_y rfl hi,←h2,←h3,if_pos hz]
 exact ⟨hi,by rw [e],by rw [e],h4⟩
theorem ShI.ny {T:Tab} {ps:List Pr} {pid:Nat} {P:Pr} {i:Nat} {T1:Tab} {ps1:List Pr} {P1:Pr} (h:ShI T ps pid P i T1 ps1 P1) (hi:i<3) (hz:(P1.fd i).node≠0):ShI T ps pid P (i+1) (freeF T1 (P1.fd i).node (openL (ps1.set pid (P1.put i fd0)))).2 (ps1.set pid (P1.put i fd0)) (P1.put i fd0):=by
 obtain ⟨h1,h2,h3,h4⟩:=h
 have e:shutN T ps pid P (i+1)=((freeF T1 (P1.fd i).node (openL (ps1.set pid (P1.put i fd0)))).2,P1.put i fd0):=by
  show (shutF (shutN T ps pid P i).1 (ps.set pid (shutN T ps pid P i).2) pid (shutN T ps pid P i).2 (i:Nat)).2=_
  rw [shutF_y rfl hi,←h2,←h3,if_neg hz,←h4]
 exact ⟨hi,by rw [e],by rw [e],by rw [h4,List.set_set]⟩
end Go.Proofs.YtegffmibifodcaaGreat

/-
  THE DOCUMENT: a call of a process.
-/
namespace Go.Proofs.YtegffmibifodcaaGreat
open Go.Ab
set_option maxRecDepth 8000
set_option maxHeartbeats 400000
theorem doF_out {T:Tab} {ps:List Pr} {pid:Int} {ca:Ca} (h:pid<0∨(ps.length:Int)≤pid∨ca.kind<1∨18<ca.kind):doF T ps pid ca=(tol 22,T,ps):=by
 unfold doF
 split
 ·
  rename_i hp
  have hn:pid.toNat<ps.length:=by omega
  have e:stepF T ps pid.toNat (ps.getD pid.toNat pr0) ca=(tol 22,T,ps.getD pid.toNat pr0):=by
   unfold stepF
   rw [if_neg (by omega),if_neg (by omega),if_neg (by omega),if_neg (by omega),if_neg (by omega),if_neg (by omega),if_neg (by omega),if_neg (by omega)]
  rw [e,pr_self hn (pr_getD hn rfl).symm]
 · rfl
theorem doF_in {T:Tab} {ps:List Pr} {pid:Nat} {P:Pr} {ca:Ca} (hp:pid<ps.length) (hP:ps[pid]=P):doF T ps (pid:Int) ca=((stepF T ps pid P ca).1,(stepF T ps pid P ca).2.1,ps.set pid (stepF T ps pid P ca).2.2):=by
 unfold doF
 rw [if_pos ⟨by omega,by omega⟩,Int.toNat_natCast,pr_getD hp hP]
theorem o16 (T:Tab) (ps:List Pr) (pid:Int) (ca:Ca) (h:List Blk) (live:List Nat) (hl:ps.length≤1000) (ho:pid<0∨(ps.length:Int)≤pid∨ca.kind<1∨18<ca.kind):AC Tryz.prog 16 [sV T ps,.int .i64 pid,.agg (cvC ca)] h live (.tup [sV (doF T ps pid ca).2.1 (doF T ps pid ca).2.2,.agg (rvC (doF T ps pid ca).1)]):=by
 refine aq_ Tryz.func16 fun hH hX=>?_
 unfold sV
 have hda:=doF_out (T:=T) ho
 refine rg_ [1,3,5,6,7] ?_
 refine sk_ fun K1 hK1=>?_
 refine rg_ [1,3,5,6,7,29] ?_
 refine cy_ (fun hb1=>?_) (fun hb1=>?_)
 ·
  refine rg_ [6,7] ?_
  refine ret_ ?_
  refine fq_ Tryz.results16 ?_
  exact rk_ (by rw [hda];rfl)
 exfalso
 simp only [Bool.or_eq_false_iff,decide_eq_false_iff_not,List.length_map] at hb1
 omega
theorem y16 (T:Tab) (ps:List Pr) (pid:Nat) (P:Pr) (ca:Ca) (h:List Blk) (live:List Nat) (hpid:pid<ps.length) (hP:ps[pid]=P) (hk:1≤ca.kind∧ca.kind≤18) (hd:DocI T ps) (hpath:ca.path.length≤1000) (hoth:ca.other.length≤1000) (hdat:ca.data.length≤1000):AC Tryz.prog 16 [sV T ps,.int .i64 (pid:Nat),.agg (cvC ca)] h live (.tup [sV (doF T ps (pid:Int) ca).2.1 (doF T ps (pid:Int) ca).2.2,.agg (rvC (doF T ps (pid:Int) ca).1)]):=by
 refine aq_ Tryz.func16 fun hH hX=>?_
 unfold sV
 have hPg:=pr_getD hpid hP
 have hPs:=pr_self hpid hP
 have hPm:P∈ps:=hP▸List.getElem_mem hpid
 have hnP:=hd.nn P hPm
 have hgs:=hd.gs P hPm
 have hda:=doF_in (T:=T) (ca:=ca) hpid hP
 have hlen:=hd.len
 have hB:∀(T:Tab) (ps:List Pr),HCl (h++[.cells [.slice ((refL T).map nV) .none,.slice (ps.map pV) .none],.cells (cvC ca),.cells [.slice [] .full,.slice [] .full],.cells [.int .i64 0,.int .i64 0,.int .i64 0,.int .i64 0,.int .i64 0,.int .i64 0,.int .i64 0,.int .i64 0,.int .i64 0,.str [],.slice [] .full,.str []],.cells (pvC P)]):=fun (T:Tab) (ps:List Pr)=>by
  have:=(((((HCl.snoc hH (b:=.cells [.slice ((refL T).map nV) .none,.slice (ps.map pV) .none]) (by exact ⟨clL_nV _ _,clL_pV _ _,trivial⟩)).snoc (b:=.cells (cvC ca)) (by simp [cvC,Blk.cl,AV.cl,AV.clL])).snoc (b:=.cells [.slice [] .full,.slice [] .full]) (by simp [Blk.cl,AV.cl,AV.clL])).snoc (b:=.cells [.int .i64 0,.int .i64 0,.int .i64 0,.int .i64 0,.int .i64 0,.int .i64 0,.int .i64 0,.int .i64 0,.int .i64 0,.str [],.slice [] .full,.str []]) (by simp [Blk.cl,AV.cl,AV.clL])).snoc (b:=.cells (pvC P)) (clL_pvC _ _))
  simp only [List.append_assoc] at this;exact this
 have sx:=(And.intro @hPg sx0)
 refine rg_ [1,3,5,6,7] ?_
 refine sk_ fun K1 hK1=>?_
 refine rg_ [1,3,5,6,7,29] ?_
 refine cy_ (fun hb1=>?_) (fun hb1=>?_)
 ·
  exfalso
  rw [decide_eq_false (show ¬((pid:Int)<0) by omega)] at hb1
  simp only [cond_false,Bool.or_eq_true,Bool.false_or,decide_eq_true_eq,List.length_map] at hb1
  omega
 refine skp_ ?_
 refine hK1 _ ?_
 refine rg_ [1,3,5,6,7,8] ?_
 refine sk_ fun K2 hK2=>?_
 refine rg_ [1,3,5,6,7,8,39] ?_
 refine cx_ (fun hb2=>?_) (fun hb2=>?_)
 ·
  have hst:stepF T ps pid P ca=(askF T P ca,T,P):=by unfold stepF;rw [if_neg (show ¬ca.kind=13 by omega),if_neg (show ¬ca.kind=14 by omega),if_neg (show ¬ca.kind=15 by omega),if_neg (show ¬ca.kind=16 by omega),if_neg (show ¬ca.kind=17 by omega),if_neg (show ¬ca.kind=18 by omega),if_pos ⟨by omega,by omega⟩]
  refine rsq_ [6,7] ⟨false,[(h.length,0,.agg 2),(h.length+4,0,.agg 3),(h.length+1,0,.agg 6)],[40,41,43,44],[6,7],[],[45],h.length⟩ (fun _=>⟨by kernel_rfl,by kernel_rfl⟩) ?_
  refine df_ ?_
  refine df_ ?_
  refine sg_ ?_
  refine df_ ?_
  refine df_ ?_
  refine ds_ (hc:=fun h' l' hs=>c47 T ps P ca _ _ hd hgs hpath hoth) (k:=?_)
  refine dgs_ ?_
  refine dgs_ ?_
  refine re_ ?_
  refine ret_ ?_
  refine fq_ Tryz.results16 ?_
  exact rk_ (by rw [hda,hst,hPs];try rfl)
 refine skp_ ?_
 refine hK2 _ ?_
 refine sk_ fun K3 hK3=>?_
 refine rg_ [1,3,5,6,7,8,48] ?_
 refine cx_ (fun hb3=>?_) (fun hb3=>?_)
 ·
  have hst:stepF T ps pid P ca=(tol (chaF T P ca (openL ps)).1,(chaF T P ca (openL ps)).2,P):=by unfold stepF;rw [if_neg (show ¬ca.kind=13 by omega),if_neg (show ¬ca.kind=14 by omega),if_neg (show ¬ca.kind=15 by omega),if_neg (show ¬ca.kind=16 by omega),if_neg (show ¬ca.kind=17 by omega),if_neg (show ¬ca.kind=18 by omega),if_neg (by omega),if_pos ⟨by omega,by omega⟩]
  refine rs_ [6,7] ?_
  refine sg_ ?_
  refine cl_ (hc:=c48 T ps P ca _ _ hd hgs hpath hoth (by omega)) (k:=?_)
  refine srt_ ?_
  refine fq_ Tryz.results16 ?_
  exact rk_ (by rw [hda,hst,hPs];try rfl)
 refine skp_ ?_
 refine hK3 _ ?_
 refine sk_ fun K4 hK4=>?_
 refine rg_ [1,3,5,6,7,8,57] ?_
 refine cx_ (fun hb4=>?_) (fun hb4=>?_)
 ·
  have hst:stepF T ps pid P ca=opnF T P ca:=by unfold stepF;rw [if_pos hb4]
  refine rs_ [6,7] ?_
  refine sg_ ?_
  refine cl_ (hc:=c49 T ps pid P hpid hP ca _ _ hd hpath) (k:=?_)
  refine srt_ ?_
  refine fq_ Tryz.results16 ?_
  exact rk_ (by rw [hda,hst];try rfl)
 refine skp_ ?_
 refine hK4 _ ?_
 refine sk_ fun K5 hK5=>?_
 refine rg_ [1,3,5,6,7,8,66] ?_
 refine cx_ (fun hb5=>?_) (fun hb5=>?_)
 ·
  have hst:=step_dat (T:=T) (ps:=ps) (pid:=pid) (P:=P) (ca:=ca) (by omega)
  refine rs_ [6,7] ?_
  refine sg_ ?_
  refine cl_ (hc:=c50 T ps pid P hpid hP ca _ _ hd (by omega) hdat) (k:=?_)
  refine srt_ ?_
  refine fq_ Tryz.results16 ?_
  exact rk_ (by rw [hda,hst];try rfl)
 refine skp_ ?_
 refine hK5 _ ?_
 refine sk_ fun K6 hK6=>?_
 refine rg_ [1,3,5,6,7,8,75] ?_
 refine cx_ (fun hb6=>?_) (fun hb6=>?_)
 ·
  have hst:stepF T ps pid P ca=((maskF P ca).1,T,(maskF P ca).2):=by unfold stepF;rw [if_neg (show ¬ca.kind=13 by omega),if_neg (show ¬ca.kind=14 by omega),if_neg (show ¬ca.kind=15 by omega),if_neg (show ¬ca.kind=16 by omega),if_pos hb6]
  have hmk:maskF P ca=(⟨0,P.um,sta0,[],[],[]⟩,⟨P.c,(maskX ca.a 0:Nat),P.f0,P.f1,P.f2⟩):=by unfold maskF;rw [mask0]
  rw [hmk] at hst
  obtain ⟨ps',hps'⟩:∃ps',ps.set pid ⟨P.c,(maskX ca.a 0:Nat),P.f0,P.f1,P.f2⟩=ps':=⟨_,rfl⟩
  refine rg_ [1,3,5,6,7,8,9] ?_
  refine rs_ [1,3,6,7,8,9] ?_
  refine sg_ ?_
  refine cl_ (hc:=c31 ca.a 0 _ _) (k:=?_)
  refine sre_ ?_
  refine rs_ [6,7] ?_
  refine sg_ ?_
  refine cl_ (hc:=(hps'▸c51 T ps pid ⟨P.c,(maskX ca.a 0:Nat),P.f0,P.f1,P.f2⟩ _ _ hpid hlen)) (k:=?_)
  refine srt_ ?_
  refine fq_ Tryz.results16 ?_
  exact rk_ (by rw [hda,hst,←hps'];try rfl)
 have hst:stepF T ps pid P ca=(tol 0,shutN T ps pid P 3):=by unfold stepF;rw [if_neg (show ¬ca.kind=13 by omega),if_neg (show ¬ca.kind=14 by omega),if_neg (show ¬ca.kind=15 by omega),if_neg (show ¬ca.kind=16 by omega),if_neg (show ¬ca.kind=17 by omega),if_pos (by omega)]
 refine skp_ ?_
 refine hK6 _ ?_
 refine sk_ fun K7 hK7=>?_
 refine rg_ [1,3,6,7,10] ?_
 refine awp_block ?_
 refine lp_ (X:={x:Nat×Tab×List Pr×Pr // ShI T ps pid P x.1 x.2.1 x.2.2.1 x.2.2.2}) (fun x=>⟨Tryz.f16.ntmps,fget [(1,.int .i64 (pid:Nat)),(3,.ptr h.length 0),(6,.ptr (h.length+2) 0),(7,.ptr (h.length+3) 0),(10,.int .i64 (x.1.1:Nat))],h++[.cells [.slice ((refL x.1.2.1).map nV) .none,.slice (x.1.2.2.1.map pV) .none],.cells (cvC ca),.cells [.slice [] .full,.slice [] .full],.cells [.int .i64 0,.int .i64 0,.int .i64 0,.int .i64 0,.int .i64 0,.int .i64 0,.int .i64 0,.int .i64 0,.int .i64 0,.str [],.slice [] .full,.str []],.cells (pvC P)],live⟩) (fun x=>3 - x.1.1) (⟨⟨0,T,ps,P⟩,⟨by omega,rfl,rfl,hPs.symm⟩⟩) ?_ (fun ⟨⟨i,T1,ps1,P1⟩,hsi⟩=>?_)
 ·
  try dsimp only
  exact tf_ (hB _ _) (fun _ h=>h)
 try dsimp only
 dsimp only at hsi
 have hi3:=hsi.le
 have hl1:=hsi.len
 refine sk_ fun K8 hK8=>?_
 refine rg_ [1,3,6,7,10,89] ?_
 refine cx_ (fun hb7=>?_) (fun hb7=>?_)
 rotate_left
 ·
  have hie:i=3:=by omega
  subst hie
  refine awp_exit (up_ ?_)
  refine hK7 _ ?_
  refine rg_ [6,7] ?_
  refine ret_ ?_
  refine fq_ Tryz.results16 ?_
  exact rk_ (by rw [hda,hst,←hsi.tb,←hsi.pr,←hsi.al];try rfl)
 have hi4:i<3:=by omega
 have hp1:pid<ps1.length:=by omega
 have hP1:=hsi.get hpid
 have hPg1:=pr_getD hp1 hP1
 have hfl3:=fdsL_len P1
 have hfg:=fdsL_get P1 hi4
 have hn1:∀k,k<3→0≤(P1.fd k).node:=by rw [hsi.pr];exact shutN_nn hnP i hi3
 have hnk:=hn1 i hi4
 have sx:=And.intro hPg1 (And.intro hfg sx)
 refine skp_ ?_
 refine hK8 _ ?_
 refine sk_ fun K9 hK9=>?_
 refine awp_block ?_
 refine rg_ [1,3,6,7,10,102] ?_
 refine cx_ (fun hb8=>?_) (fun hb8=>?_)
 ·
  have hT1:T1.Ok:=by rw [hsi.tb];exact (shutN_ok hd.gd.1 hd.gd.2 i).1
  have hN1:NN ps1:=by rw [hsi.al];exact NN.set hd.nn hn1
  have hs2:=hsi.ny hi4 (by omega)
  obtain ⟨ps2,hps2⟩:∃ps2,ps1.set pid (P1.put i fd0)=ps2:=⟨_,rfl⟩
  rw [hps2] at hs2
  obtain ⟨T2,hT2⟩:∃T2,(freeF T1 (P1.fd i).node (openL ps2)).2=T2:=⟨_,rfl⟩
  rw [hT2] at hs2
  refine rt_ [1,3,6,7,10] ?_
  refine sg_ ?_
  refine cl_ (hc:=(hT2▸hps2▸c52 T1 ps1 pid P1 hp1 hP1 _ _ hT1 (by omega) hN1 i hi4)) (k:=?_)
  refine srn_ ?_
  refine hK9 _ ?_
  refine rt_ [1,3,6,7,10] ?_
  refine srn_ ?_
  refine ln_ ⟨⟨i+1,T2,ps2,P1.put i fd0⟩,hs2⟩ ?_
  try dsimp only
  exact tf_ (hB _ _) (fun _ h=>h)
 have hz:(P1.fd i).node=0:=by omega
 refine skp_ ?_
 refine hK9 _ ?_
 refine rt_ [1,3,6,7,10] ?_
 refine srn_ ?_
 refine ln_ ⟨⟨i+1,T1,ps1,P1⟩,hsi.nx hi4 hz⟩ ?_
 try dsimp only
 exact tf_ (hB _ _) (fun _ h=>h)
end Go.Proofs.YtegffmibifodcaaGreat

/-
  THE DOCUMENT: a system that begins.
-/
namespace Go.Proofs.YtegffmibifodcaaGreat
open Go.Ab
set_option maxRecDepth 8000
set_option maxHeartbeats 400000
def nwL (um:Int) (cs:List Cr) (i:Nat):List AV:=((cs.take i).map (pr1 um)).map pV
theorem nwL_all (um:Int) (cs:List Cr):nwL um cs cs.length=(cs.map (pr1 um)).map pV:=by unfold nwL;rw [List.take_length]
theorem nwL_len (um:Int) (cs:List Cr) (i:Nat):(nwL um cs i).length=min i cs.length:=by unfold nwL;rw [List.length_map,List.length_map,List.length_take]
theorem nwL_cells (um:Int) (cs:List Cr) (i:Nat):∀y∈nwL um cs i,y.cells.length=5:=cells_pV _
theorem clL_nwL (m:Nat) (um:Int) (cs:List Cr) (i:Nat):AV.clL m (nwL um cs i):=clL_pV _ _
theorem nwL_succ (um:Int) (cs:List Cr) {i:Nat} (hi:i<cs.length):nwL um cs i++[.agg (((putAt [.int .i64 0,.int .i64 0,.slice [] .full,.int .i64 0,.slice [] .full] 0 (List.take 3 (crC (cs.getD i cr0)))).set 3 (.int .i64 (maskX um 0:Nat))).set 4 (.slice (List.replicate 3 (.agg [.int .i64 0,.int .i64 0,.bool false,.bool false])) .none))]=nwL um cs (i+1):=by
 unfold nwL
 rw [List.take_succ_eq_append_getElem hi,List.map_append,List.map_append,←mask0,List.getD_eq_getElem?_getD,List.getElem?_eq_getElem hi]
 rfl
attribute [push_cast] clL_nwL
theorem c12 (T:Tab) (um:Int) (cs:List Cr) (q:Cap) (h:List Blk) (live:List Nat) (hl:cs.length≤1000):AC Tryz.prog 12 [tV (refL T),.int .i64 um,.slice (cs.map crV) q] h live (sV T (cs.map (pr1 um))):=by
 refine aq_ Tryz.func12 fun hH hX=>?_
 unfold tV sV
 have hB:∀(i:Nat) (c:Cap),HCl (h++[.cells [.slice ((refL T).map nV) .none],.cells [.slice [] .full,.slice [] .full],.cells [.slice ((refL T).map nV) .none,.slice (nwL um cs i) c]]):=fun i c=>by
  have:=((HCl.snoc hH (b:=.cells [.slice ((refL T).map nV) .none]) (by simp [Blk.cl,AV.cl,AV.clL,clL_nV, -List.map_map])).snoc (b:=.cells [.slice [] .full,.slice [] .full]) (by simp [Blk.cl,AV.cl,AV.clL])).snoc (b:=.cells [.slice ((refL T).map nV) .none,.slice (nwL um cs i) c]) (by exact ⟨clL_nV _ _,clL_nwL _ _ _ _,trivial⟩)
  simp only [List.append_assoc] at this;exact this
 refine rg_ [1,2,3,6] ?_
 refine rg_ [1,2,6,7] ?_
 refine sk_ fun K1 hK1=>?_
 refine rg_ [1,2,6,7,8] ?_
 refine awp_block ?_
 refine lp_ (X:={p:Nat×Cap×List Nat // p.1≤cs.length∧CapOK p.2.2 p.2.1∧∀u∈live,u∈p.2.2∧p.2.1≠.own u}) (fun x=>⟨Tryz.f12.ntmps,fget [(1,.int .i64 um),(2,.slice (cs.map crV) q),(6,.ptr (h.length+1) 0),(7,.ptr (h.length+2) 0),(8,.int .i64 (x.1.1:Nat))],h++[.cells [.slice ((refL T).map nV) .none],.cells [.slice [] .full,.slice [] .full],.cells [.slice ((refL T).map nV) .none,.slice (nwL um cs x.1.1) x.1.2.1]],x.1.2.2⟩) (fun x=>cs.length - x.1.1) (⟨⟨0,.full,live⟩,Nat.zero_le _,.inl rfl,fun u hu=>⟨hu,Cap.noConfusion⟩⟩) ?_ (fun ⟨⟨i,c,live'⟩,hi,hc,hlv⟩=>?_)
 ·
  try dsimp only
  exact tf_ (hB _ _) (fun _ h=>h)
 try dsimp only
 dsimp only at hi hc hlv
 refine sk_ fun K2 hK2=>?_
 refine rg_ [1,2,6,7,8,14] ?_
 refine cy_ (fun hb1=>?_) (fun hb1=>?_)
 rotate_left
 ·
  simp only [decide_eq_true_eq,decide_eq_false_iff_not,Bool.not_eq_true',Bool.not_eq_false',Bool.or_eq_true,Bool.and_eq_true,Bool.or_eq_false_iff,Bool.and_eq_false_imp,Int.not_lt,Int.not_le,push_cast] at hb1
  have hie:i=cs.length:=by omega
  subst hie
  have hna:=nwL_all um cs
  have sx:=And.intro hna sx
  refine awp_exit (up_ ?_)
  refine hK1 _ ?_
  refine rg_ [6] ?_
  refine ret_ ?_
  refine fq_ Tryz.results12 ?_ (hl:=(fun u hu=>(hlv u hu).1))
  exact rk_ rfl
 simp only [decide_eq_true_eq,decide_eq_false_iff_not,Bool.not_eq_true',Bool.not_eq_false',Bool.or_eq_true,Bool.and_eq_true,Bool.or_eq_false_iff,Bool.and_eq_false_imp,Int.not_lt,Int.not_le,push_cast] at hb1
 have hil:i<cs.length:=by omega
 have hns:=nwL_succ um cs hil
 have hnl:=nwL_len um cs i
 have sx:=And.intro hns sx
 refine skp_ ?_
 refine hK2 _ ?_
 refine sk_ fun K3 hK3=>?_
 refine awp_block ?_
 refine rtq_ [1,2,6,7,8] ⟨false,[(h.length+2,1,.one)],[18,22],[],[25],[24],h.length⟩ (fun _=>⟨by kernel_rfl,by kernel_rfl⟩) ?_
 refine sg_ ?_
 refine df_ ?_
 refine sg_ ?_
 refine df_ ?_
 refine sg_ ?_
 refine ds_ (hc:=fun h' l' hs=>c31 um 0 _ _) (k:=?_)
 refine dawp_gx rfl rfl rfl rfl (AOp.makeSliceV _ _ _ rfl Ty.makeT_71 (n:=3) (m:=3) rfl rfl (by omega) (by omega) (by omega) ⟨St.refl _,?_⟩)
 refine sg_ ?_
 refine ap_ (a:=hc) (b:=nwL_cells um cs i) (c':=by intro y hy;rw [List.mem_singleton] at hy;subst hy;rfl) (d:=by simp;omega) (e:=by simp;omega) (k:=?_)
 intro c28 live28 hk28
 refine srn_ ?_
 refine hK3 _ ?_
 refine rt_ [1,2,6,7,8] ?_
 refine srn_ ?_
 refine ln_ ⟨⟨i+1,c28,live28⟩,by dsimp only;omega,hk28.1,fun u hu=>hk28.2 u (hlv u hu).1 (hlv u hu).2⟩ ?_
 try dsimp only
 exact tf_ (hB _ _) (fun _ h=>h)
end Go.Proofs.YtegffmibifodcaaGreat

/-
  CALLS: of no system at all.
-/
namespace Go.Proofs.YtegffmibifodcaaGreat
open Go.Ab
set_option maxRecDepth 8000
set_option maxHeartbeats 400000
theorem z37 (pid:Int) (h:List Blk) (live:List Nat):AC Tryz.prog 37 [.raw (.pointer none),.int .i64 pid] h live (.raw (.pointer none)):=by
 refine aq_ Tryz.func37 fun hH hX=>?_
 refine rg_ [0,1] ?_
 refine sk_ fun K1 hK1=>?_
 refine rs_ [0,1,19] ?_
 refine dp_ ?_
 refine dp_ ?_
 refine dp_ ?_
 refine dg_ ?_
 refine dawp_skip rfl rfl rfl ?_
 refine dp_ ?_
 refine dp_ ?_
 refine dg_ ?_
 refine dg_ ?_
 iterate 5 (refine dawp_skip rfl rfl rfl ?_)
 refine sre_ ?_
 refine cdy_ (ht:=fun hb1=>?_) (hf:=fun hb1=>?_)
 ·
  refine rg_ [4] ?_
  refine ret_ ?_
  refine fq_ Tryz.results37 ?_
  exact rk_ rfl
 exfalso
 simp at hb1
theorem z14 (h:List Blk) (live:List Nat):AC Tryz.prog 14 [.raw (.pointer none)] h live (.raw (.pointer none)):=by
 refine aq_ Tryz.func14 fun hH hX=>?_
 refine rg_ [0] ?_
 refine sk_ fun K1 hK1=>?_
 refine rg_ [0,4] ?_
 refine cdy_ (ht:=fun hb1=>?_) (hf:=fun hb1=>?_)
 ·
  refine rg_ [2] ?_
  refine ret_ ?_
  refine fq_ Tryz.results14 ?_
  exact rk_ rfl
 exfalso
 simp at hb1
theorem z20 (h:List Blk) (live:List Nat):AC Tryz.prog 20 [.raw (.pointer none)] h live (.slice [] .none):=by
 refine aq_ Tryz.func20 fun hH hX=>?_
 refine rg_ [0] ?_
 refine sk_ fun K1 hK1=>?_
 refine rg_ [0,9] ?_
 refine cdy_ (ht:=fun hb1=>?_) (hf:=fun hb1=>?_)
 ·
  refine rg_ [2] ?_
  refine ret_ ?_
  refine fq_ Tryz.results20 ?_
  exact rk_ rfl
 exfalso
 simp at hb1
theorem z23 (pid:Int) (h:List Blk) (live:List Nat):AC Tryz.prog 23 [.raw (.pointer none),.int .i64 pid] h live (.int .i64 0):=by
 refine aq_ Tryz.func23 fun hH hX=>?_
 refine rg_ [0,1] ?_
 refine rs_ [5] ?_
 refine sg_ ?_
 refine cl_ (hc:=z37 _ _ _) (k:=?_)
 refine sre_ ?_
 refine sk_ fun K1 hK1=>?_
 refine rg_ [5,10] ?_
 refine cdy_ (ht:=fun hb1=>?_) (hf:=fun hb1=>?_)
 ·
  refine rg_ [4] ?_
  refine ret_ ?_
  refine fq_ Tryz.results23 ?_
  exact rk_ rfl
 exfalso
 simp at hb1
theorem z22 (pid i:Int) (h:List Blk) (live:List Nat):AC Tryz.prog 22 [.raw (.pointer none),.int .i64 pid,.int .i64 i] h live (.agg (fdC fd0)):=by
 refine aq_ Tryz.func22 fun hH hX=>?_
 refine rg_ [0,1,2,6] ?_
 refine rs_ [6,7] ?_
 refine sg_ ?_
 refine cl_ (hc:=z37 _ _ _) (k:=?_)
 refine sg_ ?_
 refine cl_ (hc:=z55 _ _ _) (k:=?_)
 refine sre_ ?_
 refine sk_ fun K1 hK1=>?_
 refine rg_ [6,7,14] ?_
 refine cdy_ (ht:=fun hb1=>?_) (hf:=fun hb1=>?_)
 ·
  refine rg_ [6] ?_
  refine ret_ ?_
  refine fq_ Tryz.results22 ?_
  exact rk_ rfl
 exfalso
 simp at hb1
theorem z15 (pid:Int) (ca:Ca) (h:List Blk) (live:List Nat):AC Tryz.prog 15 [.raw (.pointer none),.int .i64 pid,.agg (caC ca)] h live (.agg (rsC (tol 22))):=by
 refine aq_ Tryz.func15 fun hH hX=>?_
 refine rg_ [0,1,5,6] ?_
 refine rs_ [0,5,6,7] ?_
 refine sg_ ?_
 refine cl_ (hc:=z37 _ _ _) (k:=?_)
 refine sre_ ?_
 refine sk_ fun K1 hK1=>?_
 refine rg_ [0,5,6,7,15] ?_
 refine cdy_ (ht:=fun hb1=>?_) (hf:=fun hb1=>?_)
 ·
  refine rs_ [6] ?_
  refine cl_ (hc:=c38 _ _ _) (k:=?_)
  refine srt_ ?_
  refine fq_ Tryz.results15 ?_
  exact rk_ rfl
 exfalso
 simp at hb1
end Go.Proofs.YtegffmibifodcaaGreat

/-
  WHATEVER CALLS PROCESSES MAKE, each is as the document has it.
-/
namespace Go.Proofs.YtegffmibifodcaaGreat
open Go.Ab
set_option maxRecDepth 8000
set_option maxHeartbeats 400000
theorem c16 (T:Tab) (ps:List Pr) (pid:Int) (ca:Ca) (h:List Blk) (live:List Nat) (hd:DocI T ps) (hpath:ca.path.length≤1000) (hoth:ca.other.length≤1000) (hdat:ca.data.length≤1000) {d:Rs×Tab×List Pr} (he:doF T ps pid ca=d):ACalls Tryz.prog 16 [sV T ps,.int .i64 pid,.agg (cvC ca)] h live (ret (.tup [sV d.2.1 d.2.2,.agg (rvC d.1)]) h live):=by
 subst he
 by_cases ho:pid<0∨(ps.length:Int)≤pid∨ca.kind<1∨18<ca.kind
 · exact o16 T ps pid ca h live hd.len ho
 ·
  obtain ⟨n,rfl⟩:=Int.eq_ofNat_of_zero_le (show 0≤pid by omega)
  exact y16 T ps n _ ca h live (by omega) rfl (by omega) hd hpath hoth hdat
theorem cond_f (a b:Bool):(bif false then a else b)=b:=rfl
theorem cells_crV (l:List Cr):∀y∈l.map crV,y.cells.length=3:=fun y hy=>by
 obtain ⟨f, _,rfl⟩:=List.mem_map.1 hy;rfl
theorem fdQ_in {ps:List Pr} {p k:Nat} (h:(1≤p∧p≤ps.length)∧1≤k∧k≤3):fdQ ps ((p:Int) - 1) ((k:Int) - 1)=(ps.getD (p - 1) pr0).fd (k - 1):=by
 unfold fdQ
 rw [if_pos ⟨⟨by omega,by omega⟩,by omega,by omega⟩,show ((p:Int) - 1).toNat=p - 1 by omega,show ((k:Int) - 1).toNat=k - 1 by omega]
theorem fdQ_no {ps:List Pr} {p k:Nat} (h:¬((1≤p∧p≤ps.length)∧1≤k∧k≤3)):fdQ ps ((p:Int) - 1) ((k:Int) - 1)=fd0:=by
 unfold fdQ
 rw [if_neg (fun q=>h ⟨⟨by omega,by omega⟩,by omega,by omega⟩)]
theorem umQ_in {ps:List Pr} {p:Nat} (h:1≤p∧p≤ps.length):umQ ps ((p:Int) - 1)=(ps.getD (p - 1) pr0).um:=by
 unfold umQ
 rw [if_pos ⟨by omega,by omega⟩,show ((p:Int) - 1).toNat=p - 1 by omega]
theorem umQ_no {ps:List Pr} {p:Nat} (h:¬(1≤p∧p≤ps.length)):umQ ps ((p:Int) - 1)=0:=by
 unfold umQ
 rw [if_neg (fun q=>h ⟨by omega,by omega⟩)]
def sB (T:Tab) (ps:List Pr):Blk:=.cells [.slice ((refL T).map nV) .none,.slice (ps.map pV) .none]
theorem sB_cl (T:Tab) (ps:List Pr) (m:Nat):(sB T ps).cl m:=⟨clL_nV _ _,clL_pV _ _,trivial⟩
theorem doc_new {room:Int} {l:List Rw} {c:Cr} {T:Tab} {um:Int} {cs:List Cr} (hT:Gd T) (hb:builtF room l c=some T) (hc:∀c∈cs,c.gs.length≤10) (hn:cs.length≤6):DocI T (cs.map (pr1 um)) where
 gd:=hT
 tree:=by rw [openL_new];exact built_treeW hb
 len:=by rw [List.length_map];omega
 gs:=fun P hP=>by
  obtain ⟨c,hcm,rfl⟩:=List.mem_map.1 hP
  have:=hc c hcm
  show c.gs.length≤_
  omega
 off:=fun P hP i hi=>by
  obtain ⟨c,hcm,rfl⟩:=List.mem_map.1 hP
  rcases (show i=0∨i=1∨i=2 by omega) with rfl | rfl | rfl<;>(show (0:Int)≤_;decide)
structure Duo (n w:Nat) (X:List Blk) (T:Tab) (ps:List Pr):Prop where
 sys:SysAt X (n+1) n (n+3) T ps
 doc:X[w]? = some (sB T ps)
 cl:HCl X
theorem step_names {T:Tab} (hT:T.Ok) (ps:List Pr) (pid:Nat) (P:Pr) (ca:Ca):(stepF T ps pid P ca).1.names.length≤1000:=by
 have h1:(opnF T P ca).1.names=[]:=by unfold opnF opnAt;repeat' (first | rfl | split)
 have h2:(redF T P ca).1.names=[]:=by unfold redF;split<;>rfl
 have h3:(wriF T P ca).1.names=[]:=by unfold wriF;split<;>(try split)<;>rfl
 have h4:(shutF T ps pid P ca.a).1.names=[]:=by unfold shutF;split<;>rfl
 have h5:(askF T P ca).names.length≤1000:=by
  unfold askF
  split
  · exact Nat.zero_le _
  ·
   split
   · exact Nat.zero_le _
   ·
    split
    · exact Nat.zero_le _
    ·
     show (listF T P.c ca.path).1.length≤1000
     unfold listF
     split
     · exact Nat.zero_le _
     ·
      split
      · exact Nat.zero_le _
      ·
       split
       · exact Nat.zero_le _
       ·
        show (nmL _).length≤1000
        rw [nmL_len];exact (get_ok hT _).2.1
 unfold stepF
 split
 · rw [h1];exact Nat.zero_le _
 ·
  split
  ·
   show (redF T P ca).1.names.length≤1000
   rw [h2];exact Nat.zero_le _
  ·
   split
   · rw [h3];exact Nat.zero_le _
   ·
    split
    · rw [h4];exact Nat.zero_le _
    ·
     split
     · exact Nat.zero_le _
     ·
      split
      · exact Nat.zero_le _
      ·
       split
       · exact h5
       · split<;>exact Nat.zero_le _
theorem do_names {T:Tab} (hT:T.Ok) (ps:List Pr) (pid:Int) (ca:Ca):(doF T ps pid ca).1.names.length≤1000:=by
 unfold doF
 split
 · exact step_names hT _ _ _ _
 · exact Nat.zero_le _
set_option maxHeartbeats 4000000 in
theorem c3 (room:Int) (l:List Rw) (um:Int) (cs:List Cr) (acs:List At) (h:List Blk) (live:List Nat) (hh0:h=[]) (hn:l.length≤9223372036854775807) (hcs:∀c∈cs,c.gs.length≤17592186044416) (hcl:cs.length≤17592186044416) (hal:acs.length≤9223372036854775807):AC Tryz.prog 3 [.int .i64 room,.slice (l.map rV) .none,.int .i64 um,.slice (cs.map crV) .none,.slice (acs.map atV) .none] h live (.bool true):=by
 refine aq_ Tryz.func3 fun hH hX=>?_
 refine rg_ [0,1,2,3,4] ?_
 refine rs_ [0,1,2,3,4,11] ?_
 refine cl_ (hc:=c8 _ _ hh0) (k:=?_)
 refine sre_ ?_
 refine sk_ fun K1 hK1=>?_
 refine rg_ [0,1,2,3,4,30] ?_
 refine cdn_ (ht:=fun hb1=>?_) (hf:=fun hb1=>?_)
 · exfalso;exact Bool.noConfusion hb1
 refine skp_ ?_
 refine hK1 _ ?_
 refine rs_ [2,3,4,12,13] ?_
 refine sg_ ?_
 refine ck_ (k:=?_)
 refine (ACalls.hclK (c9 room l um cs _ _ hn hcs hcl)).mono ?_;rintro x0 H0 live ⟨hb0,hH0⟩;obtain ⟨rfl,p0,rfl,hp0⟩:=begun_el hb0
 refine sre_ ?_
 refine sk_ fun K2 hK2=>?_
 refine rs_ [2,3,4,12,46] ?_
 refine sg_ ?_
 refine cg_ (hc:=fun hg=>c10 acs cs _ _ hal hcs hcl) (k:=?_)
 refine sre_ ?_
 refine cdn_ (ht:=fun hb2=>?_) (hf:=fun hb2=>?_)
 ·
  refine rg_ [10] ?_
  refine ret_ ?_
  refine gq_ (h1:=h) Tryz.results3 ?_ (hh:=(⟨_,by rw [hh0];exact (List.nil_append _).symm⟩))
  exact rk_ rfl
 obtain ⟨hb21,hb22⟩:=hb2
 obtain ⟨T,hTe⟩:=Option.isSome_iff_exists.1 hb21
 obtain ⟨hfa,hfc,hfl,hfn⟩:=fewF_ok hb22
 obtain ⟨n,rfl,hy0⟩:=hp0 T hTe hfc hfn
 have hnl:=lt_of_get hy0.s
 have hd0:=doc_new (um:=um) ⟨hy0.ok,hy0.rt⟩ hTe hfc hfn
 refine skp_ ?_
 refine hK2 _ ?_
 refine rg_ [2,3,4,12,14] ?_
 refine sk_ fun K3 hK3=>?_
 refine rg_ [2,3,4,12,14,15] ?_
 refine awp_block ?_
 refine lp_ (X:={p:Nat×Cap×List Nat // p.1≤cs.length∧CapOK p.2.2 p.2.1∧∀u∈live,u∈p.2.2∧p.2.1≠.own u}) (fun x=>⟨Tryz.f3.ntmps,fget [(3,.slice (cs.map crV) .none),(4,.slice (acs.map atV) .none),(12,.ptr (n+1) 0),(2,.int .i64 um),(14,.slice ((cs.take x.1.1).map crV) x.1.2.1),(15,.int .i64 (x.1.1:Nat))],H0,x.1.2.2⟩) (fun x=>cs.length - x.1.1) (⟨⟨0,.full,live⟩,Nat.zero_le _,.inl rfl,fun u hu=>⟨hu,Cap.noConfusion⟩⟩) ?_ (fun ⟨⟨i,c,lv⟩,hi,hc,hlv⟩=>?_)
 ·
  try dsimp only
  refine Trunc.of (by first | exact (List.append_nil _).symm | exact rfl | (rw [List.append_assoc];rfl)) ?_ hH0 (fun _ h=>h)
  refine ftc_ ?_
  refine ftc_ ?_
  refine ftc_ ?_
  refine ftc_ ?_
  refine ftc_ ?_
  refine ftc_ ?_
  exact FTr.nil
 try dsimp only
 dsimp only at hi hc hlv
 refine sk_ fun K4 hK4=>?_
 refine rg_ [2,3,4,12,14,15,50] ?_
 refine cx_ (fun hb3=>?_) (fun hb3=>?_)
 rotate_left
 ·
  have hie:i=cs.length:=by omega
  subst hie
  have htk:List.take cs.length cs=cs:=List.take_length
  have hlen0:(H0++[tabBlk T,sB T (cs.map (pr1 um))]).length=H0.length+2:=by simp
  have hB0:HCl (H0++[tabBlk T,sB T (cs.map (pr1 um))]):=by
   have:=(hH0.snoc (b:=tabBlk T) (cl_tab _ _)).snoc (sB_cl T (cs.map (pr1 um)) _)
   rw [List.append_assoc] at this;exact this
  have sx:=And.intro htk sx
  refine awp_exit (up_ ?_)
  refine hK3 _ ?_
  refine rs_ [3,4,12,16] ?_
  refine sg_ ?_
  refine cl_ (hc:=c14 _ _ _ _ _ _ _ hy0) (k:=?_)
  refine cl_ (hc:=c13 T _ _ _ (by simp only [push_cast]) hy0.ok) (k:=?_)
  refine sg_ ?_
  refine cl_ (hc:=c12 T um cs _ _ _ (by omega)) (k:=?_)
  refine sre_ ?_
  refine rg_ [3,4,12,16,17] ?_
  refine sk_ fun K5 hK5=>?_
  refine rg_ [3,4,12,16,17,18] ?_
  refine awp_block ?_
  refine awp_loopG (X:={x:Nat×List Blk×Tab×List Pr // x.1≤acs.length∧Duo n (H0.length+1) x.2.1 x.2.2.1 x.2.2.2∧x.2.2.2.length=cs.length∧DocI x.2.2.1 x.2.2.2}) (fun x=>⟨Tryz.f3.ntmps,fget [(3,.slice (cs.map crV) .none),(4,.slice (acs.map atV) .none),(12,.ptr (n+1) 0),(16,.ptr (H0.length+1) 0),(17,.raw (.pointer none)),(18,.int .i64 (x.1.1:Nat))],x.1.2.1,live⟩) (fun x=>acs.length - x.1.1) (⟨⟨0,H0++[tabBlk T,sB T (cs.map (pr1 um))],T,cs.map (pr1 um)⟩,Nat.zero_le _,⟨hy0.app,(by rw [List.getElem?_append_right (by omega),show H0.length+1 - H0.length=1 by omega];rfl),hB0⟩,List.length_map ..,hd0⟩) ?_ (by first | rfl | (simp only [List.length_set];done) | simp) (fun ⟨⟨i,H,T1,ps⟩,hi,hduo,hpl,hdi⟩=>?_)
  ·
   try dsimp only
   exact tf_ (by first | assumption | exact (Subtype.property _).2.1.cl) (by first | exact fun u hu=>hu | exact fun u hu=>(hlv u hu).1)
  try dsimp only
  dsimp only at hi hduo hpl hdi
  obtain ⟨hy,hwb,hHc⟩:=hduo
  have hnl2:=lt_of_get hy.s
  have hwl:=lt_of_get hwb
  refine sk_ fun K6 hK6=>?_
  refine rg_ [3,4,12,16,17,18,70] ?_
  refine cdy_ (ht:=fun hb4=>?_) (hf:=fun hb4=>?_)
  rotate_left
  ·
   refine awp_exit (up_ ?_)
   refine hK5 _ ?_
   refine rs_ [10] ?_
   refine sg_ ?_
   refine cl_ (hc:=z14 _ _) (k:=?_)
   refine sg_ ?_
   refine cg_ (hc:=fun hg=>z23 0 _ _) (k:=?_)
   refine dawp_g rfl rfl (by simp only [push_cast,↓reduceIte,Nat.reduceEqDiff,Nat.reduceAdd,Nat.reduceLeDiff,sx];rfl) (fun hg=>by simp (disch:=omega) only [decide_true,hg,push_cast,↓reduceIte,Nat.reduceEqDiff,Nat.reduceAdd,Nat.reduceLeDiff,sx];rfl) rfl rfl ?_
   refine sg_ ?_
   refine cg_ (hc:=fun hg=>z22 0 0 _ _) (k:=?_)
   refine dg_ ?_
   refine dawp_g rfl rfl (by simp only [push_cast,↓reduceIte,Nat.reduceEqDiff,Nat.reduceAdd,Nat.reduceLeDiff,sx];rfl) (fun hg=>by simp (disch:=omega) only [decide_true,hg,push_cast,↓reduceIte,Nat.reduceEqDiff,Nat.reduceAdd,Nat.reduceLeDiff,sx];rfl) rfl rfl ?_
   refine sg_ ?_
   refine cg_ (hc:=fun hg=>z20 _ _) (k:=?_)
   refine dg_ ?_
   refine dawp_g rfl rfl (by simp only [push_cast,↓reduceIte,Nat.reduceEqDiff,Nat.reduceAdd,Nat.reduceLeDiff,sx];rfl) (fun hg=>by simp (disch:=omega) only [decide_true,hg,push_cast,↓reduceIte,Nat.reduceEqDiff,Nat.reduceAdd,Nat.reduceLeDiff,sx];rfl) rfl rfl ?_
   refine srt_ ?_
   refine gq_ (h1:=h) Tryz.results3 ?_ (hh:=(⟨_,by rw [hh0];exact (List.nil_append _).symm⟩))
   exact rk_ rfl
  have hil:i<acs.length:=by omega
  obtain ⟨hf1,hf2,hf3⟩:=hfa _ (getD_mem hil)
  obtain ⟨d,hd⟩:∃d,doF T1 ps (acs.getD i at0).pid (acs.getD i at0).c=d:=⟨_,rfl⟩
  have hdl:d.2.2.length=ps.length:=by rw [←hd];exact doF_len _ _ _ _
  have hdn:DocI d.2.1 d.2.2:=hd▸hdi.next _ _
  have hnm:d.1.names.length≤1000:=hd▸do_names hy.ok _ _ _
  have hwn:n<H0.length:=lt_of_get hy0.t
  have hkb0:∀j,j<cs.length→n+3+2*j<H0.length:=fun j hj=>lt_of_get (hy0.p j (by rw [List.length_map];exact hj))
  have hkb:∀j,j<ps.length→n+3+2*j<H.length:=fun j hj=>lt_of_get (hy.p j hj)
  have hn1:n+1<H0.length:=lt_of_get hy0.s
  refine skp_ ?_
  refine hK6 _ ?_
  refine sk_ fun K7 hK7=>?_
  refine awp_block ?_
  refine rg_ [3,4,12,16,17,18,19] ?_
  refine awp_seqG (X:={X:List Blk // SysAt X (n+1) n (n+3) d.2.1 d.2.2∧X.length=H.length+2∧X[H.length+1]? = some (.cells (rsC d.1))∧X[H.length]? = some (.cells (caC (acs.getD i at0).c))∧X[H0.length+1]? = some (.cells [.slice ((refL T1).map nV) .none,.slice (ps.map pV) .none])∧HCl X}) (fun X=>⟨Tryz.f3.ntmps,fget [(3,.slice (cs.map crV) .none),(4,.slice (acs.map atV) .none),(12,.ptr (n+1) 0),(16,.ptr (H0.length+1) 0),(17,.raw (.pointer none)),(18,.int .i64 (i:Nat)),(19,.ptr H.length 0),(20,.ptr (H.length+1) 0)],X.1,live⟩) ?_ (fun ⟨X,hy2,hl2,hx2,hca,hdoc,hH2⟩=>?_)
  rotate_left
  ·
   try dsimp only
   have hnl3:=lt_of_get hy2.s
   have hs1:∀(y:Blk) (g:List Blk),(X++g).set (H0.length+1) y=X.set (H0.length+1) y++g:=fun y g=>setApp hdoc
   have hcg:=fun g:List Blk=>atApp (g:=g) hca
   have hdg:=fun g:List Blk=>atApp (g:=g) hdoc
   have sx:=And.intro hcg (And.intro hdg (And.intro hca (And.intro hdoc (And.intro hs1 sx))))
   refine awp_seqG (X:={Y:List Blk×Nat×Nat // SysAt Y.1 (n+1) n (n+3) d.2.1 d.2.2∧Y.1.length=X.length+2∧Y.1[H.length+1]? = some (.cells (rsC d.1))∧Y.1[H.length]? = some (.cells (caC (acs.getD i at0).c))∧Y.1[H0.length+1]? = some (.cells [.slice ((refL T1).map nV) .none,.slice (ps.map pV) .none])∧Y.1[Y.2.1]? = some (.cells [.slice ((refL d.2.1).map nV) .none,.slice (d.2.2.map pV) .none])∧Y.1[Y.2.2]? = some (.cells (rvC d.1))∧Y.2.1≠H0.length+1∧Y.2.2≠H0.length+1∧HCl Y.1}) (fun Y=>⟨Tryz.f3.ntmps,fget [(3,.slice (cs.map crV) .none),(4,.slice (acs.map atV) .none),(12,.ptr (n+1) 0),(16,.ptr (H0.length+1) 0),(17,.raw (.pointer none)),(18,.int .i64 (i:Nat)),(19,.ptr H.length 0),(20,.ptr (H.length+1) 0),(21,.ptr Y.1.2.1 0),(22,.ptr Y.1.2.2 0)],Y.1.1,live⟩) ?_ (fun ⟨⟨Y,a,b⟩,hyY,hlY,hxY,hcY,hdY,haY,hbY,hna,hnb,hHY⟩=>?_)
   rotate_left
   ·
    dsimp only at hyY hlY hxY hcY hdY haY hbY hna hnb hHY
    try dsimp only
    have hwY:=lt_of_get hdY
    have sx:=And.intro haY (And.intro hdY sx)
    refine rg_ [3,4,12,16,17,18,19,20,22] ?_
    refine sk_ fun K8 hK8=>?_
    refine rsD_ [3,4,12,16,17,18,181] ⟨true,[(H0.length+1,0,.agg 1)],[158],[],[155],[],0⟩ (fun _=>⟨by kernel_rfl,by kernel_rfl⟩) ?_
    have hdl':d.2.2.length=cs.length:=hdl.trans hpl
    have hy3:=hyY.set (i:=(H0.length+1)) (by omega) (by omega) (fun j hj=>by rw [hdl'] at hj;have:=hkb0 j hj;omega) (.cells [.slice ((refL d.2.1).map nV) .none,.slice (d.2.2.map pV) .none])
    have hx3:(Y.set (H0.length+1) (.cells [.slice ((refL d.2.1).map nV) .none,.slice (d.2.2.map pV) .none]))[H.length+1]? = some (.cells (rsC d.1)):=getSet hxY (by omega)
    have hc3:(Y.set (H0.length+1) (.cells [.slice ((refL d.2.1).map nV) .none,.slice (d.2.2.map pV) .none]))[H.length]? = some (.cells (caC (acs.getD i at0).c)):=getSet hcY (by omega)
    have hr3:(Y.set (H0.length+1) (.cells [.slice ((refL d.2.1).map nV) .none,.slice (d.2.2.map pV) .none]))[b]? = some (.cells (rvC d.1)):=getSet hbY hnb
    have hd3:(Y.set (H0.length+1) (.cells [.slice ((refL d.2.1).map nV) .none,.slice (d.2.2.map pV) .none]))[(H0.length+1)]? = some (.cells [.slice ((refL d.2.1).map nV) .none,.slice (d.2.2.map pV) .none]):=get_setk hwY
    have hH3:HCl (Y.set (H0.length+1) (.cells [.slice ((refL d.2.1).map nV) .none,.slice (d.2.2.map pV) .none])):=HCl.set hHY _ (sB_cl d.2.1 d.2.2 _)
    have hl3:(Y.set (H0.length+1) (.cells [.slice ((refL d.2.1).map nV) .none,.slice (d.2.2.map pV) .none])).length=Y.length:=List.length_set ..
    obtain ⟨X3,hX3⟩:∃X3,Y.set (H0.length+1) (.cells [.slice ((refL d.2.1).map nV) .none,.slice (d.2.2.map pV) .none])=X3:=⟨_,rfl⟩
    rw [hX3] at hy3 hx3 hc3 hr3 hd3 hH3 hl3 ⊢
    have hlen3:(X3++[tabBlk d.2.1]).length=X3.length+1:=by simp
    have hn3:=lt_of_get hy3.s
    have hw3:=lt_of_get hd3
    have hB3:HCl (X3++[tabBlk d.2.1]):=hH3.snoc (cl_tab _ d.2.1)
    have hdg3:=fun g:List Blk=>atApp (g:=g) hd3
    have hcg3:=fun g:List Blk=>atApp (g:=g) hc3
    have hxg3:=fun g:List Blk=>atApp (g:=g) hx3
    have hrg3:=fun g:List Blk=>atApp (g:=g) hr3
    have hsmT:=sameT_refl d.2.1
    have hsmO:=sameI_refl (openL d.2.2)
    have hol:=openL_len d.2.2
    have sx:=And.intro @decide_true (And.intro Bool.not_true (And.intro Bool.not_false (And.intro Bool.or_false (And.intro Bool.false_or (And.intro cond_f sx)))))
    have sx:=And.intro hd3 (And.intro hc3 (And.intro hx3 (And.intro hr3 (And.intro hdg3 (And.intro hcg3 (And.intro hxg3 (And.intro hrg3 (And.intro hsmT (And.intro hsmO sx)))))))))
    refine dp_ ?_
    refine dh_ ?_
    refine dp_ ?_
    refine dh_ ?_
    refine dp_ ?_
    refine dp_ ?_
    refine dg_ ?_
    refine dgh_ ?_
    refine dg_ ?_
    refine dgh_ ?_
    refine dg_ ?_
    refine dp_ ?_
    refine dp_ ?_
    refine dg_ ?_
    refine dgh_ ?_
    refine dg_ ?_
    refine dgh_ ?_
    refine dg_ ?_
    refine dp_ ?_
    refine dp_ ?_
    refine dg_ ?_
    refine dgh_ ?_
    refine dg_ ?_
    refine dgh_ ?_
    refine dg_ ?_
    refine dp_ ?_
    refine sg_ ?_
    refine cg_ (hc:=fun hg=>c17 d.1.names d.1.names _ _ _ _ (by omega) (by omega)) (k:=?_)
    refine dg_ ?_
    refine dp_ ?_
    refine dp_ ?_
    refine dg_ ?_
    refine dgh_ ?_
    refine dg_ ?_
    refine dg_ ?_
    refine dgh_ ?_
    refine dg_ ?_
    refine dp_ ?_
    refine sg_ ?_
    refine dawp_gx rfl rfl rfl rfl (AOp.callx _ _ _ rfl (show _=AV.fn (.func 14) [] [] from rfl) (show _=[AV.ptr (n+1) 0] from rfl) ?_)
    refine (c14 _ _ _ _ _ _ _ hy3).mono ?_;rintro _ _ _ ⟨rfl,rfl,rfl⟩
    refine ⟨⟨stab.cons (by simp (disch:=omega) only [push_cast,sx]) stab.nil,fun k hk=>absurd hk (Nat.not_lt_zero _)⟩,?_⟩
    refine cg_ (hc:=fun hg=>c13 d.2.1 _ _ _ (by simp only [push_cast]) hy3.ok) (k:=?_)
    refine dg_ ?_
    refine dawp_f rfl rfl (by simp (disch:=omega) only [push_cast,↓reduceIte,Nat.reduceEqDiff,Nat.reduceAdd,Nat.reduceLeDiff,cond_true,Bool.not_false,sx];first | rfl | (simp;rfl)) rfl rfl ?_
    refine cg_ (hc:=fun hg=>c18 d.2.1 d.2.1 _ _ hy3.ok hy3.ok) (k:=?_)
    refine dg_ ?_
    refine dp_ ?_
    refine sg_ ?_
    refine cg_ (hc:=fun hg=>c20 _ _ _ _ _ _ _ (by first | exact hy3 | exact hy3.app)) (k:=?_)
    refine sg_ ?_
    refine cg_ (hc:=fun hg=>c21 d.2.1 d.2.2 _ _ hdn.len hdn.nn) (k:=?_)
    refine cg_ (hc:=fun hg=>c19 (openL d.2.2) (openL d.2.2) _ _ _ _ (by omega) (by omega)) (k:=?_)
    refine dg_ ?_
    refine dp_ ?_
    refine sg_ ?_
    refine cg_ (hc:=fun hg=>z15 _ (acs.getD i at0).c _ _) (k:=?_)
    refine dg_ ?_
    refine dg_ ?_
    refine dp_ ?_
    refine re_ ?_
    refine cy_ (fun hb5=>?_) (fun hb5=>?_)
    · exfalso;first | exact Bool.noConfusion hb5 | simp at hb5
    refine skp_ ?_
    refine hK8 _ ?_
    refine rg_ [3,4,12,16,17,18,23] ?_
    refine awp_block ?_
    refine awp_loopG (X:={x:Nat×List Blk // x.1≤cs.length+2∧Duo n (H0.length+1) x.2 d.2.1 d.2.2∧H.length≤x.2.length}) (fun x=>⟨Tryz.f3.ntmps,fget [(3,.slice (cs.map crV) .none),(4,.slice (acs.map atV) .none),(12,.ptr (n+1) 0),(16,.ptr (H0.length+1) 0),(17,.raw (.pointer none)),(18,.int .i64 (i:Nat)),(23,.int .i64 ((x.1.1:Int) - 1))],x.1.2,live⟩) (fun x=>cs.length+2 - x.1.1) (⟨⟨0,X3++[tabBlk d.2.1]⟩,by dsimp only;omega,⟨hy3.app,atApp hd3,hB3⟩,by dsimp only;omega⟩) ?_ (by first | rfl | (simp only [List.length_set];done) | simp) (fun ⟨⟨p,X4⟩,hp,hu4,hl4⟩=>?_)
    ·
     try dsimp only
     exact tf_ (by first | assumption | exact (Subtype.property _).2.1.cl) (fun _ h=>h)
    try dsimp only
    dsimp only at hp hu4 hl4
    have hy4:=hu4.sys
    have hd4:=hu4.doc
    have hH4:=hu4.cl
    have hn4:=lt_of_get hy4.s
    have hw4:=lt_of_get hd4
    refine sk_ fun K9 hK9=>?_
    refine rg_ [3,4,12,16,17,18,23,185] ?_
    refine cdy_ (ht:=fun hb6=>?_) (hf:=fun hb6=>?_)
    rotate_left
    ·
     refine awp_exit (up_ ?_)
     refine hK7 _ ?_
     refine rt_ [3,4,12,16,17,18] ?_
     refine srn_ ?_
     refine ⟨⟨⟨i+1,X4,d.2.1,d.2.2⟩,by dsimp only;omega,hu4,hdl.trans hpl,hdn⟩,?_,(by first | exact Nat.le_refl _ | (dsimp only;omega)),by dsimp only;omega⟩
     try dsimp only
     exact tf_ (by first | assumption | exact (Subtype.property _).2.1.cl) (by first | exact fun u hu=>hu | exact fun u hu=>(hlv u hu).1)
    have hp2:p≤cs.length+1:=by omega
    refine skp_ ?_
    refine hK9 _ ?_
    refine sk_ fun K10 hK10=>?_
    refine awp_block ?_
    refine sk_ fun K11 hK11=>?_
    refine rg_ [3,4,12,16,17,18,23,24] ?_
    refine awp_block ?_
    refine awp_loopG (X:={x:Nat×List Blk // x.1≤5∧Duo n (H0.length+1) x.2 d.2.1 d.2.2∧X4.length≤x.2.length}) (fun x=>⟨Tryz.f3.ntmps,fget [(3,.slice (cs.map crV) .none),(4,.slice (acs.map atV) .none),(12,.ptr (n+1) 0),(16,.ptr (H0.length+1) 0),(17,.raw (.pointer none)),(18,.int .i64 (i:Nat)),(23,.int .i64 ((p:Int) - 1)),(24,.int .i64 ((x.1.1:Int) - 1))],x.1.2,live⟩) (fun x=>5 - x.1.1) (⟨⟨0,X4⟩,by dsimp only;omega,hu4,Nat.le_refl _⟩) ?_ (by first | rfl | (simp only [List.length_set];done) | simp) (fun ⟨⟨k,X5⟩,hk,hu5,hl5⟩=>?_)
    ·
     try dsimp only
     exact tf_ (by first | assumption | exact (Subtype.property _).2.1.cl) (fun _ h=>h)
    try dsimp only
    dsimp only at hk hu5 hl5
    have hy5:=hu5.sys
    have hd5:=hu5.doc
    have hH5:=hu5.cl
    have hn5:=lt_of_get hy5.s
    have hw5:=lt_of_get hd5
    have hd5':X5[H0.length+1]? = some (.cells [.slice ((refL d.2.1).map nV) .none,.slice (d.2.2.map pV) .none]):=hd5
    have hdg5:=fun g:List Blk=>atApp (g:=g) hd5'
    have sx:=And.intro hd5' (And.intro hdg5 sx)
    refine sk_ fun K12 hK12=>?_
    refine rg_ [3,4,12,16,17,18,23,24,189] ?_
    refine cx_ (fun hb7=>?_) (fun hb7=>?_)
    rotate_left
    ·
     obtain ⟨u,hu⟩:∃u,umQ d.2.2 ((p:Int) - 1)=u:=⟨_,rfl⟩
     have hu':=hu
     have htp:((p:Int) - 1).toNat=p - 1:=by omega
     have sx:=And.intro htp sx
     refine awp_exit (up_ ?_)
     refine hK11 _ ?_
     refine rg_ [3,4,12,16,17,18,23,27] ?_
     refine awp_seq_m (X:=Unit) (fun _=>⟨Tryz.f3.ntmps,fget [(3,.slice (cs.map crV) .none),(4,.slice (acs.map atV) .none),(12,.ptr (n+1) 0),(16,.ptr (H0.length+1) 0),(17,.raw (.pointer none)),(18,.int .i64 (i:Nat)),(23,.int .i64 ((p:Int) - 1)),(27,.int .i64 u)],X5,live⟩) ?_ (fun _=>?_)
     rotate_left
     ·
      try dsimp only
      refine rs_ [3,4,12,16,17,18,23,268] ?_
      refine sg_ ?_
      refine cl_ (hc:=(hu'▸c23 _ _ _ _ _ _ _ hy5 _)) (k:=?_)
      refine sre_ ?_
      refine cy_ (fun hb11=>?_) (fun hb11=>?_)
      · exfalso;first | exact Bool.noConfusion hb11 | simp at hb11
      refine skp_ ?_
      refine hK10 _ ?_
      refine rt_ [3,4,12,16,17,18,23] ?_
      refine srn_ ?_
      refine ⟨⟨⟨p+1,X5⟩,by dsimp only;omega,hu5,by dsimp only;omega⟩,?_,(by first | exact Nat.le_refl _ | (dsimp only;omega)),by dsimp only;omega⟩
      try dsimp only
      exact tf_ (by first | assumption | exact (Subtype.property _).2.1.cl) (fun _ h=>h)
     refine rg_ [3,4,12,16,17,18,23,27,257] ?_
     refine cy_ (fun hb10=>?_) (fun hb10=>?_)
     ·
      have h10:1≤p∧p≤d.2.2.length:=by
       simp at hb10
       omega
      have hum:(d.2.2.getD (p - 1) pr0).um=u:=by rw [←umQ_in h10];exact hu
      have sx:=And.intro hum sx
      refine rt_ [3,4,12,16,17,18,23,27] ?_
      refine srn_ ?_
      refine ⟨(),?_,rfl⟩
      exact tf_ hH5 (fun _ h=>h)
     have h10:¬(1≤p∧p≤d.2.2.length):=by
      intro h
      simp at hb10
      omega
     rw [umQ_no h10] at hu
     subst hu
     refine skp_ ?_
     refine ⟨(),?_,rfl⟩
     exact tf_ hH5 (fun _ h=>h)
    have hk2:k≤4:=by omega
    obtain ⟨f,hf⟩:∃f,fdQ d.2.2 ((p:Int) - 1) ((k:Int) - 1)=f:=⟨_,rfl⟩
    have hf':=hf
    have hH25:HCl (X5++[.cells (fdC f)]):=hH5.snoc (b:=.cells (fdC f)) (clL_fdC _ _)
    have hlen5:(X5++[Blk.cells (fdC f),Blk.cells (fdC f)]).length=X5.length+2:=by simp
    have htp:((p:Int) - 1).toNat=p - 1:=by omega
    have htk:((k:Int) - 1).toNat=k - 1:=by omega
    have hB5:HCl (X5++[.cells (fdC f),.cells (fdC f)]):=by
     have:=(hH5.snoc (b:=.cells (fdC f)) (clL_fdC _ _)).snoc (b:=.cells (fdC f)) (clL_fdC _ _)
     rw [List.append_assoc] at this;exact this
    have sx:=And.intro htp (And.intro htk sx)
    refine skp_ ?_
    refine hK12 _ ?_
    refine sk_ fun K13 hK13=>?_
    refine awp_block ?_
    refine rg_ [3,4,12,16,17,18,23,24,25] ?_
    refine awp_seq_m (X:=Unit) (fun _=>⟨Tryz.f3.ntmps,fget [(3,.slice (cs.map crV) .none),(4,.slice (acs.map atV) .none),(12,.ptr (n+1) 0),(16,.ptr (H0.length+1) 0),(17,.raw (.pointer none)),(18,.int .i64 (i:Nat)),(23,.int .i64 ((p:Int) - 1)),(24,.int .i64 ((k:Int) - 1)),(25,.ptr X5.length 0)],X5++[.cells (fdC f)],live⟩) ?_ (fun _=>?_)
    rotate_left
    ·
     try dsimp only
     refine rs_ [3,4,12,16,17,18,23,24,25,26] ?_
     refine sg_ ?_
     refine cl_ (hc:=(hf'▸c22 _ _ _ _ _ _ _ hy5.app _ _)) (k:=?_)
     refine sre_ ?_
     refine rg_ [3,4,12,16,17,18,23,24,248] ?_
     refine cy_ (fun hb9=>?_) (fun hb9=>?_)
     · exfalso;first | exact Bool.noConfusion hb9 | simp at hb9
     refine skp_ ?_
     refine hK13 _ ?_
     refine rt_ [3,4,12,16,17,18,23,24] ?_
     refine srn_ ?_
     refine ⟨⟨⟨k+1,X5++[.cells (fdC f),.cells (fdC f)]⟩,by dsimp only;omega,⟨hy5.app,atApp hd5,hB5⟩,by dsimp only;simp;omega⟩,?_,(by first | exact Nat.le_refl _ | (dsimp only;omega) | (dsimp only;simp)),by dsimp only;omega⟩
     try dsimp only
     exact tf_ (by first | assumption | exact (Subtype.property _).2.1.cl) (fun _ h=>h)
    refine rg_ [3,4,12,16,17,18,23,24,25,209] ?_
    refine cy_ (fun hb8=>?_) (fun hb8=>?_)
    ·
     have h8:(1≤p∧p≤d.2.2.length)∧1≤k∧k≤3:=by
      simp at hb8
      omega
     have hfl3:=fdsL_len (d.2.2.getD (p - 1) pr0)
     have hfg:(fdsL (d.2.2.getD (p - 1) pr0)).getD (k - 1) fd0=f:=by rw [fdsL_get _ (by omega),←fdQ_in h8];exact hf
     have sx:=And.intro hfg sx
     refine rt_ [3,4,12,16,17,18,23,24,25] ?_
     refine srn_ ?_
     refine ⟨(),?_,by dsimp only;simp⟩
     exact tf_ hH25 (fun _ h=>h)
    have h8:¬((1≤p∧p≤d.2.2.length)∧1≤k∧k≤3):=by
     intro h
     simp at hb8
     omega
    rw [fdQ_no h8] at hf
    subst hf
    refine skp_ ?_
    refine ⟨(),?_,by dsimp only;simp⟩
    exact tf_ hH25 (fun _ h=>h)
   refine rt2_ (l1:=[_, _, _, _, _, _, _, _, _, _, _, _, _, _, _, _, _, _, _, _, _, _, _, _]) [3,4,12,16,17,18,19,20,21,22] ⟨false,[(H0.length+1,0,.agg 2),(H.length,0,.one),(H.length,1,.one),(H.length,2,.one),(H.length,3,.one),(H.length,4,.one),(H.length,5,.one)],[87,92,94,96,98,100,102,104],[21,22],[21,22],[107],0⟩ rfl ⟨by kernel_rfl,by kernel_rfl⟩ ?_
   refine df_ ?_
   refine sg_ ?_
   refine df_ ?_
   refine sg_ ?_
   refine df_ ?_
   refine sg_ ?_
   refine df_ ?_
   refine sg_ ?_
   refine df_ ?_
   refine sg_ ?_
   refine df_ ?_
   refine sg_ ?_
   refine df_ ?_
   refine sg_ ?_
   refine df_ ?_
   refine sg_ ?_
   refine ds_ (hc:=fun h' l' hs=>c16 T1 ps (acs.getD i at0).pid (acs.getD i at0).c _ _ hdi (by omega) (by omega) (by omega) hd) (k:=?_)
   refine dp_ ?_
   refine dp_ ?_
   refine dp_ ?_
   refine ⟨?_,?_⟩
   ·
    refine dga_ ?_
    refine dga_ ?_
    refine dgs_ ?_
    refine dgs_ ?_
    refine rn_ (up_ ?_)
    have hHa:HCl (X++[.cells [.slice ((refL d.2.1).map nV) .none,.slice (d.2.2.map pV) .none],.cells (rvC d.1)]):=by
     have:=(hH2.snoc (sB_cl d.2.1 d.2.2 _)).snoc (b:=.cells (rvC d.1)) (clL_rvC _ _)
     rw [List.append_assoc] at this;exact this
    have hHb:HCl (X++[.cells (rvC d.1),.cells [.slice ((refL d.2.1).map nV) .none,.slice (d.2.2.map pV) .none]]):=by
     have:=(hH2.snoc (b:=.cells (rvC d.1)) (clL_rvC _ _)).snoc (sB_cl d.2.1 d.2.2 _)
     rw [List.append_assoc] at this;exact this
    have hwX:=lt_of_get hdoc
    first
     | (
      refine ⟨⟨⟨X++[.cells [.slice ((refL d.2.1).map nV) .none,.slice (d.2.2.map pV) .none],.cells (rvC d.1)],X.length,X.length+1⟩,hy2.app,by simp,atApp hx2,atApp hca,atApp hdoc,(by dsimp only;rw [List.getElem?_append_right (Nat.le_refl _),Nat.sub_self];rfl),(by dsimp only;rw [List.getElem?_append_right (by omega),show X.length+1 - X.length=1 by omega];rfl),by dsimp only;omega,by dsimp only;omega,hHa⟩,?_,(by dsimp only;simp<;>omega)⟩
      dsimp only
      exact tf_ hHa (fun _ h=>h))
     | (
      refine ⟨⟨⟨X++[.cells (rvC d.1),.cells [.slice ((refL d.2.1).map nV) .none,.slice (d.2.2.map pV) .none]],X.length+1,X.length⟩,hy2.app,by simp,atApp hx2,atApp hca,atApp hdoc,(by dsimp only;rw [List.getElem?_append_right (by omega),show X.length+1 - X.length=1 by omega];rfl),(by dsimp only;rw [List.getElem?_append_right (Nat.le_refl _),Nat.sub_self];rfl),by dsimp only;omega,by dsimp only;omega,hHb⟩,?_,(by dsimp only;simp<;>omega)⟩
      dsimp only
      exact tf_ hHb (fun _ h=>h))
   ·
    refine dga_ ?_
    refine dga_ ?_
    refine dgs_ ?_
    refine dgs_ ?_
    refine rn_ (up_ ?_)
    have hHa:HCl (X++[.cells [.slice ((refL d.2.1).map nV) .none,.slice (d.2.2.map pV) .none],.cells (rvC d.1)]):=by
     have:=(hH2.snoc (sB_cl d.2.1 d.2.2 _)).snoc (b:=.cells (rvC d.1)) (clL_rvC _ _)
     rw [List.append_assoc] at this;exact this
    have hHb:HCl (X++[.cells (rvC d.1),.cells [.slice ((refL d.2.1).map nV) .none,.slice (d.2.2.map pV) .none]]):=by
     have:=(hH2.snoc (b:=.cells (rvC d.1)) (clL_rvC _ _)).snoc (sB_cl d.2.1 d.2.2 _)
     rw [List.append_assoc] at this;exact this
    have hwX:=lt_of_get hdoc
    first
     | (
      refine ⟨⟨⟨X++[.cells [.slice ((refL d.2.1).map nV) .none,.slice (d.2.2.map pV) .none],.cells (rvC d.1)],X.length,X.length+1⟩,hy2.app,by simp,atApp hx2,atApp hca,atApp hdoc,(by dsimp only;rw [List.getElem?_append_right (Nat.le_refl _),Nat.sub_self];rfl),(by dsimp only;rw [List.getElem?_append_right (by omega),show X.length+1 - X.length=1 by omega];rfl),by dsimp only;omega,by dsimp only;omega,hHa⟩,?_,(by dsimp only;simp<;>omega)⟩
      dsimp only
      exact tf_ hHa (fun _ h=>h))
     | (
      refine ⟨⟨⟨X++[.cells (rvC d.1),.cells [.slice ((refL d.2.1).map nV) .none,.slice (d.2.2.map pV) .none]],X.length+1,X.length⟩,hy2.app,by simp,atApp hx2,atApp hca,atApp hdoc,(by dsimp only;rw [List.getElem?_append_right (by omega),show X.length+1 - X.length=1 by omega];rfl),(by dsimp only;rw [List.getElem?_append_right (Nat.le_refl _),Nat.sub_self];rfl),by dsimp only;omega,by dsimp only;omega,hHb⟩,?_,(by dsimp only;simp<;>omega)⟩
      dsimp only
      exact tf_ hHb (fun _ h=>h))
  refine rt2_ (l1:=[_, _, _, _, _, _, _]) [3,4,12,16,17,18,19,20] ⟨false,[(H.length,0,.agg 6)],[83,84],[],[20],[],0⟩ rfl ⟨by kernel_rfl,by kernel_rfl⟩ ?_
  refine sg_ ?_
  refine df_ ?_
  refine df_ ?_
  refine ⟨?_,?_⟩
  ·
   refine ck_ (k:=?_)
   refine (kDo (by first | exact hy.app | exact hy.app.app) _ _ hd (by omega) (by omega) (by omega)).mono ?_;rintro _ H2 live ⟨⟨rfl,hy2,hl2,ho2,rfl⟩,hH2⟩
   simp at hl2
   have hl2:=hl2.symm
   have hnl3:=lt_of_get hy2.s
   have hwas:H2[H.length]? = some (.cells (caC (acs.getD i at0).c)):=by rw [ho2 _ (by omega) (fun j hj=>by have:=hkb j hj;omega)];first | (simp;done) | (simp;rfl)
   have hdoc:H2[H0.length+1]? = some (.cells [.slice ((refL T1).map nV) .none,.slice (ps.map pV) .none]):=by rw [ho2 _ (by omega) (fun j hj=>by rw [hpl] at hj;have:=hkb0 j hj;omega)];first | exact atApp hwb | exact atApp (atApp hwb)
   first
    | (
     have hq:H2[H.length+1]? = some (.cells [.int .i64 0,.int .i64 0,.int .i64 0,.int .i64 0,.int .i64 0,.int .i64 0,.int .i64 0,.int .i64 0,.int .i64 0,.str [],.slice [] .full,.slice [] .full]):=by
      rw [ho2 _ (by omega) (fun j hj=>by have:=hkb j hj;omega)];simp
     have sx:=And.intro hq sx)
    | skip
   have hwg:=fun g:List Blk=>atApp (g:=g) hwas
   have sx:=And.intro hwas (And.intro hwg sx)
   refine dga_ ?_
   refine srn_ ?_
   first
    | (
     refine ⟨⟨H2++[.cells (rsC d.1)],hy2.app,by rw [List.length_append,List.length_singleton];omega,(by rw [hl2,List.getElem?_append_right (Nat.le_refl _),Nat.sub_self];rfl),atApp hwas,atApp hdoc,HCl.snoc (b:=.cells (rsC d.1)) hH2 (clL_rsC _ _)⟩,?_,(by dsimp only;simp<;>omega)⟩
     dsimp only
     rw [show AV.ptr H2.length 0=AV.ptr (H.length+1) 0 by rw [hl2]]
     exact tf_ (HCl.snoc (b:=.cells (rsC d.1)) hH2 (clL_rsC _ _)) (fun _ h=>h))
    | (
     refine ⟨⟨H2.set (H.length+1) (.cells (rsC d.1)),hy2.set (by omega) (by omega) (fun j hj=>by rw [hdl] at hj;have:=hkb j hj;omega) _,by rw [List.length_set];omega,get_setk (by omega),getSet hwas (by omega),getSet hdoc (by omega),HCl.set hH2 _ (clL_rsC _ _)⟩,?_,(by dsimp only;simp<;>omega)⟩
     dsimp only
     exact tf_ (HCl.set hH2 _ (clL_rsC _ _)) (fun _ h=>h))
  ·
   refine dga_ ?_
   refine ck_ (k:=?_)
   refine (kDo (by first | exact hy.app | exact hy.app.app) _ _ hd (by omega) (by omega) (by omega)).mono ?_;rintro _ H2 live ⟨⟨rfl,hy2,hl2,ho2,rfl⟩,hH2⟩
   simp at hl2
   have hl2:=hl2.symm
   have hnl3:=lt_of_get hy2.s
   have hwas:H2[H.length]? = some (.cells (caC (acs.getD i at0).c)):=by rw [ho2 _ (by omega) (fun j hj=>by have:=hkb j hj;omega)];first | (simp;done) | (simp;rfl)
   have hdoc:H2[H0.length+1]? = some (.cells [.slice ((refL T1).map nV) .none,.slice (ps.map pV) .none]):=by rw [ho2 _ (by omega) (fun j hj=>by rw [hpl] at hj;have:=hkb0 j hj;omega)];first | exact atApp hwb | exact atApp (atApp hwb)
   first
    | (
     have hq:H2[H.length+1]? = some (.cells [.int .i64 0,.int .i64 0,.int .i64 0,.int .i64 0,.int .i64 0,.int .i64 0,.int .i64 0,.int .i64 0,.int .i64 0,.str [],.slice [] .full,.slice [] .full]):=by
      rw [ho2 _ (by omega) (fun j hj=>by have:=hkb j hj;omega)];simp
     have sx:=And.intro hq sx)
    | skip
   have hwg:=fun g:List Blk=>atApp (g:=g) hwas
   have sx:=And.intro hwas (And.intro hwg sx)
   refine srn_ ?_
   first
    | (
     refine ⟨⟨H2++[.cells (rsC d.1)],hy2.app,by rw [List.length_append,List.length_singleton];omega,(by rw [hl2,List.getElem?_append_right (Nat.le_refl _),Nat.sub_self];rfl),atApp hwas,atApp hdoc,HCl.snoc (b:=.cells (rsC d.1)) hH2 (clL_rsC _ _)⟩,?_,(by dsimp only;simp<;>omega)⟩
     dsimp only
     rw [show AV.ptr H2.length 0=AV.ptr (H.length+1) 0 by rw [hl2]]
     exact tf_ (HCl.snoc (b:=.cells (rsC d.1)) hH2 (clL_rsC _ _)) (fun _ h=>h))
    | (
     refine ⟨⟨H2.set (H.length+1) (.cells (rsC d.1)),hy2.set (by omega) (by omega) (fun j hj=>by rw [hdl] at hj;have:=hkb j hj;omega) _,by rw [List.length_set];omega,get_setk (by omega),getSet hwas (by omega),getSet hdoc (by omega),HCl.set hH2 _ (clL_rsC _ _)⟩,?_,(by dsimp only;simp<;>omega)⟩
     dsimp only
     exact tf_ (HCl.set hH2 _ (clL_rsC _ _)) (fun _ h=>h))
 have hil:i<cs.length:=by omega
 have hct:(cs.take i).map crV++[crV (cs.getD i cr0)]=(cs.take (i+1)).map crV:=by rw [List.take_succ_eq_append_getElem hil,List.map_append,List.getD_eq_getElem?_getD,List.getElem?_eq_getElem hil];rfl
 refine skp_ ?_
 refine hK4 _ ?_
 refine sk_ fun K14 hK14=>?_
 refine awp_block ?_
 refine rt_ [2,3,4,12,14,15] ?_
 refine sg_ ?_
 refine cl_ (hc:=c11 (cs.getD i cr0) _ _) (k:=?_)
 refine sg_ ?_
 refine ap_ (a:=hc) (b:=cells_crV _) (c':=by simp [AV.cells]) (d:=by simp;omega) (e:=by simp;omega) (k:=?_)
 intro c60 live60 hk60
 refine srn_ ?_
 refine hK14 _ ?_
 refine rt_ [2,3,4,12,14,15] ?_
 refine srn_ ?_
 refine ln_ ⟨⟨i+1,c60,live60⟩,by dsimp only;omega,hk60.1,fun u hu=>hk60.2 u (hlv u hu).1 (hlv u hu).2⟩ ?_
 try dsimp only
 refine Trunc.of (by first | exact (List.append_nil _).symm | exact rfl | (rw [List.append_assoc];rfl)) ?_ hH0 (fun _ h=>h)
 refine ftc_ ?_
 refine ftc_ ?_
 refine ftc_ ?_
 refine ftc_ ?_
 refine FTr.cons (by show _=AV.slice (List.map crV (List.take (i+1) cs)) _;rw [←hct];rfl) (by exact clL_crV _ _) ?_
 refine ftc_ ?_
 exact FTr.nil
end Go.Proofs.YtegffmibifodcaaGreat

