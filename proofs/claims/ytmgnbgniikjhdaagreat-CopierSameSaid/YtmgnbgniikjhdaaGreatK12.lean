import Derived.Test.YtmgnbgniikjhdaaGreatK11
/-
  A machine is run by the law.
-/
set_option linter.unusedVariables false
set_option linter.unusedSimpArgs false
namespace Go.Proofs.YtmgnbgniikjhdaaGreat
open Go.Ab
set_option maxRecDepth 8000
set_option maxHeartbeats 400000
theorem redF_data {T:Tab} (hT:T.Ok) (P:Pr) (ca:Ca):(redF T P ca).1.data.length≤1000:=by
 unfold redF
 split
 · exact Nat.zero_le _
 ·
  show (readF T _ _ _).1.length≤1000
  unfold readF
  split
  · exact Nat.zero_le _
  split
  · exact Nat.zero_le _
  ·
   have:=(get_ok hT (P.fd ca.a.toNat).node).1
   simp only [List.length_take,List.length_drop];omega
theorem doF_data {T:Tab} (hT:T.Ok) (ps:List Pr) (pid:Int) (ca:Ca):(doF T ps pid ca).1.data.length≤1000:=by
 have h0:∀e,(tol e).data.length≤1000:=fun e=>Nat.zero_le _
 have ho:∀P i,(opnAt T P ca i).1.data.length≤1000:=fun P i=>by
  unfold opnAt;split
  · exact h0 _
  · exact Nat.zero_le _
 unfold doF
 split
 ·
  generalize ps.getD pid.toNat pr0=P
  generalize pid.toNat=n
  show (stepF T ps n P ca).1.data.length≤1000
  unfold stepF
  split
  ·
   unfold opnF
   repeat' split
   all_goals first | exact ho _ _ | exact h0 _
  split
  · exact redF_data hT P ca
  split
  ·
   unfold wriF
   repeat' split
   all_goals exact Nat.zero_le _
  split
  ·
   unfold shutF
   repeat' split
   all_goals exact Nat.zero_le _
  split
  · exact Nat.zero_le _
  split
  · exact Nat.zero_le _
  split
  ·
   unfold askF
   repeat' split
   all_goals exact Nat.zero_le _
  split
  · exact Nat.zero_le _
  · exact Nat.zero_le _
 · exact Nat.zero_le _
def rs0:Rs:=tol 0
def rsQ (r:Rs) (c1 c2:Cap):List AV:=.int .i64 r.err::.int .i64 r.n::(staC r.st++[.str r.text,.slice (r.names.map .str) c1,.slice (r.data.map bV) c2])
theorem er_rsQ (r:Rs) (c1 c2:Cap):AV.erL (rsQ r c1 c2)=rsC r:=er_rsC r
theorem clL_rsQ (m:Nat) (r:Rs) (c1 c2:Cap):AV.clL m (rsQ r c1 c2):=clL_rsC m r
theorem rsQ_len (r:Rs) (c1 c2:Cap):(rsQ r c1 c2).length=12:=rfl
theorem rsQ_t (r:Rs) (c1 c2:Cap):(rsQ r c1 c2).take 12=rsQ r c1 c2:=rfl
theorem rsQ_put (r r':Rs) (c1 c2:Cap):putAt (rsQ r c1 c2) 0 (rsC r')=rsC r':=rfl
attribute [push_cast] rsQ_len rsQ_t rsQ_put
def runK {σ : Type} (At:Nat→List Blk→List Nat → σ → Prop) (own:Nat→Prop) (ks kt kb:Nat) (n:Nat) (h:List Blk) (R:Int×Tab×List Pr × σ):KT:=fun x h' live'=>
 (x=.int .i64 R.1∧SysAt h' ks kt kb R.2.1 R.2.2.1∧R.2.2.1.length=n∧At (h.length+1) h' live' R.2.2.2∧h.length≤h'.length∧∀i,i<h.length→¬own i→i≠kt→(∀j,j<n→i≠kb+2*j)→h'[i]? = h[i]?)∧HCl h'
attribute [push_cast] er_rsQ clL_rsQ
theorem c16 {σ : Type} (nxt : σ → Rs→(Ca×Bool) × σ) (At:Nat→List Blk→List Nat → σ → Prop) (Ok : σ → Prop) (own:Nat→Prop) (f:FuncId) (kd ks kt kb:Nat) (T:Tab) (ps:List Pr) (h:List Blk) (live:List Nat) (hy:SysAt h ks kt kb T ps) (s : σ) (hA:∀g,At (h.length+1) (h++g) live s) (hOk:Ok s) (hown:∀i,own i→i<h.length∧i≠ks∧i≠kt∧∀j,j<ps.length→i≠kb+2*j)
 (hcall:∀b h live s r,At b h live s→Ok s→b≤h.length→ACalls Tryz.prog f [.ptr kd 0,.agg (rsC r)] h live fun x h' live'=>x=kV (nxt s r).1∧h.length≤h'.length∧(∀i,i<b→¬own i→h'[i]? = h[i]?)∧At b h' live' (nxt s r).2)
 (hstep:∀s r,Ok s→r.data.length≤1000→(nxt s r).1.2=true→Ok (nxt s r).2∧(nxt s r).1.1.path.length≤1000∧(nxt s r).1.1.other.length≤1000∧(nxt s r).1.1.data.length≤1000)
 (hst:∀b h h' live s,At b h live s→h.length≤h'.length→(∀i,i<h.length→own i∨b≤i→h'[i]? = h[i]?)→At b h' live s):ACalls Tryz.prog 16 [.ptr ks 0,.fn (.func f) [.ptr kd 0] []] h live (runK At own ks kt kb ps.length h (runF nxt 3000 T ps s rs0 0)):=by
 refine aq_ Tryz.func16 fun hH hX=>?_
 have hkd:kd<h.length:=by have:=hX (.fn (.func f) [.ptr kd 0] []) (by simp);exact this.1.1
 have hksl:=lt_of_get hy.s
 have hktl:=lt_of_get hy.t
 have hkbl:∀j,j<ps.length→kb+2*j<h.length:=fun j hj=>lt_of_get (hy.p j hj)
 refine rg_ [0,1] ?_
 refine rg_ [0,1,5] ?_
 refine sk_ fun K1 hK1=>?_
 refine rg_ [0,1,5,6] ?_
 refine awp_block ?_
 refine awp_loopG (X:={x:Nat×List Blk×List Nat×Tab×List Pr × σ × Rs×Cap×Cap // x.1≤3000∧SysAt x.2.1 ks kt kb x.2.2.2.1 x.2.2.2.2.1∧x.2.2.2.2.1.length=ps.length∧At (h.length+1) x.2.1 x.2.2.1 x.2.2.2.2.2.1∧Ok x.2.2.2.2.2.1∧h.length<x.2.1.length∧x.2.1[h.length]? = some (.cells (rsQ x.2.2.2.2.2.2.1 x.2.2.2.2.2.2.2.1 x.2.2.2.2.2.2.2.2))∧(∀i,i<h.length→¬own i→i≠kt→(∀j,j<ps.length→i≠kb+2*j)→x.2.1[i]? = h[i]?)∧HCl x.2.1∧x.2.2.2.2.2.2.1.data.length≤1000∧runF nxt (3000 - x.1) x.2.2.2.1 x.2.2.2.2.1 x.2.2.2.2.2.1 x.2.2.2.2.2.2.1 x.1=runF nxt 3000 T ps s rs0 0}) (fun x=>⟨Tryz.f16.ntmps,fget [(0,.ptr ks 0),(1,.fn (.func f) [.ptr kd 0] []),(5,.ptr h.length 0),(6,.int .i64 (x.1.1:Nat))],x.1.2.1,x.1.2.2.1⟩) (fun x=>3000 - x.1.1) (⟨⟨0,h++[.cells (rsQ rs0 .full .full)],live,T,ps,s,rs0,.full,.full⟩,Nat.zero_le _,hy.app,rfl,hA _,hOk,by simp,by simp,fun i hi _ _ _=>List.getElem?_append_left hi,HCl.snoc (b:=.cells (rsQ rs0 .full .full)) hH (clL_rsC _ _),Nat.zero_le _,rfl⟩) ?_ (by first | rfl | (simp only [List.length_set];done) | simp) (fun ⟨⟨n,H,live1,T1,ps1,s1,r1,q1,q2⟩,hn,hy1,hpl,hA1,hOk1,hHl,hHr,hHo,hHc,hrd,hrun⟩=>?_)
 ·
  try dsimp only
  refine Trunc.of (by first | exact (List.append_nil _).symm | exact rfl | (rw [List.append_assoc];rfl)) ?_ (by first | exact HCl.set hH3 _ (clL_rsC _ _) | exact HCl.snoc (b:=.cells (rsQ rs0 .full .full)) hH (clL_rsC _ _) | assumption) (fun _ h=>h)
  refine ftc_ ?_ (hc:=by first | exact trivial | (simp [AV.cl,AV.clL]<;>omega))
  refine ftc_ ?_ (hc:=by first | exact trivial | (simp [AV.cl,AV.clL]<;>omega))
  refine ftc_ ?_ (hc:=by first | exact trivial | (simp [AV.cl,AV.clL]<;>omega))
  refine ftc_ ?_ (hc:=by first | exact trivial | (simp [AV.cl,AV.clL]<;>omega))
  exact FTr.nil
 try dsimp only
 dsimp only at hn hy1 hpl hA1 hOk1 hHl hHr hHo hHc hrd hrun
 have sx:=And.intro hHr sx
 refine sk_ fun K2 hK2=>?_
 refine rg_ [0,1,5,6,11] ?_
 refine cx_ (fun hb1=>?_) (fun hb1=>?_)
 rotate_left
 ·
  refine awp_exit (up_ ?_)
  refine hK1 _ ?_
  refine rg_ [4] ?_
  refine ret_ ?_
  refine gq_ (h1:=H) Tryz.results16 ?_ (hh:=(⟨[],(List.append_nil _).symm⟩)) (hH:=(by assumption)) (hle:=(by omega))
  obtain rfl:n=3000:=by omega
  rw [←hrun]
  exact ⟨⟨rfl,hy1,hpl,hA1,by omega,hHo⟩,hHc⟩
 refine skp_ ?_
 refine hK2 _ ?_
 refine sk_ fun K3 hK3=>?_
 refine awp_block ?_
 refine rs_ [0,1,5,6,7,8] ?_
 refine sg_ ?_
 refine ck_ (k:=?_)
 refine erx_ (ys:=[.ptr kd 0,.agg (rsC r1)]) (by simp only [List.map_cons,List.map_nil,AV.er,AV.erL,er_rsQ]) (ACalls.mono ?_ (ACalls.hclK (hcall _ _ _ s1 r1 hA1 hOk1 (by omega))));rintro _ H2 live2 ⟨⟨rfl,hl2,ho2,hA2⟩,hH2⟩
 have hHr2:H2[h.length]? = some (.cells (rsQ r1 q1 q2)):=by rw [ho2 _ (by omega) (fun h0=>by have:=(hown _ h0).1;omega)];exact hHr
 refine sre_ ?_
 refine sk_ fun K4 hK4=>?_
 refine rg_ [0,1,5,6,7,21] ?_
 refine cy_ (fun hb2=>?_) (fun hb2=>?_)
 ·
  have hbf:(nxt s1 r1).1.2=false:=by simpa using hb2
  have hy2:SysAt H2 ks kt kb T1 ps1:=⟨by rw [ho2 _ (by omega) (fun h0=>(hown _ h0).2.1 rfl)];exact hy1.s,by rw [ho2 _ (by omega) (fun h0=>(hown _ h0).2.2.1 rfl)];exact hy1.t,fun j hj=>by rw [ho2 _ (by have:=hkbl j (by rw [←hpl];exact hj);omega) (fun h0=>(hown _ h0).2.2.2 j (by rw [←hpl];exact hj) rfl)];exact hy1.p j hj,hy1.st,hy1.sb,hy1.tb,hy1.ok,hy1.rt,hy1.gs,hy1.few⟩
  refine rg_ [4] ?_
  refine ret_ ?_
  refine gq_ (h1:=H2) Tryz.results16 ?_ (hH:=(by assumption)) (hle:=(by omega))
  rw [←hrun,show 3000 - n=(3000 - n - 1)+1 by omega,run_n hbf]
  exact ⟨⟨rfl,hy2,hpl,hA2,by omega,fun i h1 h2 h3 h4=>(ho2 i (by omega) h2).trans (hHo i h1 h2 h3 h4)⟩,hH2⟩
 have hbt:(nxt s1 r1).1.2=true:=by simpa using hb2
 obtain ⟨hOk2,hp1,hp2,hp3⟩:=hstep s1 r1 hOk1 hrd hbt
 obtain ⟨d,hd⟩:∃d,doF T1 ps1 0 (nxt s1 r1).1.1=d:=⟨_,rfl⟩
 have hdl:d.2.2.length=ps1.length:=by rw [←hd];exact doF_len _ _ _ _
 have hdd:d.1.data.length≤1000:=by rw [←hd];exact doF_data hy1.ok _ _ _
 have hy2:SysAt H2 ks kt kb T1 ps1:=⟨by rw [ho2 _ (by omega) (fun h0=>(hown _ h0).2.1 rfl)];exact hy1.s,by rw [ho2 _ (by omega) (fun h0=>(hown _ h0).2.2.1 rfl)];exact hy1.t,fun j hj=>by rw [ho2 _ (by have:=hkbl j (by rw [←hpl];exact hj);omega) (fun h0=>(hown _ h0).2.2.2 j (by rw [←hpl];exact hj) rfl)];exact hy1.p j hj,hy1.st,hy1.sb,hy1.tb,hy1.ok,hy1.rt,hy1.gs,hy1.few⟩
 refine skp_ ?_
 refine hK4 _ ?_
 refine rt_ [0,1,5,6] ?_
 refine sg_ ?_
 refine ck_ (k:=?_)
 refine ACalls.mono ?_ (kDo hy2.app 0 (nxt s1 r1).1.1 hd hp1 hp2 hp3);rintro _ H3 live3 ⟨⟨rfl,hy3,hl3,ho3,rfl⟩,hH3⟩
 rw [List.length_append,List.length_singleton] at hl3
 have hHr3:H3[h.length]? = some (.cells (rsQ r1 q1 q2)):=by rw [ho3 _ (by omega) (fun j hj=>by rw [hpl] at hj;have:=hkbl j hj;omega)];exact atApp hHr2
 have hA4:At (h.length+1) (H3.set h.length (.cells (rsC d.1))) live3 (nxt s1 r1).2:=hst _ _ _ _ _ hA2 (by rw [List.length_set];omega) (fun i hi hor=>by
  rw [List.getElem?_set_ne (by rcases hor with h0 | h0;have:=(hown _ h0).1;omega;omega),ho3 i (by rcases hor with h0 | h0;exact (hown _ h0).2.2.1;omega) (fun j hj=>by rcases hor with h0 | h0;exact (hown _ h0).2.2.2 j (by rw [←hpl];exact hj);rw [hpl] at hj;have:=hkbl j hj;omega),List.getElem?_append_left hi])
 have sx:=And.intro hHr3 sx
 refine srn_ ?_
 refine hK3 _ ?_
 refine rt_ [0,1,5,6] ?_
 refine srn_ ?_
 refine ⟨⟨⟨n+1,H3.set h.length (.cells (rsC d.1)),live3,d.2.1,d.2.2,(nxt s1 r1).2,d.1,.none,.none⟩,by dsimp only;omega,hy3.set (by omega) (by omega) (fun j hj=>by rw [hdl,hpl] at hj;have:=hkbl j hj;omega) _,hdl.trans hpl,hA4,hOk2,by dsimp only;rw [List.length_set];omega,get_setk (by omega),fun i h1 h2 h3 h4=>by dsimp only;rw [List.getElem?_set_ne (by omega),ho3 i h3 (fun j hj=>h4 j (by rw [←hpl];exact hj)),List.getElem?_append_left (by omega),ho2 i (by omega) h2];exact hHo i h1 h2 h3 h4,HCl.set hH3 _ (clL_rsC _ _),hdd,by dsimp only;rw [←hrun,show 3000 - n=(3000 - (n+1))+1 by omega,run_y hbt,hd]⟩,?_,(by first | exact Nat.le_refl _ | (simp;done) | (simp;omega)),by dsimp only;omega⟩
 try dsimp only
 refine Trunc.of (by first | exact (List.append_nil _).symm | exact rfl | (rw [List.append_assoc];rfl)) ?_ (by first | exact HCl.set hH3 _ (clL_rsC _ _) | exact HCl.snoc (b:=.cells (rsQ rs0 .full .full)) hH (clL_rsC _ _) | assumption) (fun _ h=>h)
 refine ftc_ ?_ (hc:=by first | exact trivial | (simp [AV.cl,AV.clL]<;>omega))
 refine ftc_ ?_ (hc:=by first | exact trivial | (simp [AV.cl,AV.clL]<;>omega))
 refine ftc_ ?_ (hc:=by first | exact trivial | (simp [AV.cl,AV.clL]<;>omega))
 refine ftc_ ?_ (hc:=by first | exact trivial | (simp [AV.cl,AV.clL]<;>omega))
 exact FTr.nil
end Go.Proofs.YtmgnbgniikjhdaaGreat
