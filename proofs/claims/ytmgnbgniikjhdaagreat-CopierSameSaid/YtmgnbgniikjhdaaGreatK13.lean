import Derived.Test.YtmgnbgniikjhdaaGreatK12
/-
  CP as a machine that is run; a law's system begins; words.
-/
set_option linter.unusedVariables false
set_option linter.unusedSimpArgs false
namespace Go.Proofs.YtmgnbgniikjhdaaGreat
open Go.Ab
set_option maxRecDepth 8000
set_option maxHeartbeats 400000
structure CmB (c:Cm):Prop where
 tg:c.tgt.length≤80
 lf:c.left.length≤1000
 lb:∀f∈c.left,f.length≤80
 fr:c.fr.length≤1000
 to:c.to.length≤1000
 cf:c.cp.fr.length≤1000
 ct:c.cp.to.length≤1000
 o:CmO c
 dg:c.dg.length+cmM c≤1000000
def CaB (k:Ca):Prop:=k.path.length≤1000∧k.other.length≤1000∧k.data.length≤1000
theorem cpN_bd {c:Cp} {r:Rs} (hf:c.fr.length≤1000) (ht:c.to.length≤1000) (hr:r.data.length≤1000):CaB (cpN c r).1.1∧(cpN c r).2.fr=c.fr∧(cpN c r).2.to=c.to:=by
 have h0:([]:List UInt8).length≤1000:=Nat.zero_le _
 unfold cpN cpFirst cpOpened cpBoth cpGot cpPut cpShut cpEnd cpRead cpB
 repeat' split
 all_goals exact ⟨⟨by assumption,h0,by assumption⟩,rfl,rfl⟩
theorem joinF_len (d n:List UInt8):(joinF d n).length≤d.length+1+n.length:=by
 unfold joinF
 cases (decide (d=[])||sufF d)<;>simp<;>omega
theorem src_bd {c:Cm} (htg:c.tgt.length≤80) (hlb:∀f∈c.left,f.length≤80) (hlf:c.left.length≤1000) (hcf:c.cp.fr.length≤1000) (hct:c.cp.to.length≤1000) (hm:(cmSrc c).1.2=true) {n:Nat} (hdg:c.dg.length+c.left.length*105≤n+1) (hn:n≤1000000) :
 CaB (cmSrc c).1.1∧CmB (cmSrc c).2:=by
 obtain ⟨k1,k2⟩:=srcM hm
 unfold cmSrc at hm k1 k2 ⊢
 split at hm
 · cases hm
 rename_i h
 rw [if_neg h] at k1 k2 ⊢
 have h1:=hlb _ (getD0_mem [] (show 0<c.left.length by omega))
 have h2:(c.left.drop 1).length≤c.left.length:=by rw [List.length_drop];omega
 have hb:=baseF_len (s:=c.left.getD 0 []) (by omega)
 have hb2:(baseF (c.left.getD 0 [])).length≤80:=baseF_le (by omega)
 refine ⟨⟨by show (c.left.getD 0 []).length≤1000;omega,Nat.zero_le _,Nat.zero_le _⟩,htg,by dsimp only;omega,fun f hf=>hlb f (List.mem_of_mem_drop hf),by dsimp only;omega,?_,hcf,hct,k2,by dsimp only at k1 ⊢;omega⟩
 dsimp only
 cases c.into
 · rw [cond_false];omega
 ·
  rw [cond_true]
  have:=joinF_len c.tgt (baseF (c.left.getD 0 []))
  omega
theorem copies_bd {c:Cm} {r:Rs} (hc:CpO c.cp) (htg:c.tgt.length≤80) (hlb:∀f∈c.left,f.length≤80) (hlf:c.left.length≤1000) (hfr:c.fr.length≤1000) (hto:c.to.length≤1000) (hcf:c.cp.fr.length≤1000) (hct:c.cp.to.length≤1000) (hr:r.data.length≤1000)
 (hdg:c.dg.length+(c.left.length*105+(cpM c.cp+2))≤1000000) (hm:(cmCopies c r).1.2=true):CaB (cmCopies c r).1.1∧CmB (cmCopies c r).2:=by
 obtain ⟨k1,k2⟩:=copiesM hc hm
 obtain ⟨b1,b2,b3⟩:=cpN_bd hcf hct hr
 unfold cmCopies at hm k1 k2 ⊢
 dsimp only at hm k1 k2 ⊢
 cases h1:(cpN c.cp r).1.2 with
 | true=>
  rw [h1,cond_true] at k1 k2
  rw [cond_true]
  exact ⟨b1,htg,hlf,hlb,hfr,hto,by show (cpN c.cp r).2.fr.length≤_;rw [b2];exact hcf,by show (cpN c.cp r).2.to.length≤_;rw [b3];exact hct,k2,by show c.dg.length+_≤_;omega⟩
 | false=>
  rw [h1,cond_false] at hm
  rw [cond_false]
  cases h2:wrF (cpN c.cp r).2 with
  | true=>
   rw [h2,cond_true] at hm
   rw [cond_true]
   exact src_bd (c:=cmFail { c with cp:=(cpN c.cp r).2 } _ _) (n:=1000000) htg hlb hlf (by show (cpN c.cp r).2.fr.length≤_;rw [b2];exact hcf) (by show (cpN c.cp r).2.to.length≤_;rw [b3];exact hct) hm (by show (c.dg++[_]).length+_≤_;rw [List.length_append,List.length_singleton];show c.dg.length+1+c.left.length*105≤_;omega) (Nat.le_refl _)
  | false=>
   rw [h2,cond_false] at hm
   rw [cond_false]
   rw [h1,cond_false,h2,cond_false] at k1 k2
   cases h3:c.keep with
   | true=>
    rw [h3,cond_true] at k1 k2
    rw [cond_true]
    exact ⟨⟨hto,Nat.zero_le _,Nat.zero_le _⟩,htg,hlf,hlb,hfr,hto,by show (cpN c.cp r).2.fr.length≤_;rw [b2];exact hcf,by show (cpN c.cp r).2.to.length≤_;rw [b3];exact hct,k2,by show c.dg.length+_≤_;omega⟩
   | false=>
    rw [h3,cond_false] at hm
    rw [cond_false]
    exact src_bd (hm:=hm) (n:=1000000) htg hlb hlf (by dsimp only;rw [b2];exact hcf) (by dsimp only;rw [b3];exact hct) (by dsimp only;omega) (Nat.le_refl _)
theorem CmB.step {c:Cm} {r:Rs} (h:CmB c) (hr:r.data.length≤1000) (hm:(cmN c r).1.2=true):CmB (cmN c r).2∧CaB (cmN c r).1.1:=by
 obtain ⟨k1,k2⟩:=cmM_step r h.o hm
 have hsk:∀(c:Cm) (p:List UInt8) (e:Int),c.tgt.length≤80→(∀f∈c.left,f.length≤80)→c.left.length≤1000→c.cp.fr.length≤1000→c.cp.to.length≤1000→c.dg.length+c.left.length*105≤1000000→(cmSkip c p e).1.2=true→CmB (cmSkip c p e).2∧CaB (cmSkip c p e).1.1:=fun c p e a1 a2 a3 a4 a5 a6 a7=>
  (src_bd (c:=cmFail c p e) (n:=1000000) a1 a2 a3 a4 a5 a7 (by show (c.dg++[_]).length+_≤_;rw [List.length_append,List.length_singleton];show c.dg.length+1+c.left.length*105≤_;omega) (Nat.le_refl _)).symm
 have hsr:∀(c:Cm),c.tgt.length≤80→(∀f∈c.left,f.length≤80)→c.left.length≤1000→c.cp.fr.length≤1000→c.cp.to.length≤1000→c.dg.length+c.left.length*105≤1000000→(cmSrc c).1.2=true→CmB (cmSrc c).2∧CaB (cmSrc c).1.1:=fun c a1 a2 a3 a4 a5 a6 a7=>
  (src_bd (c:=c) (n:=1000000) a1 a2 a3 a4 a5 a7 (by omega) (Nat.le_refl _)).symm
 obtain ⟨hb1,hb2,hb3,hb4,hb5,hb6,hb7,hb8,hb9⟩:=h
 have hdM:∀n,n+1≤cmM c→c.dg.length+n≤1000000:=fun n hn=>by generalize cmM c=M at hn hb9;omega
 obtain ⟨dg,keep,into,tgt,left,fr,to,s,cp,nx⟩:=c
 unfold cmN at hm k1 k2 ⊢
 dsimp only at hm k1 k2 hb1 hb2 hb3 hb4 hb5 hb6 hb7 ⊢
 have hM:dg.length+left.length*105≤1000000:=by have h9:dg.length+(left.length*105+_)≤1000000:=hb9;omega
 rcases (show nx=0∨nx=1∨nx=2∨nx=3∨nx=4∨nx=5∨nx=6∨7≤nx by omega) with rfl | rfl | rfl | rfl | rfl | rfl | rfl | h7
 · cases hm
 · exact ⟨⟨hb1,hb2,hb3,hb4,hb5,hb6,hb7,k2,hdM _ k1⟩,⟨Nat.le_trans hb1 (by decide),Nat.zero_le _,Nat.zero_le _⟩⟩
 ·
  simp only [cmAimed] at hm ⊢
  split at hm
  ·
   obtain ⟨k1,k2⟩:=srcM hm
   simp only [List.length_nil,Nat.zero_mul] at k1
   omega
  ·
   rename_i hc
   rw [if_neg hc]
   exact hsr _ hb1 hb3 hb2 hb6 hb7 hM hm
 ·
  simp only [cmLooked] at hm k1 k2 ⊢
  split at hm
  · rename_i hc;rw [if_pos hc];exact hsk _ _ _ hb1 hb3 hb2 hb6 hb7 hM hm
  rename_i hc;rw [if_neg hc] at k1 k2;rw [if_neg hc]
  split at hm
  · rename_i hc;rw [if_pos hc];exact hsk _ _ _ hb1 hb3 hb2 hb6 hb7 hM hm
  rename_i hc;rw [if_neg hc] at k1 k2;rw [if_neg hc]
  exact ⟨⟨hb1,hb2,hb3,hb4,hb5,hb6,hb7,k2,hdM _ k1⟩,⟨hb5,Nat.zero_le _,Nat.zero_le _⟩⟩
 ·
  simp only [cmBegin] at hm ⊢
  split at hm
  · rename_i hc;rw [if_pos hc];exact hsk _ _ _ hb1 hb3 hb2 hb6 hb7 hM hm
  ·
   rename_i hc;rw [if_neg hc]
   exact (copies_bd (c:=⟨dg,keep,into,tgt,left,fr,to,s,cp0 fr to 22 (bits .and .i64 s.mode 511),4⟩) rfl hb1 hb3 hb2 hb4 hb5 hb4 hb5 hr (by simp only [cmM] at hb9;show dg.length+(left.length*105+(101+2))≤1000000;omega) hm).symm
 · exact (copies_bd (c:=⟨dg,keep,into,tgt,left,fr,to,s,cp,5⟩) (hb8 rfl) hb1 hb3 hb2 hb4 hb5 hb6 hb7 hr (by simp only [cmM] at hb9;exact hb9) hm).symm
 · exact ⟨⟨hb1,hb2,hb3,hb4,hb5,hb6,hb7,k2,hdM _ k1⟩,⟨hb5,Nat.zero_le _,Nat.zero_le _⟩⟩
 ·
  obtain ⟨m,rfl⟩:∃m,nx=m+7:=⟨nx - 7,by omega⟩
  simp only [cmDone] at hm ⊢
  split at hm
  · rename_i hc;rw [if_pos hc];exact hsk _ _ _ hb1 hb3 hb2 hb6 hb7 hM hm
  · rename_i hc;rw [if_neg hc];exact hsr _ hb1 hb3 hb2 hb6 hb7 hM hm
def CmAt (L:List Nat) (kd b:Nat) (h:List Blk) (live:List Nat) (c:Cm):Prop:=∃cd cl pc,h[kd]? = some (.cells (cmC kd cd cl pc c))∧CapOK live cd∧(∀u∈L,u∈live∧cd≠.own u)∧pc.cl h.length∧(∀i,pc=.ptr i 0→b≤i)∧(c.nx=5→∃kc,pc=.ptr kc 0∧kc≠kd∧h[kc]? = some (.cells (cpC kc c.cp)))
theorem cm_call (L:List Nat) (kd:Nat):∀b h live c r,CmAt L kd b h live c→CmB c→b≤h.length→ACalls Tryz.prog 25 [.ptr kd 0,.agg (rsC r)] h live fun x h' live'=>x=kV (cmN c r).1∧h.length≤h'.length∧(∀i,i<b→¬i=kd→h'[i]? = h[i]?)∧CmAt L kd b h' live' (cmN c r).2:=by
 rintro b h live c r ⟨cd,cl,pc,h1,h2,h3,h4,h5,h6⟩ hB hb
 have hd:=hB.dg
 refine (c25 kd cd cl pc c r h live h1 h2 h4 (by have:=hB.tg;omega) hB.lf (fun f hf=>Nat.le_trans (hB.lb f hf) (by decide)) (by omega) h6).mono ?_
 rintro _ h' live' ⟨rfl,cd',cl',pc',k1,k2,k3,k4,k5,k6,k7⟩
 refine ⟨rfl,k1,fun i hi hn=>k3 i (by omega) hn (fun e=>by have:=h5 i e;omega),cd',cl',pc',k2,k6.1,fun u hu=>k6.2 u (h3 u hu).1 (h3 u hu).2,k7,fun i e=>?_,k5⟩
 rcases k4 with e2 | ⟨kc,e2,hl⟩
 · exact h5 i (by rw [←e2];exact e)
 · rw [e2] at e;cases e;omega
theorem cm_stay (L:List Nat) (kd:Nat):∀b h h' live c,CmAt L kd b h live c→h.length≤h'.length→(∀i,i<h.length→i=kd∨b≤i→h'[i]? = h[i]?)→CmAt L kd b h' live c:=by
 rintro b h h' live c ⟨cd,cl,pc,h1,h2,h3,h4,h5,h6⟩ hl hs
 refine ⟨cd,cl,pc,by rw [hs kd (lt_of_get h1) (.inl rfl)];exact h1,h2,h3,AV.cl_mono hl _ h4,h5,fun h=>?_⟩
 obtain ⟨kc,a1,a2,a3⟩:=h6 h
 exact ⟨kc,a1,a2,by rw [hs kc (lt_of_get a3) (.inr (h5 kc a1))];exact a3⟩
theorem cm_step (s:Cm) (r:Rs) (h:CmB s) (hr:r.data.length≤1000) (hm:(cmN s r).1.2=true):CmB (cmN s r).2∧(cmN s r).1.1.path.length≤1000∧(cmN s r).1.1.other.length≤1000∧(cmN s r).1.1.data.length≤1000:=h.step hr hm
end Go.Proofs.YtmgnbgniikjhdaaGreat
