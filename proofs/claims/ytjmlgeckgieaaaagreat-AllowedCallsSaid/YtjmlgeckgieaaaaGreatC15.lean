import Derived.Test.YtjmlgeckgieaaaaGreatC9
/-
  ALLOWED: who comes to a place, in a tree whose numbers stand anyhow.
-/
set_option linter.unusedVariables false
set_option linter.unusedSimpArgs false
namespace Go.Proofs.YtjmlgeckgieaaaaGreat
open Go.Ab
set_option maxRecDepth 8000
set_option maxHeartbeats 400000
theorem can_is {T:Tab} {c:Cr} {i w:Int} (h:canT c T i w=true):(T.get i).2=true:=by
 unfold canT at h;rw [Bool.and_eq_true] at h;exact h.1
theorem wayL_mono {T:Tab} {c:Cr}:∀(n:Nat) (d:Int),wayL T c n d=true→wayL T c (n+1) d=true
 | 0, _,h=>by cases h
 | n+1,d,h=>by
  rw [wayL_succ] at h ⊢
  split
  · rfl
  ·
   rename_i h1
   rw [if_neg h1] at h
   cases hc:canT c T (T.parent d) 1 with
   | false=>rw [hc] at h;cases h
   | true=>rw [hc,cond_true] at h;exact wayL_mono n _ h
theorem wayL_step {T:Tab} {c:Cr} {n:Nat} {d:Int} (h:wayL T c (n+1) d=true) (h1:d≠1):canT c T (T.parent d) 1=true∧wayL T c n (T.parent d)=true:=by
 rw [wayL_succ,if_neg h1] at h
 cases hc:canT c T (T.parent d) 1 with
 | false=>rw [hc] at h;cases h
 | true=>rw [hc,cond_true] at h;exact ⟨rfl,h⟩
section
variable {T:Tab} {c:Cr} {o:List Int}
theorem wy_kind {d:Int} (h:wayF T c d=true):(T.get d).1.kind=2∧wayL T c 24 d=true:=by
 unfold wayF at h
 cases hk:decide ((T.get d).1.kind=2) with
 | false=>rw [hk] at h;cases h
 | true=>rw [hk,cond_true] at h;exact ⟨of_decide_eq_true hk,h⟩
theorem wy_of {d:Int} (h1:(T.get d).1.kind=2) (h2:wayL T c 24 d=true):wayF T c d=true:=by
 unfold wayF;rw [decide_eq_true h1];exact h2
theorem wy_step {n:Nat} {d:Int} (h:wayL T c (n+1) d=true) (h1:d≠1):canT c T (T.parent d) 1=true∧wayL T c n (T.parent d)=true:=by
 unfold wayL at h
 rw [if_neg h1] at h
 cases hc:canT c T (T.parent d) 1 with
 | false=>rw [hc] at h;cases h
 | true=>rw [hc] at h;exact ⟨rfl,h⟩
theorem wy_make {n:Nat} {d:Int} (hc:canT c T (T.parent d) 1=true) (h:wayL T c n (T.parent d)=true):wayL T c (n+1) d=true:=by
 unfold wayL
 split
 · rfl
 · rw [hc];exact h
theorem wy_depth:∀(k m n:Nat) (d:Int),up T k d=1→k≤m→wayL T c n d=true→wayL T c (m+1) d=true
 | 0,m, _,d,hu, _, _=>by
  unfold wayL;rw [if_pos (show d=1 from hu)]
 | k+1,m,n,d,hu,hk,h=>by
  by_cases h1:d=1
  · unfold wayL;rw [if_pos h1]
  cases n with
  | zero=>cases h
  | succ n=>
   obtain ⟨hc,hl⟩:=wy_step h h1
   obtain ⟨j,rfl⟩:∃j,m=j+1:=⟨m - 1,by omega⟩
   exact wy_make hc (wy_depth k j n _ (by rw [up_in];exact hu) (by omega) hl)
theorem wy_mono {n:Nat}:∀ {d:Int},wayL T c n d=true→wayL T c (n+1) d=true:=by
 induction n with
 | zero=>intro d h;cases h
 | succ n ih=>
  intro d h
  by_cases h1:d=1
  · unfold wayL;rw [if_pos h1]
  obtain ⟨hc,hl⟩:=wy_step h h1
  exact wy_make hc (ih hl)
theorem sn_intro (hT:Gd T) {i d:Int} {e:En} (he:Ent T d e) (hei:e.2=i) (hw:wayF T c d=true) (hc:canT c T d 1=true) (hi:(T.get i).2=true):seenF T c i=true:=by
 have hr:=ent_room hT.1 he
 have hm:=hT.1.hi
 unfold seenF
 rw [hi,Bool.true_and,Bool.or_eq_true]
 left
 refine List.any_eq_true.2 ⟨d.toNat,List.mem_range.2 (by omega),?_⟩
 unfold seenAt
 rw [show ((d.toNat:Nat):Int)=d by omega,hw,hc,Bool.and_true,Bool.and_true]
 exact List.any_eq_true.2 ⟨e,he,decide_eq_true hei⟩
theorem sn_one (hW:TreeW T o []):seenF T c 1=true:=by
 unfold seenF
 rw [get_kind_at (T:=T) (i:=1) (by rw [hW.root];decide)];simp
theorem wy_one (hW:TreeW T o []):wayF T c 1=true:=wy_of hW.root (by unfold wayL;rw [if_pos rfl])
def Gw (T:Tab) (c:Cr) (i:Int):Prop:=seenF T c i=true∧((T.get i).1.kind=2→wayF T c i=true)
theorem Gw.one (hW:TreeW T o []):Gw T c 1:=⟨sn_one hW,fun _=>wy_one hW⟩
theorem Gw.kid (hT:Gd T) (hW:TreeW T o []) {i:Int} (hw:wayF T c i=true) (hc:canT c T i 1=true) {e:En} (he:Ent T i e):Gw T c e.2:=by
 refine ⟨sn_intro hT he rfl hw hc (hW.kid _ _ he),fun hk=>?_⟩
 have hp:=hW.par hT he hk
 obtain ⟨wk,wl⟩:=wy_kind hw
 refine wy_of hk ?_
 obtain ⟨k,hk24,hup⟩:=hW.reach hT hk
 cases k with
 | zero=>exact absurd hup (hW.top _ _ he)
 | succ k=>
  rw [←up_in,hp] at hup
  refine wy_make (n:=23) (by rw [hp];exact hc) ?_
  rw [hp]
  exact wy_depth k 22 24 i hup (by omega) wl
theorem Gw.up (hT:Gd T) (hW:TreeW T o []) {i:Int} (hk:(T.get i).1.kind=2) (hp:T.parent i≠0) (hg:Gw T c i):Gw T c (T.parent i):=by
 obtain ⟨e,he,hei⟩:=par_pos hT.1 hp
 have h1:i≠1:=fun e1=>hp (by rw [e1];exact par_one hT hW)
 obtain ⟨_,wl⟩:=wy_kind (hg.2 hk)
 obtain ⟨_,wl2⟩:=wy_step wl h1
 have hpk:=ent_dir hT he
 have hwp:wayF T c (T.parent i)=true:=wy_of hpk (wy_mono wl2)
 refine ⟨?_,fun _=>hwp⟩
 by_cases hp1:T.parent i=1
 · rw [hp1];exact sn_one hW
 ·
  obtain ⟨hc2,wl3⟩:=wy_step (n:=23) (wy_kind hwp).2 hp1
  obtain ⟨d,e',he',hei'⟩:=hW.has (T.parent i) (by simp) hpk hp1
  have hpp:T.parent (T.parent i)=d:=by rw [←hei'];exact hW.par hT he' (by rw [hei'];exact hpk)
  rw [hpp] at hc2 wl3
  exact sn_intro hT he' hei' (wy_of (ent_dir hT he') (wy_mono wl3)) hc2 (get_kind_at (by rw [hpk];decide))
theorem resL_gw (hT:Gd T) (hW:TreeW T o []) (fl:Bool):∀(n:Nat) (i k:Int) (l:List (List UInt8)),Gw T c i→(resL T c fl n i k l).2=0 →
 ((T.get (resL T c fl n i k l).1.2.2).2=true→Gw T c (resL T c fl n i k l).1.2.2)∧((resL T c fl n i k l).1.2.1=[]∨(wayF T c (resL T c fl n i k l).1.1=true∧canT c T (resL T c fl n i k l).1.1 1=true))
 | 0,i,k,l, _, _=>⟨fun hg=>absurd (show (T.get 0).2=true from hg) (by rw [get_eq hT.1,if_neg (by omega)];exact Bool.noConfusion),.inl rfl⟩
 | n+1,i,k,[],hi, _=>⟨fun _=>hi,.inl rfl⟩
 | n+1,i,k,s::l,hi,h0=>by
  rw [resL_cons] at h0 ⊢
  by_cases c3:(T.get i).1.kind≠2
  · rw [if_pos c3] at h0;cases h0
  rw [if_neg c3] at h0 ⊢
  have hk:(T.get i).1.kind=2:=Classical.not_not.1 c3
  have hw:=hi.2 hk
  by_cases c4:canT c T i 1=false
  · rw [if_pos c4] at h0;cases h0
  rw [if_neg c4] at h0 ⊢
  have hc:canT c T i 1=true:=by simpa using c4
  by_cases c5:s=[46]
  ·
   rw [if_pos c5] at h0 ⊢
   exact resL_gw hT hW fl n _ _ _ hi h0
  rw [if_neg c5] at h0 ⊢
  by_cases c6:s=[46,46]
  ·
   rw [if_pos c6] at h0 ⊢
   refine resL_gw hT hW fl n _ _ _ ?_ h0
   split
   · rename_i hp;exact hi.up hT hW hk hp
   · exact hi
  rw [if_neg c6] at h0 ⊢
  by_cases c8:(12:Int)<s.length
  · rw [if_pos c8] at h0;cases h0
  rw [if_neg c8] at h0 ⊢
  by_cases c9:findF (T.get i).1 s=0∧(0:Int)<l.length
  · rw [if_pos c9] at h0;cases h0
  rw [if_neg c9] at h0 ⊢
  by_cases c10:(T.get (findF (T.get i).1 s)).1.kind=3∧(fl=true∨(0:Int)<l.length)
  ·
   rw [if_pos c10] at h0 ⊢
   by_cases c11:k=8
   · rw [if_pos c11] at h0;cases h0
   rw [if_neg c11] at h0 ⊢
   refine resL_gw hT hW fl n _ _ _ ?_ h0
   split
   · exact Gw.one hW
   · exact hi
  rw [if_neg c10] at h0 ⊢
  have hkid:(T.get (findF (T.get i).1 s)).2=true→Gw T c (findF (T.get i).1 s):=fun hg=>by
   rcases findF_pos (hT.2.kind (i:=i) (by omega)) (s:=s) with ⟨f1, _⟩ | ⟨_, _,f3⟩
   · rw [f1,get_eq hT.1,if_neg (by omega)] at hg;cases hg
   · exact Gw.kid hT hW hw hc (e:=(s,findF (T.get i).1 s)) f3
  by_cases c12:(l.length:Int)=0
  ·
   rw [if_pos c12]
   exact ⟨hkid,.inr ⟨hw,hc⟩⟩
  ·
   rw [if_neg c12] at h0 ⊢
   have hz:findF (T.get i).1 s≠0:=fun e=>c9 ⟨e,by omega⟩
   refine resL_gw hT hW fl n _ _ _ (hkid ?_) h0
   rcases findF_pos (hT.2.kind (i:=i) (by omega)) (s:=s) with ⟨f1, _⟩ | ⟨_, _,f3⟩
   · exact absurd f1 hz
   · exact hW.kid _ _ f3
theorem res_gw (hT:Gd T) (hW:TreeW T o []) {p:List UInt8} {fl:Bool} (hz:rE T c p fl=0) :
 ((T.get (rN T c p fl)).2=true→Gw T c (rN T c p fl))∧(rS T c p fl=[]∨(wayF T c (rD T c p fl)=true∧canT c T (rD T c p fl) 1=true)):=by
 unfold rE at hz
 unfold rN rS rD
 unfold resF at hz ⊢
 split
 · rename_i h;rw [if_pos h] at hz;exact absurd hz h
 ·
  rename_i h
  rw [if_neg h] at hz
  exact resL_gw hT hW fl _ _ _ _ (Gw.one hW) hz
end
end Go.Proofs.YtjmlgeckgieaaaaGreat
