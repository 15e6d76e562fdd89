import Derived.Test.YtjmlgeckgieaaaaGreatP2
/-
  TABLES: what became of nodes and of entries.
-/
set_option linter.unusedVariables false
set_option linter.unusedSimpArgs false
namespace Go.Proofs.YtjmlgeckgieaaaaGreat
open Go.Ab
set_option maxRecDepth 8000
set_option maxHeartbeats 400000
theorem c160 (l:List En) (c:Cap) (v0:En) (h:List Blk) (live:List Nat) (hl:l.length≤17592186044416):AC Tryz.prog 160 [.slice (l.map eV) c,.agg [.str v0.1,.int .i64 v0.2]] h live (.int .i64 (idxP (fun y=>decide (v0=y)) l)):=by
 refine aq_ Tryz.func160 fun hH hX=>?_
 have hB:HCl (h++[.cells [.str v0.1,.int .i64 v0.2]]):=HCl.snoc hH ⟨trivial,trivial,trivial⟩
 refine rg_ [0,3] ?_
 refine sk_ fun K1 hK1=>?_
 refine rg_ [0,3,7,8] ?_
 refine awp_block ?_
 refine lp_ (X:={i:Nat // i≤l.length∧∀j,j<i→decide (v0=l.getD j ([],0))=false}) (fun x=>⟨Tryz.f160.ntmps,fget [(0,.slice (l.map eV) c),(3,.ptr h.length 0),(7,.int .i64 l.length),(8,.int .i64 (x.1:Nat))],h++[.cells [.str v0.1,.int .i64 v0.2]],live⟩) (fun x=>l.length - x.1) (⟨0,by omega,fun j hj=>by omega⟩) ?_ (fun ⟨i,hi,hn⟩=>?_)
 ·
  try dsimp only
  exact tf_ hB (fun _ h=>h)
 try dsimp only
 refine rg_ [0,3,7,8,9] ?_
 refine sk_ fun K2 hK2=>?_
 refine cx_ (fun hb1=>?_) (fun hb1=>?_)
 rotate_left
 ·
  have hx:=idxP_none (p:=fun y=>decide (v0=y)) ([],0) (l:=l) fun j hj=>hn j (by omega)
  refine awp_exit (up_ ?_)
  refine hK1 _ ?_
  refine rg_ [4] ?_
  refine ret_ ?_
  refine fq_ Tryz.results160 ?_
  refine ⟨?_,rfl,rfl⟩
  rw [hx]
 have hil:i<l.length:=by omega
 refine skp_ ?_
 refine hK2 _ ?_
 refine sk_ fun K3 hK3=>?_
 refine awp_block ?_
 refine rg_ [0,3,5,7,8] ?_
 refine rsq_ [0,3,5,7,8,16] ⟨true,[],[],[],[],[],0⟩ (fun _=>⟨by kernel_rfl,by kernel_rfl⟩) ?_
 refine sre_ ?_
 refine cdy_ (ht:=fun hb2=>?_) (hf:=fun hb2=>?_)
 ·
  have hx:=idxP_at (p:=fun y=>decide (v0=y)) ([],0) (l:=l) (i:=i) (by omega) (decide_eq_true (Prod.ext hb2.1 (by first | exact hb2.2 | exact hb2.2.1))) hn
  refine rg_ [4] ?_
  refine ret_ ?_
  refine fq_ Tryz.results160 ?_
  refine ⟨?_,rfl,rfl⟩
  rw [hx]
 have hne:¬v0=l.getD i ([],0):=fun e=>by rw [←e] at hb2;simp at hb2
 refine skp_ ?_
 refine hK3 _ ?_
 refine rt_ [0,3,7,8] ?_
 refine srn_ ?_
 refine ln_ ⟨i+1,by omega,fun j hj=>by rcases Nat.lt_succ_iff_lt_or_eq.1 hj with h | h;exact hn j h;subst h;exact decide_eq_false hne⟩ ?_
 try dsimp only
 exact tf_ hB (fun _ h=>h)
theorem c122 (l:List En) (c:Cap) (v0:En) (h:List Blk) (live:List Nat) (hl:l.length≤17592186044416):AC Tryz.prog 122 [.slice (l.map eV) c,.agg [.str v0.1,.int .i64 v0.2]] h live (.bool (l.any fun y=>decide (v0=y))):=by
 refine aq_ Tryz.func122 fun hH hX=>?_
 have sx:=(And.intro @idxP_any sx0)
 refine rg_ [0,3] ?_
 refine rs_ [4] ?_
 refine sg_ ?_
 refine cl_ (hc:=c160 l _ v0 _ _ hl) (k:=?_)
 refine srt_ ?_
 refine fq_ Tryz.results122 ?_
 exact rk_ rfl
abbrev Ey:=Int×En
def yV (e:Ey):AV:=.agg [.int .i64 e.1,.str e.2.1,.int .i64 e.2.2]
def ey0:Ey:=(0,[],0)
theorem getD_yV {l:List Ey} {i:Nat} {d:AV} (h:i<l.length):(l.map yV).getD i d=.agg [.int .i64 (l.getD i ey0).1,.str (l.getD i ey0).2.1,.int .i64 (l.getD i ey0).2.2]:=by
 simp [List.getD_eq_getElem?_getD,h,yV]
theorem allSz_yV (l:List Ey):allSz (l.map yV) 3↔True:=iff_true_intro (allSz_map _ _ _ fun _=>rfl)
attribute [push_cast] getD_yV allSz_yV
theorem clL_yV (n:Nat) (l:List Ey):AV.clL n (l.map yV):=by
 rw [AV.clL_mem];intro x hx;obtain ⟨y, _,rfl⟩:=List.mem_map.1 hx;exact ⟨trivial,trivial,trivial,trivial⟩
theorem cells_yV (l:List Ey):∀y∈l.map yV,y.cells.length=3:=by
 intro y hy;obtain ⟨a, _,rfl⟩:=List.mem_map.1 hy;rfl
theorem erL_yV (l:List Ey):AV.erL (l.map yV)=l.map yV:=by
 rw [AV.erL_map,List.map_map];rfl
def lessF (d:Int) (l o:List En):List Ey:=(l.filter fun e=>!(o.any fun y=>decide (e=y))).map fun e=>(d,e)
theorem lessF_len (d:Int) (l o:List En):(lessF d l o).length≤l.length:=by
 unfold lessF;rw [List.length_map];exact List.length_filter_le _ _
theorem lessF_yes {d:Int} {l o:List En} {i:Nat} (h:i<l.length) (hn:(o.any fun y=>decide (l.getD i ([],0)=y))=false):lessF d (l.take (i+1)) o=lessF d (l.take i) o++[(d,l.getD i ([],0))]:=by
 have e:l.getD i ([],0)=l[i]:=by simp [List.getD_eq_getElem?_getD,h]
 unfold lessF
 rw [List.take_succ_eq_append_getElem h,List.filter_append,List.map_append,←e]
 simp only [List.filter_cons,hn,Bool.not_false,if_true,List.filter_nil,List.map_cons,List.map_nil]
theorem lessF_no {d:Int} {l o:List En} {i:Nat} (h:i<l.length) (hn:(o.any fun y=>decide (l.getD i ([],0)=y))=true):lessF d (l.take (i+1)) o=lessF d (l.take i) o:=by
 have e:l.getD i ([],0)=l[i]:=by simp [List.getD_eq_getElem?_getD,h]
 unfold lessF
 rw [List.take_succ_eq_append_getElem h,List.filter_append,List.map_append,←e]
 simp only [List.filter_cons,hn,Bool.not_true,Bool.false_eq_true,if_false,List.filter_nil,List.map_nil,List.append_nil]
theorem yV_snoc (l:List Ey) (d:Int) (e:En):l.map yV++[.agg [.int .i64 d,.str e.1,.int .i64 e.2]]=(l++[(d,e)]).map yV:=by simp [yV]
theorem map_yV_app (a b:List Ey):a.map yV++b.map yV=(a++b).map yV:=by simp
theorem cap_snoc {live l l1:List Nat} {c c1:Cap} (hlv:∀u∈live,u∈l∧c≠.own u) (k:Keeps l c l1 c1):CapOK l1 c1∧∀u∈live,u∈l1∧c1≠.own u:=
 ⟨k.1,fun u hu=>k.2 u (hlv u hu).1 (hlv u hu).2⟩
attribute [push_cast] clL_yV erL_yV
theorem c79 (dn:Int) (l o:List En) (q r:Cap) (h:List Blk) (live:List Nat) (hl:l.length≤1000000) (ho:o.length≤1000000):AC Tryz.prog 79 [.int .i64 dn,.slice (l.map eV) q,.slice (o.map eV) r] h live (.slice ((lessF dn l o).map yV) .none):=by
 refine aq_ Tryz.func79 fun hH hX=>?_
 refine rg_ [0,1,2] ?_
 refine rg_ [0,1,2,7] ?_
 refine sk_ fun K1 hK1=>?_
 refine rg_ [0,2,7,10,11,12] ?_
 refine awp_block ?_
 refine lp_ (X:={p:Nat×Cap×List Nat // p.1≤l.length∧CapOK p.2.2 p.2.1∧∀u∈live,u∈p.2.2∧p.2.1≠.own u}) (fun x=>⟨Tryz.f79.ntmps,fget [(0,.int .i64 dn),(2,.slice (o.map eV) r),(7,.slice ((lessF dn (l.take x.1.1) o).map yV) x.1.2.1),(10,.slice (l.map eV) q),(11,.int .i64 l.length),(12,.int .i64 (x.1.1:Nat))],h,x.1.2.2⟩) (fun x=>l.length - x.1.1) (⟨⟨0,.full,live⟩,Nat.zero_le _,.inl rfl,fun u hu=>⟨hu,Cap.noConfusion⟩⟩) ?_ (fun ⟨⟨i,c,live'⟩,hi,hc,hlv⟩=>?_)
 ·
  try dsimp only
  refine Trunc.of (by first | exact (List.append_nil _).symm | exact rfl | (rw [List.append_assoc];rfl)) ?_ hH (fun _ h=>h)
  refine ftc_ ?_ (hc:=by simp [AV.cl,AV.clL,clL_eV,clL_yV, -List.map_map])
  refine ftc_ ?_ (hc:=by simp [AV.cl,AV.clL,clL_eV,clL_yV, -List.map_map])
  refine FTr.cons (by first | rfl | (simp only [push_cast];rw [lessF_yes hil hb2'];simp only [List.map_append];rfl) | (simp only [push_cast];rw [lessF_no hil hb2'];rfl)) (by simp [AV.cl,AV.clL,clL_yV, -List.map_map]) ?_
  refine ftc_ ?_ (hc:=by simp [AV.cl,AV.clL,clL_eV,clL_yV, -List.map_map])
  refine ftc_ ?_ (hc:=by simp [AV.cl,AV.clL,clL_eV,clL_yV, -List.map_map])
  refine ftc_ ?_ (hc:=by simp [AV.cl,AV.clL,clL_eV,clL_yV, -List.map_map])
  exact FTr.nil
 try dsimp only
 dsimp only at hi hc hlv
 refine rg_ [0,2,7,10,11,12,13] ?_
 refine sk_ fun K2 hK2=>?_
 refine cx_ (fun hb1=>?_) (fun hb1=>?_)
 rotate_left
 ·
  have hie:i=l.length:=by omega
  subst hie
  refine awp_exit (up_ ?_)
  refine hK1 _ ?_
  refine rg_ [6] ?_
  refine ret_ ?_
  refine fq_ Tryz.results79 ?_ (hcl:=(by simp [AV.cl,AV.clL,clL_yV, -List.map_map])) (hl:=(fun u hu=>(hlv u hu).1))
  exact rk_ (by rw [List.take_length])
 have hil:i<l.length:=by omega
 have hll:=lessF_len dn (l.take i) o
 have htl:(l.take i).length≤l.length:=List.length_take_le' _ _
 refine skp_ ?_
 refine hK2 _ ?_
 refine sk_ fun K3 hK3=>?_
 refine awp_block ?_
 refine rg_ [0,2,7,9,10,11,12] ?_
 refine rs_ [0,2,7,9,10,11,12,19] ?_
 refine sg_ ?_
 refine cl_ (hc:=c122 o _ (l.getD i ([],0)) _ _ (by omega)) (k:=?_)
 refine sre_ ?_
 refine cy_ (fun hb2=>?_) (fun hb2=>?_)
 ·
  have hb2':=hb2
  simp only [Bool.not_eq_true'] at hb2'
  refine rt_ [0,2,7,10,11,12] ?_
  refine sg_ ?_
  refine ap_ (a:=hc) (b:=cells_yV _) (c':=by simp [AV.cells]) (d:=by simp;omega) (e:=by simp;omega) (k:=?_)
  intro c25 live25 hk25
  refine srn_ ?_
  refine hK3 _ ?_
  refine rt_ [0,2,7,10,11,12] ?_
  refine srn_ ?_
  refine ln_ ⟨⟨i+1,c25,live25⟩,by dsimp only;omega,cap_snoc hlv hk25⟩ ?_
  try dsimp only
  refine Trunc.of (by first | exact (List.append_nil _).symm | exact rfl | (rw [List.append_assoc];rfl)) ?_ hH (fun _ h=>h)
  refine ftc_ ?_ (hc:=by simp [AV.cl,AV.clL,clL_eV,clL_yV, -List.map_map])
  refine ftc_ ?_ (hc:=by simp [AV.cl,AV.clL,clL_eV,clL_yV, -List.map_map])
  refine FTr.cons (by first | rfl | (simp only [push_cast];rw [lessF_yes hil hb2'];simp only [List.map_append];rfl) | (simp only [push_cast];rw [lessF_no hil hb2'];rfl)) (by simp [AV.cl,AV.clL,clL_yV, -List.map_map]) ?_
  refine ftc_ ?_ (hc:=by simp [AV.cl,AV.clL,clL_eV,clL_yV, -List.map_map])
  refine ftc_ ?_ (hc:=by simp [AV.cl,AV.clL,clL_eV,clL_yV, -List.map_map])
  refine ftc_ ?_ (hc:=by simp [AV.cl,AV.clL,clL_eV,clL_yV, -List.map_map])
  exact FTr.nil
 have hb2':=hb2
 simp only [Bool.not_eq_false'] at hb2'
 refine skp_ ?_
 refine hK3 _ ?_
 refine rt_ [0,2,7,10,11,12] ?_
 refine srn_ ?_
 refine ln_ ⟨⟨i+1,c,live'⟩,by dsimp only;omega,hc,hlv⟩ ?_
 try dsimp only
 refine Trunc.of (by first | exact (List.append_nil _).symm | exact rfl | (rw [List.append_assoc];rfl)) ?_ hH (fun _ h=>h)
 refine ftc_ ?_ (hc:=by simp [AV.cl,AV.clL,clL_eV,clL_yV, -List.map_map])
 refine ftc_ ?_ (hc:=by simp [AV.cl,AV.clL,clL_eV,clL_yV, -List.map_map])
 refine FTr.cons (by first | rfl | (simp only [push_cast];rw [lessF_yes hil hb2'];simp only [List.map_append];rfl) | (simp only [push_cast];rw [lessF_no hil hb2'];rfl)) (by simp [AV.cl,AV.clL,clL_yV, -List.map_map]) ?_
 refine ftc_ ?_ (hc:=by simp [AV.cl,AV.clL,clL_eV,clL_yV, -List.map_map])
 refine ftc_ ?_ (hc:=by simp [AV.cl,AV.clL,clL_eV,clL_yV, -List.map_map])
 refine ftc_ ?_ (hc:=by simp [AV.cl,AV.clL,clL_eV,clL_yV, -List.map_map])
 exact FTr.nil
def updC (cs:Nat→Cap) (j:Nat) (c:Cap):Nat→Cap:=fun m=>if m=j then c else cs m
structure CapsN (live0 l:List Nat) (cs:Nat→Cap) (n:Nat):Prop where
 ok:∀i,i<n→CapOK l (cs i)
 ne:∀i j,i<n→j<n→i≠j→∀u,cs i=.own u→cs j≠.own u
 keep:∀u∈live0,u∈l∧∀i,i<n→cs i≠.own u
theorem CapsN.full (l:List Nat) (n:Nat):CapsN l l (fun _=>.full) n:=⟨fun _ _=>.inl rfl,fun _ _ _ _ _ _=>Cap.noConfusion,fun u hu=>⟨hu,fun _ _=>Cap.noConfusion⟩⟩
theorem CapsN.upd {live0 l l':List Nat} {cs:Nat→Cap} {n j:Nat} {c':Cap} (h:CapsN live0 l cs n) (hj:j<n) (k:Keeps l (cs j) l' c'):CapsN live0 l' (updC cs j c') n:=by
 have hold:∀i,i<n→i≠j→∀u,cs i=.own u→u∈l'∧c'≠.own u:=fun i hi hij u hu=>by
  rcases h.ok i hi with hf | ⟨t,ht,htl⟩
  · rw [hf] at hu;cases hu
  ·
   rw [ht] at hu;cases hu
   exact k.2 u htl (h.ne i j hi hj hij u ht)
 refine ⟨fun i hi=>?_,fun a b ha hb hab u hu=>?_,fun u hu=>⟨(k.2 u (h.keep u hu).1 ((h.keep u hu).2 j hj)).1,fun i hi=>?_⟩⟩
 ·
  unfold updC
  split
  · exact k.1
  ·
   rename_i hij
   rcases h.ok i hi with hf | ⟨t,ht, _⟩
   · exact .inl hf
   · exact .inr ⟨t,ht,(hold i hi hij t ht).1⟩
 ·
  unfold updC at hu ⊢
  by_cases h1:a=j
  ·
   rw [if_pos h1] at hu
   rw [if_neg (by omega)]
   intro e
   exact (hold b hb (by omega) u e).2 hu
  ·
   rw [if_neg h1] at hu
   by_cases h2:b=j
   · rw [if_pos h2];exact (hold a ha h1 u hu).2
   · rw [if_neg h2];exact h.ne a b ha hb hab u hu
 ·
  unfold updC
  split
  · exact (k.2 u (h.keep u hu).1 ((h.keep u hu).2 j hj)).2
  · exact (h.keep u hu).2 i hi
structure Df where
 b:Nat→List Int
 lost:List Ey
 won:List Ey
def dfC (D:Df) (cs:Nat→Cap):List AV:=[.slice ((D.b 0).map iV) (cs 0),.slice ((D.b 1).map iV) (cs 1),.slice ((D.b 2).map iV) (cs 2),.slice ((D.b 3).map iV) (cs 3),.slice (D.lost.map yV) (cs 4),.slice (D.won.map yV) (cs 5)]
def updB (D:Df) (f:Nat) (i:Int):Df:=⟨fun m=>if m=f then D.b m++[i] else D.b m,D.lost,D.won⟩
def df0:Df:=⟨fun _=>[],[],[]⟩
def nEnts (a b:Nd):Nd:=nWith a b.ents
def stepD (Ta Tb:Tab) (D:Df) (i:Int):Df:=
 bif sameF (Ta.get i).1 (Tb.get i).1 then D
 else bif !(Ta.get i).2 then updB D 0 i
 else bif !(Tb.get i).2 then updB D 1 i
 else bif decide ((Ta.get i).1.kind=2)&&sameF (nEnts (Ta.get i).1 (Tb.get i).1) (Tb.get i).1 then ⟨(updB D 2 i).b,D.lost++lessF i (Ta.get i).1.ents (Tb.get i).1.ents,D.won++lessF i (Tb.get i).1.ents (Ta.get i).1.ents⟩
 else updB D 3 i
def dfN (Ta Tb:Tab):Nat→Df
 | 0=>df0
 | m+1=>stepD Ta Tb (dfN Ta Tb m) ((m:Int)+1)
theorem updB_len {D:Df} {f:Nat} {i:Int} {m:Nat} (h:∀k,(D.b k).length≤m) (k:Nat):((updB D f i).b k).length≤m+1:=by
 have:=h k
 show (if k=f then D.b k++[i] else D.b k).length≤m+1
 split
 · simp;omega
 · omega
theorem dfN_len {Ta Tb:Tab} (ha:Ta.Ok) (hb:Tb.Ok):∀m,(∀k,((dfN Ta Tb m).b k).length≤m)∧(dfN Ta Tb m).lost.length≤1000*m∧(dfN Ta Tb m).won.length≤1000*m
 | 0=>⟨fun _=>Nat.le_refl _,Nat.le_refl _,Nat.le_refl _⟩
 | m+1=>by
  obtain ⟨h1,h2,h3⟩:=dfN_len ha hb m
  have ea:=(get_ok ha ((m:Int)+1)).2.1
  have eb:=(get_ok hb ((m:Int)+1)).2.1
  have la:=lessF_len ((m:Int)+1) (Ta.get ((m:Int)+1)).1.ents (Tb.get ((m:Int)+1)).1.ents
  have lb:=lessF_len ((m:Int)+1) (Tb.get ((m:Int)+1)).1.ents (Ta.get ((m:Int)+1)).1.ents
  show (∀k,((stepD Ta Tb (dfN Ta Tb m) ((m:Int)+1)).b k).length≤m+1)∧(stepD Ta Tb (dfN Ta Tb m) ((m:Int)+1)).lost.length≤1000*(m+1)∧(stepD Ta Tb (dfN Ta Tb m) ((m:Int)+1)).won.length≤1000*(m+1)
  unfold stepD
  cases sameF (Ta.get ((m:Int)+1)).1 (Tb.get ((m:Int)+1)).1 with
  | true=>exact ⟨fun k=>Nat.le_succ_of_le (h1 k),by simp only [cond_true];omega,by simp only [cond_true];omega⟩
  | false=>
   rw [cond_false]
   cases (!(Ta.get ((m:Int)+1)).2) with
   | true=>exact ⟨updB_len h1,by show (dfN Ta Tb m).lost.length≤_;omega,by show (dfN Ta Tb m).won.length≤_;omega⟩
   | false=>
    rw [cond_false]
    cases (!(Tb.get ((m:Int)+1)).2) with
    | true=>exact ⟨updB_len h1,by show (dfN Ta Tb m).lost.length≤_;omega,by show (dfN Ta Tb m).won.length≤_;omega⟩
    | false=>
     rw [cond_false]
     cases (decide ((Ta.get ((m:Int)+1)).1.kind=2)&&sameF (nEnts (Ta.get ((m:Int)+1)).1 (Tb.get ((m:Int)+1)).1) (Tb.get ((m:Int)+1)).1) with
     | true=>exact ⟨updB_len h1,by show ((dfN Ta Tb m).lost++_).length≤_;rw [List.length_append];omega,by show ((dfN Ta Tb m).won++_).length≤_;rw [List.length_append];omega⟩
     | false=>exact ⟨updB_len h1,by show (dfN Ta Tb m).lost.length≤_;omega,by show (dfN Ta Tb m).won.length≤_;omega⟩
theorem clL_dfC (n:Nat) (D:Df) (cs:Nat→Cap):AV.clL n (dfC D cs):=by simp [dfC,AV.clL,AV.cl,clL_iV,clL_yV, -List.map_map]
theorem er_dfC (D:Df) (cs:Nat→Cap):AV.erL (dfC D cs)=dfC D fun _=>.none:=by simp [dfC,AV.erL,AV.er,erL_iV,erL_yV, -List.map_map]
theorem nEnts_ok {a b:Nd} (ha:NdOk a) (hb:NdOk b):NdOk (nEnts a b):=⟨ha.1,hb.2.1,ha.2.2.1,hb.2.2.2⟩
theorem iV_snoc (l:List Int) (i:Int):l.map iV++[.int .i64 i]=(l++[i]).map iV:=by simp [iV]
attribute [push_cast] clL_dfC er_dfC
theorem pf78_0 (D:Df) (cs:Nat→Cap) (i:Int) (b:Nat) (h:List Blk) (live:List Nat) (hb:h[b]? = some (.cells (dfC D cs))) (hc:CapOK live (cs 0)) (hl:(D.b 0).length≤1000):ACalls Tryz.prog 78 [.int .i64 0,.int .i64 i,.ptr b 0] h live (fun x h' l'=>x=.tup []∧∃c',h'=h.set b (.cells (dfC (updB D 0 i) (updC cs 0 c')))∧Keeps live (cs 0) l' c'):=by
 refine aq_ Tryz.func78 fun hH hX=>?_
 have hbl:=lt_of_get hb
 have hB:∀D cs,HCl (h.set b (.cells (dfC D cs))):=fun D cs=>HCl.set hH b (clL_dfC _ _ _)
 unfold dfC at hb
 have sx:=(And.intro @hb sx0)
 refine rt_ [] ?_
 refine sg_ ?_
 refine ap_ (a:=hc) (b:=cells_iV _) (c':=by simp [AV.cells]) (d:=by simp;omega) (e:=by simp;omega) (k:=?_)
 intro c12 live12 hk12
 refine srn_ ?_
 refine gq_ (h1:=h.set b _) (live:=live12) Tryz.results78 ?_ (hl:=(fun _ h=>h)) (hh:=(⟨[],by rw [List.append_nil];simp only [iV_snoc];rfl⟩)) (hH:=(hB (updB D 0 i) (updC cs 0 c12)))
 exact ⟨rfl,c12,rfl,hk12⟩
theorem pf78_1 (D:Df) (cs:Nat→Cap) (i:Int) (b:Nat) (h:List Blk) (live:List Nat) (hb:h[b]? = some (.cells (dfC D cs))) (hc:CapOK live (cs 1)) (hl:(D.b 1).length≤1000):ACalls Tryz.prog 78 [.int .i64 1,.int .i64 i,.ptr b 0] h live (fun x h' l'=>x=.tup []∧∃c',h'=h.set b (.cells (dfC (updB D 1 i) (updC cs 1 c')))∧Keeps live (cs 1) l' c'):=by
 refine aq_ Tryz.func78 fun hH hX=>?_
 have hbl:=lt_of_get hb
 have hB:∀D cs,HCl (h.set b (.cells (dfC D cs))):=fun D cs=>HCl.set hH b (clL_dfC _ _ _)
 unfold dfC at hb
 have sx:=(And.intro @hb sx0)
 refine rt_ [] ?_
 refine sg_ ?_
 refine ap_ (a:=hc) (b:=cells_iV _) (c':=by simp [AV.cells]) (d:=by simp;omega) (e:=by simp;omega) (k:=?_)
 intro c12 live12 hk12
 refine srn_ ?_
 refine gq_ (h1:=h.set b _) (live:=live12) Tryz.results78 ?_ (hl:=(fun _ h=>h)) (hh:=(⟨[],by rw [List.append_nil];simp only [iV_snoc];rfl⟩)) (hH:=(hB (updB D 1 i) (updC cs 1 c12)))
 exact ⟨rfl,c12,rfl,hk12⟩
theorem pf78_2 (D:Df) (cs:Nat→Cap) (i:Int) (b:Nat) (h:List Blk) (live:List Nat) (hb:h[b]? = some (.cells (dfC D cs))) (hc:CapOK live (cs 2)) (hl:(D.b 2).length≤1000):ACalls Tryz.prog 78 [.int .i64 2,.int .i64 i,.ptr b 0] h live (fun x h' l'=>x=.tup []∧∃c',h'=h.set b (.cells (dfC (updB D 2 i) (updC cs 2 c')))∧Keeps live (cs 2) l' c'):=by
 refine aq_ Tryz.func78 fun hH hX=>?_
 have hbl:=lt_of_get hb
 have hB:∀D cs,HCl (h.set b (.cells (dfC D cs))):=fun D cs=>HCl.set hH b (clL_dfC _ _ _)
 unfold dfC at hb
 have sx:=(And.intro @hb sx0)
 refine rt_ [] ?_
 refine sg_ ?_
 refine ap_ (a:=hc) (b:=cells_iV _) (c':=by simp [AV.cells]) (d:=by simp;omega) (e:=by simp;omega) (k:=?_)
 intro c12 live12 hk12
 refine srn_ ?_
 refine gq_ (h1:=h.set b _) (live:=live12) Tryz.results78 ?_ (hl:=(fun _ h=>h)) (hh:=(⟨[],by rw [List.append_nil];simp only [iV_snoc];rfl⟩)) (hH:=(hB (updB D 2 i) (updC cs 2 c12)))
 exact ⟨rfl,c12,rfl,hk12⟩
theorem pf78_3 (D:Df) (cs:Nat→Cap) (i:Int) (b:Nat) (h:List Blk) (live:List Nat) (hb:h[b]? = some (.cells (dfC D cs))) (hc:CapOK live (cs 3)) (hl:(D.b 3).length≤1000):ACalls Tryz.prog 78 [.int .i64 3,.int .i64 i,.ptr b 0] h live (fun x h' l'=>x=.tup []∧∃c',h'=h.set b (.cells (dfC (updB D 3 i) (updC cs 3 c')))∧Keeps live (cs 3) l' c'):=by
 refine aq_ Tryz.func78 fun hH hX=>?_
 have hbl:=lt_of_get hb
 have hB:∀D cs,HCl (h.set b (.cells (dfC D cs))):=fun D cs=>HCl.set hH b (clL_dfC _ _ _)
 unfold dfC at hb
 have sx:=(And.intro @hb sx0)
 refine rt_ [] ?_
 refine sg_ ?_
 refine ap_ (a:=hc) (b:=cells_iV _) (c':=by simp [AV.cells]) (d:=by simp;omega) (e:=by simp;omega) (k:=?_)
 intro c12 live12 hk12
 refine srn_ ?_
 refine gq_ (h1:=h.set b _) (live:=live12) Tryz.results78 ?_ (hl:=(fun _ h=>h)) (hh:=(⟨[],by rw [List.append_nil];simp only [iV_snoc];rfl⟩)) (hH:=(hB (updB D 3 i) (updC cs 3 c12)))
 exact ⟨rfl,c12,rfl,hk12⟩
theorem dfC_len (D:Df) (cs:Nat→Cap):(dfC D cs).length=6:=rfl
theorem dfC_0 (D:Df) (cs:Nat→Cap):(dfC D cs)[0]? = some (.slice ((D.b 0).map iV) (cs 0)):=rfl
theorem dfC_1 (D:Df) (cs:Nat→Cap):(dfC D cs)[1]? = some (.slice ((D.b 1).map iV) (cs 1)):=rfl
theorem dfC_2 (D:Df) (cs:Nat→Cap):(dfC D cs)[2]? = some (.slice ((D.b 2).map iV) (cs 2)):=rfl
theorem dfC_3 (D:Df) (cs:Nat→Cap):(dfC D cs)[3]? = some (.slice ((D.b 3).map iV) (cs 3)):=rfl
theorem dfC_4 (D:Df) (cs:Nat→Cap):(dfC D cs)[4]? = some (.slice (D.lost.map yV) (cs 4)):=rfl
theorem dfC_5 (D:Df) (cs:Nat→Cap):(dfC D cs)[5]? = some (.slice (D.won.map yV) (cs 5)):=rfl
theorem dfTake (D:Df) (cs:Nat→Cap):(dfC D cs).take 6=dfC D cs:=rfl
theorem dfPut (D D':Df) (cs cs':Nat→Cap):putAt (dfC D cs) 0 (dfC D' cs')=dfC D' cs':=rfl
theorem dfPut' (a b c d e f:AV) (D':Df) (cs':Nat→Cap):putAt [a,b,c,d,e,f] 0 (dfC D' cs')=dfC D' cs':=rfl
theorem dfSet4 (D:Df) (cs:Nat→Cap) (l:List Ey) (c:Cap):(dfC D cs).set 4 (.slice (l.map yV) c)=dfC ⟨D.b,l,D.won⟩ (updC cs 4 c):=rfl
theorem dfSet5 (D:Df) (cs:Nat→Cap) (l:List Ey) (c:Cap):(dfC D cs).set 5 (.slice (l.map yV) c)=dfC ⟨D.b,D.lost,l⟩ (updC cs 5 c):=rfl
attribute [push_cast] dfC_len dfC_0 dfC_1 dfC_2 dfC_3 dfC_4 dfC_5 dfTake dfPut dfPut' dfSet4 dfSet5
theorem c33 (Ta Tb:Tab) (ka kb:Nat) (h:List Blk) (live:List Nat) (hka:h[ka]? = some (tabBlk Ta)) (hkb:h[kb]? = some (tabBlk Tb)) (hTa:Ta.Ok) (hTb:Tb.Ok):AC Tryz.prog 33 [.ptr ka 0,.ptr kb 0] h live (.agg (dfC (dfN Ta Tb 24) fun _=>.none)):=by
 refine aq_ Tryz.func33 fun hH hX=>?_
 have hal:=lt_of_get hka
 have hbl:=lt_of_get hkb
 have hB:∀m cs,HCl (h++[.cells [.slice [] .full,.slice [] .full,.slice [] .full,.slice [] .full,.slice [] .full,.slice [] .full],.cells (dfC (dfN Ta Tb m) cs)]):=fun m cs=>by
  have:=HCl.snoc (HCl.snoc (b:=.cells [.slice [] .full,.slice [] .full,.slice [] .full,.slice [] .full,.slice [] .full,.slice [] .full]) hH (by simp [Blk.cl,AV.clL,AV.cl])) (b:=.cells (dfC (dfN Ta Tb m) cs)) (clL_dfC _ _ _)
  rw [List.append_assoc] at this;exact this
 have sx:=(And.intro @map_yV_app sx0)
 refine rg_ [0,1,4] ?_
 refine rg_ [0,1,4,5] ?_
 refine rg_ [0,1,4,5,6] ?_
 refine sk_ fun K1 hK1=>?_
 refine rg_ [0,1,4,5,6,7] ?_
 refine awp_block ?_
 refine lp_ (X:={p:Nat×(Nat→Cap)×List Nat // p.1≤24∧CapsN live p.2.2 p.2.1 6}) (fun x=>⟨Tryz.f33.ntmps,fget [(0,.ptr ka 0),(1,.ptr kb 0),(4,.ptr h.length 0),(5,.ptr (h.length+1) 0),(6,.fn (.func 78) [] [.ptr (h.length+1) 0]),(7,.int .i64 ((x.1.1:Int)+1))],h++[.cells [.slice [] .full,.slice [] .full,.slice [] .full,.slice [] .full,.slice [] .full,.slice [] .full],.cells (dfC (dfN Ta Tb x.1.1) x.1.2.1)],x.1.2.2⟩) (fun x=>24 - x.1.1) (⟨⟨0,fun _=>.full,live⟩,Nat.zero_le _,CapsN.full live 6⟩) ?_ (fun ⟨⟨m,cs,live'⟩,hm,hq⟩=>?_)
 ·
  try dsimp only
  exact tf_ (hB _ _) (fun _ h=>h) (hj:=(by first | exact (List.append_nil _).symm | (simp only [hst];rw [List.append_assoc];rfl)))
 try dsimp only
 dsimp only at hm hq
 have hlen:=dfN_len hTa hTb m
 have hea:=(get_ok hTa ((m:Int)+1)).2.1
 have heb:=(get_ok hTb ((m:Int)+1)).2.1
 have hla:=lessF_len ((m:Int)+1) (Ta.get ((m:Int)+1)).1.ents (Tb.get ((m:Int)+1)).1.ents
 have hlb:=lessF_len ((m:Int)+1) (Tb.get ((m:Int)+1)).1.ents (Ta.get ((m:Int)+1)).1.ents
 refine sk_ fun K2 hK2=>?_
 refine rg_ [0,1,4,5,6,7,15] ?_
 refine cx_ (fun hb1=>?_) (fun hb1=>?_)
 rotate_left
 ·
  have hme:m=24:=by omega
  subst hme
  refine awp_exit (up_ ?_)
  refine hK1 _ ?_
  refine rg_ [4] ?_
  refine ret_ ?_
  refine fq_ Tryz.results33 ?_ (hcl:=(by exact clL_dfC _ _ _)) (hl:=(fun u hu=>(hq.keep u hu).1))
  exact rk_ rfl
 have hml:m<24:=by omega
 refine skp_ ?_
 refine hK2 _ ?_
 refine sk_ fun K3 hK3=>?_
 refine awp_block ?_
 refine rs_ [0,1,4,5,6,7,8,9] ?_
 refine sg_ ?_
 refine cl_ (hc:=c21 Ta ka _ _ _ (atApp hka) hTa) (k:=?_)
 refine sre_ ?_
 refine rs_ [0,1,4,5,6,7,8,9,10,11] ?_
 refine sg_ ?_
 refine cl_ (hc:=c21 Tb kb _ _ _ (atApp hkb) hTb) (k:=?_)
 refine sre_ ?_
 refine rg_ [0,1,4,5,6,7,8,9,10,11,12] ?_
 refine rg_ [0,1,4,5,6,7,8,9,10,11,12] ?_
 refine awp_block ?_
 refine rs_ [0,1,4,5,6,7,8,9,10,11,12,37] ?_
 refine sg_ ?_
 refine cl_ (hc:=c23 _ _ _ _ (get_ok hTa _) (get_ok hTb _)) (k:=?_)
 refine sre_ ?_
 refine cy_ (fun hb2=>?_) (fun hb2=>?_)
 ·
  have hst:dfN Ta Tb (m+1)=dfN Ta Tb m:=by
   show stepD Ta Tb (dfN Ta Tb m) ((m:Int)+1)=_
   unfold stepD;rw [hb2];rfl
  refine skp_ ?_
  refine hK3 _ ?_
  refine rt_ [0,1,4,5,6,7] ?_
  refine srn_ ?_
  refine ln_ ⟨⟨m+1,cs,live'⟩,by dsimp only;omega,hq⟩ ?_
  try dsimp only
  exact tf_ (hB _ _) (fun _ h=>h) (hj:=(by first | exact (List.append_nil _).symm | (simp only [hst];rw [List.append_assoc];rfl)))
 refine rg_ [0,1,4,5,6,7,8,10,11,12,41] ?_
 refine cy_ (fun hb3=>?_) (fun hb3=>?_)
 ·
  have hst:dfN Ta Tb (m+1)=updB (dfN Ta Tb m) 0 ((m:Int)+1):=by
   show stepD Ta Tb (dfN Ta Tb m) ((m:Int)+1)=_
   unfold stepD;rw [hb2,hb3];rfl
  refine rt_ [0,1,4,5,6,7] ?_
  refine sg_ ?_
  refine ck_ (k:=?_)
  refine (pf78_0 (dfN Ta Tb m) cs ((m:Int)+1) (h.length+1) _ _ (by simp only [push_cast]) (hq.ok 0 (by decide)) (by have:=(hlen.1 0);omega)).mono ?_;rintro _ _ _ ⟨rfl,c46,rfl,hk46⟩
  have hq1:=hq.upd (show 0<6 by decide) hk46
  refine rn_ (up_ ?_)
  refine hK3 _ ?_
  refine rt_ [0,1,4,5,6,7] ?_
  refine srn_ ?_
  refine ln_ ⟨⟨m+1,updC cs 0 c46, _⟩,by dsimp only;omega,hq1⟩ ?_
  try dsimp only
  exact tf_ (hB _ _) (fun _ h=>h) (hj:=(by first | exact (List.append_nil _).symm | (simp only [hst];rw [List.append_assoc];rfl)))
 refine rg_ [0,1,4,5,6,7,8,10,12,47] ?_
 refine cy_ (fun hb4=>?_) (fun hb4=>?_)
 ·
  have hst:dfN Ta Tb (m+1)=updB (dfN Ta Tb m) 1 ((m:Int)+1):=by
   show stepD Ta Tb (dfN Ta Tb m) ((m:Int)+1)=_
   unfold stepD;rw [hb2,hb3,hb4];rfl
  refine rt_ [0,1,4,5,6,7] ?_
  refine sg_ ?_
  refine ck_ (k:=?_)
  refine (pf78_1 (dfN Ta Tb m) cs ((m:Int)+1) (h.length+1) _ _ (by simp only [push_cast]) (hq.ok 1 (by decide)) (by have:=(hlen.1 1);omega)).mono ?_;rintro _ _ _ ⟨rfl,c52,rfl,hk52⟩
  have hq1:=hq.upd (show 1<6 by decide) hk52
  refine rn_ (up_ ?_)
  refine hK3 _ ?_
  refine rt_ [0,1,4,5,6,7] ?_
  refine srn_ ?_
  refine ln_ ⟨⟨m+1,updC cs 1 c52, _⟩,by dsimp only;omega,hq1⟩ ?_
  try dsimp only
  exact tf_ (hB _ _) (fun _ h=>h) (hj:=(by first | exact (List.append_nil _).symm | (simp only [hst];rw [List.append_assoc];rfl)))
 refine rs_ [0,1,4,5,6,7,8,10,53] ?_
 refine sg_ ?_
 refine cg_ (hc:=fun hg=>c23 (nEnts (Ta.get ((m:Int)+1)).1 (Tb.get ((m:Int)+1)).1) _ _ _ (nEnts_ok (get_ok hTa _) (get_ok hTb _)) (get_ok hTb _)) (k:=?_)
 refine sre_ ?_
 refine cy_ (fun hb5=>?_) (fun hb5=>?_)
 ·
  have hst:dfN Ta Tb (m+1)=⟨(updB (dfN Ta Tb m) 2 ((m:Int)+1)).b,(dfN Ta Tb m).lost++lessF ((m:Int)+1) (Ta.get ((m:Int)+1)).1.ents (Tb.get ((m:Int)+1)).1.ents,(dfN Ta Tb m).won++lessF ((m:Int)+1) (Tb.get ((m:Int)+1)).1.ents (Ta.get ((m:Int)+1)).1.ents⟩:=by
   show stepD Ta Tb (dfN Ta Tb m) ((m:Int)+1)=_
   unfold stepD;rw [hb2,hb3,hb4,hb5];rfl
  refine rs_ [0,1,4,5,6,7,8,10] ?_
  refine sg_ ?_
  refine ck_ (k:=?_)
  refine (pf78_2 (dfN Ta Tb m) cs ((m:Int)+1) (h.length+1) _ _ (by simp only [push_cast]) (hq.ok 2 (by decide)) (by have:=(hlen.1 2);omega)).mono ?_;rintro _ _ _ ⟨rfl,c64,rfl,hk64⟩
  have hq1:=hq.upd (show 2<6 by decide) hk64
  refine re_ ?_
  refine rsq_ [0,1,4,5,6,7,8,10] ⟨true,[],[],[],[],[],0⟩ (fun _=>⟨by kernel_rfl,by kernel_rfl⟩) ?_
  refine sg_ ?_
  refine cr_ (hc:=c79 _ _ _ _ _ _ _ (by omega) (by omega)) (k:=?_)
  refine ap_ (a:=(hq1.ok 4 (by decide))) (b:=cells_yV _) (c':=cells_yV _) (d:=(by simp only [List.length_map];have h1:=hlen.2.1;have h2:(updB (dfN Ta Tb m) 2 ((m:Int)+1)).lost.length≤1000*m:=h1;omega)) (e:=(by simp only [List.length_map];have h1:=hlen.2.1;have h2:(updB (dfN Ta Tb m) 2 ((m:Int)+1)).lost.length≤1000*m:=h1;omega)) (k:=?_)
  intro c73 live73 hk73
  have hq2:=hq1.upd (show 4<6 by decide) hk73
  refine sre_ ?_
  refine rtq_ [0,1,4,5,6,7] ⟨true,[],[],[],[],[],0⟩ (fun _=>⟨by kernel_rfl,by kernel_rfl⟩) ?_
  refine sg_ ?_
  refine cr_ (hc:=c79 _ _ _ _ _ _ _ (by omega) (by omega)) (k:=?_)
  refine ap_ (a:=(hq2.ok 5 (by decide))) (b:=cells_yV _) (c':=cells_yV _) (d:=(by simp only [List.length_map];have h1:=hlen.2.2;have h2:(updB (dfN Ta Tb m) 2 ((m:Int)+1)).won.length≤1000*m:=h1;omega)) (e:=(by simp only [List.length_map];have h1:=hlen.2.2;have h2:(updB (dfN Ta Tb m) 2 ((m:Int)+1)).won.length≤1000*m:=h1;omega)) (k:=?_)
  intro c83 live83 hk83
  have hq3:=hq2.upd (show 5<6 by decide) hk83
  refine srn_ ?_
  refine hK3 _ ?_
  refine rt_ [0,1,4,5,6,7] ?_
  refine srn_ ?_
  refine ln_ ⟨⟨m+1,updC (updC (updC cs 2 c64) 4 c73) 5 c83,live83⟩,by dsimp only;omega,hq3⟩ ?_
  try dsimp only
  exact tf_ (hB _ _) (fun _ h=>h) (hj:=(by first | exact (List.append_nil _).symm | (simp only [hst];rw [List.append_assoc];rfl)))
 have hst:dfN Ta Tb (m+1)=updB (dfN Ta Tb m) 3 ((m:Int)+1):=by
  show stepD Ta Tb (dfN Ta Tb m) ((m:Int)+1)=_
  unfold stepD;rw [hb2,hb3,hb4,hb5];rfl
 refine rt_ [0,1,4,5,6,7] ?_
 refine sg_ ?_
 refine ck_ (k:=?_)
 refine (pf78_3 (dfN Ta Tb m) cs ((m:Int)+1) (h.length+1) _ _ (by simp only [push_cast]) (hq.ok 3 (by decide)) (by have:=(hlen.1 3);omega)).mono ?_;rintro _ _ _ ⟨rfl,c36,rfl,hk36⟩
 have hq1:=hq.upd (show 3<6 by decide) hk36
 refine rn_ (up_ ?_)
 refine hK3 _ ?_
 refine rt_ [0,1,4,5,6,7] ?_
 refine srn_ ?_
 refine ln_ ⟨⟨m+1,updC cs 3 c36, _⟩,by dsimp only;omega,hq1⟩ ?_
 try dsimp only
 exact tf_ (hB _ _) (fun _ h=>h) (hj:=(by first | exact (List.append_nil _).symm | (simp only [hst];rw [List.append_assoc];rfl)))
end Go.Proofs.YtjmlgeckgieaaaaGreat
namespace Go.Proofs.YtjmlgeckgieaaaaGreat
open Go.Ab
set_option maxRecDepth 8000
set_option maxHeartbeats 400000
structure Ch where
 kind:Int
 node:Int
 dir:Int
 name:List UInt8
 to:Int
 other:List UInt8
 over:Int
def chC (c:Ch):List AV:=[.int .i64 c.kind,.int .i64 c.node,.int .i64 c.dir,.str c.name,.int .i64 c.to,.str c.other,.int .i64 c.over]
theorem er_chC (c:Ch):AV.erL (chC c)=chC c:=rfl
theorem clL_chC (n:Nat) (c:Ch):AV.clL n (chC c):=⟨trivial,trivial,trivial,trivial,trivial,trivial,trivial,trivial⟩
theorem chC_len (c:Ch):(chC c).length=7:=rfl
theorem chC_0 (c:Ch):(chC c)[0]? = some (.int .i64 c.kind):=rfl
theorem chC_1 (c:Ch):(chC c)[1]? = some (.int .i64 c.node):=rfl
theorem chC_2 (c:Ch):(chC c)[2]? = some (.int .i64 c.dir):=rfl
theorem chC_3 (c:Ch):(chC c)[3]? = some (.str c.name):=rfl
theorem chC_4 (c:Ch):(chC c)[4]? = some (.int .i64 c.to):=rfl
theorem chC_5 (c:Ch):(chC c)[5]? = some (.str c.other):=rfl
theorem chC_6 (c:Ch):(chC c)[6]? = some (.int .i64 c.over):=rfl
theorem chTake (c:Ch):(chC c).take 7=chC c:=rfl
theorem chPut (a b c d e f g:AV) (x:Ch):putAt [a,b,c,d,e,f,g] 0 (chC x)=chC x:=rfl
theorem chPut' (x y:Ch):putAt (chC x) 0 (chC y)=chC y:=rfl
attribute [push_cast] chC_len chC_0 chC_1 chC_2 chC_3 chC_4 chC_5 chC_6 chTake chPut chPut'
def chK (k:Int):Ch:=⟨k,0,0,[],0,[],0⟩
def asAttr (a b:Nd):Nd:=⟨a.kind,b.mode,b.uid,b.gid,a.data,a.ents,a.target⟩
def asData (a b:Nd):Nd:=⟨a.kind,b.mode,a.uid,a.gid,b.data,a.ents,a.target⟩
theorem asAttr_ok {a b:Nd} (h:NdOk a):NdOk (asAttr a b):=⟨h.1,h.2.1,h.2.2.1,h.2.2.2⟩
theorem asData_ok {a b:Nd} (h:NdOk a) (hb:NdOk b):NdOk (asData a b):=⟨hb.1,h.2.1,h.2.2.1,h.2.2.2⟩
def aloneF (i:Int) (a b:Nd):Ch:=bif sameF (asAttr a b) b then ⟨1,i,0,[],0,[],0⟩ else bif decide (a.kind=1)&&sameF (asData a b) b then ⟨2,i,0,[],0,[],0⟩ else chK 7
def sV (o:List Int):AV:=.slice (o.map iV) .none
theorem getD_sV {l:List (List Int)} {i:Nat} {d:AV} (h:i<l.length):(l.map sV).getD i d=.slice ((l.getD i []).map iV) .none:=by
 simp [List.getD_eq_getElem?_getD,h,sV]
attribute [push_cast] getD_sV
theorem clL_sV (n:Nat) (l:List (List Int)):AV.clL n (l.map sV):=by
 rw [AV.clL_mem];intro x hx;obtain ⟨y, _,rfl⟩:=List.mem_map.1 hx;exact clL_iV _ _
def ownK (l:List Int) (os:List (List Int)):Bool:=decide ((l.length:Int)=1)&&!(os.any fun o=>decide (0<(o.length:Int)))
attribute [push_cast] er_chC clL_chC clL_sV
theorem c34 (i:Int) (a b:Nd) (h:List Blk) (live:List Nat) (ha:NdOk a) (hb:NdOk b):AC Tryz.prog 34 [.int .i64 i,.agg (ndC a),.agg (ndC b)] h live (.agg (chC (aloneF i a b))):=by
 refine aq_ Tryz.func34 fun hH hX=>?_
 refine rg_ [0,4,5,6] ?_
 refine rg_ [0,4,5,6,7] ?_
 refine rsq_ [0,4,5,6,7] ⟨false,[(h.length+1,1,.one),(h.length+1,2,.one),(h.length+1,3,.one)],[10,12,14],[15,16,17],[],[],0⟩ (fun _=>⟨by kernel_rfl,by kernel_rfl⟩) ?_
 refine sg_ ?_
 refine df_ ?_
 refine sg_ ?_
 refine df_ ?_
 refine sg_ ?_
 refine df_ ?_
 refine sg_ ?_
 refine dgs_ ?_
 refine sg_ ?_
 refine dgs_ ?_
 refine sg_ ?_
 refine dgs_ ?_
 refine re_ ?_
 refine sk_ fun K1 hK1=>?_
 refine rs_ [0,4,5,6,7,20] ?_
 refine sg_ ?_
 refine cl_ (hc:=c23 (asAttr a b) b _ _ (asAttr_ok ha) hb) (k:=?_)
 refine re_ ?_
 refine cy_ (fun hb1=>?_) (fun hb1=>?_)
 ·
  refine rg_ [6] ?_
  refine ret_ ?_
  refine fq_ Tryz.results34 ?_ (hcl:=(by simp [AV.cl,AV.clL]))
  exact rk_ (by unfold aloneF;rw [hb1];rfl)
 refine skp_ ?_
 refine hK1 _ ?_
 refine rg_ [0,4,5,6,7] ?_
 refine rsq_ [0,4,5,6,7] ⟨false,[(h.length+1,1,.one),(h.length+1,4,.one)],[25,27],[28,29],[],[],0⟩ (fun _=>⟨by kernel_rfl,by kernel_rfl⟩) ?_
 refine sg_ ?_
 refine df_ ?_
 refine sg_ ?_
 refine df_ ?_
 refine sg_ ?_
 refine dgs_ ?_
 refine sg_ ?_
 refine dgs_ ?_
 refine re_ ?_
 refine sk_ fun K2 hK2=>?_
 refine rs_ [0,6,37] ?_
 refine sg_ ?_
 refine cg_ (hc:=fun hg=>c23 (asData a b) b _ _ (asData_ok ha hb) hb) (k:=?_)
 refine sre_ ?_
 refine cy_ (fun hb2=>?_) (fun hb2=>?_)
 ·
  refine rg_ [6] ?_
  refine ret_ ?_
  refine fq_ Tryz.results34 ?_ (hcl:=(by simp [AV.cl,AV.clL]))
  exact rk_ (by unfold aloneF;rw [hb1,hb2];rfl)
 refine skp_ ?_
 refine hK2 _ ?_
 refine rg_ [6] ?_
 refine ret_ ?_
 refine fq_ Tryz.results34 ?_ (hcl:=(by simp [AV.cl,AV.clL]))
 exact rk_ (by unfold aloneF;rw [hb1,hb2];rfl)
theorem c123 (l:List (List Int)) (c:Cap) (f:FuncId) (p:List Int→Bool) (h:List Blk) (live:List Nat) (hl:l.length≤17592186044416) (hp:∀e,AC Tryz.prog f [.slice (e.map iV) .none] h live (.bool (p e))):AC Tryz.prog 123 [.slice (l.map sV) c,.fn (.func f) [] []] h live (.int .i64 (idxP p l)):=by
 refine aq_ Tryz.func123 fun hH hX=>?_
 refine rg_ [0,1] ?_
 refine sk_ fun K1 hK1=>?_
 refine rg_ [0,1,7,8] ?_
 refine awp_block ?_
 refine lp_ (X:={i:Nat // i≤l.length∧∀j,j<i→p (l.getD j [])=false}) (fun x=>⟨Tryz.f123.ntmps,fget [(0,.slice (l.map sV) c),(1,.fn (.func f) [] []),(7,.int .i64 l.length),(8,.int .i64 (x.1:Nat))],h,live⟩) (fun x=>l.length - x.1) (⟨0,by omega,fun j hj=>by omega⟩) ?_ (fun ⟨i,hi,hn⟩=>?_)
 ·
  try dsimp only
  refine Trunc.of (by first | exact (List.append_nil _).symm | exact rfl | (rw [List.append_assoc];rfl)) ?_ hH (fun _ h=>h)
  refine ftc_ ?_ (hc:=by first | simp [AV.cl,AV.clL,clL_sV, -List.map_map])
  refine ftc_ ?_ (hc:=by first | simp [AV.cl,AV.clL,clL_sV, -List.map_map])
  refine ftc_ ?_ (hc:=by first | simp [AV.cl,AV.clL,clL_sV, -List.map_map])
  refine ftc_ ?_ (hc:=by first | simp [AV.cl,AV.clL,clL_sV, -List.map_map])
  exact FTr.nil
 try dsimp only
 refine rg_ [0,1,7,8,9] ?_
 refine sk_ fun K2 hK2=>?_
 refine cx_ (fun hb1=>?_) (fun hb1=>?_)
 rotate_left
 ·
  have hx:=idxP_none (p:=p) [] (l:=l) fun j hj=>hn j (by omega)
  refine awp_exit (up_ ?_)
  refine hK1 _ ?_
  refine rg_ [4] ?_
  refine ret_ ?_
  refine fq_ Tryz.results123 ?_
  refine ⟨?_,rfl,rfl⟩
  rw [hx]
 have hil:i<l.length:=by omega
 refine skp_ ?_
 refine hK2 _ ?_
 refine sk_ fun K3 hK3=>?_
 refine awp_block ?_
 refine rg_ [0,1,5,7,8] ?_
 refine rs_ [0,1,5,7,8,16] ?_
 refine sg_ ?_
 refine cl_ (hc:=hp (l.getD i [])) (k:=?_)
 refine re_ ?_
 refine cy_ (fun hb2=>?_) (fun hb2=>?_)
 ·
  have hx:=idxP_at (p:=p) [] (l:=l) (i:=i) (by omega) hb2 hn
  refine rg_ [4] ?_
  refine ret_ ?_
  refine fq_ Tryz.results123 ?_
  refine ⟨?_,rfl,rfl⟩
  rw [hx]
 refine skp_ ?_
 refine hK3 _ ?_
 refine rt_ [0,1,7,8] ?_
 refine srn_ ?_
 refine ln_ ⟨i+1,by omega,fun j hj=>by rcases Nat.lt_succ_iff_lt_or_eq.1 hj with h | h;exact hn j h;subst h;exact hb2⟩ ?_
 try dsimp only
 refine Trunc.of (by first | exact (List.append_nil _).symm | exact rfl | (rw [List.append_assoc];rfl)) ?_ hH (fun _ h=>h)
 refine ftc_ ?_ (hc:=by first | simp [AV.cl,AV.clL,clL_sV, -List.map_map])
 refine ftc_ ?_ (hc:=by first | simp [AV.cl,AV.clL,clL_sV, -List.map_map])
 refine ftc_ ?_ (hc:=by first | simp [AV.cl,AV.clL,clL_sV, -List.map_map])
 refine ftc_ ?_ (hc:=by first | simp [AV.cl,AV.clL,clL_sV, -List.map_map])
 exact FTr.nil
theorem c80 (l:List (List Int)) (c:Cap) (f:FuncId) (p:List Int→Bool) (h:List Blk) (live:List Nat) (hl:l.length≤17592186044416) (hp:∀e,AC Tryz.prog f [.slice (e.map iV) .none] h live (.bool (p e))):AC Tryz.prog 80 [.slice (l.map sV) c,.fn (.func f) [] []] h live (.bool (l.any p)):=by
 refine aq_ Tryz.func80 fun hH hX=>?_
 have sx:=(And.intro @idxP_any sx0)
 refine rg_ [0,1] ?_
 refine rs_ [4] ?_
 refine sg_ ?_
 refine cl_ (hc:=c123 l _ f p _ _ hl hp) (k:=?_)
 refine srt_ ?_
 refine fq_ Tryz.results80 ?_
 exact rk_ rfl
theorem c81 (o:List Int) (h:List Blk) (live:List Nat):AC Tryz.prog 81 [.slice (o.map iV) .none] h live (.bool (decide (0<(o.length:Int)))):=by
 refine aq_ Tryz.func81 fun hH hX=>?_
 refine rg_ [0] ?_
 refine rg_ [2] ?_
 refine ret_ ?_
 refine fq_ Tryz.results81 ?_
 exact rk_ rfl
theorem c35 (l:List Int) (os:List (List Int)) (q r:Cap) (h:List Blk) (live:List Nat) (hl:os.length≤1000):AC Tryz.prog 35 [.slice (l.map iV) q,.slice (os.map sV) r] h live (.bool (ownK l os)):=by
 refine aq_ Tryz.func35 fun hH hX=>?_
 refine rg_ [0,1] ?_
 refine rs_ [4] ?_
 refine sg_ ?_
 refine cg_ (hc:=fun hg=>c80 os _ 81 (fun o=>decide (0<(o.length:Int))) _ _ (by omega) (fun e=>c81 e _ _)) (k:=?_)
 refine srt_ ?_
 refine fq_ Tryz.results35 ?_
 exact rk_ rfl
def stepM (w:Ey) (m:Ch) (l:Ey):Option Ch:=
 bif decide (l.2.2=w.2.2)&&decide (m.dir=0) then some ⟨m.kind,m.node,l.1,l.2.1,m.to,m.other,m.over⟩
 else bif decide (l.1=w.1)&&decide (l.2.1=w.2.1)&&decide (m.over=0) then some ⟨m.kind,m.node,m.dir,m.name,m.to,m.other,l.2.2⟩
 else none
def loopM (w:Ey):List Ey→Ch→Option Ch
 | [],m=>some m
 | l::r,m=>match stepM w m l with
  | some m'=>loopM w r m'
  | none=>none
theorem loopM_get {w:Ey} {l:List Ey} {i:Nat} (hi:i<l.length) (m:Ch):loopM w (l.drop i) m=match stepM w m (l.getD i ey0) with | some m'=>loopM w (l.drop (i+1)) m' | none=>none:=by
 rw [List.drop_eq_getElem_cons hi]
 simp only [loopM,List.getD_eq_getElem?_getD,List.getElem?_eq_getElem hi,Option.getD_some]
def m0 (w:Ey):Ch:=⟨5,w.2.2,0,[],w.1,w.2.1,0⟩
def movedF (D:Df):Ch:=match loopM (D.won.getD 0 ey0) D.lost (m0 (D.won.getD 0 ey0)) with
 | none=>chK 7
 | some m=>bif decide (m.dir=0)||(decide (0<((D.b 1).length:Int))&&(decide (m.over=0)||!ownK (D.b 1) []||!decide ((D.b 1).getD 0 0=m.over))) then chK 7 else m
def dfV (D:Df):AV:=.agg (dfC D fun _=>.none)
theorem c36 (D:Df) (h:List Blk) (live:List Nat) (hw:0<D.won.length) (hwl:D.won.length≤1000000) (hl:D.lost.length≤1000000) (hb:(D.b 1).length≤1000):AC Tryz.prog 36 [.agg (dfC D fun _=>.none)] h live (.agg (chC (movedF D))):=by
 refine aq_ Tryz.func36 fun hH hX=>?_
 have hB:∀m,HCl (h++[.cells (dfC D fun _=>.none),.cells [.int .i64 0,.int .i64 0,.int .i64 0,.str [],.int .i64 0,.str [],.int .i64 0],.cells [.int .i64 (D.won.getD 0 ey0).1,.str (D.won.getD 0 ey0).2.1,.int .i64 (D.won.getD 0 ey0).2.2],.cells (chC m)]):=fun m=>by
  have:=HCl.snoc (HCl.snoc (HCl.snoc (HCl.snoc (b:=.cells (dfC D (fun _=>Cap.none))) hH (clL_dfC _ D (fun _=>Cap.none))) (b:=.cells [.int .i64 0,.int .i64 0,.int .i64 0,.str [],.int .i64 0,.str [],.int .i64 0]) (by simp [Blk.cl,AV.clL,AV.cl])) (b:=.cells [.int .i64 (D.won.getD 0 ey0).1,.str (D.won.getD 0 ey0).2.1,.int .i64 (D.won.getD 0 ey0).2.2]) (by simp [Blk.cl,AV.clL,AV.cl])) (b:=.cells (chC m)) (clL_chC _ _)
  rw [List.append_assoc,List.append_assoc,List.append_assoc] at this;exact this
 have sx:=(And.intro @Bool.true_and sx0)
 refine rg_ [1,2] ?_
 refine rg_ [1,2,3] ?_
 refine rg_ [1,2,3,4] ?_
 refine sk_ fun K1 hK1=>?_
 refine rg_ [1,2,3,4,21,22,23] ?_
 refine awp_block ?_
 refine lp_ (X:={p:Nat×Ch // p.1≤D.lost.length∧loopM (D.won.getD 0 ey0) D.lost (m0 (D.won.getD 0 ey0))=loopM (D.won.getD 0 ey0) (D.lost.drop p.1) p.2}) (fun x=>⟨Tryz.f36.ntmps,fget [(1,.ptr h.length 0),(2,.ptr (h.length+1) 0),(3,.ptr (h.length+2) 0),(4,.ptr (h.length+3) 0),(21,.slice (D.lost.map yV) .none),(22,.int .i64 D.lost.length),(23,.int .i64 (x.1.1:Nat))],h++[.cells (dfC D fun _=>.none),.cells [.int .i64 0,.int .i64 0,.int .i64 0,.str [],.int .i64 0,.str [],.int .i64 0],.cells [.int .i64 (D.won.getD 0 ey0).1,.str (D.won.getD 0 ey0).2.1,.int .i64 (D.won.getD 0 ey0).2.2],.cells (chC x.1.2)],live⟩) (fun x=>D.lost.length - x.1.1) (⟨⟨0,m0 (D.won.getD 0 ey0)⟩,Nat.zero_le _,rfl⟩) ?_ (fun ⟨⟨i,m⟩,hi,hm⟩=>?_)
 ·
  try dsimp only
  exact tf_ (hB _) (fun _ h=>h)
 try dsimp only
 dsimp only at hi hm
 refine rg_ [1,2,3,4,21,22,23,24] ?_
 refine sk_ fun K2 hK2=>?_
 refine cx_ (fun hb1=>?_) (fun hb1=>?_)
 rotate_left
 ·
  have hie:i=D.lost.length:=by omega
  subst hie
  have hfin:loopM (D.won.getD 0 ey0) D.lost (m0 (D.won.getD 0 ey0))=some m:=by rw [hm,List.drop_length];rfl
  refine awp_exit (up_ ?_)
  refine hK1 _ ?_
  refine sk_ fun K3 hK3=>?_
  refine rsq_ [2,4,104] ⟨true,[],[],[],[],[],0⟩ (fun _=>⟨by kernel_rfl,by kernel_rfl⟩) ?_
  refine sg_ ?_
  refine cg_ (hc:=fun hg=>c35 (D.b 1) [] _ _ _ _ (by simp)) (k:=?_)
  refine sre_ ?_
  refine cy_ (fun hb4=>?_) (fun hb4=>?_)
  ·
   refine rg_ [2] ?_
   refine ret_ ?_
   refine fq_ Tryz.results36 ?_ (hcl:=(by simp [AV.cl,AV.clL,clL_chC]))
   exact rk_ (by unfold movedF;rw [hfin];simp only [];rw [hb4];rfl)
  refine skp_ ?_
  refine hK3 _ ?_
  refine rg_ [2] ?_
  refine ret_ ?_
  refine fq_ Tryz.results36 ?_ (hcl:=(by simp [AV.cl,AV.clL,clL_chC]))
  exact rk_ (by unfold movedF;rw [hfin];simp only [];rw [hb4];rfl)
 have hil:i<D.lost.length:=by omega
 refine skp_ ?_
 refine hK2 _ ?_
 refine sk_ fun K4 hK4=>?_
 refine awp_block ?_
 refine rg_ [1,2,3,4,6,21,22,23] ?_
 refine awp_block ?_
 refine rg_ [1,2,3,4,6,21,22,23,28] ?_
 refine cy_ (fun hb2=>?_) (fun hb2=>?_)
 ·
  have hst:stepM (D.won.getD 0 ey0) m (D.lost.getD i ey0)=some ⟨m.kind,m.node,(D.lost.getD i ey0).1,(D.lost.getD i ey0).2.1,m.to,m.other,m.over⟩:=by unfold stepM;rw [hb2];rfl
  refine rtq_ [1,2,3,4,21,22,23] ⟨false,[(h.length+4,0,.one),(h.length+4,1,.one)],[42,45],[46,47],[],[],0⟩ (fun _=>⟨by kernel_rfl,by kernel_rfl⟩) ?_
  refine sg_ ?_
  refine df_ ?_
  refine sg_ ?_
  refine df_ ?_
  refine sg_ ?_
  refine dgs_ ?_
  refine sg_ ?_
  refine dgs_ ?_
  refine rn_ (up_ ?_)
  refine hK4 _ ?_
  refine rt_ [1,2,3,4,21,22,23] ?_
  refine srn_ ?_
  refine ln_ ⟨⟨i+1,⟨m.kind,m.node,(D.lost.getD i ey0).1,(D.lost.getD i ey0).2.1,m.to,m.other,m.over⟩⟩,by dsimp only;omega,by rw [hm,loopM_get hil,hst]⟩ ?_
  try dsimp only
  exact tf_ (hB _) (fun _ h=>h)
 refine rg_ [1,2,3,4,6,21,22,23,48] ?_
 refine cy_ (fun hb3=>?_) (fun hb3=>?_)
 rotate_left
 ·
  have hst:stepM (D.won.getD 0 ey0) m (D.lost.getD i ey0)=none:=by unfold stepM;rw [hb2,hb3];rfl
  have hfin:loopM (D.won.getD 0 ey0) D.lost (m0 (D.won.getD 0 ey0))=none:=by rw [hm,loopM_get hil,hst]
  refine rg_ [2] ?_
  refine ret_ ?_
  refine fq_ Tryz.results36 ?_ (hcl:=(by simp [AV.cl,AV.clL,clL_chC]))
  exact rk_ (by unfold movedF;rw [hfin];rfl)
 have hst:stepM (D.won.getD 0 ey0) m (D.lost.getD i ey0)=some ⟨m.kind,m.node,m.dir,m.name,m.to,m.other,(D.lost.getD i ey0).2.2⟩:=by unfold stepM;rw [hb2,hb3];rfl
 refine rt_ [1,2,3,4,21,22,23] ?_
 refine srn_ ?_
 refine hK4 _ ?_
 refine rt_ [1,2,3,4,21,22,23] ?_
 refine srn_ ?_
 refine ln_ ⟨⟨i+1,⟨m.kind,m.node,m.dir,m.name,m.to,m.other,(D.lost.getD i ey0).2.2⟩⟩,by dsimp only;omega,by rw [hm,loopM_get hil,hst]⟩ ?_
 try dsimp only
 exact tf_ (hB _) (fun _ h=>h)
def sumI (D:Df):Nat→Int
 | 0=>0
 | k+1=>sumI D k+((D.b k).length:Int)
theorem sumI_bd {D:Df} (h:∀k,(D.b k).length≤24):∀k,0≤sumI D k∧sumI D k≤24*(k:Int)
 | 0=>⟨Int.le_refl _,Int.le_refl _⟩
 | k+1=>by
  have:=sumI_bd h k
  have:=h k
  show 0≤sumI D k+((D.b k).length:Int)∧sumI D k+((D.b k).length:Int)≤24*((k+1:Nat):Int)
  omega
theorem sumI_succ (D:Df) (k:Nat):sumI D k+((D.b k).length:Int)=sumI D (k+1):=rfl
theorem rg4 {α:Type} (f:Nat→α) {i:Nat} (h:i<4):(List.map f (List.range 4))[i*1]? = some (f i):=by
 rw [Nat.mul_one,List.getElem?_map,List.getElem?_range h];rfl
def chF (D:Df) (Ta Tb:Tab):Ch:=
 bif decide (sumI D 4=0) then chK 0
 else bif decide (0<((D.b 3).length:Int)) then (bif decide (1<sumI D 4) then chK 7 else aloneF ((D.b 3).getD 0 0) (Ta.get ((D.b 3).getD 0 0)).1 (Tb.get ((D.b 3).getD 0 0)).1)
 else bif decide (0<((D.b 0).length:Int)) then (bif ownK (D.b 0) [D.b 1]&&decide ((D.lost.length:Int)=0)&&decide ((D.won.length:Int)=1)&&decide ((D.won.getD 0 ey0).2.2=(D.b 0).getD 0 0) then ⟨3,(D.won.getD 0 ey0).2.2,(D.won.getD 0 ey0).1,(D.won.getD 0 ey0).2.1,0,[],0⟩ else chK 7)
 else bif ownK (D.b 1) [D.b 2] then ⟨6,(D.b 1).getD 0 0,0,[],0,[],0⟩
 else bif decide ((D.lost.length:Int)=1)&&decide ((D.won.length:Int)=0) then (bif decide (((D.b 1).length:Int)=0)||(ownK (D.b 1) []&&decide ((D.b 1).getD 0 0=(D.lost.getD 0 ey0).2.2)) then ⟨4,(D.lost.getD 0 ey0).2.2,(D.lost.getD 0 ey0).1,(D.lost.getD 0 ey0).2.1,0,[],0⟩ else chK 7)
 else bif decide ((D.won.length:Int)=1) then movedF D else chK 7
theorem ownK_len {l:List Int} {os:List (List Int)} (h:ownK l os=true):l.length=1:=by
 unfold ownK at h
 simp only [Bool.and_eq_true,decide_eq_true_eq] at h
 omega
def chOf (Ta Tb:Tab):Ch:=chF (dfN Ta Tb 24) Ta Tb
theorem c14 (Ta Tb:Tab) (ka kb:Nat) (h:List Blk) (live:List Nat) (hka:h[ka]? = some (tabBlk Ta)) (hkb:h[kb]? = some (tabBlk Tb)) (hTa:Ta.Ok) (hTb:Tb.Ok):AC Tryz.prog 14 [.ptr ka 0,.ptr kb 0] h live (.agg (chC (chOf Ta Tb))):=by
 refine aq_ Tryz.func14 fun hH hX=>?_
 have hal:=lt_of_get hka
 have hbl:=lt_of_get hkb
 obtain ⟨hlb,hll,hlw⟩:=dfN_len hTa hTb 24
 have hl0:=hlb 0
 have hl1:=hlb 1
 have hl2:=hlb 2
 have hl3:=hlb 3
 have hB:HCl (h++[.cells [.int .i64 0,.int .i64 0,.int .i64 0,.str [],.int .i64 0,.str [],.int .i64 0],.cells (dfC (dfN Ta Tb 24) fun _=>.none)]):=by
  have:=HCl.snoc (HCl.snoc (b:=.cells [.int .i64 0,.int .i64 0,.int .i64 0,.str [],.int .i64 0,.str [],.int .i64 0]) hH (by simp [Blk.cl,AV.clL,AV.cl])) (b:=.cells (dfC (dfN Ta Tb 24) (fun _=>Cap.none))) (clL_dfC _ (dfN Ta Tb 24) (fun _=>Cap.none))
  rw [List.append_assoc] at this;exact this
 have sx:=(And.intro @rg4 (And.intro @Bool.true_and sx0))
 refine rg_ [0,1,4] ?_
 refine rs_ [0,1,4,5] ?_
 refine sg_ ?_
 refine cl_ (hc:=c33 Ta Tb ka kb _ _ (atApp hka) (atApp hkb) hTa hTb) (k:=?_)
 refine sre_ ?_
 refine rg_ [0,1,4,5,6] ?_
 refine sk_ fun K1 hK1=>?_
 refine rg_ [0,1,4,5,6,19,20] ?_
 refine awp_block ?_
 refine lp_ (X:={i:Nat // i≤4}) (fun x=>⟨Tryz.f14.ntmps,fget [(0,.ptr ka 0),(1,.ptr kb 0),(4,.ptr h.length 0),(5,.ptr (h.length+1) 0),(6,.int .i64 (sumI (dfN Ta Tb 24) x.1)),(19,.agg ((List.range 4).map fun k=>AV.slice (((dfN Ta Tb 24).b k).map iV) .none)),(20,.int .i64 (x.1:Nat))],h++[.cells [.int .i64 0,.int .i64 0,.int .i64 0,.str [],.int .i64 0,.str [],.int .i64 0],.cells (dfC (dfN Ta Tb 24) fun _=>.none)],live⟩) (fun x=>4 - x.1) (⟨0,by omega⟩) ?_ (fun ⟨i,hi⟩=>?_)
 ·
  try dsimp only
  refine Trunc.of (by first | exact (List.append_nil _).symm | exact rfl | (rw [List.append_assoc];rfl)) ?_ hB (fun _ h=>h)
  refine ftc_ ?_ (hc:=by first | (simp [AV.cl,AV.clL,List.range,List.range.loop,clL_iV, -List.map_map];done) | (simp [AV.cl,AV.clL];try omega))
  refine ftc_ ?_ (hc:=by first | (simp [AV.cl,AV.clL,List.range,List.range.loop,clL_iV, -List.map_map];done) | (simp [AV.cl,AV.clL];try omega))
  refine ftc_ ?_ (hc:=by first | (simp [AV.cl,AV.clL,List.range,List.range.loop,clL_iV, -List.map_map];done) | (simp [AV.cl,AV.clL];try omega))
  refine ftc_ ?_ (hc:=by first | (simp [AV.cl,AV.clL,List.range,List.range.loop,clL_iV, -List.map_map];done) | (simp [AV.cl,AV.clL];try omega))
  refine ftc_ ?_ (hc:=by first | (simp [AV.cl,AV.clL,List.range,List.range.loop,clL_iV, -List.map_map];done) | (simp [AV.cl,AV.clL];try omega))
  refine ftc_ ?_ (hc:=by first | (simp [AV.cl,AV.clL,List.range,List.range.loop,clL_iV, -List.map_map];done) | (simp [AV.cl,AV.clL];try omega))
  refine ftc_ ?_ (hc:=by first | (simp [AV.cl,AV.clL,List.range,List.range.loop,clL_iV, -List.map_map];done) | (simp [AV.cl,AV.clL];try omega))
  exact FTr.nil
 try dsimp only
 have hsb:=sumI_bd hlb i
 have hli:=hlb i
 refine rg_ [0,1,4,5,6,19,20,21] ?_
 refine sk_ fun K2 hK2=>?_
 refine cx_ (fun hb1=>?_) (fun hb1=>?_)
 rotate_left
 ·
  have hie:i=4:=by omega
  subst hie
  refine awp_exit (up_ ?_)
  refine hK1 _ ?_
  refine sk_ fun K3 hK3=>?_
  refine awp_block ?_
  refine rg_ [0,1,4,5,6,28] ?_
  refine cy_ (fun hb2=>?_) (fun hb2=>?_)
  ·
   refine rg_ [4] ?_
   refine ret_ ?_
   refine fq_ Tryz.results14 ?_ (hcl:=(by simp [AV.cl,AV.clL,clL_chC]))
   exact rk_ (by unfold chOf chF;rw [hb2];rfl)
  refine rg_ [0,1,4,5,6,32] ?_
  refine cy_ (fun hb3=>?_) (fun hb3=>?_)
  ·
   have hb3':=hb3
   simp only [decide_eq_true_eq] at hb3'
   refine sk_ fun K4 hK4=>?_
   refine rg_ [0,1,4,5,39] ?_
   refine cy_ (fun hb4=>?_) (fun hb4=>?_)
   ·
    refine awp_exit (up_ ?_)
    refine hK3 _ ?_
    refine rg_ [4] ?_
    refine ret_ ?_
    refine fq_ Tryz.results14 ?_ (hcl:=(by simp [AV.cl,AV.clL,clL_chC]))
    exact rk_ (by unfold chOf chF;rw [hb2,hb3,hb4];rfl)
   refine skp_ ?_
   refine hK4 _ ?_
   refine rg_ [0,1,4,9] ?_
   refine rs_ [1,4,9,10] ?_
   refine sg_ ?_
   refine cl_ (hc:=c21 Ta ka _ _ _ (atApp hka) hTa) (k:=?_)
   refine sre_ ?_
   refine rs_ [4,9,10,12] ?_
   refine sg_ ?_
   refine cl_ (hc:=c21 Tb kb _ _ _ (atApp hkb) hTb) (k:=?_)
   refine sre_ ?_
   refine rs_ [4] ?_
   refine sg_ ?_
   refine cl_ (hc:=c34 _ _ _ _ _ (get_ok hTa _) (get_ok hTb _)) (k:=?_)
   refine srt_ ?_
   refine fq_ Tryz.results14 ?_ (hcl:=(by simp [AV.cl,AV.clL,clL_chC]))
   exact rk_ (by unfold chOf chF;rw [hb2,hb3,hb4];rfl)
  refine rg_ [4,5,61] ?_
  refine cy_ (fun hb5=>?_) (fun hb5=>?_)
  ·
   have hb5':=hb5
   simp only [decide_eq_true_eq] at hb5'
   refine rsq_ [4,5,100] ⟨true,[],[],[],[],[],0⟩ (fun _=>⟨by kernel_rfl,by kernel_rfl⟩) ?_
   refine sg_ ?_
   refine cr_ (hc:=c35 ((dfN Ta Tb 24).b 0) [(dfN Ta Tb 24).b 1] _ _ _ _ (by simp)) (k:=?_)
   refine sre_ ?_
   refine cy_ (fun hb6=>?_) (fun hb6=>?_)
   ·
    have hb6':=hb6
    simp only [Bool.and_eq_true,decide_eq_true_eq] at hb6'
    refine rsq_ [4] ⟨false,[],[],[],[],[],0⟩ (fun _=>⟨by kernel_rfl,by kernel_rfl⟩) ?_
    refine srt_ ?_
    refine fq_ Tryz.results14 ?_ (hcl:=(by simp [AV.cl,AV.clL,clL_chC]))
    exact rk_ (by unfold chOf chF;rw [hb2,hb3,hb5,hb6];rfl)
   refine skp_ ?_
   refine hK3 _ ?_
   refine rg_ [4] ?_
   refine ret_ ?_
   refine fq_ Tryz.results14 ?_ (hcl:=(by simp [AV.cl,AV.clL,clL_chC]))
   exact rk_ (by unfold chOf chF;rw [hb2,hb3,hb5,hb6];rfl)
  refine rs_ [4,5,119] ?_
  refine sg_ ?_
  refine cl_ (hc:=c35 ((dfN Ta Tb 24).b 1) [(dfN Ta Tb 24).b 2] _ _ _ _ (by simp)) (k:=?_)
  refine sre_ ?_
  refine cy_ (fun hb7=>?_) (fun hb7=>?_)
  ·
   have hol:=ownK_len hb7
   refine rg_ [4] ?_
   refine ret_ ?_
   refine fq_ Tryz.results14 ?_ (hcl:=(by simp [AV.cl,AV.clL,clL_chC]))
   exact rk_ (by unfold chOf chF;rw [hb2,hb3,hb5,hb7];rfl)
  refine rg_ [4,5,134] ?_
  refine cy_ (fun hb8=>?_) (fun hb8=>?_)
  ·
   have hb8':=hb8
   simp only [Bool.and_eq_true,decide_eq_true_eq] at hb8'
   refine rg_ [4,5,14] ?_
   refine rsq_ [4,14,170] ⟨true,[],[],[],[],[],0⟩ (fun _=>⟨by kernel_rfl,by kernel_rfl⟩) ?_
   refine sg_ ?_
   refine cg_ (hc:=fun hg=>c35 ((dfN Ta Tb 24).b 1) [] _ _ _ _ (by simp)) (k:=?_)
   refine sre_ ?_
   refine cy_ (fun hb9=>?_) (fun hb9=>?_)
   ·
    refine rg_ [4] ?_
    refine ret_ ?_
    refine fq_ Tryz.results14 ?_ (hcl:=(by simp [AV.cl,AV.clL,clL_chC]))
    exact rk_ (by unfold chOf chF;rw [hb2,hb3,hb5,hb7,hb8,hb9];rfl)
   refine skp_ ?_
   refine hK3 _ ?_
   refine rg_ [4] ?_
   refine ret_ ?_
   refine fq_ Tryz.results14 ?_ (hcl:=(by simp [AV.cl,AV.clL,clL_chC]))
   exact rk_ (by unfold chOf chF;rw [hb2,hb3,hb5,hb7,hb8,hb9];rfl)
  refine rg_ [4,5,180] ?_
  refine cy_ (fun hb10=>?_) (fun hb10=>?_)
  ·
   have hb10':=hb10
   simp only [decide_eq_true_eq] at hb10'
   refine rs_ [4] ?_
   refine sg_ ?_
   refine cl_ (hc:=c36 (dfN Ta Tb 24) _ _ (by omega) (by omega) (by omega) (by omega)) (k:=?_)
   refine srt_ ?_
   refine fq_ Tryz.results14 ?_ (hcl:=(by simp [AV.cl,AV.clL,clL_chC]))
   exact rk_ (by unfold chOf chF;rw [hb2,hb3,hb5,hb7,hb8,hb10];rfl)
  refine skp_ ?_
  refine hK3 _ ?_
  refine rg_ [4] ?_
  refine ret_ ?_
  refine fq_ Tryz.results14 ?_ (hcl:=(by simp [AV.cl,AV.clL,clL_chC]))
  exact rk_ (by unfold chOf chF;rw [hb2,hb3,hb5,hb7,hb8,hb10];rfl)
 have hil:i<4:=by omega
 refine skp_ ?_
 refine hK2 _ ?_
 refine sk_ fun K5 hK5=>?_
 refine awp_block ?_
 refine rg_ [0,1,4,5,6,8,19,20] ?_
 refine rt_ [0,1,4,5,6,19,20] ?_
 refine srn_ ?_
 refine hK5 _ ?_
 refine rt_ [0,1,4,5,6,19,20] ?_
 refine srn_ ?_
 refine ln_ ⟨i+1,by omega⟩ ?_
 try dsimp only
 refine Trunc.of (by first | exact (List.append_nil _).symm | exact rfl | (rw [List.append_assoc];rfl)) ?_ hB (fun _ h=>h)
 refine ftc_ ?_ (hc:=by first | (simp [AV.cl,AV.clL,List.range,List.range.loop,clL_iV, -List.map_map];done) | (simp [AV.cl,AV.clL];try omega))
 refine ftc_ ?_ (hc:=by first | (simp [AV.cl,AV.clL,List.range,List.range.loop,clL_iV, -List.map_map];done) | (simp [AV.cl,AV.clL];try omega))
 refine ftc_ ?_ (hc:=by first | (simp [AV.cl,AV.clL,List.range,List.range.loop,clL_iV, -List.map_map];done) | (simp [AV.cl,AV.clL];try omega))
 refine ftc_ ?_ (hc:=by first | (simp [AV.cl,AV.clL,List.range,List.range.loop,clL_iV, -List.map_map];done) | (simp [AV.cl,AV.clL];try omega))
 refine ftc_ ?_ (hc:=by first | (simp [AV.cl,AV.clL,List.range,List.range.loop,clL_iV, -List.map_map];done) | (simp [AV.cl,AV.clL];try omega))
 refine ftc_ ?_ (hc:=by first | (simp [AV.cl,AV.clL,List.range,List.range.loop,clL_iV, -List.map_map];done) | (simp [AV.cl,AV.clL];try omega))
 refine ftc_ ?_ (hc:=by first | (simp [AV.cl,AV.clL,List.range,List.range.loop,clL_iV, -List.map_map];done) | (simp [AV.cl,AV.clL];try omega))
 exact FTr.nil
end Go.Proofs.YtjmlgeckgieaaaaGreat
namespace Go.Proofs.YtjmlgeckgieaaaaGreat
open Go.Ab
set_option maxRecDepth 8000
set_option maxHeartbeats 400000
def dropT (T:Tab) (i:Int):Tab:=match T.at i with
 | none=>T
 | some j=>T.put j nd0
theorem dropT_ok {T:Tab} (hT:T.Ok) (i:Int):(dropT T i).Ok:=by
 unfold dropT
 split
 · exact hT
 ·
  refine ⟨hT.lo,hT.hi,by show (T.ns.set _ nd0).length=24;rw [List.length_set];exact hT.len,fun m hm=>?_,fun m hm h0=>?_⟩
  ·
   rcases List.mem_or_eq_of_mem_set hm with h | h
   · exact hT.nd m h
   · rw [h];exact ndOk_0
  ·
   rcases List.mem_or_eq_of_mem_set hm with h | h
   · exact hT.zero m h h0
   · exact h
theorem put_self (T:Tab) (j:Nat):T.put j (T.ns.getD j nd0)=T:=by
 unfold Tab.put
 have:T.ns.set j (T.ns.getD j nd0)=T.ns:=by
  refine List.ext_getElem? fun i=>?_
  rw [List.getElem?_set]
  split
  ·
   rename_i e;subst e
   split
   · rename_i hl;simp [List.getD_eq_getElem?_getD,hl]
   · rename_i hl;exact (List.getElem?_eq_none (by omega)).symm
  · rfl
 rw [this]
def sameT (A B:Tab):Bool:=(List.range 24).all fun j=>sameF (A.get ((j:Int)+1)).1 (B.get ((j:Int)+1)).1
theorem allR_t {p:Nat→Bool} {n:Nat} (h:∀j,j<n→p j=true):(List.range n).all p=true:=List.all_eq_true.2 fun j hj=>h j (List.mem_range.1 hj)
theorem allR_f {p:Nat→Bool} {m n:Nat} (hm:m<n) (h:p m=false):(List.range n).all p=false:=List.all_eq_false.2 ⟨m,List.mem_range.2 hm,by simp [h]⟩
def Tab.usedN (T:Tab):Nat→Int
 | 0=>0
 | m+1=>bif (T.at ((m:Int)+1)).isSome then IntKind.i64.wrap (T.usedN m+1) else T.usedN m
def Tab.used (T:Tab):Int:=T.usedN T.room.toNat
theorem tab_all (T:Tab) (hT:T.Ok):blkGet (some (tabBlk T)) 0 (.agg 169)=some (.agg (.int .i64 T.room::tabC T.ns)):=by
 have hl:(tabC T.ns).length=168:=by rw [tabC_len,hT.len]
 show (if 0+169≤(AV.int .i64 T.room::tabC T.ns).length then some (AV.agg (((AV.int .i64 T.room::tabC T.ns).drop 0).take 169)) else none)=_
 rw [if_pos (by rw [List.length_cons,hl];omega),List.drop_zero,List.take_of_length_le (by rw [List.length_cons,hl];omega)]
theorem clone_put (T:Tab) (hT:T.Ok):blkPut (some (.cells (.int .i64 0::zRest))) 0 (.agg 169) (.agg (.int .i64 T.room::tabC T.ns))=some (tabBlk T):=by
 have hl:(tabC T.ns).length=168:=by rw [tabC_len,hT.len]
 show (if ((AV.int .i64 T.room::tabC T.ns).length==169)=true∧0+(AV.int .i64 T.room::tabC T.ns).length≤(AV.int .i64 0::zRest).length then some (Blk.cells (putAt (AV.int .i64 0::zRest) 0 (AV.int .i64 T.room::tabC T.ns))) else none)=_
 rw [if_pos ⟨by rw [List.length_cons,hl];rfl,by rw [List.length_cons,List.length_cons,hl,zRest_len];omega⟩,putAt_eq _ _ _ (by rw [List.length_cons,List.length_cons,hl,zRest_len];omega)]
 rw [List.take_zero,List.nil_append,List.length_cons,hl,List.drop_of_length_le (by rw [List.length_cons,zRest_len];omega),List.append_nil];rfl
theorem cl_tabC (m:Nat) (T:Tab):AV.clL m (.int .i64 T.room::tabC T.ns):=⟨trivial,clL_tabC _ _⟩
theorem c11 (T:Tab) (k:Nat) (h:List Blk) (live:List Nat) (hk:h[k]? = some (tabBlk T)) (hT:T.Ok):ACalls Tryz.prog 11 [.ptr k 0] h live (ret (.ptr h.length 0) (h++[tabBlk T]) live):=by
 refine aq_ Tryz.func11 fun hH hX=>?_
 have hkl:=lt_of_get hk
 have hk1:∀g:List Blk,(h++g)[k]? = some (tabBlk T):=fun g=>atApp hk
 have hk2:∀(y:Blk) (g:List Blk),(h++g).set k y=h.set k y++g:=fun y g=>setApp hk
 have ht1:=tab_all T hT
 have ht2:=clone_put T hT
 have ht3:(tabC T.ns).length=168:=by rw [tabC_len,hT.len]
 have hlen:=hT.len
 have hps:=put_self T
 have hB:=hcl_new hH T
 have sx:=(And.intro @hk (And.intro @hk1 (And.intro @ht1 (And.intro @azero_tab (And.intro @tk_tab (And.intro @hps (And.intro @tab_agg (And.intro @tab_put sx0))))))))
 refine rg_ [0] ?_
 refine sk_ fun K1 hK1=>?_
 refine rg_ [0,6] ?_
 refine cdn_ (ht:=fun hb1=>?_) (hf:=fun hb1=>?_)
 · exfalso;exact Bool.noConfusion hb1
 refine skp_ ?_
 refine hK1 _ ?_
 refine rs_ [3] ?_
 refine dp_ ?_
 refine dp_ ?_
 refine dh_ ?_
 refine dh_ ?_
 refine dawp_hn rfl (show _=some (AV.undef,h++[tabBlk T]) from by simp only [sH_store,astore_eq,tk_tab,ev_tmp,fget_cons,fget_nil,Nat.reduceEqDiff,↓reduceIte,storeOf_ptr,get_app0,List.getElem?_cons_zero,cells_agg,ht2,setOf_some,set_app0,List.set_cons_zero,withU_some]) rfl ?_
 refine re_ ?_
 refine sk_ fun K2 hK2=>?_
 refine rg_ [3,10] ?_
 refine awp_block ?_
 refine lp_ (X:={i:Nat // i≤24}) (fun x=>⟨Tryz.f11.ntmps,fget [(3,.ptr h.length 0),(10,.int .i64 (x.1:Nat))],h++[tabBlk T],live⟩) (fun x=>24 - x.1) (⟨0,by omega⟩) ?_ (fun ⟨i,hi⟩=>?_)
 ·
  try dsimp only
  exact tf_ hB (fun _ h=>h)
 try dsimp only
 refine rg_ [3,10,11] ?_
 refine sk_ fun K3 hK3=>?_
 refine cx_ (fun hb2=>?_) (fun hb2=>?_)
 rotate_left
 ·
  refine awp_exit (up_ ?_)
  refine hK2 _ ?_
  refine rg_ [2] ?_
  refine ret_ ?_
  refine gq_ (h1:=h++[tabBlk T]) Tryz.results11 ?_ (hH:=hB)
  exact rk_ rfl
 have hil:i<24:=by omega
 refine skp_ ?_
 refine hK3 _ ?_
 refine sk_ fun K4 hK4=>?_
 refine awp_block ?_
 refine rg_ [3,4,10] ?_
 refine rt_ [3,10] ?_
 refine sg_ ?_
 refine cl_ (hc:=c31 _ _ _ (getD_nd hT _)) (k:=?_)
 refine srn_ ?_
 refine hK4 _ ?_
 refine rt_ [3,10] ?_
 refine srn_ ?_
 refine ln_ ⟨i+1,by omega⟩ ?_
 try dsimp only
 exact tf_ hB (fun _ h=>h)
theorem dn32 (T:Tab) (k:Nat) (i:Int) (h:List Blk) (live:List Nat) (hk:h[k]? = some (tabBlk T)) (hT:T.Ok) (ha:T.at i=none):AC Tryz.prog 32 [.ptr k 0,.int .i64 i] h live (.bool false):=by
 refine aq_ Tryz.func32 fun hH hX=>?_
 have sx:=(And.intro @ha sx0)
 refine rg_ [0,1] ?_
 refine rs_ [5] ?_
 refine sg_ ?_
 refine cl_ (hc:=c58 T k i _ _ hk hT) (k:=?_)
 refine sre_ ?_
 refine sk_ fun K1 hK1=>?_
 refine rg_ [5,10] ?_
 refine cdy_ (ht:=fun hb1=>?_) (hf:=fun hb1=>?_)
 ·
  refine rg_ [4] ?_
  refine ret_ ?_
  refine fq_ Tryz.results32 ?_
  exact rk_ rfl
 exfalso;exact Bool.noConfusion hb1
def zNd:List AV:=[.int .i64 0,.int .i64 0,.int .i64 0,.int .i64 0,.slice [] .full,.slice [] .full,.str []]
def drC (T:Tab) (j:Nat):List AV:=putAt (.int .i64 T.room::tabC T.ns) (1+j*7) zNd
theorem drop_put (T:Tab) {j:Nat} (hj:j<T.ns.length):blkPut (some (tabBlk T)) (1+j*7) (.agg 7) (.agg [.int .i64 0,.int .i64 0,.int .i64 0,.int .i64 0,.slice [] .full,.slice [] .full,.str []])=some (.cells (drC T j)):=by
 show (if fits (.agg 7) (.agg zNd)=true∧1+j*7+7≤(AV.int .i64 T.room::tabC T.ns).length then some (Blk.cells (drC T j)) else none)=_
 rw [if_pos ⟨rfl,by rw [List.length_cons,tabC_len];omega⟩]
theorem erL_putAt:∀(v c:List AV) (off:Nat),AV.erL (putAt c off v)=putAt (AV.erL c) off (AV.erL v)
 | [], _, _=>rfl
 | x::v,c,off=>by
  show AV.erL (putAt (c.set off x) (off+1) v)=putAt ((AV.erL c).set off x.er) (off+1) (AV.erL v)
  rw [erL_putAt v];simp only [AV.erL_map,List.map_set]
theorem erL_tabC:∀ns:List Nd,AV.erL (tabC ns)=tabC ns
 | []=>rfl
 | n::r=>by
  show AV.erL (ndC n++tabC r)=ndC n++tabC r
  rw [AV.erL_map,List.map_append,←AV.erL_map,←AV.erL_map,er_ndC,erL_tabC r]
theorem drop_er (T:Tab) {j:Nat} (hj:j<T.ns.length):tabBlk (T.put j nd0)=(Blk.cells (drC T j)).er:=by
 show Blk.cells (.int .i64 T.room::tabC (T.ns.set j nd0))=Blk.cells (AV.erL (drC T j))
 unfold drC
 rw [erL_putAt,show AV.erL (AV.int .i64 T.room::tabC T.ns)=.int .i64 T.room::tabC T.ns from congrArg _ (erL_tabC _),show AV.erL zNd=ndC nd0 from rfl,Nat.add_comm 1,putAt_cons,putAt_tabC _ _ _ hj]
attribute [push_cast] erL_putAt erL_tabC
theorem ds32 (T:Tab) (k:Nat) (i:Int) (j:Nat) (h:List Blk) (live:List Nat) (hk:h[k]? = some (tabBlk T)) (hT:T.Ok) (ha:T.at i=some j):ACalls Tryz.prog 32 [.ptr k 0,.int .i64 i] h live (ret (.bool true) (h.set k (tabBlk (T.put j nd0))) live):=by
 refine aq_ Tryz.func32 fun hH hX=>?_
 have hkl:=lt_of_get hk
 have hk1:∀g:List Blk,(h++g)[k]? = some (tabBlk T):=fun g=>atApp hk
 have hk2:∀(y:Blk) (g:List Blk),(h++g).set k y=h.set k y++g:=fun y g=>setApp hk
 obtain ⟨hj,hij,hir,hkd⟩:=at_some hT ha
 have ht0:=drop_put T hj
 have sx:=(And.intro @ha (And.intro @hk (And.intro @hk1 (And.intro @ht0 sx0))))
 refine rg_ [0,1] ?_
 refine rs_ [5] ?_
 refine sg_ ?_
 refine cl_ (hc:=c58 T k i _ _ hk hT) (k:=?_)
 refine sre_ ?_
 refine sk_ fun K1 hK1=>?_
 refine rg_ [5,10] ?_
 refine cdn_ (ht:=fun hb1=>?_) (hf:=fun hb1=>?_)
 · exfalso;exact Bool.noConfusion hb1
 refine skp_ ?_
 refine hK1 _ ?_
 refine rg_ [] ?_
 refine rg_ [4] ?_
 refine ret_ ?_
 refine fe_ (h1:=h.set k (tabBlk (T.put j nd0))) Tryz.results32 (hh:=⟨h.set k _,[],(List.append_nil _).symm,BW.set (drop_er T hj)⟩) (hH:=(hcl_tab hH _ _)) (hK:=?_)
 exact rk_ rfl
theorem c32 (T:Tab) (k:Nat) (i:Int) (h:List Blk) (live:List Nat) (hk:h[k]? = some (tabBlk T)) (hT:T.Ok):ACalls Tryz.prog 32 [.ptr k 0,.int .i64 i] h live (ret (.bool (T.at i).isSome) (h.set k (tabBlk (dropT T i))) live):=by
 unfold dropT
 cases ha:T.at i with
 | none=>rw [set_self hk];exact dn32 T k i h live hk hT ha
 | some j=>exact ds32 T k i j h live hk hT ha
theorem c25 (Ta Tb:Tab) (ka kb:Nat) (h:List Blk) (live:List Nat) (hka:h[ka]? = some (tabBlk Ta)) (hkb:h[kb]? = some (tabBlk Tb)) (hTa:Ta.Ok) (hTb:Tb.Ok):AC Tryz.prog 25 [.ptr ka 0,.ptr kb 0] h live (.bool (sameT Ta Tb)):=by
 refine aq_ Tryz.func25 fun hH hX=>?_
 have hal:=lt_of_get hka
 have hbl:=lt_of_get hkb
 refine rg_ [0,1] ?_
 refine sk_ fun K1 hK1=>?_
 refine rg_ [0,1,10] ?_
 refine awp_block ?_
 refine lp_ (X:={m:Nat // m≤24∧∀j,j<m→sameF (Ta.get ((j:Int)+1)).1 (Tb.get ((j:Int)+1)).1=true}) (fun x=>⟨Tryz.f25.ntmps,fget [(0,.ptr ka 0),(1,.ptr kb 0),(10,.int .i64 (x.1:Nat))],h,live⟩) (fun x=>24 - x.1) (⟨0,by omega,fun j hj=>by omega⟩) ?_ (fun ⟨m,hm,hs⟩=>?_)
 ·
  try dsimp only
  exact tf_ hH (fun _ h=>h)
 try dsimp only
 refine rg_ [0,1,10,11] ?_
 refine sk_ fun K2 hK2=>?_
 refine cx_ (fun hb1=>?_) (fun hb1=>?_)
 rotate_left
 ·
  have hme:m=24:=by omega
  subst hme
  refine awp_exit (up_ ?_)
  refine hK1 _ ?_
  refine rg_ [4] ?_
  refine ret_ ?_
  refine fq_ Tryz.results25 ?_
  exact rk_ (by unfold sameT;rw [allR_t hs])
 have hml:m<24:=by omega
 refine skp_ ?_
 refine hK2 _ ?_
 refine sk_ fun K3 hK3=>?_
 refine awp_block ?_
 refine rg_ [0,1,5,10] ?_
 refine rs_ [0,1,5,6,10] ?_
 refine sg_ ?_
 refine cl_ (hc:=c21 Ta ka _ _ _ (by first | exact hka | exact atApp hka) hTa) (k:=?_)
 refine sre_ ?_
 refine rs_ [0,1,6,8,10] ?_
 refine sg_ ?_
 refine cl_ (hc:=c21 Tb kb _ _ _ (by first | exact hkb | exact atApp hkb) hTb) (k:=?_)
 refine sre_ ?_
 refine rs_ [0,1,10,30] ?_
 refine sg_ ?_
 refine cl_ (hc:=c23 _ _ _ _ (get_ok hTa _) (get_ok hTb _)) (k:=?_)
 refine sre_ ?_
 refine cy_ (fun hb2=>?_) (fun hb2=>?_)
 ·
  have hx:=allR_f (p:=fun j=>sameF (Ta.get ((j:Int)+1)).1 (Tb.get ((j:Int)+1)).1) hml (by simpa using hb2)
  refine rg_ [4] ?_
  refine ret_ ?_
  refine fq_ Tryz.results25 ?_
  exact rk_ (by unfold sameT;rw [hx])
 refine skp_ ?_
 refine hK3 _ ?_
 refine rt_ [0,1,10] ?_
 refine srn_ ?_
 refine ln_ ⟨m+1,by omega,fun j hj=>by rcases Nat.lt_succ_iff_lt_or_eq.1 hj with h | h;exact hs j h;subst h;simpa using hb2⟩ ?_
 try dsimp only
 exact tf_ hH (fun _ h=>h)
theorem c57 (b:Nat) (i:Int) (p:AV) (h:List Blk) (live:List Nat) (v:Int) (hb:h[b]? = some (.cells [.int .i64 v])):ACalls Tryz.prog 57 (.int .i64 i::p::[.ptr b 0]) h live (ret (.tup []) (h.set b (.cells [.int .i64 (IntKind.i64.wrap (v+1))])) live):=by
 refine aq_ Tryz.func57 fun hH hX=>?_
 have hbl:=lt_of_get hb
 have hB:∀x,HCl (h.set b (.cells [.int .i64 x])):=fun x=>HCl.set hH b ⟨trivial,trivial⟩
 have sx:=(And.intro @hb sx0)
 refine rt_ [] ?_
 refine srn_ ?_
 refine gq_ (h1:=h.set b _) Tryz.results57 ?_ (hH:=(hB _))
 exact rk_ rfl
theorem c20 (T:Tab) (k:Nat) (h:List Blk) (live:List Nat) (hk:h[k]? = some (tabBlk T)) (hT:T.Ok):AC Tryz.prog 20 [.ptr k 0] h live (.int .i64 T.used):=by
 refine aq_ Tryz.func20 fun hH hX=>?_
 have hkl:=lt_of_get hk
 have hBu:∀v,HCl (h++[.cells [.int .i64 v]]):=fun v=>HCl.snoc hH ⟨trivial,trivial⟩
 refine rg_ [0] ?_
 refine rg_ [0,3] ?_
 refine rs_ [3] ?_
 refine sg_ ?_
 refine cl_ (hc:=c56 T k 57 [.ptr h.length 0] (fun m=>h++[.cells [.int .i64 (T.usedN m)]]) _ hT (fun m _=>atApp hk) (fun m _=>hBu _) (fun m _=>by simp only [List.length_append,List.length_cons]) (fun m hm hat=>by
  have:=c57 h.length ((m:Int)+1) (nodeP k (T.at ((m:Int)+1))) (h++[.cells [.int .i64 (T.usedN m)]]) live (T.usedN m) (by simp only [push_cast])
  rw [set_app0] at this
  have e:T.usedN (m+1)=IntKind.i64.wrap (T.usedN m+1):=by
   show (bif (T.at ((m:Int)+1)).isSome then _ else _)=_
   rw [hat];rfl
  rw [e];exact this) (fun m hm hat=>by
  have e:T.usedN (m+1)=T.usedN m:=by
   show (bif (T.at ((m:Int)+1)).isSome then _ else _)=_
   rw [hat];rfl
  rw [e]) (by simp [AV.cl,AV.clL])) (k:=?_)
 refine re_ ?_
 refine rg_ [2] ?_
 refine ret_ ?_
 refine fq_ Tryz.results20 ?_
 exact rk_ rfl
end Go.Proofs.YtjmlgeckgieaaaaGreat
namespace Go.Proofs.YtjmlgeckgieaaaaGreat
open Go.Ab
set_option maxRecDepth 8000
set_option maxHeartbeats 400000
structure Ac where
 d:UInt8
 i:Int
 n:Nd
def acC (a:Ac):List AV:=.int .u8 a.d.toNat::.int .i64 a.i::ndC a.n
def aV (a:Ac):AV:=.agg (acC a)
def ac0:Ac:=⟨0,0,nd0⟩
theorem acC_len (a:Ac):(acC a).length=9:=rfl
theorem acC_0 (a:Ac):(acC a)[0]? = some (.int .u8 a.d.toNat):=rfl
theorem acC_1 (a:Ac):(acC a)[1]? = some (.int .i64 a.i):=rfl
theorem acTake (a:Ac):List.take 7 (List.drop 2 (acC a))=ndC a.n:=rfl
attribute [push_cast] acC_len acC_0 acC_1 acTake
theorem clL_acC (n:Nat) (a:Ac):AV.clL n (acC a):=⟨trivial,trivial,clL_ndC _ _⟩
theorem clL_aV (n:Nat) (l:List Ac):AV.clL n (l.map aV):=by
 rw [AV.clL_mem];intro x hx;obtain ⟨y, _,rfl⟩:=List.mem_map.1 hx;exact clL_acC n y
theorem getD_aV {l:List Ac} {i:Nat} {d:AV} (h:i<l.length):(l.map aV).getD i d=.agg (acC (l.getD i ac0)):=by
 simp [List.getD_eq_getElem?_getD,h,aV]
theorem allSz_aV (l:List Ac):allSz (l.map aV) 9↔True:=iff_true_intro (allSz_map _ _ _ fun _=>rfl)
attribute [push_cast] getD_aV allSz_aV
def bigAc (a:Ac):Bool:=decide ((20:Int)<a.n.ents.length)||decide ((100:Int)<a.n.data.length)||decide ((100:Int)<a.n.target.length)
def smallF (l:List Ac):Bool:=!(l.any bigAc)&&decide ((l.length:Int)≤12)
def actF (T:Tab) (a:Ac):Tab:=if a.d=0 then (putT T a.i a.n).2 else if a.d=1 then (addT T a.n).2 else dropT T a.i
def playF (T:Tab) (l:List Ac):Tab:=l.foldl actF T
theorem actF_ok {T:Tab} (hT:T.Ok) {a:Ac} (ha:NdOk a.n):(actF T a).Ok:=by
 unfold actF
 split
 · exact putT_ok hT ha _
 ·
  split
  · exact addT_ok hT ha
  · exact dropT_ok hT _
theorem playF_ok:∀ {l:List Ac} {T:Tab},T.Ok→(∀a∈l,NdOk a.n)→(playF T l).Ok
 | [], _,hT, _=>hT
 | a::l, _,hT,h=>playF_ok (l:=l) (actF_ok hT (h a (by simp))) fun b hb=>h b (by simp [hb])
theorem playF_get (T:Tab) {l:List Ac} {m:Nat} (hm:m<l.length):playF T (l.drop m)=playF (actF T (l.getD m ac0)) (l.drop (m+1)):=by
 rw [List.drop_eq_getElem_cons hm]
 simp only [playF,List.foldl_cons,List.getD_eq_getElem?_getD,List.getElem?_eq_getElem hm,Option.getD_some]
theorem small_nd {l:List Ac} (h:smallF l=true) {a:Ac} (ha:a∈l) (hn:∀e∈a.n.ents,e.1.length≤9223372036854775807):NdOk a.n:=by
 simp only [smallF,Bool.and_eq_true,Bool.not_eq_true'] at h
 have:=List.any_eq_false.1 h.1 a ha
 simp only [bigAc,Bool.not_eq_true,Bool.or_eq_false_iff,decide_eq_false_iff_not,Int.not_lt] at this
 exact ⟨by omega,by omega,by omega,hn⟩
attribute [push_cast] clL_acC clL_aV
theorem c10 (l:List Ac) (h:List Blk) (live:List Nat) (hl:l.length≤9223372036854775807):AC Tryz.prog 10 [.slice (l.map aV) .none] h live (.bool (smallF l)):=by
 refine aq_ Tryz.func10 fun hH hX=>?_
 refine rg_ [0] ?_
 refine sk_ fun K1 hK1=>?_
 refine rg_ [0,3] ?_
 refine awp_block ?_
 refine lp_ (X:={i:Nat // i≤l.length∧∀j,j<i→bigAc (l.getD j ac0)=false}) (fun x=>⟨Tryz.f10.ntmps,fget [(0,.slice (l.map aV) .none),(3,.int .i64 (x.1:Nat))],h,live⟩) (fun x=>l.length - x.1) (⟨0,by omega,fun j hj=>by omega⟩) ?_ (fun ⟨i,hi,hno⟩=>?_)
 ·
  try dsimp only
  exact tf_ hH (fun _ h=>h)
 try dsimp only
 refine sk_ fun K2 hK2=>?_
 refine rg_ [0,3,8] ?_
 refine cx_ (fun hb1=>?_) (fun hb1=>?_)
 rotate_left
 ·
  have hal:l.any bigAc=false:=any_getD_f ac0 fun j hj=>hno j (by omega)
  refine awp_exit (up_ ?_)
  refine hK1 _ ?_
  refine rg_ [2] ?_
  refine ret_ ?_
  refine fq_ Tryz.results10 ?_
  exact rk_ (by unfold smallF;rw [hal];rfl)
 have hil:i<l.length:=by omega
 refine skp_ ?_
 refine hK2 _ ?_
 refine sk_ fun K3 hK3=>?_
 refine awp_block ?_
 refine rg_ [0,3,4] ?_
 refine rg_ [0,3,31] ?_
 refine cy_ (fun hb2=>?_) (fun hb2=>?_)
 ·
  have hal:l.any bigAc=true:=any_getD_t ac0 hil hb2
  refine rg_ [2] ?_
  refine ret_ ?_
  refine fq_ Tryz.results10 ?_
  exact rk_ (by unfold smallF;rw [hal];rfl)
 refine skp_ ?_
 refine hK3 _ ?_
 refine rt_ [0,3] ?_
 refine srn_ ?_
 refine ln_ ⟨i+1,by omega,fun j hj=>by rcases Nat.lt_succ_iff_lt_or_eq.1 hj with h | h;exact hno j h;subst h;exact hb2⟩ ?_
 try dsimp only
 exact tf_ hH (fun _ h=>h)
theorem c12 (T:Tab) (k:Nat) (l:List Ac) (h:List Blk) (live:List Nat) (hk:h[k]? = some (tabBlk T)) (hT:T.Ok) (hl:l.length≤1000) (hn:∀a∈l,NdOk a.n):ACalls Tryz.prog 12 [.ptr k 0,.slice (l.map aV) .none] h live (ret (.tup []) (h.set k (tabBlk (playF T l))) live):=by
 refine aq_ Tryz.func12 fun hH hX=>?_
 have hkl:=lt_of_get hk
 have hse:h.set k (tabBlk T)=h:=set_self hk
 have hcl:∀x,HCl (h.set k (tabBlk x)):=fun x=>hcl_tab hH _ _
 have hget:∀x,(h.set k (tabBlk x))[k]? = some (tabBlk x):=fun x=>get_setk hkl
 have hnd:∀m,NdOk (l.getD m ac0).n:=fun m=>by
  by_cases hm:m<l.length
  · rw [List.getD_eq_getElem?_getD,List.getElem?_eq_getElem hm];exact hn _ (List.getElem_mem hm)
  · rw [List.getD_eq_getElem?_getD,List.getElem?_eq_none (by omega)];exact ndOk_0
 refine rg_ [0,1,4] ?_
 refine awp_block ?_
 refine lp_ (X:={p:Nat×Tab // p.1≤l.length∧p.2.Ok∧playF T l=playF p.2 (l.drop p.1)}) (fun x=>⟨Tryz.f12.ntmps,fget [(0,.ptr k 0),(1,.slice (l.map aV) .none),(4,.int .i64 (x.1.1:Nat))],h.set k (tabBlk x.1.2),live⟩) (fun x=>l.length - x.1.1) (⟨⟨0,T⟩,Nat.zero_le _,hT,rfl⟩) ?_ (fun ⟨⟨m,U⟩,hm,hU,hpl⟩=>?_)
 ·
  try dsimp only
  exact tf_ (hcl _) (fun _ h=>h) (hj:=(by first | (rw [List.append_nil];exact hse.symm) | (rw [List.append_nil];unfold actF;first | rw [if_pos hd0] | rw [if_neg hd0,if_pos hd1] | rw [if_neg hd0,if_neg hd1])))
 try dsimp only
 dsimp only at hm hU hpl
 have hUm:=actF_ok hU (hnd m)
 refine sk_ fun K1 hK1=>?_
 refine rg_ [0,1,4,8] ?_
 refine cx_ (fun hb1=>?_) (fun hb1=>?_)
 rotate_left
 ·
  have hme:m=l.length:=by omega
  subst hme
  refine awp_exit (up_ ?_)
  refine gq_ (h1:=h.set k (tabBlk (playF T l))) Tryz.results12 ?_ (hh:=(⟨[],by rw [List.append_nil,hpl,List.drop_length];rfl⟩)) (hH:=(hcl _))
  exact rk_ rfl
 have hml:m<l.length:=by omega
 refine skp_ ?_
 refine hK1 _ ?_
 refine sk_ fun K2 hK2=>?_
 refine awp_block ?_
 refine rg_ [0,1,4,15] ?_
 refine awp_block ?_
 refine rg_ [0,1,4,15,23] ?_
 refine cy_ (fun hb2=>?_) (fun hb2=>?_)
 ·
  have hd0:(l.getD m ac0).d=0:=UInt8.toNat_inj.1 (by simp only [decide_eq_true_eq,decide_eq_false_iff_not,Bool.not_eq_true',Bool.not_eq_false',Bool.or_eq_true,Bool.and_eq_true,Bool.or_eq_false_iff,Bool.and_eq_false_imp,Int.not_lt,Int.not_le] at hb2;show (l.getD m ac0).d.toNat=0;omega)
  refine rtq_ [0,1,4] ⟨false,[],[],[],[],[],0⟩ (fun _=>⟨by kernel_rfl,by kernel_rfl⟩) ?_
  refine sg_ ?_
  refine cl_ (hc:=c22 U k _ _ _ _ (hget U) hU (hnd m)) (k:=?_)
  refine rn_ (up_ ?_)
  refine hK2 _ ?_
  refine rt_ [0,1,4] ?_
  refine srn_ ?_
  refine ⟨⟨⟨m+1,actF U (l.getD m ac0)⟩,by dsimp only;omega,hUm,by rw [hpl,playF_get U hml]⟩,?_,(by simp only [List.length_set]),by dsimp only;omega⟩
  try dsimp only
  exact tf_ (hcl _) (fun _ h=>h) (hj:=(by first | (rw [List.append_nil];exact hse.symm) | (rw [List.append_nil];unfold actF;first | rw [if_pos hd0] | rw [if_neg hd0,if_pos hd1] | rw [if_neg hd0,if_neg hd1])))
 have hd0:¬(l.getD m ac0).d=0:=fun e=>by rw [e] at hb2;simp at hb2
 refine rg_ [0,1,4,37] ?_
 refine cy_ (fun hb3=>?_) (fun hb3=>?_)
 ·
  have hd1:(l.getD m ac0).d=1:=UInt8.toNat_inj.1 (by simp only [decide_eq_true_eq,decide_eq_false_iff_not,Bool.not_eq_true',Bool.not_eq_false',Bool.or_eq_true,Bool.and_eq_true,Bool.or_eq_false_iff,Bool.and_eq_false_imp,Int.not_lt,Int.not_le] at hb3;show (l.getD m ac0).d.toNat=1;omega)
  refine rt_ [0,1,4] ?_
  refine sg_ ?_
  refine cl_ (hc:=c24 U k _ _ _ (hget U) hU (hnd m)) (k:=?_)
  refine rn_ (up_ ?_)
  refine hK2 _ ?_
  refine rt_ [0,1,4] ?_
  refine srn_ ?_
  refine ⟨⟨⟨m+1,actF U (l.getD m ac0)⟩,by dsimp only;omega,hUm,by rw [hpl,playF_get U hml]⟩,?_,(by simp only [List.length_set]),by dsimp only;omega⟩
  try dsimp only
  exact tf_ (hcl _) (fun _ h=>h) (hj:=(by first | (rw [List.append_nil];exact hse.symm) | (rw [List.append_nil];unfold actF;first | rw [if_pos hd0] | rw [if_neg hd0,if_pos hd1] | rw [if_neg hd0,if_neg hd1])))
 have hd1:¬(l.getD m ac0).d=1:=fun e=>by rw [e] at hb3;simp at hb3
 refine rt_ [0,1,4] ?_
 refine sg_ ?_
 refine cl_ (hc:=c32 U k _ _ _ (hget U) hU) (k:=?_)
 refine rn_ (up_ ?_)
 refine hK2 _ ?_
 refine rt_ [0,1,4] ?_
 refine srn_ ?_
 refine ⟨⟨⟨m+1,actF U (l.getD m ac0)⟩,by dsimp only;omega,hUm,by rw [hpl,playF_get U hml]⟩,?_,(by simp only [List.length_set]),by dsimp only;omega⟩
 try dsimp only
 exact tf_ (hcl _) (fun _ h=>h) (hj:=(by first | (rw [List.append_nil];exact hse.symm) | (rw [List.append_nil];unfold actF;first | rw [if_pos hd0] | rw [if_neg hd0,if_pos hd1] | rw [if_neg hd0,if_neg hd1])))
end Go.Proofs.YtjmlgeckgieaaaaGreat
namespace Go.Proofs.YtjmlgeckgieaaaaGreat
open Go.Ab
set_option maxRecDepth 8000
set_option maxHeartbeats 400000
def mayMode (c:Cr) (u:Int):Bool:=decide (c.uid=0)||decide (u=c.uid)
def modeF (c:Cr) (kind gid m:Int):Int:=bif decide (c.uid=0)||!decide (kind=1)||memF c gid then bits .and .i64 m 4095 else bits .andNot .i64 (bits .and .i64 m 4095) 1024
def mayOwn (c:Cr) (u g tu tg:Int):Bool:=decide (c.uid=0)||(decide (u=c.uid)&&(decide (tu<0)||decide (tu=u))&&(decide (tg<0)||decide (tg=g)||memF c tg))
def clearF (is:Bool) (m bit:Int):Int:=bif is then bits .andNot .i64 m bit else m
def fileF (c:Cr) (kind:Int):Bool:=!(decide (c.uid=0)||!decide (kind=1))
def writtenF (c:Cr) (kind m:Int):Int:=
 clearF (fileF c kind&&!decide (bits .and .i64 (clsI (clearF (fileF c kind) (bits .and .i64 m 4095) 2048) 1) 1=0)) (clearF (fileF c kind) (bits .and .i64 m 4095) 2048) 1024
theorem written_eq (f:Bool) (m:Int):clearF (f&&!decide (bits .and .i64 (clsI (clearF true m 2048) 1) 1=0)) (clearF f m 2048) 1024=clearF (f&&!decide (bits .and .i64 (clsI (clearF f m 2048) 1) 1=0)) (clearF f m 2048) 1024:=by
 cases f
 · simp only [Bool.false_and]
 · rfl
def stickyF (c:Cr) (m du u:Int):Bool:=decide (c.uid=0)||decide (bits .and .i64 m 512=0)||decide (du=c.uid)||decide (u=c.uid)
theorem c110 (c:Cr) (u:Int) (h:List Blk) (live:List Nat):AC Tryz.prog 110 [.agg [.int .i64 c.uid,.int .i64 c.gid,.slice (c.gs.map iV) .none],.int .i64 u] h live (.bool (mayMode c u)):=by
 refine aq_ Tryz.func110 fun hH hX=>?_
 have sx:=(And.intro @any2 sx0)
 refine rg_ [1,2] ?_
 refine rsq_ [4] ⟨true,[],[],[],[],[],0⟩ (fun _=>⟨by kernel_rfl,by kernel_rfl⟩) ?_
 refine sg_ ?_
 refine cr_ (hc:=c151 c _ _ _) (k:=?_)
 refine sg_ ?_
 refine cr_ (hc:=c150 [decide (c.uid=0),decide (u=c.uid)] _ _ _ (by simp)) (k:=?_)
 refine srt_ ?_
 refine fq_ Tryz.results110 ?_
 exact rk_ rfl
theorem c111 (c:Cr) (kn gid m:Int) (h:List Blk) (live:List Nat) (hgs:c.gs.length≤17592186044416):AC Tryz.prog 111 [.agg [.int .i64 c.uid,.int .i64 c.gid,.slice (c.gs.map iV) .none],.int .i64 kn,.int .i64 gid,.int .i64 m] h live (.int .i64 (modeF c kn gid m)):=by
 refine aq_ Tryz.func111 fun hH hX=>?_
 have sx:=(And.intro @any3 sx0)
 refine rg_ [1,2,3,4] ?_
 refine rg_ [1,2,3,4] ?_
 refine sk_ fun K1 hK1=>?_
 refine rsq_ [3,19] ⟨true,[],[],[],[],[],0⟩ (fun _=>⟨by kernel_rfl,by kernel_rfl⟩) ?_
 refine sg_ ?_
 refine cr_ (hc:=c151 c _ _ _) (k:=?_)
 refine sg_ ?_
 refine cr_ (hc:=c152 c _ _ _ _ hgs) (k:=?_)
 refine sg_ ?_
 refine cr_ (hc:=c150 [decide (c.uid=0),!decide (kn=1),memF c gid] _ _ _ (by simp)) (k:=?_)
 refine re_ ?_
 refine cy_ (fun hb1=>?_) (fun hb1=>?_)
 ·
  refine rg_ [8] ?_
  refine ret_ ?_
  refine fq_ Tryz.results111 ?_
  exact rk_ (by unfold modeF;rw [hb1];rfl)
 refine skp_ ?_
 refine hK1 _ ?_
 refine rg_ [8] ?_
 refine ret_ ?_
 refine fq_ Tryz.results111 ?_
 exact rk_ (by unfold modeF;rw [hb1];rfl)
theorem c114 (c:Cr) (u gr tu tg:Int) (h:List Blk) (live:List Nat) (hgs:c.gs.length≤17592186044416):AC Tryz.prog 114 [.agg [.int .i64 c.uid,.int .i64 c.gid,.slice (c.gs.map iV) .none],.int .i64 u,.int .i64 gr,.int .i64 tu,.int .i64 tg] h live (.bool (mayOwn c u gr tu tg)):=by
 refine aq_ Tryz.func114 fun hH hX=>?_
 have sx:=(And.intro @any2 (And.intro @any3 sx0))
 refine rg_ [1,2,3,4,5] ?_
 refine rs_ [5,11] ?_
 refine sg_ ?_
 refine cg_ (hc:=fun hg=>c150 [decide (tu<0),decide (tu=u)] _ _ _ (by simp)) (k:=?_)
 refine sg_ ?_
 refine cg_ (hc:=fun hg=>c152 c _ _ _ _ hgs) (k:=?_)
 refine sg_ ?_
 refine cg_ (hc:=fun hg=>c150 [decide (tg<0),decide (tg=gr),memF c tg] _ _ _ (by simp)) (k:=?_)
 refine sre_ ?_
 refine rs_ [10] ?_
 refine sg_ ?_
 refine cl_ (hc:=c151 c _ _ _) (k:=?_)
 refine sg_ ?_
 refine cl_ (hc:=c150 [decide (c.uid=0),(decide (u=c.uid)&&(decide (tu<0)||decide (tu=u))&&(decide (tg<0)||decide (tg=gr)||memF c tg))] _ _ _ (by simp)) (k:=?_)
 refine srt_ ?_
 refine fq_ Tryz.results114 ?_
 exact rk_ rfl
theorem c172 (b:Nat) (is:Bool) (bit m:Int) (h:List Blk) (live:List Nat) (hb:h[b]? = some (.cells [.int .i64 m])):ACalls Tryz.prog 172 [.bool is,.int .i64 bit,.ptr b 0] h live (ret (.tup []) (h.set b (.cells [.int .i64 (clearF is m bit)])) live):=by
 refine aq_ Tryz.func172 fun hH hX=>?_
 have hbl:=lt_of_get hb
 have hB:∀x,HCl (h.set b (.cells [.int .i64 x])):=fun x=>HCl.set hH b ⟨trivial,trivial⟩
 have sx:=(And.intro @hb sx0)
 refine rg_ [1,2,5] ?_
 refine cy_ (fun hb1=>?_) (fun hb1=>?_)
 ·
  refine rt_ [] ?_
  refine srn_ ?_
  refine gq_ (h1:=h.set b _) Tryz.results172 ?_ (hH:=(hB _))
  exact ⟨rfl,by unfold clearF;rw [hb1];rfl,rfl⟩
 refine skp_ ?_
 refine gq_ (h1:=h.set b _) Tryz.results172 ?_ (hh:=(⟨[],by rw [List.append_nil];exact (set_self hb).symm⟩)) (hH:=(hB _))
 exact ⟨rfl,by unfold clearF;rw [hb1];rfl,rfl⟩
theorem c145 (c:Cr) (kn m:Int) (h:List Blk) (live:List Nat):AC Tryz.prog 145 [.agg [.int .i64 c.uid,.int .i64 c.gid,.slice (c.gs.map iV) .none],.int .i64 kn,.int .i64 m] h live (.int .i64 (writtenF c kn m)):=by
 refine aq_ Tryz.func145 fun hH hX=>?_
 have sx:=(And.intro @any2 sx0)
 refine rg_ [1,3,5] ?_
 refine rg_ [1,3,5] ?_
 refine rg_ [1,3,5,7] ?_
 refine rs_ [5,7,8] ?_
 refine sg_ ?_
 refine cl_ (hc:=c151 c _ _ _) (k:=?_)
 refine sg_ ?_
 refine cl_ (hc:=c150 [decide (c.uid=0),!decide (kn=1)] _ _ _ (by simp)) (k:=?_)
 refine sre_ ?_
 refine rs_ [5,7,8] ?_
 refine sg_ ?_
 refine cl_ (hc:=c172 (h.length+1) _ _ _ _ _ (by simp only [push_cast];rfl)) (k:=?_)
 refine re_ ?_
 refine rs_ [5] ?_
 refine sg_ ?_
 refine cg_ (hc:=fun hg=>c173 _ _ _ _) (k:=?_)
 refine sg_ ?_
 refine cl_ (hc:=c172 (h.length+1) _ _ _ _ _ (by simp only [push_cast];rfl)) (k:=?_)
 refine re_ ?_
 refine rg_ [6] ?_
 refine ret_ ?_
 refine fq_ Tryz.results145 ?_
 exact rk_ (by unfold writtenF fileF;rw [written_eq])
theorem c154 (c:Cr) (m du u:Int) (h:List Blk) (live:List Nat):AC Tryz.prog 154 [.agg [.int .i64 c.uid,.int .i64 c.gid,.slice (c.gs.map iV) .none],.int .i64 m,.int .i64 du,.int .i64 u] h live (.bool (stickyF c m du u)):=by
 refine aq_ Tryz.func154 fun hH hX=>?_
 have sx:=(And.intro @any4 sx0)
 refine rg_ [1,2,3,4] ?_
 refine rsq_ [8] ⟨true,[],[],[],[],[],0⟩ (fun _=>⟨by kernel_rfl,by kernel_rfl⟩) ?_
 refine sg_ ?_
 refine cr_ (hc:=c151 c _ _ _) (k:=?_)
 refine sg_ ?_
 refine cr_ (hc:=c150 [decide (c.uid=0),decide (bits .and .i64 m 512=0),decide (du=c.uid),decide (u=c.uid)] _ _ _ (by simp)) (k:=?_)
 refine srt_ ?_
 refine fq_ Tryz.results154 ?_
 exact rk_ rfl
end Go.Proofs.YtjmlgeckgieaaaaGreat
namespace Go.Proofs.YtjmlgeckgieaaaaGreat
open Go.Ab
set_option maxRecDepth 8000
set_option maxHeartbeats 400000
theorem getD_zero {T:Tab} (hT:T.Ok) {j:Nat} (h:(T.ns.getD j nd0).kind=0):T.ns.getD j nd0=nd0:=by
 by_cases hj:j<T.ns.length
 ·
  rw [List.getD_eq_getElem?_getD,List.getElem?_eq_getElem hj] at h ⊢
  exact hT.zero _ (List.getElem_mem hj) h
 · rw [List.getD_eq_getElem?_getD,List.getElem?_eq_none (by omega)];rfl
theorem get_eq {T:Tab} (hT:T.Ok) (d:Int):T.get d=if 1≤d∧d≤T.room then (T.ns.getD (d - 1).toNat nd0,!decide ((T.ns.getD (d - 1).toNat nd0).kind=0)) else (nd0,false):=by
 by_cases h:1≤d∧d≤T.room
 ·
  rw [if_pos h]
  by_cases hk:(T.ns.getD (d - 1).toNat nd0).kind=0
  ·
   have:T.at d=none:=by unfold Tab.at;rw [if_neg (fun e=>e.2.2 hk)]
   rw [get_no this,decide_eq_true hk,getD_zero hT hk];rfl
  ·
   have:T.at d=some (d - 1).toNat:=by unfold Tab.at;rw [if_pos ⟨h.1,h.2,hk⟩]
   rw [get_at this,decide_eq_false hk];rfl
 ·
  rw [if_neg h]
  have:T.at d=none:=by unfold Tab.at;rw [if_neg (fun e=>h ⟨e.1,e.2.1⟩)]
  exact get_no this
theorem ref_getD {T:Tab} {j:Nat} (hj:j<T.room.toNat):(refL T).getD j nd0=T.ns.getD j nd0:=by
 unfold refL;rw [List.getD_eq_getElem?_getD,List.getElem?_take,if_pos hj,List.getD_eq_getElem?_getD]
theorem rGet_eq {T:Tab} (hT:T.Ok) (d:Int):rGet (refL T) d=(T.get d).1:=by
 have h3:=hT.lo
 unfold rGet
 rw [refL_len hT,get_eq hT]
 by_cases h:1≤d∧d≤T.room
 ·
  rw [if_pos h,decide_eq_false (by omega),decide_eq_false (by omega)]
  exact ref_getD (by omega)
 ·
  rw [if_neg h]
  by_cases h1:d<1
  · rw [decide_eq_true h1];rfl
  · rw [decide_eq_false h1,decide_eq_true (by omega)];rfl
theorem rIs_eq {T:Tab} (hT:T.Ok) (d:Int):rIs (refL T) d=(T.get d).2:=by
 have h3:=hT.lo
 unfold rIs
 rw [refL_len hT,get_eq hT]
 by_cases h:1≤d∧d≤T.room
 · rw [if_pos h,decide_eq_true h.1,decide_eq_true (by omega),ref_getD (by omega)];rfl
 ·
  rw [if_neg h]
  by_cases h1:1≤d
  · rw [decide_eq_true h1,decide_eq_false (by omega)];rfl
  · rw [decide_eq_false h1];rfl
theorem get_kind {T:Tab} (hT:T.Ok) (d:Int):(T.get d).2=!decide ((T.get d).1.kind=0):=by
 rw [get_eq hT]
 split
 · rfl
 · rfl
theorem rCan_eq {T:Tab} (hT:T.Ok) (c:Cr) (i w:Int):rCan (refL T) c i w=canT c T i w:=by
 unfold rCan canT;rw [rGet_eq hT,get_kind hT]
theorem idxP_snoc {α:Type} (p:α→Bool) (x:α):∀l:List α,idxP p (l++[x])=if idxP p l<0 then (if p x=true then (l.length:Int) else -1) else idxP p l
 | []=>by
  simp only [List.nil_append,idxP]
  cases p x<;>rfl
 | y::l=>by
  have ih:=idxP_snoc p x l
  have hr:=idxP_range p l
  simp only [List.cons_append,idxP]
  rcases Bool.eq_false_or_eq_true (p y) with hy | hy
  · simp [hy]
  ·
   simp only [hy,cond_false]
   rw [ih]
   by_cases h:idxP p l<0
   ·
    rw [if_pos h,decide_eq_true h,cond_true]
    by_cases hx:p x=true
    · rw [if_pos hx,if_pos hx,decide_eq_false (by omega),cond_false,if_pos (show (-1:Int)<0 by decide),List.length_cons];rfl
    · rw [if_neg hx,if_neg hx];rfl
   · rw [if_neg h,decide_eq_false h,cond_false,if_neg (by omega)]
theorem entsF_par (i d:Int) (hd:d≠0):∀(l:List En) (v:Int),entsF (fun v d=>if v=0 then d else v) i d v l=if v=0∧(l.any fun e=>decide (e.2=i))=true then d else v
 | [],v=>by simp [entsF]
 | e::l,v=>by
  show entsF (fun v d=>if v=0 then d else v) i d (if e.2=i then (if v=0 then d else v) else v) l=_
  rw [entsF_par i d hd l]
  by_cases he:e.2=i
  ·
   rw [if_pos he]
   by_cases hv:v=0
   · rw [if_pos hv,if_neg (by omega)];simp [he,hv]
   · rw [if_neg hv];simp [hv]
  · rw [if_neg he,List.any_cons,decide_eq_false he,Bool.false_or]
theorem hasK_ents (i:Int) (n:Nd):hasK i n=n.ents.any fun e=>decide (e.2=i):=by
 unfold hasK kdL;rw [List.any_map];rfl
theorem at_none_nd {T:Tab} (hT:T.Ok) {m:Nat} (hm:m<T.room.toNat) (h:T.at ((m:Int)+1)=none):T.ns.getD m nd0=nd0:=by
 refine getD_zero hT ?_
 unfold Tab.at at h
 by_cases hc:(T.ns.getD m nd0).kind=0
 · exact hc
 · rw [if_pos ⟨by omega,by omega,by rw [show ((m:Int)+1 - 1).toNat=m by omega];exact hc⟩] at h;cases h
theorem scan_par {T:Tab} (hT:T.Ok) (i:Int):∀m,m≤T.room.toNat→T.scan (fun v d=>if v=0 then d else v) i 0 m=if idxP (hasK i) ((refL T).take m)<0 then 0 else idxP (hasK i) ((refL T).take m)+1
 | 0, _=>by simp [Tab.scan,idxP]
 | m+1,hm=>by
  have ih:=scan_par hT i m (by omega)
  have hl:m<(refL T).length:=by rw [refL_len hT];omega
  have hg:(refL T)[m]=T.ns.getD m nd0:=by
   rw [←ref_getD (T:=T) (j:=m) (by omega),List.getD_eq_getElem?_getD,List.getElem?_eq_getElem hl];rfl
  have hr:=idxP_range (hasK i) ((refL T).take m)
  have htl:((refL T).take m).length=m:=by rw [List.length_take];omega
  rw [List.take_succ_eq_append_getElem hl,idxP_snoc,hg,htl]
  have hs:T.scan (fun v d=>if v=0 then d else v) i 0 (m+1)=if T.scan (fun v d=>if v=0 then d else v) i 0 m=0∧hasK i (T.ns.getD m nd0)=true then ((m:Int)+1) else T.scan (fun v d=>if v=0 then d else v) i 0 m:=by
   show (match T.at ((m:Int)+1) with | some j=>_ | none=>_)=_
   cases ha:T.at ((m:Int)+1) with
   | none=>
    rw [at_none_nd hT (by omega) ha]
    simp [hasK,kdL,nd0]
   | some j=>
    obtain rfl:=at_m hT j ha
    simp only []
    rw [entsF_par _ _ (by omega),hasK_ents]
  rw [hs,ih]
  by_cases h:idxP (hasK i) ((refL T).take m)<0
  ·
   rw [if_pos h,if_pos h]
   cases hasK i (T.ns.getD m nd0) with
   | true=>rw [if_pos ⟨rfl,rfl⟩,if_pos rfl,if_neg (by omega)]
   | false=>simp
  · rw [if_neg h,if_neg h,if_neg (by omega),if_neg h]
theorem rPar_eq {T:Tab} (hT:T.Ok) (i:Int):rPar (refL T) i=T.parent i:=by
 unfold rPar Tab.parent
 rw [scan_par hT i _ (Nat.le_refl _),List.take_of_length_le (by rw [refL_len hT];omega)]
theorem rWayL_eq {T:Tab} (hT:T.Ok) (c:Cr):∀(n:Nat) (d:Int),rWayL (refL T) c n d=wayL T c n d
 | 0, _=>rfl
 | n+1,d=>by
  unfold rWayL wayL
  rw [rPar_eq hT,rCan_eq hT,rWayL_eq hT c n]
theorem rWay_eq {T:Tab} (hT:T.Ok) (c:Cr) (d:Int):rWay (refL T) c d=wayF T c d:=by
 unfold rWay wayF;rw [rGet_eq hT,rWayL_eq hT]
theorem rSeen_eq {T:Tab} (hT:T.Ok) (c:Cr) (i:Int):rSeen (refL T) c i=seenF T c i:=by
 have h3:=hT.lo
 have h2:=hT.hi
 unfold rSeen seenF
 rw [rIs_eq hT,Bool.or_comm,refL_len hT]
 congr 2
 have hat:∀d:Nat,d<T.room.toNat→rSeenAt (refL T) c i d=seenAt T c i (d+1):=fun d hd=>by
  unfold rSeenAt seenAt
  rw [ref_getD hd,rWay_eq hT,rCan_eq hT,hasK_ents,show (((d+1:Nat):Int))=(d:Int)+1 by omega,get_eq hT ((d:Int)+1),if_pos ⟨by omega,by omega⟩,show ((d:Int)+1 - 1).toNat=d by omega]
 rw [Bool.eq_iff_iff,List.any_eq_true,List.any_eq_true]
 constructor
 ·
  rintro ⟨d,hd,h⟩
  have hd':=List.mem_range.1 hd
  exact ⟨d+1,List.mem_range.2 (by omega),by rw [←hat d hd'];exact h⟩
 ·
  rintro ⟨d,hd,h⟩
  have hd':=List.mem_range.1 hd
  have hin:1≤(d:Int)∧(d:Int)≤T.room:=by
   by_cases hc:1≤(d:Int)∧(d:Int)≤T.room
   · exact hc
   ·
    unfold seenAt at h
    rw [get_eq hT,if_neg hc] at h
    simp [nd0] at h
  obtain ⟨e,rfl⟩:∃e,d=e+1:=⟨d - 1,by omega⟩
  exact ⟨e,List.mem_range.2 (by omega),by rw [hat e (by omega)];exact h⟩
end Go.Proofs.YtjmlgeckgieaaaaGreat
