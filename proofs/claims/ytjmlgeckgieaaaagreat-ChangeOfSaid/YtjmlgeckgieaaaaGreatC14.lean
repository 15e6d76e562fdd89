import Derived.Test.YtjmlgeckgieaaaaGreatC13
/-
  CHANGES: the law that what became of any tree is the document's.
-/
set_option linter.unusedVariables false
set_option linter.unusedSimpArgs false
namespace Go.Proofs.YtjmlgeckgieaaaaGreat
open Go.Ab
set_option maxRecDepth 8000
set_option maxHeartbeats 400000
def zT:Tab:=newT 1
theorem zT_ok:zT.Ok:=newT_ok 1
theorem zT_get (i:Int):zT.get i=(nd0,false):=newT_get 1 i
theorem zc21 (i:Int) (h:List Blk) (live:List Nat):ACalls Tryz.prog 21 [.raw (.pointer none),.int .i64 i] h live (ret (.tup [.agg (ndC (zT.get i).1),.bool (zT.get i).2]) h live):=by
 rw [zT_get];exact n21 zT 0 i h live
theorem zT_rt:zT.Rt:=Tab.Rt.new 1
theorem zT_r (i:Int):rGet [] i=(zT.get i).1:=by
 rw [zT_get]
 unfold rGet
 by_cases h:i<1
 · rw [decide_eq_true h];rfl
 · rw [decide_eq_false h,decide_eq_true (show (([]:List Nd).length:Int)<i by simp;omega)];rfl
theorem smallF_ln {acs:List Ac} (h:smallF acs=true):acs.length≤1000:=by
 simp only [smallF,Bool.and_eq_true,decide_eq_true_eq] at h
 omega
theorem actF_rt2 {T:Tab} (h:T.Rt) (a:Ac):(actF T a).Rt:=by
 unfold actF
 split
 · exact h.putT _ _
 ·
  split
  · exact h.add _
  · exact h.drop _
theorem playF_rt2:∀ {l:List Ac} {T:Tab},T.Rt→(playF T l).Rt
 | [], _,h=>h
 | a::l, _,h=>playF_rt2 (l:=l) (actF_rt2 h a)
theorem z33 (Tb:Tab) (kb:Nat) (h:List Blk) (live:List Nat) (hkb:h[kb]? = some (tabBlk Tb)) (hTb:Tb.Ok):AC Tryz.prog 33 [.raw (.pointer none),.ptr kb 0] h live (.agg (dfC (dfN zT Tb 24) fun _=>.none)):=by
 refine aq_ Tryz.func33 fun hH hX=>?_
 have hbl:=lt_of_get hkb
 have hB:∀m cs,HCl (h++[.cells [.slice [] .full,.slice [] .full,.slice [] .full,.slice [] .full,.slice [] .full,.slice [] .full],.cells (dfC (dfN zT Tb m) cs)]):=fun m cs=>by
  have:=HCl.snoc (HCl.snoc (b:=.cells [.slice [] .full,.slice [] .full,.slice [] .full,.slice [] .full,.slice [] .full,.slice [] .full]) hH (by simp [Blk.cl,AV.clL,AV.cl])) (b:=.cells (dfC (dfN zT Tb m) cs)) (clL_dfC _ _ _)
  rw [List.append_assoc] at this;exact this
 have sx:=(And.intro @map_yV_app sx0)
 refine rg_ [0,1,4] ?_
 refine rg_ [0,1,4,5] ?_
 refine rg_ [0,1,4,5,6] ?_
 refine sk_ fun K1 hK1=>?_
 refine rg_ [0,1,4,5,6,7] ?_
 refine awp_block ?_
 refine lp_ (X:={p:Nat×(Nat→Cap)×List Nat // p.1≤24∧CapsN live p.2.2 p.2.1 6}) (fun x=>⟨Tryz.f33.ntmps,fget [(0,.raw (.pointer none)),(1,.ptr kb 0),(4,.ptr h.length 0),(5,.ptr (h.length+1) 0),(6,.fn (.func 78) [] [.ptr (h.length+1) 0]),(7,.int .i64 ((x.1.1:Int)+1))],h++[.cells [.slice [] .full,.slice [] .full,.slice [] .full,.slice [] .full,.slice [] .full,.slice [] .full],.cells (dfC (dfN zT Tb x.1.1) x.1.2.1)],x.1.2.2⟩) (fun x=>24 - x.1.1) (⟨⟨0,fun _=>.full,live⟩,Nat.zero_le _,CapsN.full live 6⟩) ?_ (fun ⟨⟨m,cs,live'⟩,hm,hq⟩=>?_)
 ·
  try dsimp only
  exact tf_ (hB _ _) (fun _ h=>h) (hj:=(by first | exact (List.append_nil _).symm | (simp only [hst];rw [List.append_assoc];rfl)))
 try dsimp only
 dsimp only at hm hq
 have hlen:=dfN_len zT_ok hTb m
 have hea:=(get_ok zT_ok ((m:Int)+1)).2.1
 have heb:=(get_ok hTb ((m:Int)+1)).2.1
 have hla:=lessF_len ((m:Int)+1) (zT.get ((m:Int)+1)).1.ents (Tb.get ((m:Int)+1)).1.ents
 have hlb:=lessF_len ((m:Int)+1) (Tb.get ((m:Int)+1)).1.ents (zT.get ((m:Int)+1)).1.ents
 refine sk_ fun K2 hK2=>?_
 refine rg_ [0,1,4,5,6,7,15] ?_
 refine cx_ (fun hb1=>?_) (fun hb1=>?_)
 rotate_left
 ·
  have hme:m=24:=by omega
  subst hme
  refine awp_exit (up_ ?_)
  refine hK1 _ ?_
  refine rg_ [4] ?_
  refine ret_ ?_
  refine fq_ Tryz.results33 ?_ (hcl:=(by exact clL_dfC _ _ _)) (hl:=(fun u hu=>(hq.keep u hu).1))
  exact rk_ rfl
 have hml:m<24:=by omega
 refine skp_ ?_
 refine hK2 _ ?_
 refine sk_ fun K3 hK3=>?_
 refine awp_block ?_
 refine rs_ [0,1,4,5,6,7,8,9] ?_
 refine sg_ ?_
 refine cl_ (hc:=zc21 _ _ _) (k:=?_)
 refine sre_ ?_
 refine rs_ [0,1,4,5,6,7,8,9,10,11] ?_
 refine sg_ ?_
 refine cl_ (hc:=c21 Tb kb _ _ _ (atApp hkb) hTb) (k:=?_)
 refine sre_ ?_
 refine rg_ [0,1,4,5,6,7,8,9,10,11,12] ?_
 refine rg_ [0,1,4,5,6,7,8,9,10,11,12] ?_
 refine awp_block ?_
 refine rs_ [0,1,4,5,6,7,8,9,10,11,12,37] ?_
 refine sg_ ?_
 refine cl_ (hc:=c23 _ _ _ _ (get_ok zT_ok _) (get_ok hTb _)) (k:=?_)
 refine sre_ ?_
 refine cy_ (fun hb2=>?_) (fun hb2=>?_)
 ·
  have hst:dfN zT Tb (m+1)=dfN zT Tb m:=by
   show stepD zT Tb (dfN zT Tb m) ((m:Int)+1)=_
   unfold stepD;rw [hb2];rfl
  refine skp_ ?_
  refine hK3 _ ?_
  refine rt_ [0,1,4,5,6,7] ?_
  refine srn_ ?_
  refine ln_ ⟨⟨m+1,cs,live'⟩,by dsimp only;omega,hq⟩ ?_
  try dsimp only
  exact tf_ (hB _ _) (fun _ h=>h) (hj:=(by first | exact (List.append_nil _).symm | (simp only [hst];rw [List.append_assoc];rfl)))
 refine rg_ [0,1,4,5,6,7,8,10,11,12,41] ?_
 refine cy_ (fun hb3=>?_) (fun hb3=>?_)
 ·
  have hst:dfN zT Tb (m+1)=updB (dfN zT Tb m) 0 ((m:Int)+1):=by
   show stepD zT Tb (dfN zT Tb m) ((m:Int)+1)=_
   unfold stepD;rw [hb2,hb3];rfl
  refine rt_ [0,1,4,5,6,7] ?_
  refine sg_ ?_
  refine ck_ (k:=?_)
  refine (pf78_0 (dfN zT Tb m) cs ((m:Int)+1) (h.length+1) _ _ (by simp only [push_cast]) (hq.ok 0 (by decide)) (by have:=(hlen.1 0);omega)).mono ?_;rintro _ _ _ ⟨rfl,c46,rfl,hk46⟩
  have hq1:=hq.upd (show 0<6 by decide) hk46
  refine rn_ (up_ ?_)
  refine hK3 _ ?_
  refine rt_ [0,1,4,5,6,7] ?_
  refine srn_ ?_
  refine ln_ ⟨⟨m+1,updC cs 0 c46, _⟩,by dsimp only;omega,hq1⟩ ?_
  try dsimp only
  exact tf_ (hB _ _) (fun _ h=>h) (hj:=(by first | exact (List.append_nil _).symm | (simp only [hst];rw [List.append_assoc];rfl)))
 refine rg_ [0,1,4,5,6,7,8,10,12,47] ?_
 refine cy_ (fun hb4=>?_) (fun hb4=>?_)
 ·
  have hst:dfN zT Tb (m+1)=updB (dfN zT Tb m) 1 ((m:Int)+1):=by
   show stepD zT Tb (dfN zT Tb m) ((m:Int)+1)=_
   unfold stepD;rw [hb2,hb3,hb4];rfl
  refine rt_ [0,1,4,5,6,7] ?_
  refine sg_ ?_
  refine ck_ (k:=?_)
  refine (pf78_1 (dfN zT Tb m) cs ((m:Int)+1) (h.length+1) _ _ (by simp only [push_cast]) (hq.ok 1 (by decide)) (by have:=(hlen.1 1);omega)).mono ?_;rintro _ _ _ ⟨rfl,c52,rfl,hk52⟩
  have hq1:=hq.upd (show 1<6 by decide) hk52
  refine rn_ (up_ ?_)
  refine hK3 _ ?_
  refine rt_ [0,1,4,5,6,7] ?_
  refine srn_ ?_
  refine ln_ ⟨⟨m+1,updC cs 1 c52, _⟩,by dsimp only;omega,hq1⟩ ?_
  try dsimp only
  exact tf_ (hB _ _) (fun _ h=>h) (hj:=(by first | exact (List.append_nil _).symm | (simp only [hst];rw [List.append_assoc];rfl)))
 refine rs_ [0,1,4,5,6,7,8,10,53] ?_
 refine sg_ ?_
 refine cg_ (hc:=fun hg=>c23 (nEnts (zT.get ((m:Int)+1)).1 (Tb.get ((m:Int)+1)).1) _ _ _ (nEnts_ok (get_ok zT_ok _) (get_ok hTb _)) (get_ok hTb _)) (k:=?_)
 refine sre_ ?_
 refine cy_ (fun hb5=>?_) (fun hb5=>?_)
 ·
  have hst:dfN zT Tb (m+1)=⟨(updB (dfN zT Tb m) 2 ((m:Int)+1)).b,(dfN zT Tb m).lost++lessF ((m:Int)+1) (zT.get ((m:Int)+1)).1.ents (Tb.get ((m:Int)+1)).1.ents,(dfN zT Tb m).won++lessF ((m:Int)+1) (Tb.get ((m:Int)+1)).1.ents (zT.get ((m:Int)+1)).1.ents⟩:=by
   show stepD zT Tb (dfN zT Tb m) ((m:Int)+1)=_
   unfold stepD;rw [hb2,hb3,hb4,hb5];rfl
  refine rs_ [0,1,4,5,6,7,8,10] ?_
  refine sg_ ?_
  refine ck_ (k:=?_)
  refine (pf78_2 (dfN zT Tb m) cs ((m:Int)+1) (h.length+1) _ _ (by simp only [push_cast]) (hq.ok 2 (by decide)) (by have:=(hlen.1 2);omega)).mono ?_;rintro _ _ _ ⟨rfl,c64,rfl,hk64⟩
  have hq1:=hq.upd (show 2<6 by decide) hk64
  refine re_ ?_
  refine rsq_ [0,1,4,5,6,7,8,10] ⟨true,[],[],[],[],[],0⟩ (fun _=>⟨by kernel_rfl,by kernel_rfl⟩) ?_
  refine sg_ ?_
  refine cr_ (hc:=c79 _ _ _ _ _ _ _ (by omega) (by omega)) (k:=?_)
  refine ap_ (a:=(hq1.ok 4 (by decide))) (b:=cells_yV _) (c':=cells_yV _) (d:=(by simp only [List.length_map];have h1:=hlen.2.1;have h2:(updB (dfN zT Tb m) 2 ((m:Int)+1)).lost.length≤1000*m:=h1;omega)) (e:=(by simp only [List.length_map];have h1:=hlen.2.1;have h2:(updB (dfN zT Tb m) 2 ((m:Int)+1)).lost.length≤1000*m:=h1;omega)) (k:=?_)
  intro c73 live73 hk73
  have hq2:=hq1.upd (show 4<6 by decide) hk73
  refine sre_ ?_
  refine rtq_ [0,1,4,5,6,7] ⟨true,[],[],[],[],[],0⟩ (fun _=>⟨by kernel_rfl,by kernel_rfl⟩) ?_
  refine sg_ ?_
  refine cr_ (hc:=c79 _ _ _ _ _ _ _ (by omega) (by omega)) (k:=?_)
  refine ap_ (a:=(hq2.ok 5 (by decide))) (b:=cells_yV _) (c':=cells_yV _) (d:=(by simp only [List.length_map];have h1:=hlen.2.2;have h2:(updB (dfN zT Tb m) 2 ((m:Int)+1)).won.length≤1000*m:=h1;omega)) (e:=(by simp only [List.length_map];have h1:=hlen.2.2;have h2:(updB (dfN zT Tb m) 2 ((m:Int)+1)).won.length≤1000*m:=h1;omega)) (k:=?_)
  intro c83 live83 hk83
  have hq3:=hq2.upd (show 5<6 by decide) hk83
  refine srn_ ?_
  refine hK3 _ ?_
  refine rt_ [0,1,4,5,6,7] ?_
  refine srn_ ?_
  refine ln_ ⟨⟨m+1,updC (updC (updC cs 2 c64) 4 c73) 5 c83,live83⟩,by dsimp only;omega,hq3⟩ ?_
  try dsimp only
  exact tf_ (hB _ _) (fun _ h=>h) (hj:=(by first | exact (List.append_nil _).symm | (simp only [hst];rw [List.append_assoc];rfl)))
 have hst:dfN zT Tb (m+1)=updB (dfN zT Tb m) 3 ((m:Int)+1):=by
  show stepD zT Tb (dfN zT Tb m) ((m:Int)+1)=_
  unfold stepD;rw [hb2,hb3,hb4,hb5];rfl
 refine rt_ [0,1,4,5,6,7] ?_
 refine sg_ ?_
 refine ck_ (k:=?_)
 refine (pf78_3 (dfN zT Tb m) cs ((m:Int)+1) (h.length+1) _ _ (by simp only [push_cast]) (hq.ok 3 (by decide)) (by have:=(hlen.1 3);omega)).mono ?_;rintro _ _ _ ⟨rfl,c36,rfl,hk36⟩
 have hq1:=hq.upd (show 3<6 by decide) hk36
 refine rn_ (up_ ?_)
 refine hK3 _ ?_
 refine rt_ [0,1,4,5,6,7] ?_
 refine srn_ ?_
 refine ln_ ⟨⟨m+1,updC cs 3 c36, _⟩,by dsimp only;omega,hq1⟩ ?_
 try dsimp only
 exact tf_ (hB _ _) (fun _ h=>h) (hj:=(by first | exact (List.append_nil _).symm | (simp only [hst];rw [List.append_assoc];rfl)))
theorem z14 (Tb:Tab) (kb:Nat) (h:List Blk) (live:List Nat) (hkb:h[kb]? = some (tabBlk Tb)) (hTb:Tb.Ok):AC Tryz.prog 14 [.raw (.pointer none),.ptr kb 0] h live (.agg (chC (chOf zT Tb))):=by
 refine aq_ Tryz.func14 fun hH hX=>?_
 have hbl:=lt_of_get hkb
 obtain ⟨hlb,hll,hlw⟩:=dfN_len zT_ok hTb 24
 have hl0:=hlb 0
 have hl1:=hlb 1
 have hl2:=hlb 2
 have hl3:=hlb 3
 have hB:HCl (h++[.cells [.int .i64 0,.int .i64 0,.int .i64 0,.str [],.int .i64 0,.str [],.int .i64 0],.cells (dfC (dfN zT Tb 24) fun _=>.none)]):=by
  have:=HCl.snoc (HCl.snoc (b:=.cells [.int .i64 0,.int .i64 0,.int .i64 0,.str [],.int .i64 0,.str [],.int .i64 0]) hH (by simp [Blk.cl,AV.clL,AV.cl])) (b:=.cells (dfC (dfN zT Tb 24) (fun _=>Cap.none))) (clL_dfC _ (dfN zT Tb 24) (fun _=>Cap.none))
  rw [List.append_assoc] at this;exact this
 have sx:=(And.intro @rg4 (And.intro @Bool.true_and sx0))
 refine rg_ [0,1,4] ?_
 refine rs_ [0,1,4,5] ?_
 refine sg_ ?_
 refine cl_ (hc:=z33 Tb kb _ _ (atApp hkb) hTb) (k:=?_)
 refine sre_ ?_
 refine rg_ [0,1,4,5,6] ?_
 refine sk_ fun K1 hK1=>?_
 refine rg_ [0,1,4,5,6,19,20] ?_
 refine awp_block ?_
 refine lp_ (X:={i:Nat // i≤4}) (fun x=>⟨Tryz.f14.ntmps,fget [(0,.raw (.pointer none)),(1,.ptr kb 0),(4,.ptr h.length 0),(5,.ptr (h.length+1) 0),(6,.int .i64 (sumI (dfN zT Tb 24) x.1)),(19,.agg ((List.range 4).map fun k=>AV.slice (((dfN zT Tb 24).b k).map iV) .none)),(20,.int .i64 (x.1:Nat))],h++[.cells [.int .i64 0,.int .i64 0,.int .i64 0,.str [],.int .i64 0,.str [],.int .i64 0],.cells (dfC (dfN zT Tb 24) fun _=>.none)],live⟩) (fun x=>4 - x.1) (⟨0,by omega⟩) ?_ (fun ⟨i,hi⟩=>?_)
 ·
  try dsimp only
  refine Trunc.of (by first | exact (List.append_nil _).symm | exact rfl | (rw [List.append_assoc];rfl)) ?_ hB (fun _ h=>h)
  refine ftc_ ?_ (hc:=by first | (simp [AV.cl,AV.clL,List.range,List.range.loop,clL_iV, -List.map_map];done) | (simp [AV.cl,AV.clL];try omega))
  refine ftc_ ?_ (hc:=by first | (simp [AV.cl,AV.clL,List.range,List.range.loop,clL_iV, -List.map_map];done) | (simp [AV.cl,AV.clL];try omega))
  refine ftc_ ?_ (hc:=by first | (simp [AV.cl,AV.clL,List.range,List.range.loop,clL_iV, -List.map_map];done) | (simp [AV.cl,AV.clL];try omega))
  refine ftc_ ?_ (hc:=by first | (simp [AV.cl,AV.clL,List.range,List.range.loop,clL_iV, -List.map_map];done) | (simp [AV.cl,AV.clL];try omega))
  refine ftc_ ?_ (hc:=by first | (simp [AV.cl,AV.clL,List.range,List.range.loop,clL_iV, -List.map_map];done) | (simp [AV.cl,AV.clL];try omega))
  refine ftc_ ?_ (hc:=by first | (simp [AV.cl,AV.clL,List.range,List.range.loop,clL_iV, -List.map_map];done) | (simp [AV.cl,AV.clL];try omega))
  refine ftc_ ?_ (hc:=by first | (simp [AV.cl,AV.clL,List.range,List.range.loop,clL_iV, -List.map_map];done) | (simp [AV.cl,AV.clL];try omega))
  exact FTr.nil
 try dsimp only
 have hsb:=sumI_bd hlb i
 have hli:=hlb i
 refine rg_ [0,1,4,5,6,19,20,21] ?_
 refine sk_ fun K2 hK2=>?_
 refine cx_ (fun hb1=>?_) (fun hb1=>?_)
 rotate_left
 ·
  have hie:i=4:=by omega
  subst hie
  refine awp_exit (up_ ?_)
  refine hK1 _ ?_
  refine sk_ fun K3 hK3=>?_
  refine awp_block ?_
  refine rg_ [0,1,4,5,6,28] ?_
  refine cy_ (fun hb2=>?_) (fun hb2=>?_)
  ·
   refine rg_ [4] ?_
   refine ret_ ?_
   refine fq_ Tryz.results14 ?_ (hcl:=(by simp [AV.cl,AV.clL,clL_chC]))
   exact rk_ (by unfold chOf chF;rw [hb2];rfl)
  refine rg_ [0,1,4,5,6,32] ?_
  refine cy_ (fun hb3=>?_) (fun hb3=>?_)
  ·
   have hb3':=hb3
   simp only [decide_eq_true_eq] at hb3'
   refine sk_ fun K4 hK4=>?_
   refine rg_ [0,1,4,5,39] ?_
   refine cy_ (fun hb4=>?_) (fun hb4=>?_)
   ·
    refine awp_exit (up_ ?_)
    refine hK3 _ ?_
    refine rg_ [4] ?_
    refine ret_ ?_
    refine fq_ Tryz.results14 ?_ (hcl:=(by simp [AV.cl,AV.clL,clL_chC]))
    exact rk_ (by unfold chOf chF;rw [hb2,hb3,hb4];rfl)
   refine skp_ ?_
   refine hK4 _ ?_
   refine rg_ [0,1,4,9] ?_
   refine rs_ [1,4,9,10] ?_
   refine sg_ ?_
   refine cl_ (hc:=zc21 _ _ _) (k:=?_)
   refine sre_ ?_
   refine rs_ [4,9,10,12] ?_
   refine sg_ ?_
   refine cl_ (hc:=c21 Tb kb _ _ _ (atApp hkb) hTb) (k:=?_)
   refine sre_ ?_
   refine rs_ [4] ?_
   refine sg_ ?_
   refine cl_ (hc:=c34 _ _ _ _ _ (get_ok zT_ok _) (get_ok hTb _)) (k:=?_)
   refine srt_ ?_
   refine fq_ Tryz.results14 ?_ (hcl:=(by simp [AV.cl,AV.clL,clL_chC]))
   exact rk_ (by unfold chOf chF;rw [hb2,hb3,hb4];rfl)
  refine rg_ [4,5,61] ?_
  refine cy_ (fun hb5=>?_) (fun hb5=>?_)
  ·
   have hb5':=hb5
   simp only [decide_eq_true_eq] at hb5'
   refine rsq_ [4,5,100] ⟨true,[],[],[],[],[],0⟩ (fun _=>⟨by kernel_rfl,by kernel_rfl⟩) ?_
   refine sg_ ?_
   refine cr_ (hc:=c35 ((dfN zT Tb 24).b 0) [(dfN zT Tb 24).b 1] _ _ _ _ (by simp)) (k:=?_)
   refine sre_ ?_
   refine cy_ (fun hb6=>?_) (fun hb6=>?_)
   ·
    have hb6':=hb6
    simp only [Bool.and_eq_true,decide_eq_true_eq] at hb6'
    refine rsq_ [4] ⟨false,[],[],[],[],[],0⟩ (fun _=>⟨by kernel_rfl,by kernel_rfl⟩) ?_
    refine srt_ ?_
    refine fq_ Tryz.results14 ?_ (hcl:=(by simp [AV.cl,AV.clL,clL_chC]))
    exact rk_ (by unfold chOf chF;rw [hb2,hb3,hb5,hb6];rfl)
   refine skp_ ?_
   refine hK3 _ ?_
   refine rg_ [4] ?_
   refine ret_ ?_
   refine fq_ Tryz.results14 ?_ (hcl:=(by simp [AV.cl,AV.clL,clL_chC]))
   exact rk_ (by unfold chOf chF;rw [hb2,hb3,hb5,hb6];rfl)
  refine rs_ [4,5,119] ?_
  refine sg_ ?_
  refine cl_ (hc:=c35 ((dfN zT Tb 24).b 1) [(dfN zT Tb 24).b 2] _ _ _ _ (by simp)) (k:=?_)
  refine sre_ ?_
  refine cy_ (fun hb7=>?_) (fun hb7=>?_)
  ·
   have hol:=ownK_len hb7
   refine rg_ [4] ?_
   refine ret_ ?_
   refine fq_ Tryz.results14 ?_ (hcl:=(by simp [AV.cl,AV.clL,clL_chC]))
   exact rk_ (by unfold chOf chF;rw [hb2,hb3,hb5,hb7];rfl)
  refine rg_ [4,5,134] ?_
  refine cy_ (fun hb8=>?_) (fun hb8=>?_)
  ·
   have hb8':=hb8
   simp only [Bool.and_eq_true,decide_eq_true_eq] at hb8'
   refine rg_ [4,5,14] ?_
   refine rsq_ [4,14,170] ⟨true,[],[],[],[],[],0⟩ (fun _=>⟨by kernel_rfl,by kernel_rfl⟩) ?_
   refine sg_ ?_
   refine cg_ (hc:=fun hg=>c35 ((dfN zT Tb 24).b 1) [] _ _ _ _ (by simp)) (k:=?_)
   refine sre_ ?_
   refine cy_ (fun hb9=>?_) (fun hb9=>?_)
   ·
    refine rg_ [4] ?_
    refine ret_ ?_
    refine fq_ Tryz.results14 ?_ (hcl:=(by simp [AV.cl,AV.clL,clL_chC]))
    exact rk_ (by unfold chOf chF;rw [hb2,hb3,hb5,hb7,hb8,hb9];rfl)
   refine skp_ ?_
   refine hK3 _ ?_
   refine rg_ [4] ?_
   refine ret_ ?_
   refine fq_ Tryz.results14 ?_ (hcl:=(by simp [AV.cl,AV.clL,clL_chC]))
   exact rk_ (by unfold chOf chF;rw [hb2,hb3,hb5,hb7,hb8,hb9];rfl)
  refine rg_ [4,5,180] ?_
  refine cy_ (fun hb10=>?_) (fun hb10=>?_)
  ·
   have hb10':=hb10
   simp only [decide_eq_true_eq] at hb10'
   refine rs_ [4] ?_
   refine sg_ ?_
   refine cl_ (hc:=c36 (dfN zT Tb 24) _ _ (by omega) (by omega) (by omega) (by omega)) (k:=?_)
   refine srt_ ?_
   refine fq_ Tryz.results14 ?_ (hcl:=(by simp [AV.cl,AV.clL,clL_chC]))
   exact rk_ (by unfold chOf chF;rw [hb2,hb3,hb5,hb7,hb8,hb10];rfl)
  refine skp_ ?_
  refine hK3 _ ?_
  refine rg_ [4] ?_
  refine ret_ ?_
  refine fq_ Tryz.results14 ?_ (hcl:=(by simp [AV.cl,AV.clL,clL_chC]))
  exact rk_ (by unfold chOf chF;rw [hb2,hb3,hb5,hb7,hb8,hb10];rfl)
 have hil:i<4:=by omega
 refine skp_ ?_
 refine hK2 _ ?_
 refine sk_ fun K5 hK5=>?_
 refine awp_block ?_
 refine rg_ [0,1,4,5,6,8,19,20] ?_
 refine rt_ [0,1,4,5,6,19,20] ?_
 refine srn_ ?_
 refine hK5 _ ?_
 refine rt_ [0,1,4,5,6,19,20] ?_
 refine srn_ ?_
 refine ln_ ⟨i+1,by omega⟩ ?_
 try dsimp only
 refine Trunc.of (by first | exact (List.append_nil _).symm | exact rfl | (rw [List.append_assoc];rfl)) ?_ hB (fun _ h=>h)
 refine ftc_ ?_ (hc:=by first | (simp [AV.cl,AV.clL,List.range,List.range.loop,clL_iV, -List.map_map];done) | (simp [AV.cl,AV.clL];try omega))
 refine ftc_ ?_ (hc:=by first | (simp [AV.cl,AV.clL,List.range,List.range.loop,clL_iV, -List.map_map];done) | (simp [AV.cl,AV.clL];try omega))
 refine ftc_ ?_ (hc:=by first | (simp [AV.cl,AV.clL,List.range,List.range.loop,clL_iV, -List.map_map];done) | (simp [AV.cl,AV.clL];try omega))
 refine ftc_ ?_ (hc:=by first | (simp [AV.cl,AV.clL,List.range,List.range.loop,clL_iV, -List.map_map];done) | (simp [AV.cl,AV.clL];try omega))
 refine ftc_ ?_ (hc:=by first | (simp [AV.cl,AV.clL,List.range,List.range.loop,clL_iV, -List.map_map];done) | (simp [AV.cl,AV.clL];try omega))
 refine ftc_ ?_ (hc:=by first | (simp [AV.cl,AV.clL,List.range,List.range.loop,clL_iV, -List.map_map];done) | (simp [AV.cl,AV.clL];try omega))
 refine ftc_ ?_ (hc:=by first | (simp [AV.cl,AV.clL,List.range,List.range.loop,clL_iV, -List.map_map];done) | (simp [AV.cl,AV.clL];try omega))
 exact FTr.nil
theorem e13 (a:Ch) (h:List Blk) (live:List Nat):AC Tryz.prog 13 [.agg (chC a),.agg (chC a)] h live (.bool true):=by
 refine aq_ Tryz.func13 fun hH hX=>?_
 have sx:=(And.intro @decI (And.intro @decB (And.intro @v_DT sx0)))
 refine rg_ [2,3] ?_
 refine rg_ [4] ?_
 refine ret_ ?_
 refine fq_ Tryz.results13 ?_
 exact rk_ rfl
theorem c3 (room:Int) (l:List Rw) (acs:List Ac) (h:List Blk) (live:List Nat) (hh0:h=[]) (hn:l.length≤9223372036854775807) (hac:acs.length≤9223372036854775807) (hnm:∀a∈acs,∀e∈a.n.ents,e.1.length≤9223372036854775807):AC Tryz.prog 3 [.int .i64 room,.slice (l.map rV) .none,.slice (acs.map aV) .none] h live (.bool true):=by
 refine aq_ Tryz.func3 fun hH hX=>?_
 refine rg_ [0,1,2] ?_
 refine rs_ [0,1,2,7] ?_
 refine cl_ (hc:=c8 _ _ hh0) (k:=?_)
 refine sre_ ?_
 refine sk_ fun K1 hK1=>?_
 refine rg_ [0,1,2,13] ?_
 refine cdn_ (ht:=fun hb1=>?_) (hf:=fun hb1=>?_)
 · exfalso;exact Bool.noConfusion hb1
 refine skp_ ?_
 refine hK1 _ ?_
 refine rs_ [2,8,9] ?_
 refine sg_ ?_
 refine ck_ (k:=?_)
 refine erx_ (ys:=[.int .i64 room,.slice (l.map rV) .none,.agg [.int .i64 0,.int .i64 0,.slice (([]:List Int).map iV) .none]]) (by simp only [List.map_cons,List.map_nil,AV.er,AV.erL,erL_rV]<;>rfl) ((ACalls.hclK (c9 room l ⟨0,0,[]⟩ _ _ hn (by simp))).mono ?_);rintro _ H _ ⟨⟨rfl,g,p,rfl,hHe,hpc,hp⟩,hHg⟩
 refine sre_ ?_
 refine sk_ fun K2 hK2=>?_
 refine rs_ [2,8,27] ?_
 refine sg_ ?_
 refine cg_ (hc:=fun hg=>c10 acs _ _ hac) (k:=?_)
 refine sre_ ?_
 refine cdn_ (ht:=fun hb2=>?_) (hf:=fun hb2=>?_)
 ·
  refine rg_ [6] ?_
  refine ret_ ?_
  refine gq_ (h1:=h) Tryz.results3 ?_ (hh:=(⟨_,by rw [hh0];exact (List.nil_append _).symm⟩))
  exact rk_ rfl
 obtain ⟨hb21,hb22⟩:=hb2
 obtain ⟨T,hTe⟩:=Option.isSome_iff_exists.1 hb21
 obtain ⟨k,rfl,hk⟩:=hp T hTe
 obtain ⟨hT, -⟩:=builtF_ok hTe
 have hR:=built_rt hTe
 have hand:∀a∈acs,NdOk a.n:=fun a ha=>small_nd hb22 ha (hnm a ha)
 obtain ⟨U,hU⟩:∃U,playF T acs=U:=⟨_,rfl⟩
 have hUg:Gd U:=hU▸⟨playF_ok hT hand,playF_rt2 hR⟩
 have hlT:(refL T).length≤1000:=by have:=refL_len hT;have:=hT.hi;omega
 have hlU:(refL U).length≤1000:=by have:=refL_len hUg.1;have:=hUg.1.hi;omega
 have r1:=ref_of (A:=T) (B:=U) ⟨hT,hR⟩
 have r2:=ref_of (A:=U) (B:=T) hUg
 have r3:=ref_of (A:=zT) (B:=U) ⟨zT_ok,zT_rt⟩
 refine skp_ ?_
 refine hK2 _ ?_
 refine rs_ [2,8,10] ?_
 refine sg_ ?_
 refine cl_ (hc:=c11 T k _ _ hk hT) (k:=?_)
 refine sre_ ?_
 refine rs_ [8,10] ?_
 refine sg_ ?_
 refine ck_ (k:=?_)
 refine (c12 T k acs _ _ (atApp hk) hT (smallF_ln hb22) hand).mono ?_;rintro _ H2 _ ⟨rfl,hH2,rfl⟩
 rw [hU] at hH2
 have h2k:H2[k]? = some (tabBlk U):=by rw [←hH2,setApp hk];exact get_setapp (lt_of_get hk)
 have h2c:H2[H.length]? = some (tabBlk T):=by rw [←hH2,setApp hk];exact get_setloc0
 refine re_ ?_
 refine rs_ [6] ?_
 refine sg_ ?_
 refine cl_ (hc:=c14 T U _ _ _ _ h2c h2k hT hUg.1) (k:=?_)
 refine sg_ ?_
 refine cl_ (hc:=c16 T _ _ _ h2c hT) (k:=?_)
 refine sg_ ?_
 refine cl_ (hc:=c16 U _ _ _ h2k hUg.1) (k:=?_)
 refine cl_ (hc:=(r1▸c15 T U (refL T) (refL U) _ _ hT hUg.1 (rGet_eq hT) (rGet_eq hUg.1) hlT hlU)) (k:=?_)
 refine cl_ (hc:=e13 _ _ _) (k:=?_)
 refine sg_ ?_
 refine cg_ (hc:=fun hg=>c14 U T _ _ _ _ h2k h2c hUg.1 hT) (k:=?_)
 refine sg_ ?_
 refine cg_ (hc:=fun hg=>c16 U _ _ _ h2k hUg.1) (k:=?_)
 refine sg_ ?_
 refine cg_ (hc:=fun hg=>c16 T _ _ _ h2c hT) (k:=?_)
 refine cg_ (hc:=fun hg=>(r2▸c15 U T (refL U) (refL T) _ _ hUg.1 hT (rGet_eq hUg.1) (rGet_eq hT) hlU hlT)) (k:=?_)
 refine cg_ (hc:=fun hg=>e13 _ _ _) (k:=?_)
 refine sg_ ?_
 refine cg_ (hc:=fun hg=>z14 U _ _ _ h2k hUg.1) (k:=?_)
 refine sg_ ?_
 refine cg_ (hc:=fun hg=>c16 U _ _ _ h2k hUg.1) (k:=?_)
 refine cg_ (hc:=fun hg=>erx_ (ys:=[tV [],tV (refL U)]) (by simp only [List.map_cons,List.map_nil,AV.er,AV.erL,tV,erL_nV]<;>rfl) (r3▸c15 zT U [] (refL U) _ _ zT_ok hUg.1 zT_r (rGet_eq hUg.1) (by simp) hlU)) (k:=?_)
 refine cg_ (hc:=fun hg=>e13 _ _ _) (k:=?_)
 refine srt_ ?_
 refine gq_ (h1:=h) Tryz.results3 ?_ (hh:=(⟨_,by rw [hh0];exact (List.nil_append _).symm⟩))
 exact rk_ rfl
end Go.Proofs.YtjmlgeckgieaaaaGreat
