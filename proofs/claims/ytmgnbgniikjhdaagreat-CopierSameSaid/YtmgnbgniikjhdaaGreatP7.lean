import Derived.Test.YtmgnbgniikjhdaaGreatP6
/-
  CALLS: what stays with a system.
-/
set_option linter.unusedVariables false
set_option linter.unusedSimpArgs false
namespace Go.Proofs.YtmgnbgniikjhdaaGreat
open Go.Ab
set_option maxRecDepth 8000
set_option maxHeartbeats 400000
def Gd (T:Tab):Prop:=T.Ok∧T.Rt
section
variable {T:Tab} {c:Cr}
theorem Gd.put (h:Gd T) {n:Nd} (hn:NdOk n) (i:Int):Gd (putT T i n).2:=⟨putT_ok h.1 hn i,h.2.putT i n⟩
theorem Gd.add (h:Gd T) {n:Nd} (hn:NdOk n):Gd (addT T n).2:=⟨addT_ok h.1 hn,h.2.add n⟩
theorem Gd.drop (h:Gd T) (i:Int):Gd (dropT T i):=⟨dropT_ok h.1 i,h.2.drop i⟩
theorem Gd.nd (h:Gd T) (i:Int):NdOk (T.get i).1:=get_ok h.1 i
theorem Gd.chg (h:Gd T) (p:List UInt8) (fl:Bool) {g:Nd→Nd×Int} (hg:∀n,NdOk n→NdOk (g n).1):Gd (chgF T c p fl g).2:=by
 unfold chgF
 repeat' split
 · exact h
 · exact h
 · exact h
 · exact h.put (hg _ (h.nd _)) _
theorem Gd.chmod (h:Gd T) (p:List UInt8) (m:Int):Gd (chmodF T c p m).2:=by
 unfold chmodF;split
 · exact h
 · exact h.chg p true (chmodG_ok c m)
theorem Gd.chown (h:Gd T) (p:List UInt8) (u g:Int) (fl:Bool):Gd (chownF T c p u g fl).2:=by
 unfold chownF;split
 · exact h
 · exact h.chg p fl (chownG_ok c u g)
theorem Gd.plant (h:Gd T) (p:List UInt8) (fl:Bool) {g:Nd→Nd} (hg:∀n,NdOk n→NdOk (g n)):Gd (plantF T c p fl g).2:=by
 have ha:Gd (addT T (ownN c (T.get (rD T c p fl)).1 (g (T.get (rD T c p fl)).1))).2:=h.add (ownN_ok (hg _ (h.nd _)))
 have hnm:=resF_nm T c p fl
 unfold plantF
 repeat' split
 · exact h
 · exact h
 · exact h
 · exact h
 · exact ha
 · exact ha.drop _
 · exact ha.put (withN_ok (h.nd _) (by omega)) _
theorem Gd.mkdir (h:Gd T) (um:Int) (p:List UInt8) (m:Int):Gd (mkdirF T c um p m).2:=h.plant p false fun n hn=>⟨Nat.zero_le _,Nat.zero_le _,Nat.zero_le _,fun e he=>nomatch he⟩
theorem Gd.symlink (h:Gd T) (s p:List UInt8):Gd (symlinkF T c s p).2:=by
 unfold symlinkF
 repeat' split
 · exact h
 · exact h
 · exact h
 · exact h.plant p false fun n hn=>⟨Nat.zero_le _,Nat.zero_le _,(by show s.length≤1000;omega),fun e he=>nomatch he⟩
theorem Gd.create (h:Gd T) (um:Int) (p:List UInt8) (m:Int) (fl:Bool):Gd (createF T c um p m fl).2:=h.plant p fl fun n hn=>⟨Nat.zero_le _,Nat.zero_le _,Nat.zero_le _,fun e he=>nomatch he⟩
theorem Gd.cut (h:Gd T) (d:Int) (s:List UInt8):Gd (cutF T d s):=by
 unfold cutF;split
 · exact h.put (withoutN_ok (h.nd _)) _
 · exact h
theorem Gd.free (h:Gd T) (i:Int) (o:List Int):Gd (freeF T i o).2:=⟨freeF_ok h.1 i o,freeF_rt h.2 i o⟩
theorem Gd.unlink (h:Gd T) (p:List UInt8) (o:List Int):Gd (unlinkF T c p o).2:=by
 unfold unlinkF
 repeat' split
 · exact h
 · exact h
 · exact (h.cut _ _).free _ _
theorem Gd.rmdir (h:Gd T) (p:List UInt8):Gd (rmdirF T c p).2:=by
 unfold rmdirF
 repeat' split
 · exact h
 · exact h
 · exact h
 · exact (h.cut _ _).drop _
theorem Gd.renL (h:Gd T) {U:Tab} (hU:Gd U) (p q:List UInt8) (o:List Int):Gd (renL T c p q o U).2:=by
 have hnm:=resF_nm T c q false
 unfold Proofs.YtmgnbgniikjhdaaGreat.renL
 split
 · exact ((hU.cut _ _).put (withN_ok ((hU.cut _ _).nd _) (by omega)) _).free _ _
 · exact (hU.cut _ _).free _ _
theorem Gd.rename (h:Gd T) (p q:List UInt8) (o:List Int):Gd (renameF T c p q o).2:=by
 have h1:=h.renL (h.cut (rD T c q false) (rS T c q false)) (c:=c) p q o
 have h2:=h.renL h (c:=c) p q o
 unfold renameF
 by_cases b1:findE T c p≠0
 · rw [if_pos b1];exact h
 rw [if_neg b1]
 by_cases b2:rE T c q false≠0
 · rw [if_pos b2];exact h
 rw [if_neg b2]
 by_cases b3:rS T c q false=[]
 · rw [if_pos b3];exact h
 rw [if_neg b3]
 by_cases b4:canT c T (rD T c q false) 3=false
 · rw [if_pos b4];exact h
 rw [if_neg b4]
 by_cases b5:rN T c q false=rN T c p false
 · rw [if_pos b5];exact h
 rw [if_neg b5]
 by_cases b6:(T.get (rN T c p false)).1.kind=2∧belowL T (rN T c p false) 24 (rD T c q false)=true
 · rw [if_pos b6];exact h
 rw [if_neg b6]
 by_cases b7:rN T c q false=0∧rD T c q false≠rD T c p false∧(8:Int)≤(T.get (rD T c q false)).1.ents.length
 · rw [if_pos b7];exact h
 rw [if_neg b7]
 by_cases b8:rN T c q false≠0
 ·
  rw [if_pos b8]
  by_cases b9:overF c (T.get (rN T c p false)).1 (T.get (rD T c q false)).1 (T.get (rN T c q false)).1≠0
  · rw [if_pos b9];exact h
  · rw [if_neg b9];exact h1
 · rw [if_neg b8];exact h2
theorem Gd.opn (h:Gd T) (um:Int) (p:List UInt8) (f m:Int):Gd (openF T c um p f m).2:=by
 unfold openF
 repeat' split
 all_goals first | exact h | exact h.create um p m _ | exact h.put (dataN_ok (h.nd _) (Nat.zero_le _)) _
theorem Gd.write (h:Gd T) (i off:Int) (b:List UInt8):Gd (writeAtF T c i off b).2:=by
 have hd:=(h.nd i).1
 unfold writeAtF
 repeat' split
 · exact h
 · exact h
 · exact h
 · exact h
 · exact h.put (dataN_ok (h.nd _) (by rw [overB_len];omega)) _
theorem Gd.cha (h:Gd T) (P:Pr) (ca:Ca) (o:List Int):Gd (chaF T P ca o).2:=by
 unfold chaF
 repeat' split
 · exact h.chmod _ _
 · exact h.mkdir _ _ _
 · exact h.symlink _ _
 · exact h.unlink _ _
 · exact h.rmdir _
 · exact h.rename _ _ _
 · exact h.chown _ _ _ _
theorem opnAt_gd (h:Gd T) (P:Pr) (ca:Ca) (i:Nat):Gd (opnAt T P ca i).2.1∧(opnAt T P ca i).2.2.c=P.c:=by
 unfold opnAt;split
 · exact ⟨h.opn _ _ _ _,rfl⟩
 · exact ⟨h.opn _ _ _ _,put_c _ _ _⟩
theorem opnF_gd (h:Gd T) (P:Pr) (ca:Ca):Gd (opnF T P ca).2.1∧(opnF T P ca).2.2.c=P.c:=by
 unfold opnF
 repeat' split
 · exact opnAt_gd h P ca 0
 · exact opnAt_gd h P ca 1
 · exact opnAt_gd h P ca 2
 · exact ⟨h,rfl⟩
theorem wriF_gd (h:Gd T) (P:Pr) (ca:Ca):Gd (wriF T P ca).2.1∧(wriF T P ca).2.2.c=P.c:=by
 unfold wriF
 repeat' split
 · exact ⟨h,rfl⟩
 · exact ⟨h.write _ _ _,rfl⟩
 · exact ⟨h.write _ _ _,put_c _ _ _⟩
theorem stepF_gd (h:Gd T) (ps:List Pr) (pid:Nat) (P:Pr) (ca:Ca):Gd (stepF T ps pid P ca).2.1∧(stepF T ps pid P ca).2.2.c=P.c:=by
 unfold stepF
 repeat' split
 · exact opnF_gd h P ca
 ·
  refine ⟨h,?_⟩
  show (redF T P ca).2.c=P.c
  unfold redF;split
  · rfl
  · exact put_c _ _ _
 · exact wriF_gd h P ca
 ·
  obtain ⟨h1,h2,h3⟩:=shutF_ok (ps:=ps) (pid:=pid) (P:=P) (a:=ca.a) h.1 h.2
  exact ⟨⟨h1,h2⟩,h3⟩
 · exact ⟨h,rfl⟩
 ·
  obtain ⟨h1,h2,h3⟩:=shutN_ok (ps:=ps) (pid:=pid) (P:=P) h.1 h.2 3
  exact ⟨⟨h1,h2⟩,h3⟩
 · exact ⟨h,rfl⟩
 · exact ⟨h.cha _ _ _,rfl⟩
 · exact ⟨h,rfl⟩
end
end Go.Proofs.YtmgnbgniikjhdaaGreat
namespace Go.Proofs.YtmgnbgniikjhdaaGreat
open Go.Ab
set_option maxRecDepth 8000
set_option maxHeartbeats 400000
def doF (T:Tab) (ps:List Pr) (pid:Int) (ca:Ca):Rs×Tab×List Pr:=
 if 0≤pid∧pid<ps.length then ((stepF T ps pid.toNat (ps.getD pid.toNat pr0) ca).1,(stepF T ps pid.toNat (ps.getD pid.toNat pr0) ca).2.1,ps.set pid.toNat (stepF T ps pid.toNat (ps.getD pid.toNat pr0) ca).2.2)
 else (tol 22,T,ps)
theorem does_all (k:Int) (hk:13≤k∧k≤18):∃f,aget (.int .i64 k) doesL=some (.fn (.func f) [] []):=by
 rcases (show k=13∨k=14∨k=15∨k=16∨k=17∨k=18 by omega) with e | e | e | e | e | e<;>(subst e;exact ⟨_,rfl⟩)
theorem doF_len (T:Tab) (ps:List Pr) (pid:Int) (ca:Ca):(doF T ps pid ca).2.2.length=ps.length:=by
 unfold doF;split
 · exact List.length_set ..
 · rfl
theorem doF_gd {T:Tab} (hT:Gd T) (ps:List Pr) (pid:Int) (ca:Ca):Gd (doF T ps pid ca).2.1:=by
 unfold doF;split
 · exact (stepF_gd hT ps _ _ ca).1
 · exact hT
theorem c43 (ks kt kb:Nat) (T:Tab) (ps:List Pr) (h:List Blk) (live:List Nat) (hy:SysAt h ks kt kb T ps) (pid:Int) (ca:Ca) (hpath:ca.path.length≤1000) (hoth:ca.other.length≤1000) (hdat:ca.data.length≤1000):ACalls Tryz.prog 43 [.ptr ks 0,.int .i64 pid,.agg (caC ca)] h live fun x h' l'=>
 (x=.agg (rsC (doF T ps pid ca).1)∧SysAt h' ks kt kb (doF T ps pid ca).2.1 (doF T ps pid ca).2.2∧h'.length=h.length∧(∀i,i≠kt→(∀j,j<ps.length→i≠kb+2*j)→h'[i]? = h[i]?)∧l'=live)∧HCl h':=by
 refine ACalls.hclK ?_
 by_cases hp:0≤pid∧pid<ps.length
 ·
  obtain ⟨n,rfl⟩:∃n:Nat,pid=(n:Int):=⟨pid.toNat,by omega⟩
  have hn:n<ps.length:=by omega
  have hgd:ps.getD n pr0=ps[n]:=by rw [List.getD_eq_getElem?_getD,List.getElem?_eq_getElem hn];rfl
  have key:ACalls Tryz.prog 43 [.ptr ks 0,.int .i64 (n:Nat),.agg (caC ca)] h live (ret (.agg (rsC (stepF T ps n ps[n] ca).1)) (sysH h kt (kb+2*n) (stepF T ps n ps[n] ca).2.1 (stepF T ps n ps[n] ca).2.2) live):=by
   by_cases hk:13≤ca.kind∧ca.kind≤18
   ·
    obtain ⟨f,hf⟩:=does_all ca.kind hk
    exact s43 f ks kt kb T ps h live hy n _ hn rfl ca hpath hoth hdat hk hf
   · exact o43 ks kt kb T ps h live hy n _ hn rfl ca hpath hoth hdat (by omega)
  refine key.mono ?_
  rintro _ _ _ ⟨rfl,rfl,rfl⟩
  obtain ⟨⟨g1,g2⟩,g3⟩:=stepF_gd ⟨hy.ok,hy.rt⟩ ps n ps[n] ca
  have e:doF T ps n ca=((stepF T ps n ps[n] ca).1,(stepF T ps n ps[n] ca).2.1,ps.set n (stepF T ps n ps[n] ca).2.2):=by
   unfold doF;rw [if_pos hp,Int.toNat_natCast,hgd]
  rw [e]
  refine ⟨rfl,hy.next hn rfl g3 g1 g2,sysH_len _ _ _ _ _,fun i h1 h2=>?_,rfl⟩
  unfold sysH
  rw [List.getElem?_set_ne (fun h=>h2 n hn h.symm),List.getElem?_set_ne (fun h=>h1 h.symm)]
 ·
  have e:doF T ps pid ca=(tol 22,T,ps):=by unfold doF;rw [if_neg hp]
  rw [e]
  refine (n43 ks kt kb T ps h live hy pid (by omega) ca).mono ?_
  rintro _ _ _ ⟨rfl,rfl,rfl⟩
  exact ⟨rfl,hy,rfl,fun _ _ _=>rfl,rfl⟩
end Go.Proofs.YtmgnbgniikjhdaaGreat
namespace Go.Proofs.YtmgnbgniikjhdaaGreat
open Go.Ab
set_option maxRecDepth 8000
set_option maxHeartbeats 400000
def crC (c:Cr):List AV:=[.int .i64 c.uid,.int .i64 c.gid,.slice (c.gs.map iV) .none]
def crV (c:Cr):AV:=.agg (crC c)
theorem clL_crV (m:Nat) (l:List Cr):AV.clL m (l.map crV):=clL_all fun x hx=>by
 obtain ⟨c, _,rfl⟩:=List.mem_map.1 hx
 exact ⟨trivial,trivial,clL_iV _ _,trivial⟩
def pr1 (um:Int) (c:Cr):Pr:=⟨c,bits .and .i64 um 511,fd0,fd0,fd0⟩
def crQ (c:Cr) (q:Cap):List AV:=[.int .i64 c.uid,.int .i64 c.gid,.slice (c.gs.map iV) q]
def prQ (um:Int) (c:Cr) (q:Cap):List AV:=[.int .i64 c.uid,.int .i64 c.gid,.slice (c.gs.map iV) q,.int .i64 (bits .and .i64 um 511),.int .i64 0,.int .i64 0,.bool false,.bool false,.int .i64 0,.int .i64 0,.bool false,.bool false,.int .i64 0,.int .i64 0,.bool false,.bool false]
def pq (um:Int) (l:List (Cr×Cap)):List Blk:=l.flatMap fun p=>[.cells (crQ p.1 p.2),.cells (prQ um p.1 p.2)]
theorem pq_len (um:Int) (l:List (Cr×Cap)):(pq um l).length=2*l.length:=by
 induction l with
 | nil=>rfl
 | cons a l ih=>show (pq um l).length+1+1=_;rw [ih,List.length_cons];omega
theorem pq_snoc (um:Int) (l:List (Cr×Cap)) (c:Cr) (q:Cap):pq um (l++[(c,q)])=pq um l++[.cells (crQ c q),.cells (prQ um c q)]:=by
 unfold pq;rw [List.flatMap_append];rfl
theorem pq_cl {um:Int} {l:List (Cr×Cap)}:∀ {h:List Blk},HCl h→HCl (h++pq um l):=by
 induction l with
 | nil=>intro h hH;show HCl (h++[]);rw [List.append_nil];exact hH
 | cons a l ih=>
  intro h hH
  have h1:HCl (h++[.cells (crQ a.1 a.2),.cells (prQ um a.1 a.2)]):=by
   have:=HCl.snoc (HCl.snoc (b:=.cells (crQ a.1 a.2)) hH ⟨trivial,trivial,clL_iV _ _,trivial⟩) (b:=.cells (prQ um a.1 a.2)) ⟨trivial,trivial,clL_iV _ _,trivial,trivial,trivial,trivial,trivial,trivial,trivial,trivial,trivial,trivial,trivial,trivial,trivial,trivial⟩
   rw [List.append_assoc] at this;exact this
  have:=ih h1
  rw [List.append_assoc] at this;exact this
attribute [push_cast] pq_len
def newH (h:List Blk) (T:Tab) (um:Int) (cs:List Cr):List Blk:=h++([tabBlk T,.cells [.ptr h.length 0,.slice (pB (h.length+3) cs.length) .none]]++pq um (cs.map fun c=>(c,.none)))
theorem pq_bw (um:Int):∀l:List (Cr×Cap),BW (pq um l) (pq um (l.map fun p=>(p.1,Cap.none)))
 | []=>BW.refl _
 | a::l=>by
  show BW ([Blk.cells (crQ a.1 a.2)]++([Blk.cells (prQ um a.1 a.2)]++pq um l)) ([Blk.cells (crQ a.1 .none)]++([Blk.cells (prQ um a.1 .none)]++pq um (l.map fun p=>(p.1,Cap.none))))
  refine BW.app (BW.one ?_) (BW.app (BW.one ?_) (pq_bw um l))
  · show _=Blk.cells (AV.erL (crQ a.1 a.2));simp only [crQ,AV.erL,AV.er,erL_iV]
  · show _=Blk.cells (AV.erL (prQ um a.1 a.2));simp only [prQ,AV.erL,AV.er,erL_iV]
theorem erL_pB (kb n:Nat):AV.erL (pB kb n)=pB kb n:=by
 rw [AV.erL_map];unfold pB;rw [List.map_map];rfl
theorem new_bw (h:List Blk) (T:Tab) (um:Int) (cs:List Cr) (l:List (Cr×Cap)) (q:Cap) (hl:l.length=cs.length) (hm:l.map (·.1)=cs.take l.length):BW (h++([tabBlk T,.cells [.ptr h.length 0,.slice (pB (h.length+3) l.length) q]]++pq um l)) (newH h T um cs):=by
 have e:(cs.map fun c=>(c,Cap.none))=l.map fun p=>(p.1,Cap.none):=by
  rw [hl,List.take_length] at hm;rw [←hm,List.map_map];rfl
 unfold newH
 rw [e,hl]
 refine BW.app (BW.refl h) (BW.app ?_ (pq_bw um l))
 exact BW.app (BW.refl [tabBlk T]) (BW.one (by show _=Blk.cells [_,(AV.slice _ q).er];simp only [AV.er,erL_pB,AV.erL]))
theorem new_cl {h:List Blk} (hH:HCl h) (T:Tab) (um:Int) (l:List (Cr×Cap)) (q:Cap):HCl (h++([tabBlk T,.cells [.ptr h.length 0,.slice (pB (h.length+3) l.length) q]]++pq um l)):=by
 have hlen:(h++([tabBlk T,.cells [.ptr h.length 0,.slice (pB (h.length+3) l.length) q]]++pq um l)).length=h.length+2+2*l.length:=by simp [pq_len];omega
 intro b hb
 rw [hlen]
 rcases List.mem_append.1 hb with hb | hb
 · exact Blk.cl_mono (by omega) (hH b hb)
 ·
  rcases List.mem_append.1 hb with hb | hb
  ·
   simp only [List.mem_cons,List.not_mem_nil,or_false] at hb
   rcases hb with rfl | rfl
   · exact cl_tab _ _
   ·
    refine ⟨by show h.length<_;omega,clL_all fun x hx=>?_,trivial⟩
    obtain ⟨i,hi,rfl⟩:=List.mem_map.1 hx
    have:=List.mem_range.1 hi
    show h.length+3+2*i<_;omega
  ·
   obtain ⟨p, _,hp⟩:=List.mem_flatMap.1 hb
   simp only [List.mem_cons,List.not_mem_nil,or_false] at hp
   rcases hp with rfl | rfl
   · exact ⟨trivial,trivial,clL_iV _ _,trivial⟩
   · exact ⟨trivial,trivial,clL_iV _ _,trivial,trivial,trivial,trivial,trivial,trivial,trivial,trivial,trivial,trivial,trivial,trivial,trivial,trivial⟩
theorem newH_cl {h:List Blk} (hH:HCl h) (T:Tab) (um:Int) (cs:List Cr):HCl (newH h T um cs):=by
 have:=new_cl hH T um (cs.map fun c=>(c,Cap.none)) .none
 rw [List.length_map] at this;exact this
theorem pB_succ (kb n:Nat):pB kb (n+1)=pB kb n++[.ptr (kb+2*n) 0]:=by
 unfold pB;rw [List.range_succ,List.map_append];rfl
theorem new_step (h:List Blk) (T:Tab) (um:Int) (l:List (Cr×Cap)) (c:Cr) (c31 c44 q:Cap) (H:List Blk) (hHe:h++([tabBlk T,.cells [.ptr h.length 0,.slice (pB (h.length+3) l.length) q]]++pq um l)=H) (hHl:H.length=h.length+2+2*l.length) :
 H.set (h.length+1) (.cells [.ptr h.length 0,.slice (pB (h.length+3) l.length++[.ptr (H.length+1) 0]) c44])++[.cells (crQ c c31),.cells (prQ um c c31)]=h++([tabBlk T,.cells [.ptr h.length 0,.slice (pB (h.length+3) (l++[(c,c31)]).length) c44]]++pq um (l++[(c,c31)])):=by
 rw [pq_snoc,List.length_append,List.length_singleton,pB_succ,show h.length+3+2*l.length=H.length+1 by omega,←hHe,set_app,List.append_assoc]
 rfl
theorem cells_pB (kb n:Nat):∀y∈pB kb n,y.cells.length=1:=fun y hy=>by
 obtain ⟨i, _,rfl⟩:=List.mem_map.1 hy;rfl
attribute [push_cast] clL_crV erL_pB
theorem c34 (T:Tab) (k:Nat) (um:Int) (cs:List Cr) (h:List Blk) (live:List Nat) (hk:h[k]? = some (tabBlk T)) (hT:T.Ok) (hcs:∀c∈cs,c.gs.length≤17592186044416) (hcl:cs.length≤17592186044416):ACalls Tryz.prog 34 [.ptr k 0,.int .i64 um,.slice (cs.map crV) .none] h live (ret (.ptr (h.length+1) 0) (newH h T um cs) live):=by
 refine aq_ Tryz.func34 fun hH hX=>?_
 have hkl:=lt_of_get hk
 have hT2:=tab_all T hT
 refine rg_ [0,1,2] ?_
 refine rs_ [1,2,7] ?_
 refine sg_ ?_
 refine cl_ (hc:=c41 T k _ _ hk hT) (k:=?_)
 refine sre_ ?_
 refine sk_ fun K1 hK1=>?_
 refine rg_ [1,2,7,18] ?_
 refine cdn_ (ht:=fun hb1=>?_) (hf:=fun hb1=>?_)
 · exfalso;exact Bool.noConfusion hb1
 refine skp_ ?_
 refine hK1 _ ?_
 refine sk_ fun K2 hK2=>?_
 refine rg_ [1,7,23,24,25] ?_
 refine awp_block ?_
 refine awp_loopG (X:={x:List (Cr×Cap)×Cap×List Nat // x.1.map (·.1)=cs.take x.1.length∧x.1.length≤cs.length∧CapOK x.2.2 x.2.1∧∀u∈live,u∈x.2.2∧x.2.1≠.own u}) (fun x=>⟨Tryz.f34.ntmps,fget [(1,.int .i64 um),(7,.ptr (h.length+1) 0),(23,.slice (cs.map crV) .none),(24,.int .i64 cs.length),(25,.int .i64 (x.1.1.length:Nat))],h++([tabBlk T,.cells [.ptr h.length 0,.slice (pB (h.length+3) x.1.1.length) x.1.2.1]]++pq um x.1.1),x.1.2.2⟩) (fun x=>cs.length - x.1.1.length) (⟨⟨[],.full,live⟩,rfl,Nat.zero_le _,.inl rfl,fun u hu=>⟨hu,Cap.noConfusion⟩⟩) ?_ (by first | rfl | (simp only [List.length_set];done) | simp) (fun ⟨⟨l,q,live'⟩,hm,hi,hc,hlv⟩=>?_)
 ·
  try dsimp only
  refine Trunc.of (by first | (rw [List.append_nil];rfl) | (rw [List.append_nil];exact new_step h T um l c c31 c44 q H hHe hHl)) ?_ (new_cl hH T um _ _) (fun _ h=>h)
  refine ftc_ ?_ (hc:=by first | exact trivial | exact clL_crV _ _ | (simp [AV.cl,AV.clL];done) | (simp [AV.cl,AV.clL];omega))
  refine ftc_ ?_ (hc:=by first | exact trivial | exact clL_crV _ _ | (simp [AV.cl,AV.clL];done) | (simp [AV.cl,AV.clL];omega))
  refine ftc_ ?_ (hc:=by first | exact trivial | exact clL_crV _ _ | (simp [AV.cl,AV.clL];done) | (simp [AV.cl,AV.clL];omega))
  refine ftc_ ?_ (hc:=by first | exact trivial | exact clL_crV _ _ | (simp [AV.cl,AV.clL];done) | (simp [AV.cl,AV.clL];omega))
  refine ftc_ ?_ (hc:=by first | exact trivial | exact clL_crV _ _ | (simp [AV.cl,AV.clL];done) | (simp [AV.cl,AV.clL];omega))
  exact FTr.nil
 try dsimp only
 dsimp only at hm hi hc hlv
 obtain ⟨H,hHe⟩:∃H,h++([tabBlk T,.cells [.ptr h.length 0,.slice (pB (h.length+3) l.length) q]]++pq um l)=H:=⟨_,rfl⟩
 simp only [hHe]
 have hHl:H.length=h.length+2+2*l.length:=by rw [←hHe];simp [pq_len];omega
 have hHs:∀g:List Blk,(H++g)[h.length+1]? = some (.cells [.ptr h.length 0,.slice (pB (h.length+3) l.length) q]):=fun g=>atApp (by rw [←hHe,get_app];rfl)
 have hHz:∀(g:List Blk) (y:Blk),(H++g).set (h.length+1) y=H.set (h.length+1) y++g:=fun g y=>List.set_append_left _ _ (by omega)
 have sx:=And.intro hHs (And.intro hHz sx)
 refine rg_ [1,7,23,24,25,26] ?_
 refine sk_ fun K3 hK3=>?_
 refine cx_ (fun hb2=>?_) (fun hb2=>?_)
 rotate_left
 ·
  have hle:l.length=cs.length:=by omega
  refine awp_exit (up_ ?_)
  refine hK2 _ ?_
  refine rg_ [6] ?_
  refine ret_ ?_
  refine fe_ (h1:=newH h T um cs) Tryz.results34 (hh:=⟨H,[],(List.append_nil _).symm,hHe▸new_bw h T um cs l q hle hm⟩) (hcl:=(by show _<(newH h T um cs).length;unfold newH;simp;try omega)) (hl:=(fun u hu=>(hlv u hu).1)) (hH:=(newH_cl hH T um cs)) (hle:=(by unfold newH;simp)) (hK:=?_)
  exact rk_ rfl
 have hil:l.length<cs.length:=by omega
 obtain ⟨c,hcc⟩:∃c,cs[l.length]=c:=⟨_,rfl⟩
 have hgl:=hcs c (hcc▸List.getElem_mem hil)
 have hge:(cs.map crV).getD l.length .undef=.agg [.int .i64 c.uid,.int .i64 c.gid,.slice (c.gs.map iV) .none]:=by rw [List.getD_eq_getElem?_getD,List.getElem?_map,List.getElem?_eq_getElem hil,hcc];rfl
 have hgm:(cs.map crV)[l.length]? = some (.agg [.int .i64 c.uid,.int .i64 c.gid,.slice (c.gs.map iV) .none]):=by rw [List.getElem?_map,List.getElem?_eq_getElem hil,hcc];rfl
 have sx:=And.intro hge (And.intro hgm sx)
 refine skp_ ?_
 refine hK3 _ ?_
 refine sk_ fun K4 hK4=>?_
 refine awp_block ?_
 refine rg_ [1,7,9,23,24,25] ?_
 refine rs_ [1,7,9,23,24,25] ?_
 refine sg_ ?_
 refine ap_ (a:=.inl rfl) (b:=by simp) (c':=cells_iV _) (d:=by simp;omega) (e:=by simp;omega) (k:=?_)
 intro c31 live31 hk31
 refine sre_ ?_
 refine rtq_ [1,7,23,24,25] ⟨false,[(h.length+1,1,.one),(H.length,0,.agg 3)],[37,38],[],[42],[],0⟩ (fun _=>⟨by kernel_rfl,by kernel_rfl⟩) ?_
 refine sg_ ?_
 refine df_ ?_
 refine df_ ?_
 refine sg_ ?_
 refine dga_ ?_
 refine sg_ ?_
 refine ap_ (a:=(cap_mid hc (fun u h=>by cases h) hk31)) (b:=cells_pB _ _) (c':=by simp [AV.cells]) (d:=by simp [pB_len];omega) (e:=by simp [pB_len];omega) (k:=?_)
 intro c44 live44 hk44
 refine srn_ ?_
 refine hK4 _ ?_
 refine rt_ [1,7,23,24,25] ?_
 refine srn_ ?_
 refine ⟨⟨⟨l++[(c,c31)],c44,live44⟩,by dsimp only;rw [List.map_append,hm,List.length_append,List.length_singleton,List.take_succ_eq_append_getElem hil,hcc];rfl,by dsimp only;rw [List.length_append,List.length_singleton];omega,hk44.1,fun u hu=>by
  have a:=hlv u hu
  have b:=hk31.2 u a.1 Cap.noConfusion
  exact hk44.2 u b.1 a.2⟩,?_,(by dsimp only;first | (simp;done) | (simp;omega) | (rw [←hHe];simp [pq_len];done) | (rw [←hHe];simp [pq_len];omega)),by dsimp only;rw [List.length_append,List.length_singleton];omega⟩
 try dsimp only
 refine Trunc.of (by first | (rw [List.append_nil];rfl) | (rw [List.append_nil];exact new_step h T um l c c31 c44 q H hHe hHl)) ?_ (new_cl hH T um _ _) (fun _ h=>h)
 refine ftc_ ?_ (hc:=by first | exact trivial | exact clL_crV _ _ | (simp [AV.cl,AV.clL];done) | (simp [AV.cl,AV.clL];omega))
 refine ftc_ ?_ (hc:=by first | exact trivial | exact clL_crV _ _ | (simp [AV.cl,AV.clL];done) | (simp [AV.cl,AV.clL];omega))
 refine ftc_ ?_ (hc:=by first | exact trivial | exact clL_crV _ _ | (simp [AV.cl,AV.clL];done) | (simp [AV.cl,AV.clL];omega))
 refine ftc_ ?_ (hc:=by first | exact trivial | exact clL_crV _ _ | (simp [AV.cl,AV.clL];done) | (simp [AV.cl,AV.clL];omega))
 refine ftc_ ?_ (hc:=by first | exact trivial | exact clL_crV _ _ | (simp [AV.cl,AV.clL];done) | (simp [AV.cl,AV.clL];omega))
 exact FTr.nil
end Go.Proofs.YtmgnbgniikjhdaaGreat
namespace Go.Proofs.YtmgnbgniikjhdaaGreat
open Go.Ab
set_option maxRecDepth 8000
set_option maxHeartbeats 400000
theorem Tab.Rt.new (room:Int):(newT room).Rt:=fun n hn hk=>absurd (by rw [(List.mem_replicate.1 hn).2];rfl) hk
theorem Tab.Rt.one {T:Tab} (h:T.Rt) (r:Rw):(oneF T r).2.Rt:=by
 have ht:(toldF T r).2.Rt:=by
  unfold toldF
  split
  · exact h.add _
  ·
   split
   · exact h
   · split<;>exact h
 unfold oneF
 split
 · exact h
 ·
  split
  · exact ht
  ·
   split
   · exact ht
   · exact ht.putT _ _
theorem Tab.Rt.rest:∀(l:List Rw) (T:Tab) (i:Nat) (T':Tab),T.Rt→restF T i l=.inr T'→T'.Rt
 | [],T,i,T',h,e=>by cases e;exact h
 | r::l,T,i,T',h,e=>by
  unfold restF at e
  split at e
  · cases e
  · exact Tab.Rt.rest l _ _ T' (h.one r) e
theorem Tab.Rt.build {room:Int} {l:List Rw} {T:Tab} (e:buildF room l=.inr T):T.Rt:=by
 unfold buildF at e
 cases hc:(decide ((l.length:Int)=0)||!decide ((l.getD 0 rw0).kind=2)||!decide ((l.getD 0 rw0).parent=0)||!decide ((l.getD 0 rw0).name=[])) with
 | true=>rw [hc] at e;cases e
 | false=>
  rw [hc,cond_false] at e
  split at e
  · cases e
  · exact Tab.Rt.rest _ _ _ T ((Tab.Rt.new room).add _) e
theorem built_rt {room:Int} {l:List Rw} {c:Cr} {T:Tab} (h:builtF room l c=some T):T.Rt:=by
 unfold builtF at h
 cases h1:(decide ((50:Int)<l.length)||decide ((10:Int)<c.gs.length)) with
 | true=>rw [h1] at h;cases h
 | false=>
  rw [h1,cond_false] at h
  cases h2:l.any bigR with
  | true=>rw [h2] at h;cases h
  | false=>
   rw [h2,cond_false] at h
   split at h
   · cases h
   ·
    rename_i T' hT'
    cases h
    exact Tab.Rt.build hT'
theorem erL_rV (l:List Rw):AV.erL (l.map rV)=l.map rV:=by
 rw [AV.erL_map,List.map_map]
 refine List.map_congr_left fun r _=>?_
 show (rV r).er=rV r
 simp only [rV,rwC,AV.er,AV.erL,erL_bV]
def begunK (h:List Blk) (live:List Nat) (um:Int) (cs:List Cr) (o:Option Tab):KT:=fun x h' l'=>l'=live∧((o=none∧x=.tup [.raw (.pointer none),.bool false]∧h'=h)∨(∃T g,o=some T∧x=.tup [.ptr ((h++g).length+1) 0,.bool true]∧h'=newH (h++g) T um cs))
def cr0:Cr:=⟨0,0,[]⟩
theorem pq_get (um:Int):∀(l:List (Cr×Cap)) (i:Nat),i<l.length→∀g,(pq um l++g)[2*i+1]? = some (.cells (prQ um (l.getD i (cr0,.none)).1 (l.getD i (cr0,.none)).2))
 | a::l,0, _,g=>rfl
 | a::l,i+1,h,g=>by
  have:=pq_get um l i (by simpa using h) g
  show (Blk.cells (crQ a.1 a.2)::Blk.cells (prQ um a.1 a.2)::(pq um l++g))[2*i+1+1+1]? = _
  rw [List.getElem?_cons_succ,List.getElem?_cons_succ,this,List.getD_cons_succ]
theorem newH_len (h:List Blk) (T:Tab) (um:Int) (cs:List Cr):(newH h T um cs).length=h.length+2+2*cs.length:=by
 unfold newH;simp [pq_len];omega
theorem newH_at (h:List Blk) {T:Tab} (um:Int) {cs:List Cr} (hT:T.Ok) (hR:T.Rt) (hg:∀c∈cs,c.gs.length≤17592186044416) (hf:cs.length≤1000):SysAt (newH h T um cs) (h.length+1) h.length (h.length+3) T (cs.map (pr1 um)) where
 s:=by unfold newH;rw [get_app,List.length_map];rfl
 t:=by unfold newH;rw [get_app0];rfl
 p:=fun i hi=>by
  rw [List.length_map] at hi
  have:=pq_get um (cs.map fun c=>(c,Cap.none)) i (by simpa using hi) []
  rw [List.append_nil] at this
  unfold newH
  rw [show h.length+3+2*i=h.length+(2*i+1+1+1) by omega,get_app]
  show (tabBlk T::Blk.cells _::pq um (cs.map fun c=>(c,Cap.none)))[2*i+1+1+1]? = _
  rw [List.getElem?_cons_succ,List.getElem?_cons_succ,this,List.getD_eq_getElem?_getD,List.getElem?_map,List.getElem?_eq_getElem hi,List.getElem_map]
  rfl
 st:=by omega
 sb:=by omega
 tb:=by omega
 ok:=hT
 rt:=hR
 gs:=fun P hP=>by obtain ⟨c,hc,rfl⟩:=List.mem_map.1 hP;exact hg c hc
 few:=by rw [List.length_map];exact hf
structure At where
 pid:Int
 c:Ca
def at0:At:=⟨0,⟨0,[],[],0,0,[]⟩⟩
def atC (a:At):List AV:=.int .i64 a.pid::caC a.c
def atV (a:At):AV:=.agg (atC a)
theorem getD_atV {l:List At} {i:Nat} {d:AV} (h:i<l.length):(l.map atV).getD i d=.agg (atC (l.getD i at0)):=by
 simp [List.getD_eq_getElem?_getD,h,atV]
theorem allSz_atV (l:List At):allSz (l.map atV) 7↔True:=iff_true_intro (allSz_map _ _ _ fun _=>rfl)
theorem atC_0 (c:At):(atC c)[0]? = some (.int .i64 c.pid):=rfl
theorem atC_2 (c:At):(atC c)[2]? = some (.str c.c.path):=rfl
theorem atC_3 (c:At):(atC c)[3]? = some (.str c.c.other):=rfl
theorem atC_6 (c:At):(atC c)[6]? = some (.slice (c.c.data.map bV) .none):=rfl
theorem atC_len (c:At):(atC c).length=7:=rfl
theorem atC_ca (c:At):((atC c).drop 1).take 6=caC c.c:=rfl
theorem clL_atV (n:Nat) (l:List At):AV.clL n (l.map atV):=clL_all fun x hx=>by
 obtain ⟨c, _,rfl⟩:=List.mem_map.1 hx
 exact ⟨trivial,trivial,trivial,trivial,trivial,trivial,clL_bV _ _,trivial⟩
attribute [push_cast] getD_atV allSz_atV atC_0 atC_2 atC_3 atC_6 atC_len atC_ca
theorem getD_crV {l:List Cr} {i:Nat} {d:AV} (h:i<l.length):(l.map crV).getD i d=.agg (crC (l.getD i cr0)):=by
 simp [List.getD_eq_getElem?_getD,h,crV]
theorem allSz_crV (l:List Cr):allSz (l.map crV) 3↔True:=iff_true_intro (allSz_map _ _ _ fun _=>rfl)
theorem crC_2 (c:Cr):(crC c)[2]? = some (.slice (c.gs.map iV) .none):=rfl
theorem crC_len (c:Cr):(crC c).length=3:=rfl
attribute [push_cast] getD_crV allSz_crV crC_2 crC_len
def bigA (a:At):Bool:=decide ((100:Int)<a.c.path.length)||decide ((100:Int)<a.c.other.length)||decide ((100:Int)<a.c.data.length)
def bigC (c:Cr):Bool:=decide ((10:Int)<c.gs.length)
def fewF (l:List At) (cs:List Cr):Bool:=!l.any bigA&&(!cs.any bigC&&(decide ((l.length:Int)≤60)&&decide ((cs.length:Int)≤6)))
theorem fewF_ok {l:List At} {cs:List Cr} (h:fewF l cs=true):(∀a∈l,a.c.path.length≤100∧a.c.other.length≤100∧a.c.data.length≤100)∧(∀c∈cs,c.gs.length≤10)∧l.length≤60∧cs.length≤6:=by
 unfold fewF at h
 simp only [Bool.and_eq_true,Bool.not_eq_true',decide_eq_true_eq] at h
 obtain ⟨h1,h2,h3,h4⟩:=h
 refine ⟨fun a ha=>?_,fun c hc=>?_,by omega,by omega⟩
 ·
  have:=List.any_eq_false.1 h1 a ha
  simp only [bigA,Bool.not_eq_true,Bool.or_eq_false_iff,decide_eq_false_iff_not,Int.not_lt] at this
  exact ⟨by omega,by omega,by omega⟩
 ·
  have:=List.any_eq_false.1 h2 c hc
  simp only [bigC,decide_eq_true_eq,Int.not_lt] at this
  omega
attribute [push_cast] erL_rV clL_atV
end Go.Proofs.YtmgnbgniikjhdaaGreat
namespace Go.Proofs.YtmgnbgniikjhdaaGreat
open Go.Ab
set_option maxRecDepth 8000
set_option maxHeartbeats 400000
section
variable {P:Program}
theorem rt2_ {n:Nat} {fl:FL} {h:List Blk} {live:List Nat} {id:Nat} {l l1 m l2:List Oper} {x y:Oper} {Q:Exit→AS→Prop} (V:List Tmp) (q:RQ) (hl:l1++x::(m++y::l2)=l) (hok:okTwo q l.toArray l1.length (l1.length+1+m.length)=true∧P.follows .mixedOrders=true)
 (hd:dawp P q (gdOf l.toArray) n l1 (fget fl) h live fun fr h live=>dawp P q (gdOf l.toArray) n (x::(m++y::l2)) fr h live (endN Q n V)∧dawp P q (gdOf l.toArray) n (y::x::(m++l2)) fr h live (endN Q n V)):AwpC P (.region id l.toArray true) Q ⟨n,fget fl,h,live⟩:=
 awp_region_two V q hl hok hd
end
theorem SysAt.set {h:List Blk} {ks kt kb:Nat} {T:Tab} {ps:List Pr} (hs:SysAt h ks kt kb T ps) {i:Nat} (h1:i≠ks) (h2:i≠kt) (h3:∀j,j<ps.length→i≠kb+2*j) (x:Blk):SysAt (h.set i x) ks kt kb T ps:=
 ⟨getSet hs.s (Ne.symm h1),getSet hs.t (Ne.symm h2),fun j hj=>getSet (hs.p j hj) (Ne.symm (h3 j hj)),hs.st,hs.sb,hs.tb,hs.ok,hs.rt,hs.gs,hs.few⟩
def wRaw:List Rw:=[⟨2,493,0,0,0,[],[],[],0⟩,⟨2,488,1,1,1,[100],[],[],0⟩,⟨1,420,1,1,2,[102],[104,105],[],0⟩,⟨3,511,0,0,1,[115],[],[100,47,102],0⟩]
def wT0:Tab:=match buildF 9 wRaw with
 | .inr T=>T
 | .inl _=>⟨0,[]⟩
theorem wBuild:buildF 9 wRaw=.inr wT0:=by kernel_rfl
def wCs:List Cr:=[⟨1,1,[]⟩,⟨0,0,[]⟩]
def wP0:List Pr:=wCs.map (pr1 18)
def wA1:Ca:=⟨13,[115],[],1,0,[]⟩
def wA2:Ca:=⟨10,[100,47,102],[],0,0,[]⟩
def wA3:Ca:=⟨14,[],[],0,9,[]⟩
def wA4:Ca:=⟨16,[],[],0,0,[]⟩
def wD1:Rs×Tab×List Pr:=doF wT0 wP0 0 wA1
def wD2:Rs×Tab×List Pr:=doF wD1.2.1 wD1.2.2 1 wA2
def wD3:Rs×Tab×List Pr:=doF wD2.2.1 wD2.2.2 0 wA3
def wD4:Rs×Tab×List Pr:=doF wD3.2.1 wD3.2.2 0 wA4
theorem w1e:wD1.1.err=0:=by kernel_rfl
theorem w1n:wD1.1.n=0:=by kernel_rfl
theorem w2e:wD2.1.err=0:=by kernel_rfl
theorem w3d:wD3.1.data=[104,105]:=by kernel_rfl
theorem w3u:wD3.2.1.used=4:=by kernel_rfl
theorem w4e:wD4.1.err=0:=by kernel_rfl
theorem w4u:wD4.2.1.used=3:=by kernel_rfl
theorem w4m:umQ wD4.2.2 1=18:=by kernel_rfl
theorem w4o:openL wD4.2.2=[]:=by kernel_rfl
theorem w0u:wT0.used=4:=by kernel_rfl
theorem kDo {ks kt kb:Nat} {T:Tab} {ps:List Pr} {h:List Blk} {live:List Nat} (hy:SysAt h ks kt kb T ps) (pid:Int) (ca:Ca) {d:Rs×Tab×List Pr} (e:doF T ps pid ca=d) (h1:ca.path.length≤1000) (h2:ca.other.length≤1000) (h3:ca.data.length≤1000):ACalls Tryz.prog 43 [.ptr ks 0,.int .i64 pid,.agg (caC ca)] h live fun x h' l'=>
 (x=.agg (rsC d.1)∧SysAt h' ks kt kb d.2.1 d.2.2∧h'.length=h.length∧(∀i,i≠kt→(∀j,j<ps.length→i≠kb+2*j)→h'[i]? = h[i]?)∧l'=live)∧HCl h':=
 e▸c43 ks kt kb T ps h live hy pid ca h1 h2 h3
theorem wl0:(List.map (pr1 18) wCs).length=2:=rfl
theorem wl1:wD1.2.2.length=2:=by kernel_rfl
theorem wl2:wD2.2.2.length=2:=by kernel_rfl
theorem wl3:wD3.2.2.length=2:=by kernel_rfl
theorem rsC_0 (r:Rs):(rsC r)[0]? = some (.int .i64 r.err):=rfl
theorem rsC_1 (r:Rs):(rsC r)[1]? = some (.int .i64 r.n):=rfl
theorem rsC_9 (r:Rs):(rsC r)[9]? = some (.str r.text):=rfl
theorem rsC_10 (r:Rs):(rsC r)[10]? = some (.slice (r.names.map .str) .none):=rfl
theorem rsC_11 (r:Rs):(rsC r)[11]? = some (.slice (r.data.map bV) .none):=rfl
attribute [push_cast] rsC_0 rsC_1 rsC_9 rsC_10 rsC_11
theorem wDT:decide True=true:=rfl
theorem wHi:decide ([UInt8.ofNat (UInt8.toNat 104),UInt8.ofNat (UInt8.toNat 105)]=[104,105])=true:=by decide
theorem wE0:bE (.inr wT0)=0:=rfl
theorem decI (a:Int):decide (a=a)=true:=by simp
theorem decB (a:List UInt8):decide (a=a)=true:=by simp
theorem wRaw_ok:∀r∈wRaw,RwOk r:=by
 intro r hr
 simp only [wRaw,List.mem_cons,List.not_mem_nil,or_false] at hr
 rcases hr with rfl | rfl | rfl | rfl<;>exact ⟨by decide,by decide,by decide⟩
theorem wT0_ok:wT0.Ok:=buildF_ok wRaw_ok wBuild
theorem wT0_rt:wT0.Rt:=Tab.Rt.build wBuild
theorem caC_w1:caC wA1=[.int .i64 13,.str [115],.str [],.int .i64 1,.int .i64 0,.slice [] .none]:=rfl
theorem wCs_eq:wCs.map crV=[.agg [.int .i64 1,.int .i64 1,.slice [] .none],.agg [.int .i64 0,.int .i64 0,.slice [] .none]]:=rfl
theorem begun_el {h:List Blk} {live:List Nat} {um:Int} {cs:List Cr} {room:Int} {l:List Rw} {x:AV} {h':List Blk} {l':List Nat} (hb:begunK h live um cs (builtF room l ⟨0,0,[]⟩) x h' l') :
 l'=live∧∃p,x=.tup [p,.bool (builtF room l ⟨0,0,[]⟩).isSome]∧∀T,builtF room l ⟨0,0,[]⟩=some T→(∀c∈cs,c.gs.length≤10)→cs.length≤6→∃n,p=.ptr (n+1) 0∧SysAt h' (n+1) n (n+3) T (cs.map (pr1 um)):=by
 obtain ⟨rfl,hb⟩:=hb
 refine ⟨rfl,?_⟩
 rcases hb with ⟨e,rfl,rfl⟩ | ⟨T,g,e,rfl,rfl⟩
 · rw [e];exact ⟨_,rfl,fun T hT=>nomatch hT⟩
 ·
  rw [e]
  refine ⟨_,rfl,fun T' hT' hg hf=>?_⟩
  cases hT'
  exact ⟨_,rfl,newH_at _ um (builtF_ok e).1 (built_rt e) (fun c hc=>Nat.le_trans (hg c hc) (by decide)) (Nat.le_trans hf (by decide))⟩
theorem getD_mem {l:List At} {i:Nat} (h:i<l.length):l.getD i at0∈l:=by
 rw [List.getD_eq_getElem?_getD,List.getElem?_eq_getElem h];exact List.getElem_mem h
end Go.Proofs.YtmgnbgniikjhdaaGreat
namespace Go.Proofs.YtmgnbgniikjhdaaGreat
open Go.Ab
set_option maxRecDepth 8000
set_option maxHeartbeats 400000
structure TreeI (T:Tab) (m:Nat):Prop where
 pos:1≤m
 used:∀i:Int,(T.get i).2=true↔(1≤i∧i≤m)
 kid:∀(d:Int) (e:En),e∈(T.get d).1.ents→1≤e.2∧e.2≤m∧((T.get e.2).1.kind=2→d<e.2)
 one:∀(d d':Int) (e e':En),e∈(T.get d).1.ents→e'∈(T.get d').1.ents→e.2=e'.2→(T.get e.2).1.kind=2→d=d'∧e=e'
 par:∀i:Int,2≤i→i≤m→∃(d:Int) (e:En),e∈(T.get d).1.ents∧e.2=i∧d<i
 root:(T.get 1).1.kind=2
theorem get_put {T:Tab} (hT:T.Ok) {n:Nd} (hn:NdOk n) (hk:n.kind≠0) {j:Nat} (hj:(j:Int)+1≤T.room) (i:Int):(T.put j n).get i=if i=(j:Int)+1 then (n,true) else T.get i:=by
 have h1:=hT.len
 have h2:=hT.hi
 rw [get_eq (put_ok hT hn hk j),get_eq hT]
 show (if 1≤i∧i≤T.room then ((T.ns.set j n).getD (i - 1).toNat nd0,!decide (((T.ns.set j n).getD (i - 1).toNat nd0).kind=0)) else (nd0,false))=_
 by_cases h:i=(j:Int)+1
 ·
  subst h
  have e:(T.ns.set j n).getD ((j:Int)+1 - 1).toNat nd0=n:=by
   rw [show ((j:Int)+1 - 1).toNat=j by omega,List.getD_eq_getElem?_getD,List.getElem?_set_self (by omega)];rfl
  rw [if_pos ⟨by omega,hj⟩,if_pos rfl,e,decide_eq_false hk];rfl
 ·
  rw [if_neg h]
  by_cases hc:1≤i∧i≤T.room
  ·
   have e:(T.ns.set j n).getD (i - 1).toNat nd0=T.ns.getD (i - 1).toNat nd0:=by
    rw [List.getD_eq_getElem?_getD,List.getElem?_set_ne (by omega),List.getD_eq_getElem?_getD]
   rw [if_pos hc,if_pos hc,e]
  · rw [if_neg hc,if_neg hc]
theorem mem_insF {l:List En} {s:List UInt8} {id:Int} {e:En}:e∈insF l s id↔e=(s,id)∨e∈l:=by
 unfold insF
 rw [List.mem_append,List.mem_append,List.mem_singleton]
 constructor
 ·
  rintro (h | h | h)
  · exact .inr (List.mem_of_mem_take h)
  · exact .inl h
  · exact .inr (List.mem_of_mem_drop h)
 ·
  rintro (h | h)
  · exact .inr (.inl h)
  ·
   rw [←List.take_append_drop (spot l s) l,List.mem_append] at h
   exact h.elim .inl (fun h=>.inr (.inr h))
theorem ents_is {T:Tab} {d:Int} {e:En} (h:e∈(T.get d).1.ents):(T.get d).2=true:=by
 cases ha:T.at d with
 | none=>rw [get_no ha] at h;exact absurd h (by simp [nd0])
 | some j=>rw [get_at ha]
theorem withN_zero {n:Nd} {s:List UInt8} {id:Int} (h:(withN n s id).2=0):(withN n s id).1=nWith n (insF n.ents s id):=by
 unfold withN at h ⊢
 split
 · rename_i h1;rw [if_pos h1] at h;cases h
 ·
  rename_i h1
  rw [if_neg h1] at h
  cases hb:badN s id with
  | true=>rw [hb] at h;cases h
  | false=>
   rw [hb,cond_false] at h
   rw [cond_false]
   split
   · rename_i h2;rw [if_pos h2] at h;cases h
   ·
    rename_i h2
    rw [if_neg h2] at h
    split
    · rename_i h3;rw [if_pos h3] at h;cases h
    ·
     rename_i h3
     rw [if_neg h3] at h
     split
     · rename_i h4;rw [if_pos h4] at h;cases h
     · rfl
theorem at_room {T:Tab} {i:Int} {j:Nat} (h:T.at i=some j):j=(i - 1).toNat∧1≤i∧i≤T.room:=by
 unfold Tab.at at h
 split at h
 · rename_i hc;cases h;exact ⟨rfl,hc.1,hc.2.1⟩
 · cases h
theorem idxP_spec {α:Type} (p:α→Bool) (d:α):∀l:List α,(idxP p l<0∧∀j,j<l.length→p (l.getD j d)=false)∨(∃k:Nat,idxP p l=k∧k<l.length∧p (l.getD k d)=true)
 | []=>.inl ⟨by show (-1:Int)<0;decide,fun j hj=>by simp at hj⟩
 | x::l=>by
  by_cases hx:p x=true
  · exact .inr ⟨0,by simp [idxP,hx],by simp,by simpa using hx⟩
  ·
   have hx':p x=false:=by simpa using hx
   rcases idxP_spec p d l with ⟨h1,h2⟩ | ⟨k,h1,h2,h3⟩
   ·
    left
    refine ⟨by simp [idxP,hx',h1],fun j hj=>?_⟩
    cases j with
    | zero=>simpa using hx'
    | succ j=>simpa using h2 j (by simpa using hj)
   ·
    right
    refine ⟨k+1,?_,by simpa using h2,by simpa using h3⟩
    simp only [idxP,hx',cond_false,h1]
    rw [decide_eq_false (by omega)];simp
theorem idxP_first {α:Type} (p:α→Bool) (d:α):∀(l:List α) {k:Nat},idxP p l=k→∀j,j<k→p (l.getD j d)=false
 | [],k,h,j,hj=>by
  have:(-1:Int)=k:=h
  omega
 | x::l,k,h,j,hj=>by
  by_cases hx:p x=true
  ·
   have:idxP p (x::l)=0:=by simp [idxP,hx]
   omega
  ·
   have hx':p x=false:=by simpa using hx
   cases j with
   | zero=>simpa using hx'
   | succ j=>
    have:=idxP_range p l
    have e:idxP p (x::l)=if idxP p l<0 then -1 else idxP p l+1:=by
     simp only [idxP,hx',cond_false]
     by_cases h0:idxP p l<0
     · rw [if_pos h0];simp [decide_eq_true h0];try omega
     · rw [if_neg h0];simp [decide_eq_false h0]
    rw [e] at h
    split at h
    · omega
    · simpa using idxP_first p d l (k:=k - 1) (by omega) j (by omega)
theorem flSt_47 (s:List UInt8):∀i,(∀p∈(flSt s i).2,∀j,p.1≤j→j<p.2→s.getD j 0≠47)∧(0≤(flSt s i).1→∀j,(flSt s i).1.toNat≤j→j<i→s.getD j 0≠47)
 | 0=>⟨fun p hp=>by simp [flSt] at hp,fun h=>absurd (show (0:Int) ≤ -1 from h) (by decide)⟩
 | i+1=>by
  obtain ⟨h1,h2⟩:=flSt_47 s i
  by_cases hs:s.getD i 0=47
  ·
   rw [flSt_slash hs]
   by_cases h0:0≤(flSt s i).1
   ·
    rw [if_pos h0]
    refine ⟨fun p hp=>?_,fun h=>by dsimp only at h;omega⟩
    rcases List.mem_append.1 hp with hp | hp
    · exact h1 p hp
    · rw [List.mem_singleton.1 hp];exact h2 h0
   ·
    rw [if_neg h0]
    exact ⟨h1,fun h=>absurd h h0⟩
  ·
   rw [flSt_no hs]
   by_cases h0:(flSt s i).1<0
   ·
    rw [if_pos h0]
    refine ⟨h1,fun _ j ha hb=>?_⟩
    dsimp only at ha
    rw [show j=i by omega];exact hs
   ·
    rw [if_neg h0]
    refine ⟨h1,fun h j ha hb=>?_⟩
    by_cases e:j=i
    · rw [e];exact hs
    · exact h2 h j ha (by omega)
theorem namesF_mem {s x:List UInt8} (hx:x∈namesF s):x≠[]∧∀b∈x,b∈s∧b≠47:=by
 obtain ⟨p,hp,rfl⟩:=List.mem_map.1 hx
 obtain ⟨h1,h2⟩:=(spansF_bd s).1 p hp
 obtain ⟨k1,k2⟩:=flSt_47 s s.length
 have hno:∀j,p.1≤j→j<p.2→s.getD j 0≠47:=by
  unfold spansF at hp
  split at hp
  ·
   rename_i h0
   rcases List.mem_append.1 hp with hp | hp
   · exact k1 p hp
   · rw [List.mem_singleton.1 hp];exact k2 h0
  · exact k1 p hp
 refine ⟨fun e=>?_,fun b hb=>?_⟩
 ·
  have:=congrArg List.length e
  rw [List.length_take,List.length_drop,List.length_nil] at this
  omega
 ·
  obtain ⟨j,hj,rfl⟩:=List.mem_iff_getElem.1 hb
  have hj':=hj
  rw [List.length_take,List.length_drop] at hj'
  rw [List.getElem_take,List.getElem_drop]
  refine ⟨List.getElem_mem _,?_⟩
  have:=hno (p.1+j) (by omega) (by omega)
  rw [List.getD_eq_getElem?_getD,List.getElem?_eq_getElem (by omega)] at this
  exact this
theorem splitL_mem {s x:List UInt8} (hx:x∈splitL s):x=[46]∨(x≠[]∧∀b∈x,b∈s∧b≠47):=by
 unfold splitL at hx
 cases hc:(decide ((0:Int)<(namesF s).length)&&sufF s) with
 | true=>
  rw [hc,cond_true] at hx
  rcases List.mem_append.1 hx with h | h
  · exact .inr (namesF_mem h)
  · exact .inl (List.mem_singleton.1 h)
 | false=>rw [hc,cond_false] at hx;exact .inr (namesF_mem hx)
def NmOk (x:List UInt8):Prop:=x≠[]∧x.any sl0=false
theorem ib_none:∀ {s:List UInt8},Lib.indexByte s 0<0→∀b∈s,b≠0
 | b::l,h,c,hc=>by
  unfold Lib.indexByte at h
  by_cases hb:(b==0)=true
  · rw [if_pos hb] at h;omega
  ·
   rw [if_neg hb] at h
   rcases List.mem_cons.1 hc with rfl | hc
   · intro e;exact hb (by rw [e];rfl)
   ·
    refine ib_none ?_ c hc
    have:=Lib.indexByte_ge l 0
    by_cases h1:(Lib.indexByte l 0 == -1)=true
    · rw [beq_iff_eq] at h1;omega
    · rw [if_neg h1] at h;omega
theorem splitL_ok {s x:List UInt8} (hs:∀b∈s,b≠0) (hx:x∈splitL s):NmOk x:=by
 rcases splitL_mem hx with rfl | ⟨h1,h2⟩
 · exact ⟨by decide,by decide⟩
 ·
  refine ⟨h1,List.any_eq_false.2 fun b hb=>?_⟩
  obtain ⟨h3,h4⟩:=h2 b hb
  simp [sl0,h4,hs b h3]
theorem right_cases {n:Nd} (h:rightF n=true):(decide (n.mode<0)||decide (4095<n.mode)||!idB n.uid||!idB n.gid)=false ∧
 ((n.kind=1∧n.ents=[]∧n.target=[]∧n.data.length≤48)∨(n.kind=2∧n.data=[]∧n.target=[]∧risingF n.ents=true)∨(n.kind=3∧n.data=[]∧n.ents=[]∧n.mode=511∧fitsF n.target=true)):=by
 unfold rightF at h
 cases hc:(decide (n.mode<0)||decide (4095<n.mode)||!idB n.uid||!idB n.gid) with
 | true=>rw [hc] at h;cases h
 | false=>
  rw [hc,cond_false] at h
  refine ⟨rfl,?_⟩
  split at h
  ·
   rename_i h1
   simp only [Bool.and_eq_true,decide_eq_true_eq] at h
   exact .inl ⟨h1,List.length_eq_zero_iff.1 (by omega),h.1.2,by omega⟩
  ·
   split at h
   ·
    rename_i h1
    simp only [Bool.and_eq_true,decide_eq_true_eq] at h
    exact .inr (.inl ⟨h1,List.length_eq_zero_iff.1 (by omega),h.1.2,h.2⟩)
   ·
    split at h
    ·
     rename_i h1
     simp only [Bool.and_eq_true,decide_eq_true_eq] at h
     exact .inr (.inr ⟨h1,List.length_eq_zero_iff.1 (by omega),List.length_eq_zero_iff.1 (by omega),h.1.2,h.2⟩)
    · cases h
theorem right_dir {n:Nd} (hk:n.kind=2) (hc:(decide (n.mode<0)||decide (4095<n.mode)||!idB n.uid||!idB n.gid)=false) (hd:n.data=[]) (ht:n.target=[]) (hr:risingF n.ents=true):rightF n=true:=by
 unfold rightF
 rw [hc,cond_false,if_neg (by omega),if_pos hk,hd,ht,hr];rfl
theorem Tab.Rt.kind {T:Tab} (h:T.Rt) {i:Int} (hk:(T.get i).1.kind≠0):rightF (T.get i).1=true:=by
 refine h.get ?_
 cases ha:T.at i with
 | none=>rw [get_no ha] at hk;exact absurd rfl hk
 | some j=>rw [get_at ha]
def NmAt (T:Tab) (r:Int×List UInt8×Int):Prop:=(r.2.1=[]∧r.2.2=r.1)∨((T.get r.1).1.kind=2∧NmOk r.2.1∧r.2.1≠[46]∧r.2.1≠[46,46]∧r.2.1.length≤12∧r.2.2=findF (T.get r.1).1 r.2.1)
theorem resL_nm2 {T:Tab} (hR:T.Rt) (c:Cr) (fl:Bool):∀(n:Nat) (i k:Int) (l:List (List UInt8)),(∀x∈l,NmOk x)→(resL T c fl n i k l).2=0→NmAt T (resL T c fl n i k l).1
 | 0,i,k,l, _, _=>.inl ⟨rfl,rfl⟩
 | n+1,i,k,[], _, _=>.inl ⟨rfl,rfl⟩
 | n+1,i,k,s::l,hl,hz=>by
  have hls:∀x∈l,NmOk x:=fun x hx=>hl x (List.mem_cons_of_mem _ hx)
  rw [resL_cons] at hz ⊢
  split
  · rename_i h1;rw [if_pos h1] at hz;cases hz
  rename_i h1
  rw [if_neg h1] at hz
  split
  · rename_i h2;rw [if_pos h2] at hz;cases hz
  rename_i h2
  rw [if_neg h2] at hz
  split
  · rename_i h3;rw [if_pos h3] at hz;exact resL_nm2 hR c fl n _ _ l hls hz
  rename_i h3
  rw [if_neg h3] at hz
  split
  · rename_i h4;rw [if_pos h4] at hz;exact resL_nm2 hR c fl n _ _ l hls hz
  rename_i h4
  rw [if_neg h4] at hz
  split
  · rename_i h5;rw [if_pos h5] at hz;cases hz
  rename_i h5
  rw [if_neg h5] at hz
  split
  · rename_i h6;rw [if_pos h6] at hz;cases hz
  rename_i h6
  rw [if_neg h6] at hz
  split
  ·
   rename_i h7
   rw [if_pos h7] at hz
   split
   · rename_i h8;rw [if_pos h8] at hz;cases hz
   ·
    rename_i h8
    rw [if_neg h8] at hz
    refine resL_nm2 hR c fl n _ _ _ (fun x hx=>?_) hz
    rcases List.mem_append.1 hx with hx | hx
    ·
     refine splitL_ok ?_ hx
     rcases right_cases (hR.kind (by rw [h7.1];decide)) with ⟨_,h | h | h⟩
     · rw [h.1] at h7;exact absurd h7.1 (by decide)
     · rw [h.1] at h7;exact absurd h7.1 (by decide)
     ·
      have:=h.2.2.2.2
      simp only [fitsF,Bool.and_eq_true,decide_eq_true_eq] at this
      exact ib_none this.2
    · exact hls x hx
  rename_i h7
  rw [if_neg h7] at hz
  split
  · exact .inr ⟨Classical.not_not.1 h1,hl s List.mem_cons_self,h3,h4,by show s.length≤12;omega,rfl⟩
  ·
   rename_i h8
   rw [if_neg h8] at hz
   exact resL_nm2 hR c fl n _ _ l hls hz
theorem resF_at {T:Tab} (hR:T.Rt) (c:Cr) (p:List UInt8) (fl:Bool) (hz:rE T c p fl=0):NmAt T (rD T c p fl,rS T c p fl,rN T c p fl):=by
 unfold rE rD rS rN at *
 unfold resF at hz ⊢
 split
 · rename_i h;rw [if_pos h] at hz;exact absurd hz h
 ·
  rename_i h
  rw [if_neg h] at hz
  refine resL_nm2 hR c fl 1000 1 0 _ (fun x hx=>splitL_ok (ib_none ?_) hx) hz
  have h0:=Classical.not_not.1 h
  unfold fitE at h0
  split at h0
  · cases h0
  ·
   split at h0
   · cases h0
   ·
    split at h0
    · cases h0
    · omega
theorem bl_trans:∀x y z:List UInt8,Op.bytesLess x y=true→Op.bytesLess y z=true→Op.bytesLess x z=true
 | x,[],z,h, _=>by cases x<;>cases h
 | _, _::_,[], _,h=>by cases h
 | [], _::_, _::_, _, _=>rfl
 | a::x,b::y,c::z,h1,h2=>by
  simp only [Op.bytesLess,Bool.or_eq_true,Bool.and_eq_true,decide_eq_true_eq,beq_iff_eq] at h1 h2 ⊢
  rcases h1 with h1 | ⟨rfl,h1⟩
  ·
   rcases h2 with h2 | ⟨rfl,h2⟩
   · exact .inl (UInt8.lt_trans h1 h2)
   · exact .inl h1
  ·
   rcases h2 with h2 | ⟨rfl,h2⟩
   · exact .inl h2
   · exact .inr ⟨rfl,bl_trans x y z h1 h2⟩
theorem bl_tri:∀x y:List UInt8,Op.bytesLess x y=false→x≠y→Op.bytesLess y x=true
 | [],[], _,h=>absurd rfl h
 | [], _::_,h, _=>by cases h
 | _::_,[], _, _=>rfl
 | a::x,b::y,h,hn=>by
  simp only [Op.bytesLess,Bool.or_eq_false_iff,decide_eq_false_iff_not] at h
  simp only [Op.bytesLess,Bool.or_eq_true,Bool.and_eq_true,decide_eq_true_eq,beq_iff_eq]
  by_cases e:a=b
  ·
   subst e
   refine .inr ⟨rfl,bl_tri x y ?_ fun e=>hn (by rw [e])⟩
   have:=h.2
   simpa using this
  ·
   left
   have h1:=h.1
   rw [UInt8.lt_iff_toNat_lt] at h1 ⊢
   have:a.toNat≠b.toNat:=fun h=>e (UInt8.toNat_inj.1 h)
   omega
abbrev RisP (l:List En):Prop:=l.Pairwise fun a b=>Op.bytesLess a.1 b.1=true
theorem rising_iff (l:List En):risingF l=true↔(∀e∈l,nameF e.1=true∧1≤e.2)∧RisP l∧l.length≤8:=by
 unfold risingF
 rw [Bool.and_eq_true,Bool.not_eq_true',decide_eq_true_eq,List.any_eq_false]
 have hg:∀i (hi:i<l.length),l.getD i ([],0)=l[i]:=fun i hi=>by rw [List.getD_eq_getElem?_getD,List.getElem?_eq_getElem hi];rfl
 constructor
 ·
  rintro ⟨h1,h2⟩
  have hb:∀i (hi:i<l.length),nameF l[i].1=true∧1≤l[i].2∧∀h0:0<i,Op.bytesLess (l[i - 1]'(by omega)).1 l[i].1=true:=fun i hi=>by
   have:=h1 i (List.mem_range.2 hi)
   unfold badE at this
   rw [hg i hi] at this
   simp only [Bool.not_eq_true,Bool.or_eq_false_iff,Bool.not_eq_false',decide_eq_false_iff_not] at this
   refine ⟨this.1.1,by omega,fun h0=>?_⟩
   have h3:=this.2
   rw [show ((i:Int) - 1).toNat=i - 1 by omega,hg (i - 1) (by omega),decide_eq_true (by omega),Bool.true_and,Bool.not_eq_false'] at h3
   exact h3
  refine ⟨fun e he=>?_,?_,by omega⟩
  ·
   obtain ⟨i,hi,rfl⟩:=List.mem_iff_getElem.1 he
   exact ⟨(hb i hi).1,(hb i hi).2.1⟩
  ·
   rw [RisP,List.pairwise_iff_getElem]
   intro i j hi hj hij
   induction j with
   | zero=>omega
   | succ j ih=>
    have hs:=(hb (j+1) hj).2.2 (by omega)
    simp only [Nat.add_sub_cancel] at hs
    by_cases e:i=j
    · subst e;exact hs
    · exact bl_trans _ _ _ (ih (by omega) (by omega)) hs
 ·
  rintro ⟨h1,h2,h3⟩
  refine ⟨fun i hi=>?_,by omega⟩
  have hi:=List.mem_range.1 hi
  obtain ⟨k1,k2⟩:=h1 _ (List.getElem_mem hi)
  unfold badE
  rw [hg i hi,k1,decide_eq_false (by omega)]
  by_cases h0:0<i
  · rw [show ((i:Int) - 1).toNat=i - 1 by omega,hg (i - 1) (by omega),(List.pairwise_iff_getElem.1 h2) (i - 1) i (by omega) hi (by omega)];simp
  · rw [decide_eq_false (by omega)];simp
theorem nm_name {s:List UInt8} (h:NmOk s) (h1:s≠[46]) (h2:s≠[46,46]) (h3:s.length≤12):nameF s=true:=by
 unfold nameF
 rw [decide_eq_false h.1,decide_eq_false h1,decide_eq_false h2,h.2,decide_eq_true (show ((s.length:Int)≤12) by omega)];rfl
theorem idx_none {s:List UInt8} {l:List En} (h:idxP (eqS s) l<0):∀e∈l,e.1≠s:=by
 intro e he
 obtain ⟨j,hj,rfl⟩:=List.mem_iff_getElem.1 he
 rcases idxP_spec (eqS s) ([],0) l with ⟨_,h2⟩ | ⟨k,h1, _⟩
 ·
  have:=h2 j hj
  rw [List.getD_eq_getElem?_getD,List.getElem?_eq_getElem hj] at this
  simpa [eqS] using this
 · omega
theorem spot_spec (l:List En) (s:List UInt8) (hn:∀e∈l,e.1≠s) (hr:RisP l):(∀e∈l.take (spot l s),Op.bytesLess e.1 s=true)∧∀e∈l.drop (spot l s),Op.bytesLess s e.1=true:=by
 have hlt:∀e∈l,gtS s e=false→Op.bytesLess e.1 s=true:=fun e he h=>by
  unfold gtS at h
  rw [Bool.not_eq_false',Bool.or_eq_true,decide_eq_true_eq] at h
  exact h.elim id fun h=>absurd h (hn e he)
 have hgt:∀e∈l,gtS s e=true→Op.bytesLess s e.1=true:=fun e he h=>by
  unfold gtS at h
  rw [Bool.not_eq_true',Bool.or_eq_false_iff,decide_eq_false_iff_not] at h
  exact bl_tri _ _ h.1 h.2
 rcases idxP_spec (gtS s) ([],0) l with ⟨h1,h2⟩ | ⟨k,h1,h2,h3⟩
 ·
  rw [spot_neg h1,List.take_length,List.drop_length]
  refine ⟨fun e he=>hlt e he ?_,fun e he=>nomatch he⟩
  obtain ⟨j,hj,rfl⟩:=List.mem_iff_getElem.1 he
  have:=h2 j hj
  rwa [List.getD_eq_getElem?_getD,List.getElem?_eq_getElem hj] at this
 ·
  have hs:spot l s=k:=by
   unfold spot;rw [if_neg (by omega),h1];rfl
  rw [hs]
  rw [List.getD_eq_getElem?_getD,List.getElem?_eq_getElem h2] at h3
  have hk:Op.bytesLess s l[k].1=true:=hgt _ (List.getElem_mem h2) h3
  constructor
  ·
   intro e he
   obtain ⟨j,hj,rfl⟩:=List.mem_iff_getElem.1 he
   rw [List.length_take] at hj
   rw [List.getElem_take]
   refine hlt _ (List.getElem_mem _) ?_
   have:=idxP_first (gtS s) ([],0) l h1 j (by omega)
   rwa [List.getD_eq_getElem?_getD,List.getElem?_eq_getElem (by omega)] at this
  ·
   intro e he
   obtain ⟨j,hj,rfl⟩:=List.mem_iff_getElem.1 he
   rw [List.length_drop] at hj
   rw [List.getElem_drop]
   cases j with
   | zero=>exact hk
   | succ j=>exact bl_trans _ _ _ hk ((List.pairwise_iff_getElem.1 hr) k (k+(j+1)) h2 (by omega) (by omega))
theorem ins_rising {l:List En} {s:List UInt8} {id:Int} (h:risingF l=true) (hs:nameF s=true) (hid:1≤id) (hn:∀e∈l,e.1≠s) (hl:l.length<8):risingF (insF l s id)=true:=by
 obtain ⟨h1,h2,h3⟩:=(rising_iff l).1 h
 obtain ⟨k1,k2⟩:=spot_spec l s hn h2
 refine (rising_iff _).2 ⟨fun e he=>?_,?_,?_⟩
 ·
  rcases mem_insF.1 he with rfl | he
  · exact ⟨hs,hid⟩
  · exact h1 e he
 ·
  unfold insF
  rw [RisP,List.pairwise_append]
  refine ⟨h2.sublist (List.take_sublist _ _),?_,fun a ha b hb=>?_⟩
  ·
   rw [List.singleton_append,List.pairwise_cons]
   exact ⟨fun e he=>k2 e he,h2.sublist (List.drop_sublist _ _)⟩
  ·
   rcases List.mem_cons.1 hb with rfl | hb
   · exact k1 a ha
   · exact bl_trans _ _ _ (k1 a ha) (k2 b hb)
 ·
  unfold insF
  have:=spot_le l s
  rw [List.length_append,List.length_append,List.length_take,List.length_drop,List.length_singleton];omega
theorem withN_right {n:Nd} {s:List UInt8} {id:Int} (h:rightF n=true) (hz:(withN n s id).2=0):rightF (withN n s id).1=true:=by
 have hw:=hz
 unfold withN at hw
 split at hw
 · cases hw
 rename_i hk
 cases hb:badN s id with
 | true=>rw [hb] at hw;cases hw
 | false=>
  rw [hb,cond_false] at hw
  split at hw
  · cases hw
  rename_i h12
  split at hw
  · cases hw
  rename_i hix
  split at hw
  · cases hw
  rename_i h8
  rw [withN_zero hz]
  have hk2:n.kind=2:=Classical.not_not.1 hk
  obtain ⟨hc,hh⟩:=right_cases h
  rcases hh with hh | hh | hh
  · omega
  ·
   simp only [badN,Bool.or_eq_false_iff,decide_eq_false_iff_not] at hb
   exact right_dir hk2 hc hh.2.1 hh.2.2.1 (ins_rising hh.2.2.2 (nm_name ⟨hb.1.1.1.2,hb.2⟩ hb.1.1.2 hb.1.2 (by omega)) (by omega) (idx_none (by omega)) (by omega))
  · omega
end Go.Proofs.YtmgnbgniikjhdaaGreat
namespace Go.Proofs.YtmgnbgniikjhdaaGreat
open Go.Ab
set_option maxRecDepth 8000
set_option maxHeartbeats 400000
theorem free_spec {T:Tab} (hT:T.Ok) {i:Nat} (h:T.free=some i):(i:Int)+1≤T.room∧T.at ((i:Int)+1)=none∧T.ns.getD i nd0=nd0:=by
 unfold Tab.free at h
 obtain ⟨h1,l1,l2,h2, _⟩:=List.find?_eq_some_iff_append.1 h
 have hmem:i∈List.range T.room.toNat:=by rw [h2];simp
 have hlt:=List.mem_range.1 hmem
 have ha:T.at ((i:Int)+1)=none:=by simpa using h1
 refine ⟨by omega,ha,?_⟩
 unfold Tab.at at ha
 split at ha
 · cases ha
 ·
  rename_i hc
  rw [show ((i:Int)+1 - 1).toNat=i by omega] at hc
  have hk:(T.ns.getD i nd0).kind=0:=Classical.not_not.1 fun hk=>hc ⟨by omega,by omega,hk⟩
  have hl:=hT.len
  have hr:=hT.hi
  have hi:i<T.ns.length:=by omega
  rw [List.getD_eq_getElem?_getD,List.getElem?_eq_getElem hi] at hk ⊢
  exact hT.zero _ (List.getElem_mem hi) hk
theorem addT_bad {T:Tab} {n:Nd} (h:(addT T n).1.2≠0):(addT T n).2=T:=by
 unfold addT at h ⊢
 split
 · rfl
 ·
  rename_i hr
  rw [if_neg hr] at h
  split
  · rename_i i hf;rw [hf] at h;exact absurd rfl h
  · rfl
theorem addT_good {T:Tab} {n:Nd} (h:(addT T n).1.2=0):rightF n=true∧∃i,T.free=some i∧addT T n=(((i:Int)+1,0),T.put i n):=by
 unfold addT at h ⊢
 split
 · rename_i hr;rw [if_pos hr] at h;cases h
 ·
  rename_i hr
  rw [if_neg hr] at h
  refine ⟨by simpa using hr,?_⟩
  split
  · rename_i i hf;exact ⟨i,hf,rfl⟩
  · rename_i hf;rw [hf] at h;cases h
theorem get_isat {T:Tab} {i:Int} (h:(T.get i).2=true):∃j,T.at i=some j∧(j:Int)+1=i∧i≤T.room:=by
 cases ha:T.at i with
 | none=>rw [get_no ha] at h;cases h
 | some j=>
  obtain ⟨h1,h2,h3⟩:=at_room ha
  exact ⟨j,rfl,by omega,h3⟩
theorem get_kind_at {T:Tab} {i:Int} (h:(T.get i).1.kind≠0):(T.get i).2=true:=by
 cases ha:T.at i with
 | none=>rw [get_no ha] at h;exact absurd rfl h
 | some j=>rw [get_at ha]
theorem putT_get {T:Tab} (hT:T.Ok) {i:Int} {n:Nd} (hn:NdOk n) (hr:rightF n=true) (h:(T.get i).2=true):(putT T i n).1=0∧∀k,(putT T i n).2.get k=if k=i then (n,true) else T.get k:=by
 obtain ⟨j,ha,hj,hro⟩:=get_isat h
 have e:putT T i n=(0,T.put j n):=by unfold putT;rw [ha];simp only [hr];rfl
 rw [e]
 refine ⟨rfl,fun k=>?_⟩
 rw [get_put hT hn (rightF_kind hr) (by omega),hj]
theorem put_back {T:Tab} (hT:T.Ok) {n:Nd} (hn:NdOk n) (hr:rightF n=true) {i:Nat} (h:T.free=some i):dropT (T.put i n) ((i:Int)+1)=T:=by
 obtain ⟨h1,h2,h3⟩:=free_spec hT h
 have hg:((T.put i n).get ((i:Int)+1)).2=true:=by rw [get_put hT hn (rightF_kind hr) h1,if_pos rfl]
 obtain ⟨j,ha,hj, _⟩:=get_isat hg
 have e:j=i:=by omega
 subst e
 unfold dropT
 rw [ha]
 show (⟨T.room,(T.ns.set j n).set j nd0⟩:Tab)=T
 rw [List.set_set]
 have:T.ns.set j nd0=T.ns:=by
  refine List.ext_getElem (by simp) fun k k1 k2=>?_
  rw [List.getElem_set]
  split
  ·
   rename_i e;subst e
   rw [List.getD_eq_getElem?_getD,List.getElem?_eq_getElem k2] at h3
   exact h3.symm
  · rfl
 rw [this]
theorem add_get {T:Tab} (hT:T.Ok) {n:Nd} (hn:NdOk n) (h:(addT T n).1.2=0):(T.get (addT T n).1.1).2=false∧∀k,(addT T n).2.get k=if k=(addT T n).1.1 then (n,true) else T.get k:=by
 obtain ⟨hr,i,hf,e⟩:=addT_good h
 obtain ⟨h1,h2, _⟩:=free_spec hT hf
 rw [e]
 exact ⟨by show (T.get ((i:Int)+1)).2=false;rw [get_no h2],fun k=>get_put hT hn (rightF_kind hr) h1 k⟩
theorem chgF_bad {T:Tab} {c:Cr} {p:List UInt8} {fl:Bool} {g:Nd→Nd×Int} (h:(chgF T c p fl g).1≠0):(chgF T c p fl g).2=T:=by
 unfold chgF at h ⊢
 split
 · rfl
 ·
  rename_i h1
  rw [if_neg h1] at h
  split
  · rfl
  ·
   rename_i h2
   rw [if_neg h2] at h
   split
   · rfl
   ·
    rename_i h3
    rw [if_neg h3] at h
    unfold putT at h ⊢
    split
    · rfl
    ·
     rename_i j hj
     simp only [hj] at h
     split
     · rfl
     · rename_i hr;rw [if_neg hr] at h;exact absurd rfl h
theorem plantF_bad {T:Tab} (hT:Gd T) {c:Cr} {p:List UInt8} {fl:Bool} {g:Nd→Nd} (hg:∀n,NdOk n→NdOk (g n)) (h:(plantF T c p fl g).1.2≠0):(plantF T c p fl g).2=T:=by
 have hno:NdOk (ownN c (T.get (rD T c p fl)).1 (g (T.get (rD T c p fl)).1)):=ownN_ok (hg _ (hT.nd _))
 have hnm:=resF_nm T c p fl
 unfold plantF at h ⊢
 split
 · rfl
 rename_i h1;rw [if_neg h1] at h
 split
 · rfl
 rename_i h2;rw [if_neg h2] at h
 split
 · rfl
 rename_i h3;rw [if_neg h3] at h
 split
 · rfl
 rename_i h4;rw [if_neg h4] at h
 split
 · rename_i h5;exact addT_bad h5
 rename_i h5;rw [if_neg h5] at h
 have h50:=Classical.not_not.1 h5
 split
 ·
  obtain ⟨hr,i,hf,e⟩:=addT_good h50
  rw [e]
  exact put_back hT.1 hno hr hf
 ·
  rename_i h6;rw [if_neg h6] at h
  exfalso
  have h60:=Classical.not_not.1 h6
  obtain ⟨hf,hga⟩:=add_get hT.1 hno h50
  have hd:(T.get (rD T c p fl)).1.kind≠0:=by
   intro h0
   unfold withN at h60
   rw [if_pos (by rw [h0];decide)] at h60
   cases h60
  have hdi:=get_kind_at hd
  refine h (putT_get (addT_ok hT.1 hno) (withN_ok (hT.nd _) (by omega)) (withN_right (hT.2.kind hd) h60) ?_).1
  rw [hga]
  split
  · rfl
  · exact hdi
def remL (l:List En) (s:List UInt8):List En:=if idxP (eqS s) l<0 then l else l.take (idxP (eqS s) l).toNat++l.drop ((idxP (eqS s) l).toNat+1)
theorem remL_sub (l:List En) (s:List UInt8):(remL l s).Sublist l:=by
 unfold remL
 split
 · exact List.Sublist.refl _
 ·
  have:=(List.Sublist.refl (l.take (idxP (eqS s) l).toNat)).append (List.drop_sublist_drop_left l (Nat.le_succ (idxP (eqS s) l).toNat))
  rwa [List.take_append_drop] at this
theorem remL_len {l:List En} {s:List UInt8} (h:0≤idxP (eqS s) l):(remL l s).length+1=l.length:=by
 have:=idxP_range (eqS s) l
 unfold remL
 rw [if_neg (by omega),List.length_append,List.length_take,List.length_drop];omega
theorem remL_ne {l:List En} {s:List UInt8} (hr:RisP l):∀e∈remL l s,e.1≠s:=by
 intro e he
 unfold remL at he
 split at he
 · rename_i h;exact idx_none h e he
 ·
  rename_i h
  have hrg:=idxP_range (eqS s) l
  rcases idxP_spec (eqS s) ([],0) l with ⟨h1, _⟩ | ⟨k,h1,h2,h3⟩
  · omega
  ·
   rw [h1,Int.toNat_natCast] at he
   rw [List.getD_eq_getElem?_getD,List.getElem?_eq_getElem h2] at h3
   have hks:l[k].1=s:=by simpa [eqS] using h3
   have hp:=List.pairwise_iff_getElem.1 hr
   intro hes
   rcases List.mem_append.1 he with he | he
   ·
    obtain ⟨j,hj,rfl⟩:=List.mem_iff_getElem.1 he
    rw [List.length_take] at hj
    rw [List.getElem_take] at hes
    have:=hp j k (by omega) h2 (by omega)
    rw [hes,hks] at this
    exact absurd (bl_asym _ _ this) (by rw [this];decide)
   ·
    obtain ⟨j,hj,rfl⟩:=List.mem_iff_getElem.1 he
    rw [List.length_drop] at hj
    rw [List.getElem_drop] at hes
    have:=hp k (k+1+j) h2 (by omega) (by omega)
    rw [hes,hks] at this
    exact absurd (bl_asym _ _ this) (by rw [this];decide)
theorem remL_mem {l:List En} {s:List UInt8} {e:En} (he:e∈l) (hn:e.1≠s):e∈remL l s:=by
 unfold remL
 split
 · exact he
 ·
  rcases idxP_spec (eqS s) ([],0) l with ⟨h1, _⟩ | ⟨k,h1,h2,h3⟩
  · omega
  ·
   rw [h1,Int.toNat_natCast]
   rw [List.getD_eq_getElem?_getD,List.getElem?_eq_getElem h2] at h3
   have hks:l[k].1=s:=by simpa [eqS] using h3
   rw [←List.take_append_drop k l,List.mem_append] at he
   rcases he with he | he
   · exact List.mem_append_left _ he
   ·
    rw [List.drop_eq_getElem_cons h2,List.mem_cons] at he
    rcases he with rfl | he
    · exact absurd hks hn
    · exact List.mem_append_right _ he
theorem risP_of {n:Nd} (h:rightF n=true):RisP n.ents∧n.ents.length≤8∧∀e∈n.ents,nameF e.1=true∧1≤e.2:=by
 obtain ⟨_,h | h | h⟩:=right_cases h
 · rw [h.2.1];exact ⟨List.Pairwise.nil,by simp,fun e he=>nomatch he⟩
 ·
  obtain ⟨h1,h2,h3⟩:=(rising_iff _).1 h.2.2.2
  exact ⟨h2,h3,h1⟩
 · rw [h.2.2.1];exact ⟨List.Pairwise.nil,by simp,fun e he=>nomatch he⟩
theorem rem_right {n:Nd} (h:rightF n=true) (hk:n.kind=2) (s:List UInt8):rightF (nWith n (remL n.ents s))=true:=by
 obtain ⟨hc,hh⟩:=right_cases h
 obtain ⟨h1,h2,h3⟩:=risP_of h
 rcases hh with hh | hh | hh
 · omega
 ·
  refine right_dir hk hc hh.2.1 hh.2.2.1 ((rising_iff _).2 ⟨fun e he=>h3 e ((remL_sub _ _).subset he),h1.sublist (remL_sub _ _),?_⟩)
  exact Nat.le_trans (remL_sub _ _).length_le h2
 · omega
theorem nWith_self (n:Nd):nWith n n.ents=n:=rfl
theorem cut_get {T:Tab} (hT:Gd T) (d:Int) (s:List UInt8) (k:Int):(cutF T d s).get k=if k=d∧(T.get d).1.kind=2 then (nWith (T.get d).1 (remL (T.get d).1.ents s),true) else T.get k:=by
 unfold cutF
 by_cases hk:(T.get d).1.kind=2
 ·
  have hdi:=get_kind_at (T:=T) (i:=d) (by omega)
  by_cases hi:idxP (eqS s) (T.get d).1.ents<0
  ·
   have e:withoutN (T.get d).1 s=(nd0,2):=by unfold withoutN;rw [if_neg (fun h=>h hk),if_pos hi]
   rw [e,if_neg (by decide)]
   split
   ·
    rename_i h
    rw [h.1]
    have e2:remL (T.get d).1.ents s=(T.get d).1.ents:=by unfold remL;rw [if_pos hi]
    rw [e2,nWith_self,←hdi]
   · rfl
  ·
   have e:withoutN (T.get d).1 s=(nWith (T.get d).1 (remL (T.get d).1.ents s),0):=by unfold withoutN remL;rw [if_neg (fun h=>h hk),if_neg hi,if_neg hi]
   have hno:NdOk (nWith (T.get d).1 (remL (T.get d).1.ents s)):=by
    have:=withoutN_ok (s:=s) (hT.nd d)
    rw [e] at this;exact this
   rw [e,if_pos rfl,(putT_get hT.1 hno (rem_right (hT.2.kind (by omega)) hk s) hdi).2]
   by_cases hkd:k=d
   · rw [if_pos hkd,if_pos ⟨hkd,hk⟩]
   · rw [if_neg hkd,if_neg (fun h=>hkd h.1)]
 ·
  have e:withoutN (T.get d).1 s=(nd0,20):=by unfold withoutN;rw [if_pos hk]
  rw [e,if_neg (by decide),if_neg (fun h=>hk h.2)]
theorem findF_pos {n:Nd} (h:rightF n=true) {s:List UInt8}:(findF n s=0∧idxP (eqS s) n.ents<0)∨(1≤findF n s∧0≤idxP (eqS s) n.ents∧(s,findF n s)∈n.ents):=by
 unfold findF
 rcases idxP_spec (eqS s) ([],0) n.ents with ⟨h1, _⟩ | ⟨k,h1,h2,h3⟩
 · left;rw [if_neg (by omega)];exact ⟨rfl,h1⟩
 ·
  right
  rw [if_pos (by omega),h1,Int.toNat_natCast]
  rw [List.getD_eq_getElem?_getD,List.getElem?_eq_getElem h2] at h3 ⊢
  have hks:n.ents[k].1=s:=by simpa [eqS] using h3
  refine ⟨((risP_of h).2.2 _ (List.getElem_mem h2)).2,by omega,?_⟩
  rw [←hks];exact List.getElem_mem h2
theorem findE_zero {T:Tab} {c:Cr} {p:List UInt8} (h:findE T c p=0):rE T c p false=0∧rN T c p false≠0∧rS T c p false≠[]∧canT c T (rD T c p false) 2=true:=by
 unfold findE at h
 split at h
 · rename_i h1;exact absurd h h1
 rename_i h1
 split at h
 · cases h
 rename_i h2
 split at h
 · cases h
 rename_i h3
 split at h
 · cases h
 rename_i h4
 exact ⟨Classical.not_not.1 h1,h2,h3,by simpa using h4⟩
theorem renL_good {T:Tab} (hT:Gd T) {c:Cr} {p q:List UInt8} (o:List Int) (hp:findE T c p=0) (hq:rE T c q false=0) (hs:rS T c q false≠[]) {U:Tab} (hU:(rN T c q false≠0∧U=cutF T (rD T c q false) (rS T c q false))∨(rN T c q false=0∧U=T∧(rD T c q false=rD T c p false∨(T.get (rD T c q false)).1.ents.length<8))) :
 (withN ((cutF U (rD T c p false) (rS T c p false)).get (rD T c q false)).1 (rS T c q false) (rN T c p false)).2=0∧(putT (cutF U (rD T c p false) (rS T c p false)) (rD T c q false) (withN ((cutF U (rD T c p false) (rS T c p false)).get (rD T c q false)).1 (rS T c q false) (rN T c p false)).1).1=0:=by
 obtain ⟨p1,p2,p3,p4⟩:=findE_zero hp
 have hpa:=resF_at hT.2 c p false p1
 have hqa:=resF_at hT.2 c q false hq
 have hnm:=resF_nm T c q false
 generalize rD T c p false=dp at *
 generalize rS T c p false=sp at *
 generalize rN T c p false=np at *
 generalize rD T c q false=dq at *
 generalize rS T c q false=sq at *
 generalize rN T c q false=nq at *
 rcases hpa with hpa | ⟨pk,pn, -, -, -,pf⟩
 · exact absurd hpa.1 p3
 rcases hqa with hqa | ⟨qk,qn,q1,q2,q3,qf⟩
 · exact absurd hqa.1 hs
 dsimp only at pk pn pf qk qn q1 q2 q3 qf
 have hUg:Gd U:=by
  rcases hU with ⟨_,rfl⟩ | ⟨_,rfl, _⟩
  · exact hT.cut _ _
  · exact hT
 have hCg:Gd (cutF U dp sp):=hUg.cut _ _
 have hpr:=hT.2.kind (i:=dp) (by omega)
 have hqr:=hT.2.kind (i:=dq) (by omega)
 have key:((cutF U dp sp).get dq).1.kind=2∧(∀e∈((cutF U dp sp).get dq).1.ents,e.1≠sq)∧((cutF U dp sp).get dq).1.ents.length<8:=by
  have hU2:(U.get dq).1.kind=2∧(∀e∈(U.get dq).1.ents,e.1≠sq)∧((U.get dq).1.ents.length<8∨(dq=dp∧0≤idxP (eqS sp) (U.get dq).1.ents∧(U.get dq).1.ents.length≤8)):=by
   rcases hU with ⟨hn,rfl⟩ | ⟨hn,rfl,hd⟩
   ·
    rw [cut_get hT,if_pos ⟨rfl,qk⟩]
    refine ⟨qk,remL_ne (risP_of hqr).1,.inl ?_⟩
    rcases findF_pos hqr (s:=sq) with ⟨f1, _⟩ | ⟨f1,f2,f3⟩
    · omega
    ·
     have:=remL_len f2
     have:=(risP_of hqr).2.1
     show (remL _ _).length<8;omega
   ·
    rcases findF_pos hqr (s:=sq) with ⟨f1,f2⟩ | ⟨f1,f2,f3⟩
    ·
     refine ⟨qk,idx_none f2,?_⟩
     rcases hd with hd | hd
     ·
      subst hd
      rcases findF_pos hpr (s:=sp) with ⟨g1, _⟩ | ⟨g1,g2,g3⟩
      · omega
      · exact .inr ⟨rfl,g2,(risP_of hqr).2.1⟩
     · exact .inl hd
    · omega
  obtain ⟨u1,u2,u3⟩:=hU2
  rw [cut_get hUg]
  split
  ·
   rename_i h
   obtain ⟨h1,h2⟩:=h
   subst h1
   refine ⟨u1,fun e he=>u2 e ((remL_sub _ _).subset he),?_⟩
   show (remL _ _).length<8
   rcases u3 with u3 | ⟨_,u4,u5⟩
   · exact Nat.lt_of_le_of_lt (remL_sub _ _).length_le u3
   · have:=remL_len u4;omega
  ·
   rename_i h
   refine ⟨u1,u2,u3.elim id fun u3=>?_⟩
   exact absurd ⟨u3.1,by rw [←u3.1];exact u1⟩ h
 obtain ⟨k1,k2,k3⟩:=key
 have hnp:1≤np:=by
  rcases findF_pos hpr (s:=sp) with ⟨g1, _⟩ | ⟨g1,g2,g3⟩
  · omega
  · omega
 have hw:(withN ((cutF U dp sp).get dq).1 sq np).2=0:=by
  unfold withN
  have hb:badN sq np=false:=by
   unfold badN
   rw [decide_eq_false (by omega),decide_eq_false qn.1,decide_eq_false q1,decide_eq_false q2,qn.2];rfl
  have hx:¬0≤idxP (eqS sq) ((cutF U dp sp).get dq).1.ents:=by
   rcases idxP_spec (eqS sq) ([],0) ((cutF U dp sp).get dq).1.ents with ⟨h1, _⟩ | ⟨k,h1,h2,h3⟩
   · omega
   ·
    rw [List.getD_eq_getElem?_getD,List.getElem?_eq_getElem h2] at h3
    exact absurd (by simpa [eqS] using h3) (k2 _ (List.getElem_mem h2))
  rw [if_neg (fun h=>h k1),hb,cond_false,if_neg (by omega),if_neg hx,if_neg (by omega)]
 refine ⟨hw,(putT_get hCg.1 (withN_ok (hCg.nd _) (by omega)) (withN_right (hCg.2.kind (by omega)) hw) (get_kind_at (by omega))).1⟩
theorem renameF_bad {T:Tab} (hT:Gd T) {c:Cr} {p q:List UInt8} {o:List Int} (h:(renameF T c p q o).1≠0):(renameF T c p q o).2=T:=by
 unfold renameF at h ⊢
 split
 · rfl
 rename_i h1;rw [if_neg h1] at h
 split
 · rfl
 rename_i h2;rw [if_neg h2] at h
 split
 · rfl
 rename_i h3;rw [if_neg h3] at h
 split
 · rfl
 rename_i h4;rw [if_neg h4] at h
 split
 · rfl
 rename_i h5;rw [if_neg h5] at h
 split
 · rfl
 rename_i h6;rw [if_neg h6] at h
 split
 · rfl
 rename_i h7;rw [if_neg h7] at h
 split
 ·
  rename_i h8
  rw [if_pos h8] at h
  split
  · rfl
  ·
   rename_i h9
   rw [if_neg h9] at h
   obtain ⟨g1,g2⟩:=renL_good hT o (Classical.not_not.1 h1) (Classical.not_not.1 h2) h3 (.inl ⟨h8,rfl⟩)
   unfold renL at h
   rw [if_pos g1] at h
   exact absurd g2 h
 ·
  rename_i h8
  rw [if_neg h8] at h
  have h80:=Classical.not_not.1 h8
  obtain ⟨g1,g2⟩:=renL_good hT o (Classical.not_not.1 h1) (Classical.not_not.1 h2) h3 (.inr ⟨h80,rfl,by
   by_cases e:rD T c q false=rD T c p false
   · exact .inl e
   ·
    exact .inr (by
     by_cases e8:(8:Int)≤(T.get (rD T c q false)).1.ents.length
     · exact absurd ⟨h80,e,e8⟩ h7
     · omega)⟩)
  unfold renL at h
  rw [if_pos g1] at h
  exact absurd g2 h
theorem chaF_bad {T:Tab} (hT:Gd T) {P:Pr} {ca:Ca} {o:List Int} (h:(chaF T P ca o).1≠0):(chaF T P ca o).2=T:=by
 have hp:∀(c:Cr) (p:List UInt8) (fl:Bool) (g:Nd→Nd),(∀n,NdOk n→NdOk (g n))→(plantF T c p fl g).1.2≠0→(plantF T c p fl g).2=T:=fun c p fl g hg h=>plantF_bad hT hg h
 unfold chaF at h ⊢
 split
 ·
  rename_i h1;rw [if_pos h1] at h
  unfold chmodF at h ⊢
  split
  · rfl
  · rename_i h2;rw [if_neg h2] at h;exact chgF_bad h
 rename_i h1;rw [if_neg h1] at h
 split
 ·
  rename_i h2;rw [if_pos h2] at h
  exact hp _ _ _ _ (fun n hn=>⟨Nat.zero_le _,Nat.zero_le _,Nat.zero_le _,fun e he=>nomatch he⟩) h
 rename_i h2;rw [if_neg h2] at h
 split
 ·
  rename_i h3;rw [if_pos h3] at h
  unfold symlinkF at h ⊢
  split
  · rfl
  rename_i k1;rw [if_neg k1] at h
  split
  · rfl
  rename_i k2;rw [if_neg k2] at h
  split
  · rfl
  rename_i k3;rw [if_neg k3] at h
  exact hp _ _ _ _ (fun n hn=>⟨Nat.zero_le _,Nat.zero_le _,(by show ca.other.length≤1000;omega),fun e he=>nomatch he⟩) h
 rename_i h3;rw [if_neg h3] at h
 split
 ·
  rename_i h4;rw [if_pos h4] at h
  unfold unlinkF at h ⊢
  split
  · rfl
  rename_i k1;rw [if_neg k1] at h
  split
  · rfl
  rename_i k2;rw [if_neg k2] at h
  exact absurd rfl h
 rename_i h4;rw [if_neg h4] at h
 split
 ·
  rename_i h5;rw [if_pos h5] at h
  unfold rmdirF at h ⊢
  split
  · rfl
  rename_i k1;rw [if_neg k1] at h
  split
  · rfl
  rename_i k2;rw [if_neg k2] at h
  split
  · rfl
  rename_i k3;rw [if_neg k3] at h
  exact absurd rfl h
 rename_i h5;rw [if_neg h5] at h
 split
 · rename_i h6;rw [if_pos h6] at h;exact renameF_bad hT h
 rename_i h6;rw [if_neg h6] at h
 unfold chownF at h ⊢
 split
 · rfl
 · rename_i h7;rw [if_neg h7] at h;exact chgF_bad h
theorem openF_bad {T:Tab} (hT:Gd T) {c:Cr} {um:Int} {p:List UInt8} {f m:Int} (h:(openF T c um p f m).1.2≠0):(openF T c um p f m).2=T:=by
 unfold openF at h ⊢
 split
 · rfl
 rename_i h1;rw [if_neg h1] at h
 split
 · rfl
 rename_i h2;rw [if_neg h2] at h
 split
 ·
  rename_i h3;rw [if_pos h3] at h
  split
  · rfl
  ·
   rename_i h4;rw [if_neg h4] at h
   exact plantF_bad hT (fun n hn=>⟨Nat.zero_le _,Nat.zero_le _,Nat.zero_le _,fun e he=>nomatch he⟩) h
 rename_i h3;rw [if_neg h3] at h
 split
 · rfl
 rename_i h4;rw [if_neg h4] at h
 split
 · rfl
 rename_i h5;rw [if_neg h5] at h
 split
 · rfl
 rename_i h6;rw [if_neg h6] at h
 generalize bits .or .i64 (if hasF f 1=true then 4 else 0) (if hasF f 2=true then 2 else 0)=w at h ⊢
 split
 · rfl
 rename_i h7;rw [if_neg h7] at h
 split
 · rename_i h8;rw [if_pos h8] at h;exact absurd rfl h
 · rfl
theorem writeAtF_bad {T:Tab} {c:Cr} {i off:Int} {b:List UInt8} (h:(writeAtF T c i off b).1≠0):(writeAtF T c i off b).2=T:=by
 unfold writeAtF at h ⊢
 split
 · rfl
 rename_i h1;rw [if_neg h1] at h
 split
 · rfl
 rename_i h2;rw [if_neg h2] at h
 split
 · rfl
 rename_i h3;rw [if_neg h3] at h
 split
 · rfl
 rename_i h4;rw [if_neg h4] at h
 exact absurd rfl h
theorem put_node (P:Pr) (i j:Nat) (f:Fde) (h:f.node=(P.fd i).node) (hi:i<3):((P.put i f).fd j).node=(P.fd j).node:=by
 rcases (show i=0∨i=1∨i=2 by omega) with rfl | rfl | rfl<;>match j with
 | 0=>first | exact h | rfl
 | 1=>first | exact h | rfl
 | j+2=>first | exact h | rfl
theorem prO_same {P Q:Pr} (h:∀j,(P.fd j).node=(Q.fd j).node) (n:Nat):prO P n=prO Q n:=by
 unfold prO;simp only [h]
theorem openL_set {ps:List Pr} {pid:Nat} (hp:pid<ps.length) {Q:Pr} (h:∀j,(Q.fd j).node=(ps[pid].fd j).node):openL (ps.set pid Q)=openL ps:=by
 unfold openL
 rw [List.flatMap_def,List.flatMap_def,List.map_set,prO_same h 3]
 congr 1
 refine List.ext_getElem (by simp) fun k k1 k2=>?_
 rw [List.getElem_set]
 split
 · rename_i e;subst e;rw [List.getElem_map]
 · rfl
theorem doF_bad {T:Tab} (hT:Gd T) (ps:List Pr) (pid:Int) (ca:Ca) (h:(doF T ps pid ca).1.err≠0∨ca.kind≤4):(doF T ps pid ca).2.1=T∧openL (doF T ps pid ca).2.2=openL ps∧umQ (doF T ps pid ca).2.2 pid=umQ ps pid:=by
 unfold doF at h ⊢
 by_cases hp:0≤pid∧pid<ps.length
 ·
  rw [if_pos hp] at h ⊢
  obtain ⟨n,rfl⟩:∃n:Nat,pid=(n:Int):=⟨pid.toNat,by omega⟩
  have hn:n<ps.length:=by omega
  rw [Int.toNat_natCast] at h ⊢
  have hgd:ps.getD n pr0=ps[n]:=by rw [List.getD_eq_getElem?_getD,List.getElem?_eq_getElem hn];rfl
  rw [hgd] at h ⊢
  have key:(stepF T ps n ps[n] ca).2.1=T∧(∀j,((stepF T ps n ps[n] ca).2.2.fd j).node=(ps[n].fd j).node)∧(stepF T ps n ps[n] ca).2.2.um=ps[n].um:=by
   generalize ps[n]=P at h ⊢
   dsimp only at h
   unfold stepF at h ⊢
   split
   ·
    rename_i h1;rw [if_pos h1] at h
    have h0:(opnF T P ca).1.err≠0:=h.elim id fun h=>by omega
    have ha:∀i,(opnAt T P ca i).1.err≠0→(opnAt T P ca i).2=(T,P):=fun i hi=>by
     unfold opnAt at hi ⊢
     split
     · rename_i ho;rw [openF_bad hT ho]
     · rename_i ho;rw [if_neg ho] at hi;exact absurd rfl hi
    have:(opnF T P ca).2=(T,P):=by
     unfold opnF at h0 ⊢
     split
     · rename_i k;rw [if_pos k] at h0;exact ha _ h0
     rename_i k;rw [if_neg k] at h0
     split
     · rename_i k;rw [if_pos k] at h0;exact ha _ h0
     rename_i k;rw [if_neg k] at h0
     split
     · rename_i k;rw [if_pos k] at h0;exact ha _ h0
     · rfl
    rw [this];exact ⟨rfl,fun _=>rfl,rfl⟩
   rename_i h1;rw [if_neg h1] at h
   split
   ·
    refine ⟨rfl,fun j=>?_,?_⟩
    ·
     show ((redF T P ca).2.fd j).node=_
     unfold redF
     split
     · rfl
     · exact put_node P _ j _ rfl (by omega)
    ·
     show (redF T P ca).2.um=_
     unfold redF
     split
     · rfl
     · show (Pr.put _ _ _).um=_;unfold Pr.put;split<;>rfl
   rename_i h2;rw [if_neg h2] at h
   split
   ·
    rename_i h3;rw [if_pos h3] at h
    have h0:(wriF T P ca).1.err≠0:=h.elim id fun h=>by omega
    have:(wriF T P ca).2=(T,P):=by
     unfold wriF at h0 ⊢
     split
     · rfl
     rename_i k;rw [if_neg k] at h0
     split
     · rename_i k;rw [writeAtF_bad k]
     · rename_i k;rw [if_neg k] at h0;exact absurd rfl h0
    rw [this];exact ⟨rfl,fun _=>rfl,rfl⟩
   rename_i h3;rw [if_neg h3] at h
   split
   ·
    rename_i h4;rw [if_pos h4] at h
    have h0:(shutF T ps n P ca.a).1.err≠0:=h.elim id fun h=>by omega
    have:(shutF T ps n P ca.a).2=(T,P):=by
     unfold shutF at h0 ⊢
     split
     · rfl
     · rename_i k;rw [if_neg k] at h0;exact absurd rfl h0
    rw [this];exact ⟨rfl,fun _=>rfl,rfl⟩
   rename_i h4;rw [if_neg h4] at h
   split
   ·
    rename_i h5;rw [if_pos h5] at h
    exact h.elim (fun h=>absurd rfl h) fun h=>by omega
   rename_i h5;rw [if_neg h5] at h
   split
   ·
    rename_i h6;rw [if_pos h6] at h
    exact h.elim (fun h=>absurd rfl h) fun h=>by omega
   rename_i h6;rw [if_neg h6] at h
   split
   · exact ⟨rfl,fun _=>rfl,rfl⟩
   rename_i h7;rw [if_neg h7] at h
   split
   ·
    rename_i h8;rw [if_pos h8] at h
    have h0:(chaF T P ca (openL ps)).1≠0:=h.elim id fun h=>by omega
    exact ⟨chaF_bad hT h0,fun _=>rfl,rfl⟩
   · exact ⟨rfl,fun _=>rfl,rfl⟩
  obtain ⟨k1,k2,k3⟩:=key
  refine ⟨k1,openL_set hn k2,?_⟩
  unfold umQ
  rw [List.length_set,if_pos hp,if_pos hp,Int.toNat_natCast,hgd,List.getD_eq_getElem?_getD,List.getElem?_set_self hn]
  exact k3
 · rw [if_neg hp];exact ⟨rfl,rfl,rfl⟩
theorem sameF_refl (a:Nd):sameF a a=true:=by unfold sameF;simp
theorem sameT_refl (T:Tab):sameT T T=true:=by unfold sameT;exact List.all_eq_true.2 fun j _=>sameF_refl _
theorem drop_get {T:Tab} (hT:T.Ok) (j k:Int):(dropT T j).get k=if k=j then (nd0,false) else T.get k:=by
 cases ha:T.at j with
 | none=>
  have e:dropT T j=T:=by unfold dropT;rw [ha]
  rw [e]
  split
  · rename_i e;rw [e,get_no ha]
  · rfl
 | some a=>
  obtain ⟨h1,h2,h3⟩:=at_room ha
  have hl:=hT.len
  have hr:=hT.hi
  have hd:(dropT T j).Ok:=dropT_ok hT j
  rw [get_eq hd,get_eq hT]
  unfold dropT;rw [ha]
  show (if 1≤k∧k≤T.room then ((T.ns.set a nd0).getD (k - 1).toNat nd0,!decide (((T.ns.set a nd0).getD (k - 1).toNat nd0).kind=0)) else (nd0,false))=_
  by_cases hk:k=j
  ·
   rw [if_pos hk,hk,h1]
   rw [List.getD_eq_getElem?_getD,List.getElem?_set_self (by omega)]
   split<;>rfl
  ·
   rw [if_neg hk]
   by_cases hc:1≤k∧k≤T.room
   · rw [if_pos hc,if_pos hc,List.getD_eq_getElem?_getD,List.getElem?_set_ne (by omega),List.getD_eq_getElem?_getD]
   · rw [if_neg hc,if_neg hc]
theorem wrapS {a:Int} (h0:0≤a) (h1:a≤1000000):IntKind.i64.wrap a=a:=by
 unfold IntKind.wrap;simp [IntKind.bits,IntKind.signed];omega
end Go.Proofs.YtmgnbgniikjhdaaGreat
