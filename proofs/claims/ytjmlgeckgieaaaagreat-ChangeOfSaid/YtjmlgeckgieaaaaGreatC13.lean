import Derived.Test.YtjmlgeckgieaaaaGreatC12
import Derived.Test.YtjmlgeckgieaaaaGreatC7
/-
  CHANGES: the document's change is the program's.
-/
set_option linter.unusedVariables false
set_option linter.unusedSimpArgs false
namespace Go.Proofs.YtjmlgeckgieaaaaGreat
open Go.Ab
set_option maxRecDepth 8000
set_option maxHeartbeats 400000
theorem only_own {l:List Int} {k:Int} (hk:1≤k):onlyF l k=(decide ((l.length:Int)=0)||(ownK l []&&decide (l.getD 0 0=k))):=by
 unfold onlyF ownK
 rw [decide_eq_true (show 0<k by omega)];simp
theorem only_zero (l:List Int):onlyF l 0=decide ((l.length:Int)=0):=by
 unfold onlyF;simp
theorem stepM_cases {w l:Ey} {m m':Ch} (h:stepM w m l=some m'):(m.dir=0∧l.2.2=w.2.2∧m'=⟨m.kind,m.node,l.1,l.2.1,m.to,m.other,m.over⟩)∨(¬(l.2.2=w.2.2∧m.dir=0)∧l.1=w.1∧l.2.1=w.2.1∧m.over=0∧m'=⟨m.kind,m.node,m.dir,m.name,m.to,m.other,l.2.2⟩):=by
 unfold stepM at h
 cases h1:(decide (l.2.2=w.2.2)&&decide (m.dir=0)) with
 | true=>
  rw [h1,cond_true] at h
  simp only [Bool.and_eq_true,decide_eq_true_eq] at h1
  exact .inl ⟨h1.2,h1.1,(Option.some.inj h).symm⟩
 | false=>
  rw [h1,cond_false] at h
  have h1':¬(l.2.2=w.2.2∧m.dir=0):=fun k=>by rw [decide_eq_true k.1,decide_eq_true k.2] at h1;cases h1
  cases h2:(decide (l.1=w.1)&&decide (l.2.1=w.2.1)&&decide (m.over=0)) with
  | true=>
   rw [h2,cond_true] at h
   simp only [Bool.and_eq_true,decide_eq_true_eq] at h2
   exact .inr ⟨h1',h2.1.1,h2.1.2,h2.2,(Option.some.inj h).symm⟩
  | false=>rw [h2] at h;cases h
theorem stepM_a {w l:Ey} {m:Ch} (h1:l.2.2=w.2.2) (h2:m.dir=0):stepM w m l=some ⟨m.kind,m.node,l.1,l.2.1,m.to,m.other,m.over⟩:=by
 unfold stepM;rw [decide_eq_true h1,decide_eq_true h2];rfl
theorem stepM_b {w l:Ey} {m:Ch} (h1:¬(l.2.2=w.2.2∧m.dir=0)) (h2:l.1=w.1) (h3:l.2.1=w.2.1) (h4:m.over=0):stepM w m l=some ⟨m.kind,m.node,m.dir,m.name,m.to,m.other,l.2.2⟩:=by
 unfold stepM
 have:(decide (l.2.2=w.2.2)&&decide (m.dir=0))=false:=by
  rw [Bool.eq_false_iff];simp only [ne_eq,Bool.and_eq_true,decide_eq_true_eq];exact h1
 rw [this,decide_eq_true h2,decide_eq_true h3,decide_eq_true h4];rfl
theorem stepM_n {w l:Ey} {m:Ch} (h1:¬(l.2.2=w.2.2∧m.dir=0)) (h2:¬(l.1=w.1∧l.2.1=w.2.1∧m.over=0)):stepM w m l=none:=by
 unfold stepM
 have e1:(decide (l.2.2=w.2.2)&&decide (m.dir=0))=false:=by
  rw [Bool.eq_false_iff];simp only [ne_eq,Bool.and_eq_true,decide_eq_true_eq];exact h1
 have e2:(decide (l.1=w.1)&&decide (l.2.1=w.2.1)&&decide (m.over=0))=false:=by
  rw [Bool.eq_false_iff];simp only [ne_eq,Bool.and_eq_true,decide_eq_true_eq];exact fun k=>h2 ⟨k.1.1,k.1.2,k.2⟩
 rw [e1,e2];rfl
def mvOut (D:Df):Option Ch→Ch
 | none=>chK 7
 | some m=>bif decide (m.dir=0)||(decide (0<((D.b 1).length:Int))&&(decide (m.over=0)||!ownK (D.b 1) []||!decide ((D.b 1).getD 0 0=m.over))) then chK 7 else m
theorem moved_of {D:Df} {w:Ey} (hw:D.won=[w]) {o:Option Ch} (h:loopM w D.lost (m0 w)=o):movedF D=mvOut D o:=by
 subst h
 unfold movedF
 rw [hw]
 simp only [List.getD_cons_zero]
 cases loopM w D.lost (m0 w)<;>rfl
def rTail (D:Df):Ch:=
 bif decide ((D.lost.length:Int)=0)||decide ((2:Int)<D.lost.length) then chK 7
 else bif decide ((D.lost.length:Int)=1) then rMove D (D.lost.getD 0 ey0) (0,[],0)
 else bif decide ((rMove D (D.lost.getD 0 ey0) (D.lost.getD 1 ey0)).kind=5) then rMove D (D.lost.getD 0 ey0) (D.lost.getD 1 ey0) else rMove D (D.lost.getD 1 ey0) (D.lost.getD 0 ey0)
theorem rMove_w {D:Df} {w:Ey} (hw:D.won=[w]) (a b:Ey):rMove D a b=bif (!decide (a.2.2=w.2.2)||(decide (0<b.2.2)&&(!decide (b.1=w.1)||!decide (b.2.1=w.2.1)||decide (b.2.2=w.2.2)))||!onlyF (D.b 1) b.2.2) then chK 7 else ⟨5,w.2.2,a.1,a.2.1,w.1,w.2.1,b.2.2⟩:=by
 unfold rMove rwB;rw [hw];rfl
theorem two_ref {D:Df} {w a b:Ey} (hw:D.won=[w]) (hL:D.lost=[a,b]) (ha:1≤a.1∧1≤a.2.2) (hb:1≤b.1∧1≤b.2.2) (hwa:a≠w) (hwb:b≠w):movedF D=bif decide ((rMove D a b).kind=5) then rMove D a b else rMove D b a:=by
 have e0:decide (0<b.2.2)=true:=decide_eq_true (by omega)
 have e1:decide (0<a.2.2)=true:=decide_eq_true (by omega)
 have bad:∀x y:Ey,x.2.2≠w.2.2→rMove D x y=chK 7:=fun x y h=>by rw [rMove_w hw,decide_eq_false h];rfl
 have off:∀x y:Ey,1≤y.2.2→¬(y.1=w.1∧y.2.1=w.2.1)→rMove D x y=chK 7:=fun x y hy h=>by
  rw [rMove_w hw,decide_eq_true (show 0<y.2.2 by omega)]
  by_cases k1:y.1=w.1
  · rw [decide_eq_false (show ¬y.2.1=w.2.1 from fun k2=>h ⟨k1,k2⟩)];simp
  · rw [decide_eq_false k1];simp
 have at2:∀x y:Ey,x.2.2=w.2.2→y.1=w.1→y.2.1=w.2.1→y.2.2≠w.2.2→rMove D x y=bif !onlyF (D.b 1) y.2.2 then chK 7 else ⟨5,w.2.2,x.1,x.2.1,w.1,w.2.1,y.2.2⟩:=fun x y h1 h2 h3 h4=>by
  rw [rMove_w hw,decide_eq_true h1,decide_eq_true h2,decide_eq_true h3,decide_eq_false h4];simp
 have k7:∀ {x:Ch},x=chK 7→decide (x.kind=5)=false:=fun h=>by rw [h];rfl
 have out:∀x y:Ey,1≤x.1→1≤y.2.2→(bif decide (x.1=0)||(decide (0<((D.b 1).length:Int))&&(decide (y.2.2=0)||!ownK (D.b 1) []||!decide ((D.b 1).getD 0 0=y.2.2))) then chK 7 else (⟨5,w.2.2,x.1,x.2.1,w.1,w.2.1,y.2.2⟩:Ch))=bif !onlyF (D.b 1) y.2.2 then chK 7 else ⟨5,w.2.2,x.1,x.2.1,w.1,w.2.1,y.2.2⟩:=fun x y hx hy=>by
  rw [only_own hy,decide_eq_false (show ¬x.1=0 by omega),decide_eq_false (show ¬y.2.2=0 by omega)]
  by_cases h0:((D.b 1).length:Int)=0
  · rw [decide_eq_true h0,decide_eq_false (by omega)];rfl
  ·
   rw [decide_eq_false h0,decide_eq_true (show 0<((D.b 1).length:Int) by omega)]
   cases ownK (D.b 1) []<;>cases decide ((D.b 1).getD 0 0=y.2.2)<;>rfl
 have flip:∀x:Ch,(x=chK 7∨x.kind=5)→(bif decide (x.kind=5) then x else chK 7)=x:=fun x h=>by
  rcases h with h | h
  · rw [h];rfl
  · rw [decide_eq_true h];rfl
 by_cases h1:a.2.2=w.2.2
 ·
  have s1:=stepM_a (w:=w) (l:=a) (m:=m0 w) h1 rfl
  by_cases h2:b.1=w.1∧b.2.1=w.2.1
  ·
   have h3:b.2.2≠w.2.2:=fun e=>hwb (Prod.ext h2.1 (Prod.ext h2.2 e))
   have s2:=stepM_b (w:=w) (l:=b) (m:=⟨5,w.2.2,a.1,a.2.1,w.1,w.2.1,0⟩) (fun k=>h3 k.1) h2.1 h2.2 rfl
   have hl:loopM w D.lost (m0 w)=some ⟨5,w.2.2,a.1,a.2.1,w.1,w.2.1,b.2.2⟩:=by
    rw [hL];unfold loopM;rw [s1]
    show (match stepM w ⟨5,w.2.2,a.1,a.2.1,w.1,w.2.1,0⟩ b with | some m'=>loopM w [] m' | none=>none)=_
    rw [s2];rfl
   rw [moved_of hw hl]
   show (bif decide (a.1=0)||_ then chK 7 else _)=_
   rw [out a b ha.1 hb.2,at2 a b h1 h2.1 h2.2 h3]
   have hba:rMove D b a=chK 7:=bad b a h3
   rw [hba]
   cases onlyF (D.b 1) b.2.2<;>rfl
  ·
   have hl:loopM w D.lost (m0 w)=none:=by
    rw [hL];unfold loopM;rw [s1]
    show (match stepM w ⟨5,w.2.2,a.1,a.2.1,w.1,w.2.1,0⟩ b with | some m'=>loopM w [] m' | none=>none)=_
    rw [stepM_n (fun k=>absurd k.2 (by show ¬a.1=0;omega)) (fun k=>h2 ⟨k.1,k.2.1⟩)]
   rw [moved_of hw hl,off a b hb.2 h2]
   show chK 7=bif decide ((7:Int)=5) then _ else rMove D b a
   rw [show decide ((7:Int)=5)=false by rfl,cond_false]
   by_cases h4:b.2.2=w.2.2
   ·
    by_cases h5:a.1=w.1∧a.2.1=w.2.1
    · exact absurd (Prod.ext h5.1 (Prod.ext h5.2 h1)) hwa
    · exact (off b a ha.2 h5).symm
   · exact (bad b a h4).symm
 ·
  rw [bad a b h1]
  show _=bif decide ((7:Int)=5) then _ else rMove D b a
  rw [show decide ((7:Int)=5)=false by rfl,cond_false]
  by_cases h2:a.1=w.1∧a.2.1=w.2.1
  ·
   have s1:=stepM_b (w:=w) (l:=a) (m:=m0 w) (fun k=>h1 k.1) h2.1 h2.2 rfl
   by_cases h3:b.2.2=w.2.2
   ·
    have s2:=stepM_a (w:=w) (l:=b) (m:=⟨5,w.2.2,0,[],w.1,w.2.1,a.2.2⟩) h3 rfl
    have hl:loopM w D.lost (m0 w)=some ⟨5,w.2.2,b.1,b.2.1,w.1,w.2.1,a.2.2⟩:=by
     rw [hL];unfold loopM;rw [s1]
     show (match stepM w ⟨5,w.2.2,0,[],w.1,w.2.1,a.2.2⟩ b with | some m'=>loopM w [] m' | none=>none)=_
     rw [s2];rfl
    rw [moved_of hw hl]
    show (bif decide (b.1=0)||_ then chK 7 else _)=_
    rw [out b a hb.1 ha.2,at2 b a h3 h2.1 h2.2 h1]
   ·
    have hl:loopM w D.lost (m0 w)=none:=by
     rw [hL];unfold loopM;rw [s1]
     show (match stepM w ⟨5,w.2.2,0,[],w.1,w.2.1,a.2.2⟩ b with | some m'=>loopM w [] m' | none=>none)=_
     rw [stepM_n (fun k=>h3 k.1) (fun k=>absurd k.2.2 (by show ¬a.2.2=0;omega))]
    rw [moved_of hw hl,bad b a h3];rfl
  ·
   have hl:loopM w D.lost (m0 w)=none:=by
    rw [hL];unfold loopM;rw [stepM_n (fun k=>h1 k.1) (fun k=>h2 ⟨k.1,k.2.1⟩)]
   rw [moved_of hw hl,off b a ha.2 h2];rfl
theorem moved_ref {D:Df} {w:Ey} (hw:D.won=[w]) (hl:∀z∈D.lost,1≤z.1∧1≤z.2.2) (hd:∀z∈D.lost,z≠w):movedF D=rTail D:=by
 unfold rTail
 match hL:D.lost,hl,hd with
 | [], _, _=>
  rw [moved_of hw (o:=some (m0 w)) (by rw [hL];rfl)];rfl
 | [a],hl,hd=>
  have ha:=hl a (by simp)
  show _=rMove D a (0,[],0)
  rw [rMove_w hw]
  show _=bif (!decide (a.2.2=w.2.2)||(decide ((0:Int)<0)&&_)||!onlyF (D.b 1) 0) then chK 7 else _
  rw [only_zero]
  by_cases h1:a.2.2=w.2.2
  ·
   rw [moved_of hw (o:=some ⟨5,w.2.2,a.1,a.2.1,w.1,w.2.1,0⟩) (by rw [hL];unfold loopM;rw [stepM_a h1 rfl];rfl),decide_eq_true h1]
   show (bif decide (a.1=0)||(decide (0<((D.b 1).length:Int))&&(decide ((0:Int)=0)||_||_)) then chK 7 else _)=_
   rw [decide_eq_false (show ¬a.1=0 by omega)]
   by_cases h0:((D.b 1).length:Int)=0
   · rw [decide_eq_true h0,decide_eq_false (by omega)];rfl
   · rw [decide_eq_false h0,decide_eq_true (show 0<((D.b 1).length:Int) by omega)];rfl
  ·
   rw [decide_eq_false h1]
   show _=chK 7
   by_cases h2:a.1=w.1∧a.2.1=w.2.1
   · rw [moved_of hw (o:=some ⟨5,w.2.2,0,[],w.1,w.2.1,a.2.2⟩) (by rw [hL];unfold loopM;rw [stepM_b (fun k=>h1 k.1) h2.1 h2.2 rfl];rfl)];rfl
   · rw [moved_of hw (o:=none) (by rw [hL];unfold loopM;rw [stepM_n (fun k=>h1 k.1) (fun k=>h2 ⟨k.1,k.2.1⟩)])];rfl
 | [a,b],hl,hd=>exact two_ref hw hL (hl a (by simp)) (hl b (by simp)) (hd a (by simp)) (hd b (by simp))
 | a::b::c::r,hl,hd=>
  have ha:=hl a (by simp)
  have hb:=hl b (by simp)
  have h7:loopM w D.lost (m0 w)=none:=by
   rw [hL]
   unfold loopM
   cases s1:stepM w (m0 w) a with
   | none=>rfl
   | some m1=>
    show loopM w (b::c::r) m1=none
    unfold loopM
    cases s2:stepM w m1 b with
    | none=>rfl
    | some m2=>
     show loopM w (c::r) m2=none
     have hm:m2.dir≠0∧m2.over≠0:=by
      rcases stepM_cases s1 with ⟨_, _,rfl⟩ | ⟨_, _, _, _,rfl⟩
      ·
       rcases stepM_cases s2 with ⟨k, _, _⟩ | ⟨_, _, _, _,rfl⟩
       · exact absurd k (by show ¬a.1=0;omega)
       · exact ⟨by show a.1≠0;omega,by show b.2.2≠0;omega⟩
      ·
       rcases stepM_cases s2 with ⟨_, _,rfl⟩ | ⟨_, _, _,k, _⟩
       · exact ⟨by show b.1≠0;omega,by show a.2.2≠0;omega⟩
       · exact absurd k (by show ¬a.2.2=0;omega)
     unfold loopM
     rw [stepM_n (fun k=>hm.1 k.2) (fun k=>hm.2 k.2.2)]
  rw [moved_of hw h7]
  have:decide ((2:Int)<((a::b::c::r).length:Int))=true:=decide_eq_true (by simp only [List.length_cons];omega)
  rw [this,Bool.or_true];rfl
theorem ownK_1 (l m:List Int):ownK l [m]=(decide ((l.length:Int)=1)&&decide ((m.length:Int)=0)):=by
 unfold ownK
 simp only [List.any_cons,List.any_nil,Bool.or_false]
 by_cases h:(m.length:Int)=0
 · rw [decide_eq_true h,decide_eq_false (show ¬(0:Int)<m.length by omega)];rfl
 · rw [decide_eq_false h,decide_eq_true (show (0:Int)<m.length by omega)];rfl
theorem ref_of {A B:Tab} (hA:Gd A):rOf (dfN A B 24) A B=chOf A B:=by
 have hl:∀z∈(dfN A B 24).lost,1≤z.1∧1≤z.2.2:=fun z hz=>lost_mem hA hz
 have hd:∀w,(dfN A B 24).won=[w]→∀z∈(dfN A B 24).lost,z≠w:=fun w hw z hz e=>by
  have h1:=mem_lost.1 hz
  have h2:=mem_won.1 (show w∈(dfN A B 24).won by rw [hw];simp)
  rw [e] at h1
  exact h1.2.2.2 h2.2.2.1
 unfold chOf
 generalize dfN A B 24=D at hl hd
 unfold rOf chF
 rw [ownK_1,ownK_1]
 have hs:sumI D 4=((D.b 0).length:Int)+(D.b 1).length+(D.b 2).length+(D.b 3).length:=by simp only [sumI];omega
 rw [hs]
 by_cases h3:(0:Int)<(D.b 3).length
 ·
  rw [decide_eq_true h3,decide_eq_false (show ¬((D.b 0).length:Int)+(D.b 1).length+(D.b 2).length+(D.b 3).length=0 by omega)]
  by_cases h4:(1:Int)<((D.b 0).length:Int)+(D.b 1).length+(D.b 2).length+(D.b 3).length
  ·
   rw [decide_eq_true h4]
   by_cases h5:((D.b 3).length:Int)=1
   · rw [decide_eq_false (show ¬((D.b 0).length:Int)+(D.b 1).length+(D.b 2).length=0 by omega),Bool.and_false];rfl
   · rw [decide_eq_false h5];rfl
  · rw [decide_eq_false h4,decide_eq_true (show ((D.b 3).length:Int)=1 by omega),decide_eq_true (show ((D.b 0).length:Int)+(D.b 1).length+(D.b 2).length=0 by omega)];rfl
 ·
  rw [decide_eq_false h3,decide_eq_false (show ¬((D.b 3).length:Int)=1 by omega)]
  simp only [Bool.false_and,cond_false]
  by_cases h0:((D.b 0).length:Int)+(D.b 1).length+(D.b 2).length=0
  · rw [decide_eq_true h0,decide_eq_true (show ((D.b 0).length:Int)+(D.b 1).length+(D.b 2).length+(D.b 3).length=0 by omega)];rfl
  ·
   rw [decide_eq_false h0,decide_eq_false (show ¬((D.b 0).length:Int)+(D.b 1).length+(D.b 2).length+(D.b 3).length=0 by omega)]
   simp only [cond_false]
   cases hb0:decide ((0:Int)<(D.b 0).length) with
   | true=>
    simp only [cond_true]
    cases hc:(decide (((D.b 0).length:Int)=1)&&decide (((D.b 1).length:Int)=0)&&decide ((D.lost.length:Int)=0)&&decide ((D.won.length:Int)=1)&&decide ((D.won.getD 0 ey0).2.2=(D.b 0).getD 0 0)) with
    | false=>rfl
    | true=>
     simp only [Bool.and_eq_true,decide_eq_true_eq] at hc
     rw [cond_true,cond_true,hc.2]
   | false=>
    simp only [cond_false]
    cases hb1:(decide (((D.b 1).length:Int)=1)&&decide (((D.b 2).length:Int)=0)) with
    | true=>rfl
    | false=>
     simp only [cond_false]
     unfold rEnt rE1
     cases h5:(decide ((D.lost.length:Int)=1)&&decide ((D.won.length:Int)=0)) with
     | true=>
      simp only [Bool.and_eq_true,decide_eq_true_eq] at h5
      have hk:1≤(D.lost.getD 0 ey0).2.2:=by
       have hL:=len_one h5.1 ey0
       exact (hl _ (by rw [hL];simp)).2
      rw [only_own hk,Bool.true_and,cond_true]
      cases (decide (((D.b 1).length:Int)=0)||(ownK (D.b 1) []&&decide ((D.b 1).getD 0 0=(D.lost.getD 0 ey0).2.2))) with
      | true=>rfl
      | false=>
       simp only [cond_false]
       rw [decide_eq_false (show ¬(D.won.length:Int)=1 by omega)];rfl
     | false=>
      rw [Bool.false_and,cond_false,cond_false]
      by_cases h6:(D.won.length:Int)=1
      ·
       rw [decide_eq_true h6,cond_true]
       have hw:=len_one h6 ey0
       rw [moved_ref hw hl (hd _ hw)]
       unfold rTail
       simp only [Bool.not_true,Bool.false_or]
      · rw [decide_eq_false h6];rfl
end Go.Proofs.YtjmlgeckgieaaaaGreat
