import Derived.Test.YtmgnbgniikjhdaaGreatK1
/-
  CP: the command, call by call, as a machine; a machine that is run to its end.
-/
set_option linter.unusedVariables false
set_option linter.unusedSimpArgs false
namespace Go.Proofs.YtmgnbgniikjhdaaGreat
open Go.Ab
set_option maxRecDepth 8000
set_option maxHeartbeats 400000
abbrev Dg:=List UInt8×Int
def baseF (s:List UInt8):List UInt8:=bif decide ((0:Int)<(namesF s).length) then (namesF s).getD ((namesF s).length - 1) [] else bif absF s then [47] else []
def joinF (d n:List UInt8):List UInt8:=bif decide (d=[])||sufF d then d++n else d++(47::n)
structure Cm where
 dg:List Dg
 keep:Bool
 into:Bool
 tgt:List UInt8
 left:List (List UInt8)
 fr:List UInt8
 to:List UInt8
 s:Sta
 cp:Cp
 nx:Nat
abbrev CmR:=(Ca×Bool)×Cm
def cmFail (c:Cm) (p:List UInt8) (e:Int):Cm:={ c with dg:=c.dg++[(p,e)] }
def cmSrc (c:Cm):CmR:=
 if (c.left.length:Int)=0 then ((caN,false),{ c with nx:=0 })
 else ((⟨1,c.left.getD 0 [],[],0,0,[]⟩,true),{ c with fr:=c.left.getD 0 [],left:=c.left.drop 1,to:=bif c.into then joinF c.tgt (baseF (c.left.getD 0 [])) else c.tgt,nx:=3 })
def cmSkip (c:Cm) (p:List UInt8) (e:Int):CmR:=cmSrc (cmFail c p e)
def cmFirst (c:Cm):CmR:=((⟨1,c.tgt,[],0,0,[]⟩,true),{ c with nx:=2 })
def cmAimed (c:Cm) (r:Rs):CmR:=
 let c:Cm:={ c with into:=decide (r.err=0)&&decide (r.st.kind=2) }
 if (1:Int)<c.left.length∧c.into=false then cmSrc { cmFail c c.tgt 20 with left:=[] } else cmSrc c
def cmLooked (c:Cm) (r:Rs):CmR:=
 let c:Cm:={ c with s:=r.st }
 if r.err≠0 then cmSkip c c.fr r.err
 else if r.st.kind=2 then cmSkip c c.fr 21
 else ((⟨1,c.to,[],0,0,[]⟩,true),{ c with nx:=4 })
def wrF (c:Cp):Bool:=!(decide (c.wp=[])&&decide (c.we=0))
def cmCopies (c:Cm) (r:Rs):CmR:=
 let x:=cpN c.cp r
 let c:Cm:={ c with cp:=x.2 }
 bif x.1.2 then ((x.1.1,true),{ c with nx:=5 })
 else bif wrF x.2 then cmSkip c x.2.wp x.2.we
 else bif c.keep then ((⟨6,c.to,[],c.s.uid,c.s.gid,[]⟩,true),{ c with nx:=6 })
 else cmSrc c
def cmBegin (c:Cm) (r:Rs):CmR:=
 if r.err=0∧r.st.node=c.s.node then cmSkip c c.fr 22
 else cmCopies { c with cp:=cp0 c.fr c.to 22 (bits .and .i64 c.s.mode 511) } r
def cmOwned (c:Cm) (r:Rs):CmR:=
 ((⟨5,c.to,[],if r.err≠0 then bits .andNot .i64 c.s.mode 3072 else c.s.mode,0,[]⟩,true),{ c with nx:=7 })
def cmDone (c:Cm) (r:Rs):CmR:=if r.err≠0 then cmSkip c c.to r.err else cmSrc c
def cmN (c:Cm) (r:Rs):CmR:=
 match c.nx with
 | 0=>((caN,false),c)
 | 1=>cmFirst c
 | 2=>cmAimed c r
 | 3=>cmLooked c r
 | 4=>cmBegin c r
 | 5=>cmCopies c r
 | 6=>cmOwned c r
 | _=>cmDone c r
def runF {σ : Type} (nxt : σ → Rs→(Ca×Bool) × σ):Nat→Tab→List Pr → σ → Rs→Nat→Int×Tab×List Pr × σ
 | 0,T,ps,s, _, _=>(-1,T,ps,s)
 | f+1,T,ps,s,r,n=>
  bif (nxt s r).1.2 then runF nxt f (doF T ps 0 (nxt s r).1.1).2.1 (doF T ps 0 (nxt s r).1.1).2.2 (nxt s r).2 (doF T ps 0 (nxt s r).1.1).1 (n+1)
  else ((n:Int),T,ps,(nxt s r).2)
end Go.Proofs.YtmgnbgniikjhdaaGreat
