import Derived.Test.YtmgnbgniikjhdaaGreatP8
/-
  CP: a file that is copied, call by call, as a machine.
-/
set_option linter.unusedVariables false
set_option linter.unusedSimpArgs false
namespace Go.Proofs.YtmgnbgniikjhdaaGreat
open Go.Ab
set_option maxRecDepth 8000
set_option maxHeartbeats 400000
structure Cp where
 fr:List UInt8
 to:List UInt8
 fl:Int
 md:Int
 a:Int
 b:Int
 n:Int
 wp:List UInt8
 we:Int
 nx:Nat
def caN:Ca:=⟨0,[],[],0,0,[]⟩
abbrev CpR:=(Ca×Bool)×Cp
def cpEnd (c:Cp):CpR:=((caN,false),{ c with nx:=0 })
def cpShut (c:Cp):CpR:=((⟨16,[],[],c.a,0,[]⟩,true),{ c with nx:=7 })
def cpRead (c:Cp):CpR:=((⟨14,[],[],c.a,8,[]⟩,true),{ c with n:=IntKind.i64.wrap (c.n+1),nx:=4 })
def cpB (c:Cp):CpR:=((⟨16,[],[],c.b,0,[]⟩,true),{ c with nx:=6 })
def cpFirst (c:Cp):CpR:=((⟨13,c.fr,[],1,0,[]⟩,true),{ c with nx:=2 })
def cpOpened (c:Cp) (r:Rs):CpR:=
 if r.err≠0 then cpEnd { c with wp:=c.fr,we:=r.err } else ((⟨13,c.to,[],c.fl,c.md,[]⟩,true),{ c with a:=r.n,nx:=3 })
def cpBoth (c:Cp) (r:Rs):CpR:=
 if r.err≠0 then cpShut { c with wp:=c.to,we:=r.err } else cpRead { c with b:=r.n }
def cpGot (c:Cp) (r:Rs):CpR:=
 if r.err≠0 then cpB { c with wp:=c.fr,we:=r.err }
 else if (r.data.length:Int)=0 then cpB c
 else if c.n=49 then cpB { c with wp:=c.fr,we:=27 }
 else ((⟨15,[],[],c.b,0,r.data⟩,true),{ c with nx:=5 })
def cpPut (c:Cp) (r:Rs):CpR:=
 if r.err≠0 then cpB { c with wp:=c.to,we:=r.err } else cpRead c
def cpN (c:Cp) (r:Rs):CpR:=
 match c.nx with
 | 0=>((caN,false),c)
 | 1=>cpFirst c
 | 2=>cpOpened c r
 | 3=>cpBoth c r
 | 4=>cpGot c r
 | 5=>cpPut c r
 | 6=>cpShut c
 | _=>cpEnd c
def cp0 (fr to:List UInt8) (fl md:Int):Cp:=⟨fr,to,fl,md,0,0,0,[],0,1⟩
def b01 (b:Prop) [Decidable b]:Int:=if b then 1 else 0
def CpE (c:Cp) (r:Rs) (n:Nat) (op:Int):Prop:=
 match c.nx with
 | 0=>False
 | 1=>n=0∧op=0∧c.n=0
 | 2=>n=1∧op=b01 (r.err=0)∧c.n=0
 | 3=>n=2∧op=1+b01 (r.err=0)∧c.n=0
 | 4=>op=2∧1≤c.n∧c.n≤49∧(n:Int)=2*c.n+1
 | 5=>op=2∧1≤c.n∧c.n≤48∧(n:Int)=2*c.n+2
 | 6=>op=1∧n≤100
 | 7=>op=0∧n≤101
 | _=>False
theorem CpE.few {c:Cp} {r:Rs} {n:Nat} {op:Int} (h:CpE c r n op):n≤101:=by
 unfold CpE at h
 split at h<;>first | exact h.elim | omega
def opN (op:Int) (k:Ca) (r:Rs):Int:=op+b01 (k.kind=13∧r.err=0) - b01 (k.kind=16)
theorem cp_end {c:Cp} {r:Rs} {n:Nat} {op:Int} (h:CpE c r n op) (hm:(cpN c r).1.2=false):op=0∧(cpN c r).2.nx=0:=by
 obtain ⟨fr,to,fl,md,a,b,m,wp,we,nx⟩:=c
 unfold CpE at h
 unfold cpN at hm ⊢
 dsimp only at h hm ⊢
 split at h
 · exact h.elim
 · cases hm
 ·
  simp only [cpOpened] at hm ⊢
  split at hm
  ·
   rename_i he
   rw [if_pos he]
   exact ⟨by rw [h.2.1,b01,if_neg he],rfl⟩
  · cases hm
 ·
  simp only [cpBoth] at hm
  split at hm<;>cases hm
 ·
  simp only [cpGot] at hm
  repeat' split at hm
  all_goals cases hm
 ·
  simp only [cpPut] at hm
  split at hm<;>cases hm
 · cases hm
 · exact ⟨h.1,rfl⟩
 · exact h.elim
theorem cp_step {c:Cp} {r:Rs} {n:Nat} {op:Int} (h:CpE c r n op) (hm:(cpN c r).1.2=true) (r':Rs):CpE (cpN c r).2 r' (n+1) (opN op (cpN c r).1.1 r'):=by
 obtain ⟨fr,to,fl,md,a,b,m,wp,we,nx⟩:=c
 unfold CpE at h
 unfold cpN at hm ⊢
 dsimp only at h hm ⊢
 split at h
 · exact h.elim
 ·
  obtain ⟨h1,h2,h3⟩:=h
  simp only [cpFirst,CpE,opN]
  refine ⟨by omega,?_,h3⟩
  rw [h2];simp [b01]
 ·
  obtain ⟨h1,h2,h3⟩:=h
  simp only [cpOpened] at hm ⊢
  split at hm
  · cases hm
  rename_i he
  rw [if_neg he]
  simp only [CpE,opN]
  refine ⟨by omega,?_,h3⟩
  rw [h2,b01,if_pos (by simpa using he)];simp [b01]
 ·
  obtain ⟨h1,h2,h3⟩:=h
  simp only [cpBoth]
  split
  ·
   rename_i he
   simp only [cpShut,CpE,opN]
   refine ⟨?_,by omega⟩
   rw [h2,b01,if_neg he];simp [b01]
  ·
   rename_i he
   simp only [cpRead,CpE,opN]
   rw [h3,show IntKind.i64.wrap ((0:Int)+1)=1 by rfl]
   refine ⟨?_,by omega,by omega,by omega⟩
   rw [h2,b01,if_pos (by simpa using he)];simp [b01]
 ·
  obtain ⟨h1,h2,h3,h4⟩:=h
  have hB:∀c:Cp,CpE (cpB c).2 r' (n+1) (opN op (cpB c).1.1 r'):=fun c=>by
   simp only [cpB,CpE,opN]
   refine ⟨?_,by omega⟩
   rw [h1];simp [b01]
  simp only [cpGot]
  split
  · exact hB _
  split
  · exact hB _
  split
  · exact hB _
  ·
   simp only [CpE,opN]
   refine ⟨?_,by omega,by omega,by omega⟩
   rw [h1];simp [b01]
 ·
  obtain ⟨h1,h2,h3,h4⟩:=h
  simp only [cpPut]
  split
  ·
   simp only [cpB,CpE,opN]
   refine ⟨?_,by omega⟩
   rw [h1];simp [b01]
  ·
   simp only [cpRead,CpE,opN]
   rw [show IntKind.i64.wrap (m+1)=m+1 from wrapS (by omega) (by omega)]
   refine ⟨?_,by omega,by omega,by omega⟩
   rw [h1];simp [b01]
 ·
  obtain ⟨h1,h2⟩:=h
  simp only [cpShut,CpE,opN]
  refine ⟨?_,by omega⟩
  rw [h1];simp [b01]
 · cases hm
 · exact h.elim
end Go.Proofs.YtmgnbgniikjhdaaGreat
