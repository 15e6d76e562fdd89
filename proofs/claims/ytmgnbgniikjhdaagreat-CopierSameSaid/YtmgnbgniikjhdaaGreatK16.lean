import Derived.Test.YtmgnbgniikjhdaaGreatK15
/-
  A copy ends, whatever comes of its calls.
-/
set_option linter.unusedVariables false
set_option linter.unusedSimpArgs false
namespace Go.Proofs.YtmgnbgniikjhdaaGreat
open Go.Ab
set_option maxRecDepth 8000
set_option maxHeartbeats 400000
def rsV (r:Rs):AV:=.agg (rsC r)
theorem clL_rsV (m:Nat) (l:List Rs):AV.clL m (l.map rsV):=clL_all fun x hx=>by
 obtain ⟨c, _,rfl⟩:=List.mem_map.1 hx
 exact clL_rsC _ _
theorem getD_rsV {l:List Rs} {i:Nat} {d:AV} (h:i<l.length):(l.map rsV).getD i d=.agg (rsC (l.getD i rs0)):=by
 simp [List.getD_eq_getElem?_getD,h,rsV]
attribute [push_cast] getD_rsV
theorem CpE.bd {c:Cp} {r:Rs} {n:Nat} {op:Int} (h:CpE c r n op):0≤op∧op≤2:=by
 unfold CpE at h
 have h1:∀p:Prop,∀ [Decidable p],0≤b01 p∧b01 p≤1:=fun p _=>by unfold b01;split<;>omega
 have:=h1 (r.err=0)
 split at h
 all_goals first | exact h.elim | (obtain ⟨a, _⟩:=h;try obtain ⟨b, _⟩ := ‹_∧_›;omega)
theorem b01_y {p:Prop} [Decidable p] (h:p):b01 p=1:=if_pos h
theorem b01_n {p:Prop} [Decidable p] (h:¬p):b01 p=0:=if_neg h
theorem cpN_0 {c:Cp} (h:c.nx=0) (r:Rs):cpN c r=((caN,false),c):=by
 obtain ⟨fr,to,fl,md,a,b,n,wp,we,nx⟩:=c
 cases h;rfl
theorem t_mod2 (a b:Nat):((a:Int).tmod (b:Int))=(a:Int)%(b:Int):=rfl
theorem i_mod2 (a b:Nat):((a:Int)%(b:Int)).toNat=a%b:=by rw [←Int.natCast_emod];rfl
attribute [push_cast] clL_rsV
theorem c4 (fr to:List UInt8) (fl md:Int) (rs:List Rs) (h:List Blk) (live:List Nat) (hh0:h=[]) (hrl:rs.length≤9223372036854775807):AC Tryz.prog 4 [.str fr,.str to,.int .i64 fl,.int .i64 md,.slice (rs.map rsV) .none] h live (.bool true):=by
 refine aq_ Tryz.func4 fun hH hX=>?_
 have hcc:∀c r q1 q2,HCl (h++[.cells (cpC h.length c),.cells (rsQ r q1 q2)]):=fun c r q1 q2=>by
  have:=HCl.snoc (b:=.cells (rsQ r q1 q2)) (HCl.snoc (b:=.cells (cpC h.length c)) hH (clL_cpC (Nat.lt_succ_self _) _)) (clL_rsC _ _)
  rw [List.append_assoc] at this;exact this
 have sx:=(And.intro @t_mod2 (And.intro @i_mod2 sx0))
 refine rg_ [0,1,2,3,4] ?_
 refine rs_ [0,1,2,3,4,11] ?_
 refine cl_ (hc:=c8 _ _) (k:=?_)
 refine sre_ ?_
 refine sk_ fun K1 hK1=>?_
 refine rg_ [0,1,2,3,4,22] ?_
 refine cdn_ (ht:=fun hb1=>?_) (hf:=fun hb1=>?_)
 · exfalso;exact Bool.noConfusion hb1
 refine skp_ ?_
 refine hK1 _ ?_
 refine sk_ fun K2 hK2=>?_
 refine rg_ [0,1,2,3,4,40] ?_
 refine cy_ (fun hb2=>?_) (fun hb2=>?_)
 ·
  refine rg_ [10] ?_
  refine ret_ ?_
  refine gq_ (h1:=h) Tryz.results4 ?_ (hh:=(by first | exact ⟨[],(List.append_nil _).symm⟩ | exact ⟨_,rfl⟩))
  exact rk_ rfl
 simp only [Bool.or_eq_false_iff,decide_eq_false_iff_not] at hb2
 obtain ⟨⟨⟨hb21,hb22⟩,hb23⟩,hb24⟩:=hb2
 have hl0:0<rs.length:=by omega
 refine skp_ ?_
 refine hK2 _ ?_
 refine rs_ [4,12] ?_
 refine sg_ ?_
 refine cl_ (hc:=c15 _ _ _ _ _ _) (k:=?_)
 refine sre_ ?_
 refine rg_ [4,12,13] ?_
 refine rg_ [4,12,13,14] ?_
 refine sk_ fun K3 hK3=>?_
 refine rg_ [4,12,13,14,15] ?_
 refine awp_block ?_
 refine lp_ (X:={x:Nat×Cp×Rs×Cap×Cap×Int // CpE x.2.1 x.2.2.1 x.1 x.2.2.2.2.2}) (fun x=>⟨Tryz.f4.ntmps,fget [(4,.slice (rs.map rsV) .none),(12,.ptr h.length 0),(13,.ptr (h.length+1) 0),(14,.int .i64 x.1.2.2.2.2.2),(15,.int .i64 (x.1.1:Nat))],h++[.cells (cpC h.length x.1.2.1),.cells (rsQ x.1.2.2.1 x.1.2.2.2.1 x.1.2.2.2.2.1)],live⟩) (fun x=>103 - x.1.1) (⟨⟨0,cp0 fr to fl md,rs0,.full,.full,0⟩,rfl,rfl,rfl⟩) ?_ (fun ⟨⟨n,c,r,q1,q2,op⟩,hE⟩=>?_)
 ·
  try dsimp only
  refine Trunc.of (by first | exact (List.append_nil _).symm | exact rfl | (rw [List.append_assoc];rfl)) ?_ (hcc _ _ _ _) (fun _ h=>h)
  refine ftc_ ?_ (hc:=by first | exact trivial | exact clL_rsV _ _ | (simp [AV.cl,AV.clL];done) | (simp only [AV.cl,List.length_append,List.length_cons,List.length_nil];omega))
  refine ftc_ ?_ (hc:=by first | exact trivial | exact clL_rsV _ _ | (simp [AV.cl,AV.clL];done) | (simp only [AV.cl,List.length_append,List.length_cons,List.length_nil];omega))
  refine ftc_ ?_ (hc:=by first | exact trivial | exact clL_rsV _ _ | (simp [AV.cl,AV.clL];done) | (simp only [AV.cl,List.length_append,List.length_cons,List.length_nil];omega))
  refine ftc_ ?_ (hc:=by first | exact trivial | exact clL_rsV _ _ | (simp [AV.cl,AV.clL];done) | (simp only [AV.cl,List.length_append,List.length_cons,List.length_nil];omega))
  refine ftc_ ?_ (hc:=by first | exact trivial | exact clL_rsV _ _ | (simp [AV.cl,AV.clL];done) | (simp only [AV.cl,List.length_append,List.length_cons,List.length_nil];omega))
  exact FTr.nil
 try dsimp only
 dsimp only at hE
 have hfew:=hE.few
 have hbd:=hE.bd
 have hkc:∀g,(h++.cells (cpC h.length c)::g)[h.length]? = some (.cells (cpC h.length c)):=fun g=>by rw [get_app0];rfl
 refine sk_ fun K4 hK4=>?_
 refine rg_ [4,12,13,14,15,48] ?_
 refine cx_ (fun hb3=>?_) (fun hb3=>?_)
 rotate_left
 · exfalso;omega
 refine skp_ ?_
 refine hK4 _ ?_
 refine sk_ fun K5 hK5=>?_
 refine awp_block ?_
 refine rs_ [4,12,13,14,15,16,17] ?_
 refine sg_ ?_
 refine ck_ (k:=?_)
 refine erx_ (ys:=[.ptr h.length 0,.agg (rsC r)]) (by simp only [List.map_cons,List.map_nil,AV.er,AV.erL,er_rsQ]) (ACalls.mono ?_ (c17 h.length c r _ _ (hkc _)));rintro _ _ _ ⟨rfl,rfl,rfl⟩
 obtain ⟨X,hX⟩:∃X,cpN c r=X:=⟨_,rfl⟩
 have he1:=cp_end hE
 have he2:=cp_step hE
 rw [hX] at he1 he2 ⊢
 refine sre_ ?_
 refine sk_ fun K6 hK6=>?_
 refine rg_ [4,12,13,14,15,16,58] ?_
 refine cy_ (fun hb4=>?_) (fun hb4=>?_)
 ·
  have hb4f:X.1.2=false:=by simpa using hb4
  obtain ⟨ho0,hn0⟩:=he1 hb4f
  have hod:decide (op=0)=true:=by rw [ho0];rfl
  have sx:=And.intro hod sx
  refine rs_ [14,19] ?_
  refine sg_ ?_
  refine ck_ (k:=?_)
  refine erx_ (ys:=[.ptr h.length 0,.agg (rsC r)]) (by simp only [List.map_cons,List.map_nil,AV.er,AV.erL,er_rsQ]) (ACalls.mono ?_ (c17 h.length X.2 r _ _ (by rw [get_app0];rfl)));rintro _ _ _ ⟨rfl,rfl,rfl⟩
  rw [cpN_0 hn0]
  refine sre_ ?_
  refine rg_ [10] ?_
  refine ret_ ?_
  refine gq_ (h1:=h) Tryz.results4 ?_ (hh:=(by first | exact ⟨[],(List.append_nil _).symm⟩ | exact ⟨_,rfl⟩))
  exact rk_ rfl
 have hb4t:X.1.2=true:=by simpa using hb4
 obtain ⟨r',hr'⟩:∃r',rs.getD (n%rs.length) rs0=r':=⟨_,rfl⟩
 have hE2:=he2 hb4t r'
 have hlt:n%rs.length<rs.length:=Nat.mod_lt _ hl0
 have hgr:(rs.map rsV).getD (n%rs.length) .undef=.agg (rsC r'):=by rw [getD_rsV hlt,hr']
 have sx:=And.intro hgr sx
 refine skp_ ?_
 refine hK6 _ ?_
 refine rg_ [4,12,13,14,15,16] ?_
 refine sk_ fun K7 hK7=>?_
 refine rg_ [4,12,13,14,15,16,85] ?_
 refine cx_ (fun hb5=>?_) (fun hb5=>?_)
 ·
  refine rt_ [4,12,13,14,15,16] ?_
  refine srn_ ?_
  refine hK7 _ ?_
  refine rg_ [4,12,13,14,15,90] ?_
  refine cx_ (fun hb6=>?_) (fun hb6=>?_)
  · exfalso;omega
  refine skp_ ?_
  refine hK5 _ ?_
  refine rt_ [4,12,13,14,15] ?_
  refine srn_ ?_
  have e14:opN op X.1.1 r'=op+b01 (X.1.1.kind=13∧r'.err=0) - b01 (X.1.1.kind=16):=rfl
  first
   | rw [b01_y (p:=X.1.1.kind=13∧r'.err=0) (by omega),b01_y (p:=X.1.1.kind=16) (by omega)] at e14
   | rw [b01_y (p:=X.1.1.kind=13∧r'.err=0) (by omega),b01_n (p:=X.1.1.kind=16) (by omega)] at e14
   | rw [b01_n (p:=X.1.1.kind=13∧r'.err=0) (by omega),b01_y (p:=X.1.1.kind=16) (by omega)] at e14
   | rw [b01_n (p:=X.1.1.kind=13∧r'.err=0) (by omega),b01_n (p:=X.1.1.kind=16) (by omega)] at e14
  refine ln_ ⟨⟨n+1,X.2,r',.none,.none,opN op X.1.1 r'⟩,hE2⟩ ?_
  try dsimp only
  refine Trunc.of (by first | exact (List.append_nil _).symm | exact rfl | (rw [List.append_assoc];rfl)) ?_ (hcc _ _ _ _) (fun _ h=>h)
  refine FTr.cons (by (simp (disch:=omega) only [push_cast,↓reduceIte,Nat.reduceEqDiff,Nat.reduceAdd,Nat.reduceLeDiff,sx])<;>first | rfl | (congr 2;omega) | (rw [e14];congr 1;omega) | (exfalso;omega)) (by first | exact trivial | exact clL_rsV _ _ | (simp [AV.cl,AV.clL];done) | (simp only [AV.cl,List.length_append,List.length_cons,List.length_nil];omega)) ?_
  refine FTr.cons (by (simp (disch:=omega) only [push_cast,↓reduceIte,Nat.reduceEqDiff,Nat.reduceAdd,Nat.reduceLeDiff,sx])<;>first | rfl | (congr 2;omega) | (rw [e14];congr 1;omega) | (exfalso;omega)) (by first | exact trivial | exact clL_rsV _ _ | (simp [AV.cl,AV.clL];done) | (simp only [AV.cl,List.length_append,List.length_cons,List.length_nil];omega)) ?_
  refine FTr.cons (by (simp (disch:=omega) only [push_cast,↓reduceIte,Nat.reduceEqDiff,Nat.reduceAdd,Nat.reduceLeDiff,sx])<;>first | rfl | (congr 2;omega) | (rw [e14];congr 1;omega) | (exfalso;omega)) (by first | exact trivial | exact clL_rsV _ _ | (simp [AV.cl,AV.clL];done) | (simp only [AV.cl,List.length_append,List.length_cons,List.length_nil];omega)) ?_
  refine FTr.cons (by (simp (disch:=omega) only [push_cast,↓reduceIte,Nat.reduceEqDiff,Nat.reduceAdd,Nat.reduceLeDiff,sx])<;>first | rfl | (congr 2;omega) | (rw [e14];congr 1;omega) | (exfalso;omega)) (by first | exact trivial | exact clL_rsV _ _ | (simp [AV.cl,AV.clL];done) | (simp only [AV.cl,List.length_append,List.length_cons,List.length_nil];omega)) ?_
  refine FTr.cons (by (simp (disch:=omega) only [push_cast,↓reduceIte,Nat.reduceEqDiff,Nat.reduceAdd,Nat.reduceLeDiff,sx])<;>first | rfl | (congr 2;omega) | (rw [e14];congr 1;omega) | (exfalso;omega)) (by first | exact trivial | exact clL_rsV _ _ | (simp [AV.cl,AV.clL];done) | (simp only [AV.cl,List.length_append,List.length_cons,List.length_nil];omega)) ?_
  exact FTr.nil
 refine skp_ ?_
 refine hK7 _ ?_
 refine rg_ [4,12,13,14,15,90] ?_
 refine cx_ (fun hb6=>?_) (fun hb6=>?_)
 ·
  refine rt_ [4,12,13,14,15] ?_
  refine srn_ ?_
  refine hK5 _ ?_
  refine rt_ [4,12,13,14,15] ?_
  refine srn_ ?_
  have e14:opN op X.1.1 r'=op+b01 (X.1.1.kind=13∧r'.err=0) - b01 (X.1.1.kind=16):=rfl
  first
   | rw [b01_y (p:=X.1.1.kind=13∧r'.err=0) (by omega),b01_y (p:=X.1.1.kind=16) (by omega)] at e14
   | rw [b01_y (p:=X.1.1.kind=13∧r'.err=0) (by omega),b01_n (p:=X.1.1.kind=16) (by omega)] at e14
   | rw [b01_n (p:=X.1.1.kind=13∧r'.err=0) (by omega),b01_y (p:=X.1.1.kind=16) (by omega)] at e14
   | rw [b01_n (p:=X.1.1.kind=13∧r'.err=0) (by omega),b01_n (p:=X.1.1.kind=16) (by omega)] at e14
  refine ln_ ⟨⟨n+1,X.2,r',.none,.none,opN op X.1.1 r'⟩,hE2⟩ ?_
  try dsimp only
  refine Trunc.of (by first | exact (List.append_nil _).symm | exact rfl | (rw [List.append_assoc];rfl)) ?_ (hcc _ _ _ _) (fun _ h=>h)
  refine FTr.cons (by (simp (disch:=omega) only [push_cast,↓reduceIte,Nat.reduceEqDiff,Nat.reduceAdd,Nat.reduceLeDiff,sx])<;>first | rfl | (congr 2;omega) | (rw [e14];congr 1;omega) | (exfalso;omega)) (by first | exact trivial | exact clL_rsV _ _ | (simp [AV.cl,AV.clL];done) | (simp only [AV.cl,List.length_append,List.length_cons,List.length_nil];omega)) ?_
  refine FTr.cons (by (simp (disch:=omega) only [push_cast,↓reduceIte,Nat.reduceEqDiff,Nat.reduceAdd,Nat.reduceLeDiff,sx])<;>first | rfl | (congr 2;omega) | (rw [e14];congr 1;omega) | (exfalso;omega)) (by first | exact trivial | exact clL_rsV _ _ | (simp [AV.cl,AV.clL];done) | (simp only [AV.cl,List.length_append,List.length_cons,List.length_nil];omega)) ?_
  refine FTr.cons (by (simp (disch:=omega) only [push_cast,↓reduceIte,Nat.reduceEqDiff,Nat.reduceAdd,Nat.reduceLeDiff,sx])<;>first | rfl | (congr 2;omega) | (rw [e14];congr 1;omega) | (exfalso;omega)) (by first | exact trivial | exact clL_rsV _ _ | (simp [AV.cl,AV.clL];done) | (simp only [AV.cl,List.length_append,List.length_cons,List.length_nil];omega)) ?_
  refine FTr.cons (by (simp (disch:=omega) only [push_cast,↓reduceIte,Nat.reduceEqDiff,Nat.reduceAdd,Nat.reduceLeDiff,sx])<;>first | rfl | (congr 2;omega) | (rw [e14];congr 1;omega) | (exfalso;omega)) (by first | exact trivial | exact clL_rsV _ _ | (simp [AV.cl,AV.clL];done) | (simp only [AV.cl,List.length_append,List.length_cons,List.length_nil];omega)) ?_
  refine FTr.cons (by (simp (disch:=omega) only [push_cast,↓reduceIte,Nat.reduceEqDiff,Nat.reduceAdd,Nat.reduceLeDiff,sx])<;>first | rfl | (congr 2;omega) | (rw [e14];congr 1;omega) | (exfalso;omega)) (by first | exact trivial | exact clL_rsV _ _ | (simp [AV.cl,AV.clL];done) | (simp only [AV.cl,List.length_append,List.length_cons,List.length_nil];omega)) ?_
  exact FTr.nil
 refine skp_ ?_
 refine hK5 _ ?_
 refine rt_ [4,12,13,14,15] ?_
 refine srn_ ?_
 have e14:opN op X.1.1 r'=op+b01 (X.1.1.kind=13∧r'.err=0) - b01 (X.1.1.kind=16):=rfl
 first
  | rw [b01_y (p:=X.1.1.kind=13∧r'.err=0) (by omega),b01_y (p:=X.1.1.kind=16) (by omega)] at e14
  | rw [b01_y (p:=X.1.1.kind=13∧r'.err=0) (by omega),b01_n (p:=X.1.1.kind=16) (by omega)] at e14
  | rw [b01_n (p:=X.1.1.kind=13∧r'.err=0) (by omega),b01_y (p:=X.1.1.kind=16) (by omega)] at e14
  | rw [b01_n (p:=X.1.1.kind=13∧r'.err=0) (by omega),b01_n (p:=X.1.1.kind=16) (by omega)] at e14
 refine ln_ ⟨⟨n+1,X.2,r',.none,.none,opN op X.1.1 r'⟩,hE2⟩ ?_
 try dsimp only
 refine Trunc.of (by first | exact (List.append_nil _).symm | exact rfl | (rw [List.append_assoc];rfl)) ?_ (hcc _ _ _ _) (fun _ h=>h)
 refine FTr.cons (by (simp (disch:=omega) only [push_cast,↓reduceIte,Nat.reduceEqDiff,Nat.reduceAdd,Nat.reduceLeDiff,sx])<;>first | rfl | (congr 2;omega) | (rw [e14];congr 1;omega) | (exfalso;omega)) (by first | exact trivial | exact clL_rsV _ _ | (simp [AV.cl,AV.clL];done) | (simp only [AV.cl,List.length_append,List.length_cons,List.length_nil];omega)) ?_
 refine FTr.cons (by (simp (disch:=omega) only [push_cast,↓reduceIte,Nat.reduceEqDiff,Nat.reduceAdd,Nat.reduceLeDiff,sx])<;>first | rfl | (congr 2;omega) | (rw [e14];congr 1;omega) | (exfalso;omega)) (by first | exact trivial | exact clL_rsV _ _ | (simp [AV.cl,AV.clL];done) | (simp only [AV.cl,List.length_append,List.length_cons,List.length_nil];omega)) ?_
 refine FTr.cons (by (simp (disch:=omega) only [push_cast,↓reduceIte,Nat.reduceEqDiff,Nat.reduceAdd,Nat.reduceLeDiff,sx])<;>first | rfl | (congr 2;omega) | (rw [e14];congr 1;omega) | (exfalso;omega)) (by first | exact trivial | exact clL_rsV _ _ | (simp [AV.cl,AV.clL];done) | (simp only [AV.cl,List.length_append,List.length_cons,List.length_nil];omega)) ?_
 refine FTr.cons (by (simp (disch:=omega) only [push_cast,↓reduceIte,Nat.reduceEqDiff,Nat.reduceAdd,Nat.reduceLeDiff,sx])<;>first | rfl | (congr 2;omega) | (rw [e14];congr 1;omega) | (exfalso;omega)) (by first | exact trivial | exact clL_rsV _ _ | (simp [AV.cl,AV.clL];done) | (simp only [AV.cl,List.length_append,List.length_cons,List.length_nil];omega)) ?_
 refine FTr.cons (by (simp (disch:=omega) only [push_cast,↓reduceIte,Nat.reduceEqDiff,Nat.reduceAdd,Nat.reduceLeDiff,sx])<;>first | rfl | (congr 2;omega) | (rw [e14];congr 1;omega) | (exfalso;omega)) (by first | exact trivial | exact clL_rsV _ _ | (simp [AV.cl,AV.clL];done) | (simp only [AV.cl,List.length_append,List.length_cons,List.length_nil];omega)) ?_
 exact FTr.nil
end Go.Proofs.YtmgnbgniikjhdaaGreat
