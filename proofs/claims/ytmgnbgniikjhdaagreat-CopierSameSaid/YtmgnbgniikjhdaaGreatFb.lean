import Derived.Test.YtmgnbgniikjhdaaGreatFa
import Derived.Orders
import Derived.ProofKit
import Derived.Deep.Slices
import Derived.SizedLaws
/-
  THE FRAMEWORK, 6: a region, in the order of its text; and in any order that its edges allow.
-/
set_option linter.unusedVariables false
set_option linter.unusedSimpArgs false
namespace Go.Ab
open Go.RowKit
inductive Kind where
 | p | r | w
 | f
 | g
 | s
 deriving DecidableEq
structure RQ where
 b:Bool:=false
 T:List (Nat×Nat×TK):=[]
 F:List Tmp:=[]
 G:List Tmp:=[]
 A:List Tmp:=[]
 C:List Tmp:=[]
 N:Nat:=0
def isNilS:Operand→Bool
 | .const (.slice none 0 0)=>true
 | _=>false
def kindOp (q:Bool):Op→Kind
 | .binOp _ _ x y _=>if isNilS x||isNilS y then .w else .p
 | .load .. | .lookup .. => .r
 | .store .. | .alloc .. | .box .. | .mapUpdate .. | .insert .. | .makeMap .. | .makeSlice .. | .entryStore .. | .mapEntry .. | .range .. | .next .. | .entry .. | .ready .. | .waits ..
 | .go .. | .defer .. | .panic .. | .send .. | .recv .. | .select .. => .w
 | .call { callee:=.builtin b,.. }=>match b with
  | .len | .cap | .min | .max=>.p
  | _=>.w
 | .call _=>if q then .r else .w
 | _=>.p
def fload (q:RQ) (o:Oper):Bool:=
 match o.op,o.dst with
 | .load _ _,some t=>q.F.contains t
 | _, _=>false
def gst (q:RQ) (o:Oper):Bool:=
 match o.op with
 | .store _ (.tmp a) _=>q.G.contains a
 | .alloc _=>match o.dst with
  | some t=>q.A.contains t
  | none=>false
 | .box _ _=>match o.dst with
  | some t=>q.A.contains t
  | none=>false
 | .buildSlice _ _ _=>match o.dst with
  | some t=>q.A.contains t
  | none=>false
 | .convert _ _ _=>match o.dst with
  | some t=>q.A.contains t
  | none=>false
 | .makeSlice _ _ _=>match o.dst with
  | some t=>q.A.contains t
  | none=>false
 | .call { callee:=.value _,.. }=>match o.dst with
  | some t=>q.A.contains t
  | none=>false
 | _=>false
def scall (q:RQ) (o:Oper):Bool:=
 match o.op with
 | .call { callee:=.value _,.. }=>match o.dst with
  | some t=>q.C.contains t
  | none=>false
 | _=>false
def kindOf (q:RQ) (o:Oper):Kind:=if fload q o then .f else if gst q o then .g else if scall q o then .s else kindOp q.b o.op
def floadOf (P:Program) (T:List (Nat×Nat×TK)) (fr:Nat→AV) (h:List Blk) (o:Oper):Option AV:=
 match o.op with
 | .load t a=>match tk P t with
  | some k=>match ev fr a with
   | .ptr b off=>if (b,off,k)∈T then aload P t h (.ptr b off) else none
   | .eptr c off=>aload P t h (.eptr c off)
   | _=>none
  | none=>none
 | _=>none
def stab (P:Program) (T:List (Nat×Nat×TK)) (h h':List Blk):Prop:=∀b off k t,(b,off,k)∈T→tk P t=some k→aload P t h' (.ptr b off)=aload P t h (.ptr b off)
def stN (N:Nat) (h h':List Blk):Prop:=∀k,k<N→h'[k]? = h[k]?
def St (P:Program) (q:RQ) (h h':List Blk):Prop:=stab P q.T h h'∧stN q.N h h'
theorem stN.trans {N:Nat} {h h' h'':List Blk} (a:stN N h h') (b:stN N h' h''):stN N h h'':=fun k hk=>(b k hk).trans (a k hk)
theorem stab.refl {P:Program} {T:List (Nat×Nat×TK)} (h:List Blk):stab P T h h:=fun _ _ _ _ _ _=>rfl
theorem St.refl {P:Program} {q:RQ} (h:List Blk):St P q h h:=⟨stab.refl h,fun _ _=>rfl⟩
theorem floadOf_stab {P:Program} {T:List (Nat×Nat×TK)} {fr:Nat→AV} {h h':List Blk} {o:Oper} (hs:stab P T h h'):floadOf P T fr h' o=floadOf P T fr h o:=by
 unfold floadOf
 split
 ·
  rename_i t a _
  split
  ·
   rename_i k hk
   split
   ·
    rename_i b off _
    split
    · exact hs b off k t (by assumption) hk
    · rfl
   ·
    rename_i c off _
    unfold aload
    rw [hk]
   · rfl
  · rfl
 · rfl
theorem floadOf_step {P:Program} {T:List (Nat×Nat×TK)} {fr:Nat→AV} {h:List Blk} {o:Oper} {x:AV} (hx:floadOf P T fr h o=some x):astepH P fr h o=some (x,h):=by
 obtain ⟨dst,op,ty,pos,after,guard⟩:=o
 unfold floadOf at hx
 simp only [] at hx
 split at hx
 ·
  rename_i t a
  simp only [astepH]
  split at hx
  ·
   split at hx
   ·
    rename_i b off hb
    split at hx
    · rw [hb,hx]
    · simp at hx
   ·
    rename_i c off hb
    rw [hb,hx]
   · simp at hx
  · simp at hx
 · simp at hx
def gval (fr:Nat→AV) (t:Option Tmp):Option (Option Bool):=
 match t with
 | none=>some none
 | some t=>match fr t with
  | .bool b=>some (some b)
  | .tup []=>some none
  | _=>none
def dwant (gd:Nat→Option Tmp) (fr:Nat→AV) (o:Oper):Option Bool:=
 match o.guard with
 | none=>some true
 | some (j,want)=>(gval fr (gd j)).map fun b=>b==some want
def dstOk (n:Nat) (d:Option Tmp):Bool:=match d with
 | none=>true
 | some t=>decide (t<n)
def dop (P:Program) (q:RQ) (fr:Nat→AV) (h:List Blk) (live:List Nat) (o:Oper) (K:KT):Prop:=
 match kindOf q o with
 | .p=>∃x,astepP P fr o=some x∧K x h live
 | .r=>∃x,AOp P fr h live o (ret x h live)∧K x h live
 | .w=>AOp P fr h live o K
 | .f=>∃x,floadOf P q.T fr h o=some x∧K x h live
 | .g=>AOp P fr h live o fun x h' l'=>St P q h h'∧K x h' l'
 | .s=>∃x,(∀h' l',stN q.N h h'→AOp P fr h' l' o (ret x h' l'))∧K x h live
def dstep (P:Program) (q:RQ) (gd:Nat→Option Tmp) (fr:Nat→AV) (h:List Blk) (live:List Nat) (o:Oper) (K:KT):Prop:=
 match dwant gd fr o with
 | some true=>dop P q fr h live o K
 | some false=>K (.tup []) h live
 | none=>False
abbrev FT:=(Nat→AV)→List Blk→List Nat→Prop
def dawp (P:Program) (q:RQ) (gd:Nat→Option Tmp) (n:Nat):List Oper→(Nat→AV)→List Blk→List Nat→FT→Prop
 | [],fr,h,live,Q=>Q fr h live
 | o::os,fr,h,live,Q=>dstOk n o.dst=true∧dstep P q gd fr h live o fun x h' live'=>dawp P q gd n os (upd fr o.dst x) h' live' Q
section
variable {P:Program} {q:RQ} {gd:Nat→Option Tmp} {n:Nat}
theorem dop.mono {fr:Nat→AV} {h:List Blk} {live:List Nat} {o:Oper} {K K':KT} (hk:∀x h l,K x h l→K' x h l) (hd:dop P q fr h live o K):dop P q fr h live o K':=by
 unfold dop at *
 split at hd
 · obtain ⟨x,h1,h2⟩:=hd;exact ⟨x,h1,hk _ _ _ h2⟩
 · obtain ⟨x,h1,h2⟩:=hd;exact ⟨x,h1,hk _ _ _ h2⟩
 · exact hd.mono hk
 · obtain ⟨x,h1,h2⟩:=hd;exact ⟨x,h1,hk _ _ _ h2⟩
 · exact hd.mono fun x h' l' k=>⟨k.1,hk _ _ _ k.2⟩
 · obtain ⟨x,h1,h2⟩:=hd;exact ⟨x,h1,hk _ _ _ h2⟩
theorem dstep.mono {fr:Nat→AV} {h:List Blk} {live:List Nat} {o:Oper} {K K':KT} (hk:∀x h l,K x h l→K' x h l) (hd:dstep P q gd fr h live o K):dstep P q gd fr h live o K':=by
 unfold dstep at *
 split at hd
 · exact dop.mono hk hd
 · exact hk _ _ _ hd
 · exact hd
theorem dawp.mono {Q Q':FT} (hq:∀f h l,Q f h l→Q' f h l):∀(os:List Oper) (fr:Nat→AV) (h:List Blk) (live:List Nat),dawp P q gd n os fr h live Q→dawp P q gd n os fr h live Q'
 | [], _, _, _,hd=>hq _ _ _ hd
 | o::os, _, _, _,hd=>⟨hd.1,dstep.mono (fun _ _ _ k=>dawp.mono hq os _ _ _ k) hd.2⟩
theorem dop.toAOp {fr:Nat→AV} {h:List Blk} {live:List Nat} {o:Oper} {K:KT} (hd:dop P q fr h live o K):AOp P fr h live o K:=by
 unfold dop at hd
 split at hd
 · obtain ⟨x,h1,h2⟩:=hd;exact (astepP_sound h1 h live).mono fun y h' l' ⟨e1,e2,e3⟩=>by subst e1;subst e2;subst e3;exact h2
 · obtain ⟨x,h1,h2⟩:=hd;exact h1.mono fun y h' l' ⟨e1,e2,e3⟩=>by subst e1;subst e2;subst e3;exact h2
 · exact hd
 · obtain ⟨x,h1,h2⟩:=hd;exact (astepH_sound (floadOf_step h1)).mono fun y h' l' ⟨e1,e2,e3⟩=>by subst e1;subst e2;subst e3;exact h2
 · exact hd.mono fun _ _ _ k=>k.2
 · obtain ⟨x,h1,h2⟩:=hd;exact (h1 h live (fun _ _=>rfl)).mono fun y h' l' ⟨e1,e2,e3⟩=>by subst e1;subst e2;subst e3;exact h2
theorem floadOf_congr {T:List (Nat×Nat×TK)} {fr fr':Nat→AV} {h:List Blk} {o:Oper} (he:∀x∈o.op.operands,ev fr' x=ev fr x):floadOf P T fr' h o=floadOf P T fr h o:=by
 obtain ⟨dst,op,ty,pos,after,guard⟩:=o
 cases op<;>simp only [floadOf]
 rename_i t a
 rw [he a (by simp [Op.operands])]
theorem dop.congr {fr fr':Nat→AV} {h:List Blk} {live:List Nat} {o:Oper} {K:KT} (he:∀x∈o.op.operands,ev fr' x=ev fr x) (hd:dop P q fr h live o K):dop P q fr' h live o K:=by
 unfold dop at *
 split at hd
 · obtain ⟨x,h1,h2⟩:=hd;exact ⟨x,by rw [astepP_congr he];exact h1,h2⟩
 · obtain ⟨x,h1,h2⟩:=hd;exact ⟨x,h1.congr he,h2⟩
 · exact hd.congr he
 · obtain ⟨x,h1,h2⟩:=hd;exact ⟨x,by rw [floadOf_congr he];exact h1,h2⟩
 · exact hd.congr he
 · obtain ⟨x,h1,h2⟩:=hd;exact ⟨x,fun h' l' hs=>(h1 h' l' hs).congr he,h2⟩
def gdOf (ops:Array Oper):Nat→Option Tmp:=fun j=>(ops[j]?).bind (·.dst)
theorem operand_looks {ops:Array Oper} {o:Oper} {t:Tmp} (h:(Operand.tmp t)∈o.op.operands):t∈o.looksAt ops:=by
 unfold Oper.looksAt
 refine List.mem_append.2 (.inl ?_)
 exact List.mem_filterMap.2 ⟨.tmp t,by simpa using h,rfl⟩
theorem ev_apart {ops:Array Oper} {d:Option Tmp} {y:Oper} (h:∀t,d=some t→t∉y.looksAt ops) {fr:Nat→AV} {v:AV}:∀z∈y.op.operands,ev (upd fr d v) z=ev fr z:=by
 intro z hz
 refine ev_upd fun t ht he=>?_
 subst he
 exact h t ht (operand_looks hz)
theorem dwant_apart {ops:Array Oper} {d:Option Tmp} {y:Oper} (h:∀t,d=some t→t∉y.looksAt ops) {fr:Nat→AV} {v:AV}:dwant (gdOf ops) (upd fr d v) y=dwant (gdOf ops) fr y:=by
 unfold dwant
 cases hg:y.guard with
 | none=>rfl
 | some g=>
  obtain ⟨j,want⟩:=g
  simp only []
  congr 1
  unfold gval
  cases hj:gdOf ops j with
  | none=>rfl
  | some t=>
   have ht:t∈y.looksAt ops:=by
    unfold Oper.looksAt
    refine List.mem_append.2 (.inr ?_)
    simp only [hg]
    simpa [gdOf] using hj
   have:upd fr d v t=fr t:=by
    simp only [upd];rw [if_neg];intro e;exact h t e ht
   simp only [this]
def okKinds:Kind→Kind→Bool
 | .p, _ | _,.p | .r,.r | .r,.f | .f,.r | .f,.f | .f,.g | .g,.f | .s,.s | .s,.r | .r,.s | .s,.f | .f,.s | .s,.g=>true
 | _, _=>false
def okPair (q:RQ) (ops:Array Oper) (x y:Oper):Bool:=
 x.apart ops y&&okKinds (kindOf q x) (kindOf q y)
def pre (P:Program) (q:RQ) (gd:Nat→Option Tmp) (fr:Nat→AV) (h:List Blk) (y:Oper):Option AV:=
 match dwant gd fr y with
 | some true=>if kindOf q y=.p then astepP P fr y else if kindOf q y=.f then floadOf P q.T fr h y else none
 | some false=>some (.tup [])
 | none=>none
theorem pre_apart {ops:Array Oper} {d:Option Tmp} {y:Oper} (h:∀t,d=some t→t∉y.looksAt ops) {fr:Nat→AV} {v:AV} {hp:List Blk}:pre P q (gdOf ops) (upd fr d v) hp y=pre P q (gdOf ops) fr hp y:=by
 unfold pre
 rw [dwant_apart h,astepP_congr (ev_apart h),floadOf_congr (ev_apart h)]
theorem pre_stab {y:Oper} {fr:Nat→AV} {h h':List Blk} (hs:kindOf q y=.f→stab P q.T h h'):pre P q gd fr h' y=pre P q gd fr h y:=by
 unfold pre
 split
 ·
  split
  · rfl
  ·
   split
   · exact floadOf_stab (hs (by assumption))
   · rfl
 · rfl
 · rfl
theorem dstep_pre {fr:Nat→AV} {h:List Blk} {live:List Nat} {y:Oper} {v:AV} {K:KT} (hp:pre P q gd fr h y=some v):dstep P q gd fr h live y K↔K v h live:=by
 unfold pre at hp
 unfold dstep
 split at hp
 ·
  rename_i hw
  split at hp
  ·
   rename_i hk
   simp only [dop,hk]
   constructor
   ·
    rintro ⟨x,hx,k⟩
    rw [hp] at hx;cases hx;exact k
   · exact fun k=>⟨v,hp,k⟩
  ·
   split at hp
   ·
    rename_i hk
    simp only [dop,hk]
    constructor
    ·
     rintro ⟨x,hx,k⟩
     rw [hp] at hx;cases hx;exact k
    · exact fun k=>⟨v,hp,k⟩
   · simp at hp
 ·
  cases hp
  exact Iff.rfl
 · simp at hp
theorem dstep_congr {ops:Array Oper} {d:Option Tmp} {y:Oper} (h:∀t,d=some t→t∉y.looksAt ops) {fr:Nat→AV} {v:AV} {hp:List Blk} {live:List Nat} {K:KT} :
 dstep P q (gdOf ops) (upd fr d v) hp live y K↔dstep P q (gdOf ops) fr hp live y K:=by
 unfold dstep
 rw [dwant_apart h]
 constructor
 ·
  intro k
  split at k
  · exact dop.congr (fun z hz=>(ev_apart h z hz).symm) k
  · exact k
  · exact k
 ·
  intro k
  split at k
  · exact dop.congr (ev_apart h) k
  · exact k
  · exact k
theorem dstep.mono_stab {fr:Nat→AV} {h:List Blk} {live:List Nat} {o:Oper} {K K':KT} (hw:kindOf q o≠.w) (hk:∀x h' l,St P q h h'→K x h' l→K' x h' l) (hd:dstep P q gd fr h live o K):dstep P q gd fr h live o K':=by
 unfold dstep at *
 split at hd
 ·
  unfold dop at *
  split at hd
  · obtain ⟨x,h1,h2⟩:=hd;exact ⟨x,h1,hk _ _ _ (St.refl h) h2⟩
  · obtain ⟨x,h1,h2⟩:=hd;exact ⟨x,h1,hk _ _ _ (St.refl h) h2⟩
  · exact absurd (by assumption) hw
  · obtain ⟨x,h1,h2⟩:=hd;exact ⟨x,h1,hk _ _ _ (St.refl h) h2⟩
  · exact hd.mono fun x h' l' k=>⟨k.1,hk _ _ _ k.1 k.2⟩
  · obtain ⟨x,h1,h2⟩:=hd;exact ⟨x,h1,hk _ _ _ (St.refl h) h2⟩
 · exact hk _ _ _ (St.refl h) hd
 · exact hd
theorem hoist {ops:Array Oper} {Q:FT} {y:Oper} {v:AV} (hy:dstOk n y.dst=true) (l2:List Oper):∀(l1:List Oper) (fr:Nat→AV) (h:List Blk) (live:List Nat),(∀x∈l1,okPair q ops x y=true) →
 pre P q (gdOf ops) fr h y=some v→dawp P q (gdOf ops) n (l1++y::l2) fr h live Q→dawp P q (gdOf ops) n (l1++l2) (upd fr y.dst v) h live Q
 | [],fr,h,live, _,hp,hd=>(dstep_pre hp).1 hd.2
 | x::l1,fr,h,live,hok,hp,hd=>by
  have hx:=hok x (by simp)
  unfold okPair at hx
  rw [Bool.and_eq_true] at hx
  obtain ⟨a1,a2,a3⟩:=Oper.apart_spec hx.1
  have go:∀u h' l',(kindOf q y=.f→stab P q.T h h')→dawp P q (gdOf ops) n (l1++y::l2) (upd fr x.dst u) h' l' Q→dawp P q (gdOf ops) n (l1++l2) (upd (upd fr y.dst v) x.dst u) h' l' Q:=by
   intro u h' l' hs k
   have:=hoist hy l2 l1 (upd fr x.dst u) h' l' (fun z hz=>hok z (by simp [hz])) (by rw [pre_apart a1,pre_stab hs];exact hp) k
   rw [upd_comm fr y.dst x.dst v u (fun t h1 h2=>a2 t h2 h1)]
   exact this
  refine ⟨hd.1,(dstep_congr a3).2 ?_⟩
  by_cases hf:kindOf q y=.f
  ·
   refine hd.2.mono_stab ?_ fun u h' l' hs k=>go u h' l' (fun _=>hs.1) k
   intro e
   have:=hx.2
   rw [e,hf] at this
   exact Bool.noConfusion this
  · exact hd.2.mono fun u h' l' k=>go u h' l' (fun e=>absurd e hf) k
theorem front {ops:Array Oper} {Q:FT} {y:Oper} (l2:List Oper):∀(l1:List Oper) (fr:Nat→AV) (h:List Blk) (live:List Nat),(∀x∈l1,okPair q ops x y=true∧kindOf q y≠.p∧kindOf q y≠.f) →
 dawp P q (gdOf ops) n (l1++y::l2) fr h live Q→dawp P q (gdOf ops) n (y::(l1++l2)) fr h live Q
 | [],fr,h,live, _,hd=>hd
 | x::l1,fr,h,live,hok,hd=>by
  obtain ⟨hx,hyp,hyf⟩:=hok x (by simp)
  unfold okPair at hx
  rw [Bool.and_eq_true] at hx
  obtain ⟨hap,hk⟩:=hx
  obtain ⟨a1,a2,a3⟩:=Oper.apart_spec hap
  have hx1:=hd.1
  have hx2:=hd.2
  have key:∃u,dawp P q (gdOf ops) n (l1++y::l2) (upd fr x.dst u) h live Q ∧
   (
    (∀ {h':List Blk} {l':List Nat} {K:KT},K u h' l'→dstep P q (gdOf ops) fr h' l' x K) ∨
    ((kindOf q y=.r∨kindOf q y=.s)∧∀ {K:KT},K u h live→dstep P q (gdOf ops) fr h live x K) ∨
    (kindOf q y=.g∧∀ {h':List Blk} {l':List Nat} {K:KT},St P q h h'→K u h' l'→dstep P q (gdOf ops) fr h' l' x K)):=by
   unfold dstep at hx2
   cases hw:dwant (gdOf ops) fr x with
   | none=>rw [hw] at hx2;exact hx2.elim
   | some b=>
    cases b with
    | false=>
     rw [hw] at hx2
     exact ⟨.tup [],hx2,.inl fun kk=>by unfold dstep;rw [hw];exact kk⟩
    | true=>
     rw [hw] at hx2
     simp only [] at hx2
     cases hkx:kindOf q x with
     | p=>
      simp only [dop,hkx] at hx2
      obtain ⟨u,hu,k⟩:=hx2
      exact ⟨u,k,.inl fun kk=>by unfold dstep;rw [hw];simp only [dop,hkx];exact ⟨u,hu,kk⟩⟩
     | r=>
      have hyr:kindOf q y=.r∨kindOf q y=.s:=by
       rw [hkx] at hk
       cases hky:kindOf q y<;>rw [hky] at hk hyp hyf<;>first | exact .inl rfl | exact .inr rfl | exact Bool.noConfusion hk | exact absurd rfl hyp | exact absurd rfl hyf
      simp only [dop,hkx] at hx2
      obtain ⟨u,hu,k⟩:=hx2
      exact ⟨u,k,.inr (.inl ⟨hyr,fun kk=>by unfold dstep;rw [hw];simp only [dop,hkx];exact ⟨u,hu,kk⟩⟩)⟩
     | f=>
      simp only [dop,hkx] at hx2
      obtain ⟨u,hu,k⟩:=hx2
      rw [hkx] at hk
      cases hky:kindOf q y with
      | p=>exact absurd hky hyp
      | f=>exact absurd hky hyf
      | w=>rw [hky] at hk;exact Bool.noConfusion hk
      | r=>exact ⟨u,k,.inr (.inl ⟨.inl rfl,fun kk=>by unfold dstep;rw [hw];simp only [dop,hkx];exact ⟨u,hu,kk⟩⟩)⟩
      | s=>exact ⟨u,k,.inr (.inl ⟨.inr rfl,fun kk=>by unfold dstep;rw [hw];simp only [dop,hkx];exact ⟨u,hu,kk⟩⟩)⟩
      | g=>exact ⟨u,k,.inr (.inr ⟨rfl,fun hs kk=>by unfold dstep;rw [hw];simp only [dop,hkx];exact ⟨u,by rw [floadOf_stab hs.1];exact hu,kk⟩⟩)⟩
     | s=>
      simp only [dop,hkx] at hx2
      obtain ⟨u,hu,k⟩:=hx2
      rw [hkx] at hk
      cases hky:kindOf q y with
      | p=>exact absurd hky hyp
      | f=>exact absurd hky hyf
      | w=>rw [hky] at hk;exact Bool.noConfusion hk
      | r=>exact ⟨u,k,.inr (.inl ⟨.inl rfl,fun kk=>by unfold dstep;rw [hw];simp only [dop,hkx];exact ⟨u,hu,kk⟩⟩)⟩
      | s=>exact ⟨u,k,.inr (.inl ⟨.inr rfl,fun kk=>by unfold dstep;rw [hw];simp only [dop,hkx];exact ⟨u,hu,kk⟩⟩)⟩
      | g=>exact ⟨u,k,.inr (.inr ⟨rfl,fun hs kk=>by unfold dstep;rw [hw];simp only [dop,hkx];exact ⟨u,fun h2 l2 hs2=>hu h2 l2 (hs.2.trans hs2),kk⟩⟩)⟩
     | w=>
      rw [hkx] at hk
      cases hky:kindOf q y<;>rw [hky] at hk hyp hyf<;>first | exact Bool.noConfusion hk | exact absurd rfl hyp | exact absurd rfl hyf
     | g=>
      rw [hkx] at hk
      cases hky:kindOf q y<;>rw [hky] at hk hyp hyf<;>first | exact Bool.noConfusion hk | exact absurd rfl hyp | exact absurd rfl hyf
  obtain ⟨u,hd',hkind⟩:=key
  have ih:=front l2 l1 (upd fr x.dst u) h live (fun z hz=>hok z (by simp [hz])) hd'
  refine ⟨ih.1,?_⟩
  have ih2:=(dstep_congr (P:=P) (q:=q) (ops:=ops) (d:=x.dst) (y:=y) (fr:=fr) (v:=u) (hp:=h) (live:=live) a1).1 ih.2
  have hyr:kindOf q y=.r∨kindOf q y=.s→∀ {K K':KT},(∀v,K v h live→K' v h live)→dstep P q (gdOf ops) fr h live y K→dstep P q (gdOf ops) fr h live y K':=by
   intro hr K K' hkk hs
   unfold dstep at *
   split at hs
   ·
    rcases hr with hr | hr
    ·
     simp only [dop,hr] at *
     obtain ⟨v,hv,k⟩:=hs
     exact ⟨v,hv,hkk v k⟩
    ·
     simp only [dop,hr] at *
     obtain ⟨v,hv,k⟩:=hs
     exact ⟨v,hv,hkk v k⟩
   · exact hkk _ hs
   · exact hs
  rcases hkind with hs | ⟨hr,hs⟩ | ⟨hg,hs⟩
  ·
   refine ih2.mono fun v h' l' k=>⟨hx1,(dstep_congr a3).2 (hs ?_)⟩
   rw [upd_comm fr y.dst x.dst v u (fun t h1 h2=>a2 t h2 h1)]
   exact k
  ·
   refine hyr hr (fun v k=>⟨hx1,(dstep_congr a3).2 (hs ?_)⟩) ih2
   rw [upd_comm fr y.dst x.dst v u (fun t h1 h2=>a2 t h2 h1)]
   exact k
  ·
   refine ih2.mono_stab (by rw [hg];decide) fun v h' l' hst k=>⟨hx1,(dstep_congr a3).2 (hs hst ?_)⟩
   rw [upd_comm fr y.dst x.dst v u (fun t h1 h2=>a2 t h2 h1)]
   exact k
theorem AUpon.not_false {r:Result Next} (h:AUpon P (fun _ _=>False) r):False:=by
 cases r with
 | halt x w=>exact h
 | ok nx w=>
  cases nx<;>simp only [AUpon] at h
  obtain ⟨e,w',fr,⟨v, _,hf⟩, _⟩:=h []
  exact hf
theorem AUpon.exists {post:Value→World→Prop} {r:Result Next} (h:AUpon P post r):∃v w,post v w:=by
 apply Classical.byContradiction
 intro hn
 exact AUpon.not_false (h.mono fun v w hp=>hn ⟨v,w,hp⟩)
theorem AOp.run {w:World} {G:Gh} {a:Act} {S:AS} {o:Oper} {K:KT} (hs:SRel w G a S) (ha:AOp P S.fr S.h S.live o K):AUpon P (Post w G S.live K) ((execOp a.eval o).run P w):=
 ha w G a.eval (fun _=>rfl) (fun x _=>hs.ev x) hs.heap
theorem dstOk_lt {d:Option Tmp} (h:dstOk n d=true):∀t,d=some t→t<n:=by
 intro t ht
 subst ht
 simpa [dstOk] using h
theorem gval_yields {w:World} {G:Gh} {a:Act} {S:AS} (hs:SRel w G a S) {ops:Array Oper} {j:Nat} {b:Option Bool} (h:gval S.fr (gdOf ops j)=some b):yielded ops a.tmps j=b:=by
 unfold gval at h
 unfold yielded
 cases hg:gdOf ops j with
 | none=>
  rw [hg] at h
  cases h
  have:(ops[j]?).bind (·.dst)=none:=hg
  rw [this]
  rfl
 | some t=>
  rw [hg] at h
  simp only [] at h
  have hd:(ops[j]?).bind (·.dst)=some t:=hg
  rw [hd]
  simp only [Option.bind_some]
  have hr:=hs.fr t
  by_cases hlt:t<a.tmps.size
  ·
   have e:a.tmps.getD t undef=a.tmps[t]:=by simp [hlt]
   rw [e] at hr
   rw [Array.getElem?_eq_getElem hlt]
   split at h
   ·
    rename_i b' hb
    cases h
    rw [hb] at hr
    generalize a.tmps[t]=v at hr
    cases hr;rfl
   ·
    rename_i hb
    cases h
    rw [hb] at hr
    generalize a.tmps[t]=v at hr
    cases hr;rfl
   · simp at h
  ·
   have e:a.tmps.getD t undef=undef:=by simp [hlt]
   rw [e] at hr
   rw [Array.getElem?_eq_none (Nat.le_of_not_lt hlt)]
   split at h
   ·
    rename_i b' hb
    rw [hb] at hr
    cases hr
   · cases h;rfl
   · simp at h
theorem dwant_wanted {w:World} {G:Gh} {a:Act} {S:AS} (hs:SRel w G a S) {ops:Array Oper} {o:Oper} {b:Bool} (h:dwant (gdOf ops) S.fr o=some b):Region.wanted o (yielded ops a.tmps)=b:=by
 unfold dwant at h
 unfold Region.wanted
 split at h
 · rename_i hg;rw [hg];cases h;rfl
 ·
  rename_i j want hg
  rw [hg]
  simp only [] at h ⊢
  cases hv:gval S.fr (gdOf ops j) with
  | none=>rw [hv] at h;simp at h
  | some y=>
   rw [hv] at h
   simp only [Option.map_some,Option.some.injEq] at h
   rw [gval_yields hs hv]
   exact h
theorem dstep.wp {w:World} {G:Gh} {a:Act} {S:AS} (hs:SRel w G a S) {ops:Array Oper} {i:Nat} {o:Oper} (ho:ops[i]? = some o) (hd:dstOk S.n o.dst=true) {K:KT} (h:dstep P q (gdOf ops) S.fr S.h S.live o K)
 {Q:Exit→Act→World→Prop} {next:Act→World→Prop} (hn:∀x h' live' w' G' a',K x h' live'→SRel w' G' a' ⟨S.n,upd S.fr o.dst x,h',live'⟩→Evo w G S.live w' G' live'→next a' w'):Go.wpOp P ops Q i next a w:=by
 unfold Go.wpOp
 rw [ho]
 simp only []
 unfold dstep at h
 cases hw:dwant (gdOf ops) S.fr o with
 | none=>rw [hw] at h;exact h.elim
 | some b=>
  rw [hw] at h
  have hwt:=dwant_wanted hs hw
  rw [hwt]
  cases b with
  | false=>
   simp only [Bool.false_eq_true,if_false]
   exact hn _ _ _ w G _ h (hs.put (dstOk_lt hd) (.tup [] [] rfl (by simp)) hs.heap (Evo.refl _ _ _)) (Evo.refl _ _ _)
  | true=>
   simp only [if_true]
   refine .inl ?_
   have hr:=(dop.toAOp h).run hs
   unfold Oper.wp
   generalize (execOp a.eval o).run P w=r at hr
   cases r with
   | halt x w'=>exact hr.elim
   | ok nx w'=>
    cases nx<;>simp only [AUpon] at hr<;>first
     | exact hr.elim
     | skip
    ·
     obtain ⟨x,h',live',G',k,hx,hh,he⟩:=hr
     exact hn _ _ _ w' G' _ k (hs.put (dstOk_lt hd) hx hh he) he
    ·
     obtain ⟨x,h',live',G',k,hx,hh,he⟩:=hr
     exact hn _ _ _ w' G' _ k (hs.put (dstOk_lt hd) hx hh he) he
    ·
     refine Calls.mono hr fun e w'' hpost=>?_
     obtain ⟨v,rfl,x,h',live',G',k,hx,hh,he⟩:=hpost
     exact hn _ _ _ w'' G' _ k (hs.put (dstOk_lt hd) hx hh he) he
theorem dstep.some {w:World} {G:Gh} {a:Act} {S:AS} (hs:SRel w G a S) {o:Oper} (hd:dstOk S.n o.dst=true) {K:KT} (h:dstep P q gd S.fr S.h S.live o K) :
 ∃x h' live' w' G' a',K x h' live'∧SRel w' G' a' ⟨S.n,upd S.fr o.dst x,h',live'⟩:=by
 unfold dstep at h
 cases hw:dwant gd S.fr o with
 | none=>rw [hw] at h;exact h.elim
 | some b=>
  rw [hw] at h
  cases b with
  | false=>exact ⟨_, _, _,w,G, _,h,hs.put (dstOk_lt hd) (.tup [] [] rfl (by simp)) hs.heap (Evo.refl _ _ _)⟩
  | true=>
   obtain ⟨v,w',x,h',live',G',k,hx,hh,he⟩:=((dop.toAOp h).run hs).exists
   exact ⟨x,h',live',w',G', _,k,hs.put (dstOk_lt hd) hx hh he⟩
theorem pre_some {w:World} {G:Gh} {a:Act} {ops:Array Oper} {Q:FT} {y:Oper} (l2:List Oper):∀(l1:List Oper) (S:AS) (w:World) (G:Gh) (a:Act),SRel w G a S→(∀x∈l1,okPair q ops x y=true) →
 dawp P q (gdOf ops) S.n (l1++y::l2) S.fr S.h S.live Q→(kindOf q y=.p∨kindOf q y=.f∨dwant (gdOf ops) S.fr y≠some true)→∃v,pre P q (gdOf ops) S.fr S.h y=some v
 | [],S,w,G,a,hs, _,hd,hk=>by
  have h2:=hd.2
  unfold dstep at h2
  unfold pre
  cases hw:dwant (gdOf ops) S.fr y with
  | none=>rw [hw] at h2;exact h2.elim
  | some b=>
   rw [hw] at h2
   cases b with
   | false=>exact ⟨_,rfl⟩
   | true=>
    rcases hk with hkp | hkf | hn
    ·
     simp only [dop,hkp] at h2
     obtain ⟨x,hx, _⟩:=h2
     exact ⟨x,by simp [hkp,hx]⟩
    ·
     simp only [dop,hkf] at h2
     obtain ⟨x,hx, _⟩:=h2
     exact ⟨x,by simp [hkf,hx]⟩
    · exact absurd hw hn
 | x::l1,S,w,G,a,hs,hok,hd,hk=>by
  have hx:=hok x (by simp)
  unfold okPair at hx
  rw [Bool.and_eq_true] at hx
  obtain ⟨a1,a2,a3⟩:=Oper.apart_spec hx.1
  have hd2:dstep P q (gdOf ops) S.fr S.h S.live x fun u h' l'=>(kindOf q y=.f→stab P q.T S.h h')∧dawp P q (gdOf ops) S.n (l1++y::l2) (upd S.fr x.dst u) h' l' Q:=by
   by_cases hf:kindOf q y=.f
   ·
    refine hd.2.mono_stab ?_ fun u h' l' hs k=>⟨fun _=>hs.1,k⟩
    intro e
    have:=hx.2
    rw [e,hf] at this
    exact Bool.noConfusion this
   · exact hd.2.mono fun u h' l' k=>⟨fun e=>absurd e hf,k⟩
  obtain ⟨u,h',live',w',G',a',⟨hst,k⟩,hs'⟩:=dstep.some hs hd.1 hd2
  obtain ⟨v,hv⟩:=pre_some (w:=w) (G:=G) (a:=a) l2 l1 ⟨S.n,upd S.fr x.dst u,h',live'⟩ w' G' a' hs' (fun z hz=>hok z (by simp [hz])) k (hk.imp id (fun h=>h.imp id (fun h=>by rw [dwant_apart a1];exact h)))
  exact ⟨v,by rw [←pre_apart a1,←pre_stab hst];exact hv⟩
theorem take_front {w:World} {G:Gh} {a:Act} {S:AS} (hs:SRel w G a S) {ops:Array Oper} {Q:FT} {y:Oper} (l1 l2:List Oper) (hok:∀x∈l1,okPair q ops x y=true) (hy:dstOk S.n y.dst=true)
 (hd:dawp P q (gdOf ops) S.n (l1++y::l2) S.fr S.h S.live Q):dawp P q (gdOf ops) S.n (y::(l1++l2)) S.fr S.h S.live Q:=by
 by_cases hk:kindOf q y=.p∨kindOf q y=.f∨dwant (gdOf ops) S.fr y≠some true
 ·
  obtain ⟨v,hv⟩:=pre_some (w:=w) (G:=G) (a:=a) l2 l1 S w G a hs hok hd hk
  exact ⟨hy,(dstep_pre hv).2 (hoist hy l2 l1 S.fr S.h S.live hok hv hd)⟩
 · exact front l2 l1 S.fr S.h S.live (fun x hx=>⟨hok x hx,fun e=>hk (.inl e),fun e=>hk (.inr (.inl e))⟩) hd
end
end Go.Ab
namespace Go.Ab
open Go.RowKit
section
variable {P:Program} {q:RQ}
theorem wpOps_of_dawp {ops:Array Oper} {Q:FT} {Qa:Exit→Act→World→Prop} {n:Nat}:∀(l:List Oper) (k:Nat),(∀j,l[j]? = ops[k+j]?)→∀(S:AS) (w:World) (G:Gh) (a:Act),S.n=n→SRel w G a S →
 (∀fr h live w' G' a',Q fr h live→SRel w' G' a' ⟨n,fr,h,live⟩→Evo w G S.live w' G' live→Qa .normal a' w') →
 dawp P q (gdOf ops) n l S.fr S.h S.live Q→wpOps P ops Qa (List.range' k l.length) a w
 | [],k, _,S,w,G,a,hn,hs,hq,hd=>by
  subst hn
  exact hq _ _ _ w G a hd hs (Evo.refl _ _ _)
 | o::l,k,hj,S,w,G,a,hn,hs,hq,hd=>by
  subst hn
  rw [List.length_cons,List.range'_succ,wpOps_cons]
  have ho:ops[k]? = some o:=by simpa using (hj 0).symm
  refine dstep.wp hs ho hd.1 hd.2 fun x h' live' w' G' a' hk hs' hev=>?_
  exact wpOps_of_dawp l (k+1) (fun j=>by have:=hj (j+1);simpa [Nat.add_assoc,Nat.add_comm 1 j] using this) ⟨S.n, _,h',live'⟩ w' G' a' rfl hs' (fun fr h live w2 G2 a2 hQ hs2 hev2=>hq fr h live w2 G2 a2 hQ hs2 (hev.trans hev2)) hk
def ord (ops:Array Oper):Nat→Nat→Nat→Bool
 | 0, _, _=>false
 | f+1,j,i=>match ops[i]? with
  | some o=>o.after.any fun e=>Region.binds .any e&&(e.on==j||(decide (j<e.on)&&ord ops f j e.on))
  | none=>false
def okAll (q:RQ) (ops:Array Oper):Bool:=
 (List.range ops.size).all fun i=>match ops[i]? with
  | none=>true
  | some o=>(o.after.all fun e=>!Region.binds .any e||decide (e.on<i))&&(List.range i).all fun j=>(match ops[j]? with
   | some oj=>okPair q ops oj o
   | none=>true)||ord ops 5 j i
def Closed (ops:Array Oper) (listed:Array Bool):Prop:=∀i o,ops[i]? = some o→listed.getD i true=true→∀e∈o.after,Region.binds .any e=true→listed.getD e.on true=true
theorem ord_listed {ops:Array Oper} {listed:Array Bool} (hc:Closed ops listed):∀(f j i:Nat) (o:Oper),ops[i]? = some o→(∀e∈o.after,Region.binds .any e=true→listed.getD e.on true=true)→ord ops f j i=true→listed.getD j true=true
 | 0,j,i,o, _, _,h=>by simp [ord] at h
 | f+1,j,i,o,ho,hd,h=>by
  unfold ord at h
  rw [ho] at h
  obtain ⟨e,he,hb⟩:=Array.any_eq_true'.1 h
  simp only [Bool.and_eq_true,Bool.or_eq_true,beq_iff_eq] at hb
  have hl:=hd e he hb.1
  rcases hb.2 with e1 | ⟨_,h2⟩
  · rw [←e1];exact hl
  ·
   cases hoe:ops[e.on]? with
   | none=>cases f with
    | zero=>simp [ord] at h2
    | succ f=>unfold ord at h2;rw [hoe] at h2;simp at h2
   | some oe=>exact ord_listed hc f j e.on oe hoe (fun e2 he2 hb2=>hc e.on oe hoe hl e2 he2 hb2) h2
def rem (ops:Array Oper) (listed:Array Bool):List Nat:=(List.range ops.size).filter fun i=>!listed.getD i true
theorem filterMap_split {α β:Type} (f:α→Option β) (s t:List α) (i:α) (y:β) (h:f i=some y):(s++i::t).filterMap f=s.filterMap f++y::t.filterMap f:=by
 simp [List.filterMap_append,List.filterMap_cons,h]
theorem wpAny_of_dawp {ops:Array Oper} {Q:FT} {Qa:Exit→Act→World→Prop} {n:Nat} (hok:okAll q ops=true):∀(fuel:Nat) (listed:Array Bool) (S:AS) (w:World) (G:Gh) (a:Act),listed.size=ops.size→(rem ops listed).length=fuel→Closed ops listed→S.n=n→SRel w G a S →
 (∀fr h live w' G' a',Q fr h live→SRel w' G' a' ⟨n,fr,h,live⟩→Evo w G S.live w' G' live→Qa .normal a' w') →
 dawp P q (gdOf ops) n ((rem ops listed).filterMap (ops[·]?)) S.fr S.h S.live Q→wpAny P .any ops Qa fuel listed a w
 | 0,listed,S,w,G,a,hls,hl,hcl,hn,hs,hq,hd=>by
  subst hn
  have hr:rem ops listed=[]:=List.eq_nil_of_length_eq_zero hl
  rw [hr] at hd
  refine ⟨?_,hq _ _ _ w G a hd hs (Evo.refl _ _ _)⟩
  have:∀j,j∉Region.ready .any ops listed:=fun j hj=>by
   obtain ⟨h1,o,ho, _⟩:=mem_ready.1 hj
   have hjr:j∈rem ops listed:=List.mem_filter.2 ⟨List.mem_range.2 (Array.getElem?_eq_some_iff.1 ho).1,by rw [h1];rfl⟩
   rw [hr] at hjr;simp at hjr
  exact List.eq_nil_iff_forall_not_mem.2 this
 | fuel+1,listed,S,w,G,a,hls,hl,hcl,hn,hs,hq,hd=>by
  subst hn
  have hall:=List.all_eq_true.1 hok
  constructor
  ·
   intro hnil
   exfalso
   cases hr:rem ops listed with
   | nil=>rw [hr] at hl;simp at hl
   | cons i t=>
    have hi:i∈rem ops listed:=by rw [hr];simp
    obtain ⟨hi1,hi2⟩:=List.mem_filter.1 hi
    have hil:=List.mem_range.1 hi1
    have ho:ops[i]? = some ops[i]:=Array.getElem?_eq_getElem hil
    have hA:=hall i hi1
    rw [ho] at hA
    simp only [Bool.and_eq_true] at hA
    have hmin:∀j,j<i→listed.getD j true=true:=fun j hj=>by
     cases hb:listed.getD j true with
     | true=>rfl
     | false=>
      have hjm:j∈rem ops listed:=List.mem_filter.2 ⟨List.mem_range.2 (by omega),by rw [hb];rfl⟩
      have hsorted:(rem ops listed).Pairwise (· < ·):=List.pairwise_lt_range.filter _
      rw [hr] at hjm hsorted
      rcases List.mem_cons.1 hjm with rfl | hjt
      · omega
      · have:=(List.pairwise_cons.1 hsorted).1 j hjt;omega
    have:i∈Region.ready .any ops listed:=mem_ready.2 ⟨by simpa using hi2,ops[i],ho,fun e he hbe=>by
     have hlt0:=(Array.all_eq_true_iff_forall_mem.1 hA.1) e he
     rw [hbe] at hlt0
     have hlt:e.on<i:=by simpa using hlt0
     have hmt:=hmin e.on hlt
     have hsz:e.on<listed.size:=by omega
     simpa [hsz] using hmt⟩
    rw [hnil] at this;simp at this
  ·
   intro i hi
   obtain ⟨h1,o,ho,hdeps⟩:=mem_ready.1 hi
   have hil:i<ops.size:=(Array.getElem?_eq_some_iff.1 ho).1
   have him:i∈rem ops listed:=List.mem_filter.2 ⟨List.mem_range.2 hil,by rw [h1];rfl⟩
   obtain ⟨s,t,hst⟩:=List.append_of_mem him
   have hsorted:(rem ops listed).Pairwise (· < ·):=List.pairwise_lt_range.filter _
   rw [hst] at hsorted hl
   have hs1:∀j,j∈s→j<i:=fun j hj=>(List.pairwise_append.1 hsorted).2.2 j hj i (by simp)
   have ht1:∀j,j∈t→i<j:=fun j hj=>(List.pairwise_cons.1 (List.pairwise_append.1 hsorted).2.1).1 j hj
   have hsrem:∀j,j∈s→j∈rem ops listed:=fun j hj=>by rw [hst];simp [hj]
   rw [hst,filterMap_split (ops[·]?) s t i o ho] at hd
   have hA:=hall i (List.mem_range.2 hil)
   rw [ho] at hA
   simp only [Bool.and_eq_true] at hA
   have hpairs:∀x∈s.filterMap (ops[·]?),okPair q ops x o=true:=fun x hx=>by
    obtain ⟨j,hj,hjx⟩:=List.mem_filterMap.1 hx
    have hB:=(List.all_eq_true.1 hA.2) j (List.mem_range.2 (hs1 j hj))
    simp only [hjx] at hB
    simp only [Bool.or_eq_true] at hB
    rcases hB with hB | hB
    rotate_left
    ·
     have hjs:=ord_listed hcl 5 j i o ho (fun e he hb=>by
      have:=hdeps e he hb
      have hlt0:=(Array.all_eq_true_iff_forall_mem.1 hA.1) e he
      rw [hb] at hlt0
      have hlt:e.on<i:=by simpa using hlt0
      have hsz:e.on<listed.size:=by omega
      simpa [hsz] using this) hB
     have hj2:=(List.mem_filter.1 (hsrem j hj)).2
     rw [hjs] at hj2;simp at hj2
    · exact hB
   have hyd:dstOk S.n o.dst=true:=by
    clear hq
    have:∀(l1:List Oper) (fr:Nat→AV) (S:AS) (w:World) (G:Gh) (a:Act),SRel w G a S→dawp P q (gdOf ops) S.n (l1++o::t.filterMap (ops[·]?)) S.fr S.h S.live Q→dstOk S.n o.dst=true:=by
     intro l1
     induction l1 with
     | nil=>intro fr S w G a _ hd;exact hd.1
     | cons x l1 ih=>
      intro fr S w G a hs hd
      obtain ⟨u,h',live',w',G',a',k,hs'⟩:=dstep.some hs hd.1 hd.2
      exact ih fr ⟨S.n,upd S.fr x.dst u,h',live'⟩ w' G' a' hs' k
    exact this _ S.fr S w G a hs hd
   have hfr:=take_front hs _ _ hpairs hyd hd
   have hrem:rem ops (listed.setIfInBounds i true)=s++t:=by
    have e1:rem ops (listed.setIfInBounds i true)=(rem ops listed).filter fun j=>decide (j≠i):=by
     unfold rem
     rw [List.filter_filter]
     refine List.filter_congr fun j hj=>?_
     have hjl:=List.mem_range.1 hj
     by_cases hji:j=i
     ·
      subst hji
      have:j<listed.size:=by omega
      simp [this]
     · rw [getD_set_ne true (Ne.symm hji)];simp [hji]
    rw [e1,hst,List.filter_append,List.filter_cons]
    have e2:s.filter (fun j=>decide (j≠i))=s:=List.filter_eq_self.2 fun j hj=>by have:=hs1 j hj;simp;omega
    have e3:t.filter (fun j=>decide (j≠i))=t:=List.filter_eq_self.2 fun j hj=>by have:=ht1 j hj;simp;omega
    rw [e2,e3];simp
   refine dstep.wp hs ho hyd hfr.2 fun x h' live' w' G' a' hk hs' hev=>?_
   have hcl':Closed ops (listed.setIfInBounds i true):=by
    intro i2 o2 ho2 hl2 e he hb
    have hmono:∀m,listed.getD m true=true→(listed.setIfInBounds i true).getD m true=true:=fun m hm=>by
     by_cases hmi:i=m
     ·
      subst hmi
      by_cases hms:i<listed.size<;>simp [hms]
     · rw [getD_set_ne true hmi];exact hm
    by_cases h2:i2=i
    ·
     subst h2
     rw [ho] at ho2;cases ho2
     have hlt0:=(Array.all_eq_true_iff_forall_mem.1 hA.1) e he
     rw [hb] at hlt0
     have hlt:e.on<i2:=by simpa using hlt0
     have hsz:e.on<listed.size:=by omega
     exact hmono _ (by simpa [hsz] using hdeps e he hb)
    ·
     rw [getD_set_ne true (Ne.symm h2)] at hl2
     exact hmono _ (hcl i2 o2 ho2 hl2 e he hb)
   refine wpAny_of_dawp hok fuel _ ⟨S.n, _,h',live'⟩ w' G' a' (by simpa using hls) (by rw [hrem];simp at hl ⊢;omega) hcl' rfl hs' (fun fr h live w2 G2 a2 hQ hs2 hev2=>hq fr h live w2 G2 a2 hQ hs2 (hev.trans hev2)) ?_
   rw [hrem,List.filterMap_append]
   exact hk
def okTwo (q:RQ) (ops:Array Oper) (e0 e1:Nat):Bool:=
 (List.range ops.size).all fun i=>match ops[i]? with
  | none=>true
  | some o=>((o.after.all fun e=>!Region.binds .any e||decide (e.on<i))&&(List.range i).all fun j=>(match ops[j]? with
   | some oj=>okPair q ops oj o
   | none=>true)||ord ops 5 j i||(decide (j=e0)&&decide (i=e1)))&&(decide (i≤e0)||decide (i=e1)||ord ops 5 e0 i||ord ops 5 e1 i)
theorem wpAnyX_of_dawp {ops:Array Oper} {Q:FT} {Qa:Exit→Act→World→Prop} {n:Nat} {e0 e1:Nat} (hok:okTwo q ops e0 e1=true):∀(fuel:Nat) (listed:Array Bool) (S:AS) (w:World) (G:Gh) (a:Act),listed.size=ops.size→(rem ops listed).length=fuel→Closed ops listed→(listed.getD e0 true=true∨listed.getD e1 true=true)→S.n=n→SRel w G a S →
 (∀fr h live w' G' a',Q fr h live→SRel w' G' a' ⟨n,fr,h,live⟩→Evo w G S.live w' G' live→Qa .normal a' w') →
 dawp P q (gdOf ops) n ((rem ops listed).filterMap (ops[·]?)) S.fr S.h S.live Q→wpAny P .any ops Qa fuel listed a w
 | 0,listed,S,w,G,a,hls,hl,hcl,hex,hn,hs,hq,hd=>by
  subst hn
  have hr:rem ops listed=[]:=List.eq_nil_of_length_eq_zero hl
  rw [hr] at hd
  refine ⟨?_,hq _ _ _ w G a hd hs (Evo.refl _ _ _)⟩
  have:∀j,j∉Region.ready .any ops listed:=fun j hj=>by
   obtain ⟨h1,o,ho, _⟩:=mem_ready.1 hj
   have hjr:j∈rem ops listed:=List.mem_filter.2 ⟨List.mem_range.2 (Array.getElem?_eq_some_iff.1 ho).1,by rw [h1];rfl⟩
   rw [hr] at hjr;simp at hjr
  exact List.eq_nil_iff_forall_not_mem.2 this
 | fuel+1,listed,S,w,G,a,hls,hl,hcl,hex,hn,hs,hq,hd=>by
  subst hn
  have hall:=List.all_eq_true.1 hok
  constructor
  ·
   intro hnil
   exfalso
   cases hr:rem ops listed with
   | nil=>rw [hr] at hl;simp at hl
   | cons i t=>
    have hi:i∈rem ops listed:=by rw [hr];simp
    obtain ⟨hi1,hi2⟩:=List.mem_filter.1 hi
    have hil:=List.mem_range.1 hi1
    have ho:ops[i]? = some ops[i]:=Array.getElem?_eq_getElem hil
    have hA:=hall i hi1
    rw [ho] at hA
    simp only [Bool.and_eq_true] at hA
    have hmin:∀j,j<i→listed.getD j true=true:=fun j hj=>by
     cases hb:listed.getD j true with
     | true=>rfl
     | false=>
      have hjm:j∈rem ops listed:=List.mem_filter.2 ⟨List.mem_range.2 (by omega),by rw [hb];rfl⟩
      have hsorted:(rem ops listed).Pairwise (· < ·):=List.pairwise_lt_range.filter _
      rw [hr] at hjm hsorted
      rcases List.mem_cons.1 hjm with rfl | hjt
      · omega
      · have:=(List.pairwise_cons.1 hsorted).1 j hjt;omega
    have:i∈Region.ready .any ops listed:=mem_ready.2 ⟨by simpa using hi2,ops[i],ho,fun e he hbe=>by
     have hlt0:=(Array.all_eq_true_iff_forall_mem.1 hA.1.1) e he
     rw [hbe] at hlt0
     have hlt:e.on<i:=by simpa using hlt0
     have hmt:=hmin e.on hlt
     have hsz:e.on<listed.size:=by omega
     simpa [hsz] using hmt⟩
    rw [hnil] at this;simp at this
  ·
   intro i hi
   obtain ⟨h1,o,ho,hdeps⟩:=mem_ready.1 hi
   have hil:i<ops.size:=(Array.getElem?_eq_some_iff.1 ho).1
   have him:i∈rem ops listed:=List.mem_filter.2 ⟨List.mem_range.2 hil,by rw [h1];rfl⟩
   obtain ⟨s,t,hst⟩:=List.append_of_mem him
   have hsorted:(rem ops listed).Pairwise (· < ·):=List.pairwise_lt_range.filter _
   rw [hst] at hsorted hl
   have hs1:∀j,j∈s→j<i:=fun j hj=>(List.pairwise_append.1 hsorted).2.2 j hj i (by simp)
   have ht1:∀j,j∈t→i<j:=fun j hj=>(List.pairwise_cons.1 (List.pairwise_append.1 hsorted).2.1).1 j hj
   have hsrem:∀j,j∈s→j∈rem ops listed:=fun j hj=>by rw [hst];simp [hj]
   rw [hst,filterMap_split (ops[·]?) s t i o ho] at hd
   have hA:=hall i (List.mem_range.2 hil)
   rw [ho] at hA
   simp only [Bool.and_eq_true] at hA
   have hpairs:∀x∈s.filterMap (ops[·]?),okPair q ops x o=true:=fun x hx=>by
    obtain ⟨j,hj,hjx⟩:=List.mem_filterMap.1 hx
    have hB:=(List.all_eq_true.1 hA.1.2) j (List.mem_range.2 (hs1 j hj))
    simp only [hjx] at hB
    simp only [Bool.or_eq_true] at hB
    rcases hB with (hB | hB) | hB
    rotate_left 2
    ·
     exfalso
     simp only [Bool.and_eq_true,decide_eq_true_eq] at hB
     have hj2:=(List.mem_filter.1 (hsrem j hj)).2
     rw [hB.1] at hj2
     rw [hB.2] at h1
     rcases hex with hex | hex
     · rw [hex] at hj2;simp at hj2
     · rw [h1] at hex;exact Bool.noConfusion hex
    rotate_left
    ·
     have hjs:=ord_listed hcl 5 j i o ho (fun e he hb=>by
      have:=hdeps e he hb
      have hlt0:=(Array.all_eq_true_iff_forall_mem.1 hA.1.1) e he
      rw [hb] at hlt0
      have hlt:e.on<i:=by simpa using hlt0
      have hsz:e.on<listed.size:=by omega
      simpa [hsz] using this) hB
     have hj2:=(List.mem_filter.1 (hsrem j hj)).2
     rw [hjs] at hj2;simp at hj2
    · exact hB
   have hyd:dstOk S.n o.dst=true:=by
    clear hq
    have:∀(l1:List Oper) (fr:Nat→AV) (S:AS) (w:World) (G:Gh) (a:Act),SRel w G a S→dawp P q (gdOf ops) S.n (l1++o::t.filterMap (ops[·]?)) S.fr S.h S.live Q→dstOk S.n o.dst=true:=by
     intro l1
     induction l1 with
     | nil=>intro fr S w G a _ hd;exact hd.1
     | cons x l1 ih=>
      intro fr S w G a hs hd
      obtain ⟨u,h',live',w',G',a',k,hs'⟩:=dstep.some hs hd.1 hd.2
      exact ih fr ⟨S.n,upd S.fr x.dst u,h',live'⟩ w' G' a' hs' k
    exact this _ S.fr S w G a hs hd
   have hfr:=take_front hs _ _ hpairs hyd hd
   have hrem:rem ops (listed.setIfInBounds i true)=s++t:=by
    have e1:rem ops (listed.setIfInBounds i true)=(rem ops listed).filter fun j=>decide (j≠i):=by
     unfold rem
     rw [List.filter_filter]
     refine List.filter_congr fun j hj=>?_
     have hjl:=List.mem_range.1 hj
     by_cases hji:j=i
     ·
      subst hji
      have:j<listed.size:=by omega
      simp [this]
     · rw [getD_set_ne true (Ne.symm hji)];simp [hji]
    rw [e1,hst,List.filter_append,List.filter_cons]
    have e2:s.filter (fun j=>decide (j≠i))=s:=List.filter_eq_self.2 fun j hj=>by have:=hs1 j hj;simp;omega
    have e3:t.filter (fun j=>decide (j≠i))=t:=List.filter_eq_self.2 fun j hj=>by have:=ht1 j hj;simp;omega
    rw [e2,e3];simp
   refine dstep.wp hs ho hyd hfr.2 fun x h' live' w' G' a' hk hs' hev=>?_
   have hmono:∀m,listed.getD m true=true→(listed.setIfInBounds i true).getD m true=true:=fun m hm=>by
    by_cases hmi:i=m
    ·
     subst hmi
     by_cases hms:i<listed.size<;>simp [hms]
    · rw [getD_set_ne true hmi];exact hm
   have hcl':Closed ops (listed.setIfInBounds i true):=by
    intro i2 o2 ho2 hl2 e he hb
    by_cases h2:i2=i
    ·
     subst h2
     rw [ho] at ho2;cases ho2
     have hlt0:=(Array.all_eq_true_iff_forall_mem.1 hA.1.1) e he
     rw [hb] at hlt0
     have hlt:e.on<i2:=by simpa using hlt0
     have hsz:e.on<listed.size:=by omega
     exact hmono _ (by simpa [hsz] using hdeps e he hb)
    ·
     rw [getD_set_ne true (Ne.symm h2)] at hl2
     exact hmono _ (hcl i2 o2 ho2 hl2 e he hb)
   refine wpAnyX_of_dawp hok fuel _ ⟨S.n, _,h',live'⟩ w' G' a' (by simpa using hls) (by rw [hrem];simp at hl ⊢;omega) hcl' (hex.imp (hmono _) (hmono _)) rfl hs' (fun fr h live w2 G2 a2 hQ hs2 hev2=>hq fr h live w2 G2 a2 hQ hs2 (hev.trans hev2)) ?_
   rw [hrem,List.filterMap_append]
   exact hk
theorem dawp_app {gd:Nat→Option Tmp} {n:Nat} {Q:FT}:∀(l1 l2:List Oper) (fr:Nat→AV) (h:List Blk) (live:List Nat),dawp P q gd n l1 fr h live (fun fr h live=>dawp P q gd n l2 fr h live Q)→dawp P q gd n (l1++l2) fr h live Q
 | [],l2,fr,h,live,hd=>hd
 | o::l1,l2,fr,h,live,hd=>⟨hd.1,hd.2.mono fun x h' l' k=>dawp_app l1 l2 _ _ _ k⟩
theorem dstOk_of {ops:Array Oper} {Q:FT} {n:Nat} {o:Oper} {l2:List Oper}:∀(l1:List Oper) (S:AS) (w:World) (G:Gh) (a:Act),S.n=n→SRel w G a S→dawp P q (gdOf ops) n (l1++o::l2) S.fr S.h S.live Q→dstOk n o.dst=true
 | [],S,w,G,a,hn,hs,hd=>hd.1
 | x::l1,S,w,G,a,hn,hs,hd=>by
  subst hn
  obtain ⟨u,h',live',w',G',a',k,hs'⟩:=dstep.some hs hd.1 hd.2
  exact dstOk_of l1 ⟨S.n,upd S.fr x.dst u,h',live'⟩ w' G' a' rfl hs' k
theorem rem_set {ops:Array Oper} {listed:Array Bool} (hls:listed.size=ops.size) {i:Nat} {s t:List Nat} (hst:rem ops listed=s++i::t):rem ops (listed.setIfInBounds i true)=s++t:=by
 have hsorted:(rem ops listed).Pairwise (· < ·):=List.pairwise_lt_range.filter _
 rw [hst] at hsorted
 have hs1:∀j,j∈s→j<i:=fun j hj=>(List.pairwise_append.1 hsorted).2.2 j hj i (by simp)
 have ht1:∀j,j∈t→i<j:=fun j hj=>(List.pairwise_cons.1 (List.pairwise_append.1 hsorted).2.1).1 j hj
 have e1:rem ops (listed.setIfInBounds i true)=(rem ops listed).filter fun j=>decide (j≠i):=by
  unfold rem
  rw [List.filter_filter]
  refine List.filter_congr fun j hj=>?_
  have hjl:=List.mem_range.1 hj
  by_cases hji:j=i
  ·
   subst hji
   have:j<listed.size:=by omega
   simp [this]
  · rw [getD_set_ne true (Ne.symm hji)];simp [hji]
 rw [e1,hst,List.filter_append,List.filter_cons]
 have e2:s.filter (fun j=>decide (j≠i))=s:=List.filter_eq_self.2 fun j hj=>by have:=hs1 j hj;simp;omega
 have e3:t.filter (fun j=>decide (j≠i))=t:=List.filter_eq_self.2 fun j hj=>by have:=ht1 j hj;simp;omega
 rw [e2,e3];simp
theorem set_mono {listed:Array Bool} {i:Nat}:∀m,listed.getD m true=true→(listed.setIfInBounds i true).getD m true=true:=fun m hm=>by
 by_cases hmi:i=m
 ·
  subst hmi
  by_cases hms:i<listed.size<;>simp [hms]
 · rw [getD_set_ne true hmi];exact hm
theorem closed_set {ops:Array Oper} {listed:Array Bool} (hcl:Closed ops listed) {i:Nat} {o:Oper} (ho:ops[i]? = some o) (hdl:∀e∈o.after,Region.binds .any e=true→listed.getD e.on true=true):Closed ops (listed.setIfInBounds i true):=by
 intro i2 o2 ho2 hl2 e he hb
 by_cases h2:i2=i
 ·
  subst h2
  rw [ho] at ho2;cases ho2
  exact set_mono _ (hdl e he hb)
 ·
  rw [getD_set_ne true (Ne.symm h2)] at hl2
  exact set_mono _ (hcl i2 o2 ho2 hl2 e he hb)
theorem wpTwo_of_dawp {ops:Array Oper} {Q:FT} {Qa:Exit→Act→World→Prop} {n e0 e1:Nat} {x y:Oper} (hok:okTwo q ops e0 e1=true) (hx:ops[e0]? = some x) (hy:ops[e1]? = some y) (m t2:List Nat):∀(fuel:Nat) (s1:List Nat) (listed:Array Bool) (S:AS) (w:World) (G:Gh) (a:Act),listed.size=ops.size→(rem ops listed).length=fuel→rem ops listed=s1++e0::(m++e1::t2)→Closed ops listed→S.n=n→SRel w G a S →
 (∀fr h live w' G' a',Q fr h live→SRel w' G' a' ⟨n,fr,h,live⟩→Evo w G S.live w' G' live→Qa .normal a' w') →
 dawp P q (gdOf ops) n (s1.filterMap (ops[·]?)) S.fr S.h S.live (fun fr h live=>dawp P q (gdOf ops) n (x::(m.filterMap (ops[·]?)++y::t2.filterMap (ops[·]?))) fr h live Q∧dawp P q (gdOf ops) n (y::x::(m.filterMap (ops[·]?)++t2.filterMap (ops[·]?))) fr h live Q)→wpAny P .any ops Qa fuel listed a w
 | 0,s1,listed,S,w,G,a,hls,hl,hrem,hcl,hn,hs,hq,hd=>by
  rw [hrem] at hl;simp at hl
 | fuel+1,s1,listed,S,w,G,a,hls,hl,hrem,hcl,hn,hs,hq,hd=>by
  subst hn
  have hall:=List.all_eq_true.1 hok
  have hun:∀j,j∈rem ops listed→listed.getD j true=false:=fun j hj=>by
   have:=(List.mem_filter.1 hj).2;simpa using this
  have hu0:listed.getD e0 true=false:=hun e0 (by rw [hrem];simp)
  have hu1:listed.getD e1 true=false:=hun e1 (by rw [hrem];simp)
  constructor
  ·
   intro hnil
   exfalso
   cases hr:rem ops listed with
   | nil=>rw [hr] at hl;simp at hl
   | cons i t=>
    have hi:i∈rem ops listed:=by rw [hr];simp
    obtain ⟨hi1,hi2⟩:=List.mem_filter.1 hi
    have hil:=List.mem_range.1 hi1
    have ho:ops[i]? = some ops[i]:=Array.getElem?_eq_getElem hil
    have hA:=hall i hi1
    rw [ho] at hA
    simp only [Bool.and_eq_true] at hA
    have hmin:∀j,j<i→listed.getD j true=true:=fun j hj=>by
     cases hb:listed.getD j true with
     | true=>rfl
     | false=>
      have hjm:j∈rem ops listed:=List.mem_filter.2 ⟨List.mem_range.2 (by omega),by rw [hb];rfl⟩
      have hsorted:(rem ops listed).Pairwise (· < ·):=List.pairwise_lt_range.filter _
      rw [hr] at hjm hsorted
      rcases List.mem_cons.1 hjm with rfl | hjt
      · omega
      · have:=(List.pairwise_cons.1 hsorted).1 j hjt;omega
    have:i∈Region.ready .any ops listed:=mem_ready.2 ⟨by simpa using hi2,ops[i],ho,fun e he hbe=>by
     have hlt0:=(Array.all_eq_true_iff_forall_mem.1 hA.1.1) e he
     rw [hbe] at hlt0
     have hlt:e.on<i:=by simpa using hlt0
     have hmt:=hmin e.on hlt
     have hsz:e.on<listed.size:=by omega
     simpa [hsz] using hmt⟩
    rw [hnil] at this;simp at this
  ·
   intro i hi
   obtain ⟨h1,o,ho,hdeps⟩:=mem_ready.1 hi
   have hil:i<ops.size:=(Array.getElem?_eq_some_iff.1 ho).1
   have him:i∈rem ops listed:=List.mem_filter.2 ⟨List.mem_range.2 hil,by rw [h1];rfl⟩
   have hsorted:(rem ops listed).Pairwise (· < ·):=List.pairwise_lt_range.filter _
   have hA:=hall i (List.mem_range.2 hil)
   rw [ho] at hA
   simp only [Bool.and_eq_true] at hA
   have hdl:∀e∈o.after,Region.binds .any e=true→listed.getD e.on true=true:=fun e he hb=>by
    have:=hdeps e he hb
    have hlt0:=(Array.all_eq_true_iff_forall_mem.1 hA.1.1) e he
    rw [hb] at hlt0
    have hlt:e.on<i:=by simpa using hlt0
    have hsz:e.on<listed.size:=by omega
    simpa [hsz] using this
   have hcl':=closed_set hcl ho hdl
   have hpairs:∀s:List Nat,(∀j∈s,j∈rem ops listed∧j<i∧¬(j=e0∧i=e1))→∀z∈s.filterMap (ops[·]?),okPair q ops z o=true:=fun s hsr z hz=>by
    obtain ⟨j,hj,hjx⟩:=List.mem_filterMap.1 hz
    obtain ⟨hjr,hji,hne⟩:=hsr j hj
    have hB:=(List.all_eq_true.1 hA.1.2) j (List.mem_range.2 hji)
    simp only [hjx] at hB
    simp only [Bool.or_eq_true] at hB
    rcases hB with (hB | hB) | hB
    · exact hB
    ·
     have hjs:=ord_listed hcl 5 j i o ho hdl hB
     rw [hun j hjr] at hjs;exact Bool.noConfusion hjs
    ·
     simp only [Bool.and_eq_true,decide_eq_true_eq] at hB
     exact absurd hB hne
   have himo:=him
   rw [hrem] at himo
   rcases List.mem_append.1 himo with h | h
   ·
    obtain ⟨s,t,hst⟩:=List.append_of_mem h
    have hrem2:rem ops listed=s++i::(t++e0::(m++e1::t2)):=by rw [hrem,hst];simp
    rw [hrem2] at hsorted
    have hs1:∀j,j∈s→j<i:=fun j hj=>(List.pairwise_append.1 hsorted).2.2 j hj i (by simp)
    have hilt:i<e0:=(List.pairwise_cons.1 (List.pairwise_append.1 hsorted).2.1).1 e0 (by simp)
    rw [hst,filterMap_split (ops[·]?) s t i o ho] at hd
    have hyd:=dstOk_of _ S w G a rfl hs hd
    have hfr:=take_front hs _ _ (hpairs s fun j hj=>⟨by rw [hrem2];simp [hj],hs1 j hj,fun hh=>by have:=hs1 j hj;omega⟩) hyd hd
    refine dstep.wp hs ho hyd hfr.2 fun v h' live' w' G' a' hk hs' hev=>?_
    refine wpTwo_of_dawp hok hx hy m t2 fuel (s++t) _ ⟨S.n, _,h',live'⟩ w' G' a' (by simpa using hls) (by rw [rem_set hls hrem2];rw [hrem2] at hl;simp at hl ⊢;omega) (by rw [rem_set hls hrem2];simp) hcl' rfl hs' (fun fr h live w2 G2 a2 hQ hs2 hev2=>hq fr h live w2 G2 a2 hQ hs2 (hev.trans hev2)) ?_
    rw [List.filterMap_append]
    exact hk
   ·
    have hlt1:∀j,j∈s1→j<e0:=fun j hj=>by
     rw [hrem] at hsorted
     exact (List.pairwise_append.1 hsorted).2.2 j hj e0 (by simp)
    have hlt2:∀j,j∈m++e1::t2→e0<j:=fun j hj=>by
     rw [hrem] at hsorted
     exact (List.pairwise_cons.1 (List.pairwise_append.1 hsorted).2.1).1 j hj
    have h01:=hlt2 e1 (by simp)
    rcases List.mem_cons.1 h with rfl | h
    ·
     rw [ho] at hx;cases hx
     have hd1:=dawp_app _ _ _ _ _ (dawp.mono (fun _ _ _ k=>k.1) _ _ _ _ hd)
     have hyd:=dstOk_of _ S w G a rfl hs hd1
     have hfr:=take_front hs _ _ (hpairs s1 fun j hj=>⟨by rw [hrem];simp [hj],hlt1 j hj,fun hh=>by have:=hlt1 j hj;omega⟩) hyd hd1
     refine dstep.wp hs ho hyd hfr.2 fun v h' live' w' G' a' hk hs' hev=>?_
     refine wpAnyX_of_dawp hok fuel _ ⟨S.n, _,h',live'⟩ w' G' a' (by simpa using hls) (by rw [rem_set hls hrem];rw [hrem] at hl;simp at hl ⊢;omega) hcl' (.inl (by simp [show i<listed.size by omega])) rfl hs' (fun fr h live w2 G2 a2 hQ hs2 hev2=>hq fr h live w2 G2 a2 hQ hs2 (hev.trans hev2)) ?_
     rw [rem_set hls hrem,List.filterMap_append,filterMap_split (ops[·]?) m t2 e1 y hy]
     exact hk
    ·
     by_cases he:i=e1
     ·
      subst he
      rw [ho] at hy;cases hy
      have hd1:=dawp_app _ _ _ _ _ (dawp.mono (fun _ _ _ k=>k.2) _ _ _ _ hd)
      have hyd:=dstOk_of _ S w G a rfl hs hd1
      have hfr:=take_front hs _ _ (hpairs s1 fun j hj=>⟨by rw [hrem];simp [hj],by have:=hlt1 j hj;omega,fun hh=>by have:=hlt1 j hj;omega⟩) hyd hd1
      have hrem2:rem ops listed=(s1++e0::m)++i::t2:=by rw [hrem];simp
      refine dstep.wp hs ho hyd hfr.2 fun v h' live' w' G' a' hk hs' hev=>?_
      refine wpAnyX_of_dawp hok fuel _ ⟨S.n, _,h',live'⟩ w' G' a' (by simpa using hls) (by rw [rem_set hls hrem2];rw [hrem2] at hl;simp at hl ⊢;omega) hcl' (.inr (by simp [show i<listed.size by omega])) rfl hs' (fun fr h live w2 G2 a2 hQ hs2 hev2=>hq fr h live w2 G2 a2 hQ hs2 (hev.trans hev2)) ?_
      rw [rem_set hls hrem2,show s1++e0::m++t2=s1++e0::(m++t2) by simp,filterMap_split (ops[·]?) s1 (m++t2) e0 x hx,List.filterMap_append]
      exact hk
     ·
      exfalso
      have:=hlt2 i h
      have hC:=hA.2
      simp only [Bool.or_eq_true,decide_eq_true_eq] at hC
      rcases hC with ((hC | hC) | hC) | hC
      · omega
      · exact he hC
      ·
       have:=ord_listed hcl 5 e0 i o ho hdl hC
       rw [hu0] at this;exact Bool.noConfusion this
      ·
       have:=ord_listed hcl 5 e1 i o ho hdl hC
       rw [hu1] at this;exact Bool.noConfusion this
theorem range_get {α:Type}:∀(s l:List α),(List.range' s.length l.length).filterMap (fun j=>(s++l)[j]?)=l
 | _,[]=>rfl
 | s,x::l=>by
  have:=range_get (s++[x]) l
  simp only [List.length_append,List.length_cons,List.length_nil,Nat.zero_add,List.append_assoc,List.cons_append,List.nil_append] at this
  rw [List.length_cons,List.range'_succ,List.filterMap_cons]
  simp [this]
theorem SRel.weakFr {w:World} {G:Gh} {a:Act} {S:AS} (hs:SRel w G a S) {fr1:Nat→AV} (h:∀t,fr1 t=.undef∨fr1 t=S.fr t):SRel w G a ⟨S.n,fr1,S.h,S.live⟩:=
 ⟨hs.defers,hs.size,hs.heap,fun t=>by
  show Rep w G (fr1 t) _
  rcases h t with e | e
  · rw [e];exact .undef _
  · rw [e];exact hs.fr t⟩
theorem SRel.drew {w:World} {G:Gh} {a:Act} {S:AS} (hs:SRel w G a S):SRel { w with drawn:=w.drawn+1 } G a S∧Evo w G S.live { w with drawn:=w.drawn+1 } G S.live:=by
 have hev:Evo w G S.live { w with drawn:=w.drawn+1 } G S.live:=⟨rfl,rfl,rfl,Nat.le_refl _,fun _ _ _=>rfl,fun _ _ _=>rfl,fun _ _ h=>h,Ext.refl G⟩
 refine ⟨⟨hs.defers,hs.size,?_,fun t=>hev.rep (hs.fr t)⟩,hev⟩
 have hh:=hs.heap
 exact ⟨hh.len,fun k x hx=>BlkRep.mono (w:=w) (w':={ w with drawn:=w.drawn+1 }) rfl hev.imm (Ext.refl G) (hh.blk k x hx),hh.blk_lt,hh.inj,hh.imm_lt,hh.imm_blk,hh.tok,hh.tok_ne⟩
theorem awp_region {id:Nat} {l:List Oper} {draw:Bool} {S:AS} {Q:Exit→AS→Prop} (q:RQ) (hok:draw=true→okAll q l.toArray=true∧P.follows .mixedOrders=true)
 (h:dawp P q (gdOf l.toArray) S.n l S.fr S.h S.live fun fr h live=>∃fr1,(∀t,fr1 t=.undef∨fr1 t=fr t)∧Q .normal ⟨S.n,fr1,h,live⟩):AwpC P (.region id l.toArray draw) Q S:=by
 intro w G a hs
 cases draw with
 | false=>
  refine wp_region ?_
  rw [List.range_eq_range']
  have:=wpOps_of_dawp (P:=P) (q:=q) (ops:=l.toArray) (Qa:=Lq Q w G S.live) l 0 (by simp) S w G a rfl hs (fun fr h live w' G' a' hQ hs' hev=>?_) h
  · simpa using this
  ·
   obtain ⟨fr1,hf,hq⟩:=hQ
   exact ⟨G', _,hq,hs'.weakFr hf,hev⟩
 | true=>
  obtain ⟨h1,h2⟩:=hok rfl
  refine wp_region_any h2 ?_
  obtain ⟨hs1,hev1⟩:=hs.drew
  have hlt:∀i,i<l.length→(Array.replicate l.toArray.size false).getD i true=false:=fun i hi=>by simp [hi]
  have hrem:rem l.toArray (Array.replicate l.toArray.size false)=List.range l.length:=by
   unfold rem
   rw [List.filter_eq_self.2 fun i hi=>by
    have:=List.mem_range.1 hi
    rw [hlt i (by simpa using this)];rfl]
   simp
  refine wpAny_of_dawp (P:=P) (q:=q) (n:=S.n) h1 l.toArray.size _ S _ G a (by simp) (by rw [hrem];simp) (fun i o ho hl=>by
   have hi:i<l.length:=by simpa using (Array.getElem?_eq_some_iff.1 ho).1
   rw [hlt i hi] at hl;exact Bool.noConfusion hl) rfl hs1 (fun fr h live w' G' a' hQ hs' hev=>?_) ?_ (Q:=fun fr h live=>∃fr1,(∀t,fr1 t=.undef∨fr1 t=fr t)∧Q .normal ⟨S.n,fr1,h,live⟩)
  ·
   obtain ⟨fr1,hf,hq⟩:=hQ
   exact ⟨G', _,hq,hs'.weakFr hf,hev1.trans hev⟩
  ·
   rw [hrem]
   have:(List.range l.length).filterMap (l.toArray[·]?)=l:=by
    have:=range_get [] l
    simpa [List.range_eq_range'] using this
   rw [this]
   exact h
theorem filterMap_congr' {α β:Type} {f g:α→Option β}:∀ {l:List α},(∀x∈l,f x=g x)→l.filterMap f=l.filterMap g
 | [], _=>rfl
 | a::l,h=>by
  rw [List.filterMap_cons,List.filterMap_cons,h a (by simp),filterMap_congr' fun x hx=>h x (by simp [hx])]
theorem awp_region2 {id:Nat} {l1 m l2:List Oper} {x y:Oper} {S:AS} {Q:Exit→AS→Prop} (q:RQ) (hok:okTwo q (l1++x::(m++y::l2)).toArray l1.length (l1.length+1+m.length)=true∧P.follows .mixedOrders=true)
 (h:dawp P q (gdOf (l1++x::(m++y::l2)).toArray) S.n l1 S.fr S.h S.live fun fr h live=>
  dawp P q (gdOf (l1++x::(m++y::l2)).toArray) S.n (x::(m++y::l2)) fr h live (fun fr h live=>∃fr1,(∀t,fr1 t=.undef∨fr1 t=fr t)∧Q .normal ⟨S.n,fr1,h,live⟩) ∧
  dawp P q (gdOf (l1++x::(m++y::l2)).toArray) S.n (y::x::(m++l2)) fr h live (fun fr h live=>∃fr1,(∀t,fr1 t=.undef∨fr1 t=fr t)∧Q .normal ⟨S.n,fr1,h,live⟩)):AwpC P (.region id (l1++x::(m++y::l2)).toArray true) Q S:=by
 intro w G a hs
 obtain ⟨h1,h2⟩:=hok
 refine wp_region_any h2 ?_
 obtain ⟨hs1,hev1⟩:=hs.drew
 generalize hl:l1++x::(m++y::l2)=l at *
 have hlt:∀i,i<l.length→(Array.replicate l.toArray.size false).getD i true=false:=fun i hi=>by simp [hi]
 have hlen:l.length=l1.length+((m.length+(l2.length+1))+1):=by rw [←hl];simp
 have hrem:rem l.toArray (Array.replicate l.toArray.size false)=List.range l1.length++l1.length::(List.range' (l1.length+1) m.length++(l1.length+1+m.length)::List.range' (l1.length+1+m.length+1) l2.length):=by
  unfold rem
  rw [List.filter_eq_self.2 fun i hi=>by
   have:=List.mem_range.1 hi
   rw [hlt i (by simpa using this)];rfl]
  rw [show l.toArray.size=l.length by simp,hlen,List.range_eq_range',List.range_eq_range',←List.range'_append_1,Nat.zero_add,List.range'_succ,←List.range'_append_1,List.range'_succ]
 have e1:(List.range l1.length).filterMap (l.toArray[·]?)=l1:=by
  have:=range_get [] l1
  rw [List.range_eq_range']
  refine Eq.trans (filterMap_congr' fun j hj=>?_) (by simpa using this)
  have hj':j<l1.length:=by simpa using (List.mem_range'_1.1 hj).2
  rw [←hl]
  simp [List.getElem?_append_left hj']
 have e2:(List.range' (l1.length+1+m.length+1) l2.length).filterMap (l.toArray[·]?)=l2:=by
  have:=range_get (l1++x::(m++[y])) l2
  rw [show (l1++x::(m++[y])).length=l1.length+1+m.length+1 by simp;omega] at this
  rw [←hl]
  simpa using this
 have e3:(List.range' (l1.length+1) m.length).filterMap (l.toArray[·]?)=m:=by
  have:=range_get (l1++[x]) m
  rw [show (l1++[x]).length=l1.length+1 by simp] at this
  refine Eq.trans (filterMap_congr' fun j hj=>?_) this
  have hj':=List.mem_range'_1.1 hj
  rw [←hl,show l1++x::(m++y::l2)=(l1++[x]++m)++y::l2 by simp]
  rw [List.getElem?_toArray,List.getElem?_append_left (by simp;omega)]
 refine wpTwo_of_dawp (P:=P) (q:=q) (n:=S.n) (e0:=l1.length) (e1:=l1.length+1+m.length) (x:=x) (y:=y) h1 (by rw [←hl];simp) (by rw [←hl,show l1++x::(m++y::l2)=(l1++[x]++m)++y::l2 by simp,List.getElem?_toArray,List.getElem?_append_right (by simp;omega),show l1.length+1+m.length - (l1++[x]++m).length=0 by simp;omega];rfl) (List.range' (l1.length+1) m.length) (List.range' (l1.length+1+m.length+1) l2.length) l.toArray.size (List.range l1.length) _ S _ G a (by simp) (by rw [hrem];simp [hlen]) hrem (fun i o ho hl2=>by
  have hi:i<l.length:=by simpa using (Array.getElem?_eq_some_iff.1 ho).1
  rw [hlt i hi] at hl2;exact Bool.noConfusion hl2) rfl hs1 (fun fr h live w' G' a' hQ hs' hev=>?_) ?_ (Q:=fun fr h live=>∃fr1,(∀t,fr1 t=.undef∨fr1 t=fr t)∧Q .normal ⟨S.n,fr1,h,live⟩)
 ·
  obtain ⟨fr1,hf,hq⟩:=hQ
  exact ⟨G', _,hq,hs'.weakFr hf,hev1.trans hev⟩
 ·
  rw [e1,e2,e3]
  exact h
theorem reps_app {w:World} {G:Gh} {xs ys:List AV} {vs us:List Value} (hl:vs.length=xs.length) (h1:∀i,i<xs.length→Rep w G (xs.getD i .undef) (vs.getD i undef))
 (h2:∀i,i<ys.length→Rep w G (ys.getD i .undef) (us.getD i undef)):∀i,i<(xs++ys).length→Rep w G ((xs++ys).getD i .undef) ((vs++us).getD i undef):=by
 intro i hi
 simp only [List.length_append] at hi
 rw [getD_append',getD_append',hl]
 by_cases h:i<xs.length
 · rw [if_pos h,if_pos h];exact h1 i h
 · rw [if_neg h,if_neg h];exact h2 _ (by omega)
def ACalls (P:Program) (f:FuncId) (xs:List AV) (h:List Blk) (live:List Nat) (K:KT):Prop:=
 ∀w G (vs:List Value),vs.length=xs.length→(∀i,i<xs.length→Rep w G (xs.getD i .undef) (vs.getD i undef))→HRel w G h live→AUpon P (Post w G live K) ((callFunc f vs.toArray).run P w)
theorem ACalls.mono {f:FuncId} {xs:List AV} {h:List Blk} {live:List Nat} {K K':KT} (hk:∀x h l,K x h l→K' x h l) (hc:ACalls P f xs h live K):ACalls P f xs h live K':=
 fun w G vs hl hr hh=>(hc w G vs hl hr hh).mono fun _ _=>Post.mono hk
theorem ACalls.er {f:FuncId} {xs:List AV} {h:List Blk} {live:List Nat} {K:KT} (hc:ACalls P f (xs.map AV.er) h live K):ACalls P f xs h live K:=
 fun w G vs hl hr hh=>hc w G vs (by simpa using hl) (fun i hi=>by
  have hi':i<xs.length:=by simpa using hi
  have:=(hr i hi').er
  simpa [List.getD_eq_getElem?_getD,hi'] using this) hh
theorem AOp.call {fr:Nat→AV} {h:List Blk} {live:List Nat} {o:Oper} {K:KT} (fo:Operand) (args:Array Operand) (ts:Array TypeId) (ho:o.op=.call { callee:=.value fo,args:=args,argTypes:=ts })
 {f:FuncId} {first cap:List AV} (hf:ev fr fo=.fn (.func f) first cap) (hc:ACalls P f (first++args.toList.map (ev fr)++cap) h live K):AOp P fr h live o K:=by
 intro w G ρ hρ hr hh
 obtain ⟨dst,op,ty,pos,after,guard⟩:=o
 simp only at ho
 subst ho
 have h0:=hr fo (by simp [Op.operands,Call.operands])
 rw [hf] at h0
 generalize hv:ρ fo=v at h0
 cases h0
 rename_i vs us hl hrep hm hrep'
 have hargs:=list_rep (w:=w) (G:=G) (fr:=fr) (ρ:=ρ) args.toList fun y hy=>hr y (by simp [Op.operands,Call.operands];exact .inr (by simpa using hy))
 have hrun:(execOp ρ ⟨dst,.call { callee:=.value fo,args:=args,argTypes:=ts },ty,pos,after,guard⟩).run P w=(callFunc f (vs++args.toList.map ρ++us).toArray).run P w:=by
  have e:(vs.toArray++args.map ρ)++us.toArray=(vs++args.toList.map ρ++us).toArray:=by
   obtain ⟨l⟩:=args
   simp
  simp only [execOp,resolve,hv,Deferred.ofValue,invoke,pure_bind,e]
 rw [hrun]
 refine hc w G _ (by simp [hl,hm]) ?_ hh
 exact reps_app (by simp [hl]) (reps_app hl hrep hargs) hrep'
end
end Go.Ab
namespace Go.Ab
open Go.RowKit
def Blk.cl (n:Nat):Blk→Prop
 | .cells c=>AV.clL n c
 | .map es=>∀p∈es,p.1.cl n∧p.2.cl n
 | .glb _ c _=>AV.clL n c
 | .siter _ _=>True
 | .miter k _ _ _=>k<n
 | .gone=>True
def HCl (h:List Blk):Prop:=∀b∈h,b.cl h.length
theorem BlkRep.cl {w:World} {G:Gh} {x:Blk} {b:Nat} (h:BlkRep w G x b):x.cl G.n:=by
 cases x with
 | cells c=>
  obtain ⟨vs,e, _, _,h3⟩:=h
  exact (AV.clL_iff _ _).2 fun i hi=>(h3 i hi).2.cl
 | map es=>
  obtain ⟨us,c, _,h2, _,h3⟩:=h
  intro p hp
  obtain ⟨i,hi,rfl⟩:=List.mem_iff_getElem.1 hp
  have:=h3 i hi
  simp only [List.getD_eq_getElem?_getD,List.getElem?_eq_getElem hi,Option.getD_some] at this
  exact ⟨this.1.cl,this.2.cl⟩
 | glb g c ob=>
  obtain ⟨_,vs,e,fz, _, _, _,h3⟩:=h
  exact (AV.clL_iff _ _).2 fun i hi=>(h3 i hi).2.cl
 | siter l pos=>trivial
 | miter k since seen stepped=>exact h.1
 | gone=>trivial
theorem BlkRep.cut {w:World} {G:Gh} {m:Nat} {x:Blk} {b:Nat} (h:BlkRep w G x b) (hx:x.cl m):BlkRep w (G.cut m) x b:=by
 cases x with
 | cells c=>
  obtain ⟨vs,e,h1,h2,h3⟩:=h
  exact ⟨vs,e,h1,h2,fun i hi=>⟨(h3 i hi).1,(h3 i hi).2.cut ((AV.clL_iff _ _).1 hx i hi)⟩⟩
 | map es=>
  obtain ⟨us,c,h1,h2,h2',h3⟩:=h
  refine ⟨us,c,h1,h2,h2',fun i hi=>?_⟩
  have:=hx (es.getD i (.undef,.undef)) (by rw [List.getD_eq_getElem?_getD,List.getElem?_eq_getElem hi];exact List.getElem_mem hi)
  exact ⟨(h3 i hi).1.cut this.1,(h3 i hi).2.cut this.2⟩
 | glb g c ob=>
  obtain ⟨h0,vs,e,fz,ho,h1,h2,h3⟩:=h
  exact ⟨h0,vs,e,fz,ho,h1,h2,fun i hi=>⟨(h3 i hi).1,(h3 i hi).2.cut ((AV.clL_iff _ _).1 hx i hi)⟩⟩
 | siter l pos=>exact h
 | miter k since seen stepped=>exact ⟨hx,h.2⟩
 | gone=>trivial
theorem HRel.hcl {w:World} {G:Gh} {h:List Blk} {live:List Nat} (hh:HRel w G h live):HCl h:=by
 intro b hb
 obtain ⟨i,hi,rfl⟩:=List.mem_iff_getElem.1 hb
 rw [hh.len]
 exact (hh.blk i _ (List.getElem?_eq_getElem hi)).cl
theorem HRel.cut {w:World} {G:Gh} {h1 junk:List Blk} {live live1:List Nat} (hh:HRel w G (h1++junk) live) (hc:HCl h1) (hl:∀u∈live1,u∈live):HRel w (G.cut h1.length) h1 live1:=by
 have hn:h1.length≤G.n:=by rw [←hh.len];simp
 refine ⟨rfl,fun k x hx=>?_,fun k hk=>hh.blk_lt k (Nat.lt_of_lt_of_le hk hn),fun j k hj hk=>hh.inj j k (Nat.lt_of_lt_of_le hj hn) (Nat.lt_of_lt_of_le hk hn),hh.imm_lt,
  fun b o k hb hk=>hh.imm_blk b o k hb (Nat.lt_of_lt_of_le hk hn),fun t ht=>?_,fun t u d e ht hu=>hh.tok_ne t u d e (hl t ht) (hl u hu)⟩
 ·
  have hk:k<h1.length:=(List.getElem?_eq_some_iff.1 hx).1
  have:=hh.blk k x (by rw [List.getElem?_append_left hk];exact hx)
  exact this.cut (hc x (List.mem_of_getElem? hx))
 ·
  obtain ⟨d,hd,⟨h1',h2,h3,h4,h5⟩⟩:=hh.tok t (hl t ht)
  exact ⟨d,hd,h1',h2,h3,h4,fun k hk=>h5 k (Nat.lt_of_lt_of_le hk hn)⟩
theorem Evo.cut {w w':World} {G G':Gh} {live live' live1:List Nat} {m:Nat} (h:Evo w G live w' G' live') (hm:G.n≤m) (hm':m≤G'.n) (hl:∀u∈live1,u∈live'):Evo w G live w' (G'.cut m) live1 where
 os:=h.os
 tape:=h.tape
 output:=h.output
 size:=h.size
 imm:=h.imm
 other:=h.other
 own b hb ho:=h.own b hb (by
  rcases ho with ⟨k,hk,e⟩ | ⟨t,d,ht,hd,e⟩
  · exact .inl ⟨k,Nat.lt_of_lt_of_le hk hm',e⟩
  · exact .inr ⟨t,d,hl t ht,hd,e⟩)
 ext:=⟨hm,h.ext.blk,h.ext.imm,h.ext.tok⟩
structure Trunc (S S1:AS):Prop where
 n:S1.n=S.n
 fr:∀t,S1.fr t=.undef∨((S1.fr t=S.fr t∨S1.fr t=(S.fr t).er)∧(S1.fr t).cl S1.h.length)
 h:∃junk,S.h=S1.h++junk
 cl:HCl S1.h
 live:∀u,u∈S1.live→u∈S.live
theorem SRel.trunc {w w':World} {G G':Gh} {live:List Nat} {a:Act} {S S1:AS} (hs:SRel w' G' a S) (ht:Trunc S S1) (hev:Evo w G live w' G' S.live) (hm:G.n≤S1.h.length):SRel w' (G'.cut S1.h.length) a S1∧Evo w G live w' (G'.cut S1.h.length) S1.live:=by
 obtain ⟨junk,hj⟩:=ht.h
 have hh:=hs.heap
 rw [hj] at hh
 refine ⟨⟨hs.defers,by rw [hs.size,ht.n],hh.cut ht.cl ht.live,fun t=>?_⟩,hev.cut hm (by rw [←hh.len];simp) ht.live⟩
 rcases ht.fr t with e | ⟨e | e,hc⟩
 · rw [e];exact .undef _
 ·
  have:=(hs.fr t)
  rw [←e] at this
  exact this.cut hc
 ·
  have:=(hs.fr t).er
  rw [←e] at this
  exact this.cut hc
section
variable {P:Program}
theorem awp_weak {c:Code} {Q:Exit→AS→Prop} {S S1:AS} (ht:Trunc S S1) (hl:S1.h.length=S.h.length) (h:AwpC P c Q S1):AwpC P c Q S:=by
 intro w G a hs
 have hm:G.n≤S1.h.length:=by rw [hl,hs.heap.len];exact Nat.le_refl _
 obtain ⟨hs1,hev⟩:=hs.trunc ht (Evo.refl w G S.live) hm
 exact wp_mono (h w _ a hs1) fun _ _ _ q=>q.step hev
theorem awp_loop' {c:Code} {Q:Exit→AS→Prop} {S:AS} {X:Type} (I:X→AS) (μ:X→Nat) (x:X) (h0:Trunc S (I x)) (hl0:(I x).h.length=S.h.length)
 (round:∀x,AwpC P c (thenQ (fun S'=>∃y,Trunc S' (I y)∧(I y).h.length=(I x).h.length ∧ μ y < μ x) Q) (I x)):AwpC P (.loop c) Q S:=by
 refine awp_weak h0 hl0 ?_
 refine awp_loop I μ x rfl fun x=>?_
 intro w G a hs
 refine wp_mono (round x w G a hs) fun e a' w' q=>?_
 obtain ⟨G',S',q,hs',hev⟩:=q
 cases e with
 | normal=>
  obtain ⟨y,ht,hl,hμ⟩:=q
  obtain ⟨h1,h2⟩:=hs'.trunc ht hev (by rw [hl,hs.heap.len];exact Nat.le_refl _)
  exact ⟨_,I y,⟨y,rfl,hμ⟩,h1,h2⟩
 | _=>exact ⟨G',S',q,hs',hev⟩
abbrev FL:=List (Nat×AV)
def fget:FL→Nat→AV
 | [], _=>.undef
 | (k,v)::r,t=>if k=t then v else fget r t
def fput (fl:FL) (d:Option Tmp) (x:AV):FL:=
 match d with
 | some t=>(t,x)::fl
 | none=>fl
theorem fget_put (fl:FL) (d:Option Tmp) (x:AV):upd (fget fl) d x=fget (fput fl d x):=by
 funext t
 cases d with
 | none=>simp [upd,fput]
 | some d=>simp [upd,fput,fget]
def fkeep (V:List Tmp) (fr:Nat→AV):FL:=V.map fun t=>(t,fr t)
theorem fget_keep (fr:Nat→AV):∀(V:List Tmp) (t:Nat),fget (fkeep V fr) t=.undef∨fget (fkeep V fr) t=fr t
 | [],t=>.inl rfl
 | v::V,t=>by
  simp only [fkeep,List.map_cons,fget]
  split
  · rename_i e;subst e;exact .inr rfl
  · exact fget_keep fr V t
def fargs:List AV→Nat→FL
 | [], _=>[]
 | x::r,k=>(k,x)::fargs r (k+1)
theorem fget_args:∀(xs:List AV) (k t:Nat),fget (fargs xs k) t=if k≤t then xs.getD (t - k) .undef else .undef
 | [],k,t=>by simp [fargs,fget]
 | x::r,k,t=>by
  rw [fargs,fget,fget_args r (k+1) t]
  by_cases h1:k=t
  · subst h1;simp
  ·
   rw [if_neg h1]
   by_cases h2:k≤t
   · rw [if_pos h2,if_pos (by omega),show t - k=(t - (k+1))+1 from by omega];simp
   · rw [if_neg h2,if_neg (by omega)]
theorem awp_region_keep {id:Nat} {l:List Oper} {draw:Bool} {n:Nat} {fl:FL} {h:List Blk} {live:List Nat} {Q:Exit→AS→Prop} (V:List Tmp) (q:RQ) (hok:draw=true→okAll q l.toArray=true∧P.follows .mixedOrders=true)
 (hd:dawp P q (gdOf l.toArray) n l (fget fl) h live fun fr h live=>Q .normal ⟨n,fget (fkeep V fr),h,live⟩):AwpC P (.region id l.toArray draw) Q ⟨n,fget fl,h,live⟩:=
 awp_region q hok (dawp.mono (fun fr h live hq=>⟨_,fget_keep fr V,hq⟩) l (fget fl) h live hd)
theorem awp_region_keep2 {id:Nat} {l1 m l2:List Oper} {x y:Oper} {n:Nat} {fl:FL} {h:List Blk} {live:List Nat} {Q:Exit→AS→Prop} (V:List Tmp) (q:RQ) (hok:okTwo q (l1++x::(m++y::l2)).toArray l1.length (l1.length+1+m.length)=true∧P.follows .mixedOrders=true)
 (hd:dawp P q (gdOf (l1++x::(m++y::l2)).toArray) n l1 (fget fl) h live fun fr h live=>dawp P q (gdOf (l1++x::(m++y::l2)).toArray) n (x::(m++y::l2)) fr h live (fun fr h live=>Q .normal ⟨n,fget (fkeep V fr),h,live⟩)∧dawp P q (gdOf (l1++x::(m++y::l2)).toArray) n (y::x::(m++l2)) fr h live (fun fr h live=>Q .normal ⟨n,fget (fkeep V fr),h,live⟩)):AwpC P (.region id (l1++x::(m++y::l2)).toArray true) Q ⟨n,fget fl,h,live⟩:=
 awp_region2 q hok (dawp.mono (fun fr h live hq=>⟨dawp.mono (fun fr h live hq=>⟨_,fget_keep fr V,hq⟩) _ _ _ _ hq.1,dawp.mono (fun fr h live hq=>⟨_,fget_keep fr V,hq⟩) _ _ _ _ hq.2⟩) l1 (fget fl) h live hd)
theorem awp_region_two {id:Nat} {l l1 m l2:List Oper} {x y:Oper} {n:Nat} {fl:FL} {h:List Blk} {live:List Nat} {Q:Exit→AS→Prop} (V:List Tmp) (q:RQ) (hl:l1++x::(m++y::l2)=l) (hok:okTwo q l.toArray l1.length (l1.length+1+m.length)=true∧P.follows .mixedOrders=true)
 (hd:dawp P q (gdOf l.toArray) n l1 (fget fl) h live fun fr h live=>dawp P q (gdOf l.toArray) n (x::(m++y::l2)) fr h live (fun fr h live=>Q .normal ⟨n,fget (fkeep V fr),h,live⟩)∧dawp P q (gdOf l.toArray) n (y::x::(m++l2)) fr h live (fun fr h live=>Q .normal ⟨n,fget (fkeep V fr),h,live⟩)):AwpC P (.region id l.toArray true) Q ⟨n,fget fl,h,live⟩:=by
 subst hl
 exact awp_region_keep2 V q hok hd
section steps
variable {q:RQ} {gd:Nat→Option Tmp} {n:Nat} {fl:FL} {h:List Blk} {live:List Nat} {Q:FT} {o:Oper} {os:List Oper}
theorem dawp_nil (hq:Q (fget fl) h live):dawp P q gd n [] (fget fl) h live Q:=hq
theorem kindOf_plain (hq:(fload q o||gst q o||scall q o)=false):kindOf q o=kindOp q.b o.op:=by
 rw [Bool.or_eq_false_iff,Bool.or_eq_false_iff] at hq
 simp [kindOf,hq.1.1,hq.1.2,hq.2]
theorem kindP_no {x:AV} (hx:astepP P (fget fl) o=some x):fload q o=false∧scall q o=false:=by
 obtain ⟨dst,op,ty,pos,after,guard⟩:=o
 cases op<;>first
  | exact ⟨rfl,rfl⟩
  | (simp [astepP] at hx;done)
  | (
   rename_i c
   obtain ⟨cal,args,ts⟩:=c
   cases cal<;>first
    | exact ⟨rfl,rfl⟩
    | (simp [astepP] at hx;done))
theorem astepH_kind {x:AV} {h':List Blk} (hx:astepH P (fget fl) h o=some (x,h')) (hq:(fload q o||gst q o||scall q o)=false):kindOf q o=.w∨(kindOf q o=.r∧h'=h):=by
 rw [kindOf_plain hq]
 clear hq
 obtain ⟨dst,op,ty,pos,after,guard⟩:=o
 cases op<;>simp only [astepH] at hx<;>first
  | exact .inl rfl
  | (simp at hx;done)
  | (
   split at hx
   · cases hx;exact .inr ⟨rfl,rfl⟩
   · simp at hx)
theorem dawp_p {x:AV} {t:Tmp} (hw:dwant gd (fget fl) o=some true) (hx:astepP P (fget fl) o=some x) (hd:o.dst=some t) (hn:decide (t<n)=true) (k:dawp P q gd n os (fget ((t,x)::fl)) h live Q):dawp P q gd n (o::os) (fget fl) h live Q:=by
 refine ⟨by rw [hd];exact hn,?_⟩
 unfold dstep
 rw [hw,hd]
 simp only [fget_put,fput]
 obtain ⟨hf,hsc⟩:=kindP_no (q:=q) hx
 cases hgs:gst q o with
 | true=>
  have hkg:kindOf q o=.g:=by simp [kindOf,hf,hgs]
  simp only [dop,hkg]
  exact (astepP_sound hx h live).mono fun y h' l' ⟨e1,e2,e3⟩=>by subst e1;subst e2;subst e3;exact ⟨St.refl _,k⟩
 | false=>
 have hkp:=kindOf_plain (q:=q) (o:=o) (by rw [hf,hgs,hsc];rfl)
 unfold dop
 rw [hkp]
 have hne:kindOp q.b o.op≠.f∧kindOp q.b o.op≠.g∧kindOp q.b o.op≠.s:=by
  unfold kindOp;split<;>first | exact ⟨by decide,by decide,by decide⟩ | (split<;>exact ⟨by decide,by decide,by decide⟩)
 split
 · exact ⟨x,hx,k⟩
 · exact ⟨x,astepP_sound hx h live,k⟩
 rotate_left
 · exact absurd (by assumption) hne.1
 · exact absurd (by assumption) hne.2.1
 · exact absurd (by assumption) hne.2.2
 · exact (astepP_sound hx h live).mono fun y h' l' ⟨e1,e2,e3⟩=>by subst e1;subst e2;subst e3;exact k
theorem dawp_h' {x:AV} {h':List Blk} (hw:dwant gd (fget fl) o=some true) (hx:astepH P (fget fl) h o=some (x,h')) (hd:dstOk n o.dst=true) (hq:(fload q o||gst q o||scall q o)=false) (k:dawp P q gd n os (fget (fput fl o.dst x)) h' live Q):dawp P q gd n (o::os) (fget fl) h live Q:=by
 refine ⟨hd,?_⟩
 unfold dstep
 rw [hw]
 simp only [fget_put]
 have hs:=astepH_sound (live:=live) hx
 rcases astepH_kind (q:=q) hx hq with hk | ⟨hk,e⟩
 ·
  simp only [dop,hk]
  exact hs.mono fun y h2 l' ⟨e1,e2,e3⟩=>by subst e1;subst e2;subst e3;exact k
 ·
  subst e
  simp only [dop,hk]
  exact ⟨x,hs,k⟩
theorem dawp_h {x:AV} {h':List Blk} {t:Tmp} (hw:dwant gd (fget fl) o=some true) (hx:astepH P (fget fl) h o=some (x,h')) (hd:o.dst=some t) (hn:decide (t<n)=true) (k:dawp P q gd n os (fget ((t,x)::fl)) h' live Q) (hq:(fload q o||gst q o||scall q o)=false:=by rfl):dawp P q gd n (o::os) (fget fl) h live Q:=
 dawp_h' hw hx (by rw [hd];exact hn) hq (by rw [hd];exact k)
theorem dawp_hn {x:AV} {h':List Blk} (hw:dwant gd (fget fl) o=some true) (hx:astepH P (fget fl) h o=some (x,h')) (hd:o.dst=none) (k:dawp P q gd n os (fget fl) h' live Q) (hq:(fload q o||gst q o||scall q o)=false:=by rfl):dawp P q gd n (o::os) (fget fl) h live Q:=
 dawp_h' hw hx (by rw [hd];rfl) hq (by rw [hd];exact k)
theorem dawp_f {x:AV} {t:Tmp} (hk:fload q o=true) (hw:dwant gd (fget fl) o=some true) (hx:floadOf P q.T (fget fl) h o=some x) (hd:o.dst=some t) (hn:decide (t<n)=true) (k:dawp P q gd n os (fget ((t,x)::fl)) h live Q):dawp P q gd n (o::os) (fget fl) h live Q:=by
 refine ⟨by rw [hd];exact hn,?_⟩
 unfold dstep
 rw [hw,hd]
 have hkf:kindOf q o=.f:=by simp [kindOf,hk]
 simp only [dop,hkf,fget_put,fput]
 exact ⟨x,hx,k⟩
theorem dawp_gs {x:AV} {h':List Blk} (hk:(!fload q o&&gst q o)=true) (hw:dwant gd (fget fl) o=some true) (hx:astepH P (fget fl) h o=some (x,h')) (hd:o.dst=none) (hs:stab P q.T h h') (k:dawp P q gd n os (fget fl) h' live Q) (hs2:stN q.N h h':=by first | exact (fun k hk=>absurd hk (Nat.not_lt_zero k)) | exact (fun k hk=>by rw [List.getElem?_append_left hk,List.getElem?_append_left hk])):dawp P q gd n (o::os) (fget fl) h live Q:=by
 refine ⟨by rw [hd];rfl,?_⟩
 unfold dstep
 rw [hw,hd]
 simp only [Bool.and_eq_true,Bool.not_eq_true'] at hk
 have hkg:kindOf q o=.g:=by simp [kindOf,hk.1,hk.2]
 simp only [dop,hkg,fget_put,fput]
 exact (astepH_sound (live:=live) hx).mono fun y h2 l' ⟨e1,e2,e3⟩=>by subst e1;subst e2;subst e3;exact ⟨⟨hs,hs2⟩,k⟩
theorem dawp_ga {x:AV} {h':List Blk} {t:Tmp} (hk:(!fload q o&&gst q o)=true) (hw:dwant gd (fget fl) o=some true) (hx:astepH P (fget fl) h o=some (x,h')) (hd:o.dst=some t) (hn:decide (t<n)=true) (hs:stab P q.T h h') (k:dawp P q gd n os (fget ((t,x)::fl)) h' live Q) (hs2:stN q.N h h':=by first | exact (fun k hk=>absurd hk (Nat.not_lt_zero k)) | exact (fun k hk=>by rw [List.getElem?_append_left hk,List.getElem?_append_left hk])):dawp P q gd n (o::os) (fget fl) h live Q:=by
 refine ⟨by rw [hd];exact hn,?_⟩
 unfold dstep
 rw [hw,hd]
 simp only [Bool.and_eq_true,Bool.not_eq_true'] at hk
 have hkg:kindOf q o=.g:=by simp [kindOf,hk.1,hk.2]
 simp only [dop,hkg,fget_put,fput]
 exact (astepH_sound (live:=live) hx).mono fun y h2 l' ⟨e1,e2,e3⟩=>by subst e1;subst e2;subst e3;exact ⟨⟨hs,hs2⟩,k⟩
theorem dawp_gx {t:Tmp} (hk:(!fload q o&&gst q o)=true) (hw:dwant gd (fget fl) o=some true) (hd:o.dst=some t) (hn:decide (t<n)=true) (hx:AOp P (fget fl) h live o fun x h' l'=>St P q h h'∧dawp P q gd n os (fget ((t,x)::fl)) h' l' Q):dawp P q gd n (o::os) (fget fl) h live Q:=by
 refine ⟨by rw [hd];exact hn,?_⟩
 unfold dstep
 rw [hw,hd]
 simp only [Bool.and_eq_true,Bool.not_eq_true'] at hk
 have hkg:kindOf q o=.g:=by simp [kindOf,hk.1,hk.2]
 simp only [dop,hkg,fget_put,fput]
 exact hx
theorem dawp_s {x:AV} {t:Tmp} (hk:(!fload q o&&!gst q o&&scall q o)=true) (hw:dwant gd (fget fl) o=some true) (hd:o.dst=some t) (hn:decide (t<n)=true) (hx:∀h' l',stN q.N h h'→AOp P (fget fl) h' l' o (ret x h' l')) (k:dawp P q gd n os (fget ((t,x)::fl)) h live Q):dawp P q gd n (o::os) (fget fl) h live Q:=by
 refine ⟨by rw [hd];exact hn,?_⟩
 unfold dstep
 rw [hw,hd]
 simp only [Bool.and_eq_true,Bool.not_eq_true'] at hk
 have hks:kindOf q o=.s:=by simp [kindOf,hk.1.1,hk.1.2,hk.2]
 simp only [dop,hks,fget_put,fput]
 exact ⟨x,hx,k⟩
theorem dawp_skip {t:Tmp} (hw:dwant gd (fget fl) o=some false) (hd:o.dst=some t) (hn:decide (t<n)=true) (k:dawp P q gd n os (fget ((t,.tup [])::fl)) h live Q):dawp P q gd n (o::os) (fget fl) h live Q:=by
 refine ⟨by rw [hd];exact hn,?_⟩
 unfold dstep
 rw [hw,hd]
 simp only [fget_put,fput]
 exact k
theorem dawp_w {t:Tmp} (hk:kindOf q o=.w) (hw:dwant gd (fget fl) o=some true) (hd:o.dst=some t) (hn:decide (t<n)=true) (k:AOp P (fget fl) h live o fun x h' live'=>dawp P q gd n os (fget ((t,x)::fl)) h' live' Q):dawp P q gd n (o::os) (fget fl) h live Q:=by
 refine ⟨by rw [hd];exact hn,?_⟩
 unfold dstep
 rw [hw,hd]
 simp only [dop,hk,fget_put,fput]
 exact k
theorem dawp_wn (hk:kindOf q o=.w) (hw:dwant gd (fget fl) o=some true) (hd:o.dst=none) (k:AOp P (fget fl) h live o fun _ h' live'=>dawp P q gd n os (fget fl) h' live' Q):dawp P q gd n (o::os) (fget fl) h live Q:=by
 refine ⟨by rw [hd];rfl,?_⟩
 unfold dstep
 rw [hw,hd]
 simp only [dop,hk,fget_put,fput]
 exact k
theorem dawp_r {x:AV} {t:Tmp} (hk:kindOf q o=.r) (hw:dwant gd (fget fl) o=some true) (hd:o.dst=some t) (hn:decide (t<n)=true) (hx:AOp P (fget fl) h live o (ret x h live)) (k:dawp P q gd n os (fget ((t,x)::fl)) h live Q):dawp P q gd n (o::os) (fget fl) h live Q:=by
 refine ⟨by rw [hd];exact hn,?_⟩
 unfold dstep
 rw [hw,hd]
 simp only [dop,hk,fget_put,fput]
 exact ⟨x,hx,k⟩
end steps
def aresult (P:Program) (S:AS):ResultVar→Option AV
 | .tmp t=>some (S.fr t)
 | .cell a t=>aload P t S.h (S.fr a)
def aresults (P:Program) (S:AS):List ResultVar→Option (List AV)
 | []=>some []
 | r::rs=>match aresult P S r,aresults P S rs with
  | some x,some xs=>some (x::xs)
  | _, _=>none
def atuple:List AV→AV
 | [x]=>x
 | xs=>.tup xs
theorem aresult_sound {w:World} {G:Gh} {a:Act} {S:AS} (hs:SRel w G a S) {g:ResultVar→Sem Value} (g1:∀t,g (.tmp t)=pure (a.tmps.getD t undef)) (g2:∀ad t,g (.cell ad t)=do loadVar t (←asAddr (a.tmps.getD ad undef)))
 {r:ResultVar} {x:AV} (hx:aresult P S r=some x):∃v,(g r).run P w=.ok v w∧Rep w G x v:=by
 cases r with
 | tmp t=>cases hx;exact ⟨_,by rw [g1];rfl,hs.fr t⟩
 | cell ad t=>
  obtain ⟨z,hz,hr⟩:=aload_sound (P:=P) hs.heap (hs.fr ad) hx
  refine ⟨z,?_,hr⟩
  have hx':=hx
  simp only [aresult] at hx'
  have hp:∃b,a.tmps.getD ad undef=.pointer (some b):=by
   have hr:=hs.fr ad
   unfold aload at hx'
   split at hx'
   ·
    split at hx'
    · rename_i b off e;rw [e] at hr;generalize a.tmps.getD ad undef=v at hr;cases hr;exact ⟨_,rfl⟩
    · rename_i c off e;rw [e] at hr;generalize a.tmps.getD ad undef=v at hr;cases hr;exact ⟨_,rfl⟩
    · rename_i g off e;rw [e] at hr;generalize a.tmps.getD ad undef=v at hr;cases hr;exact ⟨_,rfl⟩
    · simp at hx'
   · simp at hx'
  obtain ⟨b,hb⟩:=hp
  rw [g2,hb]
  rw [hb] at hz
  simpa [Instr.loadAt,Instr.sureAddr,asAddr] using hz
theorem aresults_sound {w:World} {G:Gh} {a:Act} {S:AS} (hs:SRel w G a S) {g:ResultVar→Sem Value} (g1:∀t,g (.tmp t)=pure (a.tmps.getD t undef)) (g2:∀ad t,g (.cell ad t)=do loadVar t (←asAddr (a.tmps.getD ad undef))) :
 ∀ {rs:List ResultVar} {xs:List AV},aresults P S rs=some xs →
 ∃vs:List Value,(rs.mapM (m:=Sem) g).run P w=.ok vs w∧vs.length=xs.length∧∀i,i<xs.length→Rep w G (xs.getD i .undef) (vs.getD i undef)
 | [],xs,h=>by
  cases h
  exact ⟨[],by simp,rfl,by simp⟩
 | r::rs,xs,h=>by
  unfold aresults at h
  split at h
  ·
   rename_i x ys hx hys
   cases h
   obtain ⟨v,hv,hr⟩:=aresult_sound hs g1 g2 hx
   obtain ⟨vs,hvs,hl,hrs⟩:=aresults_sound hs g1 g2 hys
   refine ⟨v::vs,?_,by simp [hl],fun i hi=>?_⟩
   ·
    rw [List.mapM_cons]
    simp only [Sem.run_bind,hv,Result.andThen_ok,hvs,Sem.run_pure]
   ·
    cases i with
    | zero=>simpa using hr
    | succ i=>simpa using hrs i (by simpa using hi)
  · simp at h
theorem results_sound {w:World} {G:Gh} {a:Act} {S:AS} (hs:SRel w G a S) {fn:Func} {xs:List AV} (h:aresults P S fn.results.toList=some xs):∃v,(results fn a.tmps).run P w=.ok v w∧Rep w G (atuple xs) v:=by
 have hgen:∀g:ResultVar→Sem Value,(∀t,g (.tmp t)=pure (a.tmps.getD t undef))→(∀ad t,g (.cell ad t)=do loadVar t (←asAddr (a.tmps.getD ad undef))) →
  ∃vs:List Value,(do let us ←fn.results.mapM g;pure (if h:us.size=1 then us[0] else .tuple us):Sem Value).run P w=.ok (if h:vs.toArray.size=1 then vs.toArray[0] else .tuple vs.toArray) w∧vs.length=xs.length∧∀i,i<xs.length→Rep w G (xs.getD i .undef) (vs.getD i undef):=by
  intro g g1 g2
  obtain ⟨vs,hvs,hl,hr⟩:=aresults_sound hs g1 g2 h
  refine ⟨vs,?_,hl,hr⟩
  have e:fn.results=fn.results.toList.toArray:=by simp
  rw [e,List.mapM_toArray]
  simp only [Sem.run_bind,Sem.run_map,hvs,Result.andThen_ok,Sem.run_pure]
 obtain ⟨vs,hrun,hl,hr⟩:=hgen (fun | .tmp t=>pure (a.tmps.getD t undef) | .cell ad t=>do loadVar t (←asAddr (a.tmps.getD ad undef))) (fun _=>rfl) (fun _ _=>rfl)
 change (results fn a.tmps).run P w=_ at hrun
 refine ⟨_,hrun,?_⟩
 match xs,vs,hl,hr with
 | [],[], _, _=>exact .tup [] [] rfl (by simp)
 | [x],[v], _,hr=>simpa [atuple] using hr 0 (by simp)
 | x::y::xs,v::u::vs,hl,hr=>
  have:=Rep.tup (w:=w) (G:=G) (x::y::xs) (v::u::vs) hl hr
  simpa [atuple] using this
def Gh.frz (G:Gh) (m:Nat):Gh:={ G with imm:=fun b o=>G.imm b o∨∃k,m≤k∧k<G.n∧G.blk k=b }
theorem Gh.frz_ext (G:Gh) (m:Nat):Ext G (G.frz m):=⟨Nat.le_refl _,fun _ _=>rfl,fun _ _ h=>.inl h,fun _ _ h=>h⟩
def mkEl (ag:Bool) (c:List AV):AV:=bif ag then .agg c else c.headD .undef
mutual
def AV.frz (h:List Blk) (m:Nat):AV→AV
 | .bsl k off sz ag len cap=>if m≤k then (match h[k]? with
  | some (.cells cs)=>if off+len*sz≤cs.length∧0<sz∧(ag=true∨sz=1) then .slice ((List.range len).map fun i=>mkEl ag ((cs.drop (off+i*sz)).take sz)) (if len=cap then .full else .none) else .undef
  | _=>.undef) else .bsl k off sz ag len cap
 | .agg cs=>.agg (AV.frzL h m cs)
 | .tup cs=>.tup (AV.frzL h m cs)
 | x=>x
def AV.frzL (h:List Blk) (m:Nat):List AV→List AV
 | []=>[]
 | x::r=>x.frz h m::AV.frzL h m r
end
theorem AV.frzL_map (h:List Blk) (m:Nat) (l:List AV):AV.frzL h m l=l.map (AV.frz h m):=by
 induction l with
 | nil=>rfl
 | cons x r ih=>simp [AV.frzL,ih]
theorem AV.frzL_length (h:List Blk) (m:Nat) (l:List AV):(AV.frzL h m l).length=l.length:=by rw [AV.frzL_map];simp
theorem AV.frzL_getD (h:List Blk) (m:Nat) (l:List AV) (i:Nat):(AV.frzL h m l).getD i .undef=(l.getD i .undef).frz h m:=by
 rw [AV.frzL_map]
 simp only [List.getD_eq_getElem?_getD,List.getElem?_map]
 cases l[i]? <;> rfl
theorem rep_onecell {w:World} {G:Gh} {x:AV} {v:Value} (hr:Rep w G x v) (ho:v.oneCell'=true):x.cells=[x]:=by
 cases hr<;>first
  | rfl
  | (simp [Value.oneCell'] at ho)
theorem frz_slice {w:World} {G:Gh} {cs:List AV} {vs:Array Value} {e:TypeId} {fz:Nat×Nat} {b:Nat} (hb:w.heap[b]? = some (.cells vs e fz)) (hl:vs.size=cs.length)
 (hr:∀i,i<cs.length→(vs.getD i undef).oneCell'=true∧Rep w G (cs.getD i .undef) (vs.getD i undef)) (himm:∀o,G.imm b o) {off sz len cap:Nat} {ag:Bool} (h1:off+len*sz≤cs.length) (h2:0<sz) (h3:ag=true∨sz=1) (hlc:len≤cap) (hm:cap≤maxLen) :
 Rep w G (.slice ((List.range len).map fun i=>mkEl ag ((cs.drop (off+i*sz)).take sz)) (if len=cap then .full else .none)) (.slice (some ⟨b,off,none⟩) len cap):=by
 have hin:∀i j,i<len→j<sz→off+(i*sz+j)<cs.length:=fun i j hi hj=>by
  have:=Nat.mul_le_mul_right sz (show i+1≤len by omega)
  rw [Nat.add_mul] at this
  omega
 have hg:∀i,i<len→((List.range len).map fun i=>mkEl ag ((cs.drop (off+i*sz)).take sz)).getD i .undef=mkEl ag ((cs.drop (off+i*sz)).take sz):=fun i hi=>by
  simp [List.getD_eq_getElem?_getD,hi]
 have hchunk:∀i j,i<len→j<sz→((cs.drop (off+i*sz)).take sz).getD j .undef=cs.getD (off+(i*sz+j)) .undef:=fun i j hi hj=>by
  rw [getD_drop_take _ _ _ _ _ hj,Nat.add_assoc]
 have hclen:∀i,i<len→((cs.drop (off+i*sz)).take sz).length=sz:=fun i hi=>by
  have:=hin i (sz - 1) hi (by omega)
  simp;omega
 have hcells:∀i,i<len→(mkEl ag ((cs.drop (off+i*sz)).take sz)).cells=(cs.drop (off+i*sz)).take sz:=fun i hi=>by
  rcases h3 with rfl | rfl
  · rfl
  ·
   cases ag with
   | true=>rfl
   | false=>
    have hl1:=hclen i hi
    obtain ⟨x,hx⟩:=List.length_eq_one_iff.1 hl1
    have hc:=hchunk i 0 hi (by omega)
    have hrr:=hr (off+(i*1+0)) (hin i 0 hi (by omega))
    rw [←hc,hx] at hrr
    rw [hx]
    exact rep_onecell hrr.2 hrr.1
 have key:=Rep.slice (w:=w) (G:=G) ((List.range len).map fun i=>mkEl ag ((cs.drop (off+i*sz)).take sz)) (if len=cap then .full else .none) b off cap sz (fun i j=>vs.getD (off+(i*sz+j)) undef)
  (by simpa using hlc) hm (fun i hi=>by
   have hi':i<len:=by simpa using hi
   rw [hg i hi',hcells i hi',hclen i hi']) (fun i j _ _=>himm _) (fun i j hi hj=>by
   have hi':i<len:=by simpa using hi
   rw [cell_of_row w b _ vs e fz hb]
   have:off+(i*sz+j)<vs.size:=by have:=hin i j hi' hj;omega
   simp [this]) (fun i j hi hj=>(hr _ (hin i j (by simpa using hi) hj)).1) (fun i j hi hj=>by
   have hi':i<len:=by simpa using hi
   rw [hg i hi',hcells i hi',hchunk i j hi' hj]
   exact (hr _ (hin i j hi' hj)).2) (by
   split
   · rename_i e;show cap=_;simp [e]
   · exact trivial)
 simpa using key
theorem frz_sound {w:World} {G:Gh} {h:List Blk} {live:List Nat} (hh:HRel w G h live) (m:Nat) {x:AV} {v:Value} (hr:Rep w G x v):Rep w (G.frz m) (x.frz h m) v:=by
 have up:∀ {x:AV} {v:Value},Rep w G x v→Rep w (G.frz m) x v:=fun h=>h.mono (fun _ _ _=>rfl) (Gh.frz_ext G m)
 induction hr with
 | agg cs vs hl hone _ ih=>
  refine .agg (AV.frzL h m cs) vs (by rw [AV.frzL_length];exact hl) (fun i hi=>hone i (by rw [AV.frzL_length] at hi;exact hi)) fun i hi=>?_
  rw [AV.frzL_getD];exact ih i (by rw [AV.frzL_length] at hi;exact hi)
 | tup cs vs hl _ ih=>
  refine .tup (AV.frzL h m cs) vs (by rw [AV.frzL_length];exact hl) fun i hi=>?_
  rw [AV.frzL_getD];exact ih i (by rw [AV.frzL_length] at hi;exact hi)
 | bsl k off sz ag len cap hk hl hm=>
  unfold AV.frz
  split
  ·
   rename_i hmk
   split
   ·
    rename_i cs hc
    split
    ·
     rename_i hcond
     obtain ⟨vs,e,h1,h2,h3⟩:=hh.blk k _ hc
     exact frz_slice (G:=G.frz m) h1 h2 (fun i hi=>⟨(h3 i hi).1,up (h3 i hi).2⟩) (fun o=>.inr ⟨k,hmk,hk,rfl⟩) hcond.1 hcond.2.1 hcond.2.2 hl hm
    · exact .undef _
   · exact .undef _
  · exact .bsl k off sz ag len cap hk hl hm
 | undef v=>exact .undef v
 | bool b=>exact .bool b
 | int k n=>exact .int k n
 | str l=>exact .str l
 | raw v h=>exact .raw v h
 | ptr k off h=>exact .ptr k off h
 | nilSlice c h=>exact .nilSlice c h
 | emptySlice a c h=>exact .emptySlice a c h
 | slice l c b o cap sz f hcap hmax hsz himm hcell hone hrep hc ih=>exact up (.slice l c b o cap sz f hcap hmax hsz himm hcell hone hrep hc)
 | fn f cs ds vs us hl hm hrep hrep' ih ih'=>exact up (.fn f cs ds vs us hl hm hrep hrep')
 | iface t x v h ih=>exact up (.iface t x v h)
 | map k h=>exact .map k h
 | eptr cs off b o f himm hcell hone hrep ih=>exact up (.eptr cs off b o f himm hcell hone hrep)
 | glob g off=>exact .glob g off
theorem HRel.cutF {w:World} {G:Gh} {h1 junk:List Blk} {live live1:List Nat} (hh:HRel w G (h1++junk) live) (hc:HCl h1) (hl:∀u∈live1,u∈live):HRel w ((G.frz h1.length).cut h1.length) h1 live1:=by
 have hn:h1.length≤G.n:=by rw [←hh.len];simp
 have h0:=hh.cut hc hl
 refine ⟨rfl,fun k x hx=>(h0.blk k x hx).mono (G:=G.cut h1.length) rfl (fun _ _ _=>rfl) ⟨Nat.le_refl _,fun _ _=>rfl,fun _ _ h=>.inl h,fun _ _ h=>h⟩,h0.blk_lt,h0.inj,fun b o hb=>?_,fun b o k hb hk=>?_,fun t ht=>?_,h0.tok_ne⟩
 ·
  rcases hb with hb | ⟨k, _,hk,rfl⟩
  · exact hh.imm_lt b o hb
  · exact hh.blk_lt k hk
 ·
  rcases hb with hb | ⟨j,hj,hjn,rfl⟩
  · exact hh.imm_blk b o k hb (Nat.lt_of_lt_of_le hk hn)
  ·
   intro e
   have:=hh.inj k j (Nat.lt_of_lt_of_le hk hn) hjn e
   have hk':k<h1.length:=hk
   omega
 ·
  obtain ⟨d,hd,⟨h1',h2,h3,h4,h5⟩⟩:=hh.tok t (hl t ht)
  refine ⟨d,hd,h1',h2,h3,fun o ho hi=>?_,fun k hk=>h5 k (Nat.lt_of_lt_of_le hk hn)⟩
  rcases hi with hi | ⟨j, _,hjn,e⟩
  · exact h4 o ho hi
  · exact h5 j hjn e
theorem Evo.frz {w w':World} {G G':Gh} {live live':List Nat} (h:Evo w G live w' G' live') (m:Nat):Evo w G live w' (G'.frz m) live':=
 ⟨h.os,h.tape,h.output,h.size,h.imm,h.other,h.own,h.ext.trans (Gh.frz_ext G' m)⟩
def Blk.er:Blk→Blk
 | .cells c=>.cells (AV.erL c)
 | b=>b
def BW (g h:List Blk):Prop:=h.length=g.length∧∀k:Nat,h[k]? = g[k]? ∨ h[k]? = (g[k]?).map Blk.er
theorem BW.refl (g:List Blk):BW g g:=⟨rfl,fun _=>.inl rfl⟩
theorem BW.app {g g' h h':List Blk} (h1:BW g h) (h2:BW g' h'):BW (g++g') (h++h'):=by
 refine ⟨by simp [h1.1,h2.1],fun k=>?_⟩
 rw [List.getElem?_append,List.getElem?_append,h1.1]
 split
 · exact h1.2 k
 · exact h2.2 _
theorem BW.one {b b':Blk} (h:b'=b.er):BW [b] [b']:=⟨rfl,fun k=>by
 cases k with
 | zero=>exact .inr (by simp [h])
 | succ k=>exact .inl (by simp)⟩
theorem BW.set {g:List Blk} {k:Nat} {b b':Blk} (h:b'=b.er):BW (g.set k b) (g.set k b'):=by
 refine ⟨by simp,fun j=>?_⟩
 rw [List.getElem?_set,List.getElem?_set]
 split
 ·
  split
  · exact .inr (by simp [h])
  · exact .inl rfl
 · exact .inl rfl
theorem BlkRep.er {w:World} {G:Gh} {x:Blk} {b:Nat} (h:BlkRep w G x b):BlkRep w G x.er b:=by
 cases x with
 | cells c=>
  obtain ⟨vs,e,h1,h2,h3⟩:=h
  refine ⟨vs,e,h1,by rw [AV.erL_length];exact h2,fun i hi=>?_⟩
  rw [AV.erL_length] at hi
  rw [AV.erL_getD]
  exact ⟨(h3 i hi).1,(h3 i hi).2.er⟩
 | _=>exact h
theorem HRel.weak {w:World} {G:Gh} {g h:List Blk} {live:List Nat} (hh:HRel w G g live) (hb:BW g h):HRel w G h live:=
 ⟨hb.1.trans hh.len,fun k x hx=>by
  rcases hb.2 k with e | e
  · exact hh.blk k x (by rw [←e];exact hx)
  ·
   rw [hx] at e
   cases hg:g[k]? with
   | none=>rw [hg] at e;simp at e
   | some y=>
    rw [hg] at e
    simp at e
    subst e
    exact (hh.blk k y hg).er,hh.blk_lt,hh.inj,hh.imm_lt,hh.imm_blk,hh.tok,hh.tok_ne⟩
def fin (P:Program) (fn:Func) (h0:List Blk) (K:KT):Exit→AS→Prop
 | .ret,S | .normal,S=>∃xs x h1 live1,aresults P S fn.results.toList=some xs∧(x=atuple xs∨x=(atuple xs).er∨x=((atuple xs).frz S.h h1.length).er∨x=(atuple xs).frz S.h h1.length)∧x.cl h1.length∧(∃g junk,S.h=g++junk∧BW g h1)∧HCl h1∧h0.length≤h1.length∧(∀u∈live1,u∈S.live)∧K x h1 live1
 | _, _=>False
theorem run_callFunc {f:FuncId} {fn:Func} {c:Code} (hf:P.funcs[f]? = some fn) (hn:(fn.name == "runtime.NumGoroutine")=false) (hb:fn.body=some c) (args:Array Value) (w:World):(callFunc f args).run P w=.ok (.enter f args) w:=by
 have hn':¬fn.name = "runtime.NumGoroutine" := by simpa using hn
 simp [callFunc,hf,hn',hb]
theorem acalls_of_awp {f:FuncId} {fn:Func} {c:Code} {xs:List AV} {h:List Blk} {live:List Nat} {K:KT} (hf:P.funcs[f]? = some fn) (hn:(fn.name == "runtime.NumGoroutine")=false) (hb:fn.body=some c) (hl:xs.length≤fn.ntmps)
 (hw:HCl h→(∀x∈xs,x.cl h.length)→AwpC P c (fin P fn h K) ⟨fn.ntmps,fget (fargs xs 0),h,live⟩):ACalls P f xs h live K:=by
 intro w G vs hvl hr hh
 rw [run_callFunc hf hn hb]
 have hcl:∀x∈xs,x.cl h.length:=fun x hx=>by
  obtain ⟨i,hi,rfl⟩:=List.mem_iff_getElem.1 hx
  have:=(hr i hi).cl
  rw [hh.len]
  simpa [List.getD_eq_getElem?_getD,hi] using this
 have hs:SRel w G { tmps:=vs.toArray++Array.replicate (fn.ntmps - vs.toArray.size) undef,defers:=[] } ⟨fn.ntmps,fget (fargs xs 0),h,live⟩:=by
  refine ⟨rfl,by simp;omega,hh,fun t=>?_⟩
  show Rep w G (fget (fargs xs 0) t) _
  rw [fget_args,if_pos (Nat.zero_le _),Nat.sub_zero]
  by_cases ht:t<xs.length
  ·
   have:=hr t ht
   have hv:t<vs.length:=by omega
   have e:(vs.toArray++Array.replicate (fn.ntmps - vs.toArray.size) undef).getD t undef=vs.getD t undef:=by
    simp [List.getD_eq_getElem?_getD,Array.getElem?_append,hv]
   rw [e];exact this
  ·
   have e:xs.getD t .undef=.undef:=by simp [List.getD_eq_getElem?_getD,show xs.length≤t by omega]
   rw [e];exact .undef _
 refine calls_of_wp hf hb (wp_mono (hw hh.hcl hcl w G _ hs) fun e a w' q=>?_)
 obtain ⟨G',S',q,hs',hev⟩:=q
 have key:∀(S':AS),SRel w' G' a S'→Evo w G live w' G' S'.live→(∃xs x h1 live1,aresults P S' fn.results.toList=some xs∧(x=atuple xs∨x=(atuple xs).er∨x=((atuple xs).frz S'.h h1.length).er∨x=(atuple xs).frz S'.h h1.length)∧x.cl h1.length∧(∃g junk,S'.h=g++junk∧BW g h1)∧HCl h1∧h.length≤h1.length∧(∀u∈live1,u∈S'.live)∧K x h1 live1) →
  a.defers=[]∧∃v,(results fn a.tmps).run P w'=.ok v w'∧∃v',Ending.returned v=Ending.returned v'∧Post w G live K v' w':=by
  intro S' hs' hev ⟨ys,x,h1,live1,hres,hx,hxc,⟨gg,junk,hj,hbw⟩,hcl1,hlen,hlv,hk⟩
  obtain ⟨v,hv,hrep⟩:=results_sound hs' hres
  have hhp:=hs'.heap
  rw [hj] at hhp
  replace hhp:=hhp.weak (hbw.app (BW.refl junk))
  have hlo:G.n≤h1.length:=by rw [←hh.len];exact hlen
  have hhi:h1.length≤G'.n:=by rw [←hhp.len];simp
  rcases hx with rfl | rfl | rfl | rfl
  · exact ⟨hs'.defers,v,hv,v,rfl, _,h1,live1,G'.cut h1.length,hk,hrep.cut hxc,hhp.cut hcl1 hlv,hev.cut hlo hhi hlv⟩
  · exact ⟨hs'.defers,v,hv,v,rfl, _,h1,live1,G'.cut h1.length,hk,hrep.er.cut hxc,hhp.cut hcl1 hlv,hev.cut hlo hhi hlv⟩
  · exact ⟨hs'.defers,v,hv,v,rfl, _,h1,live1,(G'.frz h1.length).cut h1.length,hk,(frz_sound hs'.heap h1.length hrep).er.cut hxc,hhp.cutF hcl1 hlv,(hev.frz h1.length).cut hlo hhi hlv⟩
  · exact ⟨hs'.defers,v,hv,v,rfl, _,h1,live1,(G'.frz h1.length).cut h1.length,hk,(frz_sound hs'.heap h1.length hrep).cut hxc,hhp.cutF hcl1 hlv,(hev.frz h1.length).cut hlo hhi hlv⟩
 cases e with
 | normal=>exact key S' hs' hev q
 | ret=>exact key S' hs' hev q
 | _=>exact q.elim
theorem acalls_of_calls {f:FuncId} {fn:Func} {xs:List AV} {h:List Blk} {live:List Nat} {y:AV} (hf:P.funcs[f]? = some fn) (hn:(fn.name == "runtime.NumGoroutine")=false) (hb:fn.body.isSome=true)
 (hc:∀w G (vs:List Value),vs.length=xs.length→(∀i,i<xs.length→Rep w G (xs.getD i .undef) (vs.getD i undef))→HRel w G h live→∃v,Rep w G y v∧Calls P f vs.toArray w fun e w'=>e=.returned v∧w'=w) :
 ACalls P f xs h live (ret y h live):=by
 intro w G vs hvl hr hh
 obtain ⟨c,hb⟩:=Option.isSome_iff_exists.1 hb
 rw [run_callFunc hf hn hb]
 obtain ⟨v,hv,hcall⟩:=hc w G vs hvl hr hh
 refine Calls.mono hcall fun e w' ⟨he,hw'⟩=>?_
 subst hw'
 exact ⟨v,he,y,h,live,G,⟨rfl,rfl,rfl⟩,hv,hh,Evo.refl _ _ _⟩
end
end Go.Ab
namespace Go.Ab
open Go.RowKit
theorem cst_bool (b:Bool):cst (.bool b)=.bool b:=rfl
theorem cst_int (k:IntKind) (n:Int):cst (.int k n)=.int k n:=rfl
theorem cst_str (a:ByteArray):cst (.string a)=.str a.data.toList:=rfl
theorem cst_slice:cst (.slice none 0 0)=.slice [] .full:=rfl
theorem cst_ptr:cst (.pointer none)=.raw (.pointer none):=rfl
theorem cst_map:cst (.map none)=.raw (.map none):=rfl
theorem cst_nilFunc:cst .nilFunc=.raw .nilFunc:=rfl
theorem cst_nilIface:cst .nilIface=.raw .nilIface:=rfl
theorem fget_nil (t:Nat):fget [] t=.undef:=rfl
theorem fget_cons (k:Nat) (v:AV) (r:FL) (t:Nat):fget ((k,v)::r) t=if k=t then v else fget r t:=rfl
theorem ev_tmp (fr:Nat→AV) (t:Tmp):ev fr (.tmp t)=fr t:=rfl
theorem ev_const (fr:Nat→AV) (v:Value):ev fr (.const v)=cst v:=rfl
theorem ev_glob (fr:Nat→AV) (g:Nat):ev fr (.global g)=.glob g 0:=rfl
theorem ev_func (fr:Nat→AV) (f:FuncId):ev fr (.func f)=.fn (.func f) [] []:=rfl
theorem thenQ_n (next:AS→Prop) (Q:Exit→AS→Prop) (S:AS):thenQ next Q .normal S=next S:=rfl
theorem thenQ_r (next:AS→Prop) (Q:Exit→AS→Prop) (S:AS):thenQ next Q .ret S=Q .ret S:=rfl
theorem thenQ_e (next:AS→Prop) (Q:Exit→AS→Prop) (S:AS) (i:Nat):thenQ next Q (.exit i) S=Q (.exit i) S:=rfl
theorem inBlockQ_n (id:Nat) (Q:Exit→AS→Prop) (S:AS):inBlockQ id Q .normal S=Q .normal S:=rfl
theorem inBlockQ_r (id:Nat) (Q:Exit→AS→Prop) (S:AS):inBlockQ id Q .ret S=Q .ret S:=rfl
theorem inBlockQ_e (id i:Nat) (Q:Exit→AS→Prop) (S:AS):inBlockQ id Q (.exit i) S=if i=id then Q .normal S else Q (.exit i) S:=rfl
theorem fkeep_nil (fr:Nat→AV):fkeep [] fr=[]:=rfl
theorem fkeep_cons (t:Tmp) (V:List Tmp) (fr:Nat→AV):fkeep (t::V) fr=(t,fr t)::fkeep V fr:=rfl
theorem fget_same (t:Nat) (v:AV) (r:FL):fget ((t,v)::r) t=v:=by simp [fget]
theorem fput_some (fl:FL) (t:Tmp) (x:AV):fput fl (some t) x=(t,x)::fl:=rfl
theorem fput_none (fl:FL) (x:AV):fput fl none x=fl:=rfl
theorem apick_bool (b p q:Bool):apick b (.bool p) (.bool q)=.bool (bif b then p else q):=rfl
theorem apick_true (x y:AV):apick true x y=x:=by cases x<;>cases y<;>rfl
theorem apick_false (x y:AV):apick false x y=y:=by cases x<;>cases y<;>rfl
section ops
variable (P:Program) (fr:Nat→AV) (h:List Blk) (d:Option Tmp) (ty:TypeId) (pos:String) (af:Array Edge) (g:Option (Nat×Bool))
theorem sP_move (x:Operand):astepP P fr ⟨d,.move x,ty,pos,af,g⟩=some (ev fr x):=rfl
theorem sP_assign (x:Operand):astepP P fr ⟨d,.assign x,ty,pos,af,g⟩=some (ev fr x):=rfl
def pickOf (c x y:AV):Option AV:=match c with
 | .bool t=>some (apick t x y)
 | _=>none
theorem pickOf_bool (t:Bool) (x y:AV):pickOf (.bool t) x y=some (apick t x y):=rfl
theorem sP_pick (c a b:Operand):astepP P fr ⟨d,.pick c a b,ty,pos,af,g⟩=pickOf (ev fr c) (ev fr a) (ev fr b):=rfl
theorem sP_nil (x:Operand):astepP P fr ⟨d,.nilCheck x,ty,pos,af,g⟩=anil (ev fr x):=rfl
def fieldAddrOf (o:Option Nat) (x:AV):Option AV:=match o with
 | some o=>match x with
  | .ptr k off=>some (.ptr k (off+o))
  | .eptr c off=>some (.eptr c (off+o))
  | .glob g off=>some (.glob g (off+o))
  | _=>none
 | none=>none
theorem fieldAddrOf_ptr (o k off:Nat):fieldAddrOf (some o) (.ptr k off)=some (.ptr k (off+o)):=rfl
theorem fieldAddrOf_glob (o g off:Nat):fieldAddrOf (some o) (.glob g off)=some (.glob g (off+o)):=rfl
theorem fieldAddrOf_eptr (o off:Nat) (c:List AV):fieldAddrOf (some o) (.eptr c off)=some (.eptr c (off+o)):=rfl
theorem sP_fieldAddr (s:TypeId) (x:Operand) (f:Nat):astepP P fr ⟨d,.fieldAddr s x f,ty,pos,af,g⟩=fieldAddrOf (fldOff P s f) (ev fr x):=rfl
def fieldOf (o:Option (Nat×TK)) (x:AV):Option AV:=match o with
 | some (o,k)=>match x with
  | .agg cs=>getCells cs o k
  | _=>none
 | none=>none
theorem fieldOf_agg (o:Nat) (k:TK) (cs:List AV):fieldOf (some (o,k)) (.agg cs)=getCells cs o k:=rfl
theorem sP_field (s:TypeId) (x:Operand) (f:Nat):astepP P fr ⟨d,.field s x f,ty,pos,af,g⟩=fieldOf (fldTK P s f) (ev fr x):=rfl
theorem sP_indexAddr (t:TypeId) (x i:Operand):astepP P fr ⟨d,.indexAddr t x i,ty,pos,af,g⟩=aindexAddr P t (ev fr x) (ev fr i):=rfl
theorem sP_index (t:TypeId) (x i:Operand):astepP P fr ⟨d,.index t x i,ty,pos,af,g⟩=aindex P t (ev fr x) (ev fr i):=rfl
theorem sP_slice (t:TypeId) (x:Operand) (lo hi mx:Option Operand):astepP P fr ⟨d,.slice t x lo hi mx,ty,pos,af,g⟩=aslice P t (ev fr x) (lo.map (ev fr)) (hi.map (ev fr)) (mx.map (ev fr)):=rfl
theorem sP_binOp (op:BinOp) (t t':TypeId) (x y:Operand):astepP P fr ⟨d,.binOp op t x y t',ty,pos,af,g⟩=abinOpT P op t (isC x||isC y) (ev fr x) (ev fr y):=rfl
theorem sP_unOp (op:UnOp) (t:TypeId) (x:Operand):astepP P fr ⟨d,.unOp op t x,ty,pos,af,g⟩=aunOp op (ev fr x):=rfl
theorem sP_convert (s t:TypeId) (x:Operand):astepP P fr ⟨d,.convert s t x,ty,pos,af,g⟩=aconvert P s t (ev fr x):=rfl
theorem sP_makeInterface (t:TypeId) (x:Operand):astepP P fr ⟨d,.makeInterface t x,ty,pos,af,g⟩=if P.concrete t then some (.iface t (ev fr x)) else none:=rfl
theorem sP_makeFunc (f:Fn) (a b:Array Operand):astepP P fr ⟨d,.makeFunc f a b,ty,pos,af,g⟩=some (.fn f (a.toList.map (ev fr)) (b.toList.map (ev fr))):=rfl
def extractOf (x:AV) (i:Nat):Option AV:=match x with
 | .tup vs=>vs[i]?
 | _=>none
theorem extractOf_tup (vs:List AV) (i:Nat):extractOf (.tup vs) i=vs[i]? := rfl
theorem sP_extract (x:Operand) (i:Nat):astepP P fr ⟨d,.extract x i,ty,pos,af,g⟩=extractOf (ev fr x) i:=rfl
theorem sP_build (t:TypeId) (ps:Array (Nat×Operand)):astepP P fr ⟨d,.build t ps,ty,pos,af,g⟩=abuild P t (ps.toList.map fun p=>(p.1,ev fr p.2)):=rfl
theorem sP_buildSlice (t:TypeId) (n:Nat) (ps:Array (Nat×Operand)):astepP P fr ⟨d,.buildSlice t n ps,ty,pos,af,g⟩=abuildSlice P t n (ps.toList.map fun p=>(p.1,ev fr p.2)):=rfl
theorem sP_len (x:Operand) (t:TypeId):astepP P fr ⟨d,.call { callee:=.builtin .len,args := #[x],argTypes := #[t] },ty,pos,af,g⟩=alen P t (ev fr x):=rfl
theorem sP_min (x:Array Operand) (t:Array TypeId):astepP P fr ⟨d,.call { callee:=.builtin .min,args:=x,argTypes:=t },ty,pos,af,g⟩=aminmax true (x.toList.map (ev fr)):=rfl
theorem sP_max (x:Array Operand) (t:Array TypeId):astepP P fr ⟨d,.call { callee:=.builtin .max,args:=x,argTypes:=t },ty,pos,af,g⟩=aminmax false (x.toList.map (ev fr)):=rfl
def withH (o:Option AV) (h:List Blk):Option (AV×List Blk):=match o with
 | some x=>some (x,h)
 | none=>none
theorem withH_some (x:AV) (h:List Blk):withH (some x) h=some (x,h):=rfl
def withU (o:Option (List Blk)):Option (AV×List Blk):=match o with
 | some h=>some (.undef,h)
 | none=>none
theorem withU_some (h:List Blk):withU (some h)=some (.undef,h):=rfl
def allocOf (o:Option AV) (h:List Blk):Option (AV×List Blk):=match o with
 | some z=>some (.ptr h.length 0,h++[.cells z.cells])
 | none=>none
theorem allocOf_some (z:AV) (h:List Blk):allocOf (some z) h=some (.ptr h.length 0,h++[.cells z.cells]):=rfl
theorem sH_load (t:TypeId) (x:Operand):astepH P fr h ⟨d,.load t x,ty,pos,af,g⟩=withH (aload P t h (ev fr x)) h:=rfl
theorem sH_store (t:TypeId) (x v:Operand):astepH P fr h ⟨d,.store t x v,ty,pos,af,g⟩=withU (astore P t h (ev fr x) (ev fr v)):=rfl
theorem sH_alloc (t:TypeId):astepH P fr h ⟨d,.alloc t,ty,pos,af,g⟩=allocOf (azero P t) h:=rfl
theorem sH_box (t:TypeId) (v:Operand):astepH P fr h ⟨d,.box t v,ty,pos,af,g⟩=if okCells (ev fr v) then some (.ptr h.length 0,h++[.cells (ev fr v).cells]) else none:=rfl
def globGet (x:Option (List AV)) (off:Nat) (k:TK):Option AV:=match x with
 | some c=>getCells c off k
 | none=>none
theorem globGet_some (c:List AV) (off:Nat) (k:TK):globGet (some c) off k=getCells c off k:=rfl
def loadOf (k:Option TK) (h:List Blk) (a:AV):Option AV:=match k with
 | some k=>match a with
  | .ptr b off=>match h[b]? with
   | some (.cells c)=>getCells c off k
   | _=>none
  | .eptr c off=>getCells c off k
  | .glob g off=>globGet (globOf h g) off k
  | _=>none
 | none=>none
def blkGet (x:Option Blk) (off:Nat) (k:TK):Option AV:=match x with
 | some (.cells c)=>getCells c off k
 | _=>none
theorem blkGet_cells (c:List AV) (off:Nat) (k:TK):blkGet (some (.cells c)) off k=getCells c off k:=rfl
theorem aload_eq (t:TypeId) (a:AV):aload P t h a=loadOf (tk P t) h a:=rfl
theorem loadOf_ptr (k:TK) (b off:Nat):loadOf (some k) h (.ptr b off)=blkGet h[b]? off k:=by
 unfold loadOf blkGet;rfl
theorem loadOf_glob (k:TK) (g off:Nat):loadOf (some k) h (.glob g off)=globGet (globOf h g) off k:=rfl
theorem loadOf_eptr (k:TK) (c:List AV) (off:Nat):loadOf (some k) h (.eptr c off)=getCells c off k:=rfl
def blkPut (x:Option Blk) (off:Nat) (k:TK) (v:AV):Option Blk:=match x with
 | some (.cells c)=>if fits k v=true∧off+v.cells.length≤c.length then some (.cells (putAt c off v.cells)) else none
 | _=>none
def setOf (h:List Blk) (b:Nat) (x:Option Blk):Option (List Blk):=match x with
 | some y=>some (h.set b y)
 | none=>none
theorem setOf_some (b:Nat) (y:Blk):setOf h b (some y)=some (h.set b y):=rfl
def storeOf (k:Option TK) (h:List Blk) (a v:AV):Option (List Blk):=match k with
 | some k=>match a with
  | .ptr b off=>setOf h b (blkPut h[b]? off k v)
  | _=>none
 | none=>none
theorem astore_eq (t:TypeId) (a v:AV):astore P t h a v=storeOf (tk P t) h a v:=by
 unfold astore storeOf
 cases tk P t with
 | none=>rfl
 | some k=>
  cases a with
  | ptr b off=>
   simp only [setOf,blkPut]
   cases h[b]? with
   | none=>rfl
   | some y=>
    cases y with
    | cells c=>simp only [];split<;>rfl
    | map _=>rfl
    | gone=>rfl
    | glb _ _ _=>rfl
    | siter _ _=>rfl
    | miter _ _ _ _=>rfl
  | _=>rfl
theorem storeOf_ptr (k:TK) (b off:Nat) (v:AV):storeOf (some k) h (.ptr b off) v=setOf h b (blkPut h[b]? off k v):=rfl
theorem blkPut_cells (c:List AV) (off:Nat) (k:TK) (v:AV):blkPut (some (.cells c)) off k v=if fits k v=true∧off+v.cells.length≤c.length then some (.cells (putAt c off v.cells)) else none:=rfl
end ops
attribute [push_cast] sP_move sP_assign pickOf_bool sP_pick sP_nil fieldAddrOf_ptr fieldAddrOf_eptr fieldAddrOf_glob sP_fieldAddr fieldOf_agg sP_field sP_indexAddr sP_index sP_slice sP_binOp sP_unOp sP_convert sP_makeInterface sP_makeFunc extractOf_tup sP_extract sP_build sP_buildSlice sP_len sP_min sP_max withH_some withU_some allocOf_some sH_load sH_store sH_alloc sH_box aload_eq astore_eq loadOf_ptr loadOf_glob globGet_some loadOf_eptr blkGet_cells setOf_some storeOf_ptr blkPut_cells
attribute [push_cast] cst_bool cst_int cst_str cst_slice cst_ptr cst_map cst_nilFunc cst_nilIface ev_tmp ev_const ev_glob ev_func fget_nil fget_cons thenQ_n thenQ_r thenQ_e inBlockQ_n inBlockQ_r inBlockQ_e fkeep_nil fkeep_cons fput_some fput_none fits getCells anil apick_bool apick_true apick_false aindexAddr aindex abound aslice abinOp abinOpT aeqOp aeqT aeqP aeqPs isC aunOp aconvert okCells putAt afill abuild abuildSlice alen aminmax
theorem gval_some (fr:Nat→AV) (t:Tmp):gval fr (some t)=match fr t with | .bool b=>some (some b) | .tup []=>some none | _=>none:=rfl
theorem gval_none (fr:Nat→AV):gval fr none=some none:=rfl
theorem gv_cond (g c:Bool):(match (bif g then AV.bool c else .tup []) with | .bool b=>some (some b) | .tup []=>some none | _=>none)=some (bif g then some c else none):=by cases g<;>rfl
theorem want_t (b:Bool):(some b==some true)=b:=by cases b<;>rfl
theorem want_f (b:Bool):(some b==some false)=!b:=by cases b<;>rfl
theorem want_ct (g b:Bool):((bif g then some b else none)==some true)=(g&&b):=by cases g<;>cases b<;>rfl
theorem want_cf (g b:Bool):((bif g then some b else none)==some false)=(g&&!b):=by cases g<;>cases b<;>rfl
def gv:AV→Option (Option Bool)
 | .bool b=>some (some b)
 | .tup []=>some none
 | _=>none
theorem gv_bool (b:Bool):gv (.bool b)=some (some b):=rfl
theorem gv_skip:gv (.tup [])=some none:=rfl
theorem gv_cnd (g c:Bool):gv (bif g then AV.bool c else .tup [])=some (bif g then some c else none):=by cases g<;>rfl
theorem gval_gv (fr:Nat→AV) (t:Tmp):gval fr (some t)=gv (fr t):=by
 unfold gval gv
 split<;>split<;>simp_all
def wantOf (x:Option (Option Bool)) (want:Bool):Option Bool:=x.map fun b=>b==some want
theorem wantOf_t (b:Bool):wantOf (some (some b)) true=some b:=by cases b<;>rfl
theorem wantOf_f (b:Bool):wantOf (some (some b)) false=some (!b):=by cases b<;>rfl
theorem wantOf_n (w:Bool):wantOf (some none) w=some false:=by cases w<;>rfl
theorem wantOf_ct (g b:Bool):wantOf (some (bif g then some b else none)) true=some (g&&b):=by cases g<;>cases b<;>rfl
theorem wantOf_cf (g b:Bool):wantOf (some (bif g then some b else none)) false=some (g&&!b):=by cases g<;>cases b<;>rfl
theorem dwant_none {gd:Nat→Option Tmp} {fr:Nat→AV} {o:Oper} (h:o.guard=none):dwant gd fr o=some true:=by unfold dwant;rw [h]
theorem dwant_some {gd:Nat→Option Tmp} {fr:Nat→AV} {o:Oper} {j:Nat} {want:Bool} (h:o.guard=some (j,want)):dwant gd fr o=(gval fr (gd j)).map fun b=>b==some want:=by unfold dwant;rw [h]
theorem pick_or (b q:Bool) (z:AV):apick b (.bool true) (bif !b then .bool q else z)=.bool (b||q):=by cases b<;>cases z<;>rfl
theorem pick_and (b q:Bool) (z:AV):apick b (bif b then .bool q else z) (.bool false)=.bool (b&&q):=by cases b<;>cases z<;>rfl
attribute [push_cast] gv_bool gv_skip gv_cnd wantOf_t wantOf_f wantOf_n wantOf_ct wantOf_cf pick_or pick_and
attribute [push_cast] IntWalk.i64_in IntWalk.u8_in IntWalk.i32_in IntWalk.u32_in IntWalk.u64_in
theorem cells_agg (cs:List AV):(AV.agg cs).cells=cs:=rfl
theorem cells_int (k:IntKind) (n:Int):(AV.int k n).cells=[.int k n]:=rfl
theorem cells_bool (b:Bool):(AV.bool b).cells=[.bool b]:=rfl
theorem cells_str (l:List UInt8):(AV.str l).cells=[.str l]:=rfl
theorem cells_raw (v:Value):(AV.raw v).cells=[.raw v]:=rfl
theorem cells_bsl (k o s:Nat) (g:Bool) (l c:Nat):(AV.bsl k o s g l c).cells=[.bsl k o s g l c]:=rfl
theorem cells_glob (k o:Nat):(AV.glob k o).cells=[.glob k o]:=rfl
theorem cells_ptr (k o:Nat):(AV.ptr k o).cells=[.ptr k o]:=rfl
theorem cells_eptr (l:List AV) (o:Nat):(AV.eptr l o).cells=[.eptr l o]:=rfl
theorem cells_slice (l:List AV) (c:Cap):(AV.slice l c).cells=[.slice l c]:=rfl
theorem cells_fn (f:Fn) (l c:List AV):(AV.fn f l c).cells=[.fn f l c]:=rfl
theorem cells_iface (t:TypeId) (x:AV):(AV.iface t x).cells=[.iface t x]:=rfl
theorem cells_map (k:Nat):(AV.map k).cells=[.map k]:=rfl
attribute [push_cast] cells_agg cells_int cells_bool cells_str cells_raw cells_ptr cells_bsl cells_glob cells_eptr cells_slice cells_fn cells_iface cells_map Int.toNat_natCast
theorem getD_str {l:List (List UInt8)} {i:Nat} {d:AV} (h:i<l.length):(l.map AV.str).getD i d=.str (l.getD i []):=by
 simp [List.getD_eq_getElem?_getD,h]
theorem allSz_str (l:List (List UInt8)):allSz (l.map AV.str) 1↔True:=iff_true_intro (allSz_map _ _ _ fun _=>rfl)
theorem allSz_nil' (sz:Nat):allSz [] sz↔True:=iff_true_intro (allSz_nil sz)
theorem toNat_lit (n:Nat):Int.toNat (OfNat.ofNat (n+2))=n+2:=rfl
attribute [push_cast] getD_str List.length_map allSz_str allSz_nil' toNat_lit Int.toNat_one Int.toNat_zero Option.isSome_some Option.isSome_none
attribute [push_cast] Option.map_some Option.map_none List.map_cons List.map_nil List.length_cons List.length_nil List.getElem?_cons_zero List.getElem?_cons_succ List.set_cons_zero List.set_cons_succ List.drop_zero List.drop_succ_cons List.take_zero List.take_succ_cons
attribute [push_cast] List.all_cons List.all_nil
attribute [push_cast] List.nil_append List.append_nil List.cons_append
section
variable {P:Program} {S:AS} {Q:Exit→AS→Prop}
theorem dawp_g {q:RQ} {gd:Nat→Option Tmp} {n:Nat} {fl:FL} {h:List Blk} {live:List Nat} {F:FT} {o:Oper} {os:List Oper} {x:AV} {g:Bool} {j:Nat} {want:Bool} {t tg:Tmp} (ho:o.guard=some (j,want)) (hgd:gd j=some tg) (hw:wantOf (gv (fget fl tg)) want=some g)
 (hx:g=true→astepP P (fget fl) o=some x) (hd:o.dst=some t) (hn:decide (t<n)=true) (k:dawp P q gd n os (fget ((t,bif g then x else .tup [])::fl)) h live F):dawp P q gd n (o::os) (fget fl) h live F:=by
 rw [←gval_gv,←hgd] at hw
 unfold wantOf at hw
 rw [←dwant_some ho] at hw
 cases g with
 | true=>exact dawp_p hw (hx rfl) hd hn k
 | false=>exact dawp_skip hw hd hn k
theorem dawp_gh {q:RQ} {gd:Nat→Option Tmp} {n:Nat} {fl:FL} {h:List Blk} {live:List Nat} {F:FT} {o:Oper} {os:List Oper} {x:AV} {g:Bool} {j:Nat} {want:Bool} {t tg:Tmp} (ho:o.guard=some (j,want)) (hgd:gd j=some tg) (hw:wantOf (gv (fget fl tg)) want=some g)
 (hx:g=true→astepH P (fget fl) h o=some (x,h)) (hd:o.dst=some t) (hn:decide (t<n)=true) (k:dawp P q gd n os (fget ((t,bif g then x else .tup [])::fl)) h live F) (hq:(fload q o||gst q o||scall q o)=false:=by rfl):dawp P q gd n (o::os) (fget fl) h live F:=by
 rw [←gval_gv,←hgd] at hw
 unfold wantOf at hw
 rw [←dwant_some ho] at hw
 cases g with
 | true=>exact dawp_h hw (hx rfl) hd hn k hq
 | false=>exact dawp_skip hw hd hn k
theorem AOp.callx {fr:Nat→AV} {h:List Blk} {live:List Nat} {o:Oper} {K:KT} (fo:Operand) (args:Array Operand) (ts:Array TypeId) (ho:o.op=.call { callee:=.value fo,args:=args,argTypes:=ts })
 {f:FuncId} {first cap xs:List AV} (hf:ev fr fo=.fn (.func f) first cap) (hx:first++args.toList.map (ev fr)++cap=xs) (hc:ACalls P f xs h live K):AOp P fr h live o K:=by
 subst hx;exact AOp.call fo args ts ho hf hc
theorem awp_seq_k {x y:Code} (h:∀K:AS→Prop,(∀S,AwpC P y Q S→K S)→AwpC P x (thenQ K Q) S):AwpC P (.seq x y) Q S:=awp_seq (h _ fun _ h=>h)
theorem awp_seq_m {x y:Code} {X:Type} (I:X→AS) (h1:AwpC P x (thenQ (fun S'=>∃a,Trunc S' (I a)∧(I a).h.length=S.h.length) Q) S) (h2:∀a,AwpC P y Q (I a)):AwpC P (.seq x y) Q S:=by
 refine awp_seq ?_
 intro w G a hs
 refine wp_mono (h1 w G a hs) fun e a' w' q=>?_
 obtain ⟨G',S',q,hs',hev⟩:=q
 cases e with
 | normal=>
  obtain ⟨b,ht,hl⟩:=q
  obtain ⟨k1,k2⟩:=hs'.trunc ht hev (by rw [hl,hs.heap.len];exact Nat.le_refl _)
  exact ⟨_,I b,h2 b,k1,k2⟩
 | _=>exact ⟨G',S',q,hs',hev⟩
theorem fin_pure {fn:Func} {h:List Blk} {K:KT} {xs:List AV} {x:AV} {live:List Nat} (hres:aresults P S fn.results.toList=some xs) (hx:(atuple xs).er=x) (hcl:x.cl h.length) (hh:∃junk,S.h=h++junk) (hH:HCl h)
 (hl:∀u∈live,u∈S.live) (hK:K x h live):fin P fn h K .ret S:=⟨xs,x,h,live,hres,.inr (.inl hx.symm),hcl,hh.elim fun j e=>⟨h,j,e,BW.refl _⟩,hH,Nat.le_refl _,hl,hK⟩
end
end Go.Ab
namespace Go.Ab
open Go.RowKit
def FTr (m:Nat) (fr:Nat→AV):FL→Prop
 | []=>True
 | (k,v)::r=>((v=fr k∨v=(fr k).er)∧v.cl m)∧FTr m fr r
theorem FTr.fget {m:Nat} {fr:Nat→AV}:∀ {fl:FL},FTr m fr fl→∀t,fget fl t=.undef∨((fget fl t=fr t∨fget fl t=(fr t).er)∧(fget fl t).cl m)
 | [], _,t=>.inl rfl
 | (k,v)::r,h,t=>by
  rw [fget_cons]
  split
  · rename_i e;subst e;exact .inr h.1
  · exact h.2.fget t
theorem FTr.cons {m:Nat} {fr:Nat→AV} {k:Nat} {v:AV} {r:FL} (h:fr k=v) (hc:v.cl m) (hr:FTr m fr r):FTr m fr ((k,v)::r):=⟨⟨.inl h.symm,hc⟩,hr⟩
theorem FTr.ercons {m:Nat} {fr:Nat→AV} {k:Nat} {v x:AV} {r:FL} (h:fr k=x) (hx:x.er=v) (hc:v.cl m) (hr:FTr m fr r):FTr m fr ((k,v)::r):=⟨⟨.inr (by rw [h,hx]),hc⟩,hr⟩
theorem FTr.nil {m:Nat} {fr:Nat→AV}:FTr m fr []:=trivial
theorem Trunc.of {n:Nat} {fr:Nat→AV} {fl:FL} {h h1 junk:List Blk} {live live1:List Nat} (hj:h=h1++junk) (hfr:FTr h1.length fr fl) (hH:HCl h1) (hl:∀u∈live1,u∈live):Trunc ⟨n,fr,h,live⟩ ⟨n,fget fl,h1,live1⟩:=
 ⟨rfl,hfr.fget,⟨junk,hj⟩,hH,hl⟩
theorem Trunc.same {n:Nat} {fr:Nat→AV} {fl:FL} {h:List Blk} {live:List Nat} (hfr:FTr h.length fr fl) (hH:HCl h):Trunc ⟨n,fr,h,live⟩ ⟨n,fget fl,h,live⟩:=
 Trunc.of (List.append_nil h).symm hfr hH fun _ h=>h
theorem clL_str (n:Nat) (l:List (List UInt8)):AV.clL n (l.map .str):=by
 rw [AV.clL_mem];intro x hx;obtain ⟨y, _,rfl⟩:=List.mem_map.1 hx;trivial
theorem clL_int (n:Nat) {α:Type} (f:α→Int) (k:IntKind) (l:List α):AV.clL n (l.map fun x=>.int k (f x)):=by
 rw [AV.clL_mem];intro x hx;obtain ⟨y, _,rfl⟩:=List.mem_map.1 hx;trivial
theorem erL_str (l:List (List UInt8)):AV.erL (l.map .str)=l.map .str:=by
 rw [AV.erL_map,List.map_map];rfl
theorem getD_map {α β:Type} (f:α→β) (l:List α) (i:Nat) (d:β) (d':α) (h:i<l.length):(l.map f).getD i d=f (l.getD i d'):=by
 simp [List.getD_eq_getElem?_getD,h]
mutual
theorem AV.cl_mono {n m:Nat} (h:n≤m):∀x:AV,x.cl n→x.cl m
 | .ptr k _,hx=>Nat.lt_of_lt_of_le hx h
 | .map k,hx=>Nat.lt_of_lt_of_le hx h
 | .slice l _,hx=>AV.clL_mono h l hx
 | .agg l,hx=>AV.clL_mono h l hx
 | .tup l,hx=>AV.clL_mono h l hx
 | .fn _ a b,hx=>⟨AV.clL_mono h a hx.1,AV.clL_mono h b hx.2⟩
 | .iface _ v,hx=>AV.cl_mono h v hx
 | .eptr l _,hx=>AV.clL_mono h l hx
 | .glob _ _, _=>trivial
 | .bsl k _ _ _ _ _,hx=>Nat.lt_of_lt_of_le hx h
 | .undef, _=>trivial
 | .bool _, _=>trivial
 | .int _ _, _=>trivial
 | .str _, _=>trivial
 | .raw _, _=>trivial
theorem AV.clL_mono {n m:Nat} (h:n≤m):∀l:List AV,AV.clL n l→AV.clL m l
 | [], _=>trivial
 | x::r,hx=>⟨AV.cl_mono h x hx.1,AV.clL_mono h r hx.2⟩
end
theorem Blk.cl_mono {n m:Nat} (h:n≤m) {b:Blk} (hb:b.cl n):b.cl m:=by
 cases b with
 | cells c=>exact AV.clL_mono h c hb
 | map es=>exact fun p hp=>⟨AV.cl_mono h _ (hb p hp).1,AV.cl_mono h _ (hb p hp).2⟩
 | glb g c _=>exact AV.clL_mono h c hb
 | siter _ _=>trivial
 | miter k _ _ _=>exact Nat.lt_of_lt_of_le hb h
 | gone=>trivial
theorem HCl.snoc {h:List Blk} {b:Blk} (hH:HCl h) (hb:b.cl (h.length+1)):HCl (h++[b]):=by
 intro x hx
 rw [List.length_append,List.length_singleton]
 rcases List.mem_append.1 hx with hx | hx
 · exact Blk.cl_mono (Nat.le_succ _) (hH x hx)
 · rw [List.mem_singleton.1 hx];exact hb
theorem HCl.set {h:List Blk} {b:Blk} (hH:HCl h) (k:Nat) (hb:b.cl h.length):HCl (h.set k b):=by
 intro x hx
 rw [List.length_set]
 rcases List.mem_or_eq_of_mem_set hx with hx | hx
 · exact hH x hx
 · rw [hx];exact hb
theorem get_app0 {α:Type} (h l:List α):(h++l)[h.length]? = l[0]? := by rw [List.getElem?_append_right (Nat.le_refl _),Nat.sub_self]
theorem get_app {α:Type} (h l:List α) (k:Nat):(h++l)[h.length+k]? = l[k]? := by rw [List.getElem?_append_right (Nat.le_add_right _ _),Nat.add_sub_cancel_left]
theorem set_app0 {α:Type} (h l:List α) (x:α):(h++l).set h.length x=h++l.set 0 x:=by rw [List.set_append_right _ _ (Nat.le_refl _),Nat.sub_self]
theorem set_app {α:Type} (h l:List α) (k:Nat) (x:α):(h++l).set (h.length+k) x=h++l.set k x:=by rw [List.set_append_right _ _ (Nat.le_add_right _ _),Nat.add_sub_cancel_left]
theorem foldl_take {α β:Type} (f:β→α→β) (b:β) (l:List α) (i:Nat) (d:α) (hi:i<l.length):(l.take (i+1)).foldl f b=f ((l.take i).foldl f b) (l.getD i d):=by
 rw [List.take_add_one,List.foldl_append]
 simp [List.getD_eq_getElem?_getD,hi]
attribute [push_cast] get_app0 get_app set_app0 set_app List.append_assoc List.length_append
section
variable {α:Type} {h l:List α} {k j:Nat} {b b':α}
theorem get_setk (hk:k<h.length):(h.set k b)[k]? = some b:=by simp [hk]
theorem get_setapp (hk:k<h.length):(h.set k b++l)[k]? = some b:=by
 rw [List.getElem?_append_left (by simpa using hk)];simp [hk]
theorem set_setapp (hk:k<h.length):(h.set k b++l).set k b'=h.set k b'++l:=by
 rw [List.set_append_left _ _ (by simpa using hk),List.set_set]
theorem get_setloc:(h.set k b++l)[h.length+j]? = l[j]? := by
 have:=get_app (h.set k b) l j;rwa [List.length_set] at this
theorem get_setloc0:(h.set k b++l)[h.length]? = l[0]? := by
 have:=get_app0 (h.set k b) l;rwa [List.length_set] at this
theorem set_setloc:(h.set k b++l).set (h.length+j) b'=h.set k b++l.set j b':=by
 have:=set_app (h.set k b) l j b';rwa [List.length_set] at this
theorem set_setloc0:(h.set k b++l).set h.length b'=h.set k b++l.set 0 b':=by
 have:=set_app0 (h.set k b) l b';rwa [List.length_set] at this
theorem set_self (hk:h[k]? = some b):h.set k b=h:=by
 apply List.ext_getElem?
 intro i
 rw [List.getElem?_set]
 split
 ·
  rename_i e;subst e
  rw [hk]
  have:=(List.getElem?_eq_some_iff.1 hk).1
  simp [this]
 · rfl
end
attribute [push_cast] get_setk get_setapp set_setapp get_setloc get_setloc0 set_setloc set_setloc0 List.set_set List.length_set
section
variable {P:Program} {S:AS}
theorem fin_gen {fn:Func} {h h1:List Blk} {K:KT} {xs:List AV} {x:AV} {live:List Nat} (hres:aresults P S fn.results.toList=some xs) (hx:atuple xs=x∨(atuple xs).er=x) (hcl:x.cl h1.length) (hh:∃junk,S.h=h1++junk) (hH:HCl h1) (hle:h.length≤h1.length)
 (hl:∀u∈live,u∈S.live) (hK:K x h1 live):fin P fn h K .ret S:=⟨xs,x,h1,live,hres,hx.elim (fun h=>.inl h.symm) (fun h=>.inr (.inl h.symm)),hcl,hh.elim fun j e=>⟨h1,j,e,BW.refl _⟩,hH,hle,hl,hK⟩
theorem fin_frz {fn:Func} {h h1:List Blk} {K:KT} {xs:List AV} {x:AV} {live:List Nat} (hres:aresults P S fn.results.toList=some xs) (hx:((atuple xs).frz S.h h1.length).er=x) (hcl:x.cl h1.length) (hh:∃junk,S.h=h1++junk) (hH:HCl h1) (hle:h.length≤h1.length)
 (hl:∀u∈live,u∈S.live) (hK:K x h1 live):fin P fn h K .ret S:=⟨xs,x,h1,live,hres,.inr (.inr (.inl hx.symm)),hcl,hh.elim fun j e=>⟨h1,j,e,BW.refl _⟩,hH,hle,hl,hK⟩
theorem fin_frzu {fn:Func} {h h1:List Blk} {K:KT} {xs:List AV} {x:AV} {live:List Nat} (hres:aresults P S fn.results.toList=some xs) (hx:(atuple xs).frz S.h h1.length=x) (hcl:x.cl h1.length) (hh:∃junk,S.h=h1++junk) (hH:HCl h1) (hle:h.length≤h1.length)
 (hl:∀u∈live,u∈S.live) (hK:K x h1 live):fin P fn h K .ret S:=⟨xs,x,h1,live,hres,.inr (.inr (.inr hx.symm)),hcl,hh.elim fun j e=>⟨h1,j,e,BW.refl _⟩,hH,hle,hl,hK⟩
theorem fin_er {fn:Func} {h h1:List Blk} {K:KT} {xs:List AV} {x:AV} {live:List Nat} (hres:aresults P S fn.results.toList=some xs) (hx:(atuple xs).er=x) (hcl:x.cl h1.length) (hh:∃g junk,S.h=g++junk∧BW g h1) (hH:HCl h1) (hle:h.length≤h1.length)
 (hl:∀u∈live,u∈S.live) (hK:K x h1 live):fin P fn h K .ret S:=⟨xs,x,h1,live,hres,.inr (.inl hx.symm),hcl,hh,hH,hle,hl,hK⟩
end
theorem take_drop_len {α:Type} (s:List α) (a:Nat):(s.drop a).take (s.length - a)=s.drop a:=List.take_of_length_le (by simp)
theorem take_drop_map {α β:Type} (f:α→β) (s:List α) (a:Nat):((s.map f).drop a).take (s.length - a)=(s.drop a).map f:=by
 rw [←List.map_drop];exact List.take_of_length_le (by simp)
attribute [push_cast] take_drop_len take_drop_map Int.toNat_natCast_add_one
section
variable {P:Program} {h h':List Blk} {fr:Nat→AV}
theorem stab.nil:stab P [] h h':=fun _ _ _ _ hm=>by simp at hm
theorem stab.cons {b off:Nat} {k:TK} {T:List (Nat×Nat×TK)} (h1:blkGet h'[b]? off k=blkGet h[b]? off k) (h2:stab P T h h'):stab P ((b,off,k)::T) h h':=by
 intro b' off' k' t hm ht
 rcases List.mem_cons.1 hm with e | hm
 ·
  cases e
  rw [aload_eq,aload_eq,ht,loadOf_ptr,loadOf_ptr,h1]
 · exact h2 b' off' k' t hm ht
def floadA (k:Option TK) (T:List (Nat×Nat×TK)) (h:List Blk) (a:AV):Option AV:=match k with
 | some k=>match a with
  | .ptr b off=>if (b,off,k)∈T then blkGet h[b]? off k else none
  | .eptr c off=>getCells c off k
  | _=>none
 | none=>none
theorem floadA_ptr (k:TK) (T:List (Nat×Nat×TK)) (b off:Nat):floadA (some k) T h (.ptr b off)=if (b,off,k)∈T then blkGet h[b]? off k else none:=rfl
theorem floadA_eptr (k:TK) (T:List (Nat×Nat×TK)) (c:List AV) (off:Nat):floadA (some k) T h (.eptr c off)=getCells c off k:=rfl
theorem sF_load {d:Option Tmp} {ty:TypeId} {pos:String} {af:Array Edge} {g:Option (Nat×Bool)} {T:List (Nat×Nat×TK)} (t:TypeId) (x:Operand):floadOf P T fr h ⟨d,.load t x,ty,pos,af,g⟩=floadA (tk P t) T h (ev fr x):=by
 unfold floadOf floadA
 simp only []
 cases hk:tk P t with
 | none=>rfl
 | some k=>
  simp only []
  cases ev fr x<;>simp only [aload_eq,hk]<;>rfl
attribute [push_cast] floadA_ptr floadA_eptr sF_load List.mem_cons
end
section
variable {P:Program} {n:Nat}
theorem dawp_gr {q:RQ} {gd:Nat→Option Tmp} {fl:FL} {h:List Blk} {live:List Nat} {F:FT} {o:Oper} {os:List Oper} {x:AV} {g:Bool} {j:Nat} {want:Bool} {t tg:Tmp} (hk:(kindOf q o==.r||kindOf q o==.w)=true) (ho:o.guard=some (j,want)) (hgd:gd j=some tg) (hw:wantOf (gv (fget fl tg)) want=some g)
 (hx:g=true→AOp P (fget fl) h live o (ret x h live)) (hd:o.dst=some t) (hn:decide (t<n)=true) (k:dawp P q gd n os (fget ((t,bif g then x else .tup [])::fl)) h live F):dawp P q gd n (o::os) (fget fl) h live F:=by
 rw [←gval_gv,←hgd] at hw
 unfold wantOf at hw
 rw [←dwant_some ho] at hw
 cases g with
 | true=>
  simp only [Bool.or_eq_true,beq_iff_eq] at hk
  rcases hk with hk | hk
  · exact dawp_r hk hw hd hn (hx rfl) k
  · exact dawp_w hk hw hd hn ((hx rfl).mono fun y h' l' e=>by obtain ⟨e1,e2,e3⟩:=e;subst e1;subst e2;subst e3;exact k)
 | false=>exact dawp_skip hw hd hn k
end
end Go.Ab
namespace Go.Ab
open Go.RowKit Go.ChangeShapes Go.WideShapes Go.Deep
def G00 (W:World):Gh:=⟨0,fun _=>0,fun b _=>b<W.heap.size,[]⟩
theorem hrel0 (W:World):HRel W (G00 W) [] [] where
 len:=rfl
 blk:=fun k x h=>by simp at h
 blk_lt:=fun k h=>absurd h (Nat.not_lt_zero _)
 inj:=fun j k h=>absurd h (Nat.not_lt_zero _)
 imm_lt:=fun b o h=>h
 imm_blk:=fun b o k _ h=>absurd h (Nat.not_lt_zero _)
 tok:=fun t h=>by simp at h
 tok_ne:=fun t u d e h=>by simp at h
theorem below_of {W w':World} {G':Gh} {live':List Nat} (h:Evo W (G00 W) [] w' G' live'):Below W.heap.size W w':=
 ⟨h.os,h.tape,h.output,h.size,fun k hk=>h.other k hk (by
  rintro (⟨j,hj, _⟩ | ⟨t,d,ht, _⟩)
  · exact absurd hj (Nat.not_lt_zero _)
  · simp at ht)⟩
def TVs (tv:TypeId→AV→Prop):List Field→List AV→Prop
 | [],[]=>True
 | f::fs,y::ys=>tv f.type y∧TVs tv fs ys
 | _, _=>False
def TV (P:Program):Nat→TypeId→AV→Prop
 | 0, _, _=>False
 | d+1,t,x=>match P.underlying t with
  | some .bool=>∃b,x=.bool b
  | some (.int k)=>∃n,x=.int k n∧k.min≤n∧n≤k.max
  | some .string=>∃l,x=.str l∧l.length≤reachBytes
  | some (.slice e)=>∃l,x=.slice l .none∧(l.length≤maxLen∧l.length*P.bytesOf e≤reachBytes)∧∀y∈l,TV P d e y
  | some (.struct fs)=>∃ys,x=.agg (ys.flatMap AV.cells)∧TVs (TV P d) fs.toList ys
  | _=>False
def tiles (P:Program):List Field→Nat→Nat→Bool
 | [],off,n=>off==n
 | f::fs,off,n=>f.offset==off&&tiles P fs (off+P.cellsOf f.type) n
def sup (P:Program):Nat→TypeId→Bool
 | 0, _=>false
 | d+1,t=>match P.underlying t with
  | some .bool | some (.int _) | some .string=>P.cellsOf t==1
  | some (.slice e)=>P.cellsOf t==1&&sup P d e&&decide (0<P.cellsOf e)
  | some (.struct fs)=>tiles P fs.toList 0 (P.cellsOf t)&&fs.toList.all fun f=>sup P d f.type
  | _=>false
theorem RepL.app {w:World} {G:Gh} {a b:List AV} {us vs:List Value} (h:RepL w G a us) (k:RepL w G b vs):RepL w G (a++b) (us++vs):=by
 refine ⟨by simp [h.1,k.1],fun i hi=>?_⟩
 rw [getD_append',getD_append',h.1]
 by_cases hl:i<a.length
 · rw [if_pos hl,if_pos hl];exact h.2 i hl
 · rw [if_neg hl,if_neg hl];exact k.2 _ (by simp at hi;omega)
theorem RepL.one {w:World} {G:Gh} {x:AV} {v:Value} (ho:v.oneCell'=true) (h:Rep w G x v):RepL w G [x] [v]:=
 ⟨rfl,fun i hi=>by
  have:i=0:=by simpa using hi
  subst this;exact ⟨ho,h⟩⟩
section
variable {H:Type} {enc:TypeId×Value→H} {P:Program} {W:World} {held:Bool}
theorem weightsAll_mem {e:TypeId} {d:DataW H} {n:Nat} (hn:n∈d.weights P e):∀ {l:List (DataW H)},d∈l→n∈DataW.weightsAll P e l
 | x::l,h=>by
  simp only [DataW.weightsAll,List.mem_append]
  rcases List.mem_cons.1 h with rfl | h
  · exact .inl hn
  · exact .inr (weightsAll_mem hn h)
theorem fields_rep {d fuel:Nat} {cs:List Value} {N:Nat} (ih:∀t cs x,sup P d t=true→DataW.trod enc P W 0 (fun _=>true) held fuel t cs=some x→(∀n∈x.1.weights P t,n≤reachBytes)→∃y,TV P d t y∧y.cells.length=P.cellsOf t∧RepL W (G00 W) y.cells cs) :
 ∀(fs:List Field) (off:Nat),tiles P fs off N=true→cs.length=N→(∀f∈fs,sup P d f.type=true∧∃x,DataW.trod enc P W 0 (fun _=>true) held fuel f.type ((cs.drop f.offset).take (P.cellsOf f.type))=some x∧∀n∈x.1.weights P f.type,n≤reachBytes) →
  ∃ys,TVs (TV P d) fs ys∧RepL W (G00 W) (ys.flatMap AV.cells) (cs.drop off):=by
 intro fs
 induction fs with
 | nil=>
  intro off ht hl _
  have:off=N:=by simpa [tiles] using ht
  subst this
  refine ⟨[],trivial,?_⟩
  rw [List.drop_of_length_le (by omega)]
  exact ⟨rfl,fun i hi=>by simp at hi⟩
 | cons f fs ihf=>
  intro off ht hl hall
  simp only [tiles,Bool.and_eq_true,beq_iff_eq] at ht
  obtain ⟨hs,x,hx,hxw⟩:=hall f (by simp)
  rw [ht.1] at hx
  obtain ⟨y,hy,hyl,hyr⟩:=ih _ _ _ hs hx hxw
  obtain ⟨ys,hys,hyr2⟩:=ihf _ ht.2 hl (fun g hg=>hall g (by simp [hg]))
  refine ⟨y::ys,⟨hy,hys⟩,?_⟩
  rw [List.flatMap_cons,←List.take_append_drop (P.cellsOf f.type) (cs.drop off),List.drop_drop]
  exact hyr.app hyr2
theorem trod_rep:∀(d:Nat) (fuel:Nat) (t:TypeId) (cs:List Value) (x:DataW H×List MemPlace),sup P d t=true→DataW.trod enc P W 0 (fun _=>true) held fuel t cs=some x→(∀n∈x.1.weights P t,n≤reachBytes) →
 ∃y,TV P d t y∧y.cells.length=P.cellsOf t∧RepL W (G00 W) y.cells cs:=by
 intro d
 induction d with
 | zero=>intro fuel t cs x h;simp [sup] at h
 | succ d ih=>
  intro fuel t cs x hsup h hwt
  unfold sup at hsup
  split at hsup
  ·
   rename_i hu
   obtain ⟨b,rfl,rfl⟩:=DataW.trod_bool hu h
   exact ⟨.bool b,by unfold TV;rw [hu];exact ⟨b,rfl⟩,(beq_iff_eq.1 hsup).symm,.one rfl (.bool b)⟩
  ·
   rename_i k hu
   obtain ⟨n,rfl,rfl,hw⟩:=DataW.trod_int hu h
   exact ⟨.int k n,by unfold TV;rw [hu];exact ⟨n,rfl,by simpa [Lit.wf] using hw⟩,(beq_iff_eq.1 hsup).symm,.one rfl (.int k n)⟩
  ·
   rename_i hu
   obtain ⟨s,rfl,rfl,hw⟩:=DataW.trod_string hu h
   exact ⟨.str s.data.toList,by unfold TV;rw [hu];exact ⟨_,rfl,hwt _ (by simp [DataW.weights])⟩,(beq_iff_eq.1 hsup).symm,.one rfl (.str _)⟩
  ·
   rename_i e hu
   simp only [Bool.and_eq_true,beq_iff_eq,decide_eq_true_eq] at hsup
   obtain ⟨⟨hc1,hse⟩,hpos⟩:=hsup
   rcases open_slice hu h with ⟨rfl, _⟩ | ⟨a,len,cap,m,n,D,Pl,rfl, _,hlen,hcap,hm,rfl,hall⟩
   · exact ⟨.slice [] .none,by unfold TV;rw [hu];exact ⟨[],rfl,⟨by simp,by simp⟩,by simp⟩,by simp [AV.cells,hc1],.one rfl (.nilSlice _ rfl)⟩
   ·
    simp only [if_true] at hm
    subst m
    have hwl:len*P.bytesOf e≤reachBytes:=by
     have:=hwt _ (by simp only [DataW.weights,hu];exact List.mem_cons_self)
     rw [List.length_map,List.length_range] at this
     exact Nat.le_trans (Nat.mul_le_mul_right _ (Nat.le_add_right _ _)) this
    have hwe:∀i,i<len→∀n∈(D i).weights P e,n≤reachBytes:=fun i hi n hn=>hwt n (by
     simp only [DataW.weights,hu]
     refine List.mem_cons_of_mem _ (List.mem_append_left _ ?_)
     exact weightsAll_mem hn (List.mem_map.2 ⟨i,List.mem_range.2 hi,rfl⟩))
    have each:∀i,i<len→∃p:AV×List Value,TV P d e p.1∧p.1.cells.length=P.cellsOf e∧RepL W (G00 W) p.1.cells p.2∧W.cells? 0 (a.add (i*P.cellsOf e)) (P.cellsOf e)=some p.2:=fun i hi=>by
     obtain ⟨cs',h1,h2⟩:=hall i (by omega)
     obtain ⟨y,h3,h4,h5⟩:=ih _ _ _ _ hse h2 (hwe i hi)
     exact ⟨(y,cs'),h3,h4,h5,h1⟩
    have:Inhabited (AV×List Value):=⟨(.undef,[])⟩
    obtain ⟨Y,hY⟩:=choose_lt each
    by_cases h0:cap=0
    ·
     subst h0
     have:len=0:=by omega
     subst this
     exact ⟨.slice [] .none,by unfold TV;rw [hu];exact ⟨[],rfl,⟨by simp,by simp⟩,by simp⟩,by simp [AV.cells,hc1],.one rfl (.emptySlice _ _ rfl)⟩
    ·
     have hspot:a.spot=none:=by
      obtain ⟨cs',h1, _⟩:=hall 0 (by omega)
      obtain ⟨_,h3,h4⟩:=World.cells?_some h1
      have:=h4 0 hpos
      have hz:(a.add (0*P.cellsOf e)).add 0=a:=by simp [Addr.add]
      rw [hz] at this
      rw [List.getElem?_eq_getElem (by omega)] at this
      unfold World.cell? at this
      split at this
      ·
       split at this
       · simp at this
       · rename_i hsp;simpa using hsp
      · simp at this
     obtain ⟨b,o,sp⟩:=a
     simp only at hspot
     subst hspot
     have hg:∀i,i<len→((List.range len).map fun i=>(Y i).1).getD i .undef=(Y i).1:=fun i hi=>by simp [List.getD_eq_getElem?_getD,hi]
     have hcell:∀i j,i<len→j<P.cellsOf e→W.cell? ⟨b,o+(i*P.cellsOf e+j),none⟩=some ((Y i).2.getD j undef):=fun i j hi hj=>by
      obtain ⟨_,h3,h4⟩:=World.cells?_some (hY i hi).2.2.2
      have:=h4 j hj
      rw [add_add] at this
      have e1:(⟨b,o,none⟩:Addr).add (i*P.cellsOf e+j)=⟨b,o+(i*P.cellsOf e+j),none⟩:=by
       unfold Addr.add;split<;>simp_all
      rw [e1] at this
      rw [this,List.getD_eq_getElem?_getD,List.getElem?_eq_getElem (by omega)]
      rfl
     refine ⟨.slice ((List.range len).map fun i=>(Y i).1) .none,?_,by simp [AV.cells,hc1],.one rfl ?_⟩
     ·
      unfold TV;rw [hu]
      refine ⟨_,rfl,⟨by simp;omega,by simpa using hwl⟩,fun y hy=>?_⟩
      obtain ⟨i,hi,rfl⟩:=List.mem_map.1 hy
      exact (hY i (List.mem_range.1 hi)).1
     ·
      have key:=Rep.slice (w:=W) (G:=G00 W) ((List.range len).map fun i=>(Y i).1) .none b o cap (P.cellsOf e) (fun i j=>(Y i).2.getD j undef) (by simpa using hlen) hcap
       (fun i hi=>by
        have hi':i<len:=by simpa using hi
        rw [hg i hi'];exact (hY i hi').2.1)
       (fun i j hi hj=>by
        have:=hcell i j (by simpa using hi) hj
        show b<W.heap.size
        unfold World.cell? at this
        cases hb:W.heap[b]? with
        | none=>simp [hb] at this
        | some o'=>exact (Array.getElem?_eq_some_iff.1 hb).1)
       (fun i j hi hj=>hcell i j (by simpa using hi) hj)
       (fun i j hi hj=>by
        have hi':i<len:=by simpa using hi
        exact ((hY i hi').2.2.1.2 j (by rw [(hY i hi').2.1];exact hj)).1)
       (fun i j hi hj=>by
        have hi':i<len:=by simpa using hi
        rw [hg i hi']
        exact ((hY i hi').2.2.1.2 j (by rw [(hY i hi').2.1];exact hj)).2) trivial
      simpa using key
  ·
   rename_i fs hu
   simp only [Bool.and_eq_true] at hsup
   obtain ⟨xs,n,rfl,rfl,hcl,hxl,hall⟩:=DataW.trod_struct hu h
   obtain ⟨ys,h1,h2⟩:=fields_rep (enc:=enc) (P:=P) (W:=W) (held:=held) (d:=d) (fuel:=n) (cs:=cs) (fun t cs x hs hx hw=>ih n t cs x hs hx hw) fs.toList 0 hsup.1 hcl (fun f hf=>by
    refine ⟨List.all_eq_true.1 hsup.2 f hf,?_⟩
    obtain ⟨i,hi,e⟩:=List.mem_iff_getElem.1 hf
    have hfi:fs[i]? = some f:=by
     rw [←e];simp at hi;simp [hi]
    rw [hall i f hfi]
    have hi':i<xs.length:=by rw [hxl];simpa using hi
    refine ⟨_,List.getElem?_eq_getElem hi',fun n hn=>hwt n ?_⟩
    show n∈(DataW.agg (xs.map (·.1))).weights P t
    unfold DataW.weights;rw [hu]
    exact DataW.weights_mem_each (j:=i) (by rw [List.getElem?_map,Array.getElem?_toList,hfi];rfl) (by rw [List.getElem?_map,List.getElem?_eq_getElem hi'];rfl) n hn)
   rw [List.drop_zero] at h2
   refine ⟨.agg (ys.flatMap AV.cells),?_,?_,h2⟩
   · unfold TV;rw [hu];exact ⟨ys,rfl,h1⟩
   ·
    show (ys.flatMap AV.cells).length=_
    rw [←h2.1,hcl]
  · simp at hsup
end
end Go.Ab
namespace Go.Ab
open Go.RowKit Go.ChangeShapes Go.WideShapes Go.Deep
theorem notAgg {P:Program} {W:World} {base:Nat} {t:TypeId} {v:Value} (hok:Value.okWide P W .any base t v) (hu:match P.underlying t with | some .bool | some (.int _) | some .string | some (.slice _)=>True | _=>False):∀cs,v≠.agg cs:=by
 intro cs e
 subst e
 unfold Value.okWide at hok
 split at hok
 · rename_i h;simp [h] at hu
 · rename_i h;simp [h] at hu
 ·
  unfold Cell.okWide at hok
  split at hok<;>first
   | (rename_i h _;simp [h] at hu;done)
   | skip
  unfold Cell.ok at hok
  split at hok<;>first
   | exact hok
   | (rename_i h _;cases h;done)
   | simp_all
theorem cells_one {v u:Value} (hn:∀cs,v≠.agg cs) (h:v.cells.toList=[u]):v=u:=by
 cases v<;>first
  | exact absurd rfl (hn _)
  | (simpa [Value.cells] using h)
def TVl (P:Program) (d:Nat):List TypeId→List AV→Prop
 | [],[]=>True
 | t::ts,y::ys=>TV P d t y∧TVl P d ts ys
 | _, _=>False
section
variable {H:Type} {enc:TypeId×Value→H} {P:Program} {W:World}
theorem weightsEach_app {n:Nat} {ts':List TypeId} (ds':List (DataW H)):∀ {ts:List TypeId} {ds:List (DataW H)},n∈DataW.weightsEach P ts ds→n∈DataW.weightsEach P (ts++ts') (ds++ds')
 | t::ts,x::ds,h=>by
  simp only [DataW.weightsEach,List.mem_append,List.cons_append] at h ⊢
  exact h.elim .inl fun h=>.inr (weightsEach_app ds' h)
 | [], _,h=>by simp [DataW.weightsEach] at h
 | _::_,[],h=>by simp [DataW.weightsEach] at h
theorem arg_rep {d base:Nat} {t:TypeId} {v:Value} {x:DataW H} {ps:List MemPlace} (hs:sup P d t=true) (hok:Value.okWide P W .any base t v) (h:DataW.Trod enc P W 0 (fun _=>true) true t v x ps) (hwt:∀n∈x.weights P t,n≤reachBytes):∃y,TV P d t y∧Rep W (G00 W) y v:=by
 obtain ⟨fuel,h⟩:=h
 obtain ⟨y,hy, _,hr⟩:=trod_rep d fuel t _ _ hs h hwt
 refine ⟨y,hy,?_⟩
 cases d with
 | zero=>simp [sup] at hs
 | succ d=>
  have one:(match P.underlying t with | some .bool | some (.int _) | some .string | some (.slice _)=>True | _=>False)→y.cells=[y]→Rep W (G00 W) y v:=by
   intro hu hc
   rw [hc] at hr
   have hl:v.cells.toList.length=1:=hr.1
   obtain ⟨u,hu'⟩:=List.length_eq_one_iff.1 hl
   rw [hu'] at hr
   rw [cells_one (notAgg hok hu) hu']
   exact (hr.2 0 (by simp)).2
  unfold TV at hy
  split at hy
  · rename_i hu;obtain ⟨b,rfl⟩:=hy;exact one (by simp [hu]) rfl
  · rename_i k hu;obtain ⟨n,rfl, _⟩:=hy;exact one (by simp [hu]) rfl
  · rename_i hu;obtain ⟨l,rfl, _⟩:=hy;exact one (by simp [hu]) rfl
  · rename_i e hu;obtain ⟨l,rfl, _⟩:=hy;exact one (by simp [hu]) rfl
  ·
   rename_i fs hu
   obtain ⟨ys,rfl, _⟩:=hy
   unfold Value.okWide at hok
   rw [hu] at hok
   obtain ⟨cs,rfl, _, _⟩:=hok
   have e:cs=cs.toList.toArray:=by simp
   rw [e]
   have hr':RepL W (G00 W) (ys.flatMap AV.cells) cs.toList:=hr
   exact .agg _ _ hr'.1 (fun i hi=>(hr'.2 i hi).1) (fun i hi=>(hr'.2 i hi).2)
  · exact hy.elim
theorem args_rep {d base:Nat}:∀(ts:List TypeId) (vs:List Value) (ds:List (DataW H)) (ps:List MemPlace),ts.all (sup P d)=true→(∀(j:Nat) t v,ts[j]? = some t→vs[j]? = some v→Value.okWide P W .any base t v) →
 DataW.TrodAll enc P W 0 (fun _=>true) true ts vs ds ps→(∀n∈DataW.weightsEach P ts ds,n≤reachBytes)→ds.length=ts.length∧∃ys,TVl P d ts ys∧vs.length=ys.length∧∀i,i<ys.length→Rep W (G00 W) (ys.getD i .undef) (vs.getD i undef)
 | [],[],[],ps, _, _, _, _=>⟨rfl,[],trivial,rfl,fun i hi=>by simp at hi⟩
 | t::ts,v::vs,x::ds,ps,hs,hok,h,hwt=>by
  obtain ⟨p,q,h1,h2,rfl⟩:=h
  simp only [DataW.weightsEach,List.mem_append] at hwt
  rw [List.all_cons,Bool.and_eq_true] at hs
  obtain ⟨y,hy,hr⟩:=arg_rep hs.1 (hok 0 t v rfl rfl) h1 (fun n hn=>hwt n (.inl hn))
  obtain ⟨hl,ys,hys,hl2,hr2⟩:=args_rep ts vs ds q hs.2 (fun j t' v' hj hv=>hok (j+1) t' v' (by simpa using hj) (by simpa using hv)) h2 (fun n hn=>hwt n (.inr hn))
  refine ⟨by simp [hl],y::ys,⟨hy,hys⟩,by simp [hl2],fun i hi=>?_⟩
  cases i with
  | zero=>simpa using hr
  | succ i=>simpa using hr2 i (by simpa using hi)
 | [],[], _::_, _, _, _,h, _=>h.elim
 | [], _::_, _, _, _, _,h, _=>h.elim
 | _::_,[], _, _, _, _,h, _=>h.elim
 | _::_, _::_,[], _, _, _,h, _=>h.elim
theorem trodAll_later (hl:laidOutB P=true) {W':World} {sp:Nat→Bool}:∀(ts:List TypeId) (vs:List Value) (ds:List (DataW H)) (ps:List MemPlace),ts.all (fun t=>P.readableRec t&&decide (t<P.types.size))=true→(∀p∈ps,W.sameAt W' p)→(∀p∈ps,sp p.block=true) →
 DataW.TrodAll enc P W 0 (fun _=>true) true ts vs ds ps→DataW.TrodAll enc P W' 0 sp true ts vs ds ps
 | [],[],[],ps, _, _, _,h=>h
 | t::ts,v::vs,x::ds,ps,hr,h1,h2,h=>by
  obtain ⟨p,q,k1,k2,rfl⟩:=h
  rw [List.all_cons,Bool.and_eq_true,Bool.and_eq_true,decide_eq_true_eq] at hr
  exact ⟨p,q,WideElems.Trod_stays hl hr.1.1 hr.1.2 k1 (fun x hx=>h1 x (by simp [hx])) (fun x hx=>h2 x (by simp [hx])),trodAll_later hl ts vs ds q hr.2 (fun x hx=>h1 x (by simp [hx])) (fun x hx=>h2 x (by simp [hx])) k2,rfl⟩
 | [],[], _::_, _, _, _, _,h=>h.elim
 | [], _::_, _, _, _, _, _,h=>h.elim
 | _::_,[], _, _, _, _, _,h=>h.elim
 | _::_, _::_,[], _, _, _, _,h=>h.elim
end
theorem law_true {P:Program} {H:Type} {enc:TypeId×Value→H} {f:FuncId} {fn:Func} {s:ChangeSpec} {apart fresh handsOn:Bool} {d base:Nat} {tb:TypeId} {W:World} {args:Array Value} {ds gs:List (DataW H)} {before:List MemPlace}
 (hl:laidOutB P=true) (hread:fn.params.toList.all (fun t=>P.readableRec t&&decide (t<P.types.size))=true) (hsup:fn.params.toList.all (sup P d)=true)
 (hf:P.funcs[f]? = some fn) (hn:(fn.name == "runtime.NumGoroutine")=false) (hb:fn.body.isSome=true) (hres:fn.resultTypes = #[tb]) (htb:P.underlying tb=some .bool) (hvars:s.vars=[])
 (hspec:∀ds:List (DataW H),ds.length=fn.params.toList.length→s.fn H ds={ results:=[.lit (.bool true)],args:=ds })
 (hw:∀ys,TVl P d fn.params.toList ys→ACalls P f ys [] [] (ret (.bool true) [] []))
 (hval:∀(j:Nat) t v,fn.params[j]? = some t→args[j]? = some v→Value.okWide P W .any base t v)
 (hW:DataW.Whole enc P fn.params.toList s.vars apart W args.toList ds gs before) (hwt:(DataW.weightsEach P (fn.params.toList++s.plain.varTypes P) (ds++gs)).all (· ≤ reachBytes)=true) :
 Calls P f args W fun e W'=>∃v,e=.returned v∧s.post enc P fn apart fresh handsOn false W args v W':=by
 obtain ⟨p,q,hA,hV,rfl,hz,hnd⟩:=id hW
 rw [hvars] at hV
 obtain ⟨rfl,rfl⟩:=trodVars_none hV
 obtain ⟨hdl,ys,hys,hyl,hyr⟩:=args_rep (d:=d) (base:=base) fn.params.toList args.toList ds p hsup (fun j t v hj hv=>hval j t v (by simpa using hj) (by simpa using hv)) hA (fun n hn=>of_decide_eq_true (List.all_eq_true.1 hwt n (weightsEach_app _ hn)))
 obtain ⟨c,hc⟩:=Option.isSome_iff_exists.1 hb
 have hcall:=hw ys hys W (G00 W) args.toList hyl hyr (hrel0 W)
 rw [run_callFunc hf hn hc] at hcall
 refine Calls.mono hcall fun e W' hpost=>?_
 obtain ⟨v,rfl,x,h',live',G',⟨rfl,rfl,rfl⟩,hrep, _,hev⟩:=hpost
 cases hrep
 have hbel:=below_of hev
 have hlt:∀y∈p++[],y.block<W.heap.size:=fun y hy=>hW.lt y hy
 refine ⟨_,rfl,ds,[],p++[],[],p,[],hW,?_,?_,?_,?_,fun h=>nomatch h⟩
 ·
  rw [List.append_nil,hspec ds hdl,hres]
  exact ⟨[],[],⟨1,by simp [DataW.trod,htb,Value.cells]⟩,rfl,rfl⟩
 ·
  rw [List.append_nil,hspec ds hdl]
  exact trodAll_later hl _ _ _ _ hread (fun y hy=>hbel.same (hlt y (by simp [hy]))) (fun y hy=>by simpa using hlt y (by simp [hy])) hA
 · rw [hvars,List.append_nil,hspec ds hdl];rfl
 · exact hbel.frame _
end Go.Ab
namespace Go.Ab
section
variable {P:Program} {d:Nat} {t:TypeId} {x:AV}
theorem TV_strB (hu:P.underlying t=some .string) (h:TV P (d+1) t x):∃l,x=.str l∧l.length≤reachBytes:=by
 unfold TV at h;rw [hu] at h;exact h
theorem TV_str (hu:P.underlying t=some .string) (h:TV P (d+1) t x):∃l,x=.str l∧l.length≤maxLen:=by
 obtain ⟨l,e,h⟩:=TV_strB hu h
 exact ⟨l,e,Nat.le_trans h (by decide)⟩
theorem TV_bool (hu:P.underlying t=some .bool) (h:TV P (d+1) t x):∃b,x=.bool b:=by
 unfold TV at h;rw [hu] at h;exact h
theorem TV_int {k:IntKind} (hu:P.underlying t=some (.int k)) (h:TV P (d+1) t x):∃n,x=.int k n∧k.min≤n∧n≤k.max:=by
 unfold TV at h;rw [hu] at h;exact h
theorem TV_u8 (hu:P.underlying t=some (.int .u8)) (h:TV P (d+1) t x):∃c:UInt8,x=.int .u8 c.toNat:=by
 obtain ⟨n,rfl,h1,h2⟩:=TV_int hu h
 have h1':(0:Int)≤n:=h1
 have h2':n≤255:=h2
 refine ⟨n.toNat.toUInt8,?_⟩
 congr 1
 have:n.toNat.toUInt8.toNat=n.toNat:=by simp;omega
 rw [this];omega
theorem map_of_all {α:Type} {enc:α→AV}:∀ {l:List AV},(∀y∈l,∃a,y=enc a)→∃m:List α,l=m.map enc
 | [], _=>⟨[],rfl⟩
 | y::l,h=>by
  obtain ⟨a,rfl⟩:=h _ (List.mem_cons_self ..)
  obtain ⟨m,rfl⟩:=map_of_all (l:=l) fun z hz=>h z (List.mem_cons_of_mem _ hz)
  exact ⟨a::m,rfl⟩
theorem TV_slice {α:Type} {enc:α→AV} {e:TypeId} (hu:P.underlying t=some (.slice e)) (he:∀y,TV P d e y→∃a,y=enc a) (h:TV P (d+1) t x):∃l:List α,x=.slice (l.map enc) .none∧l.length≤maxLen:=by
 unfold TV at h;rw [hu] at h
 obtain ⟨l,rfl,hl,hall⟩:=h
 obtain ⟨m,rfl⟩:=map_of_all (enc:=enc) fun y hy=>he y (hall y hy)
 exact ⟨m,rfl,by simpa using hl.1⟩
theorem TV_sliceP {α:Type} {enc:α→AV} {p:α→Prop} {e:TypeId} (hu:P.underlying t=some (.slice e)) (he:∀y,TV P d e y→∃a,y=enc a∧p a) (h:TV P (d+1) t x):∃l:List α,x=.slice (l.map enc) .none∧l.length≤maxLen∧l.length*P.bytesOf e≤reachBytes∧∀a∈l,p a:=by
 unfold TV at h;rw [hu] at h
 obtain ⟨l,rfl,hl,hall⟩:=h
 obtain ⟨m,rfl⟩:=map_of_all (enc:=fun a:{a // p a}=>enc a.1) fun y hy=>by obtain ⟨a,rfl,ha⟩:=he y (hall y hy);exact ⟨⟨a,ha⟩,rfl⟩
 refine ⟨m.map (·.1),by rw [List.map_map];rfl,by simpa using hl.1,by simpa using hl.2,fun a ha=>?_⟩
 obtain ⟨b, _,rfl⟩:=List.mem_map.1 ha
 exact b.2
theorem TV_strs {e:TypeId} (hu:P.underlying t=some (.slice e)) (he:P.underlying e=some .string) (h:TV P (d+1+1) t x):∃l:List (List UInt8),x=.slice (l.map .str) .none∧l.length≤maxLen:=
 TV_slice hu (fun y hy=>by obtain ⟨l,e, _⟩:=TV_str he hy;exact ⟨l,e⟩) h
theorem TVl_one {t:TypeId} {ys:List AV} (h:TVl P d [t] ys):∃a,ys=[a]∧TV P d t a:=by
 match ys,h with
 | [a],h=>exact ⟨a,rfl,h.1⟩
theorem TVl_two {t u:TypeId} {ys:List AV} (h:TVl P d [t,u] ys):∃a b,ys=[a,b]∧TV P d t a∧TV P d u b:=by
 match ys,h with
 | [a,b],h=>exact ⟨a,b,rfl,h.1,h.2.1⟩
theorem TVl_three {t u v:TypeId} {ys:List AV} (h:TVl P d [t,u,v] ys):∃a b c,ys=[a,b,c]∧TV P d t a∧TV P d u b∧TV P d v c:=by
 match ys,h with
 | [a,b,c],h=>exact ⟨a,b,c,rfl,h.1,h.2.1,h.2.2.1⟩
end
end Go.Ab
