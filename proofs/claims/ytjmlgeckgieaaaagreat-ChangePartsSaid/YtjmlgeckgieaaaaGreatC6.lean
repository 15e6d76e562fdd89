import Derived.Test.YtjmlgeckgieaaaaGreatC5
/-
  CHANGES: the law of two changes of one node.
-/
set_option linter.unusedVariables false
set_option linter.unusedSimpArgs false
namespace Go.Proofs.YtjmlgeckgieaaaaGreat
open Go.Ab
set_option maxRecDepth 8000
set_option maxHeartbeats 400000
def uidN (n:Nd) (u:Int):Nd:=⟨n.kind,n.mode,u,n.gid,n.data,n.ents,n.target⟩
theorem ndC_u2 (n:Nd) (u:Int):(ndC n).set 2 (.int .i64 u)=ndC (uidN n u):=rfl
theorem prt_1 (n:Nd) (a b u:Int):uidN (modeN (modeN n a) b) u=prtN n b u:=rfl
theorem prt_2 (n:Nd) (a b:Int):modeN (modeN n a) b=modeN n b:=rfl
attribute [push_cast] ndC_s1 ndC_u2 prt_1 prt_2
theorem f_4096:((4096:Int)=0)=False:=by simp
theorem tm_bd {a:Int} (h:0≤a) {b:Int} (hb:0<b):0≤a.tmod b∧a.tmod b<b:=⟨Int.tmod_nonneg b h,Int.tmod_lt_of_pos a hb⟩
theorem set_at (H:List Blk) {k j:Nat} (hne:j≠k) (b x:Blk) (hx:H[j]? = some x):(H.set k b)[j]? = some x:=by rw [List.getElem?_set_ne (Ne.symm hne)];exact hx
theorem c5 (room:Int) (l:List Rw) (i a b u:Int) (h:List Blk) (live:List Nat) (hh0:h=[]) (hn:l.length≤9223372036854775807) (hi:0≤i∧i≤255) (ha:0≤a∧a≤65535) (hb:0≤b∧b≤65535) (hu:0≤u∧u≤255):AC Tryz.prog 5 [.int .i64 room,.slice (l.map rV) .none,.int .u8 i,.int .u16 a,.int .u16 b,.int .u8 u] h live (.bool true):=by
 refine aq_ Tryz.func5 fun hH hX=>?_
 have sx:=(And.intro @ch_X (And.intro @f_4096 sx0))
 refine rg_ [0,1,2,3,4,5] ?_
 refine rs_ [0,1,2,3,4,5,13] ?_
 refine cl_ (hc:=c8 _ _ hh0) (k:=?_)
 refine sre_ ?_
 refine sk_ fun K1 hK1=>?_
 refine rg_ [0,1,2,3,4,5,28] ?_
 refine cdn_ (ht:=fun hb1=>?_) (hf:=fun hb1=>?_)
 · exfalso;exact Bool.noConfusion hb1
 refine skp_ ?_
 refine hK1 _ ?_
 refine rs_ [2,3,4,5,14,15] ?_
 refine sg_ ?_
 refine ck_ (k:=?_)
 refine erx_ (ys:=[.int .i64 room,.slice (l.map rV) .none,.agg [.int .i64 0,.int .i64 0,.slice (([]:List Int).map iV) .none]]) (by simp only [List.map_cons,List.map_nil,AV.er,AV.erL,erL_rV]<;>rfl) ((ACalls.hclK (c9 room l ⟨0,0,[]⟩ _ _ hn (by simp))).mono ?_);rintro _ H _ ⟨⟨rfl,g,p,rfl,hHe,hpc,hp⟩,hHg⟩
 refine sre_ ?_
 refine sk_ fun K2 hK2=>?_
 refine rg_ [2,3,4,5,14,37] ?_
 refine cdn_ (ht:=fun hb2=>?_) (hf:=fun hb2=>?_)
 ·
  refine rg_ [12] ?_
  refine ret_ ?_
  refine gq_ (h1:=h) Tryz.results5 ?_ (hh:=(⟨_,by rw [hh0];exact (List.nil_append _).symm⟩))
  exact rk_ rfl
 obtain ⟨T,hTe⟩:=Option.isSome_iff_exists.1 (by simpa using hb2)
 obtain ⟨k,rfl,hk⟩:=hp T hTe
 have hkl:=lt_of_get hk
 obtain ⟨hT, -⟩:=builtF_ok hTe
 have hR:=built_rt hTe
 obtain ⟨u1,u2,u3⟩:=built_used hTe
 have hw:IntKind.i64.wrap i=i:=wrapS (by omega) (by omega)
 have hun:(T.used=0)=False:=eq_false (by omega)
 obtain ⟨q,hq⟩:∃q,i.tmod T.used=q:=⟨_,rfl⟩
 have hq1:0≤q∧q<T.used:=hq▸tm_bd hi.1 (by omega)
 have hw2:IntKind.i64.wrap (q+1)=q+1:=wrapS (by omega) (by omega)
 have hK:=u3 (q+1) (by omega) (by omega)
 obtain ⟨K,hKe⟩:∃K,q+1=K:=⟨_,rfl⟩
 rw [hKe] at hK hw2
 obtain ⟨a',ha'⟩:∃a',a.tmod 4096=a':=⟨_,rfl⟩
 have ha1:0≤a'∧a'<4096:=ha'▸tm_bd ha.1 (by omega)
 obtain ⟨b',hb'⟩:∃b',b.tmod 4096=b':=⟨_,rfl⟩
 have hb1':0≤b'∧b'<4096:=hb'▸tm_bd hb.1 (by omega)
 have hwa:IntKind.i64.wrap a'=a':=wrapS (by omega) (by omega)
 have hwb:IntKind.i64.wrap b'=b':=wrapS (by omega) (by omega)
 have hwu:IntKind.i64.wrap u=u:=wrapS (by omega) (by omega)
 have sx:=And.intro hw (And.intro hun (And.intro hq (And.intro hKe (And.intro hw2 (And.intro ha' (And.intro hb' (And.intro hwa (And.intro hwb (And.intro hwu sx)))))))))
 refine skp_ ?_
 refine hK2 _ ?_
 refine rs_ [3,4,5,14,16] ?_
 refine sg_ ?_
 refine cl_ (hc:=c20 T k _ _ hk hT) (k:=?_)
 refine sre_ ?_
 refine rs_ [3,4,5,14,16,17] ?_
 refine sg_ ?_
 refine cl_ (hc:=c11 T k _ _ hk hT) (k:=?_)
 refine sre_ ?_
 refine rs_ [3,4,5,14,16,17,18,19] ?_
 refine sg_ ?_
 refine cl_ (hc:=c21 T k _ _ _ (atApp hk) hT) (k:=?_)
 refine sre_ ?_
 refine sk_ fun K3 hK3=>?_
 refine rg_ [3,4,5,14,16,17,18,53] ?_
 refine cy_ (fun hb3=>?_) (fun hb3=>?_)
 ·
  exfalso
  rw [hK] at hb3;exact Bool.noConfusion hb3
 refine skp_ ?_
 refine hK3 _ ?_
 refine sk_ fun K4 hK4=>?_
 refine rg_ [3,4,5,14,16,17,18,56] ?_
 refine cy_ (fun hb4=>?_) (fun hb4=>?_)
 ·
  refine rg_ [12] ?_
  refine ret_ ?_
  refine gq_ (h1:=h) Tryz.results5 ?_ (hh:=(⟨_,by rw [hh0];exact (List.nil_append _).symm⟩))
  exact rk_ rfl
 have hG1:Gd (putT T K (prtN (T.get K).1 a' (T.get K).1.uid)).2:=Gd.put (T:=T) ⟨hT,hR⟩ (n:=prtN (T.get K).1 a' (T.get K).1.uid) ⟨(get_ok hT K).1,(get_ok hT K).2.1,(get_ok hT K).2.2.1,(get_ok hT K).2.2.2⟩ K
 obtain ⟨U,hU⟩:∃U,(putT (putT T K (prtN (T.get K).1 a' (T.get K).1.uid)).2 K (prtN (T.get K).1 b' u)).2=U:=⟨_,rfl⟩
 obtain ⟨hUg,p1,p2,p3⟩:=parts_law ⟨hT,hR⟩ hK (by simpa using hb4) ⟨ha1.1,by omega⟩ ⟨hb1'.1,by omega⟩ hu hU
 refine skp_ ?_
 refine hK4 _ ?_
 refine rg_ [3,4,5,14,16,17,18,20] ?_
 refine rg_ [4,5,14,16,17,18,20] ?_
 refine rs_ [4,5,14,16,17,18,20] ?_
 refine sg_ ?_
 refine ck_ (k:=?_)
 refine (c22 T k K (prtN (T.get K).1 a' (T.get K).1.uid) _ _ (by first | exact atApp hk | exact atApp (atApp hk) | exact atApp (atApp (atApp hk))) hT ⟨(get_ok hT K).1,(get_ok hT K).2.1,(get_ok hT K).2.2.1,(get_ok hT K).2.2.2⟩).mono ?_;rintro _ H2 _ ⟨rfl,hH2,rfl⟩
 have h2k:H2[k]? = some (tabBlk (putT T K (prtN (T.get K).1 a' (T.get K).1.uid)).2):=by rw [←hH2];exact List.getElem?_set_self (by simp;omega)
 have h2t:H2[H.length]? = some (tabBlk T):=by rw [←hH2];exact set_at _ (by omega) _ _ (by simp)
 have h2a:H2[H.length+1]? = some (.cells (ndC (T.get K).1)):=by rw [←hH2];exact set_at _ (by omega) _ _ (by simp)
 have h2b:H2[H.length+2]? = some (.cells (ndC (modeN (T.get K).1 a'))):=by rw [←hH2];exact set_at _ (by omega) _ _ (by simp)
 have h2l:H2.length=H.length+3:=by rw [←hH2];simp
 have sx:=And.intro h2a (And.intro h2b sx)
 refine re_ ?_
 refine rg_ [5,14,16,17,18,20] ?_
 refine rg_ [14,16,17,18,20] ?_
 refine rs_ [14,16,17,18,20] ?_
 refine sg_ ?_
 refine ck_ (k:=?_)
 refine (c22 _ k K (prtN (T.get K).1 b' u) _ _ (by rw [List.getElem?_set_ne (by omega)];first | exact h2k | (rw [List.getElem?_set_ne (by omega)];exact h2k)) hG1.1 ⟨(get_ok hT K).1,(get_ok hT K).2.1,(get_ok hT K).2.2.1,(get_ok hT K).2.2.2⟩).mono ?_;rintro _ H3 _ ⟨rfl,hH3,rfl⟩
 rw [hU] at hH3
 have h3k:H3[k]? = some (tabBlk U):=by rw [←hH3];exact List.getElem?_set_self (by simp;omega)
 have h3t:H3[H.length]? = some (tabBlk T):=by rw [←hH3];exact set_at _ (by omega) _ _ (by simp [List.getElem?_set,h2t];try omega)
 have h3a:H3[H.length+1]? = some (.cells (ndC (T.get K).1)):=by rw [←hH3];exact set_at _ (by omega) _ _ (by simp [List.getElem?_set,h2a];try omega)
 have h3b:H3[H.length+2]? = some (.cells (ndC (prtN (T.get K).1 b' u))):=by rw [←hH3];exact set_at _ (by omega) _ _ (List.getElem?_set_self (by omega))
 have h3l:H3.length=H.length+3:=by rw [←hH3];simp [h2l]
 have h3ag:=fun g:List Blk=>atApp (g:=g) h3a
 have h3bg:=fun g:List Blk=>atApp (g:=g) h3b
 have sx:=And.intro h3a (And.intro h3b (And.intro h3ag (And.intro h3bg sx)))
 refine re_ ?_
 refine rs_ [14,16,18,20,21] ?_
 refine sg_ ?_
 refine cl_ (hc:=c14 T U _ _ _ _ h3t h3k hT hUg.1) (k:=?_)
 refine sre_ ?_
 refine sk_ fun K5 hK5=>?_
 refine rs_ [14,16,21,82] ?_
 refine sg_ ?_
 refine cl_ (hc:=c23 (T.get K).1 (prtN (T.get K).1 b' u) _ _ (get_ok hT K) ⟨(get_ok hT K).1,(get_ok hT K).2.1,(get_ok hT K).2.2.1,(get_ok hT K).2.2.2⟩) (k:=?_)
 refine re_ ?_
 refine cy_ (fun hb5=>?_) (fun hb5=>?_)
 ·
  refine rg_ [12] ?_
  refine ret_ ?_
  refine gq_ (h1:=h) Tryz.results5 ?_ (hh:=(⟨_,by rw [hh0];exact (List.nil_append _).symm⟩))
  exact rk_ (by rw [p1 hb5];rfl)
 refine skp_ ?_
 refine hK5 _ ?_
 refine rs_ [14,16,21,22] ?_
 refine sg_ ?_
 refine cl_ (hc:=c11 U k _ _ (atApp h3k) hUg.1) (k:=?_)
 refine sre_ ?_
 refine rs_ [14,16,21,22,23,24] ?_
 refine sg_ ?_
 refine ck_ (k:=?_)
 refine erx_ (ys:=[.ptr (H3.length+1) 0,.agg (ndC newN)]) (by simp only [List.map_cons,List.map_nil,AV.er,AV.erL]<;>rfl) ((c24 U _ newN _ _ (by simp) hUg.1 newN_ok).mono ?_);rintro _ H4 _ ⟨rfl,hH4,rfl⟩
 have h4u:H4[H3.length+1]? = some (tabBlk (addT U newN).2):=by rw [←hH4];exact List.getElem?_set_self (by simp)
 have h4k:H4[k]? = some (tabBlk U):=by rw [←hH4];exact set_at _ (by omega) _ _ (atApp h3k)
 have h4c:H4[H3.length]? = some (.cells (chC (chOf T U))):=by rw [←hH4];exact set_at _ (by omega) _ _ (by simp;rfl)
 have h4cg:=fun g:List Blk=>atApp (g:=g) h4c
 have sx:=And.intro h4c (And.intro h4cg sx)
 refine sre_ ?_
 refine rs_ [16,21,23,24,25] ?_
 refine sg_ ?_
 refine cl_ (hc:=c14 (addT U newN).2 U _ _ _ _ h4u h4k (addT_ok hUg.1 newN_ok) hUg.1) (k:=?_)
 refine sre_ ?_
 refine rg_ [12] ?_
 refine ret_ ?_
 refine gq_ (h1:=h) Tryz.results5 ?_ (hh:=(⟨_,by rw [hh0];exact (List.nil_append _).symm⟩))
 exact rk_ (by rw [p2 hb5];by_cases hz:(addT U newN).1.2=0<;>first | (rw [p3 hz];simp) | simp [hz])
end Go.Proofs.YtjmlgeckgieaaaaGreat
