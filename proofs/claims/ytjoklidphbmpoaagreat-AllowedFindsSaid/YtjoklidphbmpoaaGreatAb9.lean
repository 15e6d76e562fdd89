import Derived.Test.YtjoklidphbmpoaaGreatAb8
/-
  THE FRAMEWORK, 9: the words by which a walk goes on; what of the kit's 'simp' set serves it.
-/
namespace Go.Ab
set_option linter.unusedVariables false
set_option linter.unusedSimpArgs false
open Go.RowKit

theorem cst_bool (b : Bool) : cst (.bool b) = .bool b := rfl
theorem cst_int (k : IntKind) (n : Int) : cst (.int k n) = .int k n := rfl
theorem cst_str (a : ByteArray) : cst (.string a) = .str a.data.toList := rfl
theorem cst_slice : cst (.slice none 0 0) = .slice [] .full := rfl
theorem cst_ptr : cst (.pointer none) = .raw (.pointer none) := rfl
theorem cst_map : cst (.map none) = .raw (.map none) := rfl
theorem cst_nilFunc : cst .nilFunc = .raw .nilFunc := rfl
theorem cst_nilIface : cst .nilIface = .raw .nilIface := rfl
theorem fget_nil (t : Nat) : fget [] t = .undef := rfl
theorem fget_cons (k : Nat) (v : AV) (r : FL) (t : Nat) : fget ((k, v) :: r) t = if k = t then v else fget r t := rfl
theorem ev_tmp (fr : Nat → AV) (t : Tmp) : ev fr (.tmp t) = fr t := rfl
theorem ev_const (fr : Nat → AV) (v : Value) : ev fr (.const v) = cst v := rfl
theorem ev_glob (fr : Nat → AV) (g : Nat) : ev fr (.global g) = .glob g 0 := rfl
theorem ev_func (fr : Nat → AV) (f : FuncId) : ev fr (.func f) = .fn (.func f) [] [] := rfl
theorem thenQ_n (next : AS → Prop) (Q : Exit → AS → Prop) (S : AS) : thenQ next Q .normal S = next S := rfl
theorem thenQ_r (next : AS → Prop) (Q : Exit → AS → Prop) (S : AS) : thenQ next Q .ret S = Q .ret S := rfl
theorem thenQ_e (next : AS → Prop) (Q : Exit → AS → Prop) (S : AS) (i : Nat) : thenQ next Q (.exit i) S = Q (.exit i) S := rfl
theorem inBlockQ_n (id : Nat) (Q : Exit → AS → Prop) (S : AS) : inBlockQ id Q .normal S = Q .normal S := rfl
theorem inBlockQ_r (id : Nat) (Q : Exit → AS → Prop) (S : AS) : inBlockQ id Q .ret S = Q .ret S := rfl
theorem inBlockQ_e (id i : Nat) (Q : Exit → AS → Prop) (S : AS) : inBlockQ id Q (.exit i) S = if i = id then Q .normal S else Q (.exit i) S := rfl
theorem fkeep_nil (fr : Nat → AV) : fkeep [] fr = [] := rfl
theorem fkeep_cons (t : Tmp) (V : List Tmp) (fr : Nat → AV) : fkeep (t :: V) fr = (t, fr t) :: fkeep V fr := rfl
theorem fget_same (t : Nat) (v : AV) (r : FL) : fget ((t, v) :: r) t = v := by simp [fget]
theorem fput_some (fl : FL) (t : Tmp) (x : AV) : fput fl (some t) x = (t, x) :: fl := rfl
theorem fput_none (fl : FL) (x : AV) : fput fl none x = fl := rfl
theorem apick_bool (b p q : Bool) : apick b (.bool p) (.bool q) = .bool (bif b then p else q) := rfl
theorem apick_true (x y : AV) : apick true x y = x := by cases x <;> cases y <;> rfl
theorem apick_false (x y : AV) : apick false x y = y := by cases x <;> cases y <;> rfl

section ops
variable (P : Program) (fr : Nat → AV) (h : List Blk) (d : Option Tmp) (ty : TypeId) (pos : String) (af : Array Edge) (g : Option (Nat × Bool))
theorem sP_move (x : Operand) : astepP P fr ⟨d, .move x, ty, pos, af, g⟩ = some (ev fr x) := rfl
theorem sP_assign (x : Operand) : astepP P fr ⟨d, .assign x, ty, pos, af, g⟩ = some (ev fr x) := rfl
def pickOf (c x y : AV) : Option AV := match c with
  | .bool t => some (apick t x y)
  | _ => none
theorem pickOf_bool (t : Bool) (x y : AV) : pickOf (.bool t) x y = some (apick t x y) := rfl
theorem sP_pick (c a b : Operand) : astepP P fr ⟨d, .pick c a b, ty, pos, af, g⟩ = pickOf (ev fr c) (ev fr a) (ev fr b) := rfl
theorem sP_nil (x : Operand) : astepP P fr ⟨d, .nilCheck x, ty, pos, af, g⟩ = anil (ev fr x) := rfl
def fieldAddrOf (o : Option Nat) (x : AV) : Option AV := match o with
  | some o => match x with
    | .ptr k off => some (.ptr k (off + o))
    | .eptr c off => some (.eptr c (off + o))
    | .glob g off => some (.glob g (off + o))
    | _ => none
  | none => none
theorem fieldAddrOf_ptr (o k off : Nat) : fieldAddrOf (some o) (.ptr k off) = some (.ptr k (off + o)) := rfl
theorem fieldAddrOf_glob (o g off : Nat) : fieldAddrOf (some o) (.glob g off) = some (.glob g (off + o)) := rfl
theorem fieldAddrOf_eptr (o off : Nat) (c : List AV) : fieldAddrOf (some o) (.eptr c off) = some (.eptr c (off + o)) := rfl
theorem sP_fieldAddr (s : TypeId) (x : Operand) (f : Nat) : astepP P fr ⟨d, .fieldAddr s x f, ty, pos, af, g⟩ = fieldAddrOf (fldOff P s f) (ev fr x) := rfl
def fieldOf (o : Option (Nat × TK)) (x : AV) : Option AV := match o with
  | some (o, k) => match x with
    | .agg cs => getCells cs o k
    | _ => none
  | none => none
theorem fieldOf_agg (o : Nat) (k : TK) (cs : List AV) : fieldOf (some (o, k)) (.agg cs) = getCells cs o k := rfl
theorem sP_field (s : TypeId) (x : Operand) (f : Nat) : astepP P fr ⟨d, .field s x f, ty, pos, af, g⟩ = fieldOf (fldTK P s f) (ev fr x) := rfl
theorem sP_indexAddr (t : TypeId) (x i : Operand) : astepP P fr ⟨d, .indexAddr t x i, ty, pos, af, g⟩ = aindexAddr P t (ev fr x) (ev fr i) := rfl
theorem sP_index (t : TypeId) (x i : Operand) : astepP P fr ⟨d, .index t x i, ty, pos, af, g⟩ = aindex P t (ev fr x) (ev fr i) := rfl
theorem sP_slice (t : TypeId) (x : Operand) (lo hi mx : Option Operand) : astepP P fr ⟨d, .slice t x lo hi mx, ty, pos, af, g⟩ = aslice P t (ev fr x) (lo.map (ev fr)) (hi.map (ev fr)) (mx.map (ev fr)) := rfl
theorem sP_binOp (op : BinOp) (t t' : TypeId) (x y : Operand) : astepP P fr ⟨d, .binOp op t x y t', ty, pos, af, g⟩ = abinOpT P op t (isC x || isC y) (ev fr x) (ev fr y) := rfl
theorem sP_unOp (op : UnOp) (t : TypeId) (x : Operand) : astepP P fr ⟨d, .unOp op t x, ty, pos, af, g⟩ = aunOp op (ev fr x) := rfl
theorem sP_convert (s t : TypeId) (x : Operand) : astepP P fr ⟨d, .convert s t x, ty, pos, af, g⟩ = aconvert P s t (ev fr x) := rfl
theorem sP_makeInterface (t : TypeId) (x : Operand) : astepP P fr ⟨d, .makeInterface t x, ty, pos, af, g⟩ = if P.concrete t then some (.iface t (ev fr x)) else none := rfl
theorem sP_makeFunc (f : Fn) (a b : Array Operand) : astepP P fr ⟨d, .makeFunc f a b, ty, pos, af, g⟩ = some (.fn f (a.toList.map (ev fr)) (b.toList.map (ev fr))) := rfl
def extractOf (x : AV) (i : Nat) : Option AV := match x with
  | .tup vs => vs[i]?
  | _ => none
theorem extractOf_tup (vs : List AV) (i : Nat) : extractOf (.tup vs) i = vs[i]? := rfl
theorem sP_extract (x : Operand) (i : Nat) : astepP P fr ⟨d, .extract x i, ty, pos, af, g⟩ = extractOf (ev fr x) i := rfl
theorem sP_build (t : TypeId) (ps : Array (Nat × Operand)) : astepP P fr ⟨d, .build t ps, ty, pos, af, g⟩ = abuild P t (ps.toList.map fun p => (p.1, ev fr p.2)) := rfl
theorem sP_buildSlice (t : TypeId) (n : Nat) (ps : Array (Nat × Operand)) : astepP P fr ⟨d, .buildSlice t n ps, ty, pos, af, g⟩ = abuildSlice P t n (ps.toList.map fun p => (p.1, ev fr p.2)) := rfl
theorem sP_len (x : Operand) (t : TypeId) : astepP P fr ⟨d, .call { callee := .builtin .len, args := #[x], argTypes := #[t] }, ty, pos, af, g⟩ = alen P t (ev fr x) := rfl
theorem sP_min (x : Array Operand) (t : Array TypeId) : astepP P fr ⟨d, .call { callee := .builtin .min, args := x, argTypes := t }, ty, pos, af, g⟩ = aminmax true (x.toList.map (ev fr)) := rfl
theorem sP_max (x : Array Operand) (t : Array TypeId) : astepP P fr ⟨d, .call { callee := .builtin .max, args := x, argTypes := t }, ty, pos, af, g⟩ = aminmax false (x.toList.map (ev fr)) := rfl
def withH (o : Option AV) (h : List Blk) : Option (AV × List Blk) := match o with
  | some x => some (x, h)
  | none => none
theorem withH_some (x : AV) (h : List Blk) : withH (some x) h = some (x, h) := rfl
def withU (o : Option (List Blk)) : Option (AV × List Blk) := match o with
  | some h => some (.undef, h)
  | none => none
theorem withU_some (h : List Blk) : withU (some h) = some (.undef, h) := rfl
def allocOf (o : Option AV) (h : List Blk) : Option (AV × List Blk) := match o with
  | some z => some (.ptr h.length 0, h ++ [.cells z.cells])
  | none => none
theorem allocOf_some (z : AV) (h : List Blk) : allocOf (some z) h = some (.ptr h.length 0, h ++ [.cells z.cells]) := rfl
theorem sH_load (t : TypeId) (x : Operand) : astepH P fr h ⟨d, .load t x, ty, pos, af, g⟩ = withH (aload P t h (ev fr x)) h := rfl
theorem sH_store (t : TypeId) (x v : Operand) : astepH P fr h ⟨d, .store t x v, ty, pos, af, g⟩ = withU (astore P t h (ev fr x) (ev fr v)) := rfl
theorem sH_alloc (t : TypeId) : astepH P fr h ⟨d, .alloc t, ty, pos, af, g⟩ = allocOf (azero P t) h := rfl
theorem sH_box (t : TypeId) (v : Operand) : astepH P fr h ⟨d, .box t v, ty, pos, af, g⟩ = if okCells (ev fr v) then some (.ptr h.length 0, h ++ [.cells (ev fr v).cells]) else none := rfl

def globGet (x : Option (List AV)) (off : Nat) (k : TK) : Option AV := match x with
  | some c => getCells c off k
  | none => none
theorem globGet_some (c : List AV) (off : Nat) (k : TK) : globGet (some c) off k = getCells c off k := rfl
def loadOf (k : Option TK) (h : List Blk) (a : AV) : Option AV := match k with
  | some k => match a with
    | .ptr b off => match h[b]? with
      | some (.cells c) => getCells c off k
      | _ => none
    | .eptr c off => getCells c off k
    | .glob g off => globGet (globOf h g) off k
    | _ => none
  | none => none
def blkGet (x : Option Blk) (off : Nat) (k : TK) : Option AV := match x with
  | some (.cells c) => getCells c off k
  | _ => none
theorem blkGet_cells (c : List AV) (off : Nat) (k : TK) : blkGet (some (.cells c)) off k = getCells c off k := rfl
theorem aload_eq (t : TypeId) (a : AV) : aload P t h a = loadOf (tk P t) h a := rfl
theorem loadOf_ptr (k : TK) (b off : Nat) : loadOf (some k) h (.ptr b off) = blkGet h[b]? off k := by
  unfold loadOf blkGet; rfl
theorem loadOf_glob (k : TK) (g off : Nat) : loadOf (some k) h (.glob g off) = globGet (globOf h g) off k := rfl
theorem loadOf_eptr (k : TK) (c : List AV) (off : Nat) : loadOf (some k) h (.eptr c off) = getCells c off k := rfl
def blkPut (x : Option Blk) (off : Nat) (k : TK) (v : AV) : Option Blk := match x with
  | some (.cells c) => if fits k v = true ∧ off + v.cells.length ≤ c.length then some (.cells (putAt c off v.cells)) else none
  | _ => none
def setOf (h : List Blk) (b : Nat) (x : Option Blk) : Option (List Blk) := match x with
  | some y => some (h.set b y)
  | none => none
theorem setOf_some (b : Nat) (y : Blk) : setOf h b (some y) = some (h.set b y) := rfl
def storeOf (k : Option TK) (h : List Blk) (a v : AV) : Option (List Blk) := match k with
  | some k => match a with
    | .ptr b off => setOf h b (blkPut h[b]? off k v)
    | _ => none
  | none => none
theorem astore_eq (t : TypeId) (a v : AV) : astore P t h a v = storeOf (tk P t) h a v := by
  unfold astore storeOf
  cases tk P t with
  | none => rfl
  | some k =>
    cases a with
    | ptr b off =>
      simp only [setOf, blkPut]
      cases h[b]? with
      | none => rfl
      | some y =>
        cases y with
        | cells c => simp only []; split <;> rfl
        | map _ => rfl
        | gone => rfl
        | glb _ _ _ => rfl
        | siter _ _ => rfl
        | miter _ _ _ _ => rfl
    | _ => rfl
theorem storeOf_ptr (k : TK) (b off : Nat) (v : AV) : storeOf (some k) h (.ptr b off) v = setOf h b (blkPut h[b]? off k v) := rfl
theorem blkPut_cells (c : List AV) (off : Nat) (k : TK) (v : AV) : blkPut (some (.cells c)) off k v = if fits k v = true ∧ off + v.cells.length ≤ c.length then some (.cells (putAt c off v.cells)) else none := rfl
end ops
attribute [push_cast] sP_move sP_assign pickOf_bool sP_pick sP_nil fieldAddrOf_ptr fieldAddrOf_eptr fieldAddrOf_glob sP_fieldAddr fieldOf_agg sP_field sP_indexAddr sP_index sP_slice sP_binOp sP_unOp sP_convert sP_makeInterface sP_makeFunc extractOf_tup sP_extract sP_build sP_buildSlice sP_len sP_min sP_max withH_some withU_some allocOf_some sH_load sH_store sH_alloc sH_box aload_eq astore_eq loadOf_ptr loadOf_glob globGet_some loadOf_eptr blkGet_cells setOf_some storeOf_ptr blkPut_cells

attribute [push_cast] cst_bool cst_int cst_str cst_slice cst_ptr cst_map cst_nilFunc cst_nilIface ev_tmp ev_const ev_glob ev_func fget_nil fget_cons thenQ_n thenQ_r thenQ_e inBlockQ_n inBlockQ_r inBlockQ_e fkeep_nil fkeep_cons fput_some fput_none fits getCells anil apick_bool apick_true apick_false aindexAddr aindex abound aslice abinOp abinOpT aeqOp aeqT aeqP aeqPs isC aunOp aconvert okCells putAt afill abuild abuildSlice alen aminmax
/-- What a guard's operation has left, of its value. -/
theorem gval_some (fr : Nat → AV) (t : Tmp) : gval fr (some t) = match fr t with | .bool b => some (some b) | .tup [] => some none | _ => none := rfl
theorem gval_none (fr : Nat → AV) : gval fr none = some none := rfl
theorem gv_cond (g c : Bool) : (match (bif g then AV.bool c else .tup []) with | .bool b => some (some b) | .tup [] => some none | _ => none) = some (bif g then some c else none) := by cases g <;> rfl
theorem want_t (b : Bool) : (some b == some true) = b := by cases b <;> rfl
theorem want_f (b : Bool) : (some b == some false) = !b := by cases b <;> rfl
theorem want_ct (g b : Bool) : ((bif g then some b else none) == some true) = (g && b) := by cases g <;> cases b <;> rfl
theorem want_cf (g b : Bool) : ((bif g then some b else none) == some false) = (g && !b) := by cases g <;> cases b <;> rfl
def gv : AV → Option (Option Bool)
  | .bool b => some (some b)
  | .tup [] => some none
  | _ => none
theorem gv_bool (b : Bool) : gv (.bool b) = some (some b) := rfl
theorem gv_skip : gv (.tup []) = some none := rfl
theorem gv_cnd (g c : Bool) : gv (bif g then AV.bool c else .tup []) = some (bif g then some c else none) := by cases g <;> rfl
theorem gval_gv (fr : Nat → AV) (t : Tmp) : gval fr (some t) = gv (fr t) := by
  unfold gval gv
  split <;> split <;> simp_all
def wantOf (x : Option (Option Bool)) (want : Bool) : Option Bool := x.map fun b => b == some want
theorem wantOf_t (b : Bool) : wantOf (some (some b)) true = some b := by cases b <;> rfl
theorem wantOf_f (b : Bool) : wantOf (some (some b)) false = some (!b) := by cases b <;> rfl
theorem wantOf_n (w : Bool) : wantOf (some none) w = some false := by cases w <;> rfl
theorem wantOf_ct (g b : Bool) : wantOf (some (bif g then some b else none)) true = some (g && b) := by cases g <;> cases b <;> rfl
theorem wantOf_cf (g b : Bool) : wantOf (some (bif g then some b else none)) false = some (g && !b) := by cases g <;> cases b <;> rfl
theorem dwant_none {gd : Nat → Option Tmp} {fr : Nat → AV} {o : Oper} (h : o.guard = none) : dwant gd fr o = some true := by unfold dwant; rw [h]
theorem dwant_some {gd : Nat → Option Tmp} {fr : Nat → AV} {o : Oper} {j : Nat} {want : Bool} (h : o.guard = some (j, want)) : dwant gd fr o = (gval fr (gd j)).map fun b => b == some want := by unfold dwant; rw [h]
theorem pick_or (b q : Bool) (z : AV) : apick b (.bool true) (bif !b then .bool q else z) = .bool (b || q) := by cases b <;> cases z <;> rfl
theorem pick_and (b q : Bool) (z : AV) : apick b (bif b then .bool q else z) (.bool false) = .bool (b && q) := by cases b <;> cases z <;> rfl

attribute [push_cast] gv_bool gv_skip gv_cnd wantOf_t wantOf_f wantOf_n wantOf_ct wantOf_cf pick_or pick_and
attribute [push_cast] IntWalk.i64_in IntWalk.u8_in IntWalk.i32_in IntWalk.u32_in IntWalk.u64_in
theorem cells_agg (cs : List AV) : (AV.agg cs).cells = cs := rfl
theorem cells_int (k : IntKind) (n : Int) : (AV.int k n).cells = [.int k n] := rfl
theorem cells_bool (b : Bool) : (AV.bool b).cells = [.bool b] := rfl
theorem cells_str (l : List UInt8) : (AV.str l).cells = [.str l] := rfl
theorem cells_raw (v : Value) : (AV.raw v).cells = [.raw v] := rfl
theorem cells_bsl (k o s : Nat) (g : Bool) (l c : Nat) : (AV.bsl k o s g l c).cells = [.bsl k o s g l c] := rfl
theorem cells_glob (k o : Nat) : (AV.glob k o).cells = [.glob k o] := rfl
theorem cells_ptr (k o : Nat) : (AV.ptr k o).cells = [.ptr k o] := rfl
theorem cells_eptr (l : List AV) (o : Nat) : (AV.eptr l o).cells = [.eptr l o] := rfl
theorem cells_slice (l : List AV) (c : Cap) : (AV.slice l c).cells = [.slice l c] := rfl
theorem cells_fn (f : Fn) (l c : List AV) : (AV.fn f l c).cells = [.fn f l c] := rfl
theorem cells_iface (t : TypeId) (x : AV) : (AV.iface t x).cells = [.iface t x] := rfl
theorem cells_map (k : Nat) : (AV.map k).cells = [.map k] := rfl
attribute [push_cast] cells_agg cells_int cells_bool cells_str cells_raw cells_ptr cells_bsl cells_glob cells_eptr cells_slice cells_fn cells_iface cells_map Int.toNat_natCast
theorem getD_str {l : List (List UInt8)} {i : Nat} {d : AV} (h : i < l.length) : (l.map AV.str).getD i d = .str (l.getD i []) := by
  simp [List.getD_eq_getElem?_getD, h]
theorem allSz_str (l : List (List UInt8)) : allSz (l.map AV.str) 1 ↔ True := iff_true_intro (allSz_map _ _ _ fun _ => rfl)
theorem allSz_nil' (sz : Nat) : allSz [] sz ↔ True := iff_true_intro (allSz_nil sz)
theorem toNat_lit (n : Nat) : Int.toNat (OfNat.ofNat (n + 2)) = n + 2 := rfl
attribute [push_cast] getD_str List.length_map allSz_str allSz_nil' toNat_lit Int.toNat_one Int.toNat_zero Option.isSome_some Option.isSome_none
attribute [push_cast] Option.map_some Option.map_none List.map_cons List.map_nil List.length_cons List.length_nil List.getElem?_cons_zero List.getElem?_cons_succ List.set_cons_zero List.set_cons_succ List.drop_zero List.drop_succ_cons List.take_zero List.take_succ_cons
attribute [push_cast] List.all_cons List.all_nil

attribute [push_cast] List.nil_append List.append_nil List.cons_append

section
variable {P : Program} {S : AS} {Q : Exit → AS → Prop}

/-- An operation behind a guard that is not known. -/
theorem dawp_g {q : RQ} {gd : Nat → Option Tmp} {n : Nat} {fl : FL} {h : List Blk} {live : List Nat} {F : FT} {o : Oper} {os : List Oper} {x : AV} {g : Bool} {j : Nat} {want : Bool} {t tg : Tmp} (ho : o.guard = some (j, want)) (hgd : gd j = some tg) (hw : wantOf (gv (fget fl tg)) want = some g)
    (hx : g = true → astepP P (fget fl) o = some x) (hd : o.dst = some t) (hn : decide (t < n) = true) (k : dawp P q gd n os (fget ((t, bif g then x else .tup []) :: fl)) h live F) : dawp P q gd n (o :: os) (fget fl) h live F := by
  rw [← gval_gv, ← hgd] at hw
  unfold wantOf at hw
  rw [← dwant_some ho] at hw
  cases g with
  | true => exact dawp_p hw (hx rfl) hd hn k
  | false => exact dawp_skip hw hd hn k

theorem dawp_gh {q : RQ} {gd : Nat → Option Tmp} {n : Nat} {fl : FL} {h : List Blk} {live : List Nat} {F : FT} {o : Oper} {os : List Oper} {x : AV} {g : Bool} {j : Nat} {want : Bool} {t tg : Tmp} (ho : o.guard = some (j, want)) (hgd : gd j = some tg) (hw : wantOf (gv (fget fl tg)) want = some g)
    (hx : g = true → astepH P (fget fl) h o = some (x, h)) (hd : o.dst = some t) (hn : decide (t < n) = true) (k : dawp P q gd n os (fget ((t, bif g then x else .tup []) :: fl)) h live F) (hq : (fload q o || gst q o || scall q o) = false := by rfl) : dawp P q gd n (o :: os) (fget fl) h live F := by
  rw [← gval_gv, ← hgd] at hw
  unfold wantOf at hw
  rw [← dwant_some ho] at hw
  cases g with
  | true => exact dawp_h hw (hx rfl) hd hn k hq
  | false => exact dawp_skip hw hd hn k

theorem AOp.callx {fr : Nat → AV} {h : List Blk} {live : List Nat} {o : Oper} {K : KT} (fo : Operand) (args : Array Operand) (ts : Array TypeId) (ho : o.op = .call { callee := .value fo, args := args, argTypes := ts })
    {f : FuncId} {first cap xs : List AV} (hf : ev fr fo = .fn (.func f) first cap) (hx : first ++ args.toList.map (ev fr) ++ cap = xs) (hc : ACalls P f xs h live K) : AOp P fr h live o K := by
  subst hx; exact AOp.call fo args ts ho hf hc

theorem awp_seq_k {x y : Code} (h : ∀ K : AS → Prop, (∀ S, AwpC P y Q S → K S) → AwpC P x (thenQ K Q) S) : AwpC P (.seq x y) Q S := awp_seq (h _ fun _ h => h)

/-- What comes behind is proved once, for every state that the first part may leave. -/
theorem awp_seq_m {x y : Code} {X : Type} (I : X → AS) (h1 : AwpC P x (thenQ (fun S' => ∃ a, Trunc S' (I a) ∧ (I a).h.length = S.h.length) Q) S) (h2 : ∀ a, AwpC P y Q (I a)) : AwpC P (.seq x y) Q S := by
  refine awp_seq ?_
  intro w G a hs
  refine wp_mono (h1 w G a hs) fun e a' w' q => ?_
  obtain ⟨G', S', q, hs', hev⟩ := q
  cases e with
  | normal =>
    obtain ⟨b, ht, hl⟩ := q
    obtain ⟨k1, k2⟩ := hs'.trunc ht hev (by rw [hl, hs.heap.len]; exact Nat.le_refl _)
    exact ⟨_, I b, h2 b, k1, k2⟩
  | _ => exact ⟨G', S', q, hs', hev⟩

theorem fin_pure {fn : Func} {h : List Blk} {K : KT} {xs : List AV} {x : AV} {live : List Nat} (hres : aresults P S fn.results.toList = some xs) (hx : (atuple xs).er = x) (hcl : x.cl h.length) (hh : ∃ junk, S.h = h ++ junk) (hH : HCl h)
    (hl : ∀ u ∈ live, u ∈ S.live) (hK : K x h live) : fin P fn h K .ret S := ⟨xs, x, h, live, hres, .inr (.inl hx.symm), hcl, hh.elim fun j e => ⟨h, j, e, BW.refl _⟩, hH, Nat.le_refl _, hl, hK⟩

end
end Go.Ab
