import Derived.Test.YtjoklidphbmpoaaGreatAb3
import Derived.WalkKit
import Derived.Deep.MidRow
import Derived.Laws.Runes
/-
  THE FRAMEWORK, 4: operations that neither read nor turn a block.
-/
namespace Go.Ab
set_option linter.unusedVariables false
set_option linter.unusedSimpArgs false
open Go.RowKit

inductive TK where
  | one
  | agg (n : Nat)
  deriving DecidableEq

def tk (P : Program) (t : TypeId) : Option TK :=
  match P.underlying t with
  | some d => match P.info? t with
    | some i => if d.isRow then some (.agg i.size) else if i.size = 1 then some .one else none
    | none => none
  | none => none

def getCells (c : List AV) (off : Nat) : TK → Option AV
  | .one => c[off]?
  | .agg n => if off + n ≤ c.length then some (.agg ((c.drop off).take n)) else none

def fldOff (P : Program) (s : TypeId) (i : Nat) : Option Nat :=
  match P.underlying s with
  | some (.struct fs) => match fs[i]? with
    | some f => match P.info? f.type with
      | some j => if j.size = 0 then none else some f.offset
      | none => none
    | none => none
  | _ => none

def fldTK (P : Program) (s : TypeId) (i : Nat) : Option (Nat × TK) :=
  match P.underlying s with
  | some (.struct fs) => match fs[i]? with
    | some f => match tk P f.type with
      | some k => some (f.offset, k)
      | none => none
    | none => none
  | _ => none

/-- A slice type: its elements' cells. -/
def sliceSz (P : Program) (t : TypeId) : Option Nat :=
  match P.underlying t with
  | some (.slice e) => match P.info? e with
    | some j => some j.size
    | none => none
  | _ => none

/-- An array type: its length, its elements' cells. -/
def arrSz (P : Program) (t : TypeId) : Option (Nat × Nat) :=
  match P.underlying t with
  | some (.array len e) => match P.info? e with
    | some j => some (len, j.size)
    | none => none
  | _ => none

def arrTK (P : Program) (t : TypeId) : Option TK :=
  match P.underlying t with
  | some (.array _ e) => tk P e
  | _ => none

def isStrT (P : Program) (t : TypeId) : Bool :=
  match P.underlying t with
  | some .string => true
  | _ => false

/-- An integer type's kind. -/
def intT (P : Program) (t : TypeId) : Option IntKind :=
  match P.underlying t with
  | some (.int k) => some k
  | _ => none

def known (P : Program) (t : TypeId) : Bool := (P.underlying t).isSome

theorem sliceSz_sound {P : Program} {t : TypeId} {n : Nat} (h : sliceSz P t = some n) : ∃ e j, P.underlying t = some (.slice e) ∧ P.info? e = some j ∧ j.size = n := by
  unfold sliceSz at h
  split at h
  · rename_i e he
    split at h
    · rename_i j hj; cases h; exact ⟨e, j, he, hj, rfl⟩
    · simp at h
  · simp at h

theorem arrSz_sound {P : Program} {t : TypeId} {n m : Nat} (h : arrSz P t = some (n, m)) : ∃ e j, P.underlying t = some (.array n e) ∧ P.info? e = some j ∧ j.size = m := by
  unfold arrSz at h
  split at h
  · rename_i len e he
    split at h
    · rename_i j hj; cases h; exact ⟨e, j, he, hj, rfl⟩
    · simp at h
  · simp at h

theorem isStrT_sound {P : Program} {t : TypeId} (h : isStrT P t = true) : P.underlying t = some .string := by
  unfold isStrT at h
  split at h
  · assumption
  · simp at h

theorem intT_sound {P : Program} {t : TypeId} {k : IntKind} (h : intT P t = some k) : P.underlying t = some (.int k) := by
  unfold intT at h
  split at h
  · cases h; assumption
  · simp at h

def anil : AV → Option AV
  | .ptr k o => some (.ptr k o)
  | .eptr c o => some (.eptr c o)
  | .glob g o => some (.glob g o)
  | .fn (.func f) a b => some (.fn (.func f) a b)
  | _ => none

def apick (b : Bool) (x y : AV) : AV :=
  match x, y with
  | .bool p, .bool q => .bool (bif b then p else q)
  | x, y => bif b then x else y

def aindexAddr (P : Program) (t : TypeId) (x i : AV) : Option AV :=
  match i with
  | .int _ n => match x with
    | .slice l _ => match sliceSz P t with
      | some sz => if 0 ≤ n ∧ n < l.length ∧ (l.getD n.toNat .undef).cells.length = sz then some (.eptr (l.getD n.toNat .undef).cells 0) else none
      | none => none
    | .ptr k off => match arrSz P t with
      | some (len, sz) => if 0 ≤ n ∧ n < len then some (.ptr k (off + n.toNat * sz)) else none
      | none => none
    | .bsl k off sz ag len cap => match sliceSz P t with
      | some s => if s = sz ∧ 0 ≤ n ∧ n < len then some (.ptr k (off + n.toNat * s)) else none
      | none => none
    | .glob k off => match arrSz P t with
      | some (len, sz) => if 0 ≤ n ∧ n < len then some (.glob k (off + n.toNat * sz)) else none
      | none => none
    | _ => none
  | _ => none

def aindex (P : Program) (t : TypeId) (x i : AV) : Option AV :=
  match i with
  | .int _ n => match x with
    | .str l => if isStrT P t then (if 0 ≤ n ∧ n < l.length then some (.int .u8 (l.getD n.toNat 0).toNat) else none) else none
    | .agg cs => match arrSz P t, arrTK P t with
      | some (len, sz), some k => if 0 ≤ n ∧ n < len then getCells cs (n.toNat * sz) k else none
      | _, _ => none
    | _ => none
  | _ => none

/-- A bound of a slice expression: absent, or a number. -/
def abound (d : Int) : Option AV → Option Int
  | none => some d
  | some (.int _ n) => some n
  | some _ => none

def capOf (c : Cap) (lo hi mx : Bool) : Cap :=
  match c with
  | .none => .none
  | .full => if hi then .none else .full
  | .own t => if lo || hi || mx then .none else .own t

/-- All elements are of so many cells. -/
def allSz (l : List AV) (sz : Nat) : Prop := ∀ i, i < l.length → (l.getD i .undef).cells.length = sz
instance (l : List AV) (sz : Nat) : Decidable (allSz l sz) := inferInstanceAs (Decidable (∀ i, i < l.length → (l.getD i .undef).cells.length = sz))
theorem allSz_nil (sz : Nat) : allSz [] sz := fun i hi => by simp at hi
theorem allSz_map {α : Type} (f : α → AV) (l : List α) (sz : Nat) (h : ∀ x, (f x).cells.length = sz) : allSz (l.map f) sz := fun i hi => by
  have hi' : i < l.length := by simpa using hi
  simp [List.getD_eq_getElem?_getD, hi', h]

def aslice (P : Program) (t : TypeId) (x : AV) (lo hi mx : Option AV) : Option AV :=
  match x with
  | .str l => match isStrT P t, mx with
    | true, none => match abound 0 lo, abound l.length hi with
      | some a, some b => if 0 ≤ a ∧ a ≤ b ∧ b ≤ l.length then some (.str ((l.drop a.toNat).take (b.toNat - a.toNat))) else none
      | _, _ => none
    | _, _ => none
  | .slice l c => match sliceSz P t with
    | some sz => match mx with
      | none => match abound 0 lo, abound l.length hi with
        | some a, some b => if 0 ≤ a ∧ a ≤ b ∧ b ≤ l.length ∧ allSz l sz then some (.slice ((l.drop a.toNat).take (b.toNat - a.toNat)) (capOf c lo.isSome hi.isSome false)) else none
        | _, _ => none
      | some (.int _ m) => match abound 0 lo, abound l.length hi with
        | some a, some b => if 0 ≤ a ∧ a ≤ b ∧ b = m ∧ b ≤ l.length ∧ hi.isSome = true ∧ allSz l sz then some (.slice ((l.drop a.toNat).take (b.toNat - a.toNat)) .full) else none
        | _, _ => none
      | some _ => none
    | none => none
  | _ => none

def abinOp (op : BinOp) (x y : AV) : Option AV :=
  match x, y with
  | .int k a, .int k' b =>
    match op with
    | .shl => if 0 ≤ b then some (.int k (k.wrap (a * 2 ^ (min b.toNat k.bits)))) else none
    | .shr => if 0 ≤ b then some (.int k (a.fdiv (2 ^ (min b.toNat k.bits)))) else none
    | _ => if k = k' then
      match op with
      | .add => some (.int k (k.wrap (a + b)))
      | .sub => some (.int k (k.wrap (a - b)))
      | .mul => some (.int k (k.wrap (a * b)))
      | .quo => if b = 0 then none else some (.int k (k.wrap (a.tdiv b)))
      | .rem => if b = 0 then none else some (.int k (a.tmod b))
      | .and => some (.int k (bits .and k a b))
      | .or => some (.int k (bits .or k a b))
      | .xor => some (.int k (bits .xor k a b))
      | .andNot => some (.int k (bits .andNot k a b))
      | .eql => some (.bool (decide (a = b)))
      | .neq => some (.bool (!decide (a = b)))
      | .lss => some (.bool (decide (a < b)))
      | .leq => some (.bool (decide (a ≤ b)))
      | .gtr => some (.bool (decide (b < a)))
      | .geq => some (.bool (decide (b ≤ a)))
      | _ => none
      else none
  | .str a, .str b =>
    match op with
    | .add => if a.length + b.length ≤ 9223372036854775807 then some (.str (a ++ b)) else none
    | .eql => some (.bool (decide (a = b)))
    | .neq => some (.bool (!decide (a = b)))
    | .lss => some (.bool (Op.bytesLess a b))
    | .leq => some (.bool (Op.bytesLess a b || decide (a = b)))
    | .gtr => some (.bool (!(Op.bytesLess a b || decide (a = b))))
    | .geq => some (.bool (!Op.bytesLess a b))
    | _ => none
  | _, _ => none

/-! What '==' compares, at a type. -/
mutual
inductive EqP where
  | int | str | bool | ptr | iface | func | map
  | strukt (fs : EqPs)
inductive EqPs where
  | nil
  | cons (off : Nat) (k : TK) (p : EqP) (r : EqPs)
end

def planFs (rec : TypeId → Option EqP) (P : Program) : List Field → Option EqPs
  | [] => some .nil
  | f :: fs => if f.name = "_" then planFs rec P fs else
    match tk P f.type, rec f.type, planFs rec P fs with
    | some k, some p, some r => some (.cons f.offset k p r)
    | _, _, _ => none

def eqPlan (P : Program) : Nat → TypeId → Option EqP
  | 0, _ => none
  | d + 1, t => match P.underlying t with
    | some (.int _) => some .int
    | some .string => some .str
    | some .bool => some .bool
    | some (.pointer _) => some .ptr
    | some (.interface _) => some .iface
    | some (.func _ _ _) => some .func
    | some (.map _ _) => some .map
    | some (.struct fs) => if P.stoodInHeld t then none else (planFs (eqPlan P d) P fs.toList).map .strukt
    | _ => none

def isAddr : AV → Bool
  | .ptr _ _ | .eptr _ _ => true
  | _ => false

mutual
def aeqP : EqP → AV → AV → Option Bool
  | .int, .int k a, .int k' b => if k = k' then some (decide (a = b)) else none
  | .str, .str a, .str b => some (decide (a = b))
  | .bool, .bool a, .bool b => some (a == b)
  | .ptr, .raw (.pointer none), .raw (.pointer none) => some true
  | .ptr, .ptr _ _, .raw (.pointer none) => some false
  | .ptr, .eptr _ _, .raw (.pointer none) => some false
  | .ptr, .raw (.pointer none), .ptr _ _ => some false
  | .ptr, .raw (.pointer none), .eptr _ _ => some false
  | .iface, .iface _ _, .raw .nilIface => some false
  | .iface, .raw .nilIface, .iface _ _ => some false
  | .func, .fn _ _ _, .raw .nilFunc => some false
  | .func, .raw .nilFunc, .fn _ _ _ => some false
  | .func, .raw .nilFunc, .raw .nilFunc => some true
  | .map, .map _, .raw (.map none) => some false
  | .map, .raw (.map none), .raw (.map none) => some true
  | .strukt fs, .agg xs, .agg ys => aeqPs fs xs ys
  | _, _, _ => none
def aeqPs : EqPs → List AV → List AV → Option Bool
  | .nil, _, _ => some true
  | .cons off k p r, xs, ys => match getCells xs off k, getCells ys off k with
    | some a, some b => match aeqP p a b, aeqPs r xs ys with
      | some x, some y => some (x && y)
      | _, _ => none
    | _, _ => none
end

def eqTop (P : Program) (t : TypeId) : Option EqP :=
  match eqPlan P 8 t with
  | some (.strukt fs) => if P.eqGuardType P.depth t then none else some (.strukt fs)
  | r => r

def isC : Operand → Bool
  | .const _ => true
  | _ => false

def aeqT (c : Bool) : EqP → AV → AV → Option Bool
  | .iface, .raw .nilIface, .raw .nilIface => if c then some true else none
  | p, x, y => aeqP p x y

def aeqOp (P : Program) (op : BinOp) (t : TypeId) (c : Bool) (x y : AV) : Option AV :=
  match eqTop P t with
  | some p => match aeqT c p x y with
    | some q => match op with
      | .eql => some (.bool q)
      | .neq => some (.bool (!q))
      | _ => none
    | none => none
  | none => none

def abinOpT (P : Program) (op : BinOp) (t : TypeId) (c : Bool) (x y : AV) : Option AV :=
  match x with
  | .int k a => abinOp op (.int k a) y
  | .str a => abinOp op (.str a) y
  | x => aeqOp P op t c x y

def aunOp (op : UnOp) (x : AV) : Option AV :=
  match op, x with
  | .not, .bool b => some (.bool (!b))
  | .neg, .int k n => some (.int k (k.wrap (0 - n)))
  | .xor, .int k n => some (.int k (bits .xor k (if k.signed then -1 else k.max) n))
  | _, _ => none

/-- A slice type of bytes. -/
def isBytesT (P : Program) (t : TypeId) : Bool := match P.underlying t with
  | some (.slice e) => match P.underlying e with
    | some (.int .u8) => true
    | _ => false
  | _ => false

def abytes : List AV → Option (List UInt8)
  | [] => some []
  | .int .u8 n :: r => match abytes r with
    | some l => some (UInt8.ofNat n.toNat :: l)
    | none => none
  | _ => none

/-- A letter, as a text. -/
def encS (r : Int) : List UInt8 := (Utf8.encode r).data.toList
def aconvert (P : Program) (s d : TypeId) (x : AV) : Option AV :=
  match x with
  | .int _ n => match known P s with
    | true => match intT P d with
      | some k => some (.int k (k.wrap n))
      | none => match isStrT P d with
        | true => some (.str (encS n))
        | false => none
    | false => none
  | .str l => match isStrT P s, isStrT P d with
    | true, true => some (.str l)
    | _, _ => none
  | .slice l _ => match isBytesT P s, isStrT P d with
    | true, true => match abytes l with
      | some bs => some (.str bs)
      | none => none
    | _, _ => none
  | _ => none

def okCells : AV → Bool
  | .undef | .tup _ => false
  | _ => true

def putAt {α : Type} : List α → Nat → List α → List α
  | c, _, [] => c
  | c, off, x :: xs => putAt (c.set off x) (off + 1) xs

def azero (P : Program) (t : TypeId) : Option AV :=
  match P.info? t with
  | some i => match i.zero with
    | some (.agg cs) => if cs.all (·.oneCell') then some (.agg (cs.toList.map cst)) else none
    | some z => if z.oneCell' then some (cst z) else none
    | none => none
  | none => none

def place (P : Program) (t : TypeId) (i : Nat) : Option (Nat × Nat) :=
  match P.underlying t with
  | some (.struct fs) => match fs[i]? with
    | some f => match P.info? f.type with
      | some j => some (f.offset, j.size)
      | none => none
    | none => none
  | some (.array _ e) => match P.info? e with
    | some j => some (i * j.size, j.size)
    | none => none
  | _ => none

def afill (pl : Nat → Option (Nat × Nat)) (c : List AV) : List (Nat × AV) → Option (List AV)
  | [] => some c
  | (i, x) :: r => match pl i with
    | some (off, size) => if okCells x ∧ x.cells.length = size ∧ off + size ≤ c.length then afill pl (putAt c off x.cells) r else none
    | none => none

def structOk (P : Program) (t : TypeId) : Bool :=
  match P.underlying t with
  | some (.struct fs) => fs.all fun f => (P.info? f.type).isSome
  | some (.array _ e) => (P.info? e).isSome
  | _ => false

def abuild (P : Program) (t : TypeId) (parts : List (Nat × AV)) : Option AV :=
  match azero P t with
  | some (.agg zs) => if structOk P t then
      match afill (place P t) zs parts with
      | some c => some (.agg c)
      | none => none
    else none
  | _ => none

/-- A slice type: its elements' cells, if it can be written as a literal. -/
def litSz (P : Program) (t : TypeId) : Option Nat :=
  match P.underlying t with
  | some (.slice e) => match P.info? e, azero P e with
    | some j, some z => if 0 < j.size ∧ z.cells.length = j.size then some j.size else none
    | _, _ => none
  | _ => none

def abuildSlice (P : Program) (t : TypeId) (len : Nat) (parts : List (Nat × AV)) : Option AV :=
  match litSz P t with
  | some sz => if parts.map (·.1) = List.range len ∧ len * sz ≤ 16777216 ∧ (parts.all fun p => okCells p.2 && p.2.cells.length == sz) = true then some (.slice (parts.map (·.2)) .full) else none
  | none => none

def isSliceT (P : Program) (t : TypeId) : Bool := match P.underlying t with
  | some (.slice _) => true
  | _ => false

def alen (P : Program) (t : TypeId) (x : AV) : Option AV :=
  match x with
  | .str l => if isStrT P t then some (.int .i64 l.length) else none
  | .slice l _ => if isSliceT P t then some (.int .i64 l.length) else none
  | .bsl _ _ _ _ len _ => if isSliceT P t then some (.int .i64 len) else none
  | _ => none

def aminmax (mn : Bool) : List AV → Option AV
  | [.int k a, .int _ b] => some (.int k (if mn then (if b < a then b else a) else (if a < b then b else a)))
  | _ => none

def astepP (P : Program) (fr : Nat → AV) (o : Oper) : Option AV :=
  match o.op with
  | .move x => some (ev fr x)
  | .assign x => some (ev fr x)
  | .pick c a b => match ev fr c with
    | .bool t => some (apick t (ev fr a) (ev fr b))
    | _ => none
  | .nilCheck x => anil (ev fr x)
  | .fieldAddr s x f => match fldOff P s f with
    | some o => match ev fr x with
      | .ptr k off => some (.ptr k (off + o))
      | .eptr c off => some (.eptr c (off + o))
      | .glob g off => some (.glob g (off + o))
      | _ => none
    | none => none
  | .field s x f => match fldTK P s f with
    | some (o, k) => match ev fr x with
      | .agg cs => getCells cs o k
      | _ => none
    | none => none
  | .indexAddr t x i => aindexAddr P t (ev fr x) (ev fr i)
  | .index t x i => aindex P t (ev fr x) (ev fr i)
  | .slice t x lo hi mx => aslice P t (ev fr x) (lo.map (ev fr)) (hi.map (ev fr)) (mx.map (ev fr))
  | .binOp op t x y _ => abinOpT P op t (isC x || isC y) (ev fr x) (ev fr y)
  | .unOp op _ x => aunOp op (ev fr x)
  | .convert s d x => aconvert P s d (ev fr x)
  | .makeInterface t x => if P.concrete t then some (.iface t (ev fr x)) else none
  | .makeFunc f first cap => some (.fn f (first.toList.map (ev fr)) (cap.toList.map (ev fr)))
  | .extract x i => match ev fr x with
    | .tup vs => vs[i]?
    | _ => none
  | .build t parts => abuild P t (parts.toList.map fun p => (p.1, ev fr p.2))
  | .buildSlice t n parts => abuildSlice P t n (parts.toList.map fun p => (p.1, ev fr p.2))
  | .call { callee := .builtin .len, args := args, argTypes := ts } => match args.toList, ts.toList with
    | [x], [t] => alen P t (ev fr x)
    | _, _ => none
  | .call { callee := .builtin .min, args := args, .. } => aminmax true (args.toList.map (ev fr))
  | .call { callee := .builtin .max, args := args, .. } => aminmax false (args.toList.map (ev fr))
  | _ => none

end Go.Ab
