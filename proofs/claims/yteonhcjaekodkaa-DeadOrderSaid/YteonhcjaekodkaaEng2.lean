/-
  The engine, part 2: the operations, and what each does to an abstract state.
  No condition: definitions alone.
-/
import Derived.Test.YteonhcjaekodkaaEng1
set_option linter.all false
namespace Go.Eng
open Go

def ev (t : List (Nat × AV)) : Operand → Option AV
  | .tmp k => get t k
  | .const v => some (.v v)
  | .func f => some (.fn f [])
  | .global _ => none

def evL (t : List (Nat × AV)) : List Operand → Option (List AV)
  | [] => some []
  | x :: l => match ev t x, evL t l with
    | some y, some ys => some (y :: ys)
    | _, _ => none

inductive SOp where
  | mov (x : Operand)
  | pick (c a b : Operand)
  | alloc (zs : List Value)
  | box (x : Operand)
  | build (zs : List Value) (parts : List (Nat × Nat × Operand))
  | bslice (e : TypeId) (sz : Nat) (zs : List Value) (len : Nat) (parts : List (Nat × Operand))
  | load (ag : Bool) (sz : Nat) (x : Operand)
  | store (sz : Nat) (x y : Operand)
  | nilc (x : Operand)
  | bin (op : BinOp) (x y : Operand)
  | eqs (neg : Bool) (ks : List Nat) (x y : Operand)
  | eqb (neg : Bool) (x y : Operand)
  | isnil (neg : Bool) (x : Operand)
  | un (op : UnOp) (x : Operand)
  | conv (k : IntKind) (x : Operand)
  | s2b (e : TypeId) (x : Operand)
  | b2s (x : Operand)
  | mkfn (f : FuncId) (caps : List Operand)
  | mkmap
  | look (z : Value) (m k : Operand)
  | mput (m k x : Operand)
  | mkslice (e : TypeId) (sz bytes : Nat) (zs : List Value) (l c : Operand)
  | slice (sz : Nat) (x : Operand) (lo hi mx : Option Operand)
  | sslice (x : Operand) (lo hi : Option Operand)
  | faddr (off : Nat) (x : Operand)
  | fld (ag : Bool) (off sz : Nat) (x : Operand)
  | iaddr (sz : Nat) (x i : Operand)
  | iaddrA (len sz : Nat) (x i : Operand)
  | idx (ag : Bool) (len sz : Nat) (x i : Operand)
  | idxs (x i : Operand)
  | len (x : Operand)
  | slen (x : Operand)
  | cap (x : Operand)
  | app (e : TypeId) (sz bytes : Nat) (zs : List Value) (s x : Operand)
  | appz (e : TypeId) (sz bytes : Nat) (zs : List Value) (s x : Operand)
  | clr (sz : Nat) (zs : List Value) (x : Operand)
  | bad
  | ext (i : Nat) (x : Operand)
  | minmax (mx : Bool) (xs : List Operand)
  | call (f : Operand) (args : List Operand)

structure SOper where
  dst : Option Nat
  op : SOp
  guard : Option (Nat × Bool)
  after : List Nat := []

inductive SCode where
  | skip
  | region (ops : List SOper) (draw : Bool)
  | seq (a b : SCode)
  | cond (c : Operand) (x y : SCode)
  | block (id : Nat) (c : SCode)
  | loop (c : SCode)
  | exit (id : Nat)
  | ret

/-- Is a slice value nil? 'some none': it may be either. -/
def nilK : Option AV → Option (Option Bool)
  | some (.v (.slice none _ _)) => some (some true)


  | some (.sl _ (_ :: _)) => some (some false)
  | some (.sl _ []) => some none
  | some (.own _ _ _ _) => some none
  | _ => none

structure E where
  pre : Prop
  val : AV
  upd : List (Nat × Ob)

def AV.one : AV → Bool
  | .v x => x.oneCell'
  | .agg _ => false
  | .tup _ => false
  | _ => true

mutual
def AV.pure : AV → Bool
  | .v _ => true
  | .sl _ _ => true
  | .pel _ _ => true
  | .agg cs => pureL cs
  | .tup cs => pureL cs
  | .fn _ cs => pureL cs
  | _ => false
def pureL : List AV → Bool
  | [] => true
  | c :: cs => c.pure && pureL cs
end

def oneL : List AV → Bool
  | [] => true
  | c :: cs => c.one && oneL cs

/-- The cells of a value, each of one cell. -/
def cellsA : AV → Option (List AV)
  | .agg cs => if oneL cs then some cs else none
  | x => if x.one then some [x] else none

def splice (cs : List AV) (j : Nat) (ys : List AV) : List AV := cs.take j ++ (ys ++ cs.drop (j + ys.length))

def nth (xs : List (List AV)) (k : Nat) : List AV := xs[k]?.getD []

def sbin : BinOp → Value → Value → Option Value
  | .add, .int k a, .int k' b => if k = k' then some (.int k (k.wrap (a + b))) else none
  | .sub, .int k a, .int k' b => if k = k' then some (.int k (k.wrap (a - b))) else none
  | .mul, .int k a, .int k' b => if k = k' then some (.int k (k.wrap (a * b))) else none
  | .and, .int k a, .int k' b => if k = k' then some (.int k (bits .and k a b)) else none
  | .or, .int k a, .int k' b => if k = k' then some (.int k (bits .or k a b)) else none
  | .xor, .int k a, .int k' b => if k = k' then some (.int k (bits .xor k a b)) else none
  | .eql, .int k a, .int k' b => if k = k' then some (.bool (a == b)) else none
  | .neq, .int k a, .int k' b => if k = k' then some (.bool (a != b)) else none
  | .lss, .int k a, .int k' b => if k = k' then some (.bool (decide (a < b))) else none
  | .leq, .int k a, .int k' b => if k = k' then some (.bool (decide (a ≤ b))) else none
  | .gtr, .int k a, .int k' b => if k = k' then some (.bool (decide (b < a))) else none
  | .geq, .int k a, .int k' b => if k = k' then some (.bool (decide (b ≤ a))) else none
  | .eql, .string a, .string b => some (.bool (a.toList == b.toList))
  | .neq, .string a, .string b => some (.bool (!(a.toList == b.toList)))
  | _, _, _ => none

/-- The operators with a condition: quotient, remainder, shifts, + on strings. -/
def sbinP : BinOp → Value → Value → Option (Prop × Value)
  | .quo, .int k a, .int k' b => if k = k' then some (b ≠ 0, .int k (k.wrap (a.tdiv b))) else none
  | .rem, .int k a, .int k' b => if k = k' then some (b ≠ 0, .int k (a.tmod b)) else none
  | .shl, .int k a, .int _ b => some (0 ≤ b, .int k (k.wrap (a * 2 ^ (min b.toNat k.bits))))
  | .shr, .int k a, .int _ b => some (0 ≤ b, .int k (a.fdiv (2 ^ (min b.toNat k.bits))))
  | .add, .string a, .string b => some (a.size + b.size ≤ maxLen, .string (a ++ b))
  | _, _, _ => none

/-- == of two structs of plain cells, cell by cell. (Kinds: 0 an integer, 1 a string, 2 a bool.) -/
def eqCells : List Nat → List AV → List AV → Option Bool
  | [], [], [] => some true
  | 0 :: ks, .v (.int k a) :: l, .v (.int k' b) :: l' => if k = k' then (match eqCells ks l l' with
    | some r => some ((a == b) && r)
    | none => none) else none
  | 1 :: ks, .v (.string a) :: l, .v (.string b) :: l' => match eqCells ks l l' with
    | some r => some ((a.toList == b.toList) && r)
    | none => none
  | 2 :: ks, .v (.bool a) :: l, .v (.bool b) :: l' => match eqCells ks l l' with
    | some r => some ((a == b) && r)
    | none => none
  | _, _, _ => none

def fillA : List AV → List (Nat × List AV) → Option (List AV)
  | cs, [] => some cs
  | cs, (off, ys) :: rest => if off + ys.length ≤ cs.length then fillA (splice cs off ys) rest else none

def partsA (t : List (Nat × AV)) : List (Nat × Nat × Operand) → Option (List (Nat × List AV))
  | [] => some []
  | (off, sz, x) :: rest => match ev t x, partsA t rest with
    | some y, some l => match cellsA y with
      | some ys => if ys.length = sz then some ((off, ys) :: l) else none
      | none => none
    | _, _ => none

def partsR (t : List (Nat × AV)) (sz : Nat) : List (Nat × Operand) → Option (List (Nat × List AV))
  | [] => some []
  | (i, x) :: rest => match ev t x, partsR t sz rest with
    | some y, some l => match cellsA y with
      | some ys => if ys.length = sz ∧ pureL ys = true then some ((i, ys) :: l) else none
      | none => none
    | _, _ => none

def fillR : List (List AV) → List (Nat × List AV) → Option (List (List AV))
  | xs, [] => some xs
  | xs, (i, y) :: rest => if i < xs.length then fillR (xs.set i y) rest else none

def E.ok (x : AV) : Option E := some ⟨True, x, []⟩

def bytesOfL : List (List AV) → Option (List UInt8)
  | [] => some []
  | [.v (.int .u8 n)] :: l => match bytesOfL l with
    | some r => some (n.toNat.toUInt8 :: r)
    | none => none
  | _ => none
def bytesOf (xs : List (List AV)) : Option ByteArray := match bytesOfL xs with
  | some l => some ⟨l.toArray⟩
  | none => none
/-- The abstract content of a slice value; nil is empty. -/
def contentsN (h : List (Nat × Ob)) (sz : Nat) : Option AV → Option (Prop × List (List AV))
  | some (.v (.slice none 0 0)) => some (True, [])
  | some (.sl sz' xs) => if sz = sz' then some (True, xs) else none
  | some (.own b sz' off len) => match get h b with
    | some (.row _ sz'' xs) => if sz = sz' ∧ sz = sz'' then some (off + len ≤ xs.length, (xs.drop off).take len) else none
    | _ => none
  | _ => none

def lookM : List (Value × AV) → IntKind → Int → Option (Option AV)
  | [], _, _ => some none
  | (.int q' n', x) :: es, q, n => if q = q' then (if n = n' then some (some x) else lookM es q n) else none
  | _, _, _ => none

def putM : List (Value × AV) → IntKind → Int → AV → Option (List (Value × AV))
  | [], q, n, y => some [(.int q n, y)]
  | (.int q' n', x) :: es, q, n, y => if q = q' then (if n = n' then some ((.int q' n', y) :: es) else match putM es q n y with
      | some r => some ((.int q' n', x) :: r)
      | none => none) else none
  | _, _, _, _ => none

def bound (t : List (Nat × AV)) (d : Nat) : Option Operand → Option Int
  | none => some d
  | some x => match ev t x with
    | some (.v (.int _ n)) => some n
    | _ => none

def asNat (x : AV) : Option (Prop × Nat) := match x with
  | .v (.int _ n) => some (0 ≤ n, n.toNat)
  | _ => none

def bytesAV (s : ByteArray) : List (List AV) := s.data.toList.map fun b => [.v (.int .u8 b.toNat)]

def eff (nm : Nat) (t : List (Nat × AV)) (h : List (Nat × Ob)) : SOp → Option E
  | .mov x => match ev t x with
    | some y => E.ok y
    | none => none
  | .pick c a b => match ev t c with
    | some (.v (.bool true)) => match ev t a with
      | some y => E.ok y
      | none => none
    | some (.v (.bool false)) => match ev t b with
      | some y => E.ok y
      | none => none
    | _ => none
  | .alloc zs => some ⟨True, .ptr nm 0, [(nm, .box (zs.map .v))]⟩
  | .box x => match ev t x with
    | some y => match cellsA y with
      | some ys => some ⟨True, .ptr nm 0, [(nm, .box ys)]⟩
      | none => none
    | none => none
  | .build zs parts => match partsA t parts with
    | some ps => match fillA (zs.map .v) ps with
      | some cs => E.ok (.agg cs)
      | none => none
    | none => none
  | .bslice e sz zs len parts => match partsR t sz parts with
    | some ps => match fillR (List.replicate len (zs.map .v)) ps with
      | some xs => some ⟨True, .own nm sz 0 len, [(nm, .row e sz xs)]⟩
      | none => none
    | none => none
  | .load ag sz x => match ev t x with
    | some (.ptr b j) => match get h b with
      | some (.box cs) => if ag then (if j + sz ≤ cs.length then E.ok (.agg ((cs.drop j).take sz)) else none) else match cs[j]? with
        | some c => E.ok c
        | none => none
      | _ => none
    | some (.pel cs j) => if ag then (if j + sz ≤ cs.length then E.ok (.agg ((cs.drop j).take sz)) else none) else match cs[j]? with
        | some c => E.ok c
        | none => none
    | some (.rp b sz' k j) => match get h b with
      | some (.row _ sz'' xs) => if sz' = sz'' then
          (if ag then some ⟨k < xs.length ∧ j + sz ≤ sz'', .agg (((nth xs k).drop j).take sz), []⟩
            else some ⟨k < xs.length ∧ j < sz'', ((nth xs k)[j]?).getD (.v undef), []⟩) else none
      | _ => none
    | _ => none
  | .store sz x y => match ev t x, ev t y with
    | some (.ptr b j), some z => match get h b, cellsA z with
      | some (.box cs), some ys => if ys.length = sz ∧ j + sz ≤ cs.length then some ⟨True, .v undef, [(b, .box (splice cs j ys))]⟩ else none
      | _, _ => none
    | some (.rp b sz' k j), some z => match get h b, cellsA z with
      | some (.row e sz'' xs), some ys => if sz' = sz'' ∧ ys.length = sz ∧ pureL ys = true then
          some ⟨k < xs.length ∧ j + sz ≤ sz'', .v undef, [(b, .row e sz'' (xs.set k (splice (nth xs k) j ys)))]⟩ else none
      | _, _ => none
    | _, _ => none
  | .nilc x => match ev t x with
    | some (.ptr b j) => match get h b with
      | some (.box _) => E.ok (.ptr b j)
      | _ => none
    | some (.pel cs j) => E.ok (.pel cs j)
    | some (.fn f cs) => E.ok (.fn f cs)
    | _ => none
  | .bin op x y => match ev t x, ev t y with
    | some (.v a), some (.v b) => match sbin op a b with
      | some c => E.ok (.v c)
      | none => match sbinP op a b with
        | some (p, c) => some ⟨p, .v c, []⟩
        | none => none
    | _, _ => none
  | .eqs neg ks x y => match ev t x, ev t y with
    | some (.agg a), some (.agg b) => match eqCells ks a b with
      | some c => E.ok (.v (.bool (if neg then !c else c)))
      | none => none
    | _, _ => none
  | .eqb neg x y => match ev t x, ev t y with
    | some (.v (.bool a)), some (.v (.bool b)) => E.ok (.v (.bool (if neg then !(a == b) else (a == b))))
    | _, _ => none
  | .un op x => match op, ev t x with
    | .not, some (.v (.bool b)) => E.ok (.v (.bool !b))
    | .neg, some (.v (.int k n)) => E.ok (.v (.int k (k.wrap (0 - n))))
    | _, _ => none
  | .conv k x => match ev t x with
    | some (.v (.int _ n)) => E.ok (.v (.int k (k.wrap n)))
    | _ => none
  | .b2s x => match contentsN h 1 (ev t x) with
    | some (p, xs) => match bytesOf xs with
      | some s => some ⟨p, .v (.string s), []⟩
      | none => none
    | none => none
  | .mkfn f caps => match evL t caps with
    | some cs => E.ok (.fn f cs)
    | none => none
  | .mkmap => some ⟨True, .mp nm, [(nm, .map [])]⟩
  | .look z m k => match ev t m, ev t k with
    | some (.mp b), some (.v (.int q n)) => match get h b with
      | some (.map es) => match lookM es q n with
        | some r => E.ok (r.getD (.v z))
        | none => none
      | _ => none
    | _, _ => none
  | .mput m k x => match ev t m, ev t k, ev t x with
    | some (.mp b), some (.v (.int q n)), some y => match get h b with
      | some (.map es) => if y.pure = true then match putM es q n y with
          | some es' => some ⟨True, .v undef, [(b, .map es')]⟩
          | none => none else none
      | _ => none
    | _, _, _ => none
  | .mkslice e sz bytes zs l c => match ev t l, ev t c with
    | some (.v (.int _ n)), some (.v (.int _ m)) => some ⟨0 ≤ n ∧ n = m ∧ n * bytes ≤ 140737488355328 ∧ n ≤ 9223372036854775807, .own nm sz 0 n.toNat, [(nm, .row e sz (List.replicate n.toNat (zs.map .v)))]⟩
    | _, _ => none
  | .app e sz bytes _zs s x => match ev t s, contentsN h sz (ev t x) with
    | some (.v (.slice none 0 0)), some (p, news) => some ⟨p ∧ news.length * bytes ≤ 140737488355328 ∧ news.length ≤ maxLen, .own nm sz 0 news.length, [(nm, .row e sz news)]⟩
    | some (.own b sz' off len), some (p, news) => match get h b with
      | some (.row e' sz'' xs) => if sz = sz' ∧ sz = sz'' ∧ e = e' then
          some ⟨p ∧ (len + news.length) * bytes ≤ 140737488355328 ∧ len + news.length ≤ maxLen ∧ off + len ≤ xs.length, .own nm sz 0 (len + news.length), [(nm, .row e sz ((xs.drop off).take len ++ news)), (b, .dead)]⟩ else none
      | _ => none
    | _, _ => none
  | .slice sz x lo hi mx => match mx, ev t x, bound t 0 lo with
    | none, some (.sl sz' xs), some l => match bound t xs.length hi with
      | some r => if sz = sz' then some ⟨0 ≤ l ∧ l ≤ r ∧ r ≤ xs.length, .sl sz ((xs.take r.toNat).drop l.toNat), []⟩ else none
      | none => none
    | none, some (.own b sz' off len), some l => match get h b, bound t len hi with
      | some (.row _ _ _), some r => if sz = sz' then some ⟨0 ≤ l ∧ l ≤ r ∧ r ≤ len, .own b sz' (off + l.toNat) (r.toNat - l.toNat), []⟩ else none
      | _, _ => none
    | none, some (.v (.slice none 0 0)), some l => match bound t 0 hi with
      | some r => some ⟨l = 0 ∧ r = 0, .v (.slice none 0 0), []⟩
      | none => none
    | _, _, _ => none
  | .sslice x lo hi => match ev t x, bound t 0 lo with
    | some (.v (.string s)), some l => match bound t s.size hi with
      | some r => some ⟨0 ≤ l ∧ l ≤ r ∧ r ≤ s.size, .v (.string (s.extract l.toNat r.toNat)), []⟩
      | none => none
    | _, _ => none
  | .idxs x i => match ev t x, ev t i with
    | some (.v (.string s)), some (.v (.int _ n)) => some ⟨0 ≤ n ∧ n < s.size, .v (.int .u8 (s.data[n.toNat]?.getD 0).toNat), []⟩
    | _, _ => none
  | .idx ag len sz x i => match ev t x, ev t i with
    | some (.agg cs), some (.v (.int _ n)) => if ag then some ⟨0 ≤ n ∧ n < len ∧ n.toNat * sz + sz ≤ cs.length, .agg ((cs.drop (n.toNat * sz)).take sz), []⟩
      else match cs[n.toNat * sz]? with
        | some c => some ⟨0 ≤ n ∧ n < len, c, []⟩
        | none => none
    | _, _ => none
  | .cap x => match ev t x with
    | some (.v (.slice none _ c)) => E.ok (.v (.int .i64 c))
    | _ => none
  | .appz e sz bytes zs s x => match ev t s, ev t x with
    | some (.v (.slice none 0 0)), some (.v (.int _ n)) => some ⟨0 < n ∧ n * bytes ≤ 140737488355328 ∧ n ≤ 9223372036854775807, .own nm sz 0 n.toNat, [(nm, .row e sz (List.replicate n.toNat (zs.map .v)))]⟩
    | _, _ => none
  | .clr sz zs x => match ev t x with
    | some (.own b sz' off len) => match get h b with
      | some (.row e sz'' xs) => if sz = sz' ∧ sz = sz'' then some ⟨off + len ≤ xs.length, .v undef, [(b, .row e sz (xs.take off ++ (List.replicate len (zs.map .v) ++ xs.drop (off + len))))]⟩ else none
      | _ => none
    | _ => none
  | .minmax mx xs => match evL t xs with
    | some [.v (.int k a), .v (.int k' b)] => if k = k' then E.ok (.v (.int k (if mx then max a b else min a b))) else none
    | _ => none
  | .faddr off x => match ev t x with
    | some (.ptr b j) => match get h b with
      | some (.box _) => E.ok (.ptr b (j + off))
      | _ => none
    | some (.rp b sz k j) => match get h b with
      | some (.row _ _ xs) => some ⟨k < xs.length, .rp b sz k (j + off), []⟩
      | _ => none
    | some (.pel cs j) => E.ok (.pel cs (j + off))
    | _ => none
  | .fld ag off sz x => match ev t x with
    | some (.agg cs) => if ag then (if off + sz ≤ cs.length then E.ok (.agg ((cs.drop off).take sz)) else none) else match cs[off]? with
      | some c => E.ok c
      | none => none
    | _ => none
  | .iaddr sz x i => match ev t x, ev t i with
    | some (.sl sz' xs), some (.v (.int _ n)) => if sz = sz' then some ⟨0 ≤ n ∧ n < xs.length, .pel (nth xs n.toNat) 0, []⟩ else none
    | some (.own b sz' off len), some (.v (.int _ n)) => match get h b with
      | some (.row _ sz'' _) => if sz = sz' ∧ sz = sz'' then some ⟨0 ≤ n ∧ n < len, .rp b sz' (off + n.toNat) 0, []⟩ else none
      | _ => none
    | _, _ => none
  | .slen x => match ev t x with
    | some (.v (.string s)) => E.ok (.v (.int .i64 s.size))
    | _ => none
  | .len x => match ev t x with
    | some (.v (.slice _ n _)) => E.ok (.v (.int .i64 n))
    | some (.sl _ xs) => E.ok (.v (.int .i64 xs.length))
    | some (.own b _ _ n) => match get h b with
      | some (.row _ _ _) => E.ok (.v (.int .i64 n))
      | _ => none
    | _ => none
  | .ext i x => match ev t x with
    | some (.tup cs) => match cs[i]? with
      | some c => E.ok c
      | none => none
    | _ => none
  | _ => none

end Go.Eng
