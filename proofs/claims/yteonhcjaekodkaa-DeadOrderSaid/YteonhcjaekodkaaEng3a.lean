/-
  The engine, part 3a: reading the model's operations; the operations that only compute.
  No condition: definitions and lemmas.
-/
import Derived.Test.YteonhcjaekodkaaEng2
set_option linter.all false
namespace Go.Eng
open Go

def zerosOf (P : Program) (t : TypeId) : Option (List Value) :=
  match P.info? t with
  | some i => match i.zero with
    | some z => some z.cells.toList
    | none => none
  | none => none
def sizeP (P : Program) (t : TypeId) : Option Nat := match P.info? t with
  | some i => some i.size
  | none => none
def bytesP (P : Program) (t : TypeId) : Option Nat := match P.info? t with
  | some i => some i.bytes
  | none => none
def aggP (P : Program) (t : TypeId) : Option Bool := match P.underlying t with
  | some (.struct _) => some true
  | some (.array _ _) => some true
  | some _ => some false
  | none => none

def zeroVal (P : Program) (t : TypeId) : Option Value := match P.info? t with
  | some i => i.zero
  | none => none

def stripParts (P : Program) (fs : Array Field) : List (Nat × Operand) → Option (List (Nat × Nat × Operand))
  | [] => some []
  | (i, x) :: l => match fs[i]? with
    | some f => match sizeP P f.type with
      | some sz => match stripParts P fs l with
        | some r => some ((f.offset, sz, x) :: r)
        | none => none
      | none => none
    | none => none

/-- The kinds of the fields, if each has one plain cell, at its own place. -/
def kindsOf (P : Program) : List Field → Nat → Option (List Nat)
  | [], _ => some []
  | f :: fs, i => if f.offset = i ∧ f.name ≠ "_" then match P.underlying f.type, kindsOf P fs (i + 1) with
      | some (.int _), some ks => some (0 :: ks)
      | some .string, some ks => some (1 :: ks)
      | some .bool, some ks => some (2 :: ks)
      | _, _ => none else none

def strip (P : Program) (o : Oper) : Option SOp :=
  match o.op with
  | .move x => some (.mov x)
  | .assign x => some (.mov x)
  | .pick c a b => some (.pick c a b)
  | .alloc e => match zerosOf P e with
    | some zs => some (.alloc zs)
    | none => none
  | .box _ x => some (.box x)
  | .build t parts => match P.underlying t with
    | some (.struct fs) => match zerosOf P t with
      | some zs => match stripParts P fs parts.toList with
        | some ps => if (fs.toList.all fun f => (sizeP P f.type).isSome) = true then some (.build zs ps) else none
        | none => none
      | none => none
    | some (.array _ e) => match zerosOf P t with
      | some zs => match sizeP P e with
        | some sz => some (.build zs (parts.toList.map fun p => (p.1 * sz, sz, p.2)))
        | none => none
      | none => none
    | _ => none
  | .buildSlice t len parts => match P.underlying t with
    | some (.slice e) => match zerosOf P e with
      | some zs => match sizeP P e with
        | some sz => if zs.length = sz ∧ 0 < sz ∧ len * sz ≤ 16777216 ∧ zs.all Value.oneCell' = true then some (.bslice e sz zs len parts.toList) else none
        | none => none
      | none => none
    | _ => none
  | .load t x => match aggP P t with
    | some ag => match sizeP P t with
      | some sz => some (.load ag sz x)
      | none => none
    | none => none
  | .store t a v => match sizeP P t with
    | some sz => some (.store sz a v)
    | none => none
  | .nilCheck x => some (.nilc x)
  | .binOp op t x y _ => match P.underlying t with
    | some (.struct fs) => match kindsOf P fs.toList 0 with
      | some ks => if P.stoodInHeld t = false ∧ P.eqGuardType P.depth t = false then match op with
        | .eql => some (.eqs false ks x y)
        | .neq => some (.eqs true ks x y)
        | _ => none else none
      | none => none
    | some (.int _) => some (.bin op x y)
    | some .string => some (.bin op x y)
    | some .bool => match op with
      | .eql => some (.eqb false x y)
      | .neq => some (.eqb true x y)
      | _ => none
    | some (.slice _) => match op, y with
      | .eql, .const (.slice none _ _) => some (.isnil false x)
      | .neq, .const (.slice none _ _) => some (.isnil true x)
      | _, _ => none
    | _ => none
  | .unOp op _ x => some (.un op x)
  | .convert src dst x => match P.underlying src, P.underlying dst with
    | some (.int _), some (.int k) => some (.conv k x)
    | some .string, some (.slice e) => match P.underlying e with
      | some (.int .u8) => some (.s2b e x)
      | _ => none
    | some (.slice e), some .string => match P.underlying e with
      | some (.int .u8) => some (.b2s x)
      | _ => none
    | _, _ => none
  | .makeFunc (.func f) first caps => if first.size = 0 then some (.mkfn f caps.toList) else none
  | .makeMap _ none => some .mkmap
  | .lookup t m k false => match P.underlying t with
    | some (.map kt et) => match P.underlying kt, zeroVal P et with
      | some (.int _), some z => some (.look z m k)
      | _, _ => none
    | _ => none
  | .mapUpdate t m k x => match P.underlying t with
    | some (.map kt _) => match P.underlying kt with
      | some (.int _) => some (.mput m k x)
      | _ => none
    | _ => none
  | .makeSlice t l c => match P.underlying t with
    | some (.slice e) => match zerosOf P e, sizeP P e, bytesP P e with
      | some zs, some sz, some by_ => if zs.length = sz ∧ 0 < sz ∧ zs.all Value.oneCell' = true then some (.mkslice e sz by_ zs l c) else none
      | _, _, _ => none
    | _ => none
  | .slice t x lo hi mx => match P.underlying t with
    | some (.slice e) => match sizeP P e with
      | some sz => some (.slice sz x lo hi mx)
      | none => none
    | some .string => match mx with
      | none => some (.sslice x lo hi)
      | some _ => none
    | _ => none
  | .fieldAddr s x f => match P.underlying s with
    | some (.struct fs) => match fs[f]? with
      | some fd => match sizeP P fd.type with
        | some sz => if sz = 0 then none else some (.faddr fd.offset x)
        | none => none
      | none => none
    | _ => none
  | .field t x f => match P.underlying t with
    | some (.struct fs) => match fs[f]? with
      | some fd => match sizeP P fd.type, aggP P fd.type with
        | some sz, some ag => some (.fld ag fd.offset sz x)
        | _, _ => none
      | none => none
    | _ => none
  | .indexAddr t x i => match P.underlying t with
    | some (.slice e) => match sizeP P e with
      | some sz => some (.iaddr sz x i)
      | none => none
    | some (.array n e) => match sizeP P e with
      | some sz => some (.iaddrA n sz x i)
      | none => none
    | _ => none
  | .index t x i => match P.underlying t with
    | some (.array n e) => match sizeP P e, aggP P e with
      | some sz, some ag => some (.idx ag n sz x i)
      | _, _ => none
    | some .string => some (.idxs x i)
    | _ => none
  | .extract x i => some (.ext i x)
  | .makeInterface _ _ => some .bad
  | .panic _ => some .bad
  | .call c => match c.callee with
    | .value f => some (.call f c.args.toList)
    | .builtin .len => match c.argTypes[0]?, c.args[0]? with
      | some t, some x => match P.underlying t with
        | some (.slice _) => some (.len x)
        | some .string => some (.slen x)
        | _ => none
      | _, _ => none
    | .builtin .cap => match c.argTypes[0]?, c.args[0]? with
      | some t, some x => match P.underlying t with
        | some (.slice _) => some (.cap x)
        | _ => none
      | _, _ => none
    | .builtin .append => match c.argTypes.toList, c.args.toList with
      | [t, t'], [s, x] => if t = t' then match P.underlying t with
          | some (.slice e) => match zerosOf P e, sizeP P e, bytesP P e with
            | some zs, some sz, some by_ => if zs.length = sz ∧ 0 < sz then some (.app e sz by_ zs s x) else none
            | _, _, _ => none
          | _ => none else match P.underlying t, P.underlying t' with
          | some (.slice e), some (.int _) => match zerosOf P e, sizeP P e, bytesP P e with
            | some zs, some sz, some by_ => if zs.length = sz ∧ 0 < sz ∧ zs.all Value.oneCell' = true then some (.appz e sz by_ zs s x) else none
            | _, _, _ => none
          | _, _ => none
      | _, _ => none
    | .builtin .clear => match c.argTypes[0]?, c.args[0]? with
      | some t, some x => match P.underlying t with
        | some (.slice e) => match zerosOf P e, sizeP P e with
          | some zs, some sz => if zs.length = sz ∧ 0 < sz ∧ zs.all Value.oneCell' = true then some (.clr sz zs x) else none
          | _, _ => none
        | _ => none
      | _, _ => none
    | .builtin .max => some (.minmax true c.args.toList)
    | .builtin .min => some (.minmax false c.args.toList)
    | _ => none
  | _ => none

def stripOper (P : Program) (ops : Array Oper) (draw : Bool) (o : Oper) : Option SOper :=
  match strip P o with
  | some so => match o.guard with
    | none => some ⟨o.dst, so, none, if draw then (o.after.toList.filterMap fun e => match e.ground with | .textOnly _ => none | .gcOnly _ => none | _ => some e.on) else []⟩
    | some (j, w) => match ((ops[j]?).bind (·.dst)) with
      | some g => some ⟨o.dst, so, some (g, w), if draw then (o.after.toList.filterMap fun e => match e.ground with | .textOnly _ => none | .gcOnly _ => none | _ => some e.on) else []⟩
      | none => none
  | none => none

def stripOps (P : Program) (ops : Array Oper) (draw : Bool) : List Oper → Option (List SOper)
  | [] => some []
  | o :: l => match stripOper P ops draw o with
    | some so => match stripOps P ops draw l with
      | some sl => some (so :: sl)
      | none => none
    | none => none

def stripCode (P : Program) : Code → Option SCode
  | .skip => some .skip
  | .region _ ops draw => match stripOps P ops draw ops.toList with
    | some l => some (.region l draw)
    | none => none
  | .seq a b => match stripCode P a with
    | some a' => match stripCode P b with
      | some b' => some (.seq a' b')
      | none => none
    | none => none
  | .cond c x y => match stripCode P x with
    | some x' => match stripCode P y with
      | some y' => some (.cond c x' y')
      | none => none
    | none => none
  | .block id c => match stripCode P c with
    | some c' => some (.block id c')
    | none => none
  | .loop c => match stripCode P c with
    | some c' => some (.loop c')
    | none => none
  | .exit id => some (.exit id)
  | .ret => some .ret
  | _ => none

end Go.Eng
