/-
  Facts on the types that the functions name.
  No condition: definitions and lemmas.
-/
import Derived.Test.YtncnaejhbmnkbaaGreatMemF
import Derived.Test.YtncnaejhbmnkbaaGreatProg
set_option linter.all false
set_option maxRecDepth 100000
set_option maxHeartbeats 4000000
namespace Go.M
open Go Go.Proofs
open Go.Eng (SOp SOper SCode sizeP aggP zerosOf bytesP zeroVal stripCode stripOps stripOper strip stripParts kindsOf)

theorem sz3 : sizeP Tryz.prog 3 = some 1 := by kernel_rfl
theorem sz4 : sizeP Tryz.prog 4 = some 1 := by kernel_rfl
theorem sz5 : sizeP Tryz.prog 5 = some 1 := by kernel_rfl
theorem sz9 : sizeP Tryz.prog 9 = some 1 := by kernel_rfl
theorem sz23 : sizeP Tryz.prog 23 = some 8 := by kernel_rfl
theorem sz24 : sizeP Tryz.prog 24 = some 1 := by kernel_rfl
theorem sz25 : sizeP Tryz.prog 25 = some 1 := by kernel_rfl
theorem sz26 : sizeP Tryz.prog 26 = some 1 := by kernel_rfl
theorem sz28 : sizeP Tryz.prog 28 = some 2 := by kernel_rfl
theorem sz30 : sizeP Tryz.prog 30 = some 3 := by kernel_rfl
theorem sz31 : sizeP Tryz.prog 31 = some 1 := by kernel_rfl
theorem sz32 : sizeP Tryz.prog 32 = some 1 := by kernel_rfl
theorem sz34 : sizeP Tryz.prog 34 = some 3 := by kernel_rfl
theorem sz36 : sizeP Tryz.prog 36 = some 11 := by kernel_rfl
theorem sz37 : sizeP Tryz.prog 37 = some 1 := by kernel_rfl
theorem sz40 : sizeP Tryz.prog 40 = some 1 := by kernel_rfl
theorem sz41 : sizeP Tryz.prog 41 = some 1 := by kernel_rfl
theorem sz44 : sizeP Tryz.prog 44 = some 1 := by kernel_rfl
theorem sz45 : sizeP Tryz.prog 45 = some 1 := by kernel_rfl
theorem sz47 : sizeP Tryz.prog 47 = some 8 := by kernel_rfl
theorem sz48 : sizeP Tryz.prog 48 = some 1 := by kernel_rfl
theorem sz50 : sizeP Tryz.prog 50 = some 10 := by kernel_rfl
theorem sz52 : sizeP Tryz.prog 52 = some 7 := by kernel_rfl
theorem sz55 : sizeP Tryz.prog 55 = some 3 := by kernel_rfl
theorem sz56 : sizeP Tryz.prog 56 = some 1 := by kernel_rfl
theorem sz57 : sizeP Tryz.prog 57 = some 1 := by kernel_rfl
theorem sz59 : sizeP Tryz.prog 59 = some 2 := by kernel_rfl
theorem sz61 : sizeP Tryz.prog 61 = some 8 := by kernel_rfl
theorem sz63 : sizeP Tryz.prog 63 = some 9 := by kernel_rfl
theorem sz73 : sizeP Tryz.prog 73 = some 3 := by kernel_rfl
theorem sz75 : sizeP Tryz.prog 75 = some 4 := by kernel_rfl
theorem sz79 : sizeP Tryz.prog 79 = some 5 := by kernel_rfl
theorem sz81 : sizeP Tryz.prog 81 = some 4 := by kernel_rfl
theorem sz82 : sizeP Tryz.prog 82 = some 1 := by kernel_rfl
theorem sz83 : sizeP Tryz.prog 83 = some 1 := by kernel_rfl
theorem sz85 : sizeP Tryz.prog 85 = some 6 := by kernel_rfl
theorem sz87 : sizeP Tryz.prog 87 = some 26 := by kernel_rfl
theorem sz89 : sizeP Tryz.prog 89 = some 2 := by kernel_rfl
theorem sz91 : sizeP Tryz.prog 91 = some 4 := by kernel_rfl
theorem sz93 : sizeP Tryz.prog 93 = some 63 := by kernel_rfl
theorem sz112 : sizeP Tryz.prog 112 = some 1 := by kernel_rfl
theorem sz114 : sizeP Tryz.prog 114 = some 23 := by kernel_rfl
theorem sz142 : sizeP Tryz.prog 142 = some 7 := by kernel_rfl
theorem sz167 : sizeP Tryz.prog 167 = some 1 := by kernel_rfl
theorem sz174 : sizeP Tryz.prog 174 = some 4 := by kernel_rfl
theorem sz185 : sizeP Tryz.prog 185 = some 8 := by kernel_rfl
theorem sz189 : sizeP Tryz.prog 189 = some 2 := by kernel_rfl
theorem ag3 : aggP Tryz.prog 3 = some false := by kernel_rfl
theorem ag4 : aggP Tryz.prog 4 = some false := by kernel_rfl
theorem ag5 : aggP Tryz.prog 5 = some false := by kernel_rfl
theorem ag9 : aggP Tryz.prog 9 = some false := by kernel_rfl
theorem ag23 : aggP Tryz.prog 23 = some true := by kernel_rfl
theorem ag24 : aggP Tryz.prog 24 = some false := by kernel_rfl
theorem ag25 : aggP Tryz.prog 25 = some false := by kernel_rfl
theorem ag26 : aggP Tryz.prog 26 = some false := by kernel_rfl
theorem ag28 : aggP Tryz.prog 28 = some true := by kernel_rfl
theorem ag31 : aggP Tryz.prog 31 = some false := by kernel_rfl
theorem ag32 : aggP Tryz.prog 32 = some false := by kernel_rfl
theorem ag34 : aggP Tryz.prog 34 = some true := by kernel_rfl
theorem ag36 : aggP Tryz.prog 36 = some true := by kernel_rfl
theorem ag37 : aggP Tryz.prog 37 = some false := by kernel_rfl
theorem ag40 : aggP Tryz.prog 40 = some false := by kernel_rfl
theorem ag44 : aggP Tryz.prog 44 = some false := by kernel_rfl
theorem ag45 : aggP Tryz.prog 45 = some false := by kernel_rfl
theorem ag47 : aggP Tryz.prog 47 = some true := by kernel_rfl
theorem ag48 : aggP Tryz.prog 48 = some false := by kernel_rfl
theorem ag50 : aggP Tryz.prog 50 = some true := by kernel_rfl
theorem ag52 : aggP Tryz.prog 52 = some true := by kernel_rfl
theorem ag55 : aggP Tryz.prog 55 = some true := by kernel_rfl
theorem ag56 : aggP Tryz.prog 56 = some false := by kernel_rfl
theorem ag57 : aggP Tryz.prog 57 = some false := by kernel_rfl
theorem ag59 : aggP Tryz.prog 59 = some true := by kernel_rfl
theorem ag61 : aggP Tryz.prog 61 = some true := by kernel_rfl
theorem ag73 : aggP Tryz.prog 73 = some true := by kernel_rfl
theorem ag75 : aggP Tryz.prog 75 = some true := by kernel_rfl
theorem ag79 : aggP Tryz.prog 79 = some true := by kernel_rfl
theorem ag81 : aggP Tryz.prog 81 = some true := by kernel_rfl
theorem ag82 : aggP Tryz.prog 82 = some false := by kernel_rfl
theorem ag83 : aggP Tryz.prog 83 = some false := by kernel_rfl
theorem ag85 : aggP Tryz.prog 85 = some true := by kernel_rfl
theorem ag87 : aggP Tryz.prog 87 = some true := by kernel_rfl
theorem ag89 : aggP Tryz.prog 89 = some true := by kernel_rfl
theorem ag93 : aggP Tryz.prog 93 = some true := by kernel_rfl
theorem ag114 : aggP Tryz.prog 114 = some true := by kernel_rfl
theorem ag142 : aggP Tryz.prog 142 = some true := by kernel_rfl
theorem ag167 : aggP Tryz.prog 167 = some false := by kernel_rfl
theorem ag185 : aggP Tryz.prog 185 = some true := by kernel_rfl
theorem ag189 : aggP Tryz.prog 189 = some true := by kernel_rfl
theorem zr3 : zerosOf Tryz.prog 3 = some [(.int .i64 0)] := by kernel_rfl
theorem zr4 : zerosOf Tryz.prog 4 = some [(.bool false)] := by kernel_rfl
theorem zr5 : zerosOf Tryz.prog 5 = some [(.int .u8 0)] := by kernel_rfl
theorem zr9 : zerosOf Tryz.prog 9 = some [(.string ⟨#[]⟩)] := by kernel_rfl
theorem zr23 : zerosOf Tryz.prog 23 = some [(.int .i64 0), (.int .i64 0), (.int .i64 0), (.int .i64 0), (.int .i64 0), (.int .i64 0), (.int .i64 0), (.int .i64 0)] := by kernel_rfl
theorem zr28 : zerosOf Tryz.prog 28 = some [(.int .i64 0), (.slice none 0 0)] := by kernel_rfl
theorem zr34 : zerosOf Tryz.prog 34 = some [(.int .i64 0), (.slice none 0 0), (.slice none 0 0)] := by kernel_rfl
theorem zr36 : zerosOf Tryz.prog 36 = some [(.slice none 0 0), (.slice none 0 0), (.int .i64 0), (.int .i64 0), (.slice none 0 0), (.int .i64 0), (.slice none 0 0), (.slice none 0 0), (.int .i64 0), (.int .i64 0), (.int .i64 0)] := by kernel_rfl
theorem zr47 : zerosOf Tryz.prog 47 = some [(.int .i64 0), (.int .i64 0), (.int .i64 0), (.int .i64 0), (.int .i64 0), (.int .i64 0), (.slice none 0 0), (.slice none 0 0)] := by kernel_rfl
theorem zr50 : zerosOf Tryz.prog 50 = some [(.int .i64 0), (.int .i64 0), (.int .i64 0), (.int .i64 0), (.int .i64 0), (.int .i64 0), (.int .i64 0), (.slice none 0 0), (.int .i64 0), (.int .i64 0)] := by kernel_rfl
theorem zr52 : zerosOf Tryz.prog 52 = some [(.int .i64 0), (.int .i64 0), (.slice none 0 0), (.slice none 0 0), (.int .i64 0), (.int .i64 0), (.int .i64 0)] := by kernel_rfl
theorem zr55 : zerosOf Tryz.prog 55 = some [(.slice none 0 0), (.int .i64 0), (.int .i64 0)] := by kernel_rfl
theorem zr59 : zerosOf Tryz.prog 59 = some [(.slice none 0 0), (.slice none 0 0)] := by kernel_rfl
theorem zr61 : zerosOf Tryz.prog 61 = some [(.bool false), (.int .i64 0), (.int .i64 0), (.slice none 0 0), (.int .i64 0), (.int .i64 0), (.slice none 0 0), (.slice none 0 0)] := by kernel_rfl
theorem zr63 : zerosOf Tryz.prog 63 = some [(.int .i64 0), (.bool false), (.int .i64 0), (.int .i64 0), (.slice none 0 0), (.int .i64 0), (.int .i64 0), (.slice none 0 0), (.slice none 0 0)] := by kernel_rfl
theorem zr73 : zerosOf Tryz.prog 73 = some [(.int .i64 0), (.int .i64 0), (.int .i64 0)] := by kernel_rfl
theorem zr75 : zerosOf Tryz.prog 75 = some [(.int .i64 0), (.int .i64 0), (.int .i64 0), (.int .i64 0)] := by kernel_rfl
theorem zr79 : zerosOf Tryz.prog 79 = some [(.slice none 0 0), (.int .i64 0), (.int .i64 0), (.int .i64 0), (.int .i64 0)] := by kernel_rfl
theorem zr81 : zerosOf Tryz.prog 81 = some [(.int .i64 0), (.int .i64 0), (.int .i64 0), (.int .i64 0)] := by kernel_rfl
theorem zr85 : zerosOf Tryz.prog 85 = some [(.slice none 0 0), (.int .i64 0), (.slice none 0 0), (.slice none 0 0), (.slice none 0 0), (.slice none 0 0)] := by kernel_rfl
theorem zr87 : zerosOf Tryz.prog 87 = some [(.int .i64 0), (.int .i64 0), (.slice none 0 0), (.int .i64 0), (.int .i64 0), (.int .i64 0), (.int .i64 0), (.int .i64 0), (.int .i64 0), (.int .i64 0), (.int .i64 0), (.slice none 0 0), (.int .i64 0), (.slice none 0 0), (.slice none 0 0), (.int .i64 0), (.slice none 0 0), (.slice none 0 0), (.slice none 0 0), (.int .i64 0), (.slice none 0 0), (.slice none 0 0), (.slice none 0 0), (.slice none 0 0), (.int .i64 0), (.slice none 0 0)] := by kernel_rfl
theorem zr89 : zerosOf Tryz.prog 89 = some [(.int .i64 0), (.int .i64 0)] := by kernel_rfl
theorem zr93 : zerosOf Tryz.prog 93 = some [(.int .i64 0), (.int .i64 0), (.int .i64 0), (.int .i64 0), (.int .i64 0), (.int .i64 0), (.int .i64 0), (.slice none 0 0), (.slice none 0 0), (.int .i64 0), (.bool false), (.int .i64 0), (.int .i64 0), (.int .i64 0), (.slice none 0 0), (.int .i64 0), (.int .i64 0), (.int .i64 0), (.int .i64 0), (.int .i64 0), (.int .i64 0), (.int .i64 0), (.int .i64 0), (.int .i64 0), (.int .i64 0), (.slice none 0 0), (.int .i64 0), (.int .i64 0), (.int .i64 0), (.int .i64 0), (.int .i64 0), (.int .i64 0), (.int .i64 0), (.int .i64 0), (.slice none 0 0), (.int .i64 0), (.slice none 0 0), (.slice none 0 0), (.int .i64 0), (.slice none 0 0), (.slice none 0 0), (.slice none 0 0), (.int .i64 0), (.slice none 0 0), (.slice none 0 0), (.slice none 0 0), (.slice none 0 0), (.int .i64 0), (.slice none 0 0), (.int .i64 0), (.slice none 0 0), (.slice none 0 0), (.int .i64 0), (.int .i64 0), (.int .i64 0), (.int .i64 0), (.int .i64 0), (.int .i64 0), (.int .i64 0), (.int .i64 0), (.int .i64 0), (.slice none 0 0), (.slice none 0 0)] := by kernel_rfl
theorem zr114 : zerosOf Tryz.prog 114 = some [(.int .i64 0), (.int .i64 0), (.int .i64 0), (.int .i64 0), (.int .i64 0), (.int .i64 0), (.int .i64 0), (.int .i64 0), (.slice none 0 0), (.slice none 0 0), (.int .i64 0), (.int .i64 0), (.slice none 0 0), (.int .i64 0), (.slice none 0 0), (.slice none 0 0), (.int .i64 0), (.int .i64 0), (.int .i64 0), (.slice none 0 0), (.slice none 0 0), (.int .i64 0), (.slice none 0 0)] := by kernel_rfl
theorem zr142 : zerosOf Tryz.prog 142 = some [(.int .i64 0), (.int .i64 0), (.int .i64 0), (.int .i64 0), (.int .i64 0), (.int .i64 0), (.string ⟨#[]⟩)] := by kernel_rfl
theorem zr154 : zerosOf Tryz.prog 154 = some [(.int .i64 0)] := by kernel_rfl
theorem zr169 : zerosOf Tryz.prog 169 = some [(.slice none 0 0), (.slice none 0 0), (.int .i64 0), (.int .i64 0), (.slice none 0 0), (.int .i64 0), (.slice none 0 0), (.slice none 0 0), (.int .i64 0), (.int .i64 0), (.int .i64 0), (.int .i64 0), (.int .i64 0), (.slice none 0 0), (.int .i64 0), (.int .i64 0), (.int .i64 0), (.int .i64 0), (.int .i64 0), (.int .i64 0), (.int .i64 0), (.int .i64 0), (.slice none 0 0), (.int .i64 0), (.slice none 0 0), (.slice none 0 0), (.int .i64 0), (.slice none 0 0), (.slice none 0 0), (.slice none 0 0), (.int .i64 0), (.slice none 0 0), (.slice none 0 0), (.slice none 0 0), (.slice none 0 0), (.int .i64 0), (.slice none 0 0), (.int .i64 0), (.int .i64 0)] := by kernel_rfl
theorem zr174 : zerosOf Tryz.prog 174 = some [(.int .i64 0), (.int .i64 0), (.int .i64 0), (.int .i64 0)] := by kernel_rfl
theorem zr185 : zerosOf Tryz.prog 185 = some [(.int .i64 0), (.int .i64 0), (.int .i64 0), (.int .i64 0), (.int .i64 0), (.int .i64 0), (.string ⟨#[]⟩), (.int .i64 0)] := by kernel_rfl
theorem zr189 : zerosOf Tryz.prog 189 = some [(.int .i64 0), (.int .i64 0)] := by kernel_rfl
theorem zr205 : zerosOf Tryz.prog 205 = some [(.int .i64 0), (.int .i64 0), (.int .i64 0)] := by kernel_rfl
theorem zr262 : zerosOf Tryz.prog 262 = some [(.int .i64 0), (.int .i64 0), (.int .i64 0), (.int .i64 0)] := by kernel_rfl
theorem by3 : bytesP Tryz.prog 3 = some 8 := by kernel_rfl
theorem by5 : bytesP Tryz.prog 5 = some 1 := by kernel_rfl
theorem by50 : bytesP Tryz.prog 50 = some 96 := by kernel_rfl
theorem by52 : bytesP Tryz.prog 52 = some 88 := by kernel_rfl
theorem by61 : bytesP Tryz.prog 61 = some 112 := by kernel_rfl
theorem by63 : bytesP Tryz.prog 63 = some 120 := by kernel_rfl
theorem by73 : bytesP Tryz.prog 73 = some 24 := by kernel_rfl
theorem by75 : bytesP Tryz.prog 75 = some 32 := by kernel_rfl
theorem by142 : bytesP Tryz.prog 142 = some 64 := by kernel_rfl
theorem by185 : bytesP Tryz.prog 185 = some 72 := by kernel_rfl
theorem by189 : bytesP Tryz.prog 189 = some 16 := by kernel_rfl
theorem zv4 : zeroVal Tryz.prog 4 = some (.bool false) := by kernel_rfl
theorem zv170 : zeroVal Tryz.prog 170 = some .nilFunc := by kernel_rfl
theorem sh142 : Tryz.prog.stoodInHeld 142 = false := by kernel_rfl
theorem eg142 : Tryz.prog.eqGuardType Tryz.prog.depth 142 = false := by kernel_rfl

/-- A function's code as the machine takes it. -/
abbrev SC (c : Code) := {s : SCode // stripCode Tryz.prog c = some s}
def SC.mk' {c : Code} {s : SCode} (h : stripCode Tryz.prog c = some s) : SC c := ⟨s, h⟩
theorem mixedP : Tryz.prog.follows .mixedOrders = true := by kernel_rfl
theorem SC.okM {f : FuncId} {fn : Func} {c : Code} (x : SC c) {F : Fun} (h0 : F.sc = x.1) (h1 : Tryz.prog.funcs[f]? = some fn) (h3 : fn.body = some c) (h2 : (fn.name == "runtime.NumGoroutine") = false := by kernel_rfl) (h4 : resOf Tryz.prog fn.results.toList = some F.res := by kernel_rfl)
    (h5 : Nat.ble fn.results.toList.length 5 = true := by kernel_rfl) (h6 : Nat.ble F.na fn.ntmps = true := by kernel_rfl) (h7 : okC fn.ntmps F.PV F.FL F.sc = true := by kernel_rfl) : FnM Tryz.prog f F :=
  ⟨⟨fn, c, h1, h2, h3, by rw [h0]; exact x.2, h4, Nat.le_of_ble_eq_true h5, Nat.le_of_ble_eq_true h6, h7⟩, mixedP⟩
/-- A table: what it answers is shown. -/
inductive Tb where
  | leaf (n : Nat) (F : Fun) (h : FnM Tryz.prog n F)
  | node (m : Nat) (l r : Tb)
noncomputable def Tb.get (t : Tb) : Nat → Option Fun := @Tb.rec (fun _ => Nat → Option Fun) (fun n F _ f => cnd (Nat.beq f n) (some F) none) (fun m _ _ l r f => cnd (Nat.blt f m) (l f) (r f)) t
theorem Tb.ok : ∀ (t : Tb) (g : Nat) (F : Fun), t.get g = some F → FnM Tryz.prog g F
  | .leaf n F h, g, F', e => by
    have e' : cnd (Nat.beq g n) (some F) none = some F' := e
    cases hb : Nat.beq g n with
    | false => rw [hb] at e'; cases e'
    | true =>
      rw [hb] at e'
      cases e'
      rw [beqT hb]; exact h
  | .node m l r, g, F', e => by
    have e' : cnd (Nat.blt g m) (l.get g) (r.get g) = some F' := e
    cases hb : Nat.blt g m with
    | false => rw [hb] at e'; exact Tb.ok r g F' e'
    | true => rw [hb] at e'; exact Tb.ok l g F' e'
attribute [go_sem] stripCode stripOps stripOper strip stripParts kindsOf Option.bind List.filterMap reduceIte Bool.false_eq_true Bool.and_true Bool.and_self Bool.true_and and_self and_true true_and List.all List.map List.isEmpty Option.isSome ne_eq not_false_eq_true not_true_eq_false reduceCtorEq String.reduceEq String.reduceNe List.length_cons List.length_nil Nat.reduceAdd Nat.reduceMul Nat.reduceLT Nat.reduceLeDiff Nat.zero_add Value.oneCell' Nat.reduceEqDiff Option.getD List.getElem?_toArray List.getElem?_cons_zero List.getElem?_cons_succ List.size_toArray if_true if_false List.any Array.size decide_true decide_false Tryz.underlying3 Tryz.underlying4 Tryz.underlying5 Tryz.underlying9 Tryz.underlying23 Tryz.underlying24 Tryz.underlying25 Tryz.underlying26 Tryz.underlying28 Tryz.underlying30 Tryz.underlying31 Tryz.underlying32 Tryz.underlying34 Tryz.underlying36 Tryz.underlying37 Tryz.underlying40 Tryz.underlying41 Tryz.underlying44 Tryz.underlying45 Tryz.underlying47 Tryz.underlying48 Tryz.underlying50 Tryz.underlying52 Tryz.underlying55 Tryz.underlying56 Tryz.underlying57 Tryz.underlying59 Tryz.underlying61 Tryz.underlying63 Tryz.underlying73 Tryz.underlying75 Tryz.underlying79 Tryz.underlying81 Tryz.underlying82 Tryz.underlying83 Tryz.underlying85 Tryz.underlying87 Tryz.underlying89 Tryz.underlying93 Tryz.underlying114 Tryz.underlying142 Tryz.underlying158 Tryz.underlying169 Tryz.underlying174 Tryz.underlying185 Tryz.underlying189 Tryz.underlying195 Tryz.underlying203 Tryz.underlying205 Tryz.underlying232 Tryz.underlying262 Tryz.underlying341 sz3 sz4 sz5 sz9 sz23 sz24 sz25 sz26 sz28 sz30 sz31 sz32 sz34 sz36 sz37 sz40 sz41 sz44 sz45 sz47 sz48 sz50 sz52 sz55 sz56 sz57 sz59 sz61 sz63 sz73 sz75 sz79 sz81 sz82 sz83 sz85 sz87 sz89 sz91 sz93 sz112 sz114 sz142 sz167 sz174 sz185 sz189 ag3 ag4 ag5 ag9 ag23 ag24 ag25 ag26 ag28 ag31 ag32 ag34 ag36 ag37 ag40 ag44 ag45 ag47 ag48 ag50 ag52 ag55 ag56 ag57 ag59 ag61 ag73 ag75 ag79 ag81 ag82 ag83 ag85 ag87 ag89 ag93 ag114 ag142 ag167 ag185 ag189 zr3 zr4 zr5 zr9 zr23 zr28 zr34 zr36 zr47 zr50 zr52 zr55 zr59 zr61 zr63 zr73 zr75 zr79 zr81 zr85 zr87 zr89 zr93 zr114 zr142 zr154 zr169 zr174 zr185 zr189 zr205 zr262 by3 by5 by50 by52 by61 by63 by73 by75 by142 by185 by189 zv4 zv170 sh142 eg142
end Go.M
