/-
  Facts on the types that the functions name.
  No condition: definitions and lemmas.
-/
import Derived.Test.YtfffmopgodknpaaGreatMemF
import Derived.Test.YtfffmopgodknpaaGreatProg
set_option linter.all false
set_option maxRecDepth 100000
set_option maxHeartbeats 4000000
namespace Go.M
open Go Go.Proofs
open Go.Eng (SOp SOper SCode sizeP aggP zerosOf bytesP zeroVal stripCode stripOps stripOper strip stripParts kindsOf)

theorem sz3 : sizeP Tryz.prog 3 = some 1 := by kernel_rfl
theorem sz4 : sizeP Tryz.prog 4 = some 1 := by kernel_rfl
theorem sz5 : sizeP Tryz.prog 5 = some 1 := by kernel_rfl
theorem sz9 : sizeP Tryz.prog 9 = some 1 := by kernel_rfl
theorem sz22 : sizeP Tryz.prog 22 = some 1 := by kernel_rfl
theorem sz26 : sizeP Tryz.prog 26 = some 8 := by kernel_rfl
theorem sz27 : sizeP Tryz.prog 27 = some 1 := by kernel_rfl
theorem sz28 : sizeP Tryz.prog 28 = some 1 := by kernel_rfl
theorem sz29 : sizeP Tryz.prog 29 = some 1 := by kernel_rfl
theorem sz31 : sizeP Tryz.prog 31 = some 2 := by kernel_rfl
theorem sz33 : sizeP Tryz.prog 33 = some 3 := by kernel_rfl
theorem sz34 : sizeP Tryz.prog 34 = some 1 := by kernel_rfl
theorem sz36 : sizeP Tryz.prog 36 = some 3 := by kernel_rfl
theorem sz38 : sizeP Tryz.prog 38 = some 11 := by kernel_rfl
theorem sz39 : sizeP Tryz.prog 39 = some 1 := by kernel_rfl
theorem sz40 : sizeP Tryz.prog 40 = some 1 := by kernel_rfl
theorem sz41 : sizeP Tryz.prog 41 = some 1 := by kernel_rfl
theorem sz43 : sizeP Tryz.prog 43 = some 23 := by kernel_rfl
theorem sz44 : sizeP Tryz.prog 44 = some 1 := by kernel_rfl
theorem sz50 : sizeP Tryz.prog 50 = some 1 := by kernel_rfl
theorem sz52 : sizeP Tryz.prog 52 = some 8 := by kernel_rfl
theorem sz54 : sizeP Tryz.prog 54 = some 1 := by kernel_rfl
theorem sz58 : sizeP Tryz.prog 58 = some 7 := by kernel_rfl
theorem sz61 : sizeP Tryz.prog 61 = some 5 := by kernel_rfl
theorem sz63 : sizeP Tryz.prog 63 = some 4 := by kernel_rfl
theorem sz64 : sizeP Tryz.prog 64 = some 1 := by kernel_rfl
theorem sz65 : sizeP Tryz.prog 65 = some 1 := by kernel_rfl
theorem sz67 : sizeP Tryz.prog 67 = some 6 := by kernel_rfl
theorem sz69 : sizeP Tryz.prog 69 = some 26 := by kernel_rfl
theorem sz71 : sizeP Tryz.prog 71 = some 2 := by kernel_rfl
theorem sz73 : sizeP Tryz.prog 73 = some 4 := by kernel_rfl
theorem sz75 : sizeP Tryz.prog 75 = some 63 := by kernel_rfl
theorem sz89 : sizeP Tryz.prog 89 = some 3 := by kernel_rfl
theorem sz90 : sizeP Tryz.prog 90 = some 1 := by kernel_rfl
theorem sz91 : sizeP Tryz.prog 91 = some 1 := by kernel_rfl
theorem sz93 : sizeP Tryz.prog 93 = some 2 := by kernel_rfl
theorem sz95 : sizeP Tryz.prog 95 = some 8 := by kernel_rfl
theorem sz97 : sizeP Tryz.prog 97 = some 9 := by kernel_rfl
theorem sz101 : sizeP Tryz.prog 101 = some 7 := by kernel_rfl
theorem sz103 : sizeP Tryz.prog 103 = some 1 := by kernel_rfl
theorem sz105 : sizeP Tryz.prog 105 = some 10 := by kernel_rfl
theorem sz107 : sizeP Tryz.prog 107 = some 4 := by kernel_rfl
theorem sz116 : sizeP Tryz.prog 116 = some 3 := by kernel_rfl
theorem sz152 : sizeP Tryz.prog 152 = some 4 := by kernel_rfl
theorem sz169 : sizeP Tryz.prog 169 = some 8 := by kernel_rfl
theorem sz173 : sizeP Tryz.prog 173 = some 1 := by kernel_rfl
theorem sz251 : sizeP Tryz.prog 251 = some 2 := by kernel_rfl
theorem ag3 : aggP Tryz.prog 3 = some false := by kernel_rfl
theorem ag4 : aggP Tryz.prog 4 = some false := by kernel_rfl
theorem ag5 : aggP Tryz.prog 5 = some false := by kernel_rfl
theorem ag9 : aggP Tryz.prog 9 = some false := by kernel_rfl
theorem ag22 : aggP Tryz.prog 22 = some false := by kernel_rfl
theorem ag26 : aggP Tryz.prog 26 = some true := by kernel_rfl
theorem ag27 : aggP Tryz.prog 27 = some false := by kernel_rfl
theorem ag28 : aggP Tryz.prog 28 = some false := by kernel_rfl
theorem ag29 : aggP Tryz.prog 29 = some false := by kernel_rfl
theorem ag31 : aggP Tryz.prog 31 = some true := by kernel_rfl
theorem ag34 : aggP Tryz.prog 34 = some false := by kernel_rfl
theorem ag36 : aggP Tryz.prog 36 = some true := by kernel_rfl
theorem ag38 : aggP Tryz.prog 38 = some true := by kernel_rfl
theorem ag41 : aggP Tryz.prog 41 = some false := by kernel_rfl
theorem ag43 : aggP Tryz.prog 43 = some true := by kernel_rfl
theorem ag44 : aggP Tryz.prog 44 = some false := by kernel_rfl
theorem ag50 : aggP Tryz.prog 50 = some false := by kernel_rfl
theorem ag52 : aggP Tryz.prog 52 = some true := by kernel_rfl
theorem ag54 : aggP Tryz.prog 54 = some false := by kernel_rfl
theorem ag58 : aggP Tryz.prog 58 = some true := by kernel_rfl
theorem ag61 : aggP Tryz.prog 61 = some true := by kernel_rfl
theorem ag63 : aggP Tryz.prog 63 = some true := by kernel_rfl
theorem ag64 : aggP Tryz.prog 64 = some false := by kernel_rfl
theorem ag65 : aggP Tryz.prog 65 = some false := by kernel_rfl
theorem ag67 : aggP Tryz.prog 67 = some true := by kernel_rfl
theorem ag69 : aggP Tryz.prog 69 = some true := by kernel_rfl
theorem ag71 : aggP Tryz.prog 71 = some true := by kernel_rfl
theorem ag75 : aggP Tryz.prog 75 = some true := by kernel_rfl
theorem ag89 : aggP Tryz.prog 89 = some true := by kernel_rfl
theorem ag90 : aggP Tryz.prog 90 = some false := by kernel_rfl
theorem ag91 : aggP Tryz.prog 91 = some false := by kernel_rfl
theorem ag93 : aggP Tryz.prog 93 = some true := by kernel_rfl
theorem ag95 : aggP Tryz.prog 95 = some true := by kernel_rfl
theorem ag101 : aggP Tryz.prog 101 = some true := by kernel_rfl
theorem ag103 : aggP Tryz.prog 103 = some false := by kernel_rfl
theorem ag105 : aggP Tryz.prog 105 = some true := by kernel_rfl
theorem ag116 : aggP Tryz.prog 116 = some true := by kernel_rfl
theorem ag152 : aggP Tryz.prog 152 = some true := by kernel_rfl
theorem ag169 : aggP Tryz.prog 169 = some true := by kernel_rfl
theorem ag173 : aggP Tryz.prog 173 = some false := by kernel_rfl
theorem ag251 : aggP Tryz.prog 251 = some true := by kernel_rfl
theorem zr3 : zerosOf Tryz.prog 3 = some [(.int .i64 0)] := by kernel_rfl
theorem zr4 : zerosOf Tryz.prog 4 = some [(.bool false)] := by kernel_rfl
theorem zr5 : zerosOf Tryz.prog 5 = some [(.int .u8 0)] := by kernel_rfl
theorem zr9 : zerosOf Tryz.prog 9 = some [(.string ⟨#[]⟩)] := by kernel_rfl
theorem zr26 : zerosOf Tryz.prog 26 = some [(.int .i64 0), (.int .i64 0), (.int .i64 0), (.int .i64 0), (.int .i64 0), (.int .i64 0), (.int .i64 0), (.int .i64 0)] := by kernel_rfl
theorem zr31 : zerosOf Tryz.prog 31 = some [(.int .i64 0), (.slice none 0 0)] := by kernel_rfl
theorem zr36 : zerosOf Tryz.prog 36 = some [(.int .i64 0), (.slice none 0 0), (.slice none 0 0)] := by kernel_rfl
theorem zr38 : zerosOf Tryz.prog 38 = some [(.slice none 0 0), (.slice none 0 0), (.int .i64 0), (.int .i64 0), (.slice none 0 0), (.int .i64 0), (.slice none 0 0), (.slice none 0 0), (.int .i64 0), (.int .i64 0), (.int .i64 0)] := by kernel_rfl
theorem zr43 : zerosOf Tryz.prog 43 = some [(.int .i64 0), (.int .i64 0), (.int .i64 0), (.int .i64 0), (.int .i64 0), (.int .i64 0), (.int .i64 0), (.int .i64 0), (.slice none 0 0), (.slice none 0 0), (.int .i64 0), (.int .i64 0), (.slice none 0 0), (.int .i64 0), (.slice none 0 0), (.slice none 0 0), (.int .i64 0), (.int .i64 0), (.int .i64 0), (.slice none 0 0), (.slice none 0 0), (.int .i64 0), (.slice none 0 0)] := by kernel_rfl
theorem zr52 : zerosOf Tryz.prog 52 = some [(.int .i64 0), (.int .i64 0), (.int .i64 0), (.int .i64 0), (.int .i64 0), (.int .i64 0), (.slice none 0 0), (.slice none 0 0)] := by kernel_rfl
theorem zr58 : zerosOf Tryz.prog 58 = some [(.int .i64 0), (.int .i64 0), (.slice none 0 0), (.slice none 0 0), (.int .i64 0), (.int .i64 0), (.int .i64 0)] := by kernel_rfl
theorem zr61 : zerosOf Tryz.prog 61 = some [(.slice none 0 0), (.int .i64 0), (.int .i64 0), (.int .i64 0), (.int .i64 0)] := by kernel_rfl
theorem zr63 : zerosOf Tryz.prog 63 = some [(.int .i64 0), (.int .i64 0), (.int .i64 0), (.int .i64 0)] := by kernel_rfl
theorem zr67 : zerosOf Tryz.prog 67 = some [(.slice none 0 0), (.int .i64 0), (.slice none 0 0), (.slice none 0 0), (.slice none 0 0), (.slice none 0 0)] := by kernel_rfl
theorem zr69 : zerosOf Tryz.prog 69 = some [(.int .i64 0), (.int .i64 0), (.slice none 0 0), (.int .i64 0), (.int .i64 0), (.int .i64 0), (.int .i64 0), (.int .i64 0), (.int .i64 0), (.int .i64 0), (.int .i64 0), (.slice none 0 0), (.int .i64 0), (.slice none 0 0), (.slice none 0 0), (.int .i64 0), (.slice none 0 0), (.slice none 0 0), (.slice none 0 0), (.int .i64 0), (.slice none 0 0), (.slice none 0 0), (.slice none 0 0), (.slice none 0 0), (.int .i64 0), (.slice none 0 0)] := by kernel_rfl
theorem zr71 : zerosOf Tryz.prog 71 = some [(.int .i64 0), (.int .i64 0)] := by kernel_rfl
theorem zr75 : zerosOf Tryz.prog 75 = some [(.int .i64 0), (.int .i64 0), (.int .i64 0), (.int .i64 0), (.int .i64 0), (.int .i64 0), (.int .i64 0), (.slice none 0 0), (.slice none 0 0), (.int .i64 0), (.bool false), (.int .i64 0), (.int .i64 0), (.int .i64 0), (.slice none 0 0), (.int .i64 0), (.int .i64 0), (.int .i64 0), (.int .i64 0), (.int .i64 0), (.int .i64 0), (.int .i64 0), (.int .i64 0), (.int .i64 0), (.int .i64 0), (.slice none 0 0), (.int .i64 0), (.int .i64 0), (.int .i64 0), (.int .i64 0), (.int .i64 0), (.int .i64 0), (.int .i64 0), (.int .i64 0), (.slice none 0 0), (.int .i64 0), (.slice none 0 0), (.slice none 0 0), (.int .i64 0), (.slice none 0 0), (.slice none 0 0), (.slice none 0 0), (.int .i64 0), (.slice none 0 0), (.slice none 0 0), (.slice none 0 0), (.slice none 0 0), (.int .i64 0), (.slice none 0 0), (.int .i64 0), (.slice none 0 0), (.slice none 0 0), (.int .i64 0), (.int .i64 0), (.int .i64 0), (.int .i64 0), (.int .i64 0), (.int .i64 0), (.int .i64 0), (.int .i64 0), (.int .i64 0), (.slice none 0 0), (.slice none 0 0)] := by kernel_rfl
theorem zr89 : zerosOf Tryz.prog 89 = some [(.slice none 0 0), (.int .i64 0), (.int .i64 0)] := by kernel_rfl
theorem zr93 : zerosOf Tryz.prog 93 = some [(.slice none 0 0), (.slice none 0 0)] := by kernel_rfl
theorem zr95 : zerosOf Tryz.prog 95 = some [(.bool false), (.int .i64 0), (.int .i64 0), (.slice none 0 0), (.int .i64 0), (.int .i64 0), (.slice none 0 0), (.slice none 0 0)] := by kernel_rfl
theorem zr97 : zerosOf Tryz.prog 97 = some [(.int .i64 0), (.bool false), (.int .i64 0), (.int .i64 0), (.slice none 0 0), (.int .i64 0), (.int .i64 0), (.slice none 0 0), (.slice none 0 0)] := by kernel_rfl
theorem zr101 : zerosOf Tryz.prog 101 = some [(.int .i64 0), (.int .i64 0), (.int .i64 0), (.int .i64 0), (.int .i64 0), (.int .i64 0), (.string ⟨#[]⟩)] := by kernel_rfl
theorem zr105 : zerosOf Tryz.prog 105 = some [(.int .i64 0), (.int .i64 0), (.int .i64 0), (.int .i64 0), (.int .i64 0), (.int .i64 0), (.int .i64 0), (.slice none 0 0), (.int .i64 0), (.int .i64 0)] := by kernel_rfl
theorem zr107 : zerosOf Tryz.prog 107 = some [(.int .i64 0), (.int .i64 0), (.int .i64 0), (.int .i64 0)] := by kernel_rfl
theorem zr116 : zerosOf Tryz.prog 116 = some [(.int .i64 0), (.int .i64 0), (.int .i64 0)] := by kernel_rfl
theorem zr152 : zerosOf Tryz.prog 152 = some [(.int .i64 0), (.int .i64 0), (.int .i64 0), (.int .i64 0)] := by kernel_rfl
theorem zr169 : zerosOf Tryz.prog 169 = some [(.int .i64 0), (.int .i64 0), (.int .i64 0), (.int .i64 0), (.int .i64 0), (.int .i64 0), (.string ⟨#[]⟩), (.int .i64 0)] := by kernel_rfl
theorem zr175 : zerosOf Tryz.prog 175 = some [(.slice none 0 0), (.slice none 0 0), (.int .i64 0), (.int .i64 0), (.slice none 0 0), (.int .i64 0), (.slice none 0 0), (.slice none 0 0), (.int .i64 0), (.int .i64 0), (.int .i64 0), (.int .i64 0), (.int .i64 0), (.slice none 0 0), (.int .i64 0), (.int .i64 0), (.int .i64 0), (.int .i64 0), (.int .i64 0), (.int .i64 0), (.int .i64 0), (.int .i64 0), (.slice none 0 0), (.int .i64 0), (.slice none 0 0), (.slice none 0 0), (.int .i64 0), (.slice none 0 0), (.slice none 0 0), (.slice none 0 0), (.int .i64 0), (.slice none 0 0), (.slice none 0 0), (.slice none 0 0), (.slice none 0 0), (.int .i64 0), (.slice none 0 0), (.int .i64 0), (.int .i64 0)] := by kernel_rfl
theorem zr251 : zerosOf Tryz.prog 251 = some [(.int .i64 0), (.int .i64 0)] := by kernel_rfl
theorem zr276 : zerosOf Tryz.prog 276 = some [(.int .i64 0)] := by kernel_rfl
theorem zr323 : zerosOf Tryz.prog 323 = some [(.int .i64 0), (.int .i64 0), (.int .i64 0), (.int .i64 0)] := by kernel_rfl
theorem zr346 : zerosOf Tryz.prog 346 = some [(.int .i64 0), (.int .i64 0), (.int .i64 0)] := by kernel_rfl
theorem by3 : bytesP Tryz.prog 3 = some 8 := by kernel_rfl
theorem by5 : bytesP Tryz.prog 5 = some 1 := by kernel_rfl
theorem by9 : bytesP Tryz.prog 9 = some 16 := by kernel_rfl
theorem by58 : bytesP Tryz.prog 58 = some 88 := by kernel_rfl
theorem by95 : bytesP Tryz.prog 95 = some 112 := by kernel_rfl
theorem by97 : bytesP Tryz.prog 97 = some 120 := by kernel_rfl
theorem by101 : bytesP Tryz.prog 101 = some 64 := by kernel_rfl
theorem by105 : bytesP Tryz.prog 105 = some 96 := by kernel_rfl
theorem by116 : bytesP Tryz.prog 116 = some 24 := by kernel_rfl
theorem by152 : bytesP Tryz.prog 152 = some 32 := by kernel_rfl
theorem by169 : bytesP Tryz.prog 169 = some 72 := by kernel_rfl
theorem by251 : bytesP Tryz.prog 251 = some 16 := by kernel_rfl
theorem zv4 : zeroVal Tryz.prog 4 = some (.bool false) := by kernel_rfl
theorem zv176 : zeroVal Tryz.prog 176 = some .nilFunc := by kernel_rfl
theorem sh101 : Tryz.prog.stoodInHeld 101 = false := by kernel_rfl
theorem eg101 : Tryz.prog.eqGuardType Tryz.prog.depth 101 = false := by kernel_rfl

/-- A function's code as the machine takes it. -/
abbrev SC (c : Code) := {s : SCode // stripCode Tryz.prog c = some s}
def SC.mk' {c : Code} {s : SCode} (h : stripCode Tryz.prog c = some s) : SC c := ⟨s, h⟩
theorem mixedP : Tryz.prog.follows .mixedOrders = true := by kernel_rfl
theorem SC.okM {f : FuncId} {fn : Func} {c : Code} (x : SC c) {F : Fun} (h0 : F.sc = x.1) (h1 : Tryz.prog.funcs[f]? = some fn) (h3 : fn.body = some c) (h2 : (fn.name == "runtime.NumGoroutine") = false := by kernel_rfl) (h4 : resOf Tryz.prog fn.results.toList = some F.res := by kernel_rfl)
    (h5 : Nat.ble fn.results.toList.length 5 = true := by kernel_rfl) (h6 : Nat.ble F.na fn.ntmps = true := by kernel_rfl) (h7 : okC fn.ntmps F.PV F.FL F.sc = true := by kernel_rfl) : FnM Tryz.prog f F :=
  ⟨⟨fn, c, h1, h2, h3, by rw [h0]; exact x.2, h4, Nat.le_of_ble_eq_true h5, Nat.le_of_ble_eq_true h6, h7⟩, mixedP⟩
/-- A table: what it answers is shown. -/
inductive Tb where
  | leaf (n : Nat) (F : Fun) (h : FnM Tryz.prog n F)
  | node (m : Nat) (l r : Tb)
noncomputable def Tb.get (t : Tb) : Nat → Option Fun := @Tb.rec (fun _ => Nat → Option Fun) (fun n F _ f => cnd (Nat.beq f n) (some F) none) (fun m _ _ l r f => cnd (Nat.blt f m) (l f) (r f)) t
theorem Tb.ok : ∀ (t : Tb) (g : Nat) (F : Fun), t.get g = some F → FnM Tryz.prog g F
  | .leaf n F h, g, F', e => by
    have e' : cnd (Nat.beq g n) (some F) none = some F' := e
    cases hb : Nat.beq g n with
    | false => rw [hb] at e'; cases e'
    | true =>
      rw [hb] at e'
      cases e'
      rw [beqT hb]; exact h
  | .node m l r, g, F', e => by
    have e' : cnd (Nat.blt g m) (l.get g) (r.get g) = some F' := e
    cases hb : Nat.blt g m with
    | false => rw [hb] at e'; exact Tb.ok r g F' e'
    | true => rw [hb] at e'; exact Tb.ok l g F' e'
attribute [go_sem] stripCode stripOps stripOper strip stripParts kindsOf Option.bind List.filterMap reduceIte Bool.false_eq_true Bool.and_true Bool.and_self Bool.true_and and_self and_true true_and List.all List.map List.isEmpty Option.isSome ne_eq not_false_eq_true not_true_eq_false reduceCtorEq String.reduceEq String.reduceNe List.length_cons List.length_nil Nat.reduceAdd Nat.reduceMul Nat.reduceLT Nat.reduceLeDiff Nat.zero_add Value.oneCell' Nat.reduceEqDiff Option.getD List.getElem?_toArray List.getElem?_cons_zero List.getElem?_cons_succ List.size_toArray if_true if_false List.any Array.size decide_true decide_false Tryz.underlying3 Tryz.underlying4 Tryz.underlying5 Tryz.underlying9 Tryz.underlying22 Tryz.underlying26 Tryz.underlying27 Tryz.underlying28 Tryz.underlying29 Tryz.underlying31 Tryz.underlying33 Tryz.underlying34 Tryz.underlying36 Tryz.underlying38 Tryz.underlying40 Tryz.underlying41 Tryz.underlying43 Tryz.underlying44 Tryz.underlying50 Tryz.underlying52 Tryz.underlying54 Tryz.underlying58 Tryz.underlying61 Tryz.underlying63 Tryz.underlying64 Tryz.underlying65 Tryz.underlying67 Tryz.underlying69 Tryz.underlying71 Tryz.underlying75 Tryz.underlying89 Tryz.underlying90 Tryz.underlying91 Tryz.underlying93 Tryz.underlying95 Tryz.underlying97 Tryz.underlying101 Tryz.underlying103 Tryz.underlying105 Tryz.underlying107 Tryz.underlying116 Tryz.underlying123 Tryz.underlying152 Tryz.underlying169 Tryz.underlying175 Tryz.underlying207 Tryz.underlying251 Tryz.underlying323 Tryz.underlying328 Tryz.underlying339 Tryz.underlying346 Tryz.underlying379 sz3 sz4 sz5 sz9 sz22 sz26 sz27 sz28 sz29 sz31 sz33 sz34 sz36 sz38 sz39 sz40 sz41 sz43 sz44 sz50 sz52 sz54 sz58 sz61 sz63 sz64 sz65 sz67 sz69 sz71 sz73 sz75 sz89 sz90 sz91 sz93 sz95 sz97 sz101 sz103 sz105 sz107 sz116 sz152 sz169 sz173 sz251 ag3 ag4 ag5 ag9 ag22 ag26 ag27 ag28 ag29 ag31 ag34 ag36 ag38 ag41 ag43 ag44 ag50 ag52 ag54 ag58 ag61 ag63 ag64 ag65 ag67 ag69 ag71 ag75 ag89 ag90 ag91 ag93 ag95 ag101 ag103 ag105 ag116 ag152 ag169 ag173 ag251 zr3 zr4 zr5 zr9 zr26 zr31 zr36 zr38 zr43 zr52 zr58 zr61 zr63 zr67 zr69 zr71 zr75 zr89 zr93 zr95 zr97 zr101 zr105 zr107 zr116 zr152 zr169 zr175 zr251 zr276 zr323 zr346 by3 by5 by9 by58 by95 by97 by101 by105 by116 by152 by169 by251 zv4 zv176 sh101 eg101
end Go.M
