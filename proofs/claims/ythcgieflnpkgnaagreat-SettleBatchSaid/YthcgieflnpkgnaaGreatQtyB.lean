/-
  Facts on the types that the functions name.
  No condition: definitions and lemmas.
-/
import Derived.Test.YthcgieflnpkgnaaGreatMemF
import Derived.Test.YthcgieflnpkgnaaGreatProg
set_option linter.all false
set_option maxRecDepth 100000
set_option maxHeartbeats 4000000
namespace Go.M
open Go Go.Proofs
open Go.Eng (SOp SOper SCode sizeP aggP zerosOf bytesP zeroVal stripCode stripOps stripOper strip stripParts kindsOf)

theorem sz3 : sizeP Tryz.prog 3 = some 1 := by kernel_rfl
theorem sz4 : sizeP Tryz.prog 4 = some 1 := by kernel_rfl
theorem sz5 : sizeP Tryz.prog 5 = some 1 := by kernel_rfl
theorem sz9 : sizeP Tryz.prog 9 = some 1 := by kernel_rfl
theorem sz23 : sizeP Tryz.prog 23 = some 8 := by kernel_rfl
theorem sz24 : sizeP Tryz.prog 24 = some 1 := by kernel_rfl
theorem sz25 : sizeP Tryz.prog 25 = some 1 := by kernel_rfl
theorem sz26 : sizeP Tryz.prog 26 = some 1 := by kernel_rfl
theorem sz28 : sizeP Tryz.prog 28 = some 2 := by kernel_rfl
theorem sz30 : sizeP Tryz.prog 30 = some 3 := by kernel_rfl
theorem sz31 : sizeP Tryz.prog 31 = some 1 := by kernel_rfl
theorem sz32 : sizeP Tryz.prog 32 = some 1 := by kernel_rfl
theorem sz34 : sizeP Tryz.prog 34 = some 3 := by kernel_rfl
theorem sz36 : sizeP Tryz.prog 36 = some 11 := by kernel_rfl
theorem sz37 : sizeP Tryz.prog 37 = some 1 := by kernel_rfl
theorem sz40 : sizeP Tryz.prog 40 = some 1 := by kernel_rfl
theorem sz41 : sizeP Tryz.prog 41 = some 1 := by kernel_rfl
theorem sz44 : sizeP Tryz.prog 44 = some 1 := by kernel_rfl
theorem sz45 : sizeP Tryz.prog 45 = some 1 := by kernel_rfl
theorem sz47 : sizeP Tryz.prog 47 = some 8 := by kernel_rfl
theorem sz49 : sizeP Tryz.prog 49 = some 7 := by kernel_rfl
theorem sz52 : sizeP Tryz.prog 52 = some 3 := by kernel_rfl
theorem sz53 : sizeP Tryz.prog 53 = some 1 := by kernel_rfl
theorem sz54 : sizeP Tryz.prog 54 = some 1 := by kernel_rfl
theorem sz56 : sizeP Tryz.prog 56 = some 2 := by kernel_rfl
theorem sz58 : sizeP Tryz.prog 58 = some 8 := by kernel_rfl
theorem sz60 : sizeP Tryz.prog 60 = some 9 := by kernel_rfl
theorem sz64 : sizeP Tryz.prog 64 = some 7 := by kernel_rfl
theorem sz68 : sizeP Tryz.prog 68 = some 1 := by kernel_rfl
theorem sz70 : sizeP Tryz.prog 70 = some 23 := by kernel_rfl
theorem sz72 : sizeP Tryz.prog 72 = some 1 := by kernel_rfl
theorem sz75 : sizeP Tryz.prog 75 = some 4 := by kernel_rfl
theorem sz78 : sizeP Tryz.prog 78 = some 1 := by kernel_rfl
theorem sz80 : sizeP Tryz.prog 80 = some 10 := by kernel_rfl
theorem sz97 : sizeP Tryz.prog 97 = some 3 := by kernel_rfl
theorem sz99 : sizeP Tryz.prog 99 = some 4 := by kernel_rfl
theorem sz103 : sizeP Tryz.prog 103 = some 5 := by kernel_rfl
theorem sz105 : sizeP Tryz.prog 105 = some 4 := by kernel_rfl
theorem sz106 : sizeP Tryz.prog 106 = some 1 := by kernel_rfl
theorem sz107 : sizeP Tryz.prog 107 = some 1 := by kernel_rfl
theorem sz109 : sizeP Tryz.prog 109 = some 6 := by kernel_rfl
theorem sz111 : sizeP Tryz.prog 111 = some 26 := by kernel_rfl
theorem sz113 : sizeP Tryz.prog 113 = some 2 := by kernel_rfl
theorem sz115 : sizeP Tryz.prog 115 = some 63 := by kernel_rfl
theorem sz132 : sizeP Tryz.prog 132 = some 4 := by kernel_rfl
theorem sz187 : sizeP Tryz.prog 187 = some 8 := by kernel_rfl
theorem sz189 : sizeP Tryz.prog 189 = some 2 := by kernel_rfl
theorem sz199 : sizeP Tryz.prog 199 = some 1 := by kernel_rfl
theorem sz211 : sizeP Tryz.prog 211 = some 1 := by kernel_rfl
theorem sz225 : sizeP Tryz.prog 225 = some 2 := by kernel_rfl
theorem sz273 : sizeP Tryz.prog 273 = some 2 := by kernel_rfl
theorem ag3 : aggP Tryz.prog 3 = some false := by kernel_rfl
theorem ag4 : aggP Tryz.prog 4 = some false := by kernel_rfl
theorem ag5 : aggP Tryz.prog 5 = some false := by kernel_rfl
theorem ag9 : aggP Tryz.prog 9 = some false := by kernel_rfl
theorem ag23 : aggP Tryz.prog 23 = some true := by kernel_rfl
theorem ag24 : aggP Tryz.prog 24 = some false := by kernel_rfl
theorem ag25 : aggP Tryz.prog 25 = some false := by kernel_rfl
theorem ag26 : aggP Tryz.prog 26 = some false := by kernel_rfl
theorem ag28 : aggP Tryz.prog 28 = some true := by kernel_rfl
theorem ag31 : aggP Tryz.prog 31 = some false := by kernel_rfl
theorem ag32 : aggP Tryz.prog 32 = some false := by kernel_rfl
theorem ag34 : aggP Tryz.prog 34 = some true := by kernel_rfl
theorem ag36 : aggP Tryz.prog 36 = some true := by kernel_rfl
theorem ag37 : aggP Tryz.prog 37 = some false := by kernel_rfl
theorem ag40 : aggP Tryz.prog 40 = some false := by kernel_rfl
theorem ag41 : aggP Tryz.prog 41 = some false := by kernel_rfl
theorem ag44 : aggP Tryz.prog 44 = some false := by kernel_rfl
theorem ag45 : aggP Tryz.prog 45 = some false := by kernel_rfl
theorem ag47 : aggP Tryz.prog 47 = some true := by kernel_rfl
theorem ag49 : aggP Tryz.prog 49 = some true := by kernel_rfl
theorem ag52 : aggP Tryz.prog 52 = some true := by kernel_rfl
theorem ag53 : aggP Tryz.prog 53 = some false := by kernel_rfl
theorem ag54 : aggP Tryz.prog 54 = some false := by kernel_rfl
theorem ag56 : aggP Tryz.prog 56 = some true := by kernel_rfl
theorem ag58 : aggP Tryz.prog 58 = some true := by kernel_rfl
theorem ag64 : aggP Tryz.prog 64 = some true := by kernel_rfl
theorem ag68 : aggP Tryz.prog 68 = some false := by kernel_rfl
theorem ag70 : aggP Tryz.prog 70 = some true := by kernel_rfl
theorem ag72 : aggP Tryz.prog 72 = some false := by kernel_rfl
theorem ag75 : aggP Tryz.prog 75 = some true := by kernel_rfl
theorem ag78 : aggP Tryz.prog 78 = some false := by kernel_rfl
theorem ag80 : aggP Tryz.prog 80 = some true := by kernel_rfl
theorem ag97 : aggP Tryz.prog 97 = some true := by kernel_rfl
theorem ag99 : aggP Tryz.prog 99 = some true := by kernel_rfl
theorem ag103 : aggP Tryz.prog 103 = some true := by kernel_rfl
theorem ag105 : aggP Tryz.prog 105 = some true := by kernel_rfl
theorem ag106 : aggP Tryz.prog 106 = some false := by kernel_rfl
theorem ag107 : aggP Tryz.prog 107 = some false := by kernel_rfl
theorem ag109 : aggP Tryz.prog 109 = some true := by kernel_rfl
theorem ag111 : aggP Tryz.prog 111 = some true := by kernel_rfl
theorem ag113 : aggP Tryz.prog 113 = some true := by kernel_rfl
theorem ag115 : aggP Tryz.prog 115 = some true := by kernel_rfl
theorem ag132 : aggP Tryz.prog 132 = some true := by kernel_rfl
theorem ag187 : aggP Tryz.prog 187 = some true := by kernel_rfl
theorem ag189 : aggP Tryz.prog 189 = some true := by kernel_rfl
theorem ag199 : aggP Tryz.prog 199 = some false := by kernel_rfl
theorem ag211 : aggP Tryz.prog 211 = some false := by kernel_rfl
theorem ag225 : aggP Tryz.prog 225 = some true := by kernel_rfl
theorem ag273 : aggP Tryz.prog 273 = some true := by kernel_rfl
theorem zr3 : zerosOf Tryz.prog 3 = some [(.int .i64 0)] := by kernel_rfl
theorem zr4 : zerosOf Tryz.prog 4 = some [(.bool false)] := by kernel_rfl
theorem zr5 : zerosOf Tryz.prog 5 = some [(.int .u8 0)] := by kernel_rfl
theorem zr9 : zerosOf Tryz.prog 9 = some [(.string ⟨#[]⟩)] := by kernel_rfl
theorem zr23 : zerosOf Tryz.prog 23 = some [(.int .i64 0), (.int .i64 0), (.int .i64 0), (.int .i64 0), (.int .i64 0), (.int .i64 0), (.int .i64 0), (.int .i64 0)] := by kernel_rfl
theorem zr28 : zerosOf Tryz.prog 28 = some [(.int .i64 0), (.slice none 0 0)] := by kernel_rfl
theorem zr34 : zerosOf Tryz.prog 34 = some [(.int .i64 0), (.slice none 0 0), (.slice none 0 0)] := by kernel_rfl
theorem zr36 : zerosOf Tryz.prog 36 = some [(.slice none 0 0), (.slice none 0 0), (.int .i64 0), (.int .i64 0), (.slice none 0 0), (.int .i64 0), (.slice none 0 0), (.slice none 0 0), (.int .i64 0), (.int .i64 0), (.int .i64 0)] := by kernel_rfl
theorem zr47 : zerosOf Tryz.prog 47 = some [(.int .i64 0), (.int .i64 0), (.int .i64 0), (.int .i64 0), (.int .i64 0), (.int .i64 0), (.slice none 0 0), (.slice none 0 0)] := by kernel_rfl
theorem zr49 : zerosOf Tryz.prog 49 = some [(.int .i64 0), (.int .i64 0), (.slice none 0 0), (.slice none 0 0), (.int .i64 0), (.int .i64 0), (.int .i64 0)] := by kernel_rfl
theorem zr52 : zerosOf Tryz.prog 52 = some [(.slice none 0 0), (.int .i64 0), (.int .i64 0)] := by kernel_rfl
theorem zr56 : zerosOf Tryz.prog 56 = some [(.slice none 0 0), (.slice none 0 0)] := by kernel_rfl
theorem zr58 : zerosOf Tryz.prog 58 = some [(.bool false), (.int .i64 0), (.int .i64 0), (.slice none 0 0), (.int .i64 0), (.int .i64 0), (.slice none 0 0), (.slice none 0 0)] := by kernel_rfl
theorem zr60 : zerosOf Tryz.prog 60 = some [(.int .i64 0), (.bool false), (.int .i64 0), (.int .i64 0), (.slice none 0 0), (.int .i64 0), (.int .i64 0), (.slice none 0 0), (.slice none 0 0)] := by kernel_rfl
theorem zr64 : zerosOf Tryz.prog 64 = some [(.int .i64 0), (.int .i64 0), (.int .i64 0), (.int .i64 0), (.int .i64 0), (.int .i64 0), (.string ⟨#[]⟩)] := by kernel_rfl
theorem zr70 : zerosOf Tryz.prog 70 = some [(.int .i64 0), (.int .i64 0), (.int .i64 0), (.int .i64 0), (.int .i64 0), (.int .i64 0), (.int .i64 0), (.int .i64 0), (.slice none 0 0), (.slice none 0 0), (.int .i64 0), (.int .i64 0), (.slice none 0 0), (.int .i64 0), (.slice none 0 0), (.slice none 0 0), (.int .i64 0), (.int .i64 0), (.int .i64 0), (.slice none 0 0), (.slice none 0 0), (.int .i64 0), (.slice none 0 0)] := by kernel_rfl
theorem zr72 : zerosOf Tryz.prog 72 = some [(.slice none 0 0)] := by kernel_rfl
theorem zr75 : zerosOf Tryz.prog 75 = some [(.int .i64 0), (.int .i64 0), (.int .i64 0), (.int .i64 0)] := by kernel_rfl
theorem zr80 : zerosOf Tryz.prog 80 = some [(.int .i64 0), (.int .i64 0), (.int .i64 0), (.int .i64 0), (.int .i64 0), (.int .i64 0), (.int .i64 0), (.slice none 0 0), (.int .i64 0), (.int .i64 0)] := by kernel_rfl
theorem zr97 : zerosOf Tryz.prog 97 = some [(.int .i64 0), (.int .i64 0), (.int .i64 0)] := by kernel_rfl
theorem zr99 : zerosOf Tryz.prog 99 = some [(.int .i64 0), (.int .i64 0), (.int .i64 0), (.int .i64 0)] := by kernel_rfl
theorem zr103 : zerosOf Tryz.prog 103 = some [(.slice none 0 0), (.int .i64 0), (.int .i64 0), (.int .i64 0), (.int .i64 0)] := by kernel_rfl
theorem zr105 : zerosOf Tryz.prog 105 = some [(.int .i64 0), (.int .i64 0), (.int .i64 0), (.int .i64 0)] := by kernel_rfl
theorem zr109 : zerosOf Tryz.prog 109 = some [(.slice none 0 0), (.int .i64 0), (.slice none 0 0), (.slice none 0 0), (.slice none 0 0), (.slice none 0 0)] := by kernel_rfl
theorem zr111 : zerosOf Tryz.prog 111 = some [(.int .i64 0), (.int .i64 0), (.slice none 0 0), (.int .i64 0), (.int .i64 0), (.int .i64 0), (.int .i64 0), (.int .i64 0), (.int .i64 0), (.int .i64 0), (.int .i64 0), (.slice none 0 0), (.int .i64 0), (.slice none 0 0), (.slice none 0 0), (.int .i64 0), (.slice none 0 0), (.slice none 0 0), (.slice none 0 0), (.int .i64 0), (.slice none 0 0), (.slice none 0 0), (.slice none 0 0), (.slice none 0 0), (.int .i64 0), (.slice none 0 0)] := by kernel_rfl
theorem zr113 : zerosOf Tryz.prog 113 = some [(.int .i64 0), (.int .i64 0)] := by kernel_rfl
theorem zr115 : zerosOf Tryz.prog 115 = some [(.int .i64 0), (.int .i64 0), (.int .i64 0), (.int .i64 0), (.int .i64 0), (.int .i64 0), (.int .i64 0), (.slice none 0 0), (.slice none 0 0), (.int .i64 0), (.bool false), (.int .i64 0), (.int .i64 0), (.int .i64 0), (.slice none 0 0), (.int .i64 0), (.int .i64 0), (.int .i64 0), (.int .i64 0), (.int .i64 0), (.int .i64 0), (.int .i64 0), (.int .i64 0), (.int .i64 0), (.int .i64 0), (.slice none 0 0), (.int .i64 0), (.int .i64 0), (.int .i64 0), (.int .i64 0), (.int .i64 0), (.int .i64 0), (.int .i64 0), (.int .i64 0), (.slice none 0 0), (.int .i64 0), (.slice none 0 0), (.slice none 0 0), (.int .i64 0), (.slice none 0 0), (.slice none 0 0), (.slice none 0 0), (.int .i64 0), (.slice none 0 0), (.slice none 0 0), (.slice none 0 0), (.slice none 0 0), (.int .i64 0), (.slice none 0 0), (.int .i64 0), (.slice none 0 0), (.slice none 0 0), (.int .i64 0), (.int .i64 0), (.int .i64 0), (.int .i64 0), (.int .i64 0), (.int .i64 0), (.int .i64 0), (.int .i64 0), (.int .i64 0), (.slice none 0 0), (.slice none 0 0)] := by kernel_rfl
theorem zr132 : zerosOf Tryz.prog 132 = some [(.int .i64 0), (.int .i64 0), (.int .i64 0), (.int .i64 0)] := by kernel_rfl
theorem zr187 : zerosOf Tryz.prog 187 = some [(.int .i64 0), (.int .i64 0), (.int .i64 0), (.int .i64 0), (.int .i64 0), (.int .i64 0), (.string ⟨#[]⟩), (.int .i64 0)] := by kernel_rfl
theorem zr189 : zerosOf Tryz.prog 189 = some [(.int .i64 0), (.int .i64 0)] := by kernel_rfl
theorem zr213 : zerosOf Tryz.prog 213 = some [(.slice none 0 0), (.slice none 0 0), (.int .i64 0), (.int .i64 0), (.slice none 0 0), (.int .i64 0), (.slice none 0 0), (.slice none 0 0), (.int .i64 0), (.int .i64 0), (.int .i64 0), (.int .i64 0), (.int .i64 0), (.slice none 0 0), (.int .i64 0), (.int .i64 0), (.int .i64 0), (.int .i64 0), (.int .i64 0), (.int .i64 0), (.int .i64 0), (.int .i64 0), (.slice none 0 0), (.int .i64 0), (.slice none 0 0), (.slice none 0 0), (.int .i64 0), (.slice none 0 0), (.slice none 0 0), (.slice none 0 0), (.int .i64 0), (.slice none 0 0), (.slice none 0 0), (.slice none 0 0), (.slice none 0 0), (.int .i64 0), (.slice none 0 0), (.int .i64 0), (.int .i64 0)] := by kernel_rfl
theorem zr225 : zerosOf Tryz.prog 225 = some [(.pointer none), (.int .i64 0)] := by kernel_rfl
theorem zr226 : zerosOf Tryz.prog 226 = some [(.pointer none), (.int .i64 0), (.pointer none), (.int .i64 0), (.pointer none), (.int .i64 0), (.pointer none), (.int .i64 0)] := by kernel_rfl
theorem zr273 : zerosOf Tryz.prog 273 = some [(.int .i64 0), (.int .i64 0)] := by kernel_rfl
theorem zr274 : zerosOf Tryz.prog 274 = some [(.int .i64 0), (.int .i64 0), (.int .i64 0), (.int .i64 0), (.int .i64 0), (.int .i64 0), (.int .i64 0), (.int .i64 0), (.int .i64 0), (.int .i64 0)] := by kernel_rfl
theorem zr373 : zerosOf Tryz.prog 373 = some [(.int .i64 0), (.int .i64 0), (.int .i64 0), (.int .i64 0)] := by kernel_rfl
theorem by3 : bytesP Tryz.prog 3 = some 8 := by kernel_rfl
theorem by5 : bytesP Tryz.prog 5 = some 1 := by kernel_rfl
theorem by9 : bytesP Tryz.prog 9 = some 16 := by kernel_rfl
theorem by49 : bytesP Tryz.prog 49 = some 88 := by kernel_rfl
theorem by58 : bytesP Tryz.prog 58 = some 112 := by kernel_rfl
theorem by60 : bytesP Tryz.prog 60 = some 120 := by kernel_rfl
theorem by64 : bytesP Tryz.prog 64 = some 64 := by kernel_rfl
theorem by72 : bytesP Tryz.prog 72 = some 24 := by kernel_rfl
theorem by80 : bytesP Tryz.prog 80 = some 96 := by kernel_rfl
theorem by97 : bytesP Tryz.prog 97 = some 24 := by kernel_rfl
theorem by99 : bytesP Tryz.prog 99 = some 32 := by kernel_rfl
theorem by115 : bytesP Tryz.prog 115 = some 808 := by kernel_rfl
theorem by132 : bytesP Tryz.prog 132 = some 32 := by kernel_rfl
theorem by187 : bytesP Tryz.prog 187 = some 72 := by kernel_rfl
theorem by189 : bytesP Tryz.prog 189 = some 16 := by kernel_rfl
theorem zv4 : zeroVal Tryz.prog 4 = some (.bool false) := by kernel_rfl
theorem zv214 : zeroVal Tryz.prog 214 = some .nilFunc := by kernel_rfl
theorem sh64 : Tryz.prog.stoodInHeld 64 = false := by kernel_rfl
theorem eg64 : Tryz.prog.eqGuardType Tryz.prog.depth 64 = false := by kernel_rfl
theorem sh189 : Tryz.prog.stoodInHeld 189 = false := by kernel_rfl
theorem eg189 : Tryz.prog.eqGuardType Tryz.prog.depth 189 = false := by kernel_rfl

/-- A function's code as the machine takes it. -/
abbrev SC (c : Code) := {s : SCode // stripCode Tryz.prog c = some s}
def SC.mk' {c : Code} {s : SCode} (h : stripCode Tryz.prog c = some s) : SC c := ⟨s, h⟩
theorem mixedP : Tryz.prog.follows .mixedOrders = true := by kernel_rfl
theorem SC.okM {f : FuncId} {fn : Func} {c : Code} (x : SC c) {F : Fun} (h0 : F.sc = x.1) (h1 : Tryz.prog.funcs[f]? = some fn) (h3 : fn.body = some c) (h2 : (fn.name == "runtime.NumGoroutine") = false := by kernel_rfl) (h4 : resOf Tryz.prog fn.results.toList = some F.res := by kernel_rfl)
    (h5 : Nat.ble fn.results.toList.length 5 = true := by kernel_rfl) (h6 : Nat.ble F.na fn.ntmps = true := by kernel_rfl) (h7 : okC fn.ntmps F.PV F.FL F.sc = true := by kernel_rfl) : FnM Tryz.prog f F :=
  ⟨⟨fn, c, h1, h2, h3, by rw [h0]; exact x.2, h4, Nat.le_of_ble_eq_true h5, Nat.le_of_ble_eq_true h6, h7⟩, mixedP⟩
/-- A table: what it answers is shown. -/
inductive Tb where
  | leaf (n : Nat) (F : Fun) (h : FnM Tryz.prog n F)
  | node (m : Nat) (l r : Tb)
noncomputable def Tb.get (t : Tb) : Nat → Option Fun := @Tb.rec (fun _ => Nat → Option Fun) (fun n F _ f => cnd (Nat.beq f n) (some F) none) (fun m _ _ l r f => cnd (Nat.blt f m) (l f) (r f)) t
theorem Tb.ok : ∀ (t : Tb) (g : Nat) (F : Fun), t.get g = some F → FnM Tryz.prog g F
  | .leaf n F h, g, F', e => by
    have e' : cnd (Nat.beq g n) (some F) none = some F' := e
    cases hb : Nat.beq g n with
    | false => rw [hb] at e'; cases e'
    | true =>
      rw [hb] at e'
      cases e'
      rw [beqT hb]; exact h
  | .node m l r, g, F', e => by
    have e' : cnd (Nat.blt g m) (l.get g) (r.get g) = some F' := e
    cases hb : Nat.blt g m with
    | false => rw [hb] at e'; exact Tb.ok r g F' e'
    | true => rw [hb] at e'; exact Tb.ok l g F' e'
attribute [go_sem] stripCode stripOps stripOper strip stripParts kindsOf Option.bind List.filterMap reduceIte Bool.false_eq_true Bool.and_true Bool.and_self Bool.true_and and_self and_true true_and List.all List.map List.isEmpty Option.isSome ne_eq not_false_eq_true not_true_eq_false reduceCtorEq String.reduceEq String.reduceNe List.length_cons List.length_nil Nat.reduceAdd Nat.reduceMul Nat.reduceLT Nat.reduceLeDiff Nat.zero_add Value.oneCell' Nat.reduceEqDiff Option.getD List.getElem?_toArray List.getElem?_cons_zero List.getElem?_cons_succ List.size_toArray if_true if_false List.any Array.size decide_true decide_false Tryz.underlying3 Tryz.underlying4 Tryz.underlying5 Tryz.underlying9 Tryz.underlying23 Tryz.underlying24 Tryz.underlying25 Tryz.underlying26 Tryz.underlying28 Tryz.underlying30 Tryz.underlying31 Tryz.underlying32 Tryz.underlying34 Tryz.underlying36 Tryz.underlying37 Tryz.underlying40 Tryz.underlying41 Tryz.underlying44 Tryz.underlying45 Tryz.underlying47 Tryz.underlying49 Tryz.underlying52 Tryz.underlying53 Tryz.underlying54 Tryz.underlying56 Tryz.underlying58 Tryz.underlying60 Tryz.underlying64 Tryz.underlying68 Tryz.underlying70 Tryz.underlying72 Tryz.underlying73 Tryz.underlying75 Tryz.underlying78 Tryz.underlying80 Tryz.underlying97 Tryz.underlying99 Tryz.underlying103 Tryz.underlying105 Tryz.underlying106 Tryz.underlying107 Tryz.underlying109 Tryz.underlying111 Tryz.underlying113 Tryz.underlying115 Tryz.underlying132 Tryz.underlying187 Tryz.underlying189 Tryz.underlying213 Tryz.underlying225 Tryz.underlying226 Tryz.underlying245 Tryz.underlying248 Tryz.underlying273 Tryz.underlying274 Tryz.underlying313 Tryz.underlying340 Tryz.underlying373 sz3 sz4 sz5 sz9 sz23 sz24 sz25 sz26 sz28 sz30 sz31 sz32 sz34 sz36 sz37 sz40 sz41 sz44 sz45 sz47 sz49 sz52 sz53 sz54 sz56 sz58 sz60 sz64 sz68 sz70 sz72 sz75 sz78 sz80 sz97 sz99 sz103 sz105 sz106 sz107 sz109 sz111 sz113 sz115 sz132 sz187 sz189 sz199 sz211 sz225 sz273 ag3 ag4 ag5 ag9 ag23 ag24 ag25 ag26 ag28 ag31 ag32 ag34 ag36 ag37 ag40 ag41 ag44 ag45 ag47 ag49 ag52 ag53 ag54 ag56 ag58 ag64 ag68 ag70 ag72 ag75 ag78 ag80 ag97 ag99 ag103 ag105 ag106 ag107 ag109 ag111 ag113 ag115 ag132 ag187 ag189 ag199 ag211 ag225 ag273 zr3 zr4 zr5 zr9 zr23 zr28 zr34 zr36 zr47 zr49 zr52 zr56 zr58 zr60 zr64 zr70 zr72 zr75 zr80 zr97 zr99 zr103 zr105 zr109 zr111 zr113 zr115 zr132 zr187 zr189 zr213 zr225 zr226 zr273 zr274 zr373 by3 by5 by9 by49 by58 by60 by64 by72 by80 by97 by99 by115 by132 by187 by189 zv4 zv214 sh64 eg64 sh189 eg189
end Go.M
