/-
  Facts on the types that the functions name.
  No condition: definitions and lemmas.
-/
import Derived.Test.YthhjbngoibmpgaaGreatMemF
import Derived.Test.YthhjbngoibmpgaaGreatProg
set_option linter.all false
set_option maxRecDepth 100000
set_option maxHeartbeats 4000000
namespace Go.M
open Go Go.Proofs
open Go.Eng (SOp SOper SCode sizeP aggP zerosOf bytesP zeroVal stripCode stripOps stripOper strip stripParts kindsOf)

theorem sz3 : sizeP Tryz.prog 3 = some 1 := by kernel_rfl
theorem sz4 : sizeP Tryz.prog 4 = some 1 := by kernel_rfl
theorem sz5 : sizeP Tryz.prog 5 = some 1 := by kernel_rfl
theorem sz9 : sizeP Tryz.prog 9 = some 1 := by kernel_rfl
theorem sz22 : sizeP Tryz.prog 22 = some 1 := by kernel_rfl
theorem sz26 : sizeP Tryz.prog 26 = some 8 := by kernel_rfl
theorem sz27 : sizeP Tryz.prog 27 = some 1 := by kernel_rfl
theorem sz28 : sizeP Tryz.prog 28 = some 1 := by kernel_rfl
theorem sz29 : sizeP Tryz.prog 29 = some 1 := by kernel_rfl
theorem sz31 : sizeP Tryz.prog 31 = some 2 := by kernel_rfl
theorem sz33 : sizeP Tryz.prog 33 = some 3 := by kernel_rfl
theorem sz34 : sizeP Tryz.prog 34 = some 1 := by kernel_rfl
theorem sz36 : sizeP Tryz.prog 36 = some 3 := by kernel_rfl
theorem sz38 : sizeP Tryz.prog 38 = some 11 := by kernel_rfl
theorem sz39 : sizeP Tryz.prog 39 = some 1 := by kernel_rfl
theorem sz40 : sizeP Tryz.prog 40 = some 1 := by kernel_rfl
theorem sz41 : sizeP Tryz.prog 41 = some 1 := by kernel_rfl
theorem sz43 : sizeP Tryz.prog 43 = some 23 := by kernel_rfl
theorem sz50 : sizeP Tryz.prog 50 = some 5 := by kernel_rfl
theorem sz52 : sizeP Tryz.prog 52 = some 4 := by kernel_rfl
theorem sz53 : sizeP Tryz.prog 53 = some 1 := by kernel_rfl
theorem sz54 : sizeP Tryz.prog 54 = some 1 := by kernel_rfl
theorem sz56 : sizeP Tryz.prog 56 = some 6 := by kernel_rfl
theorem sz58 : sizeP Tryz.prog 58 = some 26 := by kernel_rfl
theorem sz59 : sizeP Tryz.prog 59 = some 1 := by kernel_rfl
theorem sz77 : sizeP Tryz.prog 77 = some 4 := by kernel_rfl
theorem sz80 : sizeP Tryz.prog 80 = some 3 := by kernel_rfl
theorem sz81 : sizeP Tryz.prog 81 = some 1 := by kernel_rfl
theorem sz82 : sizeP Tryz.prog 82 = some 1 := by kernel_rfl
theorem sz84 : sizeP Tryz.prog 84 = some 2 := by kernel_rfl
theorem sz86 : sizeP Tryz.prog 86 = some 8 := by kernel_rfl
theorem sz88 : sizeP Tryz.prog 88 = some 9 := by kernel_rfl
theorem sz90 : sizeP Tryz.prog 90 = some 1 := by kernel_rfl
theorem sz91 : sizeP Tryz.prog 91 = some 1 := by kernel_rfl
theorem sz93 : sizeP Tryz.prog 93 = some 8 := by kernel_rfl
theorem sz94 : sizeP Tryz.prog 94 = some 1 := by kernel_rfl
theorem sz96 : sizeP Tryz.prog 96 = some 2 := by kernel_rfl
theorem sz98 : sizeP Tryz.prog 98 = some 4 := by kernel_rfl
theorem sz100 : sizeP Tryz.prog 100 = some 63 := by kernel_rfl
theorem sz111 : sizeP Tryz.prog 111 = some 7 := by kernel_rfl
theorem sz123 : sizeP Tryz.prog 123 = some 7 := by kernel_rfl
theorem sz149 : sizeP Tryz.prog 149 = some 3 := by kernel_rfl
theorem sz156 : sizeP Tryz.prog 156 = some 1 := by kernel_rfl
theorem sz175 : sizeP Tryz.prog 175 = some 1 := by kernel_rfl
theorem sz177 : sizeP Tryz.prog 177 = some 10 := by kernel_rfl
theorem sz201 : sizeP Tryz.prog 201 = some 4 := by kernel_rfl
theorem sz233 : sizeP Tryz.prog 233 = some 4 := by kernel_rfl
theorem sz234 : sizeP Tryz.prog 234 = some 1 := by kernel_rfl
theorem sz239 : sizeP Tryz.prog 239 = some 8 := by kernel_rfl
theorem sz253 : sizeP Tryz.prog 253 = some 2 := by kernel_rfl
theorem ag3 : aggP Tryz.prog 3 = some false := by kernel_rfl
theorem ag4 : aggP Tryz.prog 4 = some false := by kernel_rfl
theorem ag5 : aggP Tryz.prog 5 = some false := by kernel_rfl
theorem ag9 : aggP Tryz.prog 9 = some false := by kernel_rfl
theorem ag22 : aggP Tryz.prog 22 = some false := by kernel_rfl
theorem ag26 : aggP Tryz.prog 26 = some true := by kernel_rfl
theorem ag27 : aggP Tryz.prog 27 = some false := by kernel_rfl
theorem ag28 : aggP Tryz.prog 28 = some false := by kernel_rfl
theorem ag29 : aggP Tryz.prog 29 = some false := by kernel_rfl
theorem ag31 : aggP Tryz.prog 31 = some true := by kernel_rfl
theorem ag34 : aggP Tryz.prog 34 = some false := by kernel_rfl
theorem ag36 : aggP Tryz.prog 36 = some true := by kernel_rfl
theorem ag38 : aggP Tryz.prog 38 = some true := by kernel_rfl
theorem ag39 : aggP Tryz.prog 39 = some false := by kernel_rfl
theorem ag40 : aggP Tryz.prog 40 = some false := by kernel_rfl
theorem ag41 : aggP Tryz.prog 41 = some false := by kernel_rfl
theorem ag43 : aggP Tryz.prog 43 = some true := by kernel_rfl
theorem ag50 : aggP Tryz.prog 50 = some true := by kernel_rfl
theorem ag52 : aggP Tryz.prog 52 = some true := by kernel_rfl
theorem ag53 : aggP Tryz.prog 53 = some false := by kernel_rfl
theorem ag54 : aggP Tryz.prog 54 = some false := by kernel_rfl
theorem ag56 : aggP Tryz.prog 56 = some true := by kernel_rfl
theorem ag58 : aggP Tryz.prog 58 = some true := by kernel_rfl
theorem ag59 : aggP Tryz.prog 59 = some false := by kernel_rfl
theorem ag77 : aggP Tryz.prog 77 = some true := by kernel_rfl
theorem ag80 : aggP Tryz.prog 80 = some true := by kernel_rfl
theorem ag81 : aggP Tryz.prog 81 = some false := by kernel_rfl
theorem ag82 : aggP Tryz.prog 82 = some false := by kernel_rfl
theorem ag84 : aggP Tryz.prog 84 = some true := by kernel_rfl
theorem ag86 : aggP Tryz.prog 86 = some true := by kernel_rfl
theorem ag90 : aggP Tryz.prog 90 = some false := by kernel_rfl
theorem ag93 : aggP Tryz.prog 93 = some true := by kernel_rfl
theorem ag94 : aggP Tryz.prog 94 = some false := by kernel_rfl
theorem ag96 : aggP Tryz.prog 96 = some true := by kernel_rfl
theorem ag100 : aggP Tryz.prog 100 = some true := by kernel_rfl
theorem ag111 : aggP Tryz.prog 111 = some true := by kernel_rfl
theorem ag123 : aggP Tryz.prog 123 = some true := by kernel_rfl
theorem ag149 : aggP Tryz.prog 149 = some true := by kernel_rfl
theorem ag156 : aggP Tryz.prog 156 = some false := by kernel_rfl
theorem ag177 : aggP Tryz.prog 177 = some true := by kernel_rfl
theorem ag201 : aggP Tryz.prog 201 = some true := by kernel_rfl
theorem ag234 : aggP Tryz.prog 234 = some false := by kernel_rfl
theorem ag239 : aggP Tryz.prog 239 = some true := by kernel_rfl
theorem ag253 : aggP Tryz.prog 253 = some true := by kernel_rfl
theorem zr3 : zerosOf Tryz.prog 3 = some [(.int .i64 0)] := by kernel_rfl
theorem zr4 : zerosOf Tryz.prog 4 = some [(.bool false)] := by kernel_rfl
theorem zr5 : zerosOf Tryz.prog 5 = some [(.int .u8 0)] := by kernel_rfl
theorem zr9 : zerosOf Tryz.prog 9 = some [(.string ⟨#[]⟩)] := by kernel_rfl
theorem zr26 : zerosOf Tryz.prog 26 = some [(.int .i64 0), (.int .i64 0), (.int .i64 0), (.int .i64 0), (.int .i64 0), (.int .i64 0), (.int .i64 0), (.int .i64 0)] := by kernel_rfl
theorem zr29 : zerosOf Tryz.prog 29 = some [(.slice none 0 0)] := by kernel_rfl
theorem zr31 : zerosOf Tryz.prog 31 = some [(.int .i64 0), (.slice none 0 0)] := by kernel_rfl
theorem zr36 : zerosOf Tryz.prog 36 = some [(.int .i64 0), (.slice none 0 0), (.slice none 0 0)] := by kernel_rfl
theorem zr38 : zerosOf Tryz.prog 38 = some [(.slice none 0 0), (.slice none 0 0), (.int .i64 0), (.int .i64 0), (.slice none 0 0), (.int .i64 0), (.slice none 0 0), (.slice none 0 0), (.int .i64 0), (.int .i64 0), (.int .i64 0)] := by kernel_rfl
theorem zr43 : zerosOf Tryz.prog 43 = some [(.int .i64 0), (.int .i64 0), (.int .i64 0), (.int .i64 0), (.int .i64 0), (.int .i64 0), (.int .i64 0), (.int .i64 0), (.slice none 0 0), (.slice none 0 0), (.int .i64 0), (.int .i64 0), (.slice none 0 0), (.int .i64 0), (.slice none 0 0), (.slice none 0 0), (.int .i64 0), (.int .i64 0), (.int .i64 0), (.slice none 0 0), (.slice none 0 0), (.int .i64 0), (.slice none 0 0)] := by kernel_rfl
theorem zr50 : zerosOf Tryz.prog 50 = some [(.slice none 0 0), (.int .i64 0), (.int .i64 0), (.int .i64 0), (.int .i64 0)] := by kernel_rfl
theorem zr52 : zerosOf Tryz.prog 52 = some [(.int .i64 0), (.int .i64 0), (.int .i64 0), (.int .i64 0)] := by kernel_rfl
theorem zr56 : zerosOf Tryz.prog 56 = some [(.slice none 0 0), (.int .i64 0), (.slice none 0 0), (.slice none 0 0), (.slice none 0 0), (.slice none 0 0)] := by kernel_rfl
theorem zr58 : zerosOf Tryz.prog 58 = some [(.int .i64 0), (.int .i64 0), (.slice none 0 0), (.int .i64 0), (.int .i64 0), (.int .i64 0), (.int .i64 0), (.int .i64 0), (.int .i64 0), (.int .i64 0), (.int .i64 0), (.slice none 0 0), (.int .i64 0), (.slice none 0 0), (.slice none 0 0), (.int .i64 0), (.slice none 0 0), (.slice none 0 0), (.slice none 0 0), (.int .i64 0), (.slice none 0 0), (.slice none 0 0), (.slice none 0 0), (.slice none 0 0), (.int .i64 0), (.slice none 0 0)] := by kernel_rfl
theorem zr77 : zerosOf Tryz.prog 77 = some [(.int .i64 0), (.int .i64 0), (.int .i64 0), (.int .i64 0)] := by kernel_rfl
theorem zr80 : zerosOf Tryz.prog 80 = some [(.slice none 0 0), (.int .i64 0), (.int .i64 0)] := by kernel_rfl
theorem zr84 : zerosOf Tryz.prog 84 = some [(.slice none 0 0), (.slice none 0 0)] := by kernel_rfl
theorem zr86 : zerosOf Tryz.prog 86 = some [(.bool false), (.int .i64 0), (.int .i64 0), (.slice none 0 0), (.int .i64 0), (.int .i64 0), (.slice none 0 0), (.slice none 0 0)] := by kernel_rfl
theorem zr88 : zerosOf Tryz.prog 88 = some [(.int .i64 0), (.bool false), (.int .i64 0), (.int .i64 0), (.slice none 0 0), (.int .i64 0), (.int .i64 0), (.slice none 0 0), (.slice none 0 0)] := by kernel_rfl
theorem zr91 : zerosOf Tryz.prog 91 = some [(.slice none 0 0)] := by kernel_rfl
theorem zr93 : zerosOf Tryz.prog 93 = some [(.int .i64 0), (.int .i64 0), (.int .i64 0), (.int .i64 0), (.int .i64 0), (.int .i64 0), (.slice none 0 0), (.slice none 0 0)] := by kernel_rfl
theorem zr96 : zerosOf Tryz.prog 96 = some [(.int .i64 0), (.int .i64 0)] := by kernel_rfl
theorem zr100 : zerosOf Tryz.prog 100 = some [(.int .i64 0), (.int .i64 0), (.int .i64 0), (.int .i64 0), (.int .i64 0), (.int .i64 0), (.int .i64 0), (.slice none 0 0), (.slice none 0 0), (.int .i64 0), (.bool false), (.int .i64 0), (.int .i64 0), (.int .i64 0), (.slice none 0 0), (.int .i64 0), (.int .i64 0), (.int .i64 0), (.int .i64 0), (.int .i64 0), (.int .i64 0), (.int .i64 0), (.int .i64 0), (.int .i64 0), (.int .i64 0), (.slice none 0 0), (.int .i64 0), (.int .i64 0), (.int .i64 0), (.int .i64 0), (.int .i64 0), (.int .i64 0), (.int .i64 0), (.int .i64 0), (.slice none 0 0), (.int .i64 0), (.slice none 0 0), (.slice none 0 0), (.int .i64 0), (.slice none 0 0), (.slice none 0 0), (.slice none 0 0), (.int .i64 0), (.slice none 0 0), (.slice none 0 0), (.slice none 0 0), (.slice none 0 0), (.int .i64 0), (.slice none 0 0), (.int .i64 0), (.slice none 0 0), (.slice none 0 0), (.int .i64 0), (.int .i64 0), (.int .i64 0), (.int .i64 0), (.int .i64 0), (.int .i64 0), (.int .i64 0), (.int .i64 0), (.int .i64 0), (.slice none 0 0), (.slice none 0 0)] := by kernel_rfl
theorem zr111 : zerosOf Tryz.prog 111 = some [(.int .i64 0), (.int .i64 0), (.slice none 0 0), (.slice none 0 0), (.int .i64 0), (.int .i64 0), (.int .i64 0)] := by kernel_rfl
theorem zr123 : zerosOf Tryz.prog 123 = some [(.int .i64 0), (.int .i64 0), (.int .i64 0), (.int .i64 0), (.int .i64 0), (.int .i64 0), (.string ⟨#[]⟩)] := by kernel_rfl
theorem zr149 : zerosOf Tryz.prog 149 = some [(.int .i64 0), (.int .i64 0), (.int .i64 0)] := by kernel_rfl
theorem zr158 : zerosOf Tryz.prog 158 = some [(.slice none 0 0), (.slice none 0 0), (.int .i64 0), (.int .i64 0), (.slice none 0 0), (.int .i64 0), (.slice none 0 0), (.slice none 0 0), (.int .i64 0), (.int .i64 0), (.int .i64 0), (.int .i64 0), (.int .i64 0), (.slice none 0 0), (.int .i64 0), (.int .i64 0), (.int .i64 0), (.int .i64 0), (.int .i64 0), (.int .i64 0), (.int .i64 0), (.int .i64 0), (.slice none 0 0), (.int .i64 0), (.slice none 0 0), (.slice none 0 0), (.int .i64 0), (.slice none 0 0), (.slice none 0 0), (.slice none 0 0), (.int .i64 0), (.slice none 0 0), (.slice none 0 0), (.slice none 0 0), (.slice none 0 0), (.int .i64 0), (.slice none 0 0), (.int .i64 0), (.int .i64 0)] := by kernel_rfl
theorem zr177 : zerosOf Tryz.prog 177 = some [(.int .i64 0), (.int .i64 0), (.int .i64 0), (.int .i64 0), (.int .i64 0), (.int .i64 0), (.int .i64 0), (.slice none 0 0), (.int .i64 0), (.int .i64 0)] := by kernel_rfl
theorem zr201 : zerosOf Tryz.prog 201 = some [(.int .i64 0), (.int .i64 0), (.int .i64 0), (.int .i64 0)] := by kernel_rfl
theorem zr220 : zerosOf Tryz.prog 220 = some [(.bool false), (.int .i64 0), (.int .i64 0), (.slice none 0 0), (.int .i64 0), (.int .i64 0), (.slice none 0 0), (.slice none 0 0), (.bool false), (.int .i64 0), (.int .i64 0), (.slice none 0 0), (.int .i64 0), (.int .i64 0), (.slice none 0 0), (.slice none 0 0)] := by kernel_rfl
theorem zr233 : zerosOf Tryz.prog 233 = some [(.int .i64 0), (.int .i64 0), (.int .i64 0), (.int .i64 0)] := by kernel_rfl
theorem zr234 : zerosOf Tryz.prog 234 = some [.nilFunc] := by kernel_rfl
theorem zr239 : zerosOf Tryz.prog 239 = some [(.int .i64 0), (.int .i64 0), (.int .i64 0), (.int .i64 0), (.int .i64 0), (.int .i64 0), (.string ⟨#[]⟩), (.int .i64 0)] := by kernel_rfl
theorem zr253 : zerosOf Tryz.prog 253 = some [(.int .i64 0), (.int .i64 0)] := by kernel_rfl
theorem zr327 : zerosOf Tryz.prog 327 = some [(.int .i64 0), (.int .i64 0), (.int .i64 0), (.int .i64 0)] := by kernel_rfl
theorem by3 : bytesP Tryz.prog 3 = some 8 := by kernel_rfl
theorem by5 : bytesP Tryz.prog 5 = some 1 := by kernel_rfl
theorem by77 : bytesP Tryz.prog 77 = some 32 := by kernel_rfl
theorem by86 : bytesP Tryz.prog 86 = some 112 := by kernel_rfl
theorem by88 : bytesP Tryz.prog 88 = some 120 := by kernel_rfl
theorem by91 : bytesP Tryz.prog 91 = some 24 := by kernel_rfl
theorem by100 : bytesP Tryz.prog 100 = some 808 := by kernel_rfl
theorem by111 : bytesP Tryz.prog 111 = some 88 := by kernel_rfl
theorem by123 : bytesP Tryz.prog 123 = some 64 := by kernel_rfl
theorem by149 : bytesP Tryz.prog 149 = some 24 := by kernel_rfl
theorem by177 : bytesP Tryz.prog 177 = some 96 := by kernel_rfl
theorem by239 : bytesP Tryz.prog 239 = some 72 := by kernel_rfl
theorem by253 : bytesP Tryz.prog 253 = some 16 := by kernel_rfl
theorem zv4 : zeroVal Tryz.prog 4 = some (.bool false) := by kernel_rfl
theorem zv159 : zeroVal Tryz.prog 159 = some .nilFunc := by kernel_rfl
theorem sh123 : Tryz.prog.stoodInHeld 123 = false := by kernel_rfl
theorem eg123 : Tryz.prog.eqGuardType Tryz.prog.depth 123 = false := by kernel_rfl

/-- A function's code as the machine takes it. -/
abbrev SC (c : Code) := {s : SCode // stripCode Tryz.prog c = some s}
def SC.mk' {c : Code} {s : SCode} (h : stripCode Tryz.prog c = some s) : SC c := ⟨s, h⟩
theorem mixedP : Tryz.prog.follows .mixedOrders = true := by kernel_rfl
theorem SC.okM {f : FuncId} {fn : Func} {c : Code} (x : SC c) {F : Fun} (h0 : F.sc = x.1) (h1 : Tryz.prog.funcs[f]? = some fn) (h3 : fn.body = some c) (h2 : (fn.name == "runtime.NumGoroutine") = false := by kernel_rfl) (h4 : resOf Tryz.prog fn.results.toList = some F.res := by kernel_rfl)
    (h5 : Nat.ble fn.results.toList.length 5 = true := by kernel_rfl) (h6 : Nat.ble F.na fn.ntmps = true := by kernel_rfl) (h7 : okC fn.ntmps F.PV F.FL F.sc = true := by kernel_rfl) : FnM Tryz.prog f F :=
  ⟨⟨fn, c, h1, h2, h3, by rw [h0]; exact x.2, h4, Nat.le_of_ble_eq_true h5, Nat.le_of_ble_eq_true h6, h7⟩, mixedP⟩
/-- A table: what it answers is shown. -/
inductive Tb where
  | leaf (n : Nat) (F : Fun) (h : FnM Tryz.prog n F)
  | node (m : Nat) (l r : Tb)
noncomputable def Tb.get (t : Tb) : Nat → Option Fun := @Tb.rec (fun _ => Nat → Option Fun) (fun n F _ f => cnd (Nat.beq f n) (some F) none) (fun m _ _ l r f => cnd (Nat.blt f m) (l f) (r f)) t
theorem Tb.ok : ∀ (t : Tb) (g : Nat) (F : Fun), t.get g = some F → FnM Tryz.prog g F
  | .leaf n F h, g, F', e => by
    have e' : cnd (Nat.beq g n) (some F) none = some F' := e
    cases hb : Nat.beq g n with
    | false => rw [hb] at e'; cases e'
    | true =>
      rw [hb] at e'
      cases e'
      rw [beqT hb]; exact h
  | .node m l r, g, F', e => by
    have e' : cnd (Nat.blt g m) (l.get g) (r.get g) = some F' := e
    cases hb : Nat.blt g m with
    | false => rw [hb] at e'; exact Tb.ok r g F' e'
    | true => rw [hb] at e'; exact Tb.ok l g F' e'
attribute [go_sem] stripCode stripOps stripOper strip stripParts kindsOf Option.bind List.filterMap reduceIte Bool.false_eq_true Bool.and_true Bool.and_self Bool.true_and and_self and_true true_and List.all List.map List.isEmpty Option.isSome ne_eq not_false_eq_true not_true_eq_false reduceCtorEq String.reduceEq String.reduceNe List.length_cons List.length_nil Nat.reduceAdd Nat.reduceMul Nat.reduceLT Nat.reduceLeDiff Nat.zero_add Value.oneCell' Nat.reduceEqDiff Option.getD List.getElem?_toArray List.getElem?_cons_zero List.getElem?_cons_succ List.size_toArray if_true if_false List.any Array.size decide_true decide_false Tryz.underlying3 Tryz.underlying4 Tryz.underlying5 Tryz.underlying9 Tryz.underlying22 Tryz.underlying26 Tryz.underlying27 Tryz.underlying28 Tryz.underlying29 Tryz.underlying31 Tryz.underlying33 Tryz.underlying34 Tryz.underlying36 Tryz.underlying38 Tryz.underlying39 Tryz.underlying40 Tryz.underlying41 Tryz.underlying43 Tryz.underlying50 Tryz.underlying52 Tryz.underlying53 Tryz.underlying54 Tryz.underlying56 Tryz.underlying58 Tryz.underlying59 Tryz.underlying77 Tryz.underlying80 Tryz.underlying81 Tryz.underlying82 Tryz.underlying84 Tryz.underlying86 Tryz.underlying88 Tryz.underlying90 Tryz.underlying91 Tryz.underlying93 Tryz.underlying94 Tryz.underlying96 Tryz.underlying100 Tryz.underlying111 Tryz.underlying120 Tryz.underlying123 Tryz.underlying149 Tryz.underlying158 Tryz.underlying175 Tryz.underlying177 Tryz.underlying201 Tryz.underlying214 Tryz.underlying220 Tryz.underlying233 Tryz.underlying239 Tryz.underlying253 Tryz.underlying293 Tryz.underlying327 Tryz.underlying348 Tryz.underlying352 Tryz.underlying367 sz3 sz4 sz5 sz9 sz22 sz26 sz27 sz28 sz29 sz31 sz33 sz34 sz36 sz38 sz39 sz40 sz41 sz43 sz50 sz52 sz53 sz54 sz56 sz58 sz59 sz77 sz80 sz81 sz82 sz84 sz86 sz88 sz90 sz91 sz93 sz94 sz96 sz98 sz100 sz111 sz123 sz149 sz156 sz175 sz177 sz201 sz233 sz234 sz239 sz253 ag3 ag4 ag5 ag9 ag22 ag26 ag27 ag28 ag29 ag31 ag34 ag36 ag38 ag39 ag40 ag41 ag43 ag50 ag52 ag53 ag54 ag56 ag58 ag59 ag77 ag80 ag81 ag82 ag84 ag86 ag90 ag93 ag94 ag96 ag100 ag111 ag123 ag149 ag156 ag177 ag201 ag234 ag239 ag253 zr3 zr4 zr5 zr9 zr26 zr29 zr31 zr36 zr38 zr43 zr50 zr52 zr56 zr58 zr77 zr80 zr84 zr86 zr88 zr91 zr93 zr96 zr100 zr111 zr123 zr149 zr158 zr177 zr201 zr220 zr233 zr234 zr239 zr253 zr327 by3 by5 by77 by86 by88 by91 by100 by111 by123 by149 by177 by239 by253 zv4 zv159 sh123 eg123
end Go.M
