/-
  Facts on the types that the functions name.
  No condition: definitions and lemmas.
-/
import Derived.Test.YtgnhijkjlebcmaaGreatMemFS
import Derived.Test.YtgnhijkjlebcmaaGreatProg
set_option linter.all false
set_option maxRecDepth 100000
set_option maxHeartbeats 4000000
namespace Go.M
open Go Go.Proofs
open Go.Eng (SOp SOper SCode sizeP aggP zerosOf bytesP zeroVal stripCode stripOps stripOper strip stripParts kindsOf kinds2)
theorem sz3 : sizeP Tryz.prog 3 = some 1 := by kernel_rfl
theorem sz4 : sizeP Tryz.prog 4 = some 1 := by kernel_rfl
theorem sz5 : sizeP Tryz.prog 5 = some 1 := by kernel_rfl
theorem sz9 : sizeP Tryz.prog 9 = some 1 := by kernel_rfl
theorem sz22 : sizeP Tryz.prog 22 = some 1 := by kernel_rfl
theorem sz26 : sizeP Tryz.prog 26 = some 8 := by kernel_rfl
theorem sz27 : sizeP Tryz.prog 27 = some 1 := by kernel_rfl
theorem sz28 : sizeP Tryz.prog 28 = some 1 := by kernel_rfl
theorem sz29 : sizeP Tryz.prog 29 = some 1 := by kernel_rfl
theorem sz31 : sizeP Tryz.prog 31 = some 2 := by kernel_rfl
theorem sz33 : sizeP Tryz.prog 33 = some 3 := by kernel_rfl
theorem sz34 : sizeP Tryz.prog 34 = some 1 := by kernel_rfl
theorem sz36 : sizeP Tryz.prog 36 = some 3 := by kernel_rfl
theorem sz38 : sizeP Tryz.prog 38 = some 11 := by kernel_rfl
theorem sz39 : sizeP Tryz.prog 39 = some 1 := by kernel_rfl
theorem sz40 : sizeP Tryz.prog 40 = some 1 := by kernel_rfl
theorem sz41 : sizeP Tryz.prog 41 = some 1 := by kernel_rfl
theorem sz43 : sizeP Tryz.prog 43 = some 23 := by kernel_rfl
theorem sz44 : sizeP Tryz.prog 44 = some 1 := by kernel_rfl
theorem sz50 : sizeP Tryz.prog 50 = some 1 := by kernel_rfl
theorem sz52 : sizeP Tryz.prog 52 = some 8 := by kernel_rfl
theorem sz54 : sizeP Tryz.prog 54 = some 1 := by kernel_rfl
theorem sz58 : sizeP Tryz.prog 58 = some 7 := by kernel_rfl
theorem sz61 : sizeP Tryz.prog 61 = some 5 := by kernel_rfl
theorem sz63 : sizeP Tryz.prog 63 = some 4 := by kernel_rfl
theorem sz64 : sizeP Tryz.prog 64 = some 1 := by kernel_rfl
theorem sz65 : sizeP Tryz.prog 65 = some 1 := by kernel_rfl
theorem sz67 : sizeP Tryz.prog 67 = some 6 := by kernel_rfl
theorem sz69 : sizeP Tryz.prog 69 = some 26 := by kernel_rfl
theorem sz71 : sizeP Tryz.prog 71 = some 2 := by kernel_rfl
theorem sz73 : sizeP Tryz.prog 73 = some 4 := by kernel_rfl
theorem sz75 : sizeP Tryz.prog 75 = some 63 := by kernel_rfl
theorem sz88 : sizeP Tryz.prog 88 = some 1 := by kernel_rfl
theorem sz92 : sizeP Tryz.prog 92 = some 1 := by kernel_rfl
theorem sz94 : sizeP Tryz.prog 94 = some 10 := by kernel_rfl
theorem sz96 : sizeP Tryz.prog 96 = some 4 := by kernel_rfl
theorem sz99 : sizeP Tryz.prog 99 = some 3 := by kernel_rfl
theorem sz100 : sizeP Tryz.prog 100 = some 1 := by kernel_rfl
theorem sz101 : sizeP Tryz.prog 101 = some 1 := by kernel_rfl
theorem sz103 : sizeP Tryz.prog 103 = some 2 := by kernel_rfl
theorem sz105 : sizeP Tryz.prog 105 = some 8 := by kernel_rfl
theorem sz107 : sizeP Tryz.prog 107 = some 9 := by kernel_rfl
theorem sz119 : sizeP Tryz.prog 119 = some 3 := by kernel_rfl
theorem sz150 : sizeP Tryz.prog 150 = some 4 := by kernel_rfl
theorem sz186 : sizeP Tryz.prog 186 = some 1 := by kernel_rfl
theorem sz197 : sizeP Tryz.prog 197 = some 4 := by kernel_rfl
theorem sz202 : sizeP Tryz.prog 202 = some 7 := by kernel_rfl
theorem sz213 : sizeP Tryz.prog 213 = some 8 := by kernel_rfl
theorem sz215 : sizeP Tryz.prog 215 = some 2 := by kernel_rfl
theorem sz316 : sizeP Tryz.prog 316 = some 1 := by kernel_rfl
theorem ag3 : aggP Tryz.prog 3 = some false := by kernel_rfl
theorem ag4 : aggP Tryz.prog 4 = some false := by kernel_rfl
theorem ag5 : aggP Tryz.prog 5 = some false := by kernel_rfl
theorem ag9 : aggP Tryz.prog 9 = some false := by kernel_rfl
theorem ag22 : aggP Tryz.prog 22 = some false := by kernel_rfl
theorem ag26 : aggP Tryz.prog 26 = some true := by kernel_rfl
theorem ag27 : aggP Tryz.prog 27 = some false := by kernel_rfl
theorem ag28 : aggP Tryz.prog 28 = some false := by kernel_rfl
theorem ag29 : aggP Tryz.prog 29 = some false := by kernel_rfl
theorem ag31 : aggP Tryz.prog 31 = some true := by kernel_rfl
theorem ag34 : aggP Tryz.prog 34 = some false := by kernel_rfl
theorem ag36 : aggP Tryz.prog 36 = some true := by kernel_rfl
theorem ag38 : aggP Tryz.prog 38 = some true := by kernel_rfl
theorem ag39 : aggP Tryz.prog 39 = some false := by kernel_rfl
theorem ag40 : aggP Tryz.prog 40 = some false := by kernel_rfl
theorem ag41 : aggP Tryz.prog 41 = some false := by kernel_rfl
theorem ag43 : aggP Tryz.prog 43 = some true := by kernel_rfl
theorem ag44 : aggP Tryz.prog 44 = some false := by kernel_rfl
theorem ag50 : aggP Tryz.prog 50 = some false := by kernel_rfl
theorem ag52 : aggP Tryz.prog 52 = some true := by kernel_rfl
theorem ag54 : aggP Tryz.prog 54 = some false := by kernel_rfl
theorem ag58 : aggP Tryz.prog 58 = some true := by kernel_rfl
theorem ag61 : aggP Tryz.prog 61 = some true := by kernel_rfl
theorem ag63 : aggP Tryz.prog 63 = some true := by kernel_rfl
theorem ag64 : aggP Tryz.prog 64 = some false := by kernel_rfl
theorem ag65 : aggP Tryz.prog 65 = some false := by kernel_rfl
theorem ag67 : aggP Tryz.prog 67 = some true := by kernel_rfl
theorem ag69 : aggP Tryz.prog 69 = some true := by kernel_rfl
theorem ag71 : aggP Tryz.prog 71 = some true := by kernel_rfl
theorem ag73 : aggP Tryz.prog 73 = some true := by kernel_rfl
theorem ag75 : aggP Tryz.prog 75 = some true := by kernel_rfl
theorem ag88 : aggP Tryz.prog 88 = some false := by kernel_rfl
theorem ag92 : aggP Tryz.prog 92 = some false := by kernel_rfl
theorem ag94 : aggP Tryz.prog 94 = some true := by kernel_rfl
theorem ag96 : aggP Tryz.prog 96 = some true := by kernel_rfl
theorem ag99 : aggP Tryz.prog 99 = some true := by kernel_rfl
theorem ag100 : aggP Tryz.prog 100 = some false := by kernel_rfl
theorem ag101 : aggP Tryz.prog 101 = some false := by kernel_rfl
theorem ag103 : aggP Tryz.prog 103 = some true := by kernel_rfl
theorem ag105 : aggP Tryz.prog 105 = some true := by kernel_rfl
theorem ag119 : aggP Tryz.prog 119 = some true := by kernel_rfl
theorem ag150 : aggP Tryz.prog 150 = some true := by kernel_rfl
theorem ag186 : aggP Tryz.prog 186 = some false := by kernel_rfl
theorem ag197 : aggP Tryz.prog 197 = some true := by kernel_rfl
theorem ag202 : aggP Tryz.prog 202 = some true := by kernel_rfl
theorem ag213 : aggP Tryz.prog 213 = some true := by kernel_rfl
theorem ag215 : aggP Tryz.prog 215 = some true := by kernel_rfl
theorem ag316 : aggP Tryz.prog 316 = some false := by kernel_rfl
theorem zr3 : zerosOf Tryz.prog 3 = some [(.int .i64 0)] := by kernel_rfl
theorem zr4 : zerosOf Tryz.prog 4 = some [(.bool false)] := by kernel_rfl
theorem zr5 : zerosOf Tryz.prog 5 = some [(.int .u8 0)] := by kernel_rfl
theorem zr9 : zerosOf Tryz.prog 9 = some [(.string ⟨#[]⟩)] := by kernel_rfl
theorem zr26 : zerosOf Tryz.prog 26 = some [(.int .i64 0), (.int .i64 0), (.int .i64 0), (.int .i64 0), (.int .i64 0), (.int .i64 0), (.int .i64 0), (.int .i64 0)] := by kernel_rfl
theorem zr31 : zerosOf Tryz.prog 31 = some [(.int .i64 0), (.slice none 0 0)] := by kernel_rfl
theorem zr36 : zerosOf Tryz.prog 36 = some [(.int .i64 0), (.slice none 0 0), (.slice none 0 0)] := by kernel_rfl
theorem zr38 : zerosOf Tryz.prog 38 = some [(.slice none 0 0), (.slice none 0 0), (.int .i64 0), (.int .i64 0), (.slice none 0 0), (.int .i64 0), (.slice none 0 0), (.slice none 0 0), (.int .i64 0), (.int .i64 0), (.int .i64 0)] := by kernel_rfl
theorem zr43 : zerosOf Tryz.prog 43 = some [(.int .i64 0), (.int .i64 0), (.int .i64 0), (.int .i64 0), (.int .i64 0), (.int .i64 0), (.int .i64 0), (.int .i64 0), (.slice none 0 0), (.slice none 0 0), (.int .i64 0), (.int .i64 0), (.slice none 0 0), (.int .i64 0), (.slice none 0 0), (.slice none 0 0), (.int .i64 0), (.int .i64 0), (.int .i64 0), (.slice none 0 0), (.slice none 0 0), (.int .i64 0), (.slice none 0 0)] := by kernel_rfl
theorem zr52 : zerosOf Tryz.prog 52 = some [(.int .i64 0), (.int .i64 0), (.int .i64 0), (.int .i64 0), (.int .i64 0), (.int .i64 0), (.slice none 0 0), (.slice none 0 0)] := by kernel_rfl
theorem zr58 : zerosOf Tryz.prog 58 = some [(.int .i64 0), (.int .i64 0), (.slice none 0 0), (.slice none 0 0), (.int .i64 0), (.int .i64 0), (.int .i64 0)] := by kernel_rfl
theorem zr61 : zerosOf Tryz.prog 61 = some [(.slice none 0 0), (.int .i64 0), (.int .i64 0), (.int .i64 0), (.int .i64 0)] := by kernel_rfl
theorem zr63 : zerosOf Tryz.prog 63 = some [(.int .i64 0), (.int .i64 0), (.int .i64 0), (.int .i64 0)] := by kernel_rfl
theorem zr67 : zerosOf Tryz.prog 67 = some [(.slice none 0 0), (.int .i64 0), (.slice none 0 0), (.slice none 0 0), (.slice none 0 0), (.slice none 0 0)] := by kernel_rfl
theorem zr69 : zerosOf Tryz.prog 69 = some [(.int .i64 0), (.int .i64 0), (.slice none 0 0), (.int .i64 0), (.int .i64 0), (.int .i64 0), (.int .i64 0), (.int .i64 0), (.int .i64 0), (.int .i64 0), (.int .i64 0), (.slice none 0 0), (.int .i64 0), (.slice none 0 0), (.slice none 0 0), (.int .i64 0), (.slice none 0 0), (.slice none 0 0), (.slice none 0 0), (.int .i64 0), (.slice none 0 0), (.slice none 0 0), (.slice none 0 0), (.slice none 0 0), (.int .i64 0), (.slice none 0 0)] := by kernel_rfl
theorem zr71 : zerosOf Tryz.prog 71 = some [(.int .i64 0), (.int .i64 0)] := by kernel_rfl
theorem zr73 : zerosOf Tryz.prog 73 = some [(.int .i64 0), (.int .i64 0), (.int .i64 0), (.int .i64 0)] := by kernel_rfl
theorem zr75 : zerosOf Tryz.prog 75 = some [(.int .i64 0), (.int .i64 0), (.int .i64 0), (.int .i64 0), (.int .i64 0), (.int .i64 0), (.int .i64 0), (.slice none 0 0), (.slice none 0 0), (.int .i64 0), (.bool false), (.int .i64 0), (.int .i64 0), (.int .i64 0), (.slice none 0 0), (.int .i64 0), (.int .i64 0), (.int .i64 0), (.int .i64 0), (.int .i64 0), (.int .i64 0), (.int .i64 0), (.int .i64 0), (.int .i64 0), (.int .i64 0), (.slice none 0 0), (.int .i64 0), (.int .i64 0), (.int .i64 0), (.int .i64 0), (.int .i64 0), (.int .i64 0), (.int .i64 0), (.int .i64 0), (.slice none 0 0), (.int .i64 0), (.slice none 0 0), (.slice none 0 0), (.int .i64 0), (.slice none 0 0), (.slice none 0 0), (.slice none 0 0), (.int .i64 0), (.slice none 0 0), (.slice none 0 0), (.slice none 0 0), (.slice none 0 0), (.int .i64 0), (.slice none 0 0), (.int .i64 0), (.slice none 0 0), (.slice none 0 0), (.int .i64 0), (.int .i64 0), (.int .i64 0), (.int .i64 0), (.int .i64 0), (.int .i64 0), (.int .i64 0), (.int .i64 0), (.int .i64 0), (.slice none 0 0), (.slice none 0 0)] := by kernel_rfl
theorem zr88 : zerosOf Tryz.prog 88 = some [(.slice none 0 0)] := by kernel_rfl
theorem zr94 : zerosOf Tryz.prog 94 = some [(.int .i64 0), (.int .i64 0), (.int .i64 0), (.int .i64 0), (.int .i64 0), (.int .i64 0), (.int .i64 0), (.slice none 0 0), (.int .i64 0), (.int .i64 0)] := by kernel_rfl
theorem zr96 : zerosOf Tryz.prog 96 = some [(.int .i64 0), (.int .i64 0), (.int .i64 0), (.int .i64 0)] := by kernel_rfl
theorem zr99 : zerosOf Tryz.prog 99 = some [(.slice none 0 0), (.int .i64 0), (.int .i64 0)] := by kernel_rfl
theorem zr103 : zerosOf Tryz.prog 103 = some [(.slice none 0 0), (.slice none 0 0)] := by kernel_rfl
theorem zr105 : zerosOf Tryz.prog 105 = some [(.bool false), (.int .i64 0), (.int .i64 0), (.slice none 0 0), (.int .i64 0), (.int .i64 0), (.slice none 0 0), (.slice none 0 0)] := by kernel_rfl
theorem zr107 : zerosOf Tryz.prog 107 = some [(.int .i64 0), (.bool false), (.int .i64 0), (.int .i64 0), (.slice none 0 0), (.int .i64 0), (.int .i64 0), (.slice none 0 0), (.slice none 0 0)] := by kernel_rfl
theorem zr119 : zerosOf Tryz.prog 119 = some [(.int .i64 0), (.int .i64 0), (.int .i64 0)] := by kernel_rfl
theorem zr150 : zerosOf Tryz.prog 150 = some [(.int .i64 0), (.int .i64 0), (.int .i64 0), (.int .i64 0)] := by kernel_rfl
theorem zr188 : zerosOf Tryz.prog 188 = some [(.slice none 0 0), (.slice none 0 0), (.int .i64 0), (.int .i64 0), (.slice none 0 0), (.int .i64 0), (.slice none 0 0), (.slice none 0 0), (.int .i64 0), (.int .i64 0), (.int .i64 0), (.int .i64 0), (.int .i64 0), (.slice none 0 0), (.int .i64 0), (.int .i64 0), (.int .i64 0), (.int .i64 0), (.int .i64 0), (.int .i64 0), (.int .i64 0), (.int .i64 0), (.slice none 0 0), (.int .i64 0), (.slice none 0 0), (.slice none 0 0), (.int .i64 0), (.slice none 0 0), (.slice none 0 0), (.slice none 0 0), (.int .i64 0), (.slice none 0 0), (.slice none 0 0), (.slice none 0 0), (.slice none 0 0), (.int .i64 0), (.slice none 0 0), (.int .i64 0), (.int .i64 0)] := by kernel_rfl
theorem zr192 : zerosOf Tryz.prog 192 = some [(.bool false), (.int .i64 0), (.int .i64 0), (.slice none 0 0), (.int .i64 0), (.int .i64 0), (.slice none 0 0), (.slice none 0 0), (.bool false), (.int .i64 0), (.int .i64 0), (.slice none 0 0), (.int .i64 0), (.int .i64 0), (.slice none 0 0), (.slice none 0 0)] := by kernel_rfl
theorem zr197 : zerosOf Tryz.prog 197 = some [(.int .i64 0), (.int .i64 0), (.int .i64 0), (.int .i64 0)] := by kernel_rfl
theorem zr202 : zerosOf Tryz.prog 202 = some [(.int .i64 0), (.int .i64 0), (.int .i64 0), (.int .i64 0), (.int .i64 0), (.int .i64 0), (.string ⟨#[]⟩)] := by kernel_rfl
theorem zr213 : zerosOf Tryz.prog 213 = some [(.int .i64 0), (.int .i64 0), (.int .i64 0), (.int .i64 0), (.int .i64 0), (.int .i64 0), (.string ⟨#[]⟩), (.int .i64 0)] := by kernel_rfl
theorem zr215 : zerosOf Tryz.prog 215 = some [(.int .i64 0), (.int .i64 0)] := by kernel_rfl
theorem zr316 : zerosOf Tryz.prog 316 = some [.nilFunc] := by kernel_rfl
theorem zr354 : zerosOf Tryz.prog 354 = some [(.int .i64 0), (.int .i64 0), (.int .i64 0), (.int .i64 0)] := by kernel_rfl
theorem by3 : bytesP Tryz.prog 3 = some 8 := by kernel_rfl
theorem by5 : bytesP Tryz.prog 5 = some 1 := by kernel_rfl
theorem by9 : bytesP Tryz.prog 9 = some 16 := by kernel_rfl
theorem by58 : bytesP Tryz.prog 58 = some 88 := by kernel_rfl
theorem by75 : bytesP Tryz.prog 75 = some 808 := by kernel_rfl
theorem by88 : bytesP Tryz.prog 88 = some 24 := by kernel_rfl
theorem by94 : bytesP Tryz.prog 94 = some 96 := by kernel_rfl
theorem by96 : bytesP Tryz.prog 96 = some 32 := by kernel_rfl
theorem by105 : bytesP Tryz.prog 105 = some 112 := by kernel_rfl
theorem by107 : bytesP Tryz.prog 107 = some 120 := by kernel_rfl
theorem by119 : bytesP Tryz.prog 119 = some 24 := by kernel_rfl
theorem by150 : bytesP Tryz.prog 150 = some 32 := by kernel_rfl
theorem by202 : bytesP Tryz.prog 202 = some 64 := by kernel_rfl
theorem by213 : bytesP Tryz.prog 213 = some 72 := by kernel_rfl
theorem by215 : bytesP Tryz.prog 215 = some 16 := by kernel_rfl
theorem zv4 : zeroVal Tryz.prog 4 = some (.bool false) := by kernel_rfl
theorem zv189 : zeroVal Tryz.prog 189 = some .nilFunc := by kernel_rfl
theorem sh202 : Tryz.prog.stoodInHeld 202 = false := by kernel_rfl
theorem eg202 : Tryz.prog.eqGuardType Tryz.prog.depth 202 = false := by kernel_rfl
theorem sh215 : Tryz.prog.stoodInHeld 215 = false := by kernel_rfl
theorem eg215 : Tryz.prog.eqGuardType Tryz.prog.depth 215 = false := by kernel_rfl
abbrev SC (c : Code) := {s : SCode // stripCode Tryz.prog c = some s}
def SC.mk' {c : Code} {s : SCode} (h : stripCode Tryz.prog c = some s) : SC c := ⟨s, h⟩
theorem mixedP : Tryz.prog.follows .mixedOrders = true := by kernel_rfl
theorem SC.okM {f : FuncId} {fn : Func} {c : Code} (x : SC c) {F : Fun} (h0 : F.sc = x.1) (h1 : Tryz.prog.funcs[f]? = some fn) (h3 : fn.body = some c) (h2 : (fn.name == "runtime.NumGoroutine") = false := by kernel_rfl) (h4 : resOf Tryz.prog fn.results.toList = some F.res := by kernel_rfl)
    (h5 : Nat.ble fn.results.toList.length 5 = true := by kernel_rfl) (h6 : Nat.ble F.na fn.ntmps = true := by kernel_rfl) (h7 : okC fn.ntmps F.PV F.FL F.sc = true := by kernel_rfl) : FnM Tryz.prog f F :=
  ⟨⟨fn, c, h1, h2, h3, by rw [h0]; exact x.2, h4, Nat.le_of_ble_eq_true h5, Nat.le_of_ble_eq_true h6, h7⟩, mixedP⟩
inductive Tb where
  | leaf (n : Nat) (F : Fun) (h : FnM Tryz.prog n F)
  | node (m : Nat) (l r : Tb)
noncomputable def Tb.get (t : Tb) : Nat → Option Fun := @Tb.rec (fun _ => Nat → Option Fun) (fun n F _ f => cnd (Nat.beq f n) (some F) none) (fun m _ _ l r f => cnd (Nat.blt f m) (l f) (r f)) t
theorem Tb.ok : ∀ (t : Tb) (g : Nat) (F : Fun), t.get g = some F → FnM Tryz.prog g F
  | .leaf n F h, g, F', e => by
    have e' : cnd (Nat.beq g n) (some F) none = some F' := e
    cases hb : Nat.beq g n with
    | false => rw [hb] at e'; cases e'
    | true =>
      rw [hb] at e'
      cases e'
      rw [beqT hb]; exact h
  | .node m l r, g, F', e => by
    have e' : cnd (Nat.blt g m) (l.get g) (r.get g) = some F' := e
    cases hb : Nat.blt g m with
    | false => rw [hb] at e'; exact Tb.ok r g F' e'
    | true => rw [hb] at e'; exact Tb.ok l g F' e'
attribute [go_sem] stripCode stripOps stripOper strip stripParts kindsOf kinds2 Option.bind List.filterMap reduceIte Bool.false_eq_true Bool.and_true Bool.and_self Bool.true_and and_self and_true true_and List.all List.map List.isEmpty Option.isSome ne_eq not_false_eq_true not_true_eq_false reduceCtorEq String.reduceEq String.reduceNe List.length_cons List.length_nil Nat.reduceAdd Nat.reduceMul Nat.reduceLT Nat.reduceLeDiff Nat.zero_add Value.oneCell' Nat.reduceEqDiff Option.getD List.getElem?_toArray List.getElem?_cons_zero List.getElem?_cons_succ List.size_toArray if_true if_false List.any Array.size decide_true decide_false Tryz.underlying3 Tryz.underlying4 Tryz.underlying5 Tryz.underlying9 Tryz.underlying22 Tryz.underlying26 Tryz.underlying27 Tryz.underlying28 Tryz.underlying29 Tryz.underlying31 Tryz.underlying33 Tryz.underlying34 Tryz.underlying36 Tryz.underlying38 Tryz.underlying39 Tryz.underlying40 Tryz.underlying41 Tryz.underlying43 Tryz.underlying44 Tryz.underlying50 Tryz.underlying52 Tryz.underlying54 Tryz.underlying58 Tryz.underlying61 Tryz.underlying63 Tryz.underlying64 Tryz.underlying65 Tryz.underlying67 Tryz.underlying69 Tryz.underlying71 Tryz.underlying73 Tryz.underlying75 Tryz.underlying88 Tryz.underlying92 Tryz.underlying94 Tryz.underlying96 Tryz.underlying99 Tryz.underlying100 Tryz.underlying101 Tryz.underlying103 Tryz.underlying105 Tryz.underlying107 Tryz.underlying119 Tryz.underlying150 Tryz.underlying170 Tryz.underlying188 Tryz.underlying192 Tryz.underlying197 Tryz.underlying202 Tryz.underlying213 Tryz.underlying215 Tryz.underlying236 Tryz.underlying354 Tryz.underlying358 Tryz.underlying371 sz3 sz4 sz5 sz9 sz22 sz26 sz27 sz28 sz29 sz31 sz33 sz34 sz36 sz38 sz39 sz40 sz41 sz43 sz44 sz50 sz52 sz54 sz58 sz61 sz63 sz64 sz65 sz67 sz69 sz71 sz73 sz75 sz88 sz92 sz94 sz96 sz99 sz100 sz101 sz103 sz105 sz107 sz119 sz150 sz186 sz197 sz202 sz213 sz215 sz316 ag3 ag4 ag5 ag9 ag22 ag26 ag27 ag28 ag29 ag31 ag34 ag36 ag38 ag39 ag40 ag41 ag43 ag44 ag50 ag52 ag54 ag58 ag61 ag63 ag64 ag65 ag67 ag69 ag71 ag73 ag75 ag88 ag92 ag94 ag96 ag99 ag100 ag101 ag103 ag105 ag119 ag150 ag186 ag197 ag202 ag213 ag215 ag316 zr3 zr4 zr5 zr9 zr26 zr31 zr36 zr38 zr43 zr52 zr58 zr61 zr63 zr67 zr69 zr71 zr73 zr75 zr88 zr94 zr96 zr99 zr103 zr105 zr107 zr119 zr150 zr188 zr192 zr197 zr202 zr213 zr215 zr316 zr354 by3 by5 by9 by58 by75 by88 by94 by96 by105 by107 by119 by150 by202 by213 by215 zv4 zv189 sh202 eg202 sh215 eg215
end Go.M
