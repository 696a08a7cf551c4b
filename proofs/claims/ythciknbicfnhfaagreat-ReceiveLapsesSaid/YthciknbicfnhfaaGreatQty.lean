/-
  Facts on the types that the functions name.
  No condition: definitions and lemmas.
-/
import Derived.Test.YthciknbicfnhfaaGreatMemE
import Derived.Test.YthciknbicfnhfaaGreatProg
set_option linter.all false
set_option maxRecDepth 100000
set_option maxHeartbeats 4000000
namespace Go.M
open Go Go.Proofs
open Go.Eng (SOp SOper SCode sizeP aggP zerosOf bytesP zeroVal stripCode stripOps stripOper strip stripParts kindsOf)

theorem sz3 : sizeP Tryz.prog 3 = some 1 := by kernel_rfl
theorem sz4 : sizeP Tryz.prog 4 = some 1 := by kernel_rfl
theorem sz5 : sizeP Tryz.prog 5 = some 1 := by kernel_rfl
theorem sz9 : sizeP Tryz.prog 9 = some 1 := by kernel_rfl
theorem sz23 : sizeP Tryz.prog 23 = some 8 := by kernel_rfl
theorem sz25 : sizeP Tryz.prog 25 = some 1 := by kernel_rfl
theorem sz26 : sizeP Tryz.prog 26 = some 1 := by kernel_rfl
theorem sz27 : sizeP Tryz.prog 27 = some 1 := by kernel_rfl
theorem sz29 : sizeP Tryz.prog 29 = some 2 := by kernel_rfl
theorem sz31 : sizeP Tryz.prog 31 = some 3 := by kernel_rfl
theorem sz32 : sizeP Tryz.prog 32 = some 1 := by kernel_rfl
theorem sz33 : sizeP Tryz.prog 33 = some 1 := by kernel_rfl
theorem sz35 : sizeP Tryz.prog 35 = some 3 := by kernel_rfl
theorem sz37 : sizeP Tryz.prog 37 = some 11 := by kernel_rfl
theorem sz38 : sizeP Tryz.prog 38 = some 1 := by kernel_rfl
theorem sz39 : sizeP Tryz.prog 39 = some 1 := by kernel_rfl
theorem sz40 : sizeP Tryz.prog 40 = some 1 := by kernel_rfl
theorem sz42 : sizeP Tryz.prog 42 = some 23 := by kernel_rfl
theorem sz44 : sizeP Tryz.prog 44 = some 1 := by kernel_rfl
theorem sz46 : sizeP Tryz.prog 46 = some 8 := by kernel_rfl
theorem sz47 : sizeP Tryz.prog 47 = some 1 := by kernel_rfl
theorem sz50 : sizeP Tryz.prog 50 = some 1 := by kernel_rfl
theorem sz52 : sizeP Tryz.prog 52 = some 7 := by kernel_rfl
theorem sz54 : sizeP Tryz.prog 54 = some 4 := by kernel_rfl
theorem sz57 : sizeP Tryz.prog 57 = some 1 := by kernel_rfl
theorem sz59 : sizeP Tryz.prog 59 = some 3 := by kernel_rfl
theorem sz60 : sizeP Tryz.prog 60 = some 1 := by kernel_rfl
theorem sz61 : sizeP Tryz.prog 61 = some 1 := by kernel_rfl
theorem sz63 : sizeP Tryz.prog 63 = some 2 := by kernel_rfl
theorem sz65 : sizeP Tryz.prog 65 = some 8 := by kernel_rfl
theorem sz67 : sizeP Tryz.prog 67 = some 9 := by kernel_rfl
theorem sz72 : sizeP Tryz.prog 72 = some 7 := by kernel_rfl
theorem sz74 : sizeP Tryz.prog 74 = some 8 := by kernel_rfl
theorem sz82 : sizeP Tryz.prog 82 = some 1 := by kernel_rfl
theorem sz84 : sizeP Tryz.prog 84 = some 10 := by kernel_rfl
theorem sz90 : sizeP Tryz.prog 90 = some 5 := by kernel_rfl
theorem sz92 : sizeP Tryz.prog 92 = some 4 := by kernel_rfl
theorem sz93 : sizeP Tryz.prog 93 = some 1 := by kernel_rfl
theorem sz94 : sizeP Tryz.prog 94 = some 1 := by kernel_rfl
theorem sz96 : sizeP Tryz.prog 96 = some 6 := by kernel_rfl
theorem sz98 : sizeP Tryz.prog 98 = some 26 := by kernel_rfl
theorem sz100 : sizeP Tryz.prog 100 = some 2 := by kernel_rfl
theorem sz102 : sizeP Tryz.prog 102 = some 63 := by kernel_rfl
theorem sz114 : sizeP Tryz.prog 114 = some 3 := by kernel_rfl
theorem sz121 : sizeP Tryz.prog 121 = some 4 := by kernel_rfl
theorem sz149 : sizeP Tryz.prog 149 = some 4 := by kernel_rfl
theorem sz176 : sizeP Tryz.prog 176 = some 2 := by kernel_rfl
theorem sz191 : sizeP Tryz.prog 191 = some 1 := by kernel_rfl
theorem sz226 : sizeP Tryz.prog 226 = some 10 := by kernel_rfl
theorem sz231 : sizeP Tryz.prog 231 = some 2 := by kernel_rfl
theorem ag3 : aggP Tryz.prog 3 = some false := by kernel_rfl
theorem ag4 : aggP Tryz.prog 4 = some false := by kernel_rfl
theorem ag5 : aggP Tryz.prog 5 = some false := by kernel_rfl
theorem ag9 : aggP Tryz.prog 9 = some false := by kernel_rfl
theorem ag23 : aggP Tryz.prog 23 = some true := by kernel_rfl
theorem ag25 : aggP Tryz.prog 25 = some false := by kernel_rfl
theorem ag26 : aggP Tryz.prog 26 = some false := by kernel_rfl
theorem ag27 : aggP Tryz.prog 27 = some false := by kernel_rfl
theorem ag29 : aggP Tryz.prog 29 = some true := by kernel_rfl
theorem ag32 : aggP Tryz.prog 32 = some false := by kernel_rfl
theorem ag33 : aggP Tryz.prog 33 = some false := by kernel_rfl
theorem ag35 : aggP Tryz.prog 35 = some true := by kernel_rfl
theorem ag37 : aggP Tryz.prog 37 = some true := by kernel_rfl
theorem ag38 : aggP Tryz.prog 38 = some false := by kernel_rfl
theorem ag39 : aggP Tryz.prog 39 = some false := by kernel_rfl
theorem ag40 : aggP Tryz.prog 40 = some false := by kernel_rfl
theorem ag42 : aggP Tryz.prog 42 = some true := by kernel_rfl
theorem ag44 : aggP Tryz.prog 44 = some false := by kernel_rfl
theorem ag46 : aggP Tryz.prog 46 = some true := by kernel_rfl
theorem ag47 : aggP Tryz.prog 47 = some false := by kernel_rfl
theorem ag52 : aggP Tryz.prog 52 = some true := by kernel_rfl
theorem ag54 : aggP Tryz.prog 54 = some true := by kernel_rfl
theorem ag57 : aggP Tryz.prog 57 = some false := by kernel_rfl
theorem ag59 : aggP Tryz.prog 59 = some true := by kernel_rfl
theorem ag60 : aggP Tryz.prog 60 = some false := by kernel_rfl
theorem ag61 : aggP Tryz.prog 61 = some false := by kernel_rfl
theorem ag63 : aggP Tryz.prog 63 = some true := by kernel_rfl
theorem ag65 : aggP Tryz.prog 65 = some true := by kernel_rfl
theorem ag72 : aggP Tryz.prog 72 = some true := by kernel_rfl
theorem ag74 : aggP Tryz.prog 74 = some true := by kernel_rfl
theorem ag82 : aggP Tryz.prog 82 = some false := by kernel_rfl
theorem ag84 : aggP Tryz.prog 84 = some true := by kernel_rfl
theorem ag90 : aggP Tryz.prog 90 = some true := by kernel_rfl
theorem ag92 : aggP Tryz.prog 92 = some true := by kernel_rfl
theorem ag93 : aggP Tryz.prog 93 = some false := by kernel_rfl
theorem ag94 : aggP Tryz.prog 94 = some false := by kernel_rfl
theorem ag96 : aggP Tryz.prog 96 = some true := by kernel_rfl
theorem ag98 : aggP Tryz.prog 98 = some true := by kernel_rfl
theorem ag100 : aggP Tryz.prog 100 = some true := by kernel_rfl
theorem ag102 : aggP Tryz.prog 102 = some true := by kernel_rfl
theorem ag114 : aggP Tryz.prog 114 = some true := by kernel_rfl
theorem ag121 : aggP Tryz.prog 121 = some true := by kernel_rfl
theorem ag149 : aggP Tryz.prog 149 = some true := by kernel_rfl
theorem ag176 : aggP Tryz.prog 176 = some true := by kernel_rfl
theorem ag191 : aggP Tryz.prog 191 = some false := by kernel_rfl
theorem ag226 : aggP Tryz.prog 226 = some true := by kernel_rfl
theorem ag231 : aggP Tryz.prog 231 = some true := by kernel_rfl
theorem zr3 : zerosOf Tryz.prog 3 = some [(.int .i64 0)] := by kernel_rfl
theorem zr4 : zerosOf Tryz.prog 4 = some [(.bool false)] := by kernel_rfl
theorem zr5 : zerosOf Tryz.prog 5 = some [(.int .u8 0)] := by kernel_rfl
theorem zr9 : zerosOf Tryz.prog 9 = some [(.string ⟨#[]⟩)] := by kernel_rfl
theorem zr23 : zerosOf Tryz.prog 23 = some [(.int .i64 0), (.int .i64 0), (.int .i64 0), (.int .i64 0), (.int .i64 0), (.int .i64 0), (.int .i64 0), (.int .i64 0)] := by kernel_rfl
theorem zr29 : zerosOf Tryz.prog 29 = some [(.int .i64 0), (.slice none 0 0)] := by kernel_rfl
theorem zr35 : zerosOf Tryz.prog 35 = some [(.int .i64 0), (.slice none 0 0), (.slice none 0 0)] := by kernel_rfl
theorem zr37 : zerosOf Tryz.prog 37 = some [(.slice none 0 0), (.slice none 0 0), (.int .i64 0), (.int .i64 0), (.slice none 0 0), (.int .i64 0), (.slice none 0 0), (.slice none 0 0), (.int .i64 0), (.int .i64 0), (.int .i64 0)] := by kernel_rfl
theorem zr42 : zerosOf Tryz.prog 42 = some [(.int .i64 0), (.int .i64 0), (.int .i64 0), (.int .i64 0), (.int .i64 0), (.int .i64 0), (.int .i64 0), (.int .i64 0), (.slice none 0 0), (.slice none 0 0), (.int .i64 0), (.int .i64 0), (.slice none 0 0), (.int .i64 0), (.slice none 0 0), (.slice none 0 0), (.int .i64 0), (.int .i64 0), (.int .i64 0), (.slice none 0 0), (.slice none 0 0), (.int .i64 0), (.slice none 0 0)] := by kernel_rfl
theorem zr46 : zerosOf Tryz.prog 46 = some [(.int .i64 0), (.int .i64 0), (.int .i64 0), (.int .i64 0), (.int .i64 0), (.int .i64 0), (.slice none 0 0), (.slice none 0 0)] := by kernel_rfl
theorem zr52 : zerosOf Tryz.prog 52 = some [(.int .i64 0), (.int .i64 0), (.slice none 0 0), (.slice none 0 0), (.int .i64 0), (.int .i64 0), (.int .i64 0)] := by kernel_rfl
theorem zr54 : zerosOf Tryz.prog 54 = some [(.int .i64 0), (.int .i64 0), (.int .i64 0), (.int .i64 0)] := by kernel_rfl
theorem zr57 : zerosOf Tryz.prog 57 = some [(.slice none 0 0)] := by kernel_rfl
theorem zr59 : zerosOf Tryz.prog 59 = some [(.slice none 0 0), (.int .i64 0), (.int .i64 0)] := by kernel_rfl
theorem zr63 : zerosOf Tryz.prog 63 = some [(.slice none 0 0), (.slice none 0 0)] := by kernel_rfl
theorem zr65 : zerosOf Tryz.prog 65 = some [(.bool false), (.int .i64 0), (.int .i64 0), (.slice none 0 0), (.int .i64 0), (.int .i64 0), (.slice none 0 0), (.slice none 0 0)] := by kernel_rfl
theorem zr67 : zerosOf Tryz.prog 67 = some [(.int .i64 0), (.bool false), (.int .i64 0), (.int .i64 0), (.slice none 0 0), (.int .i64 0), (.int .i64 0), (.slice none 0 0), (.slice none 0 0)] := by kernel_rfl
theorem zr72 : zerosOf Tryz.prog 72 = some [(.int .i64 0), (.int .i64 0), (.int .i64 0), (.int .i64 0), (.int .i64 0), (.int .i64 0), (.string ⟨#[]⟩)] := by kernel_rfl
theorem zr74 : zerosOf Tryz.prog 74 = some [(.int .i64 0), (.int .i64 0), (.int .i64 0), (.int .i64 0), (.int .i64 0), (.int .i64 0), (.string ⟨#[]⟩), (.int .i64 0)] := by kernel_rfl
theorem zr84 : zerosOf Tryz.prog 84 = some [(.int .i64 0), (.int .i64 0), (.int .i64 0), (.int .i64 0), (.int .i64 0), (.int .i64 0), (.int .i64 0), (.slice none 0 0), (.int .i64 0), (.int .i64 0)] := by kernel_rfl
theorem zr90 : zerosOf Tryz.prog 90 = some [(.slice none 0 0), (.int .i64 0), (.int .i64 0), (.int .i64 0), (.int .i64 0)] := by kernel_rfl
theorem zr92 : zerosOf Tryz.prog 92 = some [(.int .i64 0), (.int .i64 0), (.int .i64 0), (.int .i64 0)] := by kernel_rfl
theorem zr96 : zerosOf Tryz.prog 96 = some [(.slice none 0 0), (.int .i64 0), (.slice none 0 0), (.slice none 0 0), (.slice none 0 0), (.slice none 0 0)] := by kernel_rfl
theorem zr98 : zerosOf Tryz.prog 98 = some [(.int .i64 0), (.int .i64 0), (.slice none 0 0), (.int .i64 0), (.int .i64 0), (.int .i64 0), (.int .i64 0), (.int .i64 0), (.int .i64 0), (.int .i64 0), (.int .i64 0), (.slice none 0 0), (.int .i64 0), (.slice none 0 0), (.slice none 0 0), (.int .i64 0), (.slice none 0 0), (.slice none 0 0), (.slice none 0 0), (.int .i64 0), (.slice none 0 0), (.slice none 0 0), (.slice none 0 0), (.slice none 0 0), (.int .i64 0), (.slice none 0 0)] := by kernel_rfl
theorem zr100 : zerosOf Tryz.prog 100 = some [(.int .i64 0), (.int .i64 0)] := by kernel_rfl
theorem zr102 : zerosOf Tryz.prog 102 = some [(.int .i64 0), (.int .i64 0), (.int .i64 0), (.int .i64 0), (.int .i64 0), (.int .i64 0), (.int .i64 0), (.slice none 0 0), (.slice none 0 0), (.int .i64 0), (.bool false), (.int .i64 0), (.int .i64 0), (.int .i64 0), (.slice none 0 0), (.int .i64 0), (.int .i64 0), (.int .i64 0), (.int .i64 0), (.int .i64 0), (.int .i64 0), (.int .i64 0), (.int .i64 0), (.int .i64 0), (.int .i64 0), (.slice none 0 0), (.int .i64 0), (.int .i64 0), (.int .i64 0), (.int .i64 0), (.int .i64 0), (.int .i64 0), (.int .i64 0), (.int .i64 0), (.slice none 0 0), (.int .i64 0), (.slice none 0 0), (.slice none 0 0), (.int .i64 0), (.slice none 0 0), (.slice none 0 0), (.slice none 0 0), (.int .i64 0), (.slice none 0 0), (.slice none 0 0), (.slice none 0 0), (.slice none 0 0), (.int .i64 0), (.slice none 0 0), (.int .i64 0), (.slice none 0 0), (.slice none 0 0), (.int .i64 0), (.int .i64 0), (.int .i64 0), (.int .i64 0), (.int .i64 0), (.int .i64 0), (.int .i64 0), (.int .i64 0), (.int .i64 0), (.slice none 0 0), (.slice none 0 0)] := by kernel_rfl
theorem zr114 : zerosOf Tryz.prog 114 = some [(.int .i64 0), (.int .i64 0), (.int .i64 0)] := by kernel_rfl
theorem zr121 : zerosOf Tryz.prog 121 = some [(.int .i64 0), (.int .i64 0), (.int .i64 0), (.int .i64 0)] := by kernel_rfl
theorem zr149 : zerosOf Tryz.prog 149 = some [(.int .i64 0), (.int .i64 0), (.int .i64 0), (.int .i64 0)] := by kernel_rfl
theorem zr176 : zerosOf Tryz.prog 176 = some [(.int .i64 0), (.int .i64 0)] := by kernel_rfl
theorem zr193 : zerosOf Tryz.prog 193 = some [(.slice none 0 0), (.slice none 0 0), (.int .i64 0), (.int .i64 0), (.slice none 0 0), (.int .i64 0), (.slice none 0 0), (.slice none 0 0), (.int .i64 0), (.int .i64 0), (.int .i64 0), (.int .i64 0), (.int .i64 0), (.slice none 0 0), (.int .i64 0), (.int .i64 0), (.int .i64 0), (.int .i64 0), (.int .i64 0), (.int .i64 0), (.int .i64 0), (.int .i64 0), (.slice none 0 0), (.int .i64 0), (.slice none 0 0), (.slice none 0 0), (.int .i64 0), (.slice none 0 0), (.slice none 0 0), (.slice none 0 0), (.int .i64 0), (.slice none 0 0), (.slice none 0 0), (.slice none 0 0), (.slice none 0 0), (.int .i64 0), (.slice none 0 0), (.int .i64 0), (.int .i64 0)] := by kernel_rfl
theorem zr226 : zerosOf Tryz.prog 226 = some [(.bool false), (.int .i64 0), (.int .i64 0), (.slice none 0 0), (.int .i64 0), (.int .i64 0), (.slice none 0 0), (.slice none 0 0), (.slice none 0 0), (.slice none 0 0)] := by kernel_rfl
theorem zr231 : zerosOf Tryz.prog 231 = some [(.int .i64 0), (.int .i64 0)] := by kernel_rfl
theorem zr232 : zerosOf Tryz.prog 232 = some [(.int .i64 0), (.int .i64 0), (.int .i64 0), (.int .i64 0), (.int .i64 0), (.int .i64 0), (.int .i64 0), (.int .i64 0), (.int .i64 0), (.int .i64 0)] := by kernel_rfl
theorem zr341 : zerosOf Tryz.prog 341 = some [(.int .i64 0), (.int .i64 0), (.int .i64 0), (.int .i64 0)] := by kernel_rfl
theorem by3 : bytesP Tryz.prog 3 = some 8 := by kernel_rfl
theorem by5 : bytesP Tryz.prog 5 = some 1 := by kernel_rfl
theorem by9 : bytesP Tryz.prog 9 = some 16 := by kernel_rfl
theorem by52 : bytesP Tryz.prog 52 = some 88 := by kernel_rfl
theorem by57 : bytesP Tryz.prog 57 = some 24 := by kernel_rfl
theorem by65 : bytesP Tryz.prog 65 = some 112 := by kernel_rfl
theorem by67 : bytesP Tryz.prog 67 = some 120 := by kernel_rfl
theorem by72 : bytesP Tryz.prog 72 = some 64 := by kernel_rfl
theorem by74 : bytesP Tryz.prog 74 = some 72 := by kernel_rfl
theorem by84 : bytesP Tryz.prog 84 = some 96 := by kernel_rfl
theorem by102 : bytesP Tryz.prog 102 = some 808 := by kernel_rfl
theorem by114 : bytesP Tryz.prog 114 = some 24 := by kernel_rfl
theorem by121 : bytesP Tryz.prog 121 = some 32 := by kernel_rfl
theorem by149 : bytesP Tryz.prog 149 = some 32 := by kernel_rfl
theorem by176 : bytesP Tryz.prog 176 = some 16 := by kernel_rfl
theorem zv4 : zeroVal Tryz.prog 4 = some (.bool false) := by kernel_rfl
theorem zv194 : zeroVal Tryz.prog 194 = some .nilFunc := by kernel_rfl
theorem sh72 : Tryz.prog.stoodInHeld 72 = false := by kernel_rfl
theorem eg72 : Tryz.prog.eqGuardType Tryz.prog.depth 72 = false := by kernel_rfl
theorem sh121 : Tryz.prog.stoodInHeld 121 = false := by kernel_rfl
theorem eg121 : Tryz.prog.eqGuardType Tryz.prog.depth 121 = false := by kernel_rfl
theorem sh176 : Tryz.prog.stoodInHeld 176 = false := by kernel_rfl
theorem eg176 : Tryz.prog.eqGuardType Tryz.prog.depth 176 = false := by kernel_rfl

/-- A function's code as the machine takes it. -/
abbrev SC (c : Code) := {s : SCode // stripCode Tryz.prog c = some s}
def SC.mk' {c : Code} {s : SCode} (h : stripCode Tryz.prog c = some s) : SC c := ⟨s, h⟩
theorem mixedP : Tryz.prog.follows .mixedOrders = true := by kernel_rfl
theorem SC.okM {f : FuncId} {fn : Func} {c : Code} (x : SC c) {F : Fun} (h0 : F.sc = x.1) (h1 : Tryz.prog.funcs[f]? = some fn) (h3 : fn.body = some c) (h2 : (fn.name == "runtime.NumGoroutine") = false := by kernel_rfl) (h4 : resOf Tryz.prog fn.results.toList = some F.res := by kernel_rfl)
    (h5 : Nat.ble fn.results.toList.length 5 = true := by kernel_rfl) (h6 : Nat.ble F.na fn.ntmps = true := by kernel_rfl) (h7 : okC fn.ntmps F.PV F.FL F.sc = true := by kernel_rfl) : FnM Tryz.prog f F :=
  ⟨⟨fn, c, h1, h2, h3, by rw [h0]; exact x.2, h4, Nat.le_of_ble_eq_true h5, Nat.le_of_ble_eq_true h6, h7⟩, mixedP⟩
/-- A table: what it answers is shown. -/
inductive Tb where
  | leaf (n : Nat) (F : Fun) (h : FnM Tryz.prog n F)
  | node (m : Nat) (l r : Tb)
noncomputable def Tb.get (t : Tb) : Nat → Option Fun := @Tb.rec (fun _ => Nat → Option Fun) (fun n F _ f => cnd (Nat.beq f n) (some F) none) (fun m _ _ l r f => cnd (Nat.blt f m) (l f) (r f)) t
theorem Tb.ok : ∀ (t : Tb) (g : Nat) (F : Fun), t.get g = some F → FnM Tryz.prog g F
  | .leaf n F h, g, F', e => by
    have e' : cnd (Nat.beq g n) (some F) none = some F' := e
    cases hb : Nat.beq g n with
    | false => rw [hb] at e'; cases e'
    | true =>
      rw [hb] at e'
      cases e'
      rw [beqT hb]; exact h
  | .node m l r, g, F', e => by
    have e' : cnd (Nat.blt g m) (l.get g) (r.get g) = some F' := e
    cases hb : Nat.blt g m with
    | false => rw [hb] at e'; exact Tb.ok r g F' e'
    | true => rw [hb] at e'; exact Tb.ok l g F' e'
attribute [go_sem] stripCode stripOps stripOper strip stripParts kindsOf Option.bind List.filterMap reduceIte Bool.false_eq_true Bool.and_true Bool.and_self Bool.true_and and_self and_true true_and List.all List.map List.isEmpty Option.isSome ne_eq not_false_eq_true not_true_eq_false reduceCtorEq String.reduceEq String.reduceNe List.length_cons List.length_nil Nat.reduceAdd Nat.reduceMul Nat.reduceLT Nat.reduceLeDiff Nat.zero_add Value.oneCell' Nat.reduceEqDiff Option.getD List.getElem?_toArray List.getElem?_cons_zero List.getElem?_cons_succ List.size_toArray if_true if_false List.any Array.size decide_true decide_false Tryz.underlying3 Tryz.underlying4 Tryz.underlying5 Tryz.underlying9 Tryz.underlying23 Tryz.underlying25 Tryz.underlying26 Tryz.underlying27 Tryz.underlying29 Tryz.underlying31 Tryz.underlying32 Tryz.underlying33 Tryz.underlying35 Tryz.underlying37 Tryz.underlying38 Tryz.underlying39 Tryz.underlying40 Tryz.underlying42 Tryz.underlying44 Tryz.underlying46 Tryz.underlying47 Tryz.underlying50 Tryz.underlying52 Tryz.underlying54 Tryz.underlying57 Tryz.underlying59 Tryz.underlying60 Tryz.underlying61 Tryz.underlying63 Tryz.underlying65 Tryz.underlying67 Tryz.underlying72 Tryz.underlying74 Tryz.underlying82 Tryz.underlying84 Tryz.underlying90 Tryz.underlying92 Tryz.underlying93 Tryz.underlying94 Tryz.underlying96 Tryz.underlying98 Tryz.underlying100 Tryz.underlying102 Tryz.underlying114 Tryz.underlying121 Tryz.underlying133 Tryz.underlying149 Tryz.underlying176 Tryz.underlying193 Tryz.underlying226 Tryz.underlying231 Tryz.underlying232 Tryz.underlying235 Tryz.underlying286 Tryz.underlying305 Tryz.underlying306 Tryz.underlying341 Tryz.underlying391 Tryz.underlying399 sz3 sz4 sz5 sz9 sz23 sz25 sz26 sz27 sz29 sz31 sz32 sz33 sz35 sz37 sz38 sz39 sz40 sz42 sz44 sz46 sz47 sz50 sz52 sz54 sz57 sz59 sz60 sz61 sz63 sz65 sz67 sz72 sz74 sz82 sz84 sz90 sz92 sz93 sz94 sz96 sz98 sz100 sz102 sz114 sz121 sz149 sz176 sz191 sz226 sz231 ag3 ag4 ag5 ag9 ag23 ag25 ag26 ag27 ag29 ag32 ag33 ag35 ag37 ag38 ag39 ag40 ag42 ag44 ag46 ag47 ag52 ag54 ag57 ag59 ag60 ag61 ag63 ag65 ag72 ag74 ag82 ag84 ag90 ag92 ag93 ag94 ag96 ag98 ag100 ag102 ag114 ag121 ag149 ag176 ag191 ag226 ag231 zr3 zr4 zr5 zr9 zr23 zr29 zr35 zr37 zr42 zr46 zr52 zr54 zr57 zr59 zr63 zr65 zr67 zr72 zr74 zr84 zr90 zr92 zr96 zr98 zr100 zr102 zr114 zr121 zr149 zr176 zr193 zr226 zr231 zr232 zr341 by3 by5 by9 by52 by57 by65 by67 by72 by74 by84 by102 by114 by121 by149 by176 zv4 zv194 sh72 eg72 sh121 eg121 sh176 eg176
end Go.M
