/-
  awake() of the base of SendFull gives back true, and leaves what was there.
  No condition.
-/
import Derived.Test.YtncnaejhbmnkbaaGreatQtA
import Derived.Test.YtncnaejhbmnkbaaGreatMemF
import Derived.Test.YtncnaejhbmnkbaaGreatMemE
import Derived.KernelRfl
set_option linter.unusedVariables false
namespace Go.M
open Go Go.Proofs
instance ctT : Ctxt := ⟨fun _ => True⟩
theorem runA7 : holdsR ((clAtH hkN code levN 7).f [] (h0 []) endK) = True := by kernel_rfl
theorem calls7 (w : World) : Calls Tryz.prog 7 #[] w fun e w' => e = .returned (.bool true) ∧ Go.RowKit.Below w.heap.size w w' := by
  have h := cls_ok 7
  have hd : denL Vz [] (#[] : Array Value).toList := denL_nil.2 rfl
  generalize hc : clAtH hkN code levN 7 = c at h
  have hr := runA7
  rw [hc] at hr
  exact top h (Eq.mpr hr trivial) hd w trivial
theorem awake7 : FcOk Tryz.prog 7 fcT := fcT_ok ok7.enters calls7
noncomputable def cl7 : Nat → FC := clH (clAtH hkN code levN) 7 fcT
theorem cl7_ok : CallsOk Tryz.prog cl7 := clH_ok cls_ok awake7
noncomputable abbrev cx3 : Cx := cxF cl7 fun3
noncomputable abbrev bd : Eng.SCode := (sB (sB (sR (sL (sR (sR (sR (sR (sR fun3.sc)))))))))
noncomputable abbrev rst : Eng.SCode := (sR (sR (sR (sR (sR (sR fun3.sc))))))
/-- A round, or the way out, from S to S'. -/
abbrev RS (S : Tst) (q : List X) (e : Nat) (L D : List Nat) (S' : Tst) (fs : List Prop) : Prop := holdsR (segR cx3 bd 1 S q e L D S') = allP ((S'.fr = S'.fr) :: (S'.bl = S'.bl) :: fs)
/-- A part ahead of the loop. -/
abbrev SS (sc : Eng.SCode) (S : Tst) (q : List X) (L D : List Nat) (S' : Tst) (fs : List Prop) : Prop := holdsR (seg cx3 sc S q 0 L D S') = allP ((S'.fr = S'.fr) :: (S'.bl = S'.bl) :: fs)
/-- The rest, to the function's end. -/
abbrev RE (S : Tst) (q : List X) (fs : List Prop) : Prop := holdsR (segE cx3 fun3.res rst S q) = allP fs
structure Kq (nt : Nat) (cb cr : Code) : Prop where
  hm : Tryz.prog.follows .mixedOrders = true
  hG : fun3.G.length ≤ 64
  pb : Pt Tryz.prog fun3 nt cb bd
  pr : Pt Tryz.prog fun3 nt cr rst
def Qx (nt : Nat) (cr : Code) : Exit → Tst → Prop := fun e S => ER 2 e ∧ TE Tryz.prog cx3 nt fun3.res cr S
theorem mpr {p q : Prop} (h : p = q) (hq : q) : p := h ▸ hq
theorem doneL {S : Tst} {l : List Prop} (h : allP l) : allP ((S.fr = S.fr) :: (S.bl = S.bl) :: l) := ⟨rfl, rfl, h⟩
theorem tE {nt : Nat} {cb cr : Code} (k : Kq nt cb cr) {S X : Tst} {q q2 : List Go.M.X} {L D : List Nat} {fs fs2 : List Prop} {n : Nat} (h : RS S q 2 L D X fs) (hf : allP fs) (h2 : RE X q2 fs2) (hf2 : allP fs2) (hn : X.n = L.length := by kernel_rfl) : TR Tryz.prog cx3 nt cb S (Qx nt cr) (1 + n) :=
  TR_seg cl7_ok k.hm k.hG k.pb.st k.pb.ok hn (mpr h (doneL hf)) (fun h => by cases h) (fun hne e' he => ⟨by unfold ER; rw [if_neg hne]; exact he, sgE cl7_ok k.hm k.hG k.pr (mpr h2 hf2)⟩)
theorem tN {nt : Nat} {cb cr : Code} (k : Kq nt cb cr) {S S' : Tst} {q : List Go.M.X} {L D : List Nat} {fs : List Prop} {n : Nat} (h : RS S q 0 L D S' fs) (hf : allP fs) (h2 : TR Tryz.prog cx3 nt cb S' (Qx nt cr) n) (hn : S'.n = L.length := by kernel_rfl) : TR Tryz.prog cx3 nt cb S (Qx nt cr) (1 + n) :=
  rd0 cl7_ok k.hm k.hG k.pb hn (mpr h (doneL hf)) h2
theorem tAB {nt id n : Nat} {x c cr : Code} {S S' : Tst} (hx : T Tryz.prog cx3 nt x S (At1 0 S')) (h : TR Tryz.prog cx3 nt c S' (Qx nt cr) n) (hid : id = 0) : TE Tryz.prog cx3 nt fun3.res (.seq (.seq x (.block id (.loop c))) cr) S := fun w0 a w hA =>
  wp_seq (wp_seq (Code.wp_mono (fun e a w ⟨S1, h1, h2⟩ => by
    have he := ER0 h1.1
    subst he
    have hl := wp_loop_rounds n (h w0 a w (h1.2 ▸ h2))
    exact wp_block (Code.wp_mono (fun e a w hh => by
      obtain ⟨S2, g1, g2⟩ := hh
      subst hid
      have hx : e = .exit 0 := ExR.exit (id := 0) (ER.ne (n := 0 + 2) (e := e) g1.1 (by omega))
      subst hx
      exact g1.2 w0 a w g2) hl)) (hx w0 a w hA)))
end Go.M
