/-
  MachineLimits: at every input the law returns true.
  The number is that of a byte.
-/
import Derived.Test.YtfcecgfjjamlcaaGreatLa4
import Derived.Test.YtfcecgfjjamlcaaGreatLr4x0
import Derived.Test.YtfcecgfjjamlcaaGreatLr4x1
import Derived.Test.YtfcecgfjjamlcaaGreatLr4x2
import Derived.Test.YtfcecgfjjamlcaaGreatLr4x3
set_option linter.all false
set_option maxRecDepth 100000
set_option linter.unusedVariables false
set_option linter.unusedSimpArgs false
namespace Go.Eng
open Go Go.Proofs
theorem opCode_1 {op : BinOp} (h : opCode op = 1) : op = .rem := by cases op <;> simp [opCode] at h ⊢
theorem opCode_lt (op : BinOp) : opCode op < 100 := by cases op <;> simp [opCode]
theorem use_bin {P : Program} {code : Nat} {op : BinOp} {a b : AV} {c : Value} (hc : code < 100) (huq : ∀ op', opCode op' = code → op' = op) (h : binV op a b = some c) : UseOk P ⟨1000000000 + code, [a, b], [], .v c, []⟩ := by
  refine ⟨fun hlt => absurd hlt (by simp [opB]), fun _ => ⟨fun op' a' b' hf hx => ?_, fun q a' hf _ => ?_⟩⟩
  · have hf : 1000000000 + code = opB + opCode op' := hf
    have : opCode op' = code := by unfold opB at hf; omega
    rw [huq op' this]
    simp only [List.cons.injEq, and_true] at hx
    obtain ⟨rfl, rfl⟩ := hx
    exact ⟨c, rfl, h⟩
  · have hf : 1000000000 + code = opB + 100 + kCode q := hf
    unfold opB at hf
    omega
theorem rem_u8 {n : Int} (k : Nat) (hk : 0 < k) (h0 : 0 ≤ n) : binV .rem (.v (.int .u8 n)) (.v (.int .u8 k)) = some (.int .u8 (n % k)) := by
  simp only [binV, sbinB, sbin, sbinPB, if_true]
  have hne : (decide ((k : Int) ≠ 0)) = true := decide_eq_true (by omega)
  first
    | (rw [hne]; simp only [Int.tmod_eq_emod_of_nonneg h0])
    | simp [hne, Int.tmod_eq_emod_of_nonneg h0]
theorem Valid.cons {P : Program} {u : Use} {O : List Use} (h2 : Valid P O) (h1 : UseOk P u) : Valid P (u :: O) := fun x hx => by
  rcases List.mem_cons.1 hx with rfl | hx
  · exact h1
  · exact h2 x hx
theorem rmK_ok {P : Program} {n : Int} {b : Nat} (h0 : 0 ≤ n) (hb : n % 20 = b) : UseOk P (rmK n b) := by
  have := use_bin (P := P) (code := 1) (by omega) (fun _ => opCode_1) (rem_u8 (n := n) 20 (by omega) h0)
  rw [show (n % ((20 : Nat) : Int)) = b from hb] at this
  exact this
theorem usesE_ok {P : Program} {n : Int} {b : Nat} (h0 : 0 ≤ n) (hb : n % 20 = b) : ∀ i, Valid P (usesE n b i)
  | 0 => Valid.nil
  | i + 1 => (usesE_ok h0 hb i).cons (rmK_ok h0 hb)
theorem lawC_ok (orc : Orc) : FunXOk Tryz.prog 4 ⟨cx4 orc, ix4, rx4, false⟩ := ⟨s4, gx4, [.tmp 2], 111, 1, 5, by rw [ex4]; exact compX_ok s4 stx4, ok4, ii4, and1 gn4, Nat.le_of_ble_eq_true (and2 gn4), rr4⟩
theorem goodAll (n : Int) {b : Nat} (hb : b < 20) : GoodE n b := by
  have hbb : b = 0 ∨ b = 1 ∨ b = 2 ∨ b = 3 ∨ b = 4 ∨ b = 5 ∨ b = 6 ∨ b = 7 ∨ b = 8 ∨ b = 9 ∨ b = 10 ∨ b = 11 ∨ b = 12 ∨ b = 13 ∨ b = 14 ∨ b = 15 ∨ b = 16 ∨ b = 17 ∨ b = 18 ∨ b = 19 := by omega
  rcases hbb with rfl | rfl | rfl | rfl | rfl | rfl | rfl | rfl | rfl | rfl | rfl | rfl | rfl | rfl | rfl | rfl | rfl | rfl | rfl | rfl
  · exact good0 n
  · exact good1 n
  · exact good2 n
  · exact good3 n
  · exact good4 n
  · exact good5 n
  · exact good6 n
  · exact good7 n
  · exact good8 n
  · exact good9 n
  · exact good10 n
  · exact good11 n
  · exact good12 n
  · exact good13 n
  · exact good14 n
  · exact good15 n
  · exact good16 n
  · exact good17 n
  · exact good18 n
  · exact good19 n
theorem fn4 (n : Int) (h0 : 0 ≤ n) : FnG Tryz.prog 4 [.v (.int .u8 n)] [] [] (.v (.bool true)) [] [] := by
  obtain ⟨b, hb⟩ : ∃ b : Nat, n % 20 = b := ⟨(n % 20).toNat, by omega⟩
  have h2 := goodAll n (b := b) (by omega)
  have h4 : callXL noHook [] smE codeE 400 ⟨cx4 (orcE b), ix4, rx4, false⟩ [u8X n] = some (⟨17, [], oZ⟩, usesE n b (b + 1)) := by
    unfold GoodE runE at h2
    unfold callXL
    exact h2
  have h3 := callXL_ok smE_ok codeE_ok (lawC_ok (orcE b)) h4 (usesE_ok h0 hb _)
  simpa [decL, X.dec, u8X, mkB_dec] using h3
end Go.Eng
