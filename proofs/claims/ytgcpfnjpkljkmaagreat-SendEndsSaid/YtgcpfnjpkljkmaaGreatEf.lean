/-
  SendEnds: at every input the law returns true.
  The two numbers are those of a byte.
-/
import Derived.Test.YtgcpfnjpkljkmaaGreatEr0
import Derived.Test.YtgcpfnjpkljkmaaGreatEr1
import Derived.Test.YtgcpfnjpkljkmaaGreatEr2
import Derived.Test.YtgcpfnjpkljkmaaGreatEr3
import Derived.Test.YtgcpfnjpkljkmaaGreatEr4
set_option linter.all false
set_option maxRecDepth 100000
set_option linter.unusedVariables false
set_option linter.unusedSimpArgs false
namespace Go.Eng
open Go Go.Proofs

theorem opCode_1 {op : BinOp} (h : opCode op = 1) : op = .rem := by cases op <;> simp [opCode] at h ⊢
theorem opCode_2 {op : BinOp} (h : opCode op = 2) : op = .lss := by cases op <;> simp [opCode] at h ⊢
theorem kCode_1 {q : IntKind} (h : kCode q = 1) : q = .i64 := by cases q <;> simp [kCode] at h ⊢
theorem opCode_lt (op : BinOp) : opCode op < 100 := by cases op <;> simp [opCode]
theorem use_bin {P : Program} {code : Nat} {op : BinOp} {a b : AV} {c : Value} (hc : code < 100) (huq : ∀ op', opCode op' = code → op' = op) (h : binV op a b = some c) : UseOk P ⟨1000000000 + code, [a, b], [], .v c, []⟩ := by
  refine ⟨fun hlt => absurd hlt (by simp [opB]), fun _ => ⟨fun op' a' b' hf hx => ?_, fun q a' hf _ => ?_⟩⟩
  · have hf : 1000000000 + code = opB + opCode op' := hf
    have : opCode op' = code := by unfold opB at hf; omega
    rw [huq op' this]
    simp only [List.cons.injEq, and_true] at hx
    obtain ⟨rfl, rfl⟩ := hx
    exact ⟨c, rfl, h⟩
  · have hf : 1000000000 + code = opB + 100 + kCode q := hf
    unfold opB at hf
    omega
theorem use_conv {P : Program} {a : AV} {c : Value} (h : convV .i64 a = some c) : UseOk P ⟨1000000101, [a], [], .v c, []⟩ := by
  refine ⟨fun hlt => absurd hlt (by simp [opB]), fun _ => ⟨fun op' a' b' hf hx => ?_, fun q a' hf hx => ?_⟩⟩
  · have hf : 1000000101 = opB + opCode op' := hf
    have := opCode_lt op'
    unfold opB at hf
    omega
  · have hf : 1000000101 = opB + 100 + kCode q := hf
    have : kCode q = 1 := by unfold opB at hf; omega
    rw [kCode_1 this]
    simp only [List.cons.injEq, and_true] at hx
    subst hx
    exact ⟨c, rfl, h⟩
theorem rem_u8 {n : Int} (k : Nat) (hk : 0 < k) (h0 : 0 ≤ n) : binV .rem (.v (.int .u8 n)) (.v (.int .u8 k)) = some (.int .u8 (n % k)) := by
  simp only [binV, sbinB, sbin, sbinPB, if_true]
  have hne : (decide ((k : Int) ≠ 0)) = true := decide_eq_true (by omega)
  first
    | (rw [hne]; simp only [Int.tmod_eq_emod_of_nonneg h0])
    | simp [hne, Int.tmod_eq_emod_of_nonneg h0]
theorem conv_u8 {n : Int} (h0 : 0 ≤ n) (h1 : n < 256) : convV .i64 (.v (.int .u8 n)) = some (.int .i64 n) := by
  simp only [convV]
  rw [IntKind.wrap_i64]
  congr 2
  omega
theorem lss_i64 (a b : Int) : binV .lss (.v (.int .i64 a)) (.v (.int .i64 b)) = some (.bool (decide (a < b))) := by
  simp [binV, sbinB, sbin]
theorem Valid.cons {P : Program} {u : Use} {O : List Use} (h2 : Valid P O) (h1 : UseOk P u) : Valid P (u :: O) := fun x hx => by
  rcases List.mem_cons.1 hx with rfl | hx
  · exact h1
  · exact h2 x hx
theorem r5_ok {P : Program} {before : Int} {b : Nat} (h0 : 0 ≤ before) (hb : before % 5 = b) : UseOk P (r5 before b) := by
  have := use_bin (P := P) (code := 1) (by omega) (fun _ => opCode_1) (rem_u8 (n := before) 5 (by omega) h0)
  rw [show (before % ((5 : Nat) : Int)) = b from hb] at this
  exact this
theorem r9_ok {P : Program} {n : Int} (h0 : 0 ≤ n) : UseOk P (r9 n (n % 9)) := use_bin (P := P) (code := 1) (by omega) (fun _ => opCode_1) (rem_u8 (n := n) 9 (by omega) h0)
theorem cv_ok {P : Program} {n : Int} : UseOk P (cv (n % 9)) := use_conv (conv_u8 (by omega) (by omega))
theorem ls_ok {P : Program} (i : Nat) (n9 : Int) (c : Bool) (h : decide ((i : Int) < n9) = c) : UseOk P (ls i n9 c) := by
  have := use_bin (P := P) (code := 2) (by omega) (fun _ => opCode_2) (lss_i64 i n9)
  rw [h] at this
  exact this
theorem usesL_ok {P : Program} {before n : Int} {b : Nat} (h0 : 0 ≤ before) (h1 : 0 ≤ n) (hb : before % 5 = b) : ∀ (c : Nat), (c : Int) ≤ n % 9 → Valid P (usesL before n (n % 9) b c)
  | 0, _ => Valid.nil.cons (r5_ok h0 hb)
  | c + 1, hc => ((((usesL_ok h0 h1 hb c (by omega)).cons (r9_ok h1)).cons cv_ok).cons (ls_ok c _ true (decide_eq_true (by omega)))).cons (r5_ok h0 hb)
theorem usesE_ok {P : Program} {before n : Int} {b c : Nat} (h0 : 0 ≤ before) (h1 : 0 ≤ n) (hb : before % 5 = b) (hc : n % 9 = c) : Valid P (usesE before n (n % 9) b c) :=
  (((usesL_ok h0 h1 hb c (by omega)).cons (r9_ok h1)).cons cv_ok).cons (ls_ok c _ false (decide_eq_false (by omega)))
theorem good (before n n9 : Int) (b c : Nat) (hb : b < 5) (hc : c < 9) : GoodE before n n9 b c := by
  have pick : ∀ b, ((((((((GoodE before n n9 b 0 ∧ GoodE before n n9 b 1) ∧ GoodE before n n9 b 2) ∧ GoodE before n n9 b 3) ∧ GoodE before n n9 b 4) ∧ GoodE before n n9 b 5) ∧ GoodE before n n9 b 6) ∧ GoodE before n n9 b 7) ∧ GoodE before n n9 b 8) → GoodE before n n9 b c := fun b h => by
    have hcc : c = 0 ∨ c = 1 ∨ c = 2 ∨ c = 3 ∨ c = 4 ∨ c = 5 ∨ c = 6 ∨ c = 7 ∨ c = 8 := by omega
    rcases hcc with hcc | hcc | hcc | hcc | hcc | hcc | hcc | hcc | hcc <;> rw [hcc]
    · exact h.1.1.1.1.1.1.1.1
    · exact h.1.1.1.1.1.1.1.2
    · exact h.1.1.1.1.1.1.2
    · exact h.1.1.1.1.1.2
    · exact h.1.1.1.1.2
    · exact h.1.1.1.2
    · exact h.1.1.2
    · exact h.1.2
    · exact h.2
  have : b = 0 ∨ b = 1 ∨ b = 2 ∨ b = 3 ∨ b = 4 := by omega
  rcases this with hbb | hbb | hbb | hbb | hbb <;> rw [hbb]
  · exact pick 0 (good0 before n n9)
  · exact pick 1 (good1 before n n9)
  · exact pick 2 (good2 before n n9)
  · exact pick 3 (good3 before n n9)
  · exact pick 4 (good4 before n n9)
theorem fn4 (before n : Int) (h0 : 0 ≤ before) (h1 : 0 ≤ n) : FnG Tryz.prog 4 [.v (.int .u8 before), .v (.int .u8 n)] [] [] (.v (.bool true)) [] [] := by
  obtain ⟨b, hb⟩ : ∃ b : Nat, before % 5 = b := ⟨(before % 5).toNat, by omega⟩
  obtain ⟨c, hc⟩ : ∃ c : Nat, n % 9 = c := ⟨(n % 9).toNat, by omega⟩
  have h2 := good before n (n % 9) b c (by omega) (by omega)
  have h4 : callXL noHook [] smE codeE 400 ⟨law4 (orcE b (n % 9) true) (orcE b (n % 9) false) c, ix4, rx4, false⟩ [u8X before, u8X n] = some (⟨17, [], oZ⟩, usesE before n (n % 9) b c) := by
    unfold GoodE runE at h2
    unfold callXL
    exact h2
  have h3 := callXL_ok smE_ok codeE_ok (lawF4_ok (orcE b (n % 9) true) (orcE b (n % 9) false) c) h4 (usesE_ok h0 h1 hb hc)
  simpa [decL, X.dec, u8X] using h3
end Go.Eng
