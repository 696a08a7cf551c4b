/-
  MachineLimits: what its runs lean on.
  No condition.
-/
import Derived.Test.YtfcecgfjjamlcaaGreatTabXMachineLimits
import Derived.Test.YtfcecgfjjamlcaaGreatEngJ
import Derived.Test.YtfcecgfjjamlcaaGreatAt2
set_option linter.all false
set_option maxRecDepth 100000
set_option linter.unusedVariables false
set_option linter.unusedSimpArgs false
namespace Go.Eng
open Go Go.Proofs

theorem awake_run : callXP noHook [] smAt codeX 400 18 [] = some (⟨17, [], oZ⟩, []) := by kernel_rfl
theorem awake_ok : FnG Tryz.prog 18 [] [] [] (.v (.bool true)) [] [] := by
  have := callXP_ok smAt_ok codeX_ok awake_run Valid.nil
  simpa [decL, X.dec] using this
/-- The atomic cell, and what awake answers. -/
def smE : Hook := fun f xs bs => match f, xs, bs with
  | 18, [], [] => some (.v (.bool true), [])
  | f, xs, bs => smAt f xs bs
theorem smE_ok : SmOk Tryz.prog smE := by
  intro f xs bs r bs' h
  unfold smE at h
  split at h
  · cases h; exact awake_ok
  · exact smAt_ok _ _ _ _ _ h
/-- The table without awake. -/
noncomputable def codeE : FuncId → Option FunX := fun f => @Bool.rec (fun _ => Option FunX) (codeX f) none (Nat.beq f 18)
theorem codeE_ok : CodeXOk Tryz.prog codeE := by
  intro f F h
  unfold codeE at h
  cases hb : Nat.beq f 18 with
  | true => rw [hb] at h; cases h
  | false => rw [hb] at h; exact codeX_ok f F h
noncomputable section
def u8X (n : Int) : X := ⟨14, [], .v (.int .u8 n)⟩
/-- n%20 is b. -/
def orcE (b : Nat) : Orc := ⟨fun op x y => match op with
  | .rem => match y.o with
    | .v (.int .u8 20) => some (X.mk 15 [] (.v (.int .u8 b)))
    | _ => none
  | _ => none, fun _ _ => none⟩
end
def rmK (n : Int) (b : Nat) : Use := ⟨1000000001, [.v (.int .u8 n), .v (.int .u8 20)], [], .v (.int .u8 b), []⟩
def usesE (n : Int) (b : Nat) : Nat → List Use
  | 0 => []
  | i + 1 => rmK n b :: usesE n b i
noncomputable def runE (n : Int) (b : Nat) : Option (X × List Use) := finP (runSX ⟨cx4 (orcE b), ix4, rx4, false⟩ (runXX noHook [] smE codeE 400) [u8X n] [])
def GoodE (n : Int) (b : Nat) : Prop := runE n b = some (⟨17, [], oZ⟩, usesE n b (b + 1))
end Go.Eng
