/-
  SendEnds: what its runs lean on.
  No condition.
-/
import Derived.Test.YtgcpfnjpkljkmaaGreatLaw4
import Derived.Test.YtgcpfnjpkljkmaaGreatAt2
set_option linter.all false
set_option maxRecDepth 100000
set_option linter.unusedVariables false
set_option linter.unusedSimpArgs false
namespace Go.Eng
open Go Go.Proofs

theorem awake_run : callXP noHook [] smAt codeX 400 11 [] = some (⟨17, [], oZ⟩, []) := by kernel_rfl
theorem awake_ok : FnG Tryz.prog 11 [] [] [] (.v (.bool true)) [] [] := by
  have := callXP_ok smAt_ok codeX_ok awake_run Valid.nil
  simpa [decL, X.dec] using this
/-- The atomic cell, and what awake answers. -/
def smE : Hook := fun f xs bs => match f, xs, bs with
  | 11, [], [] => some (.v (.bool true), [])
  | f, xs, bs => smAt f xs bs
theorem smE_ok : SmOk Tryz.prog smE := by
  intro f xs bs r bs' h
  unfold smE at h
  split at h
  · cases h; exact awake_ok
  · exact smAt_ok _ _ _ _ _ h
/-- The table without awake. -/
noncomputable def codeE : FuncId → Option FunX := fun f => @Bool.rec (fun _ => Option FunX) (codeX f) none (Nat.beq f 11)
theorem codeE_ok : CodeXOk Tryz.prog codeE := by
  intro f F h
  unfold codeE at h
  cases hb : Nat.beq f 11 with
  | true => rw [hb] at h; cases h
  | false => rw [hb] at h; exact codeX_ok f F h
noncomputable section
def u8X (n : Int) : X := ⟨14, [], .v (.int .u8 n)⟩
/-- Answers: before%5 is b; n%9, as a number, stands as itself; a comparison gives c. -/
def orcE (b : Nat) (n9 : Int) (c : Bool) : Orc := ⟨fun op x y => match op with
  | .rem => match y.o with
    | .v (.int .u8 5) => some (X.mk 15 [] (.v (.int .u8 b)))
    | .v (.int .u8 9) => some (X.mk 14 [] (.v (.int .u8 n9)))
    | _ => none
  | .lss => some (mkB c)
  | _ => none, fun q x => match q with
  | .i64 => some (X.mk 14 [] (.v (.int .i64 n9)))
  | _ => none⟩
end
def r5 (before : Int) (b : Nat) : Use := ⟨1000000001, [.v (.int .u8 before), .v (.int .u8 5)], [], .v (.int .u8 b), []⟩
def r9 (n n9 : Int) : Use := ⟨1000000001, [.v (.int .u8 n), .v (.int .u8 9)], [], .v (.int .u8 n9), []⟩
def cv (n9 : Int) : Use := ⟨1000000101, [.v (.int .u8 n9)], [], .v (.int .i64 n9), []⟩
def ls (i : Nat) (n9 : Int) (c : Bool) : Use := ⟨1000000002, [.v (.int .i64 i), .v (.int .i64 n9)], [], .v (.bool c), []⟩
def usesL (before n n9 : Int) (b : Nat) : Nat → List Use
  | 0 => [r5 before b]
  | i + 1 => r5 before b :: ls i n9 true :: cv n9 :: r9 n n9 :: usesL before n n9 b i
def usesE (before n n9 : Int) (b c : Nat) : List Use := ls c n9 false :: cv n9 :: r9 n n9 :: usesL before n n9 b c
noncomputable def runE (before n n9 : Int) (b m : Nat) : Option (X × List Use) := finP (runSX ⟨law4 (orcE b n9 true) (orcE b n9 false) m, ix4, rx4, false⟩ (runXX noHook [] smE codeE 400) [u8X before, u8X n] [])
def GoodE (before n n9 : Int) (b m : Nat) : Prop := runE before n n9 b m = some (⟨17, [], oZ⟩, usesE before n n9 b m)
end Go.Eng
