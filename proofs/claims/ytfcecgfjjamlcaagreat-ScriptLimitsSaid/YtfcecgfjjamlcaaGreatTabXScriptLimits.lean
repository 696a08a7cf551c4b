/-
  The functions' table of ScriptLimits.
  No condition.
-/
import Derived.Test.YtfcecgfjjamlcaaGreatEngCScriptLimits
set_option linter.all false
set_option maxRecDepth 100000
namespace Go.Eng
open Go Go.Proofs

noncomputable section
def xrow0_0 : N16 (Option FunX) := ⟨none, none, none, none, none, none, none, some fx7, none, none, none, none, none, none, some fx14, none⟩
theorem xrow0_0_ok : N16.allI (fun j x => OptXOk Tryz.prog (0 * 256 + 0 * 16 + j) x) xrow0_0 := ⟨OptXOk.none, OptXOk.none, OptXOk.none, OptXOk.none, OptXOk.none, OptXOk.none, OptXOk.none, tx7, OptXOk.none, OptXOk.none, OptXOk.none, OptXOk.none, OptXOk.none, OptXOk.none, tx14, OptXOk.none⟩
def xrow0_1 : N16 (Option FunX) := ⟨none, none, none, none, some fx20, some fx21, none, none, none, none, none, none, none, some fx29, none, none⟩
theorem xrow0_1_ok : N16.allI (fun j x => OptXOk Tryz.prog (0 * 256 + 1 * 16 + j) x) xrow0_1 := ⟨OptXOk.none, OptXOk.none, OptXOk.none, OptXOk.none, tx20, tx21, OptXOk.none, OptXOk.none, OptXOk.none, OptXOk.none, OptXOk.none, OptXOk.none, OptXOk.none, tx29, OptXOk.none, OptXOk.none⟩
def xrow0_2 : N16 (Option FunX) := ⟨none, some fx33, none, none, none, some fx37, some fx38, none, none, none, none, none, none, none, none, none⟩
theorem xrow0_2_ok : N16.allI (fun j x => OptXOk Tryz.prog (0 * 256 + 2 * 16 + j) x) xrow0_2 := ⟨OptXOk.none, tx33, OptXOk.none, OptXOk.none, OptXOk.none, tx37, tx38, OptXOk.none, OptXOk.none, OptXOk.none, OptXOk.none, OptXOk.none, OptXOk.none, OptXOk.none, OptXOk.none, OptXOk.none⟩
def xrow0_3 : N16 (Option FunX) := ⟨none, none, none, none, some fx52, some fx53, some fx54, some fx55, some fx56, some fx57, none, none, none, none, none, some fx63⟩
theorem xrow0_3_ok : N16.allI (fun j x => OptXOk Tryz.prog (0 * 256 + 3 * 16 + j) x) xrow0_3 := ⟨OptXOk.none, OptXOk.none, OptXOk.none, OptXOk.none, tx52, tx53, tx54, tx55, tx56, tx57, OptXOk.none, OptXOk.none, OptXOk.none, OptXOk.none, OptXOk.none, tx63⟩
def xrow0_4 : N16 (Option FunX) := ⟨none, some fx65, some fx66, none, none, none, none, none, none, none, none, none, some fx76, none, none, none⟩
theorem xrow0_4_ok : N16.allI (fun j x => OptXOk Tryz.prog (0 * 256 + 4 * 16 + j) x) xrow0_4 := ⟨OptXOk.none, tx65, tx66, OptXOk.none, OptXOk.none, OptXOk.none, OptXOk.none, OptXOk.none, OptXOk.none, OptXOk.none, OptXOk.none, OptXOk.none, tx76, OptXOk.none, OptXOk.none, OptXOk.none⟩
def xrow0_6 : N16 (Option FunX) := ⟨none, none, none, some fx99, some fx100, some fx101, none, none, none, none, none, none, none, none, none, none⟩
theorem xrow0_6_ok : N16.allI (fun j x => OptXOk Tryz.prog (0 * 256 + 6 * 16 + j) x) xrow0_6 := ⟨OptXOk.none, OptXOk.none, OptXOk.none, tx99, tx100, tx101, OptXOk.none, OptXOk.none, OptXOk.none, OptXOk.none, OptXOk.none, OptXOk.none, OptXOk.none, OptXOk.none, OptXOk.none, OptXOk.none⟩
def xrow0_7 : N16 (Option FunX) := ⟨none, none, none, some fx115, none, none, some fx118, some fx119, none, none, none, none, none, none, none, some fx127⟩
theorem xrow0_7_ok : N16.allI (fun j x => OptXOk Tryz.prog (0 * 256 + 7 * 16 + j) x) xrow0_7 := ⟨OptXOk.none, OptXOk.none, OptXOk.none, tx115, OptXOk.none, OptXOk.none, tx118, tx119, OptXOk.none, OptXOk.none, OptXOk.none, OptXOk.none, OptXOk.none, OptXOk.none, OptXOk.none, tx127⟩
def xrow0_8 : N16 (Option FunX) := ⟨some fx128, some fx129, some fx130, none, none, none, none, none, none, none, none, none, none, none, none, none⟩
theorem xrow0_8_ok : N16.allI (fun j x => OptXOk Tryz.prog (0 * 256 + 8 * 16 + j) x) xrow0_8 := ⟨tx128, tx129, tx130, OptXOk.none, OptXOk.none, OptXOk.none, OptXOk.none, OptXOk.none, OptXOk.none, OptXOk.none, OptXOk.none, OptXOk.none, OptXOk.none, OptXOk.none, OptXOk.none, OptXOk.none⟩
def xrow0_11 : N16 (Option FunX) := ⟨some fx176, some fx177, none, none, none, none, none, none, none, none, none, none, none, none, none, none⟩
theorem xrow0_11_ok : N16.allI (fun j x => OptXOk Tryz.prog (0 * 256 + 11 * 16 + j) x) xrow0_11 := ⟨tx176, tx177, OptXOk.none, OptXOk.none, OptXOk.none, OptXOk.none, OptXOk.none, OptXOk.none, OptXOk.none, OptXOk.none, OptXOk.none, OptXOk.none, OptXOk.none, OptXOk.none, OptXOk.none, OptXOk.none⟩
def xpage0 : N16 (N16 (Option FunX)) := ⟨xrow0_0, xrow0_1, xrow0_2, xrow0_3, xrow0_4, rowZX, xrow0_6, xrow0_7, xrow0_8, rowZX, rowZX, xrow0_11, rowZX, rowZX, rowZX, rowZX⟩
theorem xpage0_ok : N16.allI (fun i n => N16.allI (fun j x => OptXOk Tryz.prog (0 * 256 + i * 16 + j) x) n) xpage0 := ⟨xrow0_0_ok, xrow0_1_ok, xrow0_2_ok, xrow0_3_ok, xrow0_4_ok, (rowZX_ok fun j => OptXOk.none), xrow0_6_ok, xrow0_7_ok, xrow0_8_ok, (rowZX_ok fun j => OptXOk.none), (rowZX_ok fun j => OptXOk.none), xrow0_11_ok, (rowZX_ok fun j => OptXOk.none), (rowZX_ok fun j => OptXOk.none), (rowZX_ok fun j => OptXOk.none), (rowZX_ok fun j => OptXOk.none)⟩
def xtab : N16 (N16 (N16 (Option FunX))) := ⟨xpage0, pageZX, pageZX, pageZX, pageZX, pageZX, pageZX, pageZX, pageZX, pageZX, pageZX, pageZX, pageZX, pageZX, pageZX, pageZX⟩
theorem xtab_ok : N16.allI (fun g n => N16.allI (fun i n => N16.allI (fun j x => OptXOk Tryz.prog (g * 256 + i * 16 + j) x) n) n) xtab := ⟨xpage0_ok, pageZX_ok, pageZX_ok, pageZX_ok, pageZX_ok, pageZX_ok, pageZX_ok, pageZX_ok, pageZX_ok, pageZX_ok, pageZX_ok, pageZX_ok, pageZX_ok, pageZX_ok, pageZX_ok, pageZX_ok⟩
def codeX : FuncId → Option FunX := codeXOf xtab
theorem codeX_ok : CodeXOk Tryz.prog codeX := codeXOf_ok xtab_ok
end
end Go.Eng
