/-
  The functions' table of MachineLimits.
  No condition.
-/
import Derived.Test.YtfcecgfjjamlcaaGreatEngCMachineLimits
set_option linter.all false
set_option maxRecDepth 100000
namespace Go.Eng
open Go Go.Proofs

noncomputable section
def xrow0_0 : N16 (Option FunX) := ⟨none, none, none, none, none, none, none, some fx7, none, none, none, none, none, none, some fx14, some fx15⟩
theorem xrow0_0_ok : N16.allI (fun j x => OptXOk Tryz.prog (0 * 256 + 0 * 16 + j) x) xrow0_0 := ⟨OptXOk.none, OptXOk.none, OptXOk.none, OptXOk.none, OptXOk.none, OptXOk.none, OptXOk.none, tx7, OptXOk.none, OptXOk.none, OptXOk.none, OptXOk.none, OptXOk.none, OptXOk.none, tx14, tx15⟩
def xrow0_1 : N16 (Option FunX) := ⟨some fx16, some fx17, some fx18, some fx19, none, none, none, none, none, none, none, none, none, some fx29, some fx30, some fx31⟩
theorem xrow0_1_ok : N16.allI (fun j x => OptXOk Tryz.prog (0 * 256 + 1 * 16 + j) x) xrow0_1 := ⟨tx16, tx17, tx18, tx19, OptXOk.none, OptXOk.none, OptXOk.none, OptXOk.none, OptXOk.none, OptXOk.none, OptXOk.none, OptXOk.none, OptXOk.none, tx29, tx30, tx31⟩
def xrow0_2 : N16 (Option FunX) := ⟨some fx32, some fx33, some fx34, some fx35, some fx36, none, none, none, none, none, none, none, some fx44, some fx45, none, none⟩
theorem xrow0_2_ok : N16.allI (fun j x => OptXOk Tryz.prog (0 * 256 + 2 * 16 + j) x) xrow0_2 := ⟨tx32, tx33, tx34, tx35, tx36, OptXOk.none, OptXOk.none, OptXOk.none, OptXOk.none, OptXOk.none, OptXOk.none, OptXOk.none, tx44, tx45, OptXOk.none, OptXOk.none⟩
def xrow0_3 : N16 (Option FunX) := ⟨none, none, none, none, some fx52, some fx53, some fx54, some fx55, some fx56, some fx57, some fx58, some fx59, some fx60, some fx61, none, none⟩
theorem xrow0_3_ok : N16.allI (fun j x => OptXOk Tryz.prog (0 * 256 + 3 * 16 + j) x) xrow0_3 := ⟨OptXOk.none, OptXOk.none, OptXOk.none, OptXOk.none, tx52, tx53, tx54, tx55, tx56, tx57, tx58, tx59, tx60, tx61, OptXOk.none, OptXOk.none⟩
def xrow0_4 : N16 (Option FunX) := ⟨none, none, none, none, none, none, none, none, none, none, none, some fx75, some fx76, some fx77, some fx78, some fx79⟩
theorem xrow0_4_ok : N16.allI (fun j x => OptXOk Tryz.prog (0 * 256 + 4 * 16 + j) x) xrow0_4 := ⟨OptXOk.none, OptXOk.none, OptXOk.none, OptXOk.none, OptXOk.none, OptXOk.none, OptXOk.none, OptXOk.none, OptXOk.none, OptXOk.none, OptXOk.none, tx75, tx76, tx77, tx78, tx79⟩
def xrow0_5 : N16 (Option FunX) := ⟨some fx80, none, none, some fx83, none, none, none, none, none, none, none, none, none, none, none, none⟩
theorem xrow0_5_ok : N16.allI (fun j x => OptXOk Tryz.prog (0 * 256 + 5 * 16 + j) x) xrow0_5 := ⟨tx80, OptXOk.none, OptXOk.none, tx83, OptXOk.none, OptXOk.none, OptXOk.none, OptXOk.none, OptXOk.none, OptXOk.none, OptXOk.none, OptXOk.none, OptXOk.none, OptXOk.none, OptXOk.none, OptXOk.none⟩
def xrow0_6 : N16 (Option FunX) := ⟨none, none, none, some fx99, some fx100, some fx101, none, some fx103, some fx104, some fx105, none, some fx107, none, none, none, none⟩
theorem xrow0_6_ok : N16.allI (fun j x => OptXOk Tryz.prog (0 * 256 + 6 * 16 + j) x) xrow0_6 := ⟨OptXOk.none, OptXOk.none, OptXOk.none, tx99, tx100, tx101, OptXOk.none, tx103, tx104, tx105, OptXOk.none, tx107, OptXOk.none, OptXOk.none, OptXOk.none, OptXOk.none⟩
def xrow0_7 : N16 (Option FunX) := ⟨none, none, none, none, none, none, none, none, none, none, none, none, none, none, some fx126, some fx127⟩
theorem xrow0_7_ok : N16.allI (fun j x => OptXOk Tryz.prog (0 * 256 + 7 * 16 + j) x) xrow0_7 := ⟨OptXOk.none, OptXOk.none, OptXOk.none, OptXOk.none, OptXOk.none, OptXOk.none, OptXOk.none, OptXOk.none, OptXOk.none, OptXOk.none, OptXOk.none, OptXOk.none, OptXOk.none, OptXOk.none, tx126, tx127⟩
def xrow0_8 : N16 (Option FunX) := ⟨some fx128, some fx129, some fx130, some fx131, some fx132, some fx133, some fx134, some fx135, none, none, none, some fx139, some fx140, none, none, none⟩
theorem xrow0_8_ok : N16.allI (fun j x => OptXOk Tryz.prog (0 * 256 + 8 * 16 + j) x) xrow0_8 := ⟨tx128, tx129, tx130, tx131, tx132, tx133, tx134, tx135, OptXOk.none, OptXOk.none, OptXOk.none, tx139, tx140, OptXOk.none, OptXOk.none, OptXOk.none⟩
def xrow0_11 : N16 (Option FunX) := ⟨some fx176, some fx177, some fx178, none, some fx180, some fx181, some fx182, some fx183, some fx184, none, none, none, none, none, some fx190, some fx191⟩
theorem xrow0_11_ok : N16.allI (fun j x => OptXOk Tryz.prog (0 * 256 + 11 * 16 + j) x) xrow0_11 := ⟨tx176, tx177, tx178, OptXOk.none, tx180, tx181, tx182, tx183, tx184, OptXOk.none, OptXOk.none, OptXOk.none, OptXOk.none, OptXOk.none, tx190, tx191⟩
def xrow0_12 : N16 (Option FunX) := ⟨some fx192, none, none, none, none, none, none, none, none, none, none, none, none, none, none, none⟩
theorem xrow0_12_ok : N16.allI (fun j x => OptXOk Tryz.prog (0 * 256 + 12 * 16 + j) x) xrow0_12 := ⟨tx192, OptXOk.none, OptXOk.none, OptXOk.none, OptXOk.none, OptXOk.none, OptXOk.none, OptXOk.none, OptXOk.none, OptXOk.none, OptXOk.none, OptXOk.none, OptXOk.none, OptXOk.none, OptXOk.none, OptXOk.none⟩
def xrow0_13 : N16 (Option FunX) := ⟨none, none, none, none, none, none, none, none, none, none, none, some fx219, none, none, some fx222, some fx223⟩
theorem xrow0_13_ok : N16.allI (fun j x => OptXOk Tryz.prog (0 * 256 + 13 * 16 + j) x) xrow0_13 := ⟨OptXOk.none, OptXOk.none, OptXOk.none, OptXOk.none, OptXOk.none, OptXOk.none, OptXOk.none, OptXOk.none, OptXOk.none, OptXOk.none, OptXOk.none, tx219, OptXOk.none, OptXOk.none, tx222, tx223⟩
def xrow0_14 : N16 (Option FunX) := ⟨some fx224, some fx225, some fx226, some fx227, none, some fx229, some fx230, some fx231, none, some fx233, none, none, some fx236, some fx237, some fx238, none⟩
theorem xrow0_14_ok : N16.allI (fun j x => OptXOk Tryz.prog (0 * 256 + 14 * 16 + j) x) xrow0_14 := ⟨tx224, tx225, tx226, tx227, OptXOk.none, tx229, tx230, tx231, OptXOk.none, tx233, OptXOk.none, OptXOk.none, tx236, tx237, tx238, OptXOk.none⟩
def xrow0_15 : N16 (Option FunX) := ⟨none, some fx241, none, some fx243, none, none, none, none, none, none, none, none, none, none, none, none⟩
theorem xrow0_15_ok : N16.allI (fun j x => OptXOk Tryz.prog (0 * 256 + 15 * 16 + j) x) xrow0_15 := ⟨OptXOk.none, tx241, OptXOk.none, tx243, OptXOk.none, OptXOk.none, OptXOk.none, OptXOk.none, OptXOk.none, OptXOk.none, OptXOk.none, OptXOk.none, OptXOk.none, OptXOk.none, OptXOk.none, OptXOk.none⟩
def xpage0 : N16 (N16 (Option FunX)) := ⟨xrow0_0, xrow0_1, xrow0_2, xrow0_3, xrow0_4, xrow0_5, xrow0_6, xrow0_7, xrow0_8, rowZX, rowZX, xrow0_11, xrow0_12, xrow0_13, xrow0_14, xrow0_15⟩
theorem xpage0_ok : N16.allI (fun i n => N16.allI (fun j x => OptXOk Tryz.prog (0 * 256 + i * 16 + j) x) n) xpage0 := ⟨xrow0_0_ok, xrow0_1_ok, xrow0_2_ok, xrow0_3_ok, xrow0_4_ok, xrow0_5_ok, xrow0_6_ok, xrow0_7_ok, xrow0_8_ok, (rowZX_ok fun j => OptXOk.none), (rowZX_ok fun j => OptXOk.none), xrow0_11_ok, xrow0_12_ok, xrow0_13_ok, xrow0_14_ok, xrow0_15_ok⟩
def xrow1_2 : N16 (Option FunX) := ⟨none, none, none, none, none, none, some fx294, some fx295, some fx296, none, none, none, none, none, none, none⟩
theorem xrow1_2_ok : N16.allI (fun j x => OptXOk Tryz.prog (1 * 256 + 2 * 16 + j) x) xrow1_2 := ⟨OptXOk.none, OptXOk.none, OptXOk.none, OptXOk.none, OptXOk.none, OptXOk.none, tx294, tx295, tx296, OptXOk.none, OptXOk.none, OptXOk.none, OptXOk.none, OptXOk.none, OptXOk.none, OptXOk.none⟩
def xrow1_4 : N16 (Option FunX) := ⟨none, none, none, none, none, none, none, some fx327, some fx328, some fx329, some fx330, some fx331, some fx332, some fx333, some fx334, some fx335⟩
theorem xrow1_4_ok : N16.allI (fun j x => OptXOk Tryz.prog (1 * 256 + 4 * 16 + j) x) xrow1_4 := ⟨OptXOk.none, OptXOk.none, OptXOk.none, OptXOk.none, OptXOk.none, OptXOk.none, OptXOk.none, tx327, tx328, tx329, tx330, tx331, tx332, tx333, tx334, tx335⟩
def xrow1_5 : N16 (Option FunX) := ⟨none, some fx337, some fx338, some fx339, none, some fx341, none, none, some fx344, some fx345, some fx346, some fx347, some fx348, some fx349, none, some fx351⟩
theorem xrow1_5_ok : N16.allI (fun j x => OptXOk Tryz.prog (1 * 256 + 5 * 16 + j) x) xrow1_5 := ⟨OptXOk.none, tx337, tx338, tx339, OptXOk.none, tx341, OptXOk.none, OptXOk.none, tx344, tx345, tx346, tx347, tx348, tx349, OptXOk.none, tx351⟩
def xrow1_6 : N16 (Option FunX) := ⟨none, some fx353, some fx354, some fx355, some fx356, some fx357, some fx358, none, none, none, none, some fx363, none, none, none, none⟩
theorem xrow1_6_ok : N16.allI (fun j x => OptXOk Tryz.prog (1 * 256 + 6 * 16 + j) x) xrow1_6 := ⟨OptXOk.none, tx353, tx354, tx355, tx356, tx357, tx358, OptXOk.none, OptXOk.none, OptXOk.none, OptXOk.none, tx363, OptXOk.none, OptXOk.none, OptXOk.none, OptXOk.none⟩
def xrow1_8 : N16 (Option FunX) := ⟨none, none, none, none, none, some fx389, some fx390, none, some fx392, some fx393, some fx394, none, none, none, none, none⟩
theorem xrow1_8_ok : N16.allI (fun j x => OptXOk Tryz.prog (1 * 256 + 8 * 16 + j) x) xrow1_8 := ⟨OptXOk.none, OptXOk.none, OptXOk.none, OptXOk.none, OptXOk.none, tx389, tx390, OptXOk.none, tx392, tx393, tx394, OptXOk.none, OptXOk.none, OptXOk.none, OptXOk.none, OptXOk.none⟩
def xrow1_9 : N16 (Option FunX) := ⟨none, none, none, some fx403, none, none, none, none, none, some fx409, some fx410, none, some fx412, none, none, none⟩
theorem xrow1_9_ok : N16.allI (fun j x => OptXOk Tryz.prog (1 * 256 + 9 * 16 + j) x) xrow1_9 := ⟨OptXOk.none, OptXOk.none, OptXOk.none, tx403, OptXOk.none, OptXOk.none, OptXOk.none, OptXOk.none, OptXOk.none, tx409, tx410, OptXOk.none, tx412, OptXOk.none, OptXOk.none, OptXOk.none⟩
def xrow1_10 : N16 (Option FunX) := ⟨none, none, none, none, none, some fx421, some fx422, some fx423, some fx424, some fx425, some fx426, some fx427, some fx428, none, none, none⟩
theorem xrow1_10_ok : N16.allI (fun j x => OptXOk Tryz.prog (1 * 256 + 10 * 16 + j) x) xrow1_10 := ⟨OptXOk.none, OptXOk.none, OptXOk.none, OptXOk.none, OptXOk.none, tx421, tx422, tx423, tx424, tx425, tx426, tx427, tx428, OptXOk.none, OptXOk.none, OptXOk.none⟩
def xrow1_11 : N16 (Option FunX) := ⟨none, some fx433, some fx434, some fx435, some fx436, some fx437, some fx438, none, some fx440, none, none, none, none, none, none, none⟩
theorem xrow1_11_ok : N16.allI (fun j x => OptXOk Tryz.prog (1 * 256 + 11 * 16 + j) x) xrow1_11 := ⟨OptXOk.none, tx433, tx434, tx435, tx436, tx437, tx438, OptXOk.none, tx440, OptXOk.none, OptXOk.none, OptXOk.none, OptXOk.none, OptXOk.none, OptXOk.none, OptXOk.none⟩
def xrow1_13 : N16 (Option FunX) := ⟨none, none, none, none, none, none, none, none, none, none, some fx474, none, none, none, none, none⟩
theorem xrow1_13_ok : N16.allI (fun j x => OptXOk Tryz.prog (1 * 256 + 13 * 16 + j) x) xrow1_13 := ⟨OptXOk.none, OptXOk.none, OptXOk.none, OptXOk.none, OptXOk.none, OptXOk.none, OptXOk.none, OptXOk.none, OptXOk.none, OptXOk.none, tx474, OptXOk.none, OptXOk.none, OptXOk.none, OptXOk.none, OptXOk.none⟩
def xrow1_14 : N16 (Option FunX) := ⟨none, some fx481, none, none, none, none, none, some fx487, some fx488, some fx489, none, none, some fx492, some fx493, none, none⟩
theorem xrow1_14_ok : N16.allI (fun j x => OptXOk Tryz.prog (1 * 256 + 14 * 16 + j) x) xrow1_14 := ⟨OptXOk.none, tx481, OptXOk.none, OptXOk.none, OptXOk.none, OptXOk.none, OptXOk.none, tx487, tx488, tx489, OptXOk.none, OptXOk.none, tx492, tx493, OptXOk.none, OptXOk.none⟩
def xrow1_15 : N16 (Option FunX) := ⟨none, none, some fx498, none, none, some fx501, none, none, none, none, none, none, none, none, none, none⟩
theorem xrow1_15_ok : N16.allI (fun j x => OptXOk Tryz.prog (1 * 256 + 15 * 16 + j) x) xrow1_15 := ⟨OptXOk.none, OptXOk.none, tx498, OptXOk.none, OptXOk.none, tx501, OptXOk.none, OptXOk.none, OptXOk.none, OptXOk.none, OptXOk.none, OptXOk.none, OptXOk.none, OptXOk.none, OptXOk.none, OptXOk.none⟩
def xpage1 : N16 (N16 (Option FunX)) := ⟨rowZX, rowZX, xrow1_2, rowZX, xrow1_4, xrow1_5, xrow1_6, rowZX, xrow1_8, xrow1_9, xrow1_10, xrow1_11, rowZX, xrow1_13, xrow1_14, xrow1_15⟩
theorem xpage1_ok : N16.allI (fun i n => N16.allI (fun j x => OptXOk Tryz.prog (1 * 256 + i * 16 + j) x) n) xpage1 := ⟨(rowZX_ok fun j => OptXOk.none), (rowZX_ok fun j => OptXOk.none), xrow1_2_ok, (rowZX_ok fun j => OptXOk.none), xrow1_4_ok, xrow1_5_ok, xrow1_6_ok, (rowZX_ok fun j => OptXOk.none), xrow1_8_ok, xrow1_9_ok, xrow1_10_ok, xrow1_11_ok, (rowZX_ok fun j => OptXOk.none), xrow1_13_ok, xrow1_14_ok, xrow1_15_ok⟩
def xrow2_1 : N16 (Option FunX) := ⟨none, some fx529, some fx530, none, none, none, none, none, none, none, none, none, none, none, none, none⟩
theorem xrow2_1_ok : N16.allI (fun j x => OptXOk Tryz.prog (2 * 256 + 1 * 16 + j) x) xrow2_1 := ⟨OptXOk.none, tx529, tx530, OptXOk.none, OptXOk.none, OptXOk.none, OptXOk.none, OptXOk.none, OptXOk.none, OptXOk.none, OptXOk.none, OptXOk.none, OptXOk.none, OptXOk.none, OptXOk.none, OptXOk.none⟩
def xpage2 : N16 (N16 (Option FunX)) := ⟨rowZX, xrow2_1, rowZX, rowZX, rowZX, rowZX, rowZX, rowZX, rowZX, rowZX, rowZX, rowZX, rowZX, rowZX, rowZX, rowZX⟩
theorem xpage2_ok : N16.allI (fun i n => N16.allI (fun j x => OptXOk Tryz.prog (2 * 256 + i * 16 + j) x) n) xpage2 := ⟨(rowZX_ok fun j => OptXOk.none), xrow2_1_ok, (rowZX_ok fun j => OptXOk.none), (rowZX_ok fun j => OptXOk.none), (rowZX_ok fun j => OptXOk.none), (rowZX_ok fun j => OptXOk.none), (rowZX_ok fun j => OptXOk.none), (rowZX_ok fun j => OptXOk.none), (rowZX_ok fun j => OptXOk.none), (rowZX_ok fun j => OptXOk.none), (rowZX_ok fun j => OptXOk.none), (rowZX_ok fun j => OptXOk.none), (rowZX_ok fun j => OptXOk.none), (rowZX_ok fun j => OptXOk.none), (rowZX_ok fun j => OptXOk.none), (rowZX_ok fun j => OptXOk.none)⟩
def xtab : N16 (N16 (N16 (Option FunX))) := ⟨xpage0, xpage1, xpage2, pageZX, pageZX, pageZX, pageZX, pageZX, pageZX, pageZX, pageZX, pageZX, pageZX, pageZX, pageZX, pageZX⟩
theorem xtab_ok : N16.allI (fun g n => N16.allI (fun i n => N16.allI (fun j x => OptXOk Tryz.prog (g * 256 + i * 16 + j) x) n) n) xtab := ⟨xpage0_ok, xpage1_ok, xpage2_ok, pageZX_ok, pageZX_ok, pageZX_ok, pageZX_ok, pageZX_ok, pageZX_ok, pageZX_ok, pageZX_ok, pageZX_ok, pageZX_ok, pageZX_ok, pageZX_ok, pageZX_ok⟩
def codeX : FuncId → Option FunX := codeXOf xtab
theorem codeX_ok : CodeXOk Tryz.prog codeX := codeXOf_ok xtab_ok
end
end Go.Eng
