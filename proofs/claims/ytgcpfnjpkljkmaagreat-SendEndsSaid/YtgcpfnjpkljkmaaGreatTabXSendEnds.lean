/-
  The functions' table of SendEnds.
  No condition.
-/
import Derived.Test.YtgcpfnjpkljkmaaGreatEngCSendEnds
set_option linter.all false
set_option maxRecDepth 100000
namespace Go.Eng
open Go Go.Proofs

noncomputable section
def xrow0_0 : N16 (Option FunX) := ⟨none, none, none, none, none, none, none, none, some fx8, some fx9, none, some fx11, some fx12, some fx13, none, none⟩
theorem xrow0_0_ok : N16.allI (fun j x => OptXOk Tryz.prog (0 * 256 + 0 * 16 + j) x) xrow0_0 := ⟨OptXOk.none, OptXOk.none, OptXOk.none, OptXOk.none, OptXOk.none, OptXOk.none, OptXOk.none, OptXOk.none, tx8, tx9, OptXOk.none, tx11, tx12, tx13, OptXOk.none, OptXOk.none⟩
def xrow0_1 : N16 (Option FunX) := ⟨none, none, none, none, none, some fx21, none, none, some fx24, none, none, none, some fx28, none, none, none⟩
theorem xrow0_1_ok : N16.allI (fun j x => OptXOk Tryz.prog (0 * 256 + 1 * 16 + j) x) xrow0_1 := ⟨OptXOk.none, OptXOk.none, OptXOk.none, OptXOk.none, OptXOk.none, tx21, OptXOk.none, OptXOk.none, tx24, OptXOk.none, OptXOk.none, OptXOk.none, tx28, OptXOk.none, OptXOk.none, OptXOk.none⟩
def xrow0_2 : N16 (Option FunX) := ⟨none, some fx33, some fx34, some fx35, some fx36, some fx37, some fx38, none, some fx40, some fx41, some fx42, some fx43, none, none, none, none⟩
theorem xrow0_2_ok : N16.allI (fun j x => OptXOk Tryz.prog (0 * 256 + 2 * 16 + j) x) xrow0_2 := ⟨OptXOk.none, tx33, tx34, tx35, tx36, tx37, tx38, OptXOk.none, tx40, tx41, tx42, tx43, OptXOk.none, OptXOk.none, OptXOk.none, OptXOk.none⟩
def xrow0_3 : N16 (Option FunX) := ⟨none, none, none, some fx51, none, none, some fx54, some fx55, none, some fx57, none, none, none, none, none, none⟩
theorem xrow0_3_ok : N16.allI (fun j x => OptXOk Tryz.prog (0 * 256 + 3 * 16 + j) x) xrow0_3 := ⟨OptXOk.none, OptXOk.none, OptXOk.none, tx51, OptXOk.none, OptXOk.none, tx54, tx55, OptXOk.none, tx57, OptXOk.none, OptXOk.none, OptXOk.none, OptXOk.none, OptXOk.none, OptXOk.none⟩
def xrow0_4 : N16 (Option FunX) := ⟨none, none, none, none, none, none, none, none, some fx72, some fx73, none, some fx75, some fx76, some fx77, some fx78, some fx79⟩
theorem xrow0_4_ok : N16.allI (fun j x => OptXOk Tryz.prog (0 * 256 + 4 * 16 + j) x) xrow0_4 := ⟨OptXOk.none, OptXOk.none, OptXOk.none, OptXOk.none, OptXOk.none, OptXOk.none, OptXOk.none, OptXOk.none, tx72, tx73, OptXOk.none, tx75, tx76, tx77, tx78, tx79⟩
def xrow0_5 : N16 (Option FunX) := ⟨none, some fx81, some fx82, some fx83, none, none, none, some fx87, some fx88, none, none, none, none, none, none, none⟩
theorem xrow0_5_ok : N16.allI (fun j x => OptXOk Tryz.prog (0 * 256 + 5 * 16 + j) x) xrow0_5 := ⟨OptXOk.none, tx81, tx82, tx83, OptXOk.none, OptXOk.none, OptXOk.none, tx87, tx88, OptXOk.none, OptXOk.none, OptXOk.none, OptXOk.none, OptXOk.none, OptXOk.none, OptXOk.none⟩
def xrow0_6 : N16 (Option FunX) := ⟨some fx96, some fx97, some fx98, none, none, some fx101, none, none, some fx104, some fx105, some fx106, none, none, none, none, none⟩
theorem xrow0_6_ok : N16.allI (fun j x => OptXOk Tryz.prog (0 * 256 + 6 * 16 + j) x) xrow0_6 := ⟨tx96, tx97, tx98, OptXOk.none, OptXOk.none, tx101, OptXOk.none, OptXOk.none, tx104, tx105, tx106, OptXOk.none, OptXOk.none, OptXOk.none, OptXOk.none, OptXOk.none⟩
def xrow0_7 : N16 (Option FunX) := ⟨none, none, none, none, none, none, none, none, some fx120, some fx121, some fx122, some fx123, some fx124, none, none, some fx127⟩
theorem xrow0_7_ok : N16.allI (fun j x => OptXOk Tryz.prog (0 * 256 + 7 * 16 + j) x) xrow0_7 := ⟨OptXOk.none, OptXOk.none, OptXOk.none, OptXOk.none, OptXOk.none, OptXOk.none, OptXOk.none, OptXOk.none, tx120, tx121, tx122, tx123, tx124, OptXOk.none, OptXOk.none, tx127⟩
def xrow0_8 : N16 (Option FunX) := ⟨some fx128, none, none, some fx131, some fx132, none, none, none, none, none, none, none, none, none, none, none⟩
theorem xrow0_8_ok : N16.allI (fun j x => OptXOk Tryz.prog (0 * 256 + 8 * 16 + j) x) xrow0_8 := ⟨tx128, OptXOk.none, OptXOk.none, tx131, tx132, OptXOk.none, OptXOk.none, OptXOk.none, OptXOk.none, OptXOk.none, OptXOk.none, OptXOk.none, OptXOk.none, OptXOk.none, OptXOk.none, OptXOk.none⟩
def xrow0_9 : N16 (Option FunX) := ⟨none, none, none, some fx147, some fx148, some fx149, some fx150, some fx151, some fx152, none, some fx154, none, none, some fx157, some fx158, some fx159⟩
theorem xrow0_9_ok : N16.allI (fun j x => OptXOk Tryz.prog (0 * 256 + 9 * 16 + j) x) xrow0_9 := ⟨OptXOk.none, OptXOk.none, OptXOk.none, tx147, tx148, tx149, tx150, tx151, tx152, OptXOk.none, tx154, OptXOk.none, OptXOk.none, tx157, tx158, tx159⟩
def xrow0_10 : N16 (Option FunX) := ⟨some fx160, some fx161, none, none, none, none, none, none, none, none, none, none, none, none, none, some fx175⟩
theorem xrow0_10_ok : N16.allI (fun j x => OptXOk Tryz.prog (0 * 256 + 10 * 16 + j) x) xrow0_10 := ⟨tx160, tx161, OptXOk.none, OptXOk.none, OptXOk.none, OptXOk.none, OptXOk.none, OptXOk.none, OptXOk.none, OptXOk.none, OptXOk.none, OptXOk.none, OptXOk.none, OptXOk.none, OptXOk.none, tx175⟩
def xrow0_11 : N16 (Option FunX) := ⟨none, none, none, some fx179, some fx180, some fx181, none, some fx183, some fx184, some fx185, none, none, none, none, none, some fx191⟩
theorem xrow0_11_ok : N16.allI (fun j x => OptXOk Tryz.prog (0 * 256 + 11 * 16 + j) x) xrow0_11 := ⟨OptXOk.none, OptXOk.none, OptXOk.none, tx179, tx180, tx181, OptXOk.none, tx183, tx184, tx185, OptXOk.none, OptXOk.none, OptXOk.none, OptXOk.none, OptXOk.none, tx191⟩
def xrow0_12 : N16 (Option FunX) := ⟨some fx192, some fx193, some fx194, some fx195, some fx196, some fx197, none, none, none, none, none, none, none, none, none, none⟩
theorem xrow0_12_ok : N16.allI (fun j x => OptXOk Tryz.prog (0 * 256 + 12 * 16 + j) x) xrow0_12 := ⟨tx192, tx193, tx194, tx195, tx196, tx197, OptXOk.none, OptXOk.none, OptXOk.none, OptXOk.none, OptXOk.none, OptXOk.none, OptXOk.none, OptXOk.none, OptXOk.none, OptXOk.none⟩
def xrow0_13 : N16 (Option FunX) := ⟨none, none, none, none, none, none, none, none, none, none, none, none, none, none, some fx222, some fx223⟩
theorem xrow0_13_ok : N16.allI (fun j x => OptXOk Tryz.prog (0 * 256 + 13 * 16 + j) x) xrow0_13 := ⟨OptXOk.none, OptXOk.none, OptXOk.none, OptXOk.none, OptXOk.none, OptXOk.none, OptXOk.none, OptXOk.none, OptXOk.none, OptXOk.none, OptXOk.none, OptXOk.none, OptXOk.none, OptXOk.none, tx222, tx223⟩
def xrow0_14 : N16 (Option FunX) := ⟨some fx224, some fx225, some fx226, some fx227, some fx228, some fx229, none, some fx231, some fx232, some fx233, none, some fx235, none, none, some fx238, some fx239⟩
theorem xrow0_14_ok : N16.allI (fun j x => OptXOk Tryz.prog (0 * 256 + 14 * 16 + j) x) xrow0_14 := ⟨tx224, tx225, tx226, tx227, tx228, tx229, OptXOk.none, tx231, tx232, tx233, OptXOk.none, tx235, OptXOk.none, OptXOk.none, tx238, tx239⟩
def xrow0_15 : N16 (Option FunX) := ⟨some fx240, some fx241, some fx242, some fx243, none, some fx245, some fx246, none, some fx248, some fx249, some fx250, none, none, none, none, none⟩
theorem xrow0_15_ok : N16.allI (fun j x => OptXOk Tryz.prog (0 * 256 + 15 * 16 + j) x) xrow0_15 := ⟨tx240, tx241, tx242, tx243, OptXOk.none, tx245, tx246, OptXOk.none, tx248, tx249, tx250, OptXOk.none, OptXOk.none, OptXOk.none, OptXOk.none, OptXOk.none⟩
def xpage0 : N16 (N16 (Option FunX)) := ⟨xrow0_0, xrow0_1, xrow0_2, xrow0_3, xrow0_4, xrow0_5, xrow0_6, xrow0_7, xrow0_8, xrow0_9, xrow0_10, xrow0_11, xrow0_12, xrow0_13, xrow0_14, xrow0_15⟩
theorem xpage0_ok : N16.allI (fun i n => N16.allI (fun j x => OptXOk Tryz.prog (0 * 256 + i * 16 + j) x) n) xpage0 := ⟨xrow0_0_ok, xrow0_1_ok, xrow0_2_ok, xrow0_3_ok, xrow0_4_ok, xrow0_5_ok, xrow0_6_ok, xrow0_7_ok, xrow0_8_ok, xrow0_9_ok, xrow0_10_ok, xrow0_11_ok, xrow0_12_ok, xrow0_13_ok, xrow0_14_ok, xrow0_15_ok⟩
def xrow1_1 : N16 (Option FunX) := ⟨some fx272, some fx273, some fx274, none, none, none, none, none, some fx280, some fx281, some fx282, none, some fx284, none, none, some fx287⟩
theorem xrow1_1_ok : N16.allI (fun j x => OptXOk Tryz.prog (1 * 256 + 1 * 16 + j) x) xrow1_1 := ⟨tx272, tx273, tx274, OptXOk.none, OptXOk.none, OptXOk.none, OptXOk.none, OptXOk.none, tx280, tx281, tx282, OptXOk.none, tx284, OptXOk.none, OptXOk.none, tx287⟩
def xrow1_2 : N16 (Option FunX) := ⟨some fx288, some fx289, none, none, none, none, none, none, none, none, none, none, none, none, none, none⟩
theorem xrow1_2_ok : N16.allI (fun j x => OptXOk Tryz.prog (1 * 256 + 2 * 16 + j) x) xrow1_2 := ⟨tx288, tx289, OptXOk.none, OptXOk.none, OptXOk.none, OptXOk.none, OptXOk.none, OptXOk.none, OptXOk.none, OptXOk.none, OptXOk.none, OptXOk.none, OptXOk.none, OptXOk.none, OptXOk.none, OptXOk.none⟩
def xrow1_4 : N16 (Option FunX) := ⟨none, none, none, none, some fx324, some fx325, some fx326, some fx327, some fx328, some fx329, some fx330, some fx331, none, some fx333, none, none⟩
theorem xrow1_4_ok : N16.allI (fun j x => OptXOk Tryz.prog (1 * 256 + 4 * 16 + j) x) xrow1_4 := ⟨OptXOk.none, OptXOk.none, OptXOk.none, OptXOk.none, tx324, tx325, tx326, tx327, tx328, tx329, tx330, tx331, OptXOk.none, tx333, OptXOk.none, OptXOk.none⟩
def xrow1_5 : N16 (Option FunX) := ⟨none, none, some fx338, some fx339, some fx340, some fx341, some fx342, some fx343, some fx344, some fx345, none, some fx347, none, none, none, none⟩
theorem xrow1_5_ok : N16.allI (fun j x => OptXOk Tryz.prog (1 * 256 + 5 * 16 + j) x) xrow1_5 := ⟨OptXOk.none, OptXOk.none, tx338, tx339, tx340, tx341, tx342, tx343, tx344, tx345, OptXOk.none, tx347, OptXOk.none, OptXOk.none, OptXOk.none, OptXOk.none⟩
def xrow1_6 : N16 (Option FunX) := ⟨none, none, none, none, none, none, none, none, none, none, none, none, none, some fx365, some fx366, none⟩
theorem xrow1_6_ok : N16.allI (fun j x => OptXOk Tryz.prog (1 * 256 + 6 * 16 + j) x) xrow1_6 := ⟨OptXOk.none, OptXOk.none, OptXOk.none, OptXOk.none, OptXOk.none, OptXOk.none, OptXOk.none, OptXOk.none, OptXOk.none, OptXOk.none, OptXOk.none, OptXOk.none, OptXOk.none, tx365, tx366, OptXOk.none⟩
def xrow1_7 : N16 (Option FunX) := ⟨some fx368, none, some fx370, some fx371, none, none, none, none, none, none, none, none, none, none, none, some fx383⟩
theorem xrow1_7_ok : N16.allI (fun j x => OptXOk Tryz.prog (1 * 256 + 7 * 16 + j) x) xrow1_7 := ⟨tx368, OptXOk.none, tx370, tx371, OptXOk.none, OptXOk.none, OptXOk.none, OptXOk.none, OptXOk.none, OptXOk.none, OptXOk.none, OptXOk.none, OptXOk.none, OptXOk.none, OptXOk.none, tx383⟩
def xrow1_8 : N16 (Option FunX) := ⟨some fx384, some fx385, none, none, none, none, some fx390, some fx391, none, none, none, none, none, none, none, none⟩
theorem xrow1_8_ok : N16.allI (fun j x => OptXOk Tryz.prog (1 * 256 + 8 * 16 + j) x) xrow1_8 := ⟨tx384, tx385, OptXOk.none, OptXOk.none, OptXOk.none, OptXOk.none, tx390, tx391, OptXOk.none, OptXOk.none, OptXOk.none, OptXOk.none, OptXOk.none, OptXOk.none, OptXOk.none, OptXOk.none⟩
def xrow1_9 : N16 (Option FunX) := ⟨none, some fx401, none, some fx403, none, none, none, none, none, none, none, none, none, none, none, none⟩
theorem xrow1_9_ok : N16.allI (fun j x => OptXOk Tryz.prog (1 * 256 + 9 * 16 + j) x) xrow1_9 := ⟨OptXOk.none, tx401, OptXOk.none, tx403, OptXOk.none, OptXOk.none, OptXOk.none, OptXOk.none, OptXOk.none, OptXOk.none, OptXOk.none, OptXOk.none, OptXOk.none, OptXOk.none, OptXOk.none, OptXOk.none⟩
def xrow1_10 : N16 (Option FunX) := ⟨some fx416, some fx417, none, none, some fx420, none, none, none, none, none, none, some fx427, none, some fx429, none, none⟩
theorem xrow1_10_ok : N16.allI (fun j x => OptXOk Tryz.prog (1 * 256 + 10 * 16 + j) x) xrow1_10 := ⟨tx416, tx417, OptXOk.none, OptXOk.none, tx420, OptXOk.none, OptXOk.none, OptXOk.none, OptXOk.none, OptXOk.none, OptXOk.none, tx427, OptXOk.none, tx429, OptXOk.none, OptXOk.none⟩
def xpage1 : N16 (N16 (Option FunX)) := ⟨rowZX, xrow1_1, xrow1_2, rowZX, xrow1_4, xrow1_5, xrow1_6, xrow1_7, xrow1_8, xrow1_9, xrow1_10, rowZX, rowZX, rowZX, rowZX, rowZX⟩
theorem xpage1_ok : N16.allI (fun i n => N16.allI (fun j x => OptXOk Tryz.prog (1 * 256 + i * 16 + j) x) n) xpage1 := ⟨(rowZX_ok fun j => OptXOk.none), xrow1_1_ok, xrow1_2_ok, (rowZX_ok fun j => OptXOk.none), xrow1_4_ok, xrow1_5_ok, xrow1_6_ok, xrow1_7_ok, xrow1_8_ok, xrow1_9_ok, xrow1_10_ok, (rowZX_ok fun j => OptXOk.none), (rowZX_ok fun j => OptXOk.none), (rowZX_ok fun j => OptXOk.none), (rowZX_ok fun j => OptXOk.none), (rowZX_ok fun j => OptXOk.none)⟩
def xtab : N16 (N16 (N16 (Option FunX))) := ⟨xpage0, xpage1, pageZX, pageZX, pageZX, pageZX, pageZX, pageZX, pageZX, pageZX, pageZX, pageZX, pageZX, pageZX, pageZX, pageZX⟩
theorem xtab_ok : N16.allI (fun g n => N16.allI (fun i n => N16.allI (fun j x => OptXOk Tryz.prog (g * 256 + i * 16 + j) x) n) n) xtab := ⟨xpage0_ok, xpage1_ok, pageZX_ok, pageZX_ok, pageZX_ok, pageZX_ok, pageZX_ok, pageZX_ok, pageZX_ok, pageZX_ok, pageZX_ok, pageZX_ok, pageZX_ok, pageZX_ok, pageZX_ok, pageZX_ok⟩
def codeX : FuncId → Option FunX := codeXOf xtab
theorem codeX_ok : CodeXOk Tryz.prog codeX := codeXOf_ok xtab_ok
end
end Go.Eng
