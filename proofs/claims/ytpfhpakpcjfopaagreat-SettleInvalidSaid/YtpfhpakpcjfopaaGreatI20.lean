/-
  SettleInvalid up to what is held, run by the machine.
  The list's numbers come in as what the oracle says of each draw.
-/
import Derived.Test.YtpfhpakpcjfopaaGreatI19
import Derived.KernelRfl
set_option linter.all false
set_option maxRecDepth 100000
set_option maxHeartbeats 8000000
namespace Go.M
open Go Go.Proofs
theorem h_a [aB]:gU (seg jI (sL bV.sc) Vx [] 0 [] [] H0)=aQ ((H0.fr=H0.fr)::(H0.bl=H0.bl)::[]):=by kernel_rfl
theorem h_b [aB] (n:Int):gU (seg jI (sL (sR bV.sc)) H0 [SI n,F_] 0 [] [] H1)=aQ ((H1.fr=H1.fr)::(H1.bl=H1.bl)::[pQ .gtr (SI n) (z 1280) F_,zQ TK (SI n)]):=by kernel_rfl
theorem h_x [aB] (n:Int):gU (Gq jI bV.res (sR bV.sc) H0 [SI n,T_])=aQ [pQ .gtr (SI n) (z 1280) T_,zQ TK (SI n)]:=by show _=_;kernel_rfl
theorem h_n [aB]:gU (seg jI (sL (sR (sR bV.sc))) H1 [⟨1,[],oZ⟩] 0 [0] [] H2)=aQ ((H2.fr=H2.fr)::(H2.bl=H2.bl)::[((⟨13,[],gV⟩:X)=⟨13,[],gV⟩)]):=by kernel_rfl
theorem GJ [aB] (k:Int):gU (seg jI (sL (sR (sR (sR bV.sc)))) H2 [(z 0),(SI k)] 0 [0] [] (uj k))=aQ (((uj k).fr=(uj k).fr)::((uj k).bl=(uj k).bl)::[DF (z 0) 64 (z 0) k,True]):=by kernel_rfl
theorem avw [aB] (k0 k:Int):gU (seg jI (sL (sR (sR (sR (sR bV.sc))))) (uj k0) [(z 0),(SI k)] 0 [0,2,6,13,18,120,169,279,281,283,289,388,390,392,394,502,509,511,512,513,514] [] (qg k))=aQ (((qg k).fr=(qg k).fr)::((qg k).bl=(qg k).bl)::[DF (SI k0) 128 (z 0) k,True]):=by kernel_rfl
theorem avx [aB] (k0 k:Int):gU (seg jI (sL (sR (sR (sR (sR bV.sc))))) (uj k0) [(z 32),(SI k)] 0 [0,2,6,13,18,120,169,172,323,395,543,546,549,557,698,737,739,741,743,863,870,872,873,874,875] [] (jJ k))=aQ (((jJ k).fr=(jJ k).fr)::((jJ k).bl=(jJ k).bl)::[DF (SI k0) 128 (z 32) k,True]):=by kernel_rfl
theorem avy [aB] (k0 k:Int):gU (seg jI (sL (sR (sR (sR (sR bV.sc))))) (uj k0) [(z 64),(SI k)] 0 [0,2,6,13,18,120,169,172,323,395,398,583,677,870,1061,1100,1102,1104,1106,1232,1235,1238,1244,1288,1295,1371,1373,1375,1377,1378,1379,1381] [] (gJ k))=aQ (((gJ k).fr=(gJ k).fr)::((gJ k).bl=(gJ k).bl)::[DF (SI k0) 128 (z 64) k,True]):=by kernel_rfl
theorem avz [aB] (k0 k:Int):gU (seg jI (sL (sR (sR (sR (sR bV.sc))))) (uj k0) [(z 96),(SI k)] 0 [0,2,6,13,18,120,169,172,323,395,398,583,677,680,899,1015,1238,1475,1514,1516,1518,1520,1686,1689,1692,1700,1752,1759,1869,1908,1910,1912,1914,1915,1916,1918] [] (eX k))=aQ (((eX k).fr=(eX k).fr)::((eX k).bl=(eX k).bl)::[DF (SI k0) 128 (z 96) k,True]):=by kernel_rfl
theorem GK [aB] (k:Int):gU (seg jI (sL (sR (sR (sR bV.sc)))) H2 [(z 32),(SI k)] 0 [0] [] (ul k))=aQ (((ul k).fr=(ul k).fr)::((ul k).bl=(ul k).bl)::[DF (z 0) 64 (z 32) k,True]):=by kernel_rfl
theorem avA [aB] (k0 k:Int):gU (seg jI (sL (sR (sR (sR (sR bV.sc))))) (ul k0) [(z 0),(SI k)] 0 [0,4,8,10,21,126,175,360,362,364,370,469,471,473,475,658,665,667,668,669,670] [] (qh k))=aQ (((qh k).fr=(qh k).fr)::((qh k).bl=(qh k).bl)::[DF (SI k0) 128 (z 0) k,True]):=by kernel_rfl
theorem avB [aB] (k0 k:Int):gU (seg jI (sL (sR (sR (sR (sR bV.sc))))) (ul k0) [(z 32),(SI k)] 0 [0,4,8,10,21,126,175,178,332,404,627,630,633,641,782,821,823,825,827,1022,1029,1031,1032,1033,1034] [] (jK k))=aQ (((jK k).fr=(jK k).fr)::((jK k).bl=(jK k).bl)::[DF (SI k0) 128 (z 32) k,True]):=by kernel_rfl
theorem avC [aB] (k0 k:Int):gU (seg jI (sL (sR (sR (sR (sR bV.sc))))) (ul k0) [(z 64),(SI k)] 0 [0,4,8,10,21,126,175,178,332,404,407,595,689,957,1148,1187,1189,1191,1193,1322,1325,1328,1334,1378,1385,1461,1463,1465,1467,1468,1469,1471] [] (gK k))=aQ (((gK k).fr=(gK k).fr)::((gK k).bl=(gK k).bl)::[DF (SI k0) 128 (z 64) k,True]):=by kernel_rfl
theorem avD [aB] (k0 k:Int):gU (seg jI (sL (sR (sR (sR (sR bV.sc))))) (ul k0) [(z 96),(SI k)] 0 [0,4,8,10,21,126,175,178,332,404,407,595,689,692,914,1030,1328,1565,1604,1606,1608,1610,1779,1782,1785,1793,1845,1852,1962,2001,2003,2005,2007,2008,2009,2011] [] (eY k))=aQ (((eY k).fr=(eY k).fr)::((eY k).bl=(eY k).bl)::[DF (SI k0) 128 (z 96) k,True]):=by kernel_rfl
end Go.M
