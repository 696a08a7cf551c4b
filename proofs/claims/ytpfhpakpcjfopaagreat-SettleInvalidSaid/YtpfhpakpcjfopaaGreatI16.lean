/-
  The reader of a list of numbers: what its functions do.
  No condition.
-/
import Derived.Test.YtpfhpakpcjfopaaGreatI15
import Derived.Test.YtpfhpakpcjfopaaGreatI13
set_option linter.all false
set_option maxRecDepth 100000
set_option maxHeartbeats 8000000
namespace Go.M
open Go Go.Proofs
noncomputable section
theorem ave [l:aB]:iy Tryz.prog 9 (Gs fM aA fK):=anH ⟨Tryz.f9,Tryz.func9,by kernel_rfl,by kernel_rfl⟩ fun p i n w w0 hΦ ho hpb hp hpi hz hi hn hnm=>by
 obtain ⟨b,o,s⟩:=p
 obtain rfl:s=none:=cell_spot hp
 have hp1:w.cell? ⟨b,o+1,none⟩=some (.int .i64 i):=hpi
 have hz1:w.frozen? ⟨b,o+1,none⟩=false:=hz
 by_cases h:i<aA
 ·obtain ⟨lb,lo,h1,h2,h3⟩:=rW.some hΦ h
  have h4:=Tq ho h2
  have hlb:lb≠b:=fun e=>by have h3:lb<w0.heap.size:=h3;have hpb:w0.heap.size<=b:=hpb;omega
  rw [anP h1] at hp
  refine (avb b o aA l.cap i lb lo n _ w hp hp1 hz1 h4 hlb h anK anL hn hnm).mono fun e w' hh=> ?_
  rw [anQ h,anS h]
  exact hh
 ·refine (ava b o aA l.cap i n l.a w hp hp1 (by omega) hn).mono fun e w' hh=> ?_
  rw [anR h,anT h,anF hpi]
  exact hh
theorem avf [l:aB]:iy Tryz.prog 5 (Gt gV fM):=anJ ⟨Tryz.f5,Tryz.func5,by kernel_rfl,by kernel_rfl⟩ anM fun w=>by
 by_cases h:l.len<=4000
 ·rw [anN h];exact avc _ _ _ w h
 ·rw [anO (by omega)];exact avd _ _ _ w (by omega) l.h
def wh [l:aB] (f:Nat):FC:=cnd (Nat.beq f 9) (Gs fM aA fK) (cnd (Nat.beq f 5) (Gt gV fM) (hkN f))
theorem ad4 [l:aB]:gu Tryz.prog wh:=fun g=>by
 show iy Tryz.prog g (cnd (Nat.beq g 9) (Gs fM aA fK) (cnd (Nat.beq g 5) (Gt gV fM) (hkN g)))
 cases h1:Nat.beq g 9 with
 |true=>rw [aC h1];exact ave
 |false=>cases h2:Nat.beq g 5 with
  |true=>rw [aC h2];exact avf
  |false=>exact ad3 g
end
end Go.M
