/-
  Part of a proof: lemmas and definitions of this work.
  No condition.
-/
import Derived.Test.YthhjbngoibmpgaaGreatH08
import Derived.Test.YthhjbngoibmpgaaGreatH11
set_option linter.all false
set_option maxRecDepth 100000
set_option maxHeartbeats 8000000
namespace Go.Eng
open Go
section
variable {n:Nat} {a:ai} {s:ah} {task:Int}
theorem ah.aa6 (ha:a.wf n) (h:s.wf n) (hp:s.phase=1) (e:(s.mark a task).2.2=0):
 (s.mark a task).1.wf n/\(s.mark a task).2.1.wf n/\(s.mark a task).2.1.lock.cells=s.lock.cells:=by
 obtain ⟨h1,h2,h3,h4,h5⟩:=h.p1 hp
 have hK:=rA n s.lock.cells
 unfold ah.mark at e ⊢
 simp only [Int.tdiv_eq_ediv_of_nonneg h3,Int.tmod_eq_emod_of_nonneg h3] at e ⊢
 split
 ·rename_i hc
  simp at hc
  refine ⟨ha,⟨h.lk,fun q=> ?_,fun q=>⟨h1,h2,?_,?_,?_⟩,fun q=> ?_,fun q=> ?_,fun q=> ?_,fun q=> ?_,fun q=> ?_,fun q=> ?_,fun q=> ?_,fun q=> ?_,h.lo,h.hi⟩,rfl⟩<;>simp only at* <;>try omega
  rw [List.length_append,h5]
  simp only [List.length_cons,List.length_nil]
  omega
 ·rename_i hc;rw [if_neg hc] at e
  simp at hc
  split
  ·rename_i hd;rw [if_pos hd] at e;exact absurd e hd
  ·rename_i hd;rw [if_neg hd] at e
   simp only at e
   have hs:=ai.OM ha e
   refine ⟨hs,?_,?_⟩
   ·have hl:(s.aH.take (s.at_ / 2).toNat++[(fC s.aH (s.at_ / 2).toNat).begin.1]).length=((s.at_+1) / 2).toNat:=by
     rw [List.length_append,List.length_take,h5]
     simp only [List.length_cons,List.length_nil]
     omega
    split
    ·rename_i hq
     simp only [Bool.and_eq_true,beq_iff_eq,ah.Hw hs] at hq
     have hl1:=h.lk.l1
     refine ⟨h.lk,fun q=> ?_,fun q=> ?_,fun q=>⟨h1,?_,?_,?_,?_⟩,fun q=> ?_,fun q=> ?_,fun q=> ?_,fun q=> ?_,fun q=> ?_,fun q=> ?_,fun q=> ?_,by simp [ah.enter],by simp [ah.enter]⟩<;>simp only [ah.enter] at* <;>try omega
     rw [h2];simp
    ·rename_i hq
     simp only [e,ah.Hw hs,beq_self_eq_true,Bool.true_and,beq_iff_eq] at hq
     refine ⟨h.lk,fun q=> ?_,fun q=>⟨h1,h2,?_,?_,?_⟩,fun q=> ?_,fun q=> ?_,fun q=> ?_,fun q=> ?_,fun q=> ?_,fun q=> ?_,fun q=> ?_,fun q=> ?_,h.lo,h.hi⟩<;>simp only at* <;>try omega
   ·split<;>rfl
theorem ah.aa7 (ha:a.wf n) (h:s.wf n) (hp:s.phase=2) (e:(s.load a).2.2=0):
 (s.load a).1.wf n/\(s.load a).2.1.wf n/\(s.load a).2.1.lock.cells=s.lock.cells:=by
 obtain ⟨h1,h2,h3,h4,h5⟩:=h.p2 hp
 have hK:=rA n s.lock.cells
 unfold ah.load at e ⊢
 simp only at e ⊢
 refine ⟨ha,?_⟩
 have key:∀ (y:ah×Int),(if (gI s.lock.cells s.at_.toNat==(a.slots.length:Int))=true then ({s with dead:=a.dead.dead},(0:Int)) else ({s with aA:=s.aA++[(a.fD (gI s.lock.cells s.at_.toNat)).1]},(a.fD (gI s.lock.cells s.at_.toNat)).2))=y->
  y.1.lock=s.lock/\y.1.phase=s.phase/\y.1.aH=s.aH/\y.1.out=s.out/\y.1.aA.length=min (s.at_.toNat+1) (bE n s.lock.cells):=by
  intro y hy
  have hc0:gI s.lock.cells s.at_.toNat<=n:=(vN h.lk.pI (i:=s.at_.toNat) (by omega)).2
  split at hy
  ·rename_i hc
   subst hy
   refine ⟨rfl,rfl,rfl,rfl,?_⟩
   simp only [beq_iff_eq,ha.sl] at hc
   have:¬ s.at_.toNat<bE n s.lock.cells:=fun hlt=>by have:=OZ _ _ h.lk.oh hlt;omega
   simp only
   omega
  ·rename_i hc
   subst hy
   refine ⟨rfl,rfl,rfl,rfl,?_⟩
   have hne:gI s.lock.cells s.at_.toNat≠(n:Int):=fun he=>hc (by rw [he,ha.sl];simp)
   have:=Hy (n:=n) s.lock.cells s.at_.toNat h.lk.oh (by omega) (by omega)
   simp only [List.length_append,List.length_cons,List.length_nil,h5]
   omega
 generalize hy:(if (gI s.lock.cells s.at_.toNat==(a.slots.length:Int))=true then ({s with dead:=a.dead.dead},(0:Int)) else ({s with aA:=s.aA++[(a.fD (gI s.lock.cells s.at_.toNat)).1]},(a.fD (gI s.lock.cells s.at_.toNat)).2))=y at e ⊢
 obtain ⟨k1,k2,k3,k4,k5⟩:=key y hy
 obtain ⟨y,ye⟩:=y
 simp only at k1 k2 k3 k4 k5
 simp only [beq_iff_eq]
 refine ⟨?_,by split<;>simp [ah.enter,k1]⟩
 split
 ·rename_i hq
  rw [k1] at hq
  refine ⟨by simp [ah.enter,k1];exact h.lk,fun q=> ?_,fun q=> ?_,fun q=> ?_,fun _ _=> ?_,fun _=>⟨?_,?_⟩,fun q=> ?_,fun q=> ?_,fun q=> ?_,fun q=> ?_,fun q=> ?_,by simp [ah.enter],by simp [ah.enter]⟩<;>simp only [ah.enter,k1,k3] at* <;>try omega
 ·rename_i hq
  rw [k1] at hq
  have hlo:=h.lo
  have hhi:=h.hi
  refine ⟨by rw [k1];exact h.lk,fun q=> ?_,fun q=> ?_,fun q=>⟨?_,?_,?_,?_,?_⟩,fun q=> ?_,fun q=> ?_,fun q=> ?_,fun q=> ?_,fun q=> ?_,fun q=> ?_,fun q=> ?_,?_,?_⟩<;>simp only [k1,k2,k3] at* <;>try omega
theorem ah.O0 (h:s.wf n) (hp:3<=s.phase) (hq:s.out.aA.length=bE n s.lock.cells/\(∀ k ∈ s.out.order,0<=k/\k<s.lock.cells.length)) (e:s.eD.2=0):
 s.eD.1.wf n/\s.eD.1.lock.cells=s.lock.cells:=by
 unfold ah.eD at e ⊢
 split
 ·rename_i hc;rw [if_pos hc] at e;exact absurd e hc
 ·rename_i hc
  obtain ⟨h1,h2,h3⟩:=aC.vP h.lk (Decidable.not_not.1 hc)
  refine ⟨⟨h1,fun q=> ?_,fun q=> ?_,fun q=> ?_,fun _ _=> ?_,fun _=> ?_,fun q=> ?_,fun q=> ?_,fun q=> ?_,fun q=> ?_,fun q=> ?_,by simp [ah.enter],by simp [ah.enter]⟩,h3⟩<;>simp only [ah.enter] at* <;>try omega
  ·rw [h3];exact h.q3 hp
  ·rw [h3];exact hq
theorem ah.Hz (h:s.wf n) (hp:3<=s.phase) (HV:s.phase<=7) (hq:s.out.aA.length=bE n s.lock.cells/\(∀ k ∈ s.out.order,0<=k/\k<s.lock.cells.length)) (e:s.dz.2=0):
 s.dz.1.wf n/\s.dz.1.lock.cells=s.lock.cells:=by
 unfold ah.dz at e ⊢
 split
 ·rename_i hc
  have hq3:=h.q3 hp
  refine ⟨⟨h.lk,fun q=> ?_,fun q=> ?_,fun q=> ?_,fun _ _=>h.p3 hp HV,fun _=>hq3,fun _=>hq,fun q=> ?_,fun q=> ?_,fun q=> ?_,fun q=> ?_,by simp [ah.enter],by simp [ah.enter]⟩,rfl⟩<;>simp only [ah.enter] at* <;>try omega
 ·rename_i hc;rw [if_neg hc] at e
  exact ah.O0 h hp hq e
theorem ah.aa8 (ha:a.wf n) (h:s.wf n) (hp:s.phase=5) (e:(s.store a task).2.2=0):
 (s.store a task).1.wf n/\(s.store a task).2.1.wf n/\(s.store a task).2.1.lock.cells=s.lock.cells:=by
 have h5:=h.p5 (by omega)
 have hq5:=h.q5 hp
 have hl3:=h.p3 (by omega) (by omega)
 have hq3:=h.q3 (by omega)
 unfold ah.store at e ⊢
 simp only at e ⊢
 generalize hy:(if (gI s.lock.cells (gI s.out.order s.at_.toNat).toNat==(a.slots.length:Int))=true then a.iC task s.out.dead else a.iB (gI s.lock.cells (gI s.out.order s.at_.toNat).toNat) task (bV s.out.aA (gI s.out.order s.at_.toNat).toNat))=y at e ⊢
 split
 ·rename_i hc;rw [if_pos hc] at e;exact absurd e hc
 ·rename_i hc;rw [if_neg hc] at e
  have HY:y.1.wf n:=by
   have hc:=Decidable.not_not.1 hc
   split at hy
   ·subst hy;exact ai.aa4 ha hc
   ·subst hy;exact ai.aa3 ha hc
  split
  ·rename_i hd
   refine ⟨HY,⟨h.lk,fun q=> ?_,fun q=> ?_,fun q=> ?_,fun _ _=>hl3,fun _=>hq3,fun _=>h5,fun q=> ?_,fun q=> ?_,fun q=> ?_,fun q=> ?_,?_,?_⟩,rfl⟩<;>simp only at* <;>try omega
  ·rename_i hd;rw [if_neg hd] at e
   split
   ·rename_i hf
    refine ⟨HY,⟨h.lk,fun q=> ?_,fun q=> ?_,fun q=> ?_,fun _ _=>hl3,fun _=>hq3,fun _=>h5,fun q=> ?_,fun q=>hf,fun q=> ?_,fun q=> ?_,by simp [ah.enter],by simp [ah.enter]⟩,rfl⟩<;>simp only [ah.enter] at* <;>try omega
   ·rename_i hf;rw [if_neg hf] at e
    have hu:=ah.Hz (n:=n) (s:={s with phase:=4,at_:=s.at_+1,carry:=[]}) ⟨h.lk,fun q=>by simp at q,fun q=>by simp at q,fun q=>by simp at q,fun _ _=>hl3,fun _=>hq3,fun q=>h5,fun q=>by simp at q,fun q=>by simp at q,fun q=>by simp at q,fun q=>by simp at q,by simp,by simp⟩ (by simp) (by simp) h5
    have e1:ah.dz {s with phase:=4,at_:=s.at_+1,carry:=[]}=ah.dz {s with at_:=s.at_+1,carry:=[]}\/True:= .inr trivial
    have key:(ah.dz {s with at_:=s.at_+1,carry:=[]})=((ah.dz {s with phase:=4,at_:=s.at_+1,carry:=[]}))\/(ah.dz {s with at_:=s.at_+1,carry:=[]}).2≠0:=by
     unfold ah.dz ah.eD ah.enter
     simp only
     split
     ·exact .inl rfl
     ·split
      ·rename_i hx;exact .inr hx
      ·exact .inl rfl
    rcases key with key|key
    ·rw [key] at e ⊢
     exact ⟨HY,hu e⟩
    ·exact absurd e key
theorem ah.abb (ha:a.wf n) (h:s.wf n) (hp:s.phase=6) (e:(s.ko a).2.2=0):
 (s.ko a).1.wf n/\(s.ko a).2.1.wf n/\(s.ko a).2.1.lock.cells=s.lock.cells:=by
 have h5:=h.p5 (by omega)
 have h6:=h.p6 hp
 have hl3:=h.p3 (by omega) (by omega)
 have hq3:=h.q3 (by omega)
 have mk:∀ (d:Dir) (x:Int),ah.wf n {s with dir:=d,at_:=x}:=fun d x=>
  ⟨h.lk,fun q=>by simp only at q;omega,fun q=>by simp only at q;omega,fun q=>by simp only at q;omega,fun _ _=>hl3,fun _=>hq3,fun _=>h5,fun q=>by simp only at q;omega,fun _=>h6,fun q=>by simp only at q;omega,fun q=>by simp only at q;omega,h.lo,h.hi⟩
 unfold ah.ko at e ⊢
 simp only at e ⊢
 split
 ·exact ⟨ha,mk _ _,rfl⟩
 ·rename_i hc;rw [if_neg hc] at e
  split
  ·rename_i hd;rw [if_pos hd] at e;exact absurd e hd
  ·rename_i hd;rw [if_neg hd] at e
   split
   ·rename_i hf;rw [if_pos hf] at e;exact absurd e hf
   ·rename_i hf;rw [if_neg hf] at e
    have hx:=ai.aa5 ha (Decidable.not_not.1 hf)
    split
    ·exact ⟨hx,mk s.dir 0,rfl⟩
    ·rename_i hg;rw [if_neg hg] at e
     exact ⟨hx,ah.Hz (mk _ s.at_) (by simp only;omega) (by simp only;omega) h5 e⟩
theorem ah.abd (ha:a.wf n) (h:s.wf n) (hp:s.phase=7) (e:(s.ji a task).2.2=0):
 (s.ji a task).1.wf n/\(s.ji a task).2.1.wf n/\(s.ji a task).2.1.lock.cells=s.lock.cells:=by
 have h5:=h.p5 (by omega)
 have h7:=h.p7 hp
 have hl3:=h.p3 (by omega) (by omega)
 have hq3:=h.q3 (by omega)
 unfold ah.ji at e ⊢
 simp only at e ⊢
 generalize (if s.tJ s.at_=true then bV s.out.aA s.at_.toNat else bV s.aA s.at_.toNat)=now at e ⊢
 split
 ·rename_i hd;rw [if_pos hd] at e;exact absurd e hd
 ·rename_i hd;rw [if_neg hd] at e
  split
  ·rename_i hf;rw [if_pos hf] at e;exact absurd e hf
  ·rename_i hf;rw [if_neg hf] at e
   have hx:=ai.OM ha (Decidable.not_not.1 hf)
   split
   ·rename_i hg;rw [if_pos hg] at e
    have hfr:=ah.O0 (n:=n) (s:={s with phase:=4,at_:=s.at_+1}) ⟨h.lk,fun q=>by simp at q,fun q=>by simp at q,fun q=>by simp at q,fun _ _=>hl3,fun _=>hq3,fun q=>h5,fun q=>by simp at q,fun q=>by simp at q,fun q=>by simp at q,fun q=>by simp at q,by simp,by simp⟩ (by simp) h5
    have key:(ah.eD {s with at_:=s.at_+1})=((ah.eD {s with phase:=4,at_:=s.at_+1}))\/(ah.eD {s with at_:=s.at_+1}).2≠0:=by
     unfold ah.eD ah.enter
     simp only
     split
     ·rename_i hx;exact .inr hx
     ·exact .inl rfl
    rcases key with key|key
    ·rw [key] at e ⊢
     exact ⟨hx,hfr e⟩
    ·exact absurd e key
   ·rename_i hg
    simp only [beq_iff_eq] at hg
    refine ⟨hx,⟨h.lk,fun q=> ?_,fun q=> ?_,fun q=> ?_,fun _ _=>hl3,fun _=>hq3,fun _=>h5,fun q=> ?_,fun q=> ?_,fun q=> ?_,fun q=> ?_,?_,?_⟩,rfl⟩<;>simp only at* <;>try omega
end
end Go.Eng
namespace Go.Eng
open Go
section
variable {n:Nat} {a:ai} {s:ah} {task:Int}
theorem ah.rz (ha:a.wf n) (h:s.wf n) {k:Int} (e:(s.step a task k).2.2=0):
 (s.step a task k).1.wf n/\(s.step a task k).2.1.wf n/\(s.step a task k).2.1.lock.cells=s.lock.cells:=by
 unfold ah.step at e ⊢
 split
 ·rename_i hc;rw [if_pos hc] at e;exact absurd e hc
 ·rename_i hc
  have e:=Decidable.not_not.1 hc
  clear hc
  simp only
  unfold ah.step0 at e ⊢
  split
  ·rename_i hp
   simp only [beq_iff_eq] at hp
   rw [if_pos (by simp [hp])] at e
   obtain ⟨h1,h2,h3⟩:=h.p0 hp
   simp only at e ⊢
   have el:(s.lock.step a task).2.2=0:=by split at e<;>exact e
   obtain ⟨l1,l2,l3,l4,_⟩:=aC.rz ha h.lk el
   have l4:=l4 h1
   split
   ·rename_i hq
    simp only [Bool.and_eq_true,beq_iff_eq] at hq
    refine ⟨l1,?_,by split<;>simp [ah.enter,l3]⟩
    simp only [beq_iff_eq,ah.Hw ha]
    have hl1:=h.lk.l1
    split
    ·rename_i hz
     simp only [ah.enter,l3] at hz
     refine ⟨l2,fun q=> ?_,fun q=> ?_,fun q=>⟨hq.2,?_,?_,?_,?_⟩,fun q=> ?_,fun q=> ?_,fun q=> ?_,fun q=> ?_,fun q=> ?_,fun q=> ?_,fun q=> ?_,by simp [ah.enter],by simp [ah.enter]⟩<;>simp only [ah.enter,l3] at* <;>try omega
     ·rw [h3];simp only [List.length_nil];omega
     ·rw [h2];simp
    ·rename_i hz
     simp only [ah.enter,l3] at hz
     refine ⟨l2,fun q=> ?_,fun q=>⟨hq.2,h2,?_,?_,?_⟩,fun q=> ?_,fun q=> ?_,fun q=> ?_,fun q=> ?_,fun q=> ?_,fun q=> ?_,fun q=> ?_,fun q=> ?_,by simp [ah.enter],by simp [ah.enter]⟩<;>simp only [ah.enter,l3] at* <;>try omega
     rw [h3];simp
   ·rename_i hq
    simp only [el,beq_self_eq_true,Bool.true_and,beq_iff_eq] at hq
    refine ⟨l1,⟨l2,fun q=>⟨by simp only;omega,h2,h3⟩,fun q=> ?_,fun q=> ?_,fun q=> ?_,fun q=> ?_,fun q=> ?_,fun q=> ?_,fun q=> ?_,fun q=> ?_,fun q=> ?_,h.lo,h.hi⟩,l3⟩<;>simp only at* <;>omega
  rename_i hp0;rw [if_neg hp0] at e
  split
  ·rename_i hp
   rw [if_pos hp] at e
   exact ah.aa6 ha h (by simpa using hp) e
  rename_i hp1;rw [if_neg hp1] at e
  split
  ·rename_i hp
   rw [if_pos hp] at e
   exact ah.aa7 ha h (by simpa using hp) e
  rename_i hp2;rw [if_neg hp2] at e
  split
  ·rename_i hp
   simp only [beq_iff_eq] at hp
   have hl3:=h.p3 (by omega) (by omega)
   have hq3:=h.q3 (by omega)
   refine ⟨ha,?_,by simp only;split<;>simp [ah.enter]⟩
   simp only
   split
   ·refine ⟨h.lk,fun q=> ?_,fun q=> ?_,fun q=> ?_,fun _ _=>hl3,fun _=>hq3,fun q=> ?_,fun q=> ?_,fun q=> ?_,fun q=> ?_,fun q=> ?_,by simp [ah.enter],by simp [ah.enter]⟩<;>simp only [ah.enter] at* <;>omega
   ·refine ⟨h.lk,fun q=> ?_,fun q=> ?_,fun q=> ?_,fun _ _=>hl3,fun _=>hq3,fun q=> ?_,fun q=> ?_,fun q=> ?_,fun q=> ?_,fun q=> ?_,h.lo,h.hi⟩<;>simp only at* <;>omega
  rename_i hp3;rw [if_neg hp3] at e
  split
  ·rename_i hp
   rw [if_pos hp] at e
   exact ah.aa8 ha h (by simpa using hp) e
  rename_i hp5;rw [if_neg hp5] at e
  split
  ·rename_i hp
   rw [if_pos hp] at e
   exact ah.abb ha h (by simpa using hp) e
  rename_i hp6;rw [if_neg hp6] at e
  split
  ·rename_i hp
   rw [if_pos hp] at e
   exact ah.abd ha h (by simpa using hp) e
  rename_i HV;rw [if_neg HV] at e
  split
  ·rename_i hp
   rw [if_pos hp] at e
   simp only [beq_iff_eq] at hp
   simp only at e ⊢
   obtain ⟨l1,l2,l3,_,l5⟩:=aC.rz ha h.lk e
   have h8:=h.p8 hp
   have l5:=l5 h8
   have hq3:=h.q3 (by omega)
   have h5:=h.p5 (by omega)
   refine ⟨l1,?_,by split<;>simp [ah.enter,l3]⟩
   split
   ·rename_i hq
    refine ⟨l2,fun q=> ?_,fun q=> ?_,fun q=> ?_,fun _ _=> ?_,fun _=> ?_,fun q=> ?_,fun q=> ?_,fun q=> ?_,fun q=> ?_,fun q=> ?_,by simp [ah.enter],by simp [ah.enter]⟩<;>simp only [ah.enter,l3] at* <;>first|omega|assumption
   ·rename_i hq
    simp only [e,beq_self_eq_true,Bool.true_and,beq_iff_eq] at hq
    refine ⟨l2,fun q=> ?_,fun q=> ?_,fun q=> ?_,fun _ _=> ?_,fun _=> ?_,fun q=> ?_,fun q=> ?_,fun q=> ?_,fun q=> ?_,fun q=> ?_,h.lo,h.hi⟩<;>simp only [l3] at* <;>first|omega|assumption
  rename_i hp8;rw [if_neg hp8] at e
  cases e
theorem ah.vO {cells:List Int} {limit:Int} (hn:∀ c ∈ cells,c<=(n:Int)) (e:(ah.new cells limit).2=0):(ah.new cells limit).1.wf n/\(ah.new cells limit).1.lock.cells=cells:=by
 unfold ah.new at e ⊢
 split
 ·rename_i hc;rw [if_pos hc] at e;exact absurd e hc
 ·rename_i hc;rw [if_neg hc] at e
  split
  ·rename_i hd;rw [if_pos hd] at e;cases e
  ·obtain ⟨h1,h2,h3⟩:=aC.vO hn (Decidable.not_not.1 hc)
   refine ⟨⟨h1,fun q=>⟨.inl h2,rfl,rfl⟩,fun q=> ?_,fun q=> ?_,fun q=> ?_,fun q=> ?_,fun q=> ?_,fun q=> ?_,fun q=> ?_,fun q=> ?_,fun q=> ?_,by simp [ah.z],by simp [ah.z]⟩,h3⟩<;>simp [ah.z] at*
theorem O1 (cells:List Int):∀ (l old:List Int),fe cells l old=true->∀ k ∈ l,0<=k/\k<cells.length
 |[],_,_=>by simp
 |x::r,old,h=>fun k hk=>by
  simp only [fe,Bool.and_eq_true,decide_eq_true_eq] at h
  rcases List.mem_cons.1 hk with rfl|hk
  ·exact h.1
  ·exact O1 cells r _ h.2.2 k hk
theorem ah.O3 (h:s.wf n) (hp:s.phase=4) {o:bL} (ho:o.aA.length=s.aA.length) (he:o.dF.length<=1) (hk:fe s.lock.cells o.order []=true):
 (s.fE o).1.wf n/\(s.fE o).1.lock.cells=s.lock.cells:=by
 have hl3:=h.p3 (by omega) (by omega)
 have hq3:=h.q3 (by omega)
 have ho':o.aA.length=bE n s.lock.cells/\(∀ k ∈ o.order,0<=k/\k<s.lock.cells.length):=⟨ho.trans hq3.2,O1 _ _ _ hk⟩
 unfold ah.fE
 rw [if_neg (by simp [hp]),if_neg (by omega),if_neg (by simp [hk])]
 split
 ·rename_i hd
  refine ⟨⟨h.lk,fun q=> ?_,fun q=> ?_,fun q=> ?_,fun _ _=>hl3,fun _=>hq3,fun _=>ho',fun q=> ?_,fun q=> ?_,fun q=> ?_,fun q=> ?_,by simp [ah.enter],by simp [ah.enter]⟩,rfl⟩<;>simp only [ah.enter] at* <;>omega
 ·split
  ·rename_i hd
   refine ⟨⟨h.lk,fun q=> ?_,fun q=> ?_,fun q=> ?_,fun _ _=>hl3,fun _=>hq3,fun _=>ho',fun q=> ?_,fun q=> ?_,fun q=> ?_,fun q=> ?_,by simp [ah.enter],by simp [ah.enter]⟩,rfl⟩<;>simp only [ah.enter] at* <;>omega
  ·refine ah.Hz (s:={s with out:=o}) ⟨h.lk,fun q=> ?_,fun q=> ?_,fun q=> ?_,fun _ _=>hl3,fun _=>hq3,fun _=>ho',fun q=> ?_,fun q=> ?_,fun q=> ?_,fun q=> ?_,h.lo,h.hi⟩ ?_ ?_ ho' ?_<;>(try simp only at*)<;>(try omega)
   unfold ah.dz ah.eD aC.free
   simp [hl3]
   split<;>rfl
end
structure Setup.ok (n:Nat) (u:Setup):Prop where
 good:u.good=true
 sl:u.slots=n
theorem Setup.ok.n6 {n:Nat} {u:Setup} (h:u.ok n):1<=n/\n<=6:=by
 have:=h.good
 simp [Setup.good,bD] at this
 have:=h.sl
 omega
theorem Setup.ok.lim {n:Nat} {u:Setup} (h:u.ok n):1<=u.limit/\u.limit<=8:=by
 have:=h.good
 simp [Setup.good,bD] at this
 omega
structure Task.wf (n:Nat) (t:Task):Prop where
 su:t.setup.ok n
 iv:t.inv.val t.setup=0
 en:0<=t.entry/\t.entry<t.inv.entries
 k1:t.inv.kind=1->t.walk.ok/\(t.pc=0\/t.pc=1\/t.pc=2\/(t.sec.wf n/\bE n t.sec.lock.cells=1))
 k2:t.inv.kind=2->t.walk.ok/\(t.pc=0\/t.pc=2\/(t.sec.wf n/\bE n t.sec.lock.cells=1))
 k3:3<=t.inv.kind->t.inv.kind<=5->t.pc=0\/((0<=t.hnd.route/\t.hnd.route<65536)/\(t.pc=1\/(t.sec.wf n/\bE n t.sec.lock.cells=1)))
 k8:t.inv.kind=8->t.pc=0\/(t.sec.wf n/\bE n t.sec.lock.cells=1/\t.sec.lock.cells.length=2)
 k9:9<=t.inv.kind->t.inv.kind<=11->t.pc=0\/(t.sec.wf n/\bE n t.sec.lock.cells=2/\t.sec.lock.cells.length=2)
 k12:t.inv.kind=12\/t.inv.kind=13->t.pc=0\/(t.sec.wf n/\t.sec.lock.cells.length=1)
 k14:t.inv.kind=14->t.pc=0\/(t.sec.wf n/\bE n t.sec.lock.cells=1/\t.sec.lock.cells.length=2)
end Go.Eng
namespace Go.Eng
open Go
def upd {α:Type} (f:Nat->α) (i:Nat) (x:α):Nat->α:=fun j=>if j=i then x else f j
theorem upd_same {α:Type} (f:Nat->α) (i:Nat) (x:α):upd f i x i=x:=by simp [upd]
theorem upd_ne {α:Type} (f:Nat->α) {i j:Nat} (x:α) (h:j≠i):upd f i x j=f j:=by simp [upd,h]
structure HB where
 n:Nat
 sh:Nat->aj
 dd:Dead
 dir:Dir
 ep:Int
 ck:Int
 nx:Int
 em:∀ i,(sh i).aL.l=[]/\(sh i).ready.cells.length<=12
def HB.at (b:HB) (f:Nat->Int) (g:Nat->aG):ai:=⟨(List.range b.n).map fun i=>⟨f i,b.sh i⟩,(List.range b.n).map g,⟨f b.n,b.dd⟩,b.dir,b.ep,b.ck,b.nx⟩
structure HB.ok (b:HB):Prop where
 e0:0<=b.ep
 e1:b.ep<=65536
 sv:∀ i,(b.sh i).val=0
 c0:∀ i e l,0<=((b.sh i).counts e l).1/\((b.sh i).counts e l).1<=1000
 c1:∀ i e l,0<=((b.sh i).counts e l).2/\((b.sh i).counts e l).2<=1000
 dv:b.dd.val=0
section
variable {b:HB} {f:Nat->Int} {g:Nat->aG} {c:Nat}
theorem HB.len:(b.at f g).slots.length=b.n:=by simp [HB.at]
theorem HB.lst:(b.at f g).aH.length=b.n:=by simp [HB.at]
theorem HB.sl (h:c<b.n):dX (b.at f g).slots c=⟨f c,b.sh c⟩:=by simp [HB.at,dX,h]
theorem HB.st (h:c<b.n):fC (b.at f g).aH c=g c:=by simp [HB.at,fC,h]
theorem HB.owner (h:c<=b.n):(b.at f g).owner (c:Int)=f c:=by
 unfold ai.owner
 rw [HB.len]
 by_cases e:c=b.n
 ·subst e;simp [HB.at]
 ·have:((c:Int)==(b.n:Int))=false:=beq_eq_false_iff_ne.2 (by omega)
  rw [this,Int.toNat_natCast,HB.sl (by omega)];rfl
theorem HB.own (h:c<=b.n) (w:Int):(b.at f g).own (c:Int) w=b.at (upd f c w) g:=by
 unfold ai.own
 rw [HB.len]
 by_cases e:c=b.n
 ·subst e
  have:(List.range b.n).map (fun i=>(⟨upd f b.n w i,b.sh i⟩:Slot))=(List.range b.n).map fun i=>⟨f i,b.sh i⟩:=List.map_congr_left fun i hi=>by
   have:=List.mem_range.1 hi
   rw [upd_ne _ _ (by omega)]
  simp [HB.at,this,upd_same]
 ·have e1:((c:Int)==(b.n:Int))=false:=beq_eq_false_iff_ne.2 (by omega)
  rw [e1]
  have e2:((List.range b.n).map fun i=>(⟨f i,b.sh i⟩:Slot)).set c ⟨w,b.sh c⟩=(List.range b.n).map fun i=>⟨upd f c w i,b.sh i⟩:=by
   refine List.ext_getElem (by simp) fun i h1 h2=> ?_
   simp at h2
   rw [List.getElem_set]
   by_cases hi:c=i
   ·subst hi;simp [upd_same]
   ·simp [hi,upd_ne f w (fun h=>hi h.symm)]
  have e3:=HB.sl (f:=f) (g:=g) (b:=b) (c:=c) (by omega)
  simp only [Bool.false_eq_true,if_false,Int.toNat_natCast,e3]
  simp only [HB.at,e2,upd_ne f w (fun h=>e h.symm)]
theorem HB.tl (h:c<=b.n) (h0:f c=0):(b.at f g).tryLock (c:Int) 9=(b.at (upd f c 9) g,true,0):=by
 unfold ai.tryLock
 rw [HB.len,HB.owner h,HB.own h,h0]
 have h1:decide ((c:Int)<0)=false:=by simp
 have h2:decide ((b.n:Int)<(c:Int))=false:=by simp;omega
 simp [h1,h2,nZ,h]
theorem HB.ul (h:c<=b.n) (h0:f c=9):(b.at f g).unlock (c:Int) 9=(b.at (upd f c 0) g,0):=by
 unfold ai.unlock
 rw [HB.len,HB.owner h,HB.own h,h0]
 have h1:decide ((c:Int)<0)=false:=by simp
 have h2:decide ((b.n:Int)<(c:Int))=false:=by simp;omega
 simp [h1,h2,nZ,h]
theorem HB.slot (h:c<b.n):(b.at f g).slot (c:Int)=true:=by
 unfold ai.slot
 rw [HB.len];simp;omega
theorem HB.ls (h:c<b.n):(b.at f g).jJ (c:Int)=(g c,0):=by
 unfold ai.jJ
 rw [HB.slot h,Int.toNat_natCast,HB.st h];rfl
theorem HB.lo (h:c<b.n):(b.at f g).fD (c:Int)=(b.sh c,0):=by
 unfold ai.fD
 rw [HB.slot h,Int.toNat_natCast,HB.sl h];rfl
theorem HB.sb (h:c<b.n) (h0:f c=9):(b.at f g).storable (c:Int) 9=0:=by
 unfold ai.storable
 rw [HB.slot h,Int.toNat_natCast,HB.sl h]
 simp [h0,nZ]
theorem HB.ss (h:c<b.n) (h0:f c=9) {s:aG} (h1:0<=s.seq/\s.seq<=1000000) (h2:0<=s.epoch/\s.epoch<=65536) (h3:0<=s.ready/\s.ready<=1000) (h4:0<=s.dH/\s.dH<=1000):
 (b.at f g).gU (c:Int) 9 s=(b.at f (upd g c s),0):=by
 unfold ai.gU
 rw [HB.sb h h0]
 have e2:((List.range b.n).map g).set c s=(List.range b.n).map (upd g c s):=by
  refine List.ext_getElem (by simp) fun i h1 h2=> ?_
  simp at h2
  rw [List.getElem_set]
  by_cases hi:c=i
  ·subst hi;simp [upd_same]
  ·simp [hi,upd_ne g s (fun h=>hi h.symm)]
 have i1:bD s.seq 0 1099511627776=true:=by simp [bD];omega
 have i2:bD s.epoch 0 1099511627776=true:=by simp [bD];omega
 have i3:bD s.ready 0 1099511627776=true:=by simp [bD];omega
 have i4:bD s.dH 0 1099511627776=true:=by simp [bD];omega
 simp [i1,i2,i3,i4,HB.at,e2]
theorem HB.so (h:c<b.n) (h0:f c=9) (hv:(b.sh c).val=0):(b.at f g).iB (c:Int) 9 (b.sh c)=(b.at f g,0):=by
 unfold ai.iB
 rw [HB.sb h h0,Int.toNat_natCast,HB.sl h]
 have e2:((List.range b.n).map fun i=>(⟨f i,b.sh i⟩:Slot)).set c ⟨f c,b.sh c⟩=(List.range b.n).map fun i=>⟨f i,b.sh i⟩:=by
  refine List.ext_getElem (by simp) fun i h1 h2=> ?_
  simp at h2
  rw [List.getElem_set]
  by_cases hi:c=i
  ·subst hi;simp
  ·simp [hi]
 simp [hv,HB.at,e2]
theorem HB.sd (h0:f b.n=9) (hv:b.dd.val=0):(b.at f g).iC 9 b.dd=(b.at f g,0):=by
 unfold ai.iC
 simp [HB.at,h0,hv,nZ]
end
def pJ (c:List Int) (a:ai) (s:ah):Prop:=∀ i<c.length,
 (1<=s.phase->s.phase<=7->a.owner (gI c i)=9)/\(s.phase=9->a.owner (gI c i)≠9)/\
 (gI c i≠a.slots.length->
  (2<=s.phase->s.phase<=6->(fC a.aH (gI c i).toNat).seq.tmod 2=1)/\
  (8<=s.phase->(fC a.aH (gI c i).toNat).seq.tmod 2≠1)/\
  (3<=s.phase->s.phase<=5->i<s.aA.length/\bV s.aA i=(dX a.slots (gI c i).toNat).bM/\(bV s.aA i).aL.l=[]/\(bV s.aA i).ready.cells.length<=12))
def eU (q:Nat->List Int×Nat) (c:List Int):Nat->Int->ai->ah->Nat->Prop
 |0,_,a,s,_=>s.phase=9/\nX a.aH=true
 |m+1,k,a,s,p=>(s.phase=9/\nX a.aH=true)\/
  (s.phase=4/\(s.fE {s.bg with order:=(q p).1}).2=0/\eU q c m (k+1) a (s.fE {s.bg with order:=(q p).1}).1 (q p).2)\/
  (s.phase≠9/\s.phase≠4/\s.phase≠6/\(s.phase=5->1<=s.at_->s.carry=s.out.carry)/\(s.step a 9 k).2.2=0/\
   pJ c (s.step a 9 k).1 (s.step a 9 k).2.1/\eU q c m (k+1) (s.step a 9 k).1 (s.step a 9 k).2.1 p)
theorem O4 {q:Nat->List Int×Nat} {c:List Int} {m:Nat} {k:Int} {a:ai} {s:ah} {p:Nat} (h:s.phase=9) (ht:nX a.aH=true):eU q c m k a s p:=by
 cases m
 ·exact ⟨h,ht⟩
 ·exact .inl ⟨h,ht⟩
theorem O5 {q:Nat->List Int×Nat} {c:List Int} {m:Nat} {k:Int} {a:ai} {s s':ah} {p:Nat} (h:s.phase=4) (hd:s.fE {s.bg with order:=(q p).1}=(s',0))
 (H:eU q c m (k+1) a s' (q p).2):eU q c (m+1) k a s p:=by
 refine .inr (.inl ⟨h,?_,?_⟩)
 ·rw [hd]
 ·rw [hd];exact H
theorem eX {q:Nat->List Int×Nat} {c:List Int} {m:Nat} {k:Int} {a a':ai} {s s':ah} {p:Nat} (h9:s.phase≠9) (h4:s.phase≠4) (h6:s.phase≠6)
 (hc:s.phase=5->1<=s.at_->s.carry=s.out.carry) (hs:s.step0 a 9 k=(a',s',0)) (hC:pJ c a' s') (H:eU q c m (k+1) a' s' p):eU q c (m+1) k a s p:=by
 have e:s.step a 9 k=(a',s',0):=by unfold ah.step;rw [hs];rfl
 refine .inr (.inr ⟨h9,h4,h6,hc,?_,?_,?_⟩)
 ·rw [e]
 ·rw [e];exact hC
 ·rw [e];exact H
end Go.Eng
namespace Go.Eng
open Go
def abj (b:HB) (f:Nat->Int) (g:Nat->aG) (s:ah) (i c:Nat):Prop:=
 (1<=s.phase->s.phase<=7->f c=9)/\(s.phase=9->f c≠9)/\
 (c<b.n->(2<=s.phase->s.phase<=6->(g c).seq.tmod 2=1)/\(8<=s.phase->(g c).seq.tmod 2≠1)/\(3<=s.phase->s.phase<=5->i<s.aA.length/\bV s.aA i=b.sh c))
section
variable {b:HB} {f:Nat->Int} {g:Nat->aG} {s:ah} {m p:Nat} {k:Int} {q:Nat->List Int×Nat}
def nI (l:List Nat):List Int:=l.map fun c:Nat=>(c:Int)
theorem HZ {l:List Nat} {i c:Nat} (h:l[i]? =some c):gI (nI l) i=c:=by simp [gI,nI,h]
theorem kY {l:List Nat} (hl:∀ c ∈ l,c<=b.n) (h:∀ i c,l[i]? =some c->abj b f g s i c):pJ (nI l) (b.at f g) s:=by
 intro i hi
 have hi':i<l.length:=by simpa [nI] using hi
 have e:l[i]? =some l[i]:=List.getElem?_eq_getElem hi'
 have hc:=hl _ (List.getElem_mem hi')
 obtain ⟨h1,h2,h3⟩:=h i _ e
 rw [HZ e,HB.owner hc,HB.len]
 refine ⟨h1,h2,fun hn=> ?_⟩
 have hlt:l[i]<b.n:=by omega
 rw [Int.toNat_natCast,HB.st hlt,HB.sl hlt]
 obtain ⟨k1,k2,k3⟩:=h3 hlt
 exact ⟨k1,k2,fun p1 p2=>⟨(k3 p1 p2).1,(k3 p1 p2).2,by rw [(k3 p1 p2).2];exact b.em _⟩⟩
theorem tX:ah.slots (b.at f g) s=((s.lock.cells.filter fun c=>decide (c<(b.n:Int))).length:Int):=by unfold ah.slots eT;rw [HB.len]
theorem H6 {t:aC} {l:List Nat} {i c:Nat} (hp:t.phase=4) (hc:t.cells=nI l) (hg:t.got=(i:Int)+1) (hi:l[i]? =some c) (hn:c<=b.n) (hf:f c=9):
 t.step (b.at f g) 9=(b.at (upd f c 0) g,if 0<i then {t with got:=i} else {t with got:=i,phase:=5},0):=by
 unfold aC.step
 have e0:(t.phase==0)=false:=by rw [hp];rfl
 have e1:(t.phase==4)=true:=by rw [hp];rfl
 have e2:gI t.cells (t.got - 1).toNat=(c:Int):=by rw [hc,hg,show ((i:Int)+1 - 1).toNat=i by omega];exact HZ hi
 rw [e0,e1,e2,HB.ul hn hf,hg]
 by_cases h0:0<i
 ·have:0<(i:Int)+1 - 1:=by omega
  simp [h0]
 ·have:i=0:=by omega
  subst this
  simp
theorem abk {l:List Nat} {c:Nat} (hl:l=[c]) (h8:s.phase=8) (hc:s.lock.cells=nI l) (hp:s.lock.phase=4) (hg:s.lock.got=1) (hn:c<=b.n) (hf:f c=9) (hq:∀ i,(g i).seq.tmod 2=0):
 eU q (nI l) (m+1) k (b.at f g) s p:=by
 have hs:=H6 (b:=b) (f:=f) (g:=g) (i:=0) hp hc hg (by rw [hl];rfl) hn hf
 refine eX (s':=ah.enter {s with lock:={s.lock with got:=0,phase:=5}} 9) (a':=b.at (upd f c 0) g) (by omega) (by omega) (by omega) (by omega) ?_ ?_ (O4 rfl ?_)
 ·unfold ah.step0
  simp [h8,hs]
 ·refine kY (by rw [hl];simpa using hn) fun i d hi=> ?_
  have:d=c:=by rw [hl] at hi;cases i<;>simp_all
  subst this
  refine ⟨fun _ h=>absurd h (by simp [ah.enter]),fun _=>by simp [upd_same],fun _=>⟨fun _ h=>absurd h (by simp [ah.enter]),fun _=>by rw [hq];decide,fun _ h=>absurd h (by simp [ah.enter])⟩⟩
 ·simp [nX,HB.at,hq]
theorem abl {l:List Nat} {c d:Nat} (hl:l=[c,d]) (hcd:c≠d) (h8:s.phase=8) (hc:s.lock.cells=nI l) (hp:s.lock.phase=4) (hg:s.lock.got=2) (hn:c<=b.n) (hm:d<=b.n) (hf:f c=9) (hd:f d=9) (hq:∀ i,(g i).seq.tmod 2=0):
 eU q (nI l) (m+2) k (b.at f g) s p:=by
 have hs:=H6 (b:=b) (f:=f) (g:=g) (i:=1) hp hc hg (by rw [hl];rfl) hm hd
 have hf':upd f d 0 c=9:=by rw [upd_ne _ _ hcd];exact hf
 have hs2:=H6 (b:=b) (f:=upd f d 0) (g:=g) (t:={s.lock with got:=1}) (i:=0) hp hc rfl (by rw [hl];rfl) hn hf'
 refine eX (s':={s with lock:={s.lock with got:=1}}) (a':=b.at (upd f d 0) g) (by omega) (by omega) (by omega) (by omega) ?_ ?_ ?_
 ·unfold ah.step0
  simp [h8,hs,hp]
 ·refine kY (by rw [hl];simp;omega) fun i e hi=> ?_
  refine ⟨fun _ h=>absurd h (by simp [h8]),fun h=>absurd h (by simp [h8]),fun _=>⟨fun _ h=>absurd h (by simp [h8]),fun _=>by rw [hq];decide,fun _ h=>absurd h (by simp [h8])⟩⟩
 refine eX (s':=ah.enter {s with lock:={s.lock with got:=0,phase:=5}} 9) (a':=b.at (upd (upd f d 0) c 0) g) (by simp [h8]) (by simp [h8]) (by simp [h8]) (by simp [h8]) ?_ ?_ (O4 rfl ?_)
 ·unfold ah.step0
  simp [h8,hs2]
 ·refine kY (by rw [hl];simp;omega) fun i e hi=> ?_
  have he:e=c\/e=d:=by rw [hl] at hi;rcases i with _|_|i<;>simp_all
  refine ⟨fun _ h=>absurd h (by simp [ah.enter]),fun _=> ?_,fun _=>⟨fun _ h=>absurd h (by simp [ah.enter]),fun _=>by rw [hq];decide,fun _ h=>absurd h (by simp [ah.enter])⟩⟩
  rcases he with rfl|rfl
  ·simp [upd_same]
  ·rw [upd_ne _ _ (fun h=>hcd h.symm),upd_same];decide
 ·simp [nX,HB.at,hq]
end
end Go.Eng
