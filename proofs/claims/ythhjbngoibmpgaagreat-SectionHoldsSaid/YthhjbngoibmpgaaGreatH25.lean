/-
  Part of a proof: lemmas and definitions of this work.
  No condition.
-/
import Derived.Test.YthhjbngoibmpgaaGreatH08
import Derived.Test.YthhjbngoibmpgaaGreatH24
import Derived.Test.YthhjbngoibmpgaaGreatH15
set_option linter.all false
set_option maxRecDepth 100000
set_option maxHeartbeats 8000000
namespace Go.Eng
open Go Go.Proofs
theorem aeo {P:Program} {k:List It} {Q:Exit->St->Prop} {n:Nat} {t:List (Nat×AV)} {h:List (Nat×Ob)} (d:Option Nat) (f:FuncId) (caps:List Operand) (af:List Nat) (nm n':Nat) (l:List av):go P (.ops nm n' (⟨d,.qb f caps,none,af⟩::l)::k) Q n t h=dm P (ax nm t h (.qb f caps)) (.qb f caps) d nm n' l k Q n t h:=(rfl)
attribute [local go_sem] aeo TP
def ah.uj (a:ai) (s:ah) (k:Int):ai×ah×Int:=(a,if (s.aO.step a k).1.phase==3 then ah.enter {s with aO:=(s.aO.step a k).1} 4 else {s with aO:=(s.aO.step a k).1},(s.aO.step a k).2)
def ah.oq (a:ai) (s:ah):ai×ah×Int:=
 if s.at_==0 then (a,{s with dir:=a.dir,at_:=1},0)
 else
  let d:=s.dir.apply (gE s.out.dF 0)
  if d.2≠0 then (a,s,d.2) else
   let x:=a.qZ s.dir.version d.1
   if x.2.2≠0 then (a,s,x.2.2) else if !x.2.1 then (x.1,{s with at_:=0},0)
   else (x.1,(ah.dz {s with dir:=d.1,at_:=0}).1,(ah.dz {s with dir:=d.1,at_:=0}).2)
def ah.nA (a:ai) (s:ah) (task n:Int):ai×ah×Int:=
 if s.phase==0 then s.lF a task else if s.phase==1 then s.pV a task (s.at_ / 2).toNat else if s.phase==2 then s.pW a
 else if s.phase==3 then s.uj a n else if s.phase==5 then s.pX a task else if s.phase==6 then s.oq a
 else if s.phase==7 then s.pY a task else if s.phase==8 then s.lF a task else (a,s,7)
theorem aep (a:ai) (s:ah) (task k:Int) {n:Nat} (ha:a.wf n) (hs:s.wf n) (hl:s.aT)
 (hE:s.phase=6->Fn Tryz.prog 134 [.ptr 0 0] [bJ a s task k] (I (s.oq a).2.2) [bJ (s.oq a).1 (s.oq a).2.1 task k] []):
 Fn Tryz.prog 73 [.ptr 0 0] [bJ a s task k] (I (s.nA a task k).2.2) [bJ (s.nA a task k).1 (s.nA a task k).2.1 task k] []:=by
 generalize hR:s.nA a task k=R
 unfold ah.nA at hR
 by_cases p0:s.phase=0
 ·have e:∀ j:Int,(s.phase==j)=((0:Int)==j):=fun j=>by rw [p0]
  have jM:∀ j:Int,(s.phase=j)=((0:Int)=j):=fun j=>by rw [p0]
  have e':∀ j:Int,(j==s.phase)=(j==(0:Int)):=fun j=>by rw [p0]
  have hc:=QK a s task k ha hs.lk
  simp only [e,Int.reduceBEq,Bool.false_eq_true,if_true,if_false] at hR
  rw [hR] at hc
  (
   refine Fn.aB nU (by simp) ?_
   unfold ng SC.mk' bJ ai.enc ah.enc
   simp only [e,e',jM,iD,Int.reduceBEq,Int.reduceEq,if_true,if_false,Bool.false_eq_true,Option.isSome_some,Option.getD_some,Bool.not_true,Nat.reduceLT,Nat.reduceSub,reduceIte,go_sem]
   refine dG (b:=0) hc ⟨rfl,trivial⟩ rfl rfl rfl rfl ?_
   simp only [bJ,ai.enc,ah.enc,go_sem]
   exact Fin.bH _ rfl rfl rfl rfl rfl rfl rfl)
 by_cases p1:s.phase=1
 ·have e:∀ j:Int,(s.phase==j)=((1:Int)==j):=fun j=>by rw [p1]
  have jM:∀ j:Int,(s.phase=j)=((1:Int)=j):=fun j=>by rw [p1]
  have e':∀ j:Int,(j==s.phase)=(j==(1:Int)):=fun j=>by rw [p1]
  have hc:=aej a s task k (s.at_ / 2).toNat ha hs p1 (by have:=(hs.p1 p1).2.2.1;omega)
  simp only [e,Int.reduceBEq,Bool.false_eq_true,if_true,if_false] at hR
  rw [hR] at hc
  (
   refine Fn.aB nU (by simp) ?_
   unfold ng SC.mk' bJ ai.enc ah.enc
   simp only [e,e',jM,iD,Int.reduceBEq,Int.reduceEq,if_true,if_false,Bool.false_eq_true,Option.isSome_some,Option.getD_some,Bool.not_true,Nat.reduceLT,Nat.reduceSub,reduceIte,go_sem]
   refine dG (b:=0) hc ⟨rfl,trivial⟩ rfl rfl rfl rfl ?_
   simp only [bJ,ai.enc,ah.enc,go_sem]
   exact Fin.bH _ rfl rfl rfl rfl rfl rfl rfl)
 by_cases p2:s.phase=2
 ·have e:∀ j:Int,(s.phase==j)=((2:Int)==j):=fun j=>by rw [p2]
  have jM:∀ j:Int,(s.phase=j)=((2:Int)=j):=fun j=>by rw [p2]
  have e':∀ j:Int,(j==s.phase)=(j==(2:Int)):=fun j=>by rw [p2]
  have hc:=aek a s task k ha hs p2
  simp only [e,Int.reduceBEq,Bool.false_eq_true,if_true,if_false] at hR
  rw [hR] at hc
  (
   refine Fn.aB nU (by simp) ?_
   unfold ng SC.mk' bJ ai.enc ah.enc
   simp only [e,e',jM,iD,Int.reduceBEq,Int.reduceEq,if_true,if_false,Bool.false_eq_true,Option.isSome_some,Option.getD_some,Bool.not_true,Nat.reduceLT,Nat.reduceSub,reduceIte,go_sem]
   refine dG (b:=0) hc ⟨rfl,trivial⟩ rfl rfl rfl rfl ?_
   simp only [bJ,ai.enc,ah.enc,go_sem]
   exact Fin.bH _ rfl rfl rfl rfl rfl rfl rfl)
 by_cases p3:s.phase=3
 ·have e:∀ j:Int,(s.phase==j)=((3:Int)==j):=fun j=>by rw [p3]
  have jM:∀ j:Int,(s.phase=j)=((3:Int)=j):=fun j=>by rw [p3]
  have e':∀ j:Int,(j==s.phase)=(j==(3:Int)):=fun j=>by rw [p3]
  have hc:=aei a s task k
  simp only [e,Int.reduceBEq,Bool.false_eq_true,if_true,if_false] at hR
  change Fn _ _ _ _ (I (s.uj a k).2.2) [bJ (s.uj a k).1 (s.uj a k).2.1 task k] _ at hc
  rw [hR] at hc
  (
   refine Fn.aB nU (by simp) ?_
   unfold ng SC.mk' bJ ai.enc ah.enc
   simp only [e,e',jM,iD,Int.reduceBEq,Int.reduceEq,if_true,if_false,Bool.false_eq_true,Option.isSome_some,Option.getD_some,Bool.not_true,Nat.reduceLT,Nat.reduceSub,reduceIte,go_sem]
   refine dG (b:=0) hc ⟨rfl,trivial⟩ rfl rfl rfl rfl ?_
   simp only [bJ,ai.enc,ah.enc,go_sem]
   exact Fin.bH _ rfl rfl rfl rfl rfl rfl rfl)
 by_cases p5:s.phase=5
 ·have e:∀ j:Int,(s.phase==j)=((5:Int)==j):=fun j=>by rw [p5]
  have jM:∀ j:Int,(s.phase=j)=((5:Int)=j):=fun j=>by rw [p5]
  have e':∀ j:Int,(j==s.phase)=(j==(5:Int)):=fun j=>by rw [p5]
  have hc:=ael a s task k ha hs hl p5
  simp only [e,Int.reduceBEq,Bool.false_eq_true,if_true,if_false] at hR
  rw [hR] at hc
  (
   refine Fn.aB nU (by simp) ?_
   unfold ng SC.mk' bJ ai.enc ah.enc
   simp only [e,e',jM,iD,Int.reduceBEq,Int.reduceEq,if_true,if_false,Bool.false_eq_true,Option.isSome_some,Option.getD_some,Bool.not_true,Nat.reduceLT,Nat.reduceSub,reduceIte,go_sem]
   refine dG (b:=0) hc ⟨rfl,trivial⟩ rfl rfl rfl rfl ?_
   simp only [bJ,ai.enc,ah.enc,go_sem]
   exact Fin.bH _ rfl rfl rfl rfl rfl rfl rfl)
 by_cases p6:s.phase=6
 ·have e:∀ j:Int,(s.phase==j)=((6:Int)==j):=fun j=>by rw [p6]
  have jM:∀ j:Int,(s.phase=j)=((6:Int)=j):=fun j=>by rw [p6]
  have e':∀ j:Int,(j==s.phase)=(j==(6:Int)):=fun j=>by rw [p6]
  have hc:=hE p6
  simp only [e,Int.reduceBEq,Bool.false_eq_true,if_true,if_false] at hR
  rw [hR] at hc
  (
   refine Fn.aB nU (by simp) ?_
   unfold ng SC.mk' bJ ai.enc ah.enc
   simp only [e,e',jM,iD,Int.reduceBEq,Int.reduceEq,if_true,if_false,Bool.false_eq_true,Option.isSome_some,Option.getD_some,Bool.not_true,Nat.reduceLT,Nat.reduceSub,reduceIte,go_sem]
   refine dG (b:=0) hc ⟨rfl,trivial⟩ rfl rfl rfl rfl ?_
   simp only [bJ,ai.enc,ah.enc,go_sem]
   exact Fin.bH _ rfl rfl rfl rfl rfl rfl rfl)
 by_cases p7:s.phase=7
 ·have e:∀ j:Int,(s.phase==j)=((7:Int)==j):=fun j=>by rw [p7]
  have jM:∀ j:Int,(s.phase=j)=((7:Int)=j):=fun j=>by rw [p7]
  have e':∀ j:Int,(j==s.phase)=(j==(7:Int)):=fun j=>by rw [p7]
  have hc:=aen a s task k ha hs hl p7
  simp only [e,Int.reduceBEq,Bool.false_eq_true,if_true,if_false] at hR
  rw [hR] at hc
  (
   refine Fn.aB nU (by simp) ?_
   unfold ng SC.mk' bJ ai.enc ah.enc
   simp only [e,e',jM,iD,Int.reduceBEq,Int.reduceEq,if_true,if_false,Bool.false_eq_true,Option.isSome_some,Option.getD_some,Bool.not_true,Nat.reduceLT,Nat.reduceSub,reduceIte,go_sem]
   refine dG (b:=0) hc ⟨rfl,trivial⟩ rfl rfl rfl rfl ?_
   simp only [bJ,ai.enc,ah.enc,go_sem]
   exact Fin.bH _ rfl rfl rfl rfl rfl rfl rfl)
 by_cases p8:s.phase=8
 ·have e:∀ j:Int,(s.phase==j)=((8:Int)==j):=fun j=>by rw [p8]
  have jM:∀ j:Int,(s.phase=j)=((8:Int)=j):=fun j=>by rw [p8]
  have e':∀ j:Int,(j==s.phase)=(j==(8:Int)):=fun j=>by rw [p8]
  have hc:=QK a s task k ha hs.lk
  simp only [e,Int.reduceBEq,Bool.false_eq_true,if_true,if_false] at hR
  rw [hR] at hc
  (
   refine Fn.aB nU (by simp) ?_
   unfold ng SC.mk' bJ ai.enc ah.enc
   simp only [e,e',jM,iD,Int.reduceBEq,Int.reduceEq,if_true,if_false,Bool.false_eq_true,Option.isSome_some,Option.getD_some,Bool.not_true,Nat.reduceLT,Nat.reduceSub,reduceIte,go_sem]
   refine dG (b:=0) hc ⟨rfl,trivial⟩ rfl rfl rfl rfl ?_
   simp only [bJ,ai.enc,ah.enc,go_sem]
   exact Fin.bH _ rfl rfl rfl rfl rfl rfl rfl)
 have f0:(s.phase==0)=false:=beq_eq_false_iff_ne.2 p0
 have f1:(s.phase==1)=false:=beq_eq_false_iff_ne.2 p1
 have f2:(s.phase==2)=false:=beq_eq_false_iff_ne.2 p2
 have f3:(s.phase==3)=false:=beq_eq_false_iff_ne.2 p3
 have f5:(s.phase==5)=false:=beq_eq_false_iff_ne.2 p5
 have f6:(s.phase==6)=false:=beq_eq_false_iff_ne.2 p6
 have f7:(s.phase==7)=false:=beq_eq_false_iff_ne.2 p7
 have f8:(s.phase==8)=false:=beq_eq_false_iff_ne.2 p8
 have f0':((0:Int)==s.phase)=false:=beq_eq_false_iff_ne.2 (Ne.symm p0)
 have f1':((1:Int)==s.phase)=false:=beq_eq_false_iff_ne.2 (Ne.symm p1)
 have f2':((2:Int)==s.phase)=false:=beq_eq_false_iff_ne.2 (Ne.symm p2)
 have f3':((3:Int)==s.phase)=false:=beq_eq_false_iff_ne.2 (Ne.symm p3)
 have f5':((5:Int)==s.phase)=false:=beq_eq_false_iff_ne.2 (Ne.symm p5)
 have f6':((6:Int)==s.phase)=false:=beq_eq_false_iff_ne.2 (Ne.symm p6)
 have f7':((7:Int)==s.phase)=false:=beq_eq_false_iff_ne.2 (Ne.symm p7)
 have f8':((8:Int)==s.phase)=false:=beq_eq_false_iff_ne.2 (Ne.symm p8)
 simp only [f0,f1,f2,f3,f5,f6,f7,f8,Bool.false_eq_true,if_false] at hR
 refine Fn.aB nU (by simp) ?_
 unfold ng SC.mk' bJ ai.enc ah.enc
 simp only [p0,p1,p2,p3,p5,p6,p7,p8,Ne.symm p0,f0,f1,f2,f3,f5,f6,f7,f8,f0',f1',f2',f3',f5',f6',f7',f8',iD,Int.reduceBEq,Int.reduceEq,if_true,if_false,Bool.false_eq_true,Option.isSome_none,Option.getD_none,Bool.not_false,reduceIte,go_sem]
 exact Fin.bH _ rfl rfl rfl rfl rfl (by subst hR;rfl) (by subst hR;rfl)
end Go.Eng
namespace Go.Eng
open Go Go.Proofs
theorem aex {a b:ai} (h:a.slots.length=b.slots.length) (s t:ah) (hc:s.lock.cells=t.lock.cells):ah.slots a s=ah.slots b t:=by unfold ah.slots;rw [h,hc]
theorem aey {a:ai} {s:ah} {task k:Int} {n:Nat} (ha:a.wf n) (hs:s.wf n) (hp:s.phase=0):(s.lF a task).2.2=(s.step0 a task k).2.2/\((s.step0 a task k).2.2=0->s.lF a task=s.step0 a task k):=by
 have e:∀ j:Int,(s.phase==j)=((0:Int)==j):=fun j=>by rw [hp]
 have hw:=aC.rz (task:=task) ha hs.lk
 have h0:=(hs.p0 hp).1
 have h5:(s.lock.step a task).2.2=0->(s.lock.step a task).2.1.phase≠5:=by
  unfold aC.step
  have h4:(s.lock.phase==4)=false:=beq_eq_false_iff_ne.2 (by omega)
  simp only [h4,Bool.or_false]
  repeat' split
  all_goals intro _ h
  all_goals simp_all
  all_goals omega
 unfold ah.lF ah.step0
 simp only [e,Int.reduceBEq,Bool.false_eq_true,if_true,if_false]
 generalize s.lock.step a task=x at hw h5
 by_cases h1:x.2.2=0
 ·have hw:=hw h1
  have h5:=h5 h1
  have hsl:x.1.slots.length=a.slots.length:=by rw [ha.sl,hw.1.sl]
  have hz:=Ce x.1 {s with lock:=x.2.1}
  have f5:(x.2.1.phase==5)=false:=beq_eq_false_iff_ne.2 h5
  have hq:ah.slots a (ah.enter {s with lock:=x.2.1} 1)=ah.slots x.1 {s with lock:=x.2.1}:=aex hsl.symm _ _ rfl
  rw [hq]
  generalize ah.slots x.1 {s with lock:=x.2.1}=z at hz
  simp only [h1,f5]
  by_cases h3:(x.2.1.phase==3)=true
  ·by_cases h6:z=0
   ·subst h6
    simp [h3,ah.enter]
   ·have h7:0<z:=by omega
    simp [h3,h6,h7,ah.enter]
  ·simp [h3]
 ·have f1:(x.2.2==0)=false:=beq_eq_false_iff_ne.2 h1
  simp [h1,f1]
theorem aez {a:ai} {s:ah} {task k:Int} {n:Nat} (ha:a.wf n) (hs:s.wf n) (hp:s.phase=8):(s.lF a task).2.2=(s.step0 a task k).2.2/\((s.step0 a task k).2.2=0->s.lF a task=s.step0 a task k):=by
 have e:∀ j:Int,(s.phase==j)=((8:Int)==j):=fun j=>by rw [hp]
 have hw:=aC.rz (task:=task) ha hs.lk
 have h8:=hs.p8 hp
 unfold ah.lF ah.step0
 simp only [e,Int.reduceBEq,Bool.false_eq_true,if_true,if_false]
 generalize s.lock.step a task=x at hw
 by_cases h1:x.2.2=0
 ·have h3:=(hw h1).2.2.2.2 h8
  have f3:(x.2.1.phase==3)=false:=beq_eq_false_iff_ne.2 (by omega)
  simp only [h1,f3]
  by_cases h5:(x.2.1.phase==5)=true
  ·simp [h5]
  ·simp [h5]
 ·have f1:(x.2.2==0)=false:=beq_eq_false_iff_ne.2 h1
  simp [h1,f1]
theorem aeA {a:ai} {s:ah} {task:Int} {n:Nat} (ha:a.wf n) (hs:s.wf n) (hp:s.phase=1):(s.pV a task (s.at_ / 2).toNat).2.2=(s.mark a task).2.2/\((s.mark a task).2.2=0->s.pV a task (s.at_ / 2).toNat=s.mark a task):=by
 obtain ⟨_,_,h3,h4,h5⟩:=hs.p1 hp
 have hq:s.at_.tdiv 2=s.at_ / 2:=Int.tdiv_eq_ediv_of_nonneg h3
 have hr:s.at_.tmod 2=s.at_ % 2:=Int.tmod_eq_emod_of_nonneg h3
 unfold ah.pV ah.mark
 rw [hq]
 obtain ⟨i,hi⟩:∃ i:Nat,s.at_ / 2=(i:Int):=⟨(s.at_ / 2).toNat,by omega⟩
 simp only [hi,Int.toNat_natCast]
 by_cases c1:(s.at_.tmod 2==0)=true
 ·simp [c1]
 have hc1:¬ s.at_ % 2=0:=by rw [<-hr];simpa using c1
 simp only [c1,if_false,Bool.false_eq_true]
 generalize (fC s.aH i).begin=x
 by_cases b1:x.2=0
 ·generalize a.gU (gI s.lock.cells i) task x.1=y
  simp only [b1,ne_eq,not_true_eq_false,if_false]
  by_cases b2:y.2=0
  ·have hst:s.aH.set i x.1=s.aH.take i++[x.1]:=by
    rw [List.set_eq_take_append_cons_drop,if_pos (by omega),List.drop_eq_nil_of_le (by omega)]
   simp only [b2,hst,not_true_eq_false,if_false,beq_self_eq_true,Bool.true_and]
   have hz:=Ce y.1 {s with aH:=s.aH.take i++[x.1],at_:=s.at_+1}
   generalize ah.slots y.1 {s with aH:=s.aH.take i++[x.1],at_:=s.at_+1}=z at hz
   have hb:((i:Int)==z - 1)=(s.at_+1==2*z):=by
    by_cases h:(i:Int)=z - 1
    ·rw [beq_iff_eq.2 h,beq_iff_eq.2 (by omega)]
    ·rw [beq_eq_false_iff_ne.2 h,beq_eq_false_iff_ne.2 (by omega)]
   rw [hb]
   simp
  ·simp [b2]
 ·simp [b1]
theorem aeB (a:ai) (s:ah):(s.pW a).2.2=(s.load a).2.2/\((s.load a).2.2=0->s.pW a=s.load a):=by
 unfold ah.pW ah.load
 simp only
 split
 ·simp
 ·by_cases h:(a.fD (gI s.lock.cells s.at_.toNat)).2=0
  ·simp [h]
  ·simp [h]
theorem aeC (a:ai) (s:ah) (k:Int):(s.uj a k).2.2=(s.aO.step a k).2/\((s.aO.step a k).2=0->s.uj a k=(a,if (s.aO.step a k).2==0&&(s.aO.step a k).1.phase==3 then ah.enter {s with aO:=(s.aO.step a k).1} 4 else {s with aO:=(s.aO.step a k).1},(s.aO.step a k).2)):=by
 unfold ah.uj
 refine ⟨rfl,fun h=> ?_⟩
 simp [h]
theorem aeD {a:ai} {s:ah} {task:Int} (hc:1<=s.at_->s.carry=s.out.carry) (h0:0<=s.at_):(s.pX a task).2.2=(s.store a task).2.2/\((s.store a task).2.2=0->s.pX a task=s.store a task):=by
 unfold ah.pX ah.store ah.Cg
 simp only
 generalize (if gI s.lock.cells (gI s.out.order s.at_.toNat).toNat==(a.slots.length:Int) then a.iC task s.out.dead else a.iB (gI s.lock.cells (gI s.out.order s.at_.toNat).toNat) task (bV s.out.aA (gI s.out.order s.at_.toNat).toNat))=y
 by_cases h1:y.2=0
 ·simp only [h1,ne_eq,not_true_eq_false,if_false]
  have hcc:(if s.at_+1==1 then s.out.carry else s.carry)=s.out.carry:=by
   split
   ·rfl
   ·rename_i h;exact hc (by
     have:s.at_+1≠1:=by simpa using h
     omega)
  rw [hcc]
  split
  ·simp
  ·split
   ·simp [ah.enter]
   ·simp
 ·simp [h1]
theorem QR (s:ah) (x:Int) (h:s.lock.free.2=0):ah.dz {s with at_:=x}=ah.dz s:=by
 unfold ah.dz ah.eD ah.enter
 simp [h]
theorem aeE {a:ai} {s:ah} {n:Nat} (hs:s.wf n) (hp:s.phase=6):(s.oq a).2.2=(s.ko a).2.2/\((s.ko a).2.2=0->s.oq a=s.ko a):=by
 have hfr:s.lock.free.2=0:=by unfold aC.free;rw [hs.p3 (by omega) (by omega)];rfl
 unfold ah.oq ah.ko
 simp only
 split
 ·simp
 ·have:=QR {s with dir:=(s.dir.apply (gE s.out.dF 0)).1} 0 hfr
  simp only at this
  rw [this]
  simp
theorem aeF {a:ai} {s:ah} {task:Int} {n:Nat} (hs:s.wf n) (hp:s.phase=7):(s.pY a task).2.2=(s.ji a task).2.2/\((s.ji a task).2.2=0->s.pY a task=s.ji a task):=by
 have hq:=hs.q3 (by omega)
 have e:s.aA.length=s.aH.length:=by omega
 unfold ah.pY ah.ji
 simp only [e]
 simp
theorem aeG {a:ai} {s:ah} {task k:Int} {n:Nat} (ha:a.wf n) (hs:s.wf n) (hc:s.phase=5->1<=s.at_->s.carry=s.out.carry):
 (s.nA a task k).2.2=(s.step0 a task k).2.2/\((s.step0 a task k).2.2=0->s.nA a task k=s.step0 a task k):=by
 by_cases p0:s.phase=0
 ·have:=aey (task:=task) (k:=k) ha hs p0
  unfold ah.nA
  simpa [p0] using this
 by_cases p8:s.phase=8
 ·have:=aez (task:=task) (k:=k) ha hs p8
  unfold ah.nA
  simpa [p8] using this
 unfold ah.nA ah.step0
 by_cases p1:s.phase=1
 ·have:=aeA (task:=task) ha hs p1
  simpa [p1] using this
 by_cases p2:s.phase=2
 ·simpa [p2] using aeB a s
 by_cases p3:s.phase=3
 ·have h:=aeC a s k
  have e:∀ j:Int,(s.phase==j)=((3:Int)==j):=fun j=>by rw [p3]
  simp only [e,Int.reduceBEq,Bool.false_eq_true,if_true,if_false]
  exact h
 by_cases p5:s.phase=5
 ·have:=aeD (a:=a) (task:=task) (hc p5) (hs.q5 p5).1
  simpa [p5] using this
 by_cases p6:s.phase=6
 ·simpa [p6] using aeE (a:=a) hs p6
 by_cases p7:s.phase=7
 ·simpa [p7] using aeF (a:=a) (task:=task) hs p7
 simp [p0,p1,p2,p3,p5,p6,p7,p8]
theorem aeH (a:ai) (s:ah) (task k:Int) {n:Nat} (ha:a.wf n) (hs:s.wf n) (hl:s.aT) (hc:s.phase=5->1<=s.at_->s.carry=s.out.carry)
 (hE:s.phase=6->Fn Tryz.prog 134 [.ptr 0 0] [bJ a s task k] (I (s.oq a).2.2) [bJ (s.oq a).1 (s.oq a).2.1 task k] []):
 Fn Tryz.prog 26 [.agg a.enc,.agg s.enc,I task,I k] [] (.aN [.agg (s.step a task k).1.enc,.agg (s.step a task k).2.1.enc,I (s.step a task k).2.2]) [] []:=by
 have hst:=aep a s task k ha hs hl hE
 obtain ⟨h1,h2⟩:=aeG (task:=task) (k:=k) ha hs hc
 generalize hR:s.step a task k=R
 unfold ah.step at hR
 generalize s.step0 a task k=r at hR h1 h2
 generalize s.nA a task k=x at hst h1 h2
 refine Fn.aB Mw (by simp) ?_
 unfold EA SC.mk' ai.enc ah.enc
 simp only [go_sem]
 repeat (refine bn ?_)
 refine dG (b:=88) hst ⟨rfl,trivial⟩ rfl rfl rfl rfl ?_
 by_cases b1:r.2.2=0
 ·rw [if_neg (by simp [b1])] at hR
  have hx:=h2 b1
  subst hx
  have b1':(x.2.2 !=0)=false:=by simp [b1]
  simp only [b1',bJ,ai.enc,ah.enc,go_sem]
  repeat (refine bn ?_)
  exact Fin.bA _ rfl rfl (by rw [<-hR];simp only [aD,rv,au,get,ah.enc,ai.enc,go_sem])
 ·rw [if_pos b1] at hR
  have b1':(x.2.2 !=0)=true:=by rw [h1];simpa using b1
  simp only [b1',go_sem]
  exact Fin.bA _ rfl rfl (by rw [<-hR,<-h1];simp only [aD,rv,au,get,ah.enc,ai.enc,ai.z,ni.z,Dead.z,Dir.z,fF,List.map_nil,go_sem])
theorem QS (s:ah) (o:bL) {n:Nat} (hs:s.wf n) (ho:o.order.length<=1000):Fn Tryz.prog 25 [.agg s.enc,.agg o.enc] [] (.aN [.agg (s.fE o).1.enc,I (s.fE o).2]) [] []:=by
 generalize hR:s.fE o=R
 unfold ah.fE at hR
 have hc:s.lock.cells.length<=1000:=by have:=hs.lk.l3;omega
 refine Fn.aB Mv (by simp) ?_
 unfold Ez SC.mk' ah.enc bL.enc
 simp only [go_sem]
 by_cases h0:(s.phase !=4)=true
 ·rw [if_pos h0] at hR
  simp only [h0,go_sem]
  exact Fin.bA _ rfl rfl (by rw [<-hR];simp only [aD,rv,au,get,ah.enc,fF,List.map_nil,go_sem])
 rw [if_neg h0] at hR
 simp only [Bool.not_eq_true] at h0
 have hp4:s.phase=4:=by simpa using h0
 have hq3:=hs.q3 (by omega)
 have hfr:s.lock.free.2=0:=by unfold aC.free;rw [hs.p3 (by omega) (by omega)];rfl
 simp only [h0,List.length_map,go_sem]
 by_cases h1:o.aA.length≠s.aA.length
 ·rw [if_pos (.inl h1)] at hR
  have h1':((o.aA.length:Int) !=(s.aA.length:Int))=true:=by simp;omega
  simp only [h1',go_sem]
  exact Fin.bA _ rfl rfl (by rw [<-hR];simp only [aD,rv,au,get,ah.enc,fF,List.map_nil,go_sem])
 have h1':((o.aA.length:Int) !=(s.aA.length:Int))=false:=by simp;omega
 by_cases h2:1<o.dF.length
 ·rw [if_pos (.inr h2)] at hR
  have h2':decide ((1:Int)<(o.dF.length:Int))=true:=by simp;omega
  simp only [h1',h2',List.length_map,go_sem]
  exact Fin.bA _ rfl rfl (by rw [<-hR];simp only [aD,rv,au,get,ah.enc,fF,List.map_nil,go_sem])
 rw [if_neg (by omega)] at hR
 have h2':decide ((1:Int)<(o.dF.length:Int))=false:=by simp;omega
 simp only [h1',h2',List.length_map,aY,go_sem]
 generalize hK:fe s.lock.cells o.order []=K at hR
 refine go_loop (fun j:{j:Nat // j<=o.order.length/\fe s.lock.cells (o.order.drop j) (o.order.take j)=K}=>⟨2000,[(2,.ptr 8 0),(3,.ptr 16 0),(4,.ptr 24 0),(27,.sl 1 (encI o.order)),(28,I o.order.length),(29,I j.1)],[(8,.box [I s.phase,I s.at_,.sl 1 (encI s.lock.cells),I s.lock.phase,I s.lock.got,I s.lock.tries,I s.lock.wait,I s.aO.phase,I s.aO.epoch,I s.aO.clock,I s.aO.stamp,.sl 8 (s.aA.map aj.enc),I s.dead.cap,.sl 7 (s.dead.l.map ak.enc),.sl 4 (s.aH.map aG.enc),I s.dir.version,.sl 3 (s.dir.l.map Span.enc),.sl 1 (encI s.dir.aM),.sl 8 (s.out.aA.map aj.enc),I s.out.dead.cap,.sl 7 (s.out.dead.l.map ak.enc),.sl 1 (encI s.out.order),.sl 7 (s.out.carry.map ak.enc),.sl 4 (s.out.dF.map eB.enc),I s.limit,.sl 7 (s.carry.map ak.enc)]),(16,.box [.sl 8 (o.aA.map aj.enc),I o.dead.cap,.sl 7 (o.dead.l.map ak.enc),.sl 1 (encI o.order),.sl 7 (o.carry.map ak.enc),.sl 4 (o.dF.map eB.enc)]),(24,.box [I 0,I 0,Nl,I 0,I 0,I 0,I 0,I 0,I 0,I 0,I 0,Nl,I 0,Nl,Nl,I 0,Nl,Nl,Nl,I 0,Nl,Nl,Nl,Nl,I 0,Nl])]⟩) (fun j=>o.order.length - j.1) ⟨0,by omega,by simpa using hK⟩ (wk [(8,8),(16,16),(24,24)] []) ?_
 rintro ⟨j,hj,he⟩ B hB
 simp only [go_sem]
 by_cases e1:j<o.order.length
 ·have e2:decide ((j:Int)<(o.order.length:Int))=true:=by simp;omega
  rw [fZ 0 e1] at he
  simp only [fe,show o.order[j]?.getD 0=gI o.order j from rfl] at he
  have hx:=jL e1
  have hw:=cZ (show j<=100000 by omega)
  have htk:o.order.take j++[gI o.order j]=o.order.take (j+1):=by
   unfold gI
   rw [List.take_succ_eq_append_getElem e1,List.getElem?_eq_getElem e1];rfl
  simp only [e2,hx,aY,Int.toNat_natCast,go_sem]
  repeat (refine bn ?_)
  by_cases f1:gI o.order j<0
  ·have hKf:K=false:=by rw [<-he];simp;omega
   rw [hKf,if_pos rfl] at hR
   simp only [f1,hx,aY,go_sem]
   repeat (refine bn ?_)
   exact Fin.bA _ rfl rfl (by rw [<-hR];simp only [aD,rv,au,get,ah.enc,fF,List.map_nil,go_sem])
  by_cases f2:(s.lock.cells.length:Int)<=gI o.order j
  ·have hKf:K=false:=by rw [<-he];simp;omega
   rw [hKf,if_pos rfl] at hR
   simp only [f1,f2,hx,aY,Int.toNat_natCast,go_sem]
   repeat (refine bn ?_)
   exact Fin.bA _ rfl rfl (by rw [<-hR];simp only [aD,rv,au,get,ah.enc,fF,List.map_nil,go_sem])
  have he2:(!((o.order.take j).any fun x=>x==gI o.order j)&&fe s.lock.cells (o.order.drop (j+1)) (o.order.take (j+1)))=K:=by
   rw [<-he,htk,show decide (0<=gI o.order j)=true by simp;omega,show decide (gI o.order j<(s.lock.cells.length:Int))=true by simp;omega];simp
  have hh:=QM (o.order.take j) (gI o.order j) (by simp;omega)
  have htj:List.take j (encI o.order)=encI (o.order.take j):=by simp [encI]
  simp only [f1,f2,hx,htj,aY,Int.toNat_natCast,List.drop_zero,Nat.sub_zero,go_sem]
  repeat (refine bn ?_)
  refine aS hh rfl rfl ?_
  by_cases g3:((o.order.take j).any fun x=>x==gI o.order j)=true
  ·have hKf:K=false:=by rw [<-he2,g3];rfl
   rw [hKf,if_pos rfl] at hR
   simp only [g3,go_sem]
   exact Fin.bA _ rfl rfl (by rw [<-hR];simp only [aD,rv,au,get,ah.enc,fF,List.map_nil,go_sem])
  ·simp only [Bool.not_eq_true] at g3
   have BS:fe s.lock.cells (o.order.drop (j+1)) (o.order.take (j+1))=K:=by rw [<-he2,g3];rfl
   simp only [g3,hw,go_sem]
   exact hB _ ⟨j+1,by omega,BS⟩ (by simp only;omega) (wk [(8,8),(16,16),(24,24)] [])
 ·have e2:decide ((j:Int)<(o.order.length:Int))=false:=by simp;omega
  rw [iY (by omega)] at he
  simp only [fe] at he
  rw [<-he] at hR
  simp only [Bool.true_eq_false,if_false] at hR
  simp only [e2,aY,List.length_map,go_sem]
  by_cases k1:0<o.order.length
  ·rw [if_pos k1] at hR
   have k1':decide ((0:Int)<(o.order.length:Int))=true:=decide_eq_true (by omega)
   simp only [k1',go_sem]
   exact Fin.bA _ rfl rfl (by rw [<-hR];simp only [aD,rv,au,get,ah.enter,ah.enc,go_sem])
  rw [if_neg k1] at hR
  have k1':decide ((0:Int)<(o.order.length:Int))=false:=decide_eq_false (by omega)
  by_cases k2:0<o.dF.length
  ·rw [if_pos k2] at hR
   have k2':decide ((0:Int)<(o.dF.length:Int))=true:=decide_eq_true (by omega)
   simp only [k1',k2',List.length_map,go_sem]
   exact Fin.bA _ rfl rfl (by rw [<-hR];simp only [aD,rv,au,get,ah.enter,ah.enc,go_sem])
  rw [if_neg k2] at hR
  have k2':decide ((0:Int)<(o.dF.length:Int))=false:=decide_eq_false (by omega)
  have hlv:=Jf {s with out:=o,at_:=0} hfr (show s.aA.length=s.aH.length from hq3.2.trans hq3.1.symm)
  rw [show ah.dz {s with out:=o,at_:=0}=ah.dz {s with out:=o} from QR {s with out:=o} 0 hfr] at hlv
  generalize ah.dz {s with out:=o}=u at hR hlv
  simp only [k1',k2',List.length_map,go_sem]
  refine aS hlv rfl rfl ?_
  simp only [ah.enc,go_sem]
  exact Fin.bA _ rfl rfl (by rw [<-hR];simp only [aD,rv,au,get,ah.enc,go_sem])
attribute [local go_sem] List.map_nil
theorem aeI (l:List ak) (hl:l.length<=1000):Fn Tryz.prog 58 [.sl 7 (l.map ak.enc),.sl 7 (l.map ak.enc)] [] (Bo true) [] []:=by
 refine Fn.aB Zg (by simp) ?_
 unfold EF SC.mk'
 simp only [go_sem]
 refine go_loop (fun j:{j:Nat // j<=l.length}=>⟨1000,[(0,.sl 7 (l.map ak.enc)),(1,.sl 7 (l.map ak.enc)),(5,I j.1)],[]⟩) (fun j=>l.length - j.1) ⟨0,by omega⟩ (wk [] []) ?_
 rintro ⟨j,hj⟩ B hB
 simp only [go_sem]
 by_cases e1:j<l.length
 ·have e2:decide ((j:Int)<(l.length:Int))=true:=by simp;omega
  have hx:nth (l.map ak.enc) j=ak.enc (gt l j):=fJ ak.enc ak.z e1
  have hw:=cZ (show j<=100000 by omega)
  have he:=Ou (gt l j) (gt l j)
  rw [Ov] at he
  generalize gt l j=x at hx he
  simp only [e2,hx,he,List.length_map,Int.toNat_natCast,Bool.not_true,go_sem]
  repeat (refine bn ?_)
  simp only [he,hw,Bool.not_true,go_sem]
  exact hB _ ⟨j+1,by omega⟩ (by simp only;omega) (wk [] [])
 ·have e2:decide ((j:Int)<(l.length:Int))=false:=by simp;omega
  simp only [e2,go_sem]
  exact Fin.bA _ rfl rfl rfl
theorem aeJ (r:Ring) (hl:r.cells.length<=1000):Fn Tryz.prog 74 [.agg r.enc,.agg r.enc] [] (Bo true) [] []:=by
 refine Fn.aB Zi (by simp) ?_
 unfold EM SC.mk' Ring.enc
 simp only [go_sem]
 have eY:=aeI r.cells hl
 exact aX
theorem aeK:Fn Tryz.prog 136 [.sl 8 [],.sl 8 []] [] (Bo true) [] []:=by
 refine Fn.aB Zk (by simp) ?_
 unfold E5 SC.mk'
 simp only [go_sem]
 refine go_loop (fun j:{j:Nat // j<=0}=>⟨1000,[(0,.sl 8 []),(1,.sl 8 []),(5,I j.1)],[]⟩) (fun j=>0) ⟨0,by omega⟩ (wk [] []) ?_
 rintro ⟨j,hj⟩ B hB
 have:j=0:=by omega
 subst this
 simp only [go_sem]
 exact Fin.bA _ rfl rfl rfl
theorem aeL (l:List Due) (hl:l.length<=1000):Fn Tryz.prog 137 [.sl 2 (l.map Due.enc),.sl 2 (l.map Due.enc)] [] (Bo true) [] []:=by
 refine Fn.aB Zl (by simp) ?_
 unfold E8 SC.mk'
 simp only [go_sem]
 refine go_loop (fun j:{j:Nat // j<=l.length}=>⟨1000,[(0,.sl 2 (l.map Due.enc)),(1,.sl 2 (l.map Due.enc)),(5,I j.1)],[]⟩) (fun j=>l.length - j.1) ⟨0,by omega⟩ (wk [] []) ?_
 rintro ⟨j,hj⟩ B hB
 simp only [go_sem]
 by_cases e1:j<l.length
 ·have e2:decide ((j:Int)<(l.length:Int))=true:=by simp;omega
  have hx:nth (l.map Due.enc) j=Due.enc (gD l j):=fJ Due.enc Due.z e1
  have hw:=cZ (show j<=100000 by omega)
  generalize gD l j=x at hx
  simp only [e2,hx,Due.enc,List.length_map,Int.toNat_natCast,Bool.not_true,go_sem]
  repeat (refine bn ?_)
  simp only [hw,beq_self_eq_true,Bool.and_self,Bool.not_true,go_sem]
  exact hB _ ⟨j+1,by omega⟩ (by simp only;omega) (wk [] [])
 ·have e2:decide ((j:Int)<(l.length:Int))=false:=by simp;omega
  simp only [e2,go_sem]
  exact Fin.bA _ rfl rfl rfl
theorem aeM (t:Table) (h0:t.l=[]) (hl:t.heap.length<=1000):Fn Tryz.prog 75 [.agg [.sl 8 [],.sl 2 (t.heap.map Due.enc)],.agg [.sl 8 [],.sl 2 (t.heap.map Due.enc)]] [] (Bo true) [] []:=by
 refine Fn.aB Zj (by simp) ?_
 unfold EN SC.mk'
 simp only [go_sem]
 have eY:=aeK
 have jg:=aeL t.heap hl
 exact aX
theorem aeN (s:aj) (h0:s.aL.l=[]) (hs:s.sm) (hc:s.ready.cells.length<=1000):Fn Tryz.prog 27 [.agg s.enc,.agg s.enc] [] (Bo true) [] []:=by
 have h6:=aeM s.aL h0 (by have:=hs.2;omega)
 have h4:=aeJ s.ready hc
 unfold Ring.enc at h4
 refine Fn.aB Ze (by simp) ?_
 unfold EB SC.mk' aj.enc
 rw [h0]
 simp only [go_sem]
 exact aX
end Go.Eng
