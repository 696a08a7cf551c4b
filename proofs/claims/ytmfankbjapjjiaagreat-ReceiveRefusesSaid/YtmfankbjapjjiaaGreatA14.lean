/-
  Part of a proof: lemmas and definitions of this work.
  No condition.
-/
import Derived.Test.YtmfankbjapjjiaaGreatA08
import Derived.Test.YtmfankbjapjjiaaGreatA13
set_option linter.all false
set_option maxRecDepth 100000
set_option maxHeartbeats 8000000
namespace Go.Eng
open Go
structure aW.wf (n:Nat) (l:aW):Prop where
 l1:1<=l.cells.length
 l3:l.cells.length<=3
 uW:∀ c ∈ l.cells,0<=c/\c<=(n:Int)
 tq:l.cells.Pairwise (·<·)
 ph:(l.phase=0/\0<=l.got/\l.got<l.cells.length)\/((l.phase=1\/l.phase=4)/\1<=l.got/\l.got<=l.cells.length)\/(l.phase=2/\l.got=0)\/(l.phase=3/\l.got=l.cells.length)\/(l.phase=5/\l.got=0)
theorem acF:∀ (l:List Int) (p:Int),l9 l p=true->(∀ c ∈ l,p<c/\0<=c/\c<=6)/\l.Pairwise (·<·)
 |[],_,_=>by simp
 |c::r,p,h=>by
  simp [l9,dQ] at h
  obtain ⟨h1,h2⟩:=acF r c h.2
  refine ⟨fun x hx=> ?_,List.pairwise_cons.2 ⟨fun x hx=>(h1 x hx).1,h2⟩⟩
  rcases List.mem_cons.1 hx with rfl|hx
  ·omega
  ·have:=h1 x hx;omega
theorem aW.Ke {n:Nat} {cells:List Int} (hn:∀ c ∈ cells,c<=(n:Int)) (e:(aW.new cells).2=0):(aW.new cells).1.wf n/\(aW.new cells).1.phase=0/\(aW.new cells).1.cells=cells:=by
 unfold aW.new at e ⊢
 split
 ·rename_i hc;rw [if_pos hc] at e;cases e
 ·rename_i hc;rw [if_neg hc] at e
  simp at hc
  split
  ·rename_i hl
   obtain ⟨h1,h2⟩:=acF _ _ hl
   have:cells.length≠0:=fun h=>hc.1 (List.eq_nil_of_length_eq_zero h)
   exact ⟨⟨by simp only;omega,by simp only;omega,fun c hx=>⟨(h1 c hx).2.1,hn c hx⟩,h2,.inl ⟨rfl,by simp,by simp only;omega⟩⟩,rfl,rfl⟩
  ·rename_i hl;rw [if_neg hl] at e;cases e
theorem aW.DL {n:Nat} {l:aW} (h:l.wf n) (e:l.free.2=0):l.free.1.wf n/\l.free.1.phase=4/\l.free.1.cells=l.cells:=by
 unfold aW.free at e ⊢
 split
 ·rename_i hc;rw [if_pos hc] at e;cases e
 ·rename_i hc
  simp at hc
  refine ⟨⟨h.l1,h.l3,h.uW,h.tq,?_⟩,rfl,rfl⟩
  rcases h.ph with h1|h1|h1|h1|h1
  ·omega
  ·omega
  ·omega
  ·have:=h.l1;exact .inr (.inl ⟨.inr rfl,by simp only;omega,by simp only;omega⟩)
  ·omega
theorem aW.DN {n:Nat} {a:aj} {l:aW} {task:Int} (ha:a.wf n) (h:l.wf n) (e:(l.step a task).2.2=0):
 (l.step a task).1.wf n/\(l.step a task).2.1.wf n/\(l.step a task).2.1.cells=l.cells/\
  ((l.phase=0\/l.phase=1\/l.phase=2)->((l.step a task).2.1.phase=0\/(l.step a task).2.1.phase=1\/(l.step a task).2.1.phase=2\/(l.step a task).2.1.phase=3))/\
  (l.phase=4->((l.step a task).2.1.phase=4\/(l.step a task).2.1.phase=5)):=by
 unfold aW.step at e ⊢
 split
 ·rename_i hc
  rw [if_pos hc] at e
  simp at hc
  have hp:0<=l.got/\l.got<l.cells.length:=by rcases h.ph with h1|h1|h1|h1|h1<;>omega
  simp only at e ⊢
  split
  ·rename_i hd;rw [if_pos hd] at e;exact absurd e hd
  ·rename_i hd
   have ht:=(aj.alz ha (Decidable.not_not.1 hd)).1
   split
   ·refine ⟨ht,⟨h.l1,h.l3,h.uW,h.tq,?_⟩,rfl,fun _=> ?_,fun h=>by omega⟩
    ·simp only [beq_iff_eq]
     split
     ·rename_i hq;exact .inr (.inr (.inr (.inl ⟨rfl,hq⟩)))
     ·rename_i hq;exact .inl ⟨hc,by omega,by omega⟩
    ·simp only [beq_iff_eq]
     split
     ·simp
     ·simp [hc]
   ·split
    ·exact ⟨ht,⟨h.l1,h.l3,h.uW,h.tq,.inr (.inl ⟨.inl rfl,by simp only;omega,by simp only;omega⟩)⟩,rfl,fun _=>by simp,fun h=>by omega⟩
    ·exact ⟨ht,h,rfl,fun _=>by simp [hc],fun h=>by omega⟩
 ·rename_i hc;rw [if_neg hc] at e
  split
  ·rename_i hd
   rw [if_pos hd] at e
   simp at hc hd
   have hp:1<=l.got/\l.got<=l.cells.length:=by rcases h.ph with h1|h1|h1|h1|h1<;>omega
   simp only at e ⊢
   split
   ·rename_i hf;rw [if_pos hf] at e;exact absurd e hf
   ·rename_i hf
    have ht:=aj.alA ha (Decidable.not_not.1 hf)
    split
    ·refine ⟨ht,⟨h.l1,h.l3,h.uW,h.tq,.inr (.inl ⟨hd,by simp only;omega,by simp only;omega⟩)⟩,rfl,fun hh=> ?_,fun hh=> .inl hh⟩
     simp only;omega
    ·split
     ·rename_i hg
      simp at hg
      exact ⟨ht,⟨h.l1,h.l3,h.uW,h.tq,.inr (.inr (.inr (.inr ⟨rfl,by simp only;omega⟩)))⟩,rfl,fun hh=>by omega,fun hh=> .inr rfl⟩
     ·rename_i hg
      simp at hg
      exact ⟨ht,⟨h.l1,h.l3,h.uW,h.tq,.inr (.inr (.inl ⟨rfl,by simp only;omega⟩))⟩,rfl,fun hh=>by simp,fun hh=>by omega⟩
  ·rename_i hd;rw [if_neg hd] at e
   split
   ·rename_i hf
    simp at hc hd hf
    have hp:l.got=0:=by rcases h.ph with h1|h1|h1|h1|h1<;>omega
    have:=h.l1
    refine ⟨ha,⟨h.l1,h.l3,h.uW,h.tq,?_⟩,rfl,fun _=> ?_,fun hh=>by omega⟩
    ·simp only
     split
     ·exact .inl ⟨rfl,by omega,by omega⟩
     ·exact .inr (.inr (.inl ⟨rfl,hp⟩))
    ·simp only
     split<;>simp
   ·rename_i hf;rw [if_neg hf] at e;cases e
def cu (n:Nat) (l:List Int):Nat:=(l.filter fun c=>decide (c<(n:Int))).length
theorem xg (n:Nat) (l:List Int):cu n l<=l.length:=List.length_filter_le _ _
theorem av.V3 {n:Nat} {a:aj} (ha:a.wf n) (s:av):av.slots a s=cu n s.lock.cells:=by
 unfold av.slots ng cu;rw [ha.sl]
theorem V4 {n:Nat}:∀ (l:List Int) (k:Nat),l.Pairwise (·<·)->k<l.length->gI l k<n->k<cu n l
 |[],k,_,h,_=>by simp at h
 |c::r,0,hp,_,h=>by
  simp [gI] at h
  simp [cu,h]
 |c::r,k+1,hp,hk,h=>by
  have hp:=List.pairwise_cons.1 hp
  have h':gI r k<n:=by simpa [gI] using h
  have ih:=V4 r k hp.2 (by simpa using hk) h'
  have hm:gI r k ∈ r:=by
   unfold gI;rw [List.getElem?_eq_getElem (by simpa using hk)];exact List.getElem_mem _
  have:c<n:=by have:=hp.1 _ hm;omega
  simp only [cu,List.filter_cons,decide_eq_true_eq,this,if_true,List.length_cons] at ih ⊢
  omega
theorem acG {n:Nat}:∀ (l:List Int) (k:Nat),l.Pairwise (·<·)->k<cu n l->gI l k<n
 |[],k,_,h=>by simp [cu] at h
 |c::r,k,hp,hk=>by
  have hp:=List.pairwise_cons.1 hp
  by_cases hc:c<n
  ·cases k with
   |zero=>simpa [gI] using hc
   |succ k=>
    have:k<cu n r:=by simp only [cu,List.filter_cons,decide_eq_true_eq,hc,if_true,List.length_cons] at hk ⊢;omega
    simpa [gI] using acG r k hp.2 this
  ·exfalso
   have:cu n (c::r)=0:=by
    simp only [cu,List.length_eq_zero_iff,List.filter_eq_nil_iff]
    intro x hx
    rcases List.mem_cons.1 hx with rfl|hx
    ·simpa using hc
    ·have:=hp.1 x hx;simp;omega
   omega
structure av.wf (n:Nat) (s:av):Prop where
 lk:s.lock.wf n
 p0:s.phase=0->(s.lock.phase=0\/s.lock.phase=1\/s.lock.phase=2)/\s.aN=[]/\s.bU=[]
 p1:s.phase=1->s.lock.phase=3/\s.aN=[]/\0<=s.at_/\s.at_<2*cu n s.lock.cells/\s.bU.length=((s.at_+1) / 2).toNat
 p2:s.phase=2->s.lock.phase=3/\s.bU.length=cu n s.lock.cells/\0<=s.at_/\s.at_<s.lock.cells.length/\s.aN.length=min s.at_.toNat (cu n s.lock.cells)
 p3:3<=s.phase->s.phase<=7->s.lock.phase=3
 q3:3<=s.phase->s.bU.length=cu n s.lock.cells/\s.aN.length=cu n s.lock.cells
 p5:5<=s.phase->s.out.aN.length=cu n s.lock.cells/\(∀ k ∈ s.out.order,0<=k/\k<s.lock.cells.length)
 q5:s.phase=5->0<=s.at_/\s.at_<s.out.order.length
 p6:s.phase=6->0<s.out.dP.length
 p7:s.phase=7->0<=s.at_/\s.at_<cu n s.lock.cells
 p8:s.phase=8->s.lock.phase=4
 lo:0<=s.phase
 hi:s.phase<=9
section
variable {n:Nat} {a:aj} {s:av} {task:Int}
theorem av.alE (ha:a.wf n) (h:s.wf n) (hp:s.phase=1) (e:(s.mark a task).2.2=0):
 (s.mark a task).1.wf n/\(s.mark a task).2.1.wf n/\(s.mark a task).2.1.lock.cells=s.lock.cells:=by
 obtain ⟨h1,h2,h3,h4,h5⟩:=h.p1 hp
 have hK:=xg n s.lock.cells
 unfold av.mark at e ⊢
 simp only [Int.tdiv_eq_ediv_of_nonneg h3,Int.tmod_eq_emod_of_nonneg h3] at e ⊢
 split
 ·rename_i hc
  simp at hc
  refine ⟨ha,⟨h.lk,fun q=> ?_,fun q=>⟨h1,h2,?_,?_,?_⟩,fun q=> ?_,fun q=> ?_,fun q=> ?_,fun q=> ?_,fun q=> ?_,fun q=> ?_,fun q=> ?_,fun q=> ?_,h.lo,h.hi⟩,rfl⟩<;>simp only at* <;>try omega
  rw [List.length_append,h5]
  simp only [List.length_cons,List.length_nil]
  omega
 ·rename_i hc;rw [if_neg hc] at e
  simp at hc
  split
  ·rename_i hd;rw [if_pos hd] at e;exact absurd e hd
  ·rename_i hd;rw [if_neg hd] at e
   simp only at e
   have hs:=aj.acv ha e
   refine ⟨hs,?_,?_⟩
   ·have hl:(s.bU.take (s.at_ / 2).toNat++[(jd s.bU (s.at_ / 2).toNat).begin.1]).length=((s.at_+1) / 2).toNat:=by
     rw [List.length_append,List.length_take,h5]
     simp only [List.length_cons,List.length_nil]
     omega
    split
    ·rename_i hq
     simp only [Bool.and_eq_true,beq_iff_eq,av.V3 hs] at hq
     have hl1:=h.lk.l1
     refine ⟨h.lk,fun q=> ?_,fun q=> ?_,fun q=>⟨h1,?_,?_,?_,?_⟩,fun q=> ?_,fun q=> ?_,fun q=> ?_,fun q=> ?_,fun q=> ?_,fun q=> ?_,fun q=> ?_,by simp [av.enter],by simp [av.enter]⟩<;>simp only [av.enter] at* <;>try omega
     rw [h2];simp
    ·rename_i hq
     simp only [e,av.V3 hs,beq_self_eq_true,Bool.true_and,beq_iff_eq] at hq
     refine ⟨h.lk,fun q=> ?_,fun q=>⟨h1,h2,?_,?_,?_⟩,fun q=> ?_,fun q=> ?_,fun q=> ?_,fun q=> ?_,fun q=> ?_,fun q=> ?_,fun q=> ?_,fun q=> ?_,h.lo,h.hi⟩<;>simp only at* <;>try omega
   ·split<;>rfl
theorem av.alF (ha:a.wf n) (h:s.wf n) (hp:s.phase=2) (e:(s.load a).2.2=0):
 (s.load a).1.wf n/\(s.load a).2.1.wf n/\(s.load a).2.1.lock.cells=s.lock.cells:=by
 obtain ⟨h1,h2,h3,h4,h5⟩:=h.p2 hp
 have hK:=xg n s.lock.cells
 unfold av.load at e ⊢
 simp only at e ⊢
 refine ⟨ha,?_⟩
 have key:∀ (y:av×Int),(if (gI s.lock.cells s.at_.toNat==(a.slots.length:Int))=true then ({s with dead:=a.dead.dead},(0:Int)) else ({s with aN:=s.aN++[(a.kF (gI s.lock.cells s.at_.toNat)).1]},(a.kF (gI s.lock.cells s.at_.toNat)).2))=y->
  y.1.lock=s.lock/\y.1.phase=s.phase/\y.1.bU=s.bU/\y.1.out=s.out/\y.1.aN.length=min (s.at_.toNat+1) (cu n s.lock.cells):=by
  intro y hy
  have hc0:gI s.lock.cells s.at_.toNat<=n:=(Kb h.lk.uW (i:=s.at_.toNat) (by omega)).2
  split at hy
  ·rename_i hc
   subst hy
   refine ⟨rfl,rfl,rfl,rfl,?_⟩
   simp only [beq_iff_eq,ha.sl] at hc
   have:¬ s.at_.toNat<cu n s.lock.cells:=fun hlt=>by have:=acG _ _ h.lk.tq hlt;omega
   simp only
   omega
  ·rename_i hc
   subst hy
   refine ⟨rfl,rfl,rfl,rfl,?_⟩
   have hne:gI s.lock.cells s.at_.toNat≠(n:Int):=fun he=>hc (by rw [he,ha.sl];simp)
   have:=V4 (n:=n) s.lock.cells s.at_.toNat h.lk.tq (by omega) (by omega)
   simp only [List.length_append,List.length_cons,List.length_nil,h5]
   omega
 generalize hy:(if (gI s.lock.cells s.at_.toNat==(a.slots.length:Int))=true then ({s with dead:=a.dead.dead},(0:Int)) else ({s with aN:=s.aN++[(a.kF (gI s.lock.cells s.at_.toNat)).1]},(a.kF (gI s.lock.cells s.at_.toNat)).2))=y at e ⊢
 obtain ⟨k1,k2,k3,k4,k5⟩:=key y hy
 obtain ⟨y,ye⟩:=y
 simp only at k1 k2 k3 k4 k5
 simp only [beq_iff_eq]
 refine ⟨?_,by split<;>simp [av.enter,k1]⟩
 split
 ·rename_i hq
  rw [k1] at hq
  refine ⟨by simp [av.enter,k1];exact h.lk,fun q=> ?_,fun q=> ?_,fun q=> ?_,fun _ _=> ?_,fun _=>⟨?_,?_⟩,fun q=> ?_,fun q=> ?_,fun q=> ?_,fun q=> ?_,fun q=> ?_,by simp [av.enter],by simp [av.enter]⟩<;>simp only [av.enter,k1,k3] at* <;>try omega
 ·rename_i hq
  rw [k1] at hq
  have hlo:=h.lo
  have hhi:=h.hi
  refine ⟨by rw [k1];exact h.lk,fun q=> ?_,fun q=> ?_,fun q=>⟨?_,?_,?_,?_,?_⟩,fun q=> ?_,fun q=> ?_,fun q=> ?_,fun q=> ?_,fun q=> ?_,fun q=> ?_,fun q=> ?_,?_,?_⟩<;>simp only [k1,k2,k3] at* <;>try omega
theorem av.acH (h:s.wf n) (hp:3<=s.phase) (hq:s.out.aN.length=cu n s.lock.cells/\(∀ k ∈ s.out.order,0<=k/\k<s.lock.cells.length)) (e:s.jq.2=0):
 s.jq.1.wf n/\s.jq.1.lock.cells=s.lock.cells:=by
 unfold av.jq at e ⊢
 split
 ·rename_i hc;rw [if_pos hc] at e;exact absurd e hc
 ·rename_i hc
  obtain ⟨h1,h2,h3⟩:=aW.DL h.lk (Decidable.not_not.1 hc)
  refine ⟨⟨h1,fun q=> ?_,fun q=> ?_,fun q=> ?_,fun _ _=> ?_,fun _=> ?_,fun q=> ?_,fun q=> ?_,fun q=> ?_,fun q=> ?_,fun q=> ?_,by simp [av.enter],by simp [av.enter]⟩,h3⟩<;>simp only [av.enter] at* <;>try omega
  ·rw [h3];exact h.q3 hp
  ·rw [h3];exact hq
theorem av.V5 (h:s.wf n) (hp:3<=s.phase) (V6:s.phase<=7) (hq:s.out.aN.length=cu n s.lock.cells/\(∀ k ∈ s.out.order,0<=k/\k<s.lock.cells.length)) (e:s.je.2=0):
 s.je.1.wf n/\s.je.1.lock.cells=s.lock.cells:=by
 unfold av.je at e ⊢
 split
 ·rename_i hc
  have hq3:=h.q3 hp
  refine ⟨⟨h.lk,fun q=> ?_,fun q=> ?_,fun q=> ?_,fun _ _=>h.p3 hp V6,fun _=>hq3,fun _=>hq,fun q=> ?_,fun q=> ?_,fun q=> ?_,fun q=> ?_,by simp [av.enter],by simp [av.enter]⟩,rfl⟩<;>simp only [av.enter] at* <;>try omega
 ·rename_i hc;rw [if_neg hc] at e
  exact av.acH h hp hq e
theorem av.alG (ha:a.wf n) (h:s.wf n) (hp:s.phase=5) (e:(s.store a task).2.2=0):
 (s.store a task).1.wf n/\(s.store a task).2.1.wf n/\(s.store a task).2.1.lock.cells=s.lock.cells:=by
 have h5:=h.p5 (by omega)
 have hq5:=h.q5 hp
 have hl3:=h.p3 (by omega) (by omega)
 have hq3:=h.q3 (by omega)
 unfold av.store at e ⊢
 simp only at e ⊢
 generalize hy:(if (gI s.lock.cells (gI s.out.order s.at_.toNat).toNat==(a.slots.length:Int))=true then a.l7 task s.out.dead else a.l6 (gI s.lock.cells (gI s.out.order s.at_.toNat).toNat) task (dZ s.out.aN (gI s.out.order s.at_.toNat).toNat))=y at e ⊢
 split
 ·rename_i hc;rw [if_pos hc] at e;exact absurd e hc
 ·rename_i hc;rw [if_neg hc] at e
  have V7:y.1.wf n:=by
   have hc:=Decidable.not_not.1 hc
   split at hy
   ·subst hy;exact aj.alC ha hc
   ·subst hy;exact aj.alB ha hc
  split
  ·rename_i hd
   refine ⟨V7,⟨h.lk,fun q=> ?_,fun q=> ?_,fun q=> ?_,fun _ _=>hl3,fun _=>hq3,fun _=>h5,fun q=> ?_,fun q=> ?_,fun q=> ?_,fun q=> ?_,?_,?_⟩,rfl⟩<;>simp only at* <;>try omega
  ·rename_i hd;rw [if_neg hd] at e
   split
   ·rename_i hf
    refine ⟨V7,⟨h.lk,fun q=> ?_,fun q=> ?_,fun q=> ?_,fun _ _=>hl3,fun _=>hq3,fun _=>h5,fun q=> ?_,fun q=>hf,fun q=> ?_,fun q=> ?_,by simp [av.enter],by simp [av.enter]⟩,rfl⟩<;>simp only [av.enter] at* <;>try omega
   ·rename_i hf;rw [if_neg hf] at e
    have hu:=av.V5 (n:=n) (s:={s with phase:=4,at_:=s.at_+1,carry:=[]}) ⟨h.lk,fun q=>by simp at q,fun q=>by simp at q,fun q=>by simp at q,fun _ _=>hl3,fun _=>hq3,fun q=>h5,fun q=>by simp at q,fun q=>by simp at q,fun q=>by simp at q,fun q=>by simp at q,by simp,by simp⟩ (by simp) (by simp) h5
    have e1:av.je {s with phase:=4,at_:=s.at_+1,carry:=[]}=av.je {s with at_:=s.at_+1,carry:=[]}\/True:= .inr trivial
    have key:(av.je {s with at_:=s.at_+1,carry:=[]})=((av.je {s with phase:=4,at_:=s.at_+1,carry:=[]}))\/(av.je {s with at_:=s.at_+1,carry:=[]}).2≠0:=by
     unfold av.je av.jq av.enter
     simp only
     split
     ·exact .inl rfl
     ·split
      ·rename_i hx;exact .inr hx
      ·exact .inl rfl
    rcases key with key|key
    ·rw [key] at e ⊢
     exact ⟨V7,hu e⟩
    ·exact absurd e key
theorem av.alI (ha:a.wf n) (h:s.wf n) (hp:s.phase=6) (e:(s.mg a).2.2=0):
 (s.mg a).1.wf n/\(s.mg a).2.1.wf n/\(s.mg a).2.1.lock.cells=s.lock.cells:=by
 have h5:=h.p5 (by omega)
 have h6:=h.p6 hp
 have hl3:=h.p3 (by omega) (by omega)
 have hq3:=h.q3 (by omega)
 have mk:∀ (d:Dir) (x:Int),av.wf n {s with dir:=d,at_:=x}:=fun d x=>
  ⟨h.lk,fun q=>by simp only at q;omega,fun q=>by simp only at q;omega,fun q=>by simp only at q;omega,fun _ _=>hl3,fun _=>hq3,fun _=>h5,fun q=>by simp only at q;omega,fun _=>h6,fun q=>by simp only at q;omega,fun q=>by simp only at q;omega,h.lo,h.hi⟩
 unfold av.mg at e ⊢
 simp only at e ⊢
 split
 ·exact ⟨ha,mk _ _,rfl⟩
 ·rename_i hc;rw [if_neg hc] at e
  split
  ·rename_i hd;rw [if_pos hd] at e;exact absurd e hd
  ·rename_i hd;rw [if_neg hd] at e
   split
   ·rename_i hf;rw [if_pos hf] at e;exact absurd e hf
   ·rename_i hf;rw [if_neg hf] at e
    have hx:=aj.alD ha (Decidable.not_not.1 hf)
    split
    ·exact ⟨hx,mk s.dir 0,rfl⟩
    ·rename_i hg;rw [if_neg hg] at e
     exact ⟨hx,av.V5 (mk _ s.at_) (by simp only;omega) (by simp only;omega) h5 e⟩
theorem av.alJ (ha:a.wf n) (h:s.wf n) (hp:s.phase=7) (e:(s.mh a task).2.2=0):
 (s.mh a task).1.wf n/\(s.mh a task).2.1.wf n/\(s.mh a task).2.1.lock.cells=s.lock.cells:=by
 have h5:=h.p5 (by omega)
 have h7:=h.p7 hp
 have hl3:=h.p3 (by omega) (by omega)
 have hq3:=h.q3 (by omega)
 unfold av.mh at e ⊢
 simp only at e ⊢
 generalize (if s.yT s.at_=true then dZ s.out.aN s.at_.toNat else dZ s.aN s.at_.toNat)=now at e ⊢
 split
 ·rename_i hd;rw [if_pos hd] at e;exact absurd e hd
 ·rename_i hd;rw [if_neg hd] at e
  split
  ·rename_i hf;rw [if_pos hf] at e;exact absurd e hf
  ·rename_i hf;rw [if_neg hf] at e
   have hx:=aj.acv ha (Decidable.not_not.1 hf)
   split
   ·rename_i hg;rw [if_pos hg] at e
    have hfr:=av.acH (n:=n) (s:={s with phase:=4,at_:=s.at_+1}) ⟨h.lk,fun q=>by simp at q,fun q=>by simp at q,fun q=>by simp at q,fun _ _=>hl3,fun _=>hq3,fun q=>h5,fun q=>by simp at q,fun q=>by simp at q,fun q=>by simp at q,fun q=>by simp at q,by simp,by simp⟩ (by simp) h5
    have key:(av.jq {s with at_:=s.at_+1})=((av.jq {s with phase:=4,at_:=s.at_+1}))\/(av.jq {s with at_:=s.at_+1}).2≠0:=by
     unfold av.jq av.enter
     simp only
     split
     ·rename_i hx;exact .inr hx
     ·exact .inl rfl
    rcases key with key|key
    ·rw [key] at e ⊢
     exact ⟨hx,hfr e⟩
    ·exact absurd e key
   ·rename_i hg
    simp only [beq_iff_eq] at hg
    refine ⟨hx,⟨h.lk,fun q=> ?_,fun q=> ?_,fun q=> ?_,fun _ _=>hl3,fun _=>hq3,fun _=>h5,fun q=> ?_,fun q=> ?_,fun q=> ?_,fun q=> ?_,?_,?_⟩,rfl⟩<;>simp only at* <;>try omega
end
end Go.Eng
namespace Go.Eng
open Go
section
variable {n:Nat} {a:aj} {s:av} {task:Int}
theorem av.DN (ha:a.wf n) (h:s.wf n) {k:Int} (e:(s.step a task k).2.2=0):
 (s.step a task k).1.wf n/\(s.step a task k).2.1.wf n/\(s.step a task k).2.1.lock.cells=s.lock.cells:=by
 unfold av.step at e ⊢
 split
 ·rename_i hc;rw [if_pos hc] at e;exact absurd e hc
 ·rename_i hc
  have e:=Decidable.not_not.1 hc
  clear hc
  simp only
  unfold av.step0 at e ⊢
  split
  ·rename_i hp
   simp only [beq_iff_eq] at hp
   rw [if_pos (by simp [hp])] at e
   obtain ⟨h1,h2,h3⟩:=h.p0 hp
   simp only at e ⊢
   have el:(s.lock.step a task).2.2=0:=by split at e<;>exact e
   obtain ⟨l1,l2,l3,l4,_⟩:=aW.DN ha h.lk el
   have l4:=l4 h1
   split
   ·rename_i hq
    simp only [Bool.and_eq_true,beq_iff_eq] at hq
    refine ⟨l1,?_,by split<;>simp [av.enter,l3]⟩
    simp only [beq_iff_eq,av.V3 ha]
    have hl1:=h.lk.l1
    split
    ·rename_i hz
     simp only [av.enter,l3] at hz
     refine ⟨l2,fun q=> ?_,fun q=> ?_,fun q=>⟨hq.2,?_,?_,?_,?_⟩,fun q=> ?_,fun q=> ?_,fun q=> ?_,fun q=> ?_,fun q=> ?_,fun q=> ?_,fun q=> ?_,by simp [av.enter],by simp [av.enter]⟩<;>simp only [av.enter,l3] at* <;>try omega
     ·rw [h3];simp only [List.length_nil];omega
     ·rw [h2];simp
    ·rename_i hz
     simp only [av.enter,l3] at hz
     refine ⟨l2,fun q=> ?_,fun q=>⟨hq.2,h2,?_,?_,?_⟩,fun q=> ?_,fun q=> ?_,fun q=> ?_,fun q=> ?_,fun q=> ?_,fun q=> ?_,fun q=> ?_,fun q=> ?_,by simp [av.enter],by simp [av.enter]⟩<;>simp only [av.enter,l3] at* <;>try omega
     rw [h3];simp
   ·rename_i hq
    simp only [el,beq_self_eq_true,Bool.true_and,beq_iff_eq] at hq
    refine ⟨l1,⟨l2,fun q=>⟨by simp only;omega,h2,h3⟩,fun q=> ?_,fun q=> ?_,fun q=> ?_,fun q=> ?_,fun q=> ?_,fun q=> ?_,fun q=> ?_,fun q=> ?_,fun q=> ?_,h.lo,h.hi⟩,l3⟩<;>simp only at* <;>omega
  rename_i hp0;rw [if_neg hp0] at e
  split
  ·rename_i hp
   rw [if_pos hp] at e
   exact av.alE ha h (by simpa using hp) e
  rename_i hp1;rw [if_neg hp1] at e
  split
  ·rename_i hp
   rw [if_pos hp] at e
   exact av.alF ha h (by simpa using hp) e
  rename_i hp2;rw [if_neg hp2] at e
  split
  ·rename_i hp
   simp only [beq_iff_eq] at hp
   have hl3:=h.p3 (by omega) (by omega)
   have hq3:=h.q3 (by omega)
   refine ⟨ha,?_,by simp only;split<;>simp [av.enter]⟩
   simp only
   split
   ·refine ⟨h.lk,fun q=> ?_,fun q=> ?_,fun q=> ?_,fun _ _=>hl3,fun _=>hq3,fun q=> ?_,fun q=> ?_,fun q=> ?_,fun q=> ?_,fun q=> ?_,by simp [av.enter],by simp [av.enter]⟩<;>simp only [av.enter] at* <;>omega
   ·refine ⟨h.lk,fun q=> ?_,fun q=> ?_,fun q=> ?_,fun _ _=>hl3,fun _=>hq3,fun q=> ?_,fun q=> ?_,fun q=> ?_,fun q=> ?_,fun q=> ?_,h.lo,h.hi⟩<;>simp only at* <;>omega
  rename_i hp3;rw [if_neg hp3] at e
  split
  ·rename_i hp
   rw [if_pos hp] at e
   exact av.alG ha h (by simpa using hp) e
  rename_i hp5;rw [if_neg hp5] at e
  split
  ·rename_i hp
   rw [if_pos hp] at e
   exact av.alI ha h (by simpa using hp) e
  rename_i hp6;rw [if_neg hp6] at e
  split
  ·rename_i hp
   rw [if_pos hp] at e
   exact av.alJ ha h (by simpa using hp) e
  rename_i V6;rw [if_neg V6] at e
  split
  ·rename_i hp
   rw [if_pos hp] at e
   simp only [beq_iff_eq] at hp
   simp only at e ⊢
   obtain ⟨l1,l2,l3,_,l5⟩:=aW.DN ha h.lk e
   have h8:=h.p8 hp
   have l5:=l5 h8
   have hq3:=h.q3 (by omega)
   have h5:=h.p5 (by omega)
   refine ⟨l1,?_,by split<;>simp [av.enter,l3]⟩
   split
   ·rename_i hq
    refine ⟨l2,fun q=> ?_,fun q=> ?_,fun q=> ?_,fun _ _=> ?_,fun _=> ?_,fun q=> ?_,fun q=> ?_,fun q=> ?_,fun q=> ?_,fun q=> ?_,by simp [av.enter],by simp [av.enter]⟩<;>simp only [av.enter,l3] at* <;>first|omega|assumption
   ·rename_i hq
    simp only [e,beq_self_eq_true,Bool.true_and,beq_iff_eq] at hq
    refine ⟨l2,fun q=> ?_,fun q=> ?_,fun q=> ?_,fun _ _=> ?_,fun _=> ?_,fun q=> ?_,fun q=> ?_,fun q=> ?_,fun q=> ?_,fun q=> ?_,h.lo,h.hi⟩<;>simp only [l3] at* <;>first|omega|assumption
  rename_i hp8;rw [if_neg hp8] at e
  cases e
theorem av.Ke {cells:List Int} {limit:Int} (hn:∀ c ∈ cells,c<=(n:Int)) (e:(av.new cells limit).2=0):(av.new cells limit).1.wf n/\(av.new cells limit).1.lock.cells=cells:=by
 unfold av.new at e ⊢
 split
 ·rename_i hc;rw [if_pos hc] at e;exact absurd e hc
 ·rename_i hc;rw [if_neg hc] at e
  split
  ·rename_i hd;rw [if_pos hd] at e;cases e
  ·obtain ⟨h1,h2,h3⟩:=aW.Ke hn (Decidable.not_not.1 hc)
   refine ⟨⟨h1,fun q=>⟨.inl h2,rfl,rfl⟩,fun q=> ?_,fun q=> ?_,fun q=> ?_,fun q=> ?_,fun q=> ?_,fun q=> ?_,fun q=> ?_,fun q=> ?_,fun q=> ?_,by simp [av.z],by simp [av.z]⟩,h3⟩<;>simp [av.z] at*
theorem acI (cells:List Int):∀ (l old:List Int),jf cells l old=true->∀ k ∈ l,0<=k/\k<cells.length
 |[],_,_=>by simp
 |x::r,old,h=>fun k hk=>by
  simp only [jf,Bool.and_eq_true,decide_eq_true_eq] at h
  rcases List.mem_cons.1 hk with rfl|hk
  ·exact h.1
  ·exact acI cells r _ h.2.2 k hk
theorem av.alN (h:s.wf n) (hp:s.phase=4) {o:bE} (ho:o.aN.length=s.aN.length) (he:o.dP.length<=1) (hk:jf s.lock.cells o.order []=true):
 (s.sV o).1.wf n/\(s.sV o).1.lock.cells=s.lock.cells:=by
 have hl3:=h.p3 (by omega) (by omega)
 have hq3:=h.q3 (by omega)
 have ho':o.aN.length=cu n s.lock.cells/\(∀ k ∈ o.order,0<=k/\k<s.lock.cells.length):=⟨ho.trans hq3.2,acI _ _ _ hk⟩
 unfold av.sV
 rw [if_neg (by simp [hp]),if_neg (by omega),if_neg (by simp [hk])]
 split
 ·rename_i hd
  refine ⟨⟨h.lk,fun q=> ?_,fun q=> ?_,fun q=> ?_,fun _ _=>hl3,fun _=>hq3,fun _=>ho',fun q=> ?_,fun q=> ?_,fun q=> ?_,fun q=> ?_,by simp [av.enter],by simp [av.enter]⟩,rfl⟩<;>simp only [av.enter] at* <;>omega
 ·split
  ·rename_i hd
   refine ⟨⟨h.lk,fun q=> ?_,fun q=> ?_,fun q=> ?_,fun _ _=>hl3,fun _=>hq3,fun _=>ho',fun q=> ?_,fun q=> ?_,fun q=> ?_,fun q=> ?_,by simp [av.enter],by simp [av.enter]⟩,rfl⟩<;>simp only [av.enter] at* <;>omega
  ·refine av.V5 (s:={s with out:=o}) ⟨h.lk,fun q=> ?_,fun q=> ?_,fun q=> ?_,fun _ _=>hl3,fun _=>hq3,fun _=>ho',fun q=> ?_,fun q=> ?_,fun q=> ?_,fun q=> ?_,h.lo,h.hi⟩ ?_ ?_ ho' ?_<;>(try simp only at*)<;>(try omega)
   unfold av.je av.jq aW.free
   simp [hl3]
   split<;>rfl
end
structure Setup.ok (n:Nat) (u:Setup):Prop where
 good:u.good=true
 sl:u.slots=n
theorem Setup.ok.n6 {n:Nat} {u:Setup} (h:u.ok n):1<=n/\n<=6:=by
 have:=h.good
 simp [Setup.good,dQ] at this
 have:=h.sl
 omega
theorem Setup.ok.lim {n:Nat} {u:Setup} (h:u.ok n):1<=u.limit/\u.limit<=8:=by
 have:=h.good
 simp [Setup.good,dQ] at this
 omega
structure Task.wf (n:Nat) (t:Task):Prop where
 su:t.setup.ok n
 iv:t.inv.val t.setup=0
 en:0<=t.entry/\t.entry<t.inv.entries
 k1:t.inv.kind=1->t.walk.ok/\(t.pc=0\/t.pc=1\/t.pc=2\/(t.sec.wf n/\cu n t.sec.lock.cells=1))
 k2:t.inv.kind=2->t.walk.ok/\(t.pc=0\/t.pc=2\/(t.sec.wf n/\cu n t.sec.lock.cells=1))
 k3:3<=t.inv.kind->t.inv.kind<=5->t.pc=0\/((0<=t.hnd.route/\t.hnd.route<65536)/\(t.pc=1\/(t.sec.wf n/\cu n t.sec.lock.cells=1)))
 k8:t.inv.kind=8->t.pc=0\/(t.sec.wf n/\cu n t.sec.lock.cells=1/\t.sec.lock.cells.length=2)
 k9:9<=t.inv.kind->t.inv.kind<=11->t.pc=0\/(t.sec.wf n/\cu n t.sec.lock.cells=2/\t.sec.lock.cells.length=2)
 k12:t.inv.kind=12\/t.inv.kind=13->t.pc=0\/(t.sec.wf n/\t.sec.lock.cells.length=1)
 k14:t.inv.kind=14->t.pc=0\/(t.sec.wf n/\cu n t.sec.lock.cells=1/\t.sec.lock.cells.length=2)
end Go.Eng
namespace Go.Eng
open Go
structure mE (n:Nat) (t:Task) (x:gG):Prop where
 ar:x.1.wf n
 tk:x.2.1.dn=true\/x.2.1.wf n
 ev:x.2.2.1.length<=2
 rs:((x.2.1.results.drop t.results.length).map aU.tokens).flatten.length<=6
 su:x.2.1.setup=t.setup
section
variable {n:Nat} {a:aj} {t:Task} {k:Int}
theorem Task.oP (ht:t.wf n) (r:aU) (k:Int):(t.next r k).dn=true\/(t.next r k).wf n:=by
 by_cases h:t.entry+1=t.inv.entries
 ·left;simp [Task.next,h]
 ·right
  have he:=ht.en
  exact ⟨ht.su,ht.iv,⟨by simp only [Task.next];omega,by simp only [Task.next];omega⟩,fun _=>⟨⟨by simp [Task.next],by simp [Task.next]⟩,.inl (by simp [Task.next])⟩,fun _=>⟨⟨by simp [Task.next],by simp [Task.next]⟩,.inl (by simp [Task.next])⟩,
   fun _ _=> .inl (by simp [Task.next]),fun _=> .inl (by simp [Task.next]),fun _ _=> .inl (by simp [Task.next]),fun _=> .inl (by simp [Task.next]),fun _=> .inl (by simp [Task.next])⟩
theorem Task.wf.turn (ht:t.wf n) {t':Task} (e1:t'.setup=t.setup) (e2:t'.inv=t.inv) (e3:t'.entry=t.entry)
 (k1:t.inv.kind=1->t'.walk.ok/\(t'.pc=0\/t'.pc=1\/t'.pc=2\/(t'.sec.wf n/\cu n t'.sec.lock.cells=1)))
 (k2:t.inv.kind=2->t'.walk.ok/\(t'.pc=0\/t'.pc=2\/(t'.sec.wf n/\cu n t'.sec.lock.cells=1)))
 (k3:3<=t.inv.kind->t.inv.kind<=5->t'.pc=0\/((0<=t'.hnd.route/\t'.hnd.route<65536)/\(t'.pc=1\/(t'.sec.wf n/\cu n t'.sec.lock.cells=1))))
 (k8:t.inv.kind=8->t'.pc=0\/(t'.sec.wf n/\cu n t'.sec.lock.cells=1/\t'.sec.lock.cells.length=2))
 (k9:9<=t.inv.kind->t.inv.kind<=11->t'.pc=0\/(t'.sec.wf n/\cu n t'.sec.lock.cells=2/\t'.sec.lock.cells.length=2))
 (k12:t.inv.kind=12\/t.inv.kind=13->t'.pc=0\/(t'.sec.wf n/\t'.sec.lock.cells.length=1))
 (k14:t.inv.kind=14->t'.pc=0\/(t'.sec.wf n/\cu n t'.sec.lock.cells=1/\t'.sec.lock.cells.length=2)):t'.wf n:=
 ⟨by rw [e1];exact ht.su,by rw [e1,e2];exact ht.iv,by rw [e2,e3];exact ht.en,by rw [e2];exact k1,by rw [e2];exact k2,by rw [e2];exact k3,by rw [e2];exact k8,by rw [e2];exact k9,by rw [e2];exact k12,by rw [e2];exact k14⟩
theorem Task.go_wf (ha:a.wf n) (hs:t.sec.wf n) (e:(t.go a k).2.2.2.2=0):(t.go a k).1.wf n/\(∃ s,(t.go a k).2.1={t with sec:=s}/\s.wf n/\s.lock.cells=t.sec.lock.cells/\
 ((t.go a k).2.2.1=true->s.phase=4)/\((t.go a k).2.2.2.1=true->s.phase=9)):=by
 unfold Task.go at e ⊢
 simp only at e ⊢
 split
 ·rename_i hc;rw [if_pos hc] at e;exact absurd e hc
 ·rename_i hc
  obtain ⟨h1,h2,h3⟩:=av.DN ha hs (Decidable.not_not.1 hc)
  exact ⟨h1,_,rfl,h2,h3,by simp,by simp⟩
theorem one_cell {n:Nat} {c:Int} (h6:n<=6) (h0:0<=c) (h1:c<n) (l:Int) (hl:1<=l/\l<=8):
 (av.new [c] l).1.wf n/\cu n (av.new [c] l).1.lock.cells=1/\(av.new [c] l).1.lock.cells=[c]:=by
 have e:(av.new [c] l).2=0:=by
  have:(aW.new [c]).2=0:=by
   unfold aW.new
   rw [if_neg (by simp),if_pos]
   simp [l9,dQ];omega
  unfold av.new
  rw [if_neg (by simp [this]),if_neg (by simp;omega)]
 obtain ⟨h2,h3⟩:=av.Ke (n:=n) (fun x hx=>by simp at hx;omega) e
 exact ⟨h2,by rw [h3];simp [cu,h1],h3⟩
theorem Np {n:Nat} {c d:Int} (h6:n<=6) (h0:0<=c) (h1:c<d) (h2:d<=n) (l:Int) (hl:1<=l/\l<=8):
 (av.new [c,d] l).1.wf n/\cu n (av.new [c,d] l).1.lock.cells=(if d<n then 2 else 1)/\(av.new [c,d] l).1.lock.cells=[c,d]:=by
 have e:(av.new [c,d] l).2=0:=by
  have:(aW.new [c,d]).2=0:=by
   unfold aW.new
   rw [if_neg (by simp),if_pos]
   simp [l9,dQ];omega
  unfold av.new
  rw [if_neg (by simp [this]),if_neg (by simp;omega)]
 obtain ⟨h3,h4⟩:=av.Ke (n:=n) (fun x hx=>by simp at hx;omega) e
 refine ⟨h3,?_,h4⟩
 rw [h4]
 have:c<n:=by omega
 by_cases hd:d<n<;>simp [cu,this,hd]
theorem acJ {n:Nat} {c:Int} (h6:n<=6) (h0:0<=c) (h1:c<=n) (l:Int) (hl:1<=l/\l<=8):(av.new [c] l).1.wf n/\(av.new [c] l).1.lock.cells=[c]:=by
 have e:(av.new [c] l).2=0:=by
  have:(aW.new [c]).2=0:=by
   unfold aW.new
   rw [if_neg (by simp),if_pos]
   simp [l9,dQ];omega
  unfold av.new
  rw [if_neg (by simp [this]),if_neg (by simp;omega)]
 exact av.Ke (n:=n) (fun x hx=>by simp at hx;omega) e
theorem fZ (l:List aU):((l.drop l.length).map aU.tokens).flatten.length<=6:=by simp
theorem oQ (t:Task) (r:aU) (k:Int) (h:r.tokens.length<=6):(((t.next r k).results.drop t.results.length).map aU.tokens).flatten.length<=6:=by
 simp [Task.next,h]
theorem Kg {s:av} (hs:s.wf n) (hp:s.phase=4) {o:bE} (ho:o.aN.length=s.aN.length) (he:o.dP.length<=1) (hk:jf s.lock.cells o.order []=true) (t:Task) (ht:t.sec=s):
 (t.dec o).sec.wf n/\(t.dec o).sec.lock.cells=s.lock.cells:=by
 unfold Task.dec
 simp only [ht]
 exact av.alN hs hp ho he hk
theorem Nq {cells:List Int} (h:1<=cells.length):jf cells [0] []=true:=by simp [jf];omega
theorem acK {cells:List Int} (h:cells.length=2):jf cells [0,1] []=true:=by simp [jf,h]
theorem acL {cells:List Int} (h:cells.length=2):jf cells [1,0] []=true:=by simp [jf,h]
theorem xh {cells:List Int}:jf cells [] []=true:=rfl
end
end Go.Eng
