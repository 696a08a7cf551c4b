/-
  Part of a proof: lemmas and definitions of this work.
  No condition.
-/
import Derived.Test.YthhjbngoibmpgaaGreatA08
import Derived.Test.YthhjbngoibmpgaaGreatA13
set_option linter.all false
set_option maxRecDepth 100000
set_option maxHeartbeats 8000000
namespace Go.Eng
open Go
structure bf.wf (n:Nat) (l:bf):Prop where
 l1:1<=l.cells.length
 l3:l.cells.length<=3
 uZ:∀ c ∈ l.cells,0<=c/\c<=(n:Int)
 tF:l.cells.Pairwise (·<·)
 ph:(l.phase=0/\0<=l.got/\l.got<l.cells.length)\/((l.phase=1\/l.phase=4)/\1<=l.got/\l.got<=l.cells.length)\/(l.phase=2/\l.got=0)\/(l.phase=3/\l.got=l.cells.length)\/(l.phase=5/\l.got=0)
theorem abY:∀ (l:List Int) (p:Int),lZ l p=true->(∀ c ∈ l,p<c/\0<=c/\c<=6)/\l.Pairwise (·<·)
 |[],_,_=>by simp
 |c::r,p,h=>by
  simp [lZ,dP] at h
  obtain ⟨h1,h2⟩:=abY r c h.2
  refine ⟨fun x hx=> ?_,List.pairwise_cons.2 ⟨fun x hx=>(h1 x hx).1,h2⟩⟩
  rcases List.mem_cons.1 hx with rfl|hx
  ·omega
  ·have:=h1 x hx;omega
theorem bf.DC {n:Nat} {cells:List Int} (hn:∀ c ∈ cells,c<=(n:Int)) (e:(bf.new cells).2=0):(bf.new cells).1.wf n/\(bf.new cells).1.phase=0/\(bf.new cells).1.cells=cells:=by
 unfold bf.new at e ⊢
 split
 ·rename_i hc;rw [if_pos hc] at e;cases e
 ·rename_i hc;rw [if_neg hc] at e
  simp at hc
  split
  ·rename_i hl
   obtain ⟨h1,h2⟩:=abY _ _ hl
   have:cells.length≠0:=fun h=>hc.1 (List.eq_nil_of_length_eq_zero h)
   exact ⟨⟨by simp only;omega,by simp only;omega,fun c hx=>⟨(h1 c hx).2.1,hn c hx⟩,h2,.inl ⟨rfl,by simp,by simp only;omega⟩⟩,rfl,rfl⟩
  ·rename_i hl;rw [if_neg hl] at e;cases e
theorem bf.Be {n:Nat} {l:bf} (h:l.wf n) (e:l.free.2=0):l.free.1.wf n/\l.free.1.phase=4/\l.free.1.cells=l.cells:=by
 unfold bf.free at e ⊢
 split
 ·rename_i hc;rw [if_pos hc] at e;cases e
 ·rename_i hc
  simp at hc
  refine ⟨⟨h.l1,h.l3,h.uZ,h.tF,?_⟩,rfl,rfl⟩
  rcases h.ph with h1|h1|h1|h1|h1
  ·omega
  ·omega
  ·omega
  ·have:=h.l1;exact .inr (.inl ⟨.inr rfl,by simp only;omega,by simp only;omega⟩)
  ·omega
theorem bf.Bf {n:Nat} {a:aj} {l:bf} {task:Int} (ha:a.wf n) (h:l.wf n) (e:(l.step a task).2.2=0):
 (l.step a task).1.wf n/\(l.step a task).2.1.wf n/\(l.step a task).2.1.cells=l.cells/\
  ((l.phase=0\/l.phase=1\/l.phase=2)->((l.step a task).2.1.phase=0\/(l.step a task).2.1.phase=1\/(l.step a task).2.1.phase=2\/(l.step a task).2.1.phase=3))/\
  (l.phase=4->((l.step a task).2.1.phase=4\/(l.step a task).2.1.phase=5)):=by
 unfold bf.step at e ⊢
 split
 ·rename_i hc
  rw [if_pos hc] at e
  simp at hc
  have hp:0<=l.got/\l.got<l.cells.length:=by rcases h.ph with h1|h1|h1|h1|h1<;>omega
  simp only at e ⊢
  split
  ·rename_i hd;rw [if_pos hd] at e;exact absurd e hd
  ·rename_i hd
   have ht:=(aj.ak9 ha (Decidable.not_not.1 hd)).1
   split
   ·refine ⟨ht,⟨h.l1,h.l3,h.uZ,h.tF,?_⟩,rfl,fun _=> ?_,fun h=>by omega⟩
    ·simp only [beq_iff_eq]
     split
     ·rename_i hq;exact .inr (.inr (.inr (.inl ⟨rfl,hq⟩)))
     ·rename_i hq;exact .inl ⟨hc,by omega,by omega⟩
    ·simp only [beq_iff_eq]
     split
     ·simp
     ·simp [hc]
   ·split
    ·exact ⟨ht,⟨h.l1,h.l3,h.uZ,h.tF,.inr (.inl ⟨.inl rfl,by simp only;omega,by simp only;omega⟩)⟩,rfl,fun _=>by simp,fun h=>by omega⟩
    ·exact ⟨ht,h,rfl,fun _=>by simp [hc],fun h=>by omega⟩
 ·rename_i hc;rw [if_neg hc] at e
  split
  ·rename_i hd
   rw [if_pos hd] at e
   simp at hc hd
   have hp:1<=l.got/\l.got<=l.cells.length:=by rcases h.ph with h1|h1|h1|h1|h1<;>omega
   simp only at e ⊢
   split
   ·rename_i hf;rw [if_pos hf] at e;exact absurd e hf
   ·rename_i hf
    have ht:=aj.ala ha (Decidable.not_not.1 hf)
    split
    ·refine ⟨ht,⟨h.l1,h.l3,h.uZ,h.tF,.inr (.inl ⟨hd,by simp only;omega,by simp only;omega⟩)⟩,rfl,fun hh=> ?_,fun hh=> .inl hh⟩
     simp only;omega
    ·split
     ·rename_i hg
      simp at hg
      exact ⟨ht,⟨h.l1,h.l3,h.uZ,h.tF,.inr (.inr (.inr (.inr ⟨rfl,by simp only;omega⟩)))⟩,rfl,fun hh=>by omega,fun hh=> .inr rfl⟩
     ·rename_i hg
      simp at hg
      exact ⟨ht,⟨h.l1,h.l3,h.uZ,h.tF,.inr (.inr (.inl ⟨rfl,by simp only;omega⟩))⟩,rfl,fun hh=>by simp,fun hh=>by omega⟩
  ·rename_i hd;rw [if_neg hd] at e
   split
   ·rename_i hf
    simp at hc hd hf
    have hp:l.got=0:=by rcases h.ph with h1|h1|h1|h1|h1<;>omega
    have:=h.l1
    refine ⟨ha,⟨h.l1,h.l3,h.uZ,h.tF,?_⟩,rfl,fun _=> ?_,fun hh=>by omega⟩
    ·simp only
     split
     ·exact .inl ⟨rfl,by omega,by omega⟩
     ·exact .inr (.inr (.inl ⟨rfl,hp⟩))
    ·simp only
     split<;>simp
   ·rename_i hf;rw [if_neg hf] at e;cases e
def cu (n:Nat) (l:List Int):Nat:=(l.filter fun c=>decide (c<(n:Int))).length
theorem wZ (n:Nat) (l:List Int):cu n l<=l.length:=List.length_filter_le _ _
theorem av.VW {n:Nat} {a:aj} (ha:a.wf n) (s:av):av.slots a s=cu n s.lock.cells:=by
 unfold av.slots mY cu;rw [ha.sl]
theorem VX {n:Nat}:∀ (l:List Int) (k:Nat),l.Pairwise (·<·)->k<l.length->gI l k<n->k<cu n l
 |[],k,_,h,_=>by simp at h
 |c::r,0,hp,_,h=>by
  simp [gI] at h
  simp [cu,h]
 |c::r,k+1,hp,hk,h=>by
  have hp:=List.pairwise_cons.1 hp
  have h':gI r k<n:=by simpa [gI] using h
  have ih:=VX r k hp.2 (by simpa using hk) h'
  have hm:gI r k ∈ r:=by
   unfold gI;rw [List.getElem?_eq_getElem (by simpa using hk)];exact List.getElem_mem _
  have:c<n:=by have:=hp.1 _ hm;omega
  simp only [cu,List.filter_cons,decide_eq_true_eq,this,if_true,List.length_cons] at ih ⊢
  omega
theorem abZ {n:Nat}:∀ (l:List Int) (k:Nat),l.Pairwise (·<·)->k<cu n l->gI l k<n
 |[],k,_,h=>by simp [cu] at h
 |c::r,k,hp,hk=>by
  have hp:=List.pairwise_cons.1 hp
  by_cases hc:c<n
  ·cases k with
   |zero=>simpa [gI] using hc
   |succ k=>
    have:k<cu n r:=by simp only [cu,List.filter_cons,decide_eq_true_eq,hc,if_true,List.length_cons] at hk ⊢;omega
    simpa [gI] using abZ r k hp.2 this
  ·exfalso
   have:cu n (c::r)=0:=by
    simp only [cu,List.length_eq_zero_iff,List.filter_eq_nil_iff]
    intro x hx
    rcases List.mem_cons.1 hx with rfl|hx
    ·simpa using hc
    ·have:=hp.1 x hx;simp;omega
   omega
structure av.wf (n:Nat) (s:av):Prop where
 lk:s.lock.wf n
 p0:s.phase=0->(s.lock.phase=0\/s.lock.phase=1\/s.lock.phase=2)/\s.aN=[]/\s.bU=[]
 p1:s.phase=1->s.lock.phase=3/\s.aN=[]/\0<=s.at_/\s.at_<2*cu n s.lock.cells/\s.bU.length=((s.at_+1) / 2).toNat
 p2:s.phase=2->s.lock.phase=3/\s.bU.length=cu n s.lock.cells/\0<=s.at_/\s.at_<s.lock.cells.length/\s.aN.length=min s.at_.toNat (cu n s.lock.cells)
 p3:3<=s.phase->s.phase<=7->s.lock.phase=3
 q3:3<=s.phase->s.bU.length=cu n s.lock.cells/\s.aN.length=cu n s.lock.cells
 p5:5<=s.phase->s.out.aN.length=cu n s.lock.cells/\(∀ k ∈ s.out.order,0<=k/\k<s.lock.cells.length)
 q5:s.phase=5->0<=s.at_/\s.at_<s.out.order.length
 p6:s.phase=6->0<s.out.dO.length
 p7:s.phase=7->0<=s.at_/\s.at_<cu n s.lock.cells
 p8:s.phase=8->s.lock.phase=4
 lo:0<=s.phase
 hi:s.phase<=9
section
variable {n:Nat} {a:aj} {s:av} {task:Int}
theorem av.ale (ha:a.wf n) (h:s.wf n) (hp:s.phase=1) (e:(s.mark a task).2.2=0):
 (s.mark a task).1.wf n/\(s.mark a task).2.1.wf n/\(s.mark a task).2.1.lock.cells=s.lock.cells:=by
 obtain ⟨h1,h2,h3,h4,h5⟩:=h.p1 hp
 have hK:=wZ n s.lock.cells
 unfold av.mark at e ⊢
 simp only [Int.tdiv_eq_ediv_of_nonneg h3,Int.tmod_eq_emod_of_nonneg h3] at e ⊢
 split
 ·rename_i hc
  simp at hc
  refine ⟨ha,⟨h.lk,fun q=> ?_,fun q=>⟨h1,h2,?_,?_,?_⟩,fun q=> ?_,fun q=> ?_,fun q=> ?_,fun q=> ?_,fun q=> ?_,fun q=> ?_,fun q=> ?_,fun q=> ?_,h.lo,h.hi⟩,rfl⟩<;>simp only at* <;>try omega
  rw [List.length_append,h5]
  simp only [List.length_cons,List.length_nil]
  omega
 ·rename_i hc;rw [if_neg hc] at e
  simp at hc
  split
  ·rename_i hd;rw [if_pos hd] at e;exact absurd e hd
  ·rename_i hd;rw [if_neg hd] at e
   simp only at e
   have hs:=aj.abP ha e
   refine ⟨hs,?_,?_⟩
   ·have hl:(s.bU.take (s.at_ / 2).toNat++[(iZ s.bU (s.at_ / 2).toNat).begin.1]).length=((s.at_+1) / 2).toNat:=by
     rw [List.length_append,List.length_take,h5]
     simp only [List.length_cons,List.length_nil]
     omega
    split
    ·rename_i hq
     simp only [Bool.and_eq_true,beq_iff_eq,av.VW hs] at hq
     have hl1:=h.lk.l1
     refine ⟨h.lk,fun q=> ?_,fun q=> ?_,fun q=>⟨h1,?_,?_,?_,?_⟩,fun q=> ?_,fun q=> ?_,fun q=> ?_,fun q=> ?_,fun q=> ?_,fun q=> ?_,fun q=> ?_,by simp [av.enter],by simp [av.enter]⟩<;>simp only [av.enter] at* <;>try omega
     rw [h2];simp
    ·rename_i hq
     simp only [e,av.VW hs,beq_self_eq_true,Bool.true_and,beq_iff_eq] at hq
     refine ⟨h.lk,fun q=> ?_,fun q=>⟨h1,h2,?_,?_,?_⟩,fun q=> ?_,fun q=> ?_,fun q=> ?_,fun q=> ?_,fun q=> ?_,fun q=> ?_,fun q=> ?_,fun q=> ?_,h.lo,h.hi⟩<;>simp only at* <;>try omega
   ·split<;>rfl
theorem av.alf (ha:a.wf n) (h:s.wf n) (hp:s.phase=2) (e:(s.load a).2.2=0):
 (s.load a).1.wf n/\(s.load a).2.1.wf n/\(s.load a).2.1.lock.cells=s.lock.cells:=by
 obtain ⟨h1,h2,h3,h4,h5⟩:=h.p2 hp
 have hK:=wZ n s.lock.cells
 unfold av.load at e ⊢
 simp only at e ⊢
 refine ⟨ha,?_⟩
 have key:∀ (y:av×Int),(if (gI s.lock.cells s.at_.toNat==(a.slots.length:Int))=true then ({s with dead:=a.dead.dead},(0:Int)) else ({s with aN:=s.aN++[(a.kE (gI s.lock.cells s.at_.toNat)).1]},(a.kE (gI s.lock.cells s.at_.toNat)).2))=y->
  y.1.lock=s.lock/\y.1.phase=s.phase/\y.1.bU=s.bU/\y.1.out=s.out/\y.1.aN.length=min (s.at_.toNat+1) (cu n s.lock.cells):=by
  intro y hy
  have hc0:gI s.lock.cells s.at_.toNat<=n:=(Dy h.lk.uZ (i:=s.at_.toNat) (by omega)).2
  split at hy
  ·rename_i hc
   subst hy
   refine ⟨rfl,rfl,rfl,rfl,?_⟩
   simp only [beq_iff_eq,ha.sl] at hc
   have:¬ s.at_.toNat<cu n s.lock.cells:=fun hlt=>by have:=abZ _ _ h.lk.tF hlt;omega
   simp only
   omega
  ·rename_i hc
   subst hy
   refine ⟨rfl,rfl,rfl,rfl,?_⟩
   have hne:gI s.lock.cells s.at_.toNat≠(n:Int):=fun he=>hc (by rw [he,ha.sl];simp)
   have:=VX (n:=n) s.lock.cells s.at_.toNat h.lk.tF (by omega) (by omega)
   simp only [List.length_append,List.length_cons,List.length_nil,h5]
   omega
 generalize hy:(if (gI s.lock.cells s.at_.toNat==(a.slots.length:Int))=true then ({s with dead:=a.dead.dead},(0:Int)) else ({s with aN:=s.aN++[(a.kE (gI s.lock.cells s.at_.toNat)).1]},(a.kE (gI s.lock.cells s.at_.toNat)).2))=y at e ⊢
 obtain ⟨k1,k2,k3,k4,k5⟩:=key y hy
 obtain ⟨y,ye⟩:=y
 simp only at k1 k2 k3 k4 k5
 simp only [beq_iff_eq]
 refine ⟨?_,by split<;>simp [av.enter,k1]⟩
 split
 ·rename_i hq
  rw [k1] at hq
  refine ⟨by simp [av.enter,k1];exact h.lk,fun q=> ?_,fun q=> ?_,fun q=> ?_,fun _ _=> ?_,fun _=>⟨?_,?_⟩,fun q=> ?_,fun q=> ?_,fun q=> ?_,fun q=> ?_,fun q=> ?_,by simp [av.enter],by simp [av.enter]⟩<;>simp only [av.enter,k1,k3] at* <;>try omega
 ·rename_i hq
  rw [k1] at hq
  have hlo:=h.lo
  have hhi:=h.hi
  refine ⟨by rw [k1];exact h.lk,fun q=> ?_,fun q=> ?_,fun q=>⟨?_,?_,?_,?_,?_⟩,fun q=> ?_,fun q=> ?_,fun q=> ?_,fun q=> ?_,fun q=> ?_,fun q=> ?_,fun q=> ?_,?_,?_⟩<;>simp only [k1,k2,k3] at* <;>try omega
theorem av.ab0 (h:s.wf n) (hp:3<=s.phase) (hq:s.out.aN.length=cu n s.lock.cells/\(∀ k ∈ s.out.order,0<=k/\k<s.lock.cells.length)) (e:s.jl.2=0):
 s.jl.1.wf n/\s.jl.1.lock.cells=s.lock.cells:=by
 unfold av.jl at e ⊢
 split
 ·rename_i hc;rw [if_pos hc] at e;exact absurd e hc
 ·rename_i hc
  obtain ⟨h1,h2,h3⟩:=bf.Be h.lk (Decidable.not_not.1 hc)
  refine ⟨⟨h1,fun q=> ?_,fun q=> ?_,fun q=> ?_,fun _ _=> ?_,fun _=> ?_,fun q=> ?_,fun q=> ?_,fun q=> ?_,fun q=> ?_,fun q=> ?_,by simp [av.enter],by simp [av.enter]⟩,h3⟩<;>simp only [av.enter] at* <;>try omega
  ·rw [h3];exact h.q3 hp
  ·rw [h3];exact hq
theorem av.VY (h:s.wf n) (hp:3<=s.phase) (VZ:s.phase<=7) (hq:s.out.aN.length=cu n s.lock.cells/\(∀ k ∈ s.out.order,0<=k/\k<s.lock.cells.length)) (e:s.ja.2=0):
 s.ja.1.wf n/\s.ja.1.lock.cells=s.lock.cells:=by
 unfold av.ja at e ⊢
 split
 ·rename_i hc
  have hq3:=h.q3 hp
  refine ⟨⟨h.lk,fun q=> ?_,fun q=> ?_,fun q=> ?_,fun _ _=>h.p3 hp VZ,fun _=>hq3,fun _=>hq,fun q=> ?_,fun q=> ?_,fun q=> ?_,fun q=> ?_,by simp [av.enter],by simp [av.enter]⟩,rfl⟩<;>simp only [av.enter] at* <;>try omega
 ·rename_i hc;rw [if_neg hc] at e
  exact av.ab0 h hp hq e
theorem av.alg (ha:a.wf n) (h:s.wf n) (hp:s.phase=5) (e:(s.store a task).2.2=0):
 (s.store a task).1.wf n/\(s.store a task).2.1.wf n/\(s.store a task).2.1.lock.cells=s.lock.cells:=by
 have h5:=h.p5 (by omega)
 have hq5:=h.q5 hp
 have hl3:=h.p3 (by omega) (by omega)
 have hq3:=h.q3 (by omega)
 unfold av.store at e ⊢
 simp only at e ⊢
 generalize hy:(if (gI s.lock.cells (gI s.out.order s.at_.toNat).toNat==(a.slots.length:Int))=true then a.lX task s.out.dead else a.lW (gI s.lock.cells (gI s.out.order s.at_.toNat).toNat) task (dW s.out.aN (gI s.out.order s.at_.toNat).toNat))=y at e ⊢
 split
 ·rename_i hc;rw [if_pos hc] at e;exact absurd e hc
 ·rename_i hc;rw [if_neg hc] at e
  have V3:y.1.wf n:=by
   have hc:=Decidable.not_not.1 hc
   split at hy
   ·subst hy;exact aj.alc ha hc
   ·subst hy;exact aj.alb ha hc
  split
  ·rename_i hd
   refine ⟨V3,⟨h.lk,fun q=> ?_,fun q=> ?_,fun q=> ?_,fun _ _=>hl3,fun _=>hq3,fun _=>h5,fun q=> ?_,fun q=> ?_,fun q=> ?_,fun q=> ?_,?_,?_⟩,rfl⟩<;>simp only at* <;>try omega
  ·rename_i hd;rw [if_neg hd] at e
   split
   ·rename_i hf
    refine ⟨V3,⟨h.lk,fun q=> ?_,fun q=> ?_,fun q=> ?_,fun _ _=>hl3,fun _=>hq3,fun _=>h5,fun q=> ?_,fun q=>hf,fun q=> ?_,fun q=> ?_,by simp [av.enter],by simp [av.enter]⟩,rfl⟩<;>simp only [av.enter] at* <;>try omega
   ·rename_i hf;rw [if_neg hf] at e
    have hu:=av.VY (n:=n) (s:={s with phase:=4,at_:=s.at_+1,carry:=[]}) ⟨h.lk,fun q=>by simp at q,fun q=>by simp at q,fun q=>by simp at q,fun _ _=>hl3,fun _=>hq3,fun q=>h5,fun q=>by simp at q,fun q=>by simp at q,fun q=>by simp at q,fun q=>by simp at q,by simp,by simp⟩ (by simp) (by simp) h5
    have e1:av.ja {s with phase:=4,at_:=s.at_+1,carry:=[]}=av.ja {s with at_:=s.at_+1,carry:=[]}\/True:= .inr trivial
    have key:(av.ja {s with at_:=s.at_+1,carry:=[]})=((av.ja {s with phase:=4,at_:=s.at_+1,carry:=[]}))\/(av.ja {s with at_:=s.at_+1,carry:=[]}).2≠0:=by
     unfold av.ja av.jl av.enter
     simp only
     split
     ·exact .inl rfl
     ·split
      ·rename_i hx;exact .inr hx
      ·exact .inl rfl
    rcases key with key|key
    ·rw [key] at e ⊢
     exact ⟨V3,hu e⟩
    ·exact absurd e key
theorem av.ali (ha:a.wf n) (h:s.wf n) (hp:s.phase=6) (e:(s.l6 a).2.2=0):
 (s.l6 a).1.wf n/\(s.l6 a).2.1.wf n/\(s.l6 a).2.1.lock.cells=s.lock.cells:=by
 have h5:=h.p5 (by omega)
 have h6:=h.p6 hp
 have hl3:=h.p3 (by omega) (by omega)
 have hq3:=h.q3 (by omega)
 have mk:∀ (d:Dir) (x:Int),av.wf n {s with dir:=d,at_:=x}:=fun d x=>
  ⟨h.lk,fun q=>by simp only at q;omega,fun q=>by simp only at q;omega,fun q=>by simp only at q;omega,fun _ _=>hl3,fun _=>hq3,fun _=>h5,fun q=>by simp only at q;omega,fun _=>h6,fun q=>by simp only at q;omega,fun q=>by simp only at q;omega,h.lo,h.hi⟩
 unfold av.l6 at e ⊢
 simp only at e ⊢
 split
 ·exact ⟨ha,mk _ _,rfl⟩
 ·rename_i hc;rw [if_neg hc] at e
  split
  ·rename_i hd;rw [if_pos hd] at e;exact absurd e hd
  ·rename_i hd;rw [if_neg hd] at e
   split
   ·rename_i hf;rw [if_pos hf] at e;exact absurd e hf
   ·rename_i hf;rw [if_neg hf] at e
    have hx:=aj.ald ha (Decidable.not_not.1 hf)
    split
    ·exact ⟨hx,mk s.dir 0,rfl⟩
    ·rename_i hg;rw [if_neg hg] at e
     exact ⟨hx,av.VY (mk _ s.at_) (by simp only;omega) (by simp only;omega) h5 e⟩
theorem av.alj (ha:a.wf n) (h:s.wf n) (hp:s.phase=7) (e:(s.l7 a task).2.2=0):
 (s.l7 a task).1.wf n/\(s.l7 a task).2.1.wf n/\(s.l7 a task).2.1.lock.cells=s.lock.cells:=by
 have h5:=h.p5 (by omega)
 have h7:=h.p7 hp
 have hl3:=h.p3 (by omega) (by omega)
 have hq3:=h.q3 (by omega)
 unfold av.l7 at e ⊢
 simp only at e ⊢
 generalize (if s.yY s.at_=true then dW s.out.aN s.at_.toNat else dW s.aN s.at_.toNat)=now at e ⊢
 split
 ·rename_i hd;rw [if_pos hd] at e;exact absurd e hd
 ·rename_i hd;rw [if_neg hd] at e
  split
  ·rename_i hf;rw [if_pos hf] at e;exact absurd e hf
  ·rename_i hf;rw [if_neg hf] at e
   have hx:=aj.abP ha (Decidable.not_not.1 hf)
   split
   ·rename_i hg;rw [if_pos hg] at e
    have hfr:=av.ab0 (n:=n) (s:={s with phase:=4,at_:=s.at_+1}) ⟨h.lk,fun q=>by simp at q,fun q=>by simp at q,fun q=>by simp at q,fun _ _=>hl3,fun _=>hq3,fun q=>h5,fun q=>by simp at q,fun q=>by simp at q,fun q=>by simp at q,fun q=>by simp at q,by simp,by simp⟩ (by simp) h5
    have key:(av.jl {s with at_:=s.at_+1})=((av.jl {s with phase:=4,at_:=s.at_+1}))\/(av.jl {s with at_:=s.at_+1}).2≠0:=by
     unfold av.jl av.enter
     simp only
     split
     ·rename_i hx;exact .inr hx
     ·exact .inl rfl
    rcases key with key|key
    ·rw [key] at e ⊢
     exact ⟨hx,hfr e⟩
    ·exact absurd e key
   ·rename_i hg
    simp only [beq_iff_eq] at hg
    refine ⟨hx,⟨h.lk,fun q=> ?_,fun q=> ?_,fun q=> ?_,fun _ _=>hl3,fun _=>hq3,fun _=>h5,fun q=> ?_,fun q=> ?_,fun q=> ?_,fun q=> ?_,?_,?_⟩,rfl⟩<;>simp only at* <;>try omega
end
end Go.Eng
namespace Go.Eng
open Go
section
variable {n:Nat} {a:aj} {s:av} {task:Int}
theorem av.Bf (ha:a.wf n) (h:s.wf n) {k:Int} (e:(s.step a task k).2.2=0):
 (s.step a task k).1.wf n/\(s.step a task k).2.1.wf n/\(s.step a task k).2.1.lock.cells=s.lock.cells:=by
 unfold av.step at e ⊢
 split
 ·rename_i hc;rw [if_pos hc] at e;exact absurd e hc
 ·rename_i hc
  have e:=Decidable.not_not.1 hc
  clear hc
  simp only
  unfold av.step0 at e ⊢
  split
  ·rename_i hp
   simp only [beq_iff_eq] at hp
   rw [if_pos (by simp [hp])] at e
   obtain ⟨h1,h2,h3⟩:=h.p0 hp
   simp only at e ⊢
   have el:(s.lock.step a task).2.2=0:=by split at e<;>exact e
   obtain ⟨l1,l2,l3,l4,_⟩:=bf.Bf ha h.lk el
   have l4:=l4 h1
   split
   ·rename_i hq
    simp only [Bool.and_eq_true,beq_iff_eq] at hq
    refine ⟨l1,?_,by split<;>simp [av.enter,l3]⟩
    simp only [beq_iff_eq,av.VW ha]
    have hl1:=h.lk.l1
    split
    ·rename_i hz
     simp only [av.enter,l3] at hz
     refine ⟨l2,fun q=> ?_,fun q=> ?_,fun q=>⟨hq.2,?_,?_,?_,?_⟩,fun q=> ?_,fun q=> ?_,fun q=> ?_,fun q=> ?_,fun q=> ?_,fun q=> ?_,fun q=> ?_,by simp [av.enter],by simp [av.enter]⟩<;>simp only [av.enter,l3] at* <;>try omega
     ·rw [h3];simp only [List.length_nil];omega
     ·rw [h2];simp
    ·rename_i hz
     simp only [av.enter,l3] at hz
     refine ⟨l2,fun q=> ?_,fun q=>⟨hq.2,h2,?_,?_,?_⟩,fun q=> ?_,fun q=> ?_,fun q=> ?_,fun q=> ?_,fun q=> ?_,fun q=> ?_,fun q=> ?_,fun q=> ?_,by simp [av.enter],by simp [av.enter]⟩<;>simp only [av.enter,l3] at* <;>try omega
     rw [h3];simp
   ·rename_i hq
    simp only [el,beq_self_eq_true,Bool.true_and,beq_iff_eq] at hq
    refine ⟨l1,⟨l2,fun q=>⟨by simp only;omega,h2,h3⟩,fun q=> ?_,fun q=> ?_,fun q=> ?_,fun q=> ?_,fun q=> ?_,fun q=> ?_,fun q=> ?_,fun q=> ?_,fun q=> ?_,h.lo,h.hi⟩,l3⟩<;>simp only at* <;>omega
  rename_i hp0;rw [if_neg hp0] at e
  split
  ·rename_i hp
   rw [if_pos hp] at e
   exact av.ale ha h (by simpa using hp) e
  rename_i hp1;rw [if_neg hp1] at e
  split
  ·rename_i hp
   rw [if_pos hp] at e
   exact av.alf ha h (by simpa using hp) e
  rename_i hp2;rw [if_neg hp2] at e
  split
  ·rename_i hp
   simp only [beq_iff_eq] at hp
   have hl3:=h.p3 (by omega) (by omega)
   have hq3:=h.q3 (by omega)
   refine ⟨ha,?_,by simp only;split<;>simp [av.enter]⟩
   simp only
   split
   ·refine ⟨h.lk,fun q=> ?_,fun q=> ?_,fun q=> ?_,fun _ _=>hl3,fun _=>hq3,fun q=> ?_,fun q=> ?_,fun q=> ?_,fun q=> ?_,fun q=> ?_,by simp [av.enter],by simp [av.enter]⟩<;>simp only [av.enter] at* <;>omega
   ·refine ⟨h.lk,fun q=> ?_,fun q=> ?_,fun q=> ?_,fun _ _=>hl3,fun _=>hq3,fun q=> ?_,fun q=> ?_,fun q=> ?_,fun q=> ?_,fun q=> ?_,h.lo,h.hi⟩<;>simp only at* <;>omega
  rename_i hp3;rw [if_neg hp3] at e
  split
  ·rename_i hp
   rw [if_pos hp] at e
   exact av.alg ha h (by simpa using hp) e
  rename_i hp5;rw [if_neg hp5] at e
  split
  ·rename_i hp
   rw [if_pos hp] at e
   exact av.ali ha h (by simpa using hp) e
  rename_i hp6;rw [if_neg hp6] at e
  split
  ·rename_i hp
   rw [if_pos hp] at e
   exact av.alj ha h (by simpa using hp) e
  rename_i VZ;rw [if_neg VZ] at e
  split
  ·rename_i hp
   rw [if_pos hp] at e
   simp only [beq_iff_eq] at hp
   simp only at e ⊢
   obtain ⟨l1,l2,l3,_,l5⟩:=bf.Bf ha h.lk e
   have h8:=h.p8 hp
   have l5:=l5 h8
   have hq3:=h.q3 (by omega)
   have h5:=h.p5 (by omega)
   refine ⟨l1,?_,by split<;>simp [av.enter,l3]⟩
   split
   ·rename_i hq
    refine ⟨l2,fun q=> ?_,fun q=> ?_,fun q=> ?_,fun _ _=> ?_,fun _=> ?_,fun q=> ?_,fun q=> ?_,fun q=> ?_,fun q=> ?_,fun q=> ?_,by simp [av.enter],by simp [av.enter]⟩<;>simp only [av.enter,l3] at* <;>first|omega|assumption
   ·rename_i hq
    simp only [e,beq_self_eq_true,Bool.true_and,beq_iff_eq] at hq
    refine ⟨l2,fun q=> ?_,fun q=> ?_,fun q=> ?_,fun _ _=> ?_,fun _=> ?_,fun q=> ?_,fun q=> ?_,fun q=> ?_,fun q=> ?_,fun q=> ?_,h.lo,h.hi⟩<;>simp only [l3] at* <;>first|omega|assumption
  rename_i hp8;rw [if_neg hp8] at e
  cases e
theorem av.DC {cells:List Int} {limit:Int} (hn:∀ c ∈ cells,c<=(n:Int)) (e:(av.new cells limit).2=0):(av.new cells limit).1.wf n/\(av.new cells limit).1.lock.cells=cells:=by
 unfold av.new at e ⊢
 split
 ·rename_i hc;rw [if_pos hc] at e;exact absurd e hc
 ·rename_i hc;rw [if_neg hc] at e
  split
  ·rename_i hd;rw [if_pos hd] at e;cases e
  ·obtain ⟨h1,h2,h3⟩:=bf.DC hn (Decidable.not_not.1 hc)
   refine ⟨⟨h1,fun q=>⟨.inl h2,rfl,rfl⟩,fun q=> ?_,fun q=> ?_,fun q=> ?_,fun q=> ?_,fun q=> ?_,fun q=> ?_,fun q=> ?_,fun q=> ?_,fun q=> ?_,by simp [av.z],by simp [av.z]⟩,h3⟩<;>simp [av.z] at*
theorem ab1 (cells:List Int):∀ (l old:List Int),jb cells l old=true->∀ k ∈ l,0<=k/\k<cells.length
 |[],_,_=>by simp
 |x::r,old,h=>fun k hk=>by
  simp only [jb,Bool.and_eq_true,decide_eq_true_eq] at h
  rcases List.mem_cons.1 hk with rfl|hk
  ·exact h.1
  ·exact ab1 cells r _ h.2.2 k hk
theorem av.alo (h:s.wf n) (hp:s.phase=4) {o:bD} (ho:o.aN.length=s.aN.length) (he:o.dO.length<=1) (hk:jb s.lock.cells o.order []=true):
 (s.tu o).1.wf n/\(s.tu o).1.lock.cells=s.lock.cells:=by
 have hl3:=h.p3 (by omega) (by omega)
 have hq3:=h.q3 (by omega)
 have ho':o.aN.length=cu n s.lock.cells/\(∀ k ∈ o.order,0<=k/\k<s.lock.cells.length):=⟨ho.trans hq3.2,ab1 _ _ _ hk⟩
 unfold av.tu
 rw [if_neg (by simp [hp]),if_neg (by omega),if_neg (by simp [hk])]
 split
 ·rename_i hd
  refine ⟨⟨h.lk,fun q=> ?_,fun q=> ?_,fun q=> ?_,fun _ _=>hl3,fun _=>hq3,fun _=>ho',fun q=> ?_,fun q=> ?_,fun q=> ?_,fun q=> ?_,by simp [av.enter],by simp [av.enter]⟩,rfl⟩<;>simp only [av.enter] at* <;>omega
 ·split
  ·rename_i hd
   refine ⟨⟨h.lk,fun q=> ?_,fun q=> ?_,fun q=> ?_,fun _ _=>hl3,fun _=>hq3,fun _=>ho',fun q=> ?_,fun q=> ?_,fun q=> ?_,fun q=> ?_,by simp [av.enter],by simp [av.enter]⟩,rfl⟩<;>simp only [av.enter] at* <;>omega
  ·refine av.VY (s:={s with out:=o}) ⟨h.lk,fun q=> ?_,fun q=> ?_,fun q=> ?_,fun _ _=>hl3,fun _=>hq3,fun _=>ho',fun q=> ?_,fun q=> ?_,fun q=> ?_,fun q=> ?_,h.lo,h.hi⟩ ?_ ?_ ho' ?_<;>(try simp only at*)<;>(try omega)
   unfold av.ja av.jl bf.free
   simp [hl3]
   split<;>rfl
end
structure Setup.ok (n:Nat) (u:Setup):Prop where
 good:u.good=true
 sl:u.slots=n
theorem Setup.ok.n6 {n:Nat} {u:Setup} (h:u.ok n):1<=n/\n<=6:=by
 have:=h.good
 simp [Setup.good,dP] at this
 have:=h.sl
 omega
theorem Setup.ok.lim {n:Nat} {u:Setup} (h:u.ok n):1<=u.limit/\u.limit<=8:=by
 have:=h.good
 simp [Setup.good,dP] at this
 omega
structure Task.wf (n:Nat) (t:Task):Prop where
 su:t.setup.ok n
 iv:t.inv.val t.setup=0
 en:0<=t.entry/\t.entry<t.inv.entries
 k1:t.inv.kind=1->t.walk.ok/\(t.pc=0\/t.pc=1\/t.pc=2\/(t.sec.wf n/\cu n t.sec.lock.cells=1))
 k2:t.inv.kind=2->t.walk.ok/\(t.pc=0\/t.pc=2\/(t.sec.wf n/\cu n t.sec.lock.cells=1))
 k3:3<=t.inv.kind->t.inv.kind<=5->t.pc=0\/((0<=t.hnd.route/\t.hnd.route<65536)/\(t.pc=1\/(t.sec.wf n/\cu n t.sec.lock.cells=1)))
 k8:t.inv.kind=8->t.pc=0\/(t.sec.wf n/\cu n t.sec.lock.cells=1/\t.sec.lock.cells.length=2)
 k9:9<=t.inv.kind->t.inv.kind<=11->t.pc=0\/(t.sec.wf n/\cu n t.sec.lock.cells=2/\t.sec.lock.cells.length=2)
 k12:t.inv.kind=12\/t.inv.kind=13->t.pc=0\/(t.sec.wf n/\t.sec.lock.cells.length=1)
 k14:t.inv.kind=14->t.pc=0\/(t.sec.wf n/\cu n t.sec.lock.cells=1/\t.sec.lock.cells.length=2)
end Go.Eng
namespace Go.Eng
open Go
structure mo (n:Nat) (t:Task) (x:gF):Prop where
 ar:x.1.wf n
 tk:x.2.1.dn=true\/x.2.1.wf n
 ev:x.2.2.1.length<=2
 rs:((x.2.1.results.drop t.results.length).map aV.tokens).flatten.length<=6
 su:x.2.1.setup=t.setup
section
variable {n:Nat} {a:aj} {t:Task} {k:Int}
theorem Task.oV (ht:t.wf n) (r:aV) (k:Int):(t.next r k).dn=true\/(t.next r k).wf n:=by
 by_cases h:t.entry+1=t.inv.entries
 ·left;simp [Task.next,h]
 ·right
  have he:=ht.en
  exact ⟨ht.su,ht.iv,⟨by simp only [Task.next];omega,by simp only [Task.next];omega⟩,fun _=>⟨⟨by simp [Task.next],by simp [Task.next]⟩,.inl (by simp [Task.next])⟩,fun _=>⟨⟨by simp [Task.next],by simp [Task.next]⟩,.inl (by simp [Task.next])⟩,
   fun _ _=> .inl (by simp [Task.next]),fun _=> .inl (by simp [Task.next]),fun _ _=> .inl (by simp [Task.next]),fun _=> .inl (by simp [Task.next]),fun _=> .inl (by simp [Task.next])⟩
theorem Task.wf.turn (ht:t.wf n) {t':Task} (e1:t'.setup=t.setup) (e2:t'.inv=t.inv) (e3:t'.entry=t.entry)
 (k1:t.inv.kind=1->t'.walk.ok/\(t'.pc=0\/t'.pc=1\/t'.pc=2\/(t'.sec.wf n/\cu n t'.sec.lock.cells=1)))
 (k2:t.inv.kind=2->t'.walk.ok/\(t'.pc=0\/t'.pc=2\/(t'.sec.wf n/\cu n t'.sec.lock.cells=1)))
 (k3:3<=t.inv.kind->t.inv.kind<=5->t'.pc=0\/((0<=t'.hnd.route/\t'.hnd.route<65536)/\(t'.pc=1\/(t'.sec.wf n/\cu n t'.sec.lock.cells=1))))
 (k8:t.inv.kind=8->t'.pc=0\/(t'.sec.wf n/\cu n t'.sec.lock.cells=1/\t'.sec.lock.cells.length=2))
 (k9:9<=t.inv.kind->t.inv.kind<=11->t'.pc=0\/(t'.sec.wf n/\cu n t'.sec.lock.cells=2/\t'.sec.lock.cells.length=2))
 (k12:t.inv.kind=12\/t.inv.kind=13->t'.pc=0\/(t'.sec.wf n/\t'.sec.lock.cells.length=1))
 (k14:t.inv.kind=14->t'.pc=0\/(t'.sec.wf n/\cu n t'.sec.lock.cells=1/\t'.sec.lock.cells.length=2)):t'.wf n:=
 ⟨by rw [e1];exact ht.su,by rw [e1,e2];exact ht.iv,by rw [e2,e3];exact ht.en,by rw [e2];exact k1,by rw [e2];exact k2,by rw [e2];exact k3,by rw [e2];exact k8,by rw [e2];exact k9,by rw [e2];exact k12,by rw [e2];exact k14⟩
theorem Task.go_wf (ha:a.wf n) (hs:t.sec.wf n) (e:(t.go a k).2.2.2.2=0):(t.go a k).1.wf n/\(∃ s,(t.go a k).2.1={t with sec:=s}/\s.wf n/\s.lock.cells=t.sec.lock.cells/\
 ((t.go a k).2.2.1=true->s.phase=4)/\((t.go a k).2.2.2.1=true->s.phase=9)):=by
 unfold Task.go at e ⊢
 simp only at e ⊢
 split
 ·rename_i hc;rw [if_pos hc] at e;exact absurd e hc
 ·rename_i hc
  obtain ⟨h1,h2,h3⟩:=av.Bf ha hs (Decidable.not_not.1 hc)
  exact ⟨h1,_,rfl,h2,h3,by simp,by simp⟩
theorem one_cell {n:Nat} {c:Int} (h6:n<=6) (h0:0<=c) (h1:c<n) (l:Int) (hl:1<=l/\l<=8):
 (av.new [c] l).1.wf n/\cu n (av.new [c] l).1.lock.cells=1/\(av.new [c] l).1.lock.cells=[c]:=by
 have e:(av.new [c] l).2=0:=by
  have:(bf.new [c]).2=0:=by
   unfold bf.new
   rw [if_neg (by simp),if_pos]
   simp [lZ,dP];omega
  unfold av.new
  rw [if_neg (by simp [this]),if_neg (by simp;omega)]
 obtain ⟨h2,h3⟩:=av.DC (n:=n) (fun x hx=>by simp at hx;omega) e
 exact ⟨h2,by rw [h3];simp [cu,h1],h3⟩
theorem Nn {n:Nat} {c d:Int} (h6:n<=6) (h0:0<=c) (h1:c<d) (h2:d<=n) (l:Int) (hl:1<=l/\l<=8):
 (av.new [c,d] l).1.wf n/\cu n (av.new [c,d] l).1.lock.cells=(if d<n then 2 else 1)/\(av.new [c,d] l).1.lock.cells=[c,d]:=by
 have e:(av.new [c,d] l).2=0:=by
  have:(bf.new [c,d]).2=0:=by
   unfold bf.new
   rw [if_neg (by simp),if_pos]
   simp [lZ,dP];omega
  unfold av.new
  rw [if_neg (by simp [this]),if_neg (by simp;omega)]
 obtain ⟨h3,h4⟩:=av.DC (n:=n) (fun x hx=>by simp at hx;omega) e
 refine ⟨h3,?_,h4⟩
 rw [h4]
 have:c<n:=by omega
 by_cases hd:d<n<;>simp [cu,this,hd]
theorem ab2 {n:Nat} {c:Int} (h6:n<=6) (h0:0<=c) (h1:c<=n) (l:Int) (hl:1<=l/\l<=8):(av.new [c] l).1.wf n/\(av.new [c] l).1.lock.cells=[c]:=by
 have e:(av.new [c] l).2=0:=by
  have:(bf.new [c]).2=0:=by
   unfold bf.new
   rw [if_neg (by simp),if_pos]
   simp [lZ,dP];omega
  unfold av.new
  rw [if_neg (by simp [this]),if_neg (by simp;omega)]
 exact av.DC (n:=n) (fun x hx=>by simp at hx;omega) e
theorem fV (l:List aV):((l.drop l.length).map aV.tokens).flatten.length<=6:=by simp
theorem oW (t:Task) (r:aV) (k:Int) (h:r.tokens.length<=6):(((t.next r k).results.drop t.results.length).map aV.tokens).flatten.length<=6:=by
 simp [Task.next,h]
theorem DF {s:av} (hs:s.wf n) (hp:s.phase=4) {o:bD} (ho:o.aN.length=s.aN.length) (he:o.dO.length<=1) (hk:jb s.lock.cells o.order []=true) (t:Task) (ht:t.sec=s):
 (t.dec o).sec.wf n/\(t.dec o).sec.lock.cells=s.lock.cells:=by
 unfold Task.dec
 simp only [ht]
 exact av.alo hs hp ho he hk
theorem Np {cells:List Int} (h:1<=cells.length):jb cells [0] []=true:=by simp [jb];omega
theorem ab3 {cells:List Int} (h:cells.length=2):jb cells [0,1] []=true:=by simp [jb,h]
theorem ab4 {cells:List Int} (h:cells.length=2):jb cells [1,0] []=true:=by simp [jb,h]
theorem w9 {cells:List Int}:jb cells [] []=true:=rfl
end
end Go.Eng
