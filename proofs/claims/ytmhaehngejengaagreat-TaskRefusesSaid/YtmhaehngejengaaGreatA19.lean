/-
  Part of a proof: lemmas and definitions of this work.
  No condition.
-/
import Derived.Test.YtmhaehngejengaaGreatA12
import Derived.Test.YtmhaehngejengaaGreatA18
set_option linter.all false
set_option maxRecDepth 100000
set_option maxHeartbeats 8000000
namespace Go.Eng
open Go
structure ak.wf (n:Nat) (a:ak):Prop where
 n1:1≤n
 n6:n≤6
 sl:a.slots.length=n
 st:a.cu.length=n
 dv:a.dir.val=0
 df:a.dir.aJ.length=n
section
variable {n:Nat} {a:ak}
theorem ak.wf.abK (h:a.wf n) (c w:Int):(a.own c w).wf n:=by
 unfold ak.own
 split
 ·exact ⟨h.n1,h.n6,h.sl,h.st,h.dv,h.df⟩
 ·exact ⟨h.n1,h.n6,by simp [h.sl],h.st,h.dv,h.df⟩
theorem ak.amE (h:a.wf n) {c w:Int} (e:(a.tryLock c w).2.2=0):(a.tryLock c w).1.wf n∧0≤c∧c≤n:=by
 unfold ak.tryLock at e ⊢
 split
 ·rename_i hc;rw [if_pos hc] at e;cases e
 ·rename_i hc
  have:0≤c∧c≤n:=by simp at hc;rw [←h.sl];omega
  split
  ·exact ⟨h,this⟩
  ·exact ⟨h.abK _ _,this⟩
theorem ak.amF (h:a.wf n) {c w:Int} (e:(a.unlock c w).2=0):(a.unlock c w).1.wf n:=by
 unfold ak.unlock at e ⊢
 split
 ·rename_i hc;rw [if_pos hc] at e;cases e
 ·rename_i hc;rw [if_neg hc] at e
  split
  ·rename_i hd;rw [if_pos hd] at e;cases e
  ·exact h.abK _ _
theorem ak.amG (h:a.wf n) {i w:Int} {s:aj} (e:(a.nC i w s).2=0):(a.nC i w s).1.wf n:=by
 unfold ak.nC at e ⊢
 split
 ·rename_i hc;rw [if_pos hc] at e;exact absurd e hc
 ·rename_i hc;rw [if_neg hc] at e
  split
  ·rename_i hd;rw [if_pos hd] at e;exact absurd e hd
  ·rename_i hd;rw [if_neg hd] at e
   split
   ·rename_i hf;rw [if_pos hf] at e;cases e
   ·exact ⟨h.n1,h.n6,by simp [h.sl],h.st,h.dv,h.df⟩
theorem ak.abL (h:a.wf n) {i w:Int} {s:aH} (e:(a.jW i w s).2=0):(a.jW i w s).1.wf n:=by
 unfold ak.jW at e ⊢
 split
 ·rename_i hc;rw [if_pos hc] at e;exact absurd e hc
 ·rename_i hc;rw [if_neg hc] at e
  split
  ·rename_i hd;rw [if_pos hd] at e;cases e
  ·exact ⟨h.n1,h.n6,h.sl,by simp [h.st],h.dv,h.df⟩
theorem ak.amH (h:a.wf n) {w:Int} {d:Dead} (e:(a.nD w d).2=0):(a.nD w d).1.wf n:=by
 unfold ak.nD at e ⊢
 split
 ·rename_i hc;rw [if_pos hc] at e;cases e
 ·rename_i hc;rw [if_neg hc] at e
  split
  ·rename_i hd;rw [if_pos hd] at e;cases e
  ·rename_i hd;rw [if_neg hd] at e
   split
   ·rename_i hf;rw [if_pos hf] at e;exact absurd e hf
   ·rename_i hf;rw [if_neg hf] at e
    split
    ·rename_i hg;rw [if_pos hg] at e;cases e
    ·exact ⟨h.n1,h.n6,h.sl,h.st,h.dv,h.df⟩
theorem ak.amI (h:a.wf n) {v:Int} {d:Dir} (e:(a.qo v d).2.2=0):(a.qo v d).1.wf n:=by
 unfold ak.qo at e ⊢
 split
 ·rename_i hc;rw [if_pos hc] at e;exact absurd e hc
 ·rename_i hc;rw [if_neg hc] at e
  split
  ·rename_i hd;rw [if_pos hd] at e;cases e
  ·rename_i hd
   split
   ·exact h
   ·refine ⟨h.n1,h.n6,h.sl,h.st,?_,?_⟩
    ·exact Decidable.not_not.1 hc
    ·have:=h.sl;simp only;omega
theorem ak.abM (h:a.wf n) {w o x:Int} (e:(a.nG w o x).2.2=0):(a.nG w o x).1.wf n:=by
 unfold ak.nG at e ⊢
 split
 ·rename_i hc;rw [if_pos hc] at e;cases e
 ·rename_i hc;rw [if_neg hc] at e
  split
  ·rename_i hd;rw [if_pos hd] at e;cases e
  ·split
   ·exact h
   ·split
    ·exact ⟨h.n1,h.n6,h.sl,h.st,h.dv,h.df⟩
    ·exact ⟨h.n1,h.n6,h.sl,h.st,h.dv,h.df⟩
theorem ak.WO (h:a.wf n) {b:Int} (e:(a.tick b).2=0):(a.tick b).1.wf n:=by
 unfold ak.tick at e ⊢
 split
 ·rename_i hc;rw [if_pos hc] at e;cases e
 ·rename_i hc;rw [if_neg hc] at e
  split
  ·rename_i hd;rw [if_pos hd] at e;cases e
  ·exact ⟨h.n1,h.n6,h.sl,h.st,h.dv,h.df⟩
end
theorem WQ (d:Dir):∀ l:List Span,wX d l=0→(∀ x ∈ l,0≤x.shard∧x.shard<d.aJ.length)∧yV d d.l 0=0
 |[],h=>⟨by simp,h⟩
 |x::r,h=>by
  simp only [wX] at h
  split at h
  ·cases h
  ·rename_i hc
   have ih:=WQ d r h
   refine ⟨fun y hy=> ?_,ih.2⟩
   rcases List.mem_cons.1 hy with rfl|hy
   ·simp at hc;omega
   ·exact ih.1 y hy
theorem abN (d:Dir):∀ (l:List Span) (i:Nat),yV d l i=0→wW d d.aJ 0=0
 |[],_,h=>h
 |x::r,i,h=>by
  simp only [yV] at h
  split at h
  ·cases h
  ·exact abN d r _ h
theorem Ou (d:Dir):∀ (l:List Int) (i:Nat),wW d l i=0→(∀ x ∈ l,-1≤x∧x<d.aJ.length)∧vz d d.aJ 0=0
 |[],_,h=>⟨by simp,h⟩
 |x::r,i,h=>by
  simp only [wW] at h
  split at h
  ·cases h
  ·rename_i hc
   have ih:=Ou d r _ h
   refine ⟨fun y hy=> ?_,ih.2⟩
   rcases List.mem_cons.1 hy with rfl|hy
   ·simp at hc;omega
   ·exact ih.1 y hy
theorem abO (d:Dir) (route:Int):∀ (l:List Span) (next:Int),mM d l next=0→next≤route→route<65536→∃ x ∈ l,AQ route l=x.shard
 |[],next,h,h1,h2=>by
  simp only [mM] at h
  split at h
  ·cases h
  ·rename_i hc;simp at hc;omega
 |x::r,next,h,h1,h2=>by
  simp only [mM] at h
  split at h
  ·cases h
  ·rename_i hc
   simp at hc
   simp only [AQ]
   split
   ·exact ⟨x,by simp,rfl⟩
   ·rename_i hn
    obtain ⟨y,hy,e⟩:=abO d route r _ h (by omega) h2
    exact ⟨y,by simp [hy],e⟩
theorem abP (d:Dir):∀ (l:List Span) (next:Int),mM d l next=0→wX d d.l=0
 |[],next,h=>by
  simp only [mM] at h
  split at h
  ·cases h
  ·exact h
 |x::r,next,h=>by
  simp only [mM] at h
  split at h
  ·cases h
  ·exact abP d r _ h
theorem Dir.qE {d:Dir} (h:d.val=0):mM d d.l 0=0∧wX d d.l=0∧wW d d.aJ 0=0∧vz d d.aJ 0=0:=by
 unfold Dir.val at h
 split at h
 ·cases h
 ·have h2:=abP d _ _ h
  have h4:=abN d _ _ (WQ d _ h2).2
  exact ⟨h,h2,h4,(Ou d _ _ h4).2⟩
theorem Dir.abQ {d:Dir} (h:d.val=0) {r:Int} (h0:0≤r) (h1:r<65536):0≤d.owner r∧d.owner r<d.aJ.length:=by
 obtain ⟨p1,p2,_,_⟩:=d.qE h
 unfold Dir.owner
 rw [if_neg (by simp [h])]
 obtain ⟨x,hx,e⟩:=abO d r _ _ p1 h0 h1
 rw [e]
 exact (WQ d _ p2).1 x hx
theorem FP {l:List Int} {p:Int→Prop} (h:∀ x ∈ l,p x) {i:Nat} (hi:i<l.length):p (gI l i):=by
 unfold gI
 rw [List.getElem?_eq_getElem hi]
 exact h _ (List.getElem_mem hi)
theorem abR {d:Dir} (h:∀ x ∈ d.aJ,-1≤x∧x<(d.aJ.length:Int)):∀ (k:Nat) (s:Int),-1≤s→s<d.aJ.length→yX d k s<d.aJ.length
 |0,s,_,h2=>h2
 |k+1,s,h1,h2=>by
  simp only [yX]
  split
  ·rename_i hc
   have:=FP h (i:=s.toNat) (by omega)
   exact abR h k _ this.1 this.2
  ·exact h2
theorem abS {d:Dir} (h:d.val=0) (s:Int):0≤rQ d s∧rQ d s<d.aJ.length:=by
 unfold rQ
 split
 ·rename_i hc
  refine ⟨hc,?_⟩
  obtain ⟨_,_,p4,_⟩:=d.qE h
  unfold Dir.home at hc ⊢
  split
  ·rename_i hd;rw [if_pos hd] at hc;omega
  ·rename_i hd
   exact abR (Ou d _ _ p4).1 7 s (by omega) (by omega)
 ·exact d.abQ h (by omega) (by omega)
def Walk.ok (w:Walk):Prop:=0≤w.next∧w.next<65536
theorem Walk.abT (r:Int):(Walk.begin r).1.ok:=by
 unfold Walk.begin
 split
 ·exact ⟨by simp [Walk.z],by simp [Walk.z]⟩
 ·rename_i h;simp at h;exact ⟨by simp;omega,by simp;omega⟩
theorem Walk.FQ (w:Walk) (l h:Int):(w.oN l h).1.ok:=by
 unfold Walk.oN
 split
 ·exact ⟨by simp [Walk.z],by simp [Walk.z]⟩
 ·rename_i hc
  simp at hc
  have h1:=Int.tmod_nonneg 65536 (show 0≤h+1 by omega)
  have h2:=Int.tmod_lt_of_pos (h+1) (show (0:Int)<65536 by omega)
  exact ⟨h1,h2⟩
end Go.Eng
namespace Go.Eng
open Go
structure bf.wf (n:Nat) (l:bf):Prop where
 l1:1≤l.cells.length
 l3:l.cells.length≤3
 xg:∀ c ∈ l.cells,0≤c∧c≤(n:Int)
 vH:l.cells.Pairwise (·<·)
 ph:(l.phase=0∧0≤l.got∧l.got<l.cells.length)∨((l.phase=1∨l.phase=4)∧1≤l.got∧l.got≤l.cells.length)∨(l.phase=2∧l.got=0)∨(l.phase=3∧l.got=l.cells.length)∨(l.phase=5∧l.got=0)
theorem abU:∀ (l:List Int) (p:Int),nH l p=true→(∀ c ∈ l,p<c∧0≤c∧c≤6)∧l.Pairwise (·<·)
 |[],_,_=>by simp
 |c::r,p,h=>by
  simp [nH,inB] at h
  obtain ⟨h1,h2⟩:=abU r c h.2
  refine ⟨fun x hx=> ?_,List.pairwise_cons.2 ⟨fun x hx=>(h1 x hx).1,h2⟩⟩
  rcases List.mem_cons.1 hx with rfl|hx
  ·omega
  ·have:=h1 x hx;omega
theorem bf.FT {n:Nat} {cells:List Int} (hn:∀ c ∈ cells,c≤(n:Int)) (e:(bf.new cells).2=0):(bf.new cells).1.wf n∧(bf.new cells).1.phase=0∧(bf.new cells).1.cells=cells:=by
 unfold bf.new at e ⊢
 split
 ·rename_i hc;rw [if_pos hc] at e;cases e
 ·rename_i hc;rw [if_neg hc] at e
  simp at hc
  split
  ·rename_i hl
   obtain ⟨h1,h2⟩:=abU _ _ hl
   have:cells.length≠0:=fun h=>hc.1 (List.eq_nil_of_length_eq_zero h)
   exact ⟨⟨by simp only;omega,by simp only;omega,fun c hx=>⟨(h1 c hx).2.1,hn c hx⟩,h2,.inl ⟨rfl,by simp,by simp only;omega⟩⟩,rfl,rfl⟩
  ·rename_i hl;rw [if_neg hl] at e;cases e
theorem bf.Dt {n:Nat} {l:bf} (h:l.wf n) (e:l.free.2=0):l.free.1.wf n∧l.free.1.phase=4∧l.free.1.cells=l.cells:=by
 unfold bf.free at e ⊢
 split
 ·rename_i hc;rw [if_pos hc] at e;cases e
 ·rename_i hc
  simp at hc
  refine ⟨⟨h.l1,h.l3,h.xg,h.vH,?_⟩,rfl,rfl⟩
  rcases h.ph with h1|h1|h1|h1|h1
  ·omega
  ·omega
  ·omega
  ·have:=h.l1;exact .inr (.inl ⟨.inr rfl,by simp only;omega,by simp only;omega⟩)
  ·omega
theorem bf.Du {n:Nat} {a:ak} {l:bf} {task:Int} (ha:a.wf n) (h:l.wf n) (e:(l.step a task).2.2=0):
 (l.step a task).1.wf n∧(l.step a task).2.1.wf n∧(l.step a task).2.1.cells=l.cells∧
  ((l.phase=0∨l.phase=1∨l.phase=2)→((l.step a task).2.1.phase=0∨(l.step a task).2.1.phase=1∨(l.step a task).2.1.phase=2∨(l.step a task).2.1.phase=3))∧
  (l.phase=4→((l.step a task).2.1.phase=4∨(l.step a task).2.1.phase=5)):=by
 unfold bf.step at e ⊢
 split
 ·rename_i hc
  rw [if_pos hc] at e
  simp at hc
  have hp:0≤l.got∧l.got<l.cells.length:=by rcases h.ph with h1|h1|h1|h1|h1<;>omega
  simp only at e ⊢
  split
  ·rename_i hd;rw [if_pos hd] at e;exact absurd e hd
  ·rename_i hd
   have ht:=(ak.amE ha (Decidable.not_not.1 hd)).1
   split
   ·refine ⟨ht,⟨h.l1,h.l3,h.xg,h.vH,?_⟩,rfl,fun _=> ?_,fun h=>by omega⟩
    ·simp only [beq_iff_eq]
     split
     ·rename_i hq;exact .inr (.inr (.inr (.inl ⟨rfl,hq⟩)))
     ·rename_i hq;exact .inl ⟨hc,by omega,by omega⟩
    ·simp only [beq_iff_eq]
     split
     ·simp
     ·simp [hc]
   ·split
    ·exact ⟨ht,⟨h.l1,h.l3,h.xg,h.vH,.inr (.inl ⟨.inl rfl,by simp only;omega,by simp only;omega⟩)⟩,rfl,fun _=>by simp,fun h=>by omega⟩
    ·exact ⟨ht,h,rfl,fun _=>by simp [hc],fun h=>by omega⟩
 ·rename_i hc;rw [if_neg hc] at e
  split
  ·rename_i hd
   rw [if_pos hd] at e
   simp at hc hd
   have hp:1≤l.got∧l.got≤l.cells.length:=by rcases h.ph with h1|h1|h1|h1|h1<;>omega
   simp only at e ⊢
   split
   ·rename_i hf;rw [if_pos hf] at e;exact absurd e hf
   ·rename_i hf
    have ht:=ak.amF ha (Decidable.not_not.1 hf)
    split
    ·refine ⟨ht,⟨h.l1,h.l3,h.xg,h.vH,.inr (.inl ⟨hd,by simp only;omega,by simp only;omega⟩)⟩,rfl,fun hh=> ?_,fun hh=> .inl hh⟩
     simp only;omega
    ·split
     ·rename_i hg
      simp at hg
      exact ⟨ht,⟨h.l1,h.l3,h.xg,h.vH,.inr (.inr (.inr (.inr ⟨rfl,by simp only;omega⟩)))⟩,rfl,fun hh=>by omega,fun hh=> .inr rfl⟩
     ·rename_i hg
      simp at hg
      exact ⟨ht,⟨h.l1,h.l3,h.xg,h.vH,.inr (.inr (.inl ⟨rfl,by simp only;omega⟩))⟩,rfl,fun hh=>by simp,fun hh=>by omega⟩
  ·rename_i hd;rw [if_neg hd] at e
   split
   ·rename_i hf
    simp at hc hd hf
    have hp:l.got=0:=by rcases h.ph with h1|h1|h1|h1|h1<;>omega
    have:=h.l1
    refine ⟨ha,⟨h.l1,h.l3,h.xg,h.vH,?_⟩,rfl,fun _=> ?_,fun hh=>by omega⟩
    ·simp only
     split
     ·exact .inl ⟨rfl,by omega,by omega⟩
     ·exact .inr (.inr (.inl ⟨rfl,hp⟩))
    ·simp only
     split<;>simp
   ·rename_i hf;rw [if_neg hf] at e;cases e
def dB (n:Nat) (l:List Int):Nat:=(l.filter fun c=>decide (c<(n:Int))).length
theorem y7 (n:Nat) (l:List Int):dB n l≤l.length:=List.length_filter_le _ _
theorem ax.WR {n:Nat} {a:ak} (ha:a.wf n) (s:ax):ax.slots a s=dB n s.lock.cells:=by
 unfold ax.slots oL dB;rw [ha.sl]
theorem WS {n:Nat}:∀ (l:List Int) (k:Nat),l.Pairwise (·<·)→k<l.length→gI l k<n→k<dB n l
 |[],k,_,h,_=>by simp at h
 |c::r,0,hp,_,h=>by
  simp [gI] at h
  simp [dB,h]
 |c::r,k+1,hp,hk,h=>by
  have hp:=List.pairwise_cons.1 hp
  have h':gI r k<n:=by simpa [gI] using h
  have ih:=WS r k hp.2 (by simpa using hk) h'
  have hm:gI r k ∈ r:=by
   unfold gI;rw [List.getElem?_eq_getElem (by simpa using hk)];exact List.getElem_mem _
  have:c<n:=by have:=hp.1 _ hm;omega
  simp only [dB,List.filter_cons,decide_eq_true_eq,this,if_true,List.length_cons] at ih ⊢
  omega
theorem abV {n:Nat}:∀ (l:List Int) (k:Nat),l.Pairwise (·<·)→k<dB n l→gI l k<n
 |[],k,_,h=>by simp [dB] at h
 |c::r,k,hp,hk=>by
  have hp:=List.pairwise_cons.1 hp
  by_cases hc:c<n
  ·cases k with
   |zero=>simpa [gI] using hc
   |succ k=>
    have:k<dB n r:=by simp only [dB,List.filter_cons,decide_eq_true_eq,hc,if_true,List.length_cons] at hk ⊢;omega
    simpa [gI] using abV r k hp.2 this
  ·exfalso
   have:dB n (c::r)=0:=by
    simp only [dB,List.length_eq_zero_iff,List.filter_eq_nil_iff]
    intro x hx
    rcases List.mem_cons.1 hx with rfl|hx
    ·simpa using hc
    ·have:=hp.1 x hx;simp;omega
   omega
structure ax.wf (n:Nat) (s:ax):Prop where
 lk:s.lock.wf n
 p0:s.phase=0→(s.lock.phase=0∨s.lock.phase=1∨s.lock.phase=2)∧s.shards=[]∧s.cu=[]
 p1:s.phase=1→s.lock.phase=3∧s.shards=[]∧0≤s.at_∧s.at_<2*dB n s.lock.cells∧s.cu.length=((s.at_+1) / 2).toNat
 p2:s.phase=2→s.lock.phase=3∧s.cu.length=dB n s.lock.cells∧0≤s.at_∧s.at_<s.lock.cells.length∧s.shards.length=min s.at_.toNat (dB n s.lock.cells)
 p3:3≤s.phase→s.phase≤7→s.lock.phase=3
 q3:3≤s.phase→s.cu.length=dB n s.lock.cells∧s.shards.length=dB n s.lock.cells
 p5:5≤s.phase→s.out.shards.length=dB n s.lock.cells∧(∀ k ∈ s.out.order,0≤k∧k<s.lock.cells.length)
 q5:s.phase=5→0≤s.at_∧s.at_<s.out.order.length
 p6:s.phase=6→0<s.out.dS.length
 p7:s.phase=7→0≤s.at_∧s.at_<dB n s.lock.cells
 p8:s.phase=8→s.lock.phase=4
 lo:0≤s.phase
 hi:s.phase≤9
end Go.Eng
namespace Go.Eng
open Go
section
variable {n:Nat} {a:ak} {s:ax} {task:Int}
theorem ax.amJ (ha:a.wf n) (h:s.wf n) (hp:s.phase=1) (e:(s.mark a task).2.2=0):
 (s.mark a task).1.wf n∧(s.mark a task).2.1.wf n∧(s.mark a task).2.1.lock.cells=s.lock.cells:=by
 obtain ⟨h1,h2,h3,h4,h5⟩:=h.p1 hp
 have hK:=y7 n s.lock.cells
 unfold ax.mark at e ⊢
 simp only [Int.tdiv_eq_ediv_of_nonneg h3,Int.tmod_eq_emod_of_nonneg h3] at e ⊢
 split
 ·rename_i hc
  simp at hc
  refine ⟨ha,⟨h.lk,fun q=> ?_,fun q=>⟨h1,h2,?_,?_,?_⟩,fun q=> ?_,fun q=> ?_,fun q=> ?_,fun q=> ?_,fun q=> ?_,fun q=> ?_,fun q=> ?_,fun q=> ?_,h.lo,h.hi⟩,rfl⟩<;>simp only at* <;>try omega
  rw [List.length_append,h5]
  simp only [List.length_cons,List.length_nil]
  omega
 ·rename_i hc;rw [if_neg hc] at e
  simp at hc
  split
  ·rename_i hd;rw [if_pos hd] at e;exact absurd e hd
  ·rename_i hd;rw [if_neg hd] at e
   simp only at e
   have hs:=ak.abL ha e
   refine ⟨hs,?_,?_⟩
   ·have hl:(s.cu.take (s.at_ / 2).toNat++[(jG s.cu (s.at_ / 2).toNat).begin.1]).length=((s.at_+1) / 2).toNat:=by
     rw [List.length_append,List.length_take,h5]
     simp only [List.length_cons,List.length_nil]
     omega
    split
    ·rename_i hq
     simp only [Bool.and_eq_true,beq_iff_eq,ax.WR hs] at hq
     have hl1:=h.lk.l1
     refine ⟨h.lk,fun q=> ?_,fun q=> ?_,fun q=>⟨h1,?_,?_,?_,?_⟩,fun q=> ?_,fun q=> ?_,fun q=> ?_,fun q=> ?_,fun q=> ?_,fun q=> ?_,fun q=> ?_,by simp [ax.enter],by simp [ax.enter]⟩<;>simp only [ax.enter] at* <;>try omega
     rw [h2];simp
    ·rename_i hq
     simp only [e,ax.WR hs,beq_self_eq_true,Bool.true_and,beq_iff_eq] at hq
     refine ⟨h.lk,fun q=> ?_,fun q=>⟨h1,h2,?_,?_,?_⟩,fun q=> ?_,fun q=> ?_,fun q=> ?_,fun q=> ?_,fun q=> ?_,fun q=> ?_,fun q=> ?_,fun q=> ?_,h.lo,h.hi⟩<;>simp only at* <;>try omega
   ·split<;>rfl
theorem ax.amK (ha:a.wf n) (h:s.wf n) (hp:s.phase=2) (e:(s.load a).2.2=0):
 (s.load a).1.wf n∧(s.load a).2.1.wf n∧(s.load a).2.1.lock.cells=s.lock.cells:=by
 obtain ⟨h1,h2,h3,h4,h5⟩:=h.p2 hp
 have hK:=y7 n s.lock.cells
 unfold ax.load at e ⊢
 simp only at e ⊢
 refine ⟨ha,?_⟩
 have key:∀ (y:ax×Int),(if (gI s.lock.cells s.at_.toNat==(a.slots.length:Int))=true then ({s with dead:=a.dead.dead},(0:Int)) else ({s with shards:=s.shards++[(a.lD (gI s.lock.cells s.at_.toNat)).1]},(a.lD (gI s.lock.cells s.at_.toNat)).2))=y→
  y.1.lock=s.lock∧y.1.phase=s.phase∧y.1.cu=s.cu∧y.1.out=s.out∧y.1.shards.length=min (s.at_.toNat+1) (dB n s.lock.cells):=by
  intro y hy
  have hc0:gI s.lock.cells s.at_.toNat≤n:=(FP h.lk.xg (i:=s.at_.toNat) (by omega)).2
  split at hy
  ·rename_i hc
   subst hy
   refine ⟨rfl,rfl,rfl,rfl,?_⟩
   simp only [beq_iff_eq,ha.sl] at hc
   have:¬ s.at_.toNat<dB n s.lock.cells:=fun hlt=>by have:=abV _ _ h.lk.vH hlt;omega
   simp only
   omega
  ·rename_i hc
   subst hy
   refine ⟨rfl,rfl,rfl,rfl,?_⟩
   have hne:gI s.lock.cells s.at_.toNat≠(n:Int):=fun he=>hc (by rw [he,ha.sl];simp)
   have:=WS (n:=n) s.lock.cells s.at_.toNat h.lk.vH (by omega) (by omega)
   simp only [List.length_append,List.length_cons,List.length_nil,h5]
   omega
 generalize hy:(if (gI s.lock.cells s.at_.toNat==(a.slots.length:Int))=true then ({s with dead:=a.dead.dead},(0:Int)) else ({s with shards:=s.shards++[(a.lD (gI s.lock.cells s.at_.toNat)).1]},(a.lD (gI s.lock.cells s.at_.toNat)).2))=y at e ⊢
 obtain ⟨k1,k2,k3,k4,k5⟩:=key y hy
 obtain ⟨y,ye⟩:=y
 simp only at k1 k2 k3 k4 k5
 simp only [beq_iff_eq]
 refine ⟨?_,by split<;>simp [ax.enter,k1]⟩
 split
 ·rename_i hq
  rw [k1] at hq
  refine ⟨by simp [ax.enter,k1];exact h.lk,fun q=> ?_,fun q=> ?_,fun q=> ?_,fun _ _=> ?_,fun _=>⟨?_,?_⟩,fun q=> ?_,fun q=> ?_,fun q=> ?_,fun q=> ?_,fun q=> ?_,by simp [ax.enter],by simp [ax.enter]⟩<;>simp only [ax.enter,k1,k3] at* <;>try omega
 ·rename_i hq
  rw [k1] at hq
  have hlo:=h.lo
  have hhi:=h.hi
  refine ⟨by rw [k1];exact h.lk,fun q=> ?_,fun q=> ?_,fun q=>⟨?_,?_,?_,?_,?_⟩,fun q=> ?_,fun q=> ?_,fun q=> ?_,fun q=> ?_,fun q=> ?_,fun q=> ?_,fun q=> ?_,?_,?_⟩<;>simp only [k1,k2,k3] at* <;>try omega
theorem ax.abW (h:s.wf n) (hp:3≤s.phase) (hq:s.out.shards.length=dB n s.lock.cells∧(∀ k ∈ s.out.order,0≤k∧k<s.lock.cells.length)) (e:s.jQ.2=0):
 s.jQ.1.wf n∧s.jQ.1.lock.cells=s.lock.cells:=by
 unfold ax.jQ at e ⊢
 split
 ·rename_i hc;rw [if_pos hc] at e;exact absurd e hc
 ·rename_i hc
  obtain ⟨h1,h2,h3⟩:=bf.Dt h.lk (Decidable.not_not.1 hc)
  refine ⟨⟨h1,fun q=> ?_,fun q=> ?_,fun q=> ?_,fun _ _=> ?_,fun _=> ?_,fun q=> ?_,fun q=> ?_,fun q=> ?_,fun q=> ?_,fun q=> ?_,by simp [ax.enter],by simp [ax.enter]⟩,h3⟩<;>simp only [ax.enter] at* <;>try omega
  ·rw [h3];exact h.q3 hp
  ·rw [h3];exact hq
theorem ax.WT (h:s.wf n) (hp:3≤s.phase) (WU:s.phase≤7) (hq:s.out.shards.length=dB n s.lock.cells∧(∀ k ∈ s.out.order,0≤k∧k<s.lock.cells.length)) (e:s.jH.2=0):
 s.jH.1.wf n∧s.jH.1.lock.cells=s.lock.cells:=by
 unfold ax.jH at e ⊢
 split
 ·rename_i hc
  have hq3:=h.q3 hp
  refine ⟨⟨h.lk,fun q=> ?_,fun q=> ?_,fun q=> ?_,fun _ _=>h.p3 hp WU,fun _=>hq3,fun _=>hq,fun q=> ?_,fun q=> ?_,fun q=> ?_,fun q=> ?_,by simp [ax.enter],by simp [ax.enter]⟩,rfl⟩<;>simp only [ax.enter] at* <;>try omega
 ·rename_i hc;rw [if_neg hc] at e
  exact ax.abW h hp hq e
theorem ax.amL (ha:a.wf n) (h:s.wf n) (hp:s.phase=5) (e:(s.store a task).2.2=0):
 (s.store a task).1.wf n∧(s.store a task).2.1.wf n∧(s.store a task).2.1.lock.cells=s.lock.cells:=by
 have h5:=h.p5 (by omega)
 have hq5:=h.q5 hp
 have hl3:=h.p3 (by omega) (by omega)
 have hq3:=h.q3 (by omega)
 unfold ax.store at e ⊢
 simp only at e ⊢
 generalize hy:(if (gI s.lock.cells (gI s.out.order s.at_.toNat).toNat==(a.slots.length:Int))=true then a.nD task s.out.dead else a.nC (gI s.lock.cells (gI s.out.order s.at_.toNat).toNat) task (eH s.out.shards (gI s.out.order s.at_.toNat).toNat))=y at e ⊢
 split
 ·rename_i hc;rw [if_pos hc] at e;exact absurd e hc
 ·rename_i hc;rw [if_neg hc] at e
  have WV:y.1.wf n:=by
   have hc:=Decidable.not_not.1 hc
   split at hy
   ·subst hy;exact ak.amH ha hc
   ·subst hy;exact ak.amG ha hc
  split
  ·rename_i hd
   refine ⟨WV,⟨h.lk,fun q=> ?_,fun q=> ?_,fun q=> ?_,fun _ _=>hl3,fun _=>hq3,fun _=>h5,fun q=> ?_,fun q=> ?_,fun q=> ?_,fun q=> ?_,?_,?_⟩,rfl⟩<;>simp only at* <;>try omega
  ·rename_i hd;rw [if_neg hd] at e
   split
   ·rename_i hf
    refine ⟨WV,⟨h.lk,fun q=> ?_,fun q=> ?_,fun q=> ?_,fun _ _=>hl3,fun _=>hq3,fun _=>h5,fun q=> ?_,fun q=>hf,fun q=> ?_,fun q=> ?_,by simp [ax.enter],by simp [ax.enter]⟩,rfl⟩<;>simp only [ax.enter] at* <;>try omega
   ·rename_i hf;rw [if_neg hf] at e
    have hu:=ax.WT (n:=n) (s:={s with phase:=4,at_:=s.at_+1,carry:=[]}) ⟨h.lk,fun q=>by simp at q,fun q=>by simp at q,fun q=>by simp at q,fun _ _=>hl3,fun _=>hq3,fun q=>h5,fun q=>by simp at q,fun q=>by simp at q,fun q=>by simp at q,fun q=>by simp at q,by simp,by simp⟩ (by simp) (by simp) h5
    have e1:ax.jH {s with phase:=4,at_:=s.at_+1,carry:=[]}=ax.jH {s with at_:=s.at_+1,carry:=[]}∨True:= .inr trivial
    have key:(ax.jH {s with at_:=s.at_+1,carry:=[]})=((ax.jH {s with phase:=4,at_:=s.at_+1,carry:=[]}))∨(ax.jH {s with at_:=s.at_+1,carry:=[]}).2≠0:=by
     unfold ax.jH ax.jQ ax.enter
     simp only
     split
     ·exact .inl rfl
     ·split
      ·rename_i hx;exact .inr hx
      ·exact .inl rfl
    rcases key with key|key
    ·rw [key] at e ⊢
     exact ⟨WV,hu e⟩
    ·exact absurd e key
theorem ax.amM (ha:a.wf n) (h:s.wf n) (hp:s.phase=6) (e:(s.nI a).2.2=0):
 (s.nI a).1.wf n∧(s.nI a).2.1.wf n∧(s.nI a).2.1.lock.cells=s.lock.cells:=by
 have h5:=h.p5 (by omega)
 have h6:=h.p6 hp
 have hl3:=h.p3 (by omega) (by omega)
 have hq3:=h.q3 (by omega)
 have mk:∀ (d:Dir) (x:Int),ax.wf n {s with dir:=d,at_:=x}:=fun d x=>
  ⟨h.lk,fun q=>by simp only at q;omega,fun q=>by simp only at q;omega,fun q=>by simp only at q;omega,fun _ _=>hl3,fun _=>hq3,fun _=>h5,fun q=>by simp only at q;omega,fun _=>h6,fun q=>by simp only at q;omega,fun q=>by simp only at q;omega,h.lo,h.hi⟩
 unfold ax.nI at e ⊢
 simp only at e ⊢
 split
 ·exact ⟨ha,mk _ _,rfl⟩
 ·rename_i hc;rw [if_neg hc] at e
  split
  ·rename_i hd;rw [if_pos hd] at e;exact absurd e hd
  ·rename_i hd;rw [if_neg hd] at e
   split
   ·rename_i hf;rw [if_pos hf] at e;exact absurd e hf
   ·rename_i hf;rw [if_neg hf] at e
    have hx:=ak.amI ha (Decidable.not_not.1 hf)
    split
    ·exact ⟨hx,mk s.dir 0,rfl⟩
    ·rename_i hg;rw [if_neg hg] at e
     exact ⟨hx,ax.WT (mk _ s.at_) (by simp only;omega) (by simp only;omega) h5 e⟩
theorem ax.amN (ha:a.wf n) (h:s.wf n) (hp:s.phase=7) (e:(s.nJ a task).2.2=0):
 (s.nJ a task).1.wf n∧(s.nJ a task).2.1.wf n∧(s.nJ a task).2.1.lock.cells=s.lock.cells:=by
 have h5:=h.p5 (by omega)
 have h7:=h.p7 hp
 have hl3:=h.p3 (by omega) (by omega)
 have hq3:=h.q3 (by omega)
 unfold ax.nJ at e ⊢
 simp only at e ⊢
 generalize (if s.AU s.at_=true then eH s.out.shards s.at_.toNat else eH s.shards s.at_.toNat)=now at e ⊢
 split
 ·rename_i hd;rw [if_pos hd] at e;exact absurd e hd
 ·rename_i hd;rw [if_neg hd] at e
  split
  ·rename_i hf;rw [if_pos hf] at e;exact absurd e hf
  ·rename_i hf;rw [if_neg hf] at e
   have hx:=ak.abL ha (Decidable.not_not.1 hf)
   split
   ·rename_i hg;rw [if_pos hg] at e
    have hfr:=ax.abW (n:=n) (s:={s with phase:=4,at_:=s.at_+1}) ⟨h.lk,fun q=>by simp at q,fun q=>by simp at q,fun q=>by simp at q,fun _ _=>hl3,fun _=>hq3,fun q=>h5,fun q=>by simp at q,fun q=>by simp at q,fun q=>by simp at q,fun q=>by simp at q,by simp,by simp⟩ (by simp) h5
    have key:(ax.jQ {s with at_:=s.at_+1})=((ax.jQ {s with phase:=4,at_:=s.at_+1}))∨(ax.jQ {s with at_:=s.at_+1}).2≠0:=by
     unfold ax.jQ ax.enter
     simp only
     split
     ·rename_i hx;exact .inr hx
     ·exact .inl rfl
    rcases key with key|key
    ·rw [key] at e ⊢
     exact ⟨hx,hfr e⟩
    ·exact absurd e key
   ·rename_i hg
    simp only [beq_iff_eq] at hg
    refine ⟨hx,⟨h.lk,fun q=> ?_,fun q=> ?_,fun q=> ?_,fun _ _=>hl3,fun _=>hq3,fun _=>h5,fun q=> ?_,fun q=> ?_,fun q=> ?_,fun q=> ?_,?_,?_⟩,rfl⟩<;>simp only at* <;>try omega
end
end Go.Eng
namespace Go.Eng
open Go
section
variable {n:Nat} {a:ak} {s:ax} {task:Int}
theorem ax.Du (ha:a.wf n) (h:s.wf n) {k:Int} (e:(s.step a task k).2.2=0):
 (s.step a task k).1.wf n∧(s.step a task k).2.1.wf n∧(s.step a task k).2.1.lock.cells=s.lock.cells:=by
 unfold ax.step at e ⊢
 split
 ·rename_i hc;rw [if_pos hc] at e;exact absurd e hc
 ·rename_i hc
  have e:=Decidable.not_not.1 hc
  clear hc
  simp only
  unfold ax.step0 at e ⊢
  split
  ·rename_i hp
   simp only [beq_iff_eq] at hp
   rw [if_pos (by simp [hp])] at e
   obtain ⟨h1,h2,h3⟩:=h.p0 hp
   simp only at e ⊢
   have el:(s.lock.step a task).2.2=0:=by split at e<;>exact e
   obtain ⟨l1,l2,l3,l4,_⟩:=bf.Du ha h.lk el
   have l4:=l4 h1
   split
   ·rename_i hq
    simp only [Bool.and_eq_true,beq_iff_eq] at hq
    refine ⟨l1,?_,by split<;>simp [ax.enter,l3]⟩
    simp only [beq_iff_eq,ax.WR ha]
    have hl1:=h.lk.l1
    split
    ·rename_i hz
     simp only [ax.enter,l3] at hz
     refine ⟨l2,fun q=> ?_,fun q=> ?_,fun q=>⟨hq.2,?_,?_,?_,?_⟩,fun q=> ?_,fun q=> ?_,fun q=> ?_,fun q=> ?_,fun q=> ?_,fun q=> ?_,fun q=> ?_,by simp [ax.enter],by simp [ax.enter]⟩<;>simp only [ax.enter,l3] at* <;>try omega
     ·rw [h3];simp only [List.length_nil];omega
     ·rw [h2];simp
    ·rename_i hz
     simp only [ax.enter,l3] at hz
     refine ⟨l2,fun q=> ?_,fun q=>⟨hq.2,h2,?_,?_,?_⟩,fun q=> ?_,fun q=> ?_,fun q=> ?_,fun q=> ?_,fun q=> ?_,fun q=> ?_,fun q=> ?_,fun q=> ?_,by simp [ax.enter],by simp [ax.enter]⟩<;>simp only [ax.enter,l3] at* <;>try omega
     rw [h3];simp
   ·rename_i hq
    simp only [el,beq_self_eq_true,Bool.true_and,beq_iff_eq] at hq
    refine ⟨l1,⟨l2,fun q=>⟨by simp only;omega,h2,h3⟩,fun q=> ?_,fun q=> ?_,fun q=> ?_,fun q=> ?_,fun q=> ?_,fun q=> ?_,fun q=> ?_,fun q=> ?_,fun q=> ?_,h.lo,h.hi⟩,l3⟩<;>simp only at* <;>omega
  rename_i hp0;rw [if_neg hp0] at e
  split
  ·rename_i hp
   rw [if_pos hp] at e
   exact ax.amJ ha h (by simpa using hp) e
  rename_i hp1;rw [if_neg hp1] at e
  split
  ·rename_i hp
   rw [if_pos hp] at e
   exact ax.amK ha h (by simpa using hp) e
  rename_i hp2;rw [if_neg hp2] at e
  split
  ·rename_i hp
   simp only [beq_iff_eq] at hp
   have hl3:=h.p3 (by omega) (by omega)
   have hq3:=h.q3 (by omega)
   refine ⟨ha,?_,by simp only;split<;>simp [ax.enter]⟩
   simp only
   split
   ·refine ⟨h.lk,fun q=> ?_,fun q=> ?_,fun q=> ?_,fun _ _=>hl3,fun _=>hq3,fun q=> ?_,fun q=> ?_,fun q=> ?_,fun q=> ?_,fun q=> ?_,by simp [ax.enter],by simp [ax.enter]⟩<;>simp only [ax.enter] at* <;>omega
   ·refine ⟨h.lk,fun q=> ?_,fun q=> ?_,fun q=> ?_,fun _ _=>hl3,fun _=>hq3,fun q=> ?_,fun q=> ?_,fun q=> ?_,fun q=> ?_,fun q=> ?_,h.lo,h.hi⟩<;>simp only at* <;>omega
  rename_i hp3;rw [if_neg hp3] at e
  split
  ·rename_i hp
   rw [if_pos hp] at e
   exact ax.amL ha h (by simpa using hp) e
  rename_i hp5;rw [if_neg hp5] at e
  split
  ·rename_i hp
   rw [if_pos hp] at e
   exact ax.amM ha h (by simpa using hp) e
  rename_i hp6;rw [if_neg hp6] at e
  split
  ·rename_i hp
   rw [if_pos hp] at e
   exact ax.amN ha h (by simpa using hp) e
  rename_i WU;rw [if_neg WU] at e
  split
  ·rename_i hp
   rw [if_pos hp] at e
   simp only [beq_iff_eq] at hp
   simp only at e ⊢
   obtain ⟨l1,l2,l3,_,l5⟩:=bf.Du ha h.lk e
   have h8:=h.p8 hp
   have l5:=l5 h8
   have hq3:=h.q3 (by omega)
   have h5:=h.p5 (by omega)
   refine ⟨l1,?_,by split<;>simp [ax.enter,l3]⟩
   split
   ·rename_i hq
    refine ⟨l2,fun q=> ?_,fun q=> ?_,fun q=> ?_,fun _ _=> ?_,fun _=> ?_,fun q=> ?_,fun q=> ?_,fun q=> ?_,fun q=> ?_,fun q=> ?_,by simp [ax.enter],by simp [ax.enter]⟩<;>simp only [ax.enter,l3] at* <;>first|omega|assumption
   ·rename_i hq
    simp only [e,beq_self_eq_true,Bool.true_and,beq_iff_eq] at hq
    refine ⟨l2,fun q=> ?_,fun q=> ?_,fun q=> ?_,fun _ _=> ?_,fun _=> ?_,fun q=> ?_,fun q=> ?_,fun q=> ?_,fun q=> ?_,fun q=> ?_,h.lo,h.hi⟩<;>simp only [l3] at* <;>first|omega|assumption
  rename_i hp8;rw [if_neg hp8] at e
  cases e
theorem ax.FT {cells:List Int} {limit:Int} (hn:∀ c ∈ cells,c≤(n:Int)) (e:(ax.new cells limit).2=0):(ax.new cells limit).1.wf n∧(ax.new cells limit).1.lock.cells=cells:=by
 unfold ax.new at e ⊢
 split
 ·rename_i hc;rw [if_pos hc] at e;exact absurd e hc
 ·rename_i hc;rw [if_neg hc] at e
  split
  ·rename_i hd;rw [if_pos hd] at e;cases e
  ·obtain ⟨h1,h2,h3⟩:=bf.FT hn (Decidable.not_not.1 hc)
   refine ⟨⟨h1,fun q=>⟨.inl h2,rfl,rfl⟩,fun q=> ?_,fun q=> ?_,fun q=> ?_,fun q=> ?_,fun q=> ?_,fun q=> ?_,fun q=> ?_,fun q=> ?_,fun q=> ?_,by simp [ax.z],by simp [ax.z]⟩,h3⟩<;>simp [ax.z] at*
theorem abX (cells:List Int):∀ (l old:List Int),jI cells l old=true→∀ k ∈ l,0≤k∧k<cells.length
 |[],_,_=>by simp
 |x::r,old,h=>fun k hk=>by
  simp only [jI,Bool.and_eq_true,decide_eq_true_eq] at h
  rcases List.mem_cons.1 hk with rfl|hk
  ·exact h.1
  ·exact abX cells r _ h.2.2 k hk
theorem ax.amR (h:s.wf n) (hp:s.phase=4) {o:bG} (ho:o.shards.length=s.shards.length) (he:o.dS.length≤1) (hk:jI s.lock.cells o.order []=true):
 (s.vF o).1.wf n∧(s.vF o).1.lock.cells=s.lock.cells:=by
 have hl3:=h.p3 (by omega) (by omega)
 have hq3:=h.q3 (by omega)
 have ho':o.shards.length=dB n s.lock.cells∧(∀ k ∈ o.order,0≤k∧k<s.lock.cells.length):=⟨ho.trans hq3.2,abX _ _ _ hk⟩
 unfold ax.vF
 rw [if_neg (by simp [hp]),if_neg (by omega),if_neg (by simp [hk])]
 split
 ·rename_i hd
  refine ⟨⟨h.lk,fun q=> ?_,fun q=> ?_,fun q=> ?_,fun _ _=>hl3,fun _=>hq3,fun _=>ho',fun q=> ?_,fun q=> ?_,fun q=> ?_,fun q=> ?_,by simp [ax.enter],by simp [ax.enter]⟩,rfl⟩<;>simp only [ax.enter] at* <;>omega
 ·split
  ·rename_i hd
   refine ⟨⟨h.lk,fun q=> ?_,fun q=> ?_,fun q=> ?_,fun _ _=>hl3,fun _=>hq3,fun _=>ho',fun q=> ?_,fun q=> ?_,fun q=> ?_,fun q=> ?_,by simp [ax.enter],by simp [ax.enter]⟩,rfl⟩<;>simp only [ax.enter] at* <;>omega
  ·refine ax.WT (s:={s with out:=o}) ⟨h.lk,fun q=> ?_,fun q=> ?_,fun q=> ?_,fun _ _=>hl3,fun _=>hq3,fun _=>ho',fun q=> ?_,fun q=> ?_,fun q=> ?_,fun q=> ?_,h.lo,h.hi⟩ ?_ ?_ ho' ?_<;>(try simp only at*)<;>(try omega)
   unfold ax.jH ax.jQ bf.free
   simp [hl3]
   split<;>rfl
end
structure Setup.ok (n:Nat) (u:Setup):Prop where
 good:u.good=true
 sl:u.slots=n
theorem Setup.ok.n6 {n:Nat} {u:Setup} (h:u.ok n):1≤n∧n≤6:=by
 have:=h.good
 simp [Setup.good,inB] at this
 have:=h.sl
 omega
theorem Setup.ok.lim {n:Nat} {u:Setup} (h:u.ok n):1≤u.limit∧u.limit≤8:=by
 have:=h.good
 simp [Setup.good,inB] at this
 omega
structure Task.wf (n:Nat) (t:Task):Prop where
 su:t.setup.ok n
 iv:t.inv.val t.setup=0
 en:0≤t.entry∧t.entry<t.inv.entries
 k1:t.inv.kind=1→t.walk.ok∧(t.pc=0∨t.pc=1∨t.pc=2∨(t.sec.wf n∧dB n t.sec.lock.cells=1))
 k2:t.inv.kind=2→t.walk.ok∧(t.pc=0∨t.pc=2∨(t.sec.wf n∧dB n t.sec.lock.cells=1))
 k3:3≤t.inv.kind→t.inv.kind≤5→t.pc=0∨((0≤t.hnd.route∧t.hnd.route<65536)∧(t.pc=1∨(t.sec.wf n∧dB n t.sec.lock.cells=1)))
 k8:t.inv.kind=8→t.pc=0∨(t.sec.wf n∧dB n t.sec.lock.cells=1∧t.sec.lock.cells.length=2)
 k9:9≤t.inv.kind→t.inv.kind≤11→t.pc=0∨(t.sec.wf n∧dB n t.sec.lock.cells=2∧t.sec.lock.cells.length=2)
 k12:t.inv.kind=12∨t.inv.kind=13→t.pc=0∨(t.sec.wf n∧t.sec.lock.cells.length=1)
 k14:t.inv.kind=14→t.pc=0∨(t.sec.wf n∧dB n t.sec.lock.cells=1∧t.sec.lock.cells.length=2)
end Go.Eng
