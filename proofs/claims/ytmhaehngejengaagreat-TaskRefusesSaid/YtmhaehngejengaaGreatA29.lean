/-
  Part of a proof: lemmas and definitions of this work.
  No condition.
-/
import Derived.Test.YtmhaehngejengaaGreatA12
import Derived.Test.YtmhaehngejengaaGreatA27
set_option linter.all false
set_option maxRecDepth 100000
set_option maxHeartbeats 8000000
namespace Go.Eng
open Go
def aj.lt (k:Nat) (s:aj):Prop:=s.aP.l.length≤k∧s.aP.heap.length≤k
theorem aj.lt.mono {k k':Nat} {s:aj} (h:s.lt k) (hk:k≤k'):s.lt k':=⟨Nat.le_trans h.1 hk,Nat.le_trans h.2 hk⟩
theorem aj.lt.sm {k:Nat} {s:aj} (h:s.lt k) (hk:k≤800):s.sm:=h.mono hk
theorem lH {k:Nat}:aj.z.lt k:=⟨Nat.zero_le _,Nat.zero_le _⟩
theorem an6 {s:aj} (h:s.val=0):s.lt 12:=by
 have h3:=Table.val_zero (qE h).2
 exact ⟨by omega,by omega⟩
section
variable {k:Nat} {s:aj}
theorem XB (c l h:Int):(aj.new c l h).1.lt k:=by
 unfold aj.new
 repeat' split
 all_goals exact ⟨Nat.zero_le _,Nat.zero_le _⟩
theorem acU (c:Int):(aj.free c).1.lt k:=by
 unfold aj.free
 repeat' split
 all_goals exact ⟨Nat.zero_le _,Nat.zero_le _⟩
theorem acV (m:ai) (h:s.lt k):(s.put m).1.lt k:=by
 unfold aj.put
 repeat' split
 all_goals first|exact lH|exact h
theorem XC (mx dl ep li:Int):∀ (l:List ai) (k:Nat) (s:aj) (out:List Lease),s.lt k→(qm mx dl ep li l s out).1.lt (k+l.length)
 |[],k,s,out,h=>h
 |m::r,k,s,out,h=>by
  simp only [qm]
  split
  ·split
   ·have g:=OO s.aP m.kM.1 dl
    refine (XC mx dl ep li r (k+1) _ _ ⟨Nat.le_trans g.1 (by have:=h.1;omega),Nat.le_trans g.2 (by have:=h.2;omega)⟩).mono (by simp;omega)
   ·exact (XC mx dl ep li r k _ _ h).mono (by simp)
  ·exact h.mono (by simp)
theorem an7 (mx now vis ep li:Int) (h:s.lt k):(s.take mx now vis ep li).1.lt (k+12):=by
 unfold aj.take
 repeat' split
 all_goals first|exact lH|skip
 exact (XC _ _ _ _ _ k s [] h).mono (by have:=s.ready.ug;omega)
theorem acW:∀ (l:List Int) (s:aj),s.lt k→(AO l s).lt k
 |[],s,h=>h
 |id::r,s,h=>by
  simp only [AO]
  have g:=Dz s.aP id
  exact acW r _ ⟨Nat.le_trans g.1 h.1,Nat.le_trans g.2 h.2⟩
theorem XD (now ep li:Int) (h:s.lt k):(s.expire now ep li).1.lt k:=by
 unfold aj.expire
 repeat' split
 all_goals first|exact lH|exact acW _ _ h
theorem an8 (x:Hd) (now ep:Int) (h:s.lt k):(s.AB x now ep).1.lt k:=by
 have g:=Dz s.aP x.id
 unfold aj.AB
 repeat' split
 all_goals first|exact lH|exact ⟨Nat.le_trans g.1 h.1,Nat.le_trans g.2 h.2⟩
theorem an9 (x:Hd) (now ep li:Int) (h:s.lt k):(s.AL x now ep li).1.lt k:=by
 have g:=Dz s.aP x.id
 unfold aj.AL
 by_cases h1:s.held x now ep (lC li)≠0
 ·rw [if_pos h1];exact lH
 ·rw [if_neg h1];exact ⟨Nat.le_trans g.1 h.1,Nat.le_trans g.2 h.2⟩
theorem aoa (t:Table) (id dl:Int):(t.extend id dl).1.l.length≤t.l.length∧(t.extend id dl).1.heap.length≤t.heap.length+1:=by
 have g:=Xk t.heap id
 have g2:=Xj (wQ t.heap id).1 ⟨dl,id⟩
 unfold Table.extend
 repeat' split
 all_goals first|exact ⟨Nat.zero_le _,Nat.zero_le _⟩|exact ⟨by simp,by simp only;omega⟩
theorem aob (x:Hd) (now ep vis:Int) (h:s.lt k):(s.change x now ep vis).1.lt (k+1):=by
 have g:=aoa s.aP x.id (now+vis)
 unfold aj.change
 repeat' split
 all_goals first|exact lH|exact ⟨Nat.le_trans g.1 (by have:=h.1;omega),Nat.le_trans g.2 (by have:=h.2;omega)⟩
theorem XE (ep:Int):∀ (l:List ai) (s:aj) (n:Int),s.lt k→(wU ep l s n).1.lt k
 |[],s,n,h=>h
 |m::r,s,n,h=>by
  simp only [wU]
  split
  ·exact XE ep r _ _ h
  ·exact XE ep r _ _ h
theorem XF (ep:Int):∀ (l:List ai) (s:aj) (n:Int),s.lt k→(wV ep l s n).1.lt k
 |[],s,n,h=>h
 |m::r,s,n,h=>by
  have g:=Dz s.aP m.id
  simp only [wV]
  split
  ·exact XF ep r _ _ ⟨Nat.le_trans g.1 h.1,Nat.le_trans g.2 h.2⟩
  ·exact XF ep r _ _ h
theorem aoc (ep:Int) (h:s.lt k):(s.clean ep).1.lt k:=by
 unfold aj.clean
 repeat' split
 all_goals first|exact lH|exact XF _ _ _ _ (XE _ _ _ _ h)
theorem aod (n:Int) (h:s.lt k):(s.jg n).1.lt k:=by
 unfold aj.jg
 repeat' split
 all_goals first|exact lH|exact h
theorem acX (lo hi:Int):∀ (l:List ai) (s:aj),s.lt k→(AP lo hi l s).1.lt k
 |[],s,h=>h
 |m::r,s,h=>by
  simp only [AP]
  split
  ·exact lH
  ·exact acX lo hi r _ (acV _ h)
theorem acY (l:List ai) (h:s.lt k):(s.vk l).1.lt k:=by
 unfold aj.vk
 repeat' split
 all_goals first|exact lH|exact acX _ _ _ _ h
theorem XG (n ep li:Int):∀ (l:List ai) (s:aj) (out:List ai),s.lt k→(oM n ep li l s out).1.lt k
 |[],s,out,h=>h
 |m::r,s,out,h=>by
  simp only [oM]
  split
  ·split
   ·exact XG n ep li r _ _ h
   ·exact XG n ep li r _ _ h
  ·exact h
theorem XH (n ep li:Int):∀ (l:List ai) (s:aj) (out:List ai),(oM n ep li l s out).2.length≤out.length+l.length
 |[],s,out=>by simp [oM]
 |m::r,s,out=>by
  simp only [oM]
  split
  ·split
   ·have:=XH n ep li r {s with ready:=(s.ready.remove m.id).1} (out++[m])
    simp at this ⊢;omega
   ·have:=XH n ep li r s out
    simp at this ⊢;omega
  ·simp
theorem acZ (n ep li:Int) (h:s.lt k):(s.tK n ep li).1.lt k∧(s.tK n ep li).2.1.length≤12:=by
 unfold aj.tK
 repeat' split
 all_goals first|exact ⟨lH,Nat.zero_le _⟩|skip
 refine ⟨XG _ _ _ _ _ _ h,?_⟩
 have g1:=XH n ep li s.ready.list s []
 have g2:=s.ready.ug
 simp only [List.length_nil] at g1
 simp only
 omega
theorem XI:∀ (l:List ai) (s:aj),s.lt k→(tN l s).lt k
 |[],s,h=>h
 |m::r,s,h=>by
  simp only [tN]
  split
  ·exact XI r _ h
  ·exact XI r _ h
theorem XJ:∀ (l:List Lease) (k:Nat) (s:aj),s.lt k→(yS l s).lt (k+l.length)
 |[],k,s,h=>h
 |x::r,k,s,h=>by
  have g:=OO s.aP x.msg x.dl
  simp only [yS]
  split
  ·exact (XJ r (k+1) _ ⟨Nat.le_trans g.1 (by have:=h.1;omega),Nat.le_trans g.2 (by have:=h.2;omega)⟩).mono (by simp;omega)
  ·exact (XJ r k _ h).mono (by simp)
theorem XK (L:List ai) (X:List Lease) (h:s.lt k):(s.fill L X).lt (k+X.length):=XJ _ _ _ (XI _ _ h)
theorem ac0 (mid:Int) (h:s.lt k):(s.divide mid).1.lt k∧(s.divide mid).2.1.lt k:=by
 unfold aj.divide
 repeat' split
 all_goals first|exact ⟨lH,lH⟩|exact ⟨(XK _ _ (XB (k:=0) _ _ _)).mono (by have:=h.1;omega),(XK _ _ (XB (k:=0) _ _ _)).mono (by have:=h.1;omega)⟩
theorem aoe {b:aj} {m:Nat} (h:s.lt k) (hb:b.lt m):(s.yT b).1.lt (k+m):=by
 unfold aj.yT
 repeat' split
 all_goals first|exact lH|skip
 refine aj.lt.mono (k:=k+b.aP.l.length) (XK _ _ h) ?_
 have:=hb.1
 omega
end
theorem ac1 (d:Dir):∀ (l:List Span) (nx:Int),nx≤65536→mM d l nx=0→(l.length:Int)+nx≤65536
 |[],nx,h,e=>by simpa using h
 |x::r,nx,h,e=>by
  simp only [mM] at e
  split at e
  ·cases e
  ·rename_i hc
   simp at hc
   have:=ac1 d r (x.high+1) (by omega) e
   simp;omega
theorem DF {d:Dir} (h:d.val=0):d.l.length≤65536:=by
 have:=ac1 d d.l 0 (by omega) (Dir.qE h).1
 omega
theorem aof (d:Dir) (e:bT):(d.apply e).1.l.length≤d.l.length+2:=by
 unfold Dir.apply
 simp only
 repeat' split
 all_goals first|exact Nat.zero_le _|skip
 all_goals simp
 all_goals omega
structure ak.aW (a:ak):Prop where
 sh:∀ x ∈ a.slots,x.shard.lt 12
 de:a.dead.dead.l.length≤24
theorem ac2 {a:ak} (h:a.aW) (i:Nat):(iU a.slots i).shard.lt 12:=by
 unfold iU
 cases e:a.slots[i]? with
 |none=>exact lH
 |some x=>exact h.sh x (List.mem_of_getElem? e)
section
variable {a:ak} (ha:a.aW)
include ha
theorem ak.XL (c w:Int):(a.own c w).aW:=by
 unfold ak.own
 split
 ·exact ⟨ha.sh,ha.de⟩
 ·refine ⟨fun x hx=> ?_,ha.de⟩
  rcases List.mem_or_eq_of_mem_set hx with hx|rfl
  ·exact ha.sh x hx
  ·exact ac2 ha _
theorem ak.aog (c w:Int):(a.tryLock c w).2.2=0→(a.tryLock c w).1.aW:=by
 unfold ak.tryLock
 repeat' split
 all_goals (intro e;first|cases e;done|exact ha|exact ha.XL _ _|exact ak.XL ha _ _)
theorem ak.aoh (c w:Int):(a.unlock c w).2=0→(a.unlock c w).1.aW:=by
 unfold ak.unlock
 repeat' split
 all_goals (intro e;first|cases e;done|exact ha|exact ak.XL ha _ _)
theorem ak.aoi (i w:Int) (s:aj):(a.nC i w s).2=0→(a.nC i w s).1.aW:=by
 unfold ak.nC
 split
 ·rename_i h;exact fun e=>absurd e h
 ·split
  ·rename_i h;exact fun e=>absurd e h
  ·rename_i h
   split
   ·intro e;cases e
   ·refine fun _=>⟨fun x hx=> ?_,ha.de⟩
    rcases List.mem_or_eq_of_mem_set hx with hx|rfl
    ·exact ha.sh x hx
    ·exact an6 (Decidable.not_not.1 h)
theorem ak.ac3 (i w:Int) (s:aH):(a.jW i w s).2=0→(a.jW i w s).1.aW:=by
 unfold ak.jW
 split
 ·rename_i h;exact fun e=>absurd e h
 ·split
  ·intro e;cases e
  ·exact fun _=>⟨ha.sh,ha.de⟩
theorem ak.aoj (w:Int) (d:Dead):(a.nD w d).2=0→(a.nD w d).1.aW:=by
 unfold ak.nD
 split
 ·intro e;cases e
 ·split
  ·intro e;cases e
  ·split
   ·rename_i h;exact fun e=>absurd e h
   ·rename_i h
    split
    ·intro e;cases e
    ·have:=CX (show jb d.cap d.l=0 from Decidable.not_not.1 h)
     exact fun _=>⟨ha.sh,by simp only;omega⟩
theorem ak.aok (v:Int) (d:Dir):(a.qo v d).2.2=0→(a.qo v d).1.aW∧d.val=0:=by
 unfold ak.qo
 split
 ·rename_i h;exact fun e=>absurd e h
 ·rename_i h
  have h:=Decidable.not_not.1 h
  split
  ·intro e;cases e
  ·split
   ·exact fun _=>⟨ha,h⟩
   ·exact fun _=>⟨⟨ha.sh,ha.de⟩,h⟩
theorem ak.ac4 (w o x:Int):(a.nG w o x).2.2=0→(a.nG w o x).1.aW:=by
 unfold ak.nG
 repeat' split
 all_goals (intro e;first|cases e;done|exact ha|exact ⟨ha.sh,ha.de⟩)
theorem ak.XM (b:Int):(a.tick b).2=0→(a.tick b).1.aW:=by
 unfold ak.tick
 repeat' split
 all_goals (intro e;first|cases e;done|exact ha|exact ⟨ha.sh,ha.de⟩)
theorem ak.aol (i:Int):(a.lD i).1.lt 12:=by
 unfold ak.lD
 split
 ·exact lH
 ·exact ac2 ha _
theorem bf.Bq (l:bf) (task:Int):(l.step a task).2.2=0→(l.step a task).1.aW:=by
 unfold bf.step
 simp only
 split
 ·split
  ·rename_i h;exact fun e=>absurd e h
  ·rename_i h
   have h:=ak.aog ha _ _ (Decidable.not_not.1 h)
   repeat' split
   all_goals exact fun _=>h
 ·split
  ·split
   ·rename_i h;exact fun e=>absurd e h
   ·rename_i h
    have h:=ak.aoh ha _ _ (Decidable.not_not.1 h)
    repeat' split
    all_goals exact fun _=>h
  ·split
   ·exact fun _=>ha
   ·intro e;cases e
end
theorem ak.OX (s:Setup):(ak.new s).1.aW:=by
 unfold ak.new
 split
 ·exact ⟨(by intro x hx;cases hx),Nat.zero_le _⟩
 ·refine ⟨fun x hx=> ?_,Nat.zero_le _⟩
  simp only [List.mem_map] at hx
  obtain ⟨i,_,rfl⟩:=hx
  unfold Oq
  split
  ·exact XB _ _ _
  ·exact acU _
structure bG.aW (o:bG):Prop where
 os:∀ x ∈ o.shards,x.sm
 od:o.dead.l.length≤1000
 oo:o.order.length≤1000
structure ax.aW (s:ax):Prop where
 sh:∀ x ∈ s.shards,x.lt 12
 de:s.dead.l.length≤24
 di:s.dir.l.length≤65536
 o:s.out.aW
theorem bG.Bv:bG.z.aW:=⟨(by intro x hx;cases hx),Nat.zero_le _,Nat.zero_le _⟩
theorem ax.Bv:ax.z.aW:=⟨(by intro x hx;cases hx),Nat.zero_le _,Nat.zero_le _,bG.Bv⟩
theorem mr {s:ax} (h:s.aW) (i:Nat):(eH s.shards i).lt 12:=by
 unfold eH
 cases e:s.shards[i]? with
 |none=>exact lH
 |some x=>exact h.sh x (List.mem_of_getElem? e)
theorem oV {s:ax} (h:s.aW) (i:Nat):(eH s.shards i).sm:=(mr h i).sm (by omega)
theorem ac5 {o:bG} (h:o.aW) (i:Nat):(eH o.shards i).sm:=by
 unfold eH
 cases e:o.shards[i]? with
 |none=>exact lH
 |some x=>exact h.os x (List.mem_of_getElem? e)
theorem ax.OX (c:List Int) (l:Int):(ax.new c l).1.aW:=by
 unfold ax.new
 repeat' split
 all_goals first|exact ax.Bv|exact ⟨(by intro x hx;cases hx),Nat.zero_le _,Nat.zero_le _,bG.Bv⟩
theorem ax.uj {s:ax} (h:s.aW):s.bg.aW:=⟨fun x hx=>(h.sh x hx).sm (by omega),by have:=h.de;unfold ax.bg;simp only;omega,Nat.zero_le _⟩
section
variable {n:Nat} {a:ak} (ha:a.aW) {s:ax} (h:s.aW) {task:Int}
include h
theorem ax.ac6:s.jQ.1.aW:=by
 unfold ax.jQ
 split
 ·exact h
 ·exact ⟨h.sh,h.de,h.di,h.o⟩
theorem ax.XO:s.jH.1.aW:=by
 unfold ax.jH
 split
 ·exact ⟨h.sh,h.de,h.di,h.o⟩
 ·exact ax.ac6 h
theorem ax.aom {o:bG} (ho:o.aW):(s.vF o).1.aW:=by
 unfold ax.vF
 repeat' split
 all_goals first|exact ax.Bv|exact ⟨h.sh,h.de,h.di,ho⟩|exact ax.XO (s:={s with out:=o}) ⟨h.sh,h.de,h.di,ho⟩
include ha
theorem ax.aon:(s.mark a task).2.2=0→(s.mark a task).1.aW∧(s.mark a task).2.1.aW:=by
 unfold ax.mark
 simp only
 split
 ·exact fun e=>⟨ha,⟨h.sh,h.de,h.di,h.o⟩⟩
 ·split
  ·exact fun e=>⟨ha,h⟩
  ·refine fun e=>⟨ak.ac3 ha _ _ _ e,?_⟩
   split<;>exact ⟨h.sh,h.de,h.di,h.o⟩
theorem ax.aoo:(s.load a).2.2=0→(s.load a).1.aW∧(s.load a).2.1.aW:=by
 unfold ax.load
 simp only
 refine fun e=>⟨ha,?_⟩
 have hx:∀ x ∈ s.shards++[(a.lD (gI s.lock.cells s.at_.toNat)).1],x.lt 12:=by
  intro x hx
  rcases List.mem_append.1 hx with hx|hx
  ·exact h.sh x hx
  ·simp only [List.mem_singleton] at hx;subst hx;exact ak.aol ha _
 have key:∀ y:ax×Int,(if (gI s.lock.cells s.at_.toNat==(a.slots.length:Int))=true then ({s with dead:=a.dead.dead},(0:Int)) else ({s with shards:=s.shards++[(a.lD (gI s.lock.cells s.at_.toNat)).1]},(a.lD (gI s.lock.cells s.at_.toNat)).2))=y→y.1.aW:=by
  intro y hy
  split at hy
  ·subst hy;exact ⟨h.sh,ha.de,h.di,h.o⟩
  ·subst hy;exact ⟨hx,h.de,h.di,h.o⟩
 generalize hy:(if (gI s.lock.cells s.at_.toNat==(a.slots.length:Int))=true then ({s with dead:=a.dead.dead},(0:Int)) else ({s with shards:=s.shards++[(a.lD (gI s.lock.cells s.at_.toNat)).1]},(a.lD (gI s.lock.cells s.at_.toNat)).2))=y
 have hy:=key y hy
 split<;>exact ⟨hy.sh,hy.de,hy.di,hy.o⟩
theorem ax.aop:(s.store a task).2.2=0→(s.store a task).1.aW∧(s.store a task).2.1.aW:=by
 unfold ax.store
 simp only
 have hy:∀ y:ak×Int,(if (gI s.lock.cells (gI s.out.order s.at_.toNat).toNat==(a.slots.length:Int))=true then a.nD task s.out.dead else a.nC (gI s.lock.cells (gI s.out.order s.at_.toNat).toNat) task (eH s.out.shards (gI s.out.order s.at_.toNat).toNat))=y→y.2=0→y.1.aW:=by
  intro y e
  split at e
  ·subst e;exact ak.aoj ha _ _
  ·subst e;exact ak.aoi ha _ _ _
 generalize hY:(if (gI s.lock.cells (gI s.out.order s.at_.toNat).toNat==(a.slots.length:Int))=true then a.nD task s.out.dead else a.nC (gI s.lock.cells (gI s.out.order s.at_.toNat).toNat) task (eH s.out.shards (gI s.out.order s.at_.toNat).toNat))=y
 have hy:=hy y hY
 split
 ·rename_i hc;exact fun e=>absurd e hc
 ·rename_i hc
  have hy:=hy (Decidable.not_not.1 hc)
  split
  ·exact fun _=>⟨hy,⟨h.sh,h.de,h.di,h.o⟩⟩
  ·split
   ·exact fun _=>⟨hy,⟨h.sh,h.de,h.di,h.o⟩⟩
   ·exact fun _=>⟨hy,ax.XO (s:={s with at_:=s.at_+1,carry:=[]}) ⟨h.sh,h.de,h.di,h.o⟩⟩
theorem ax.aoq (hw:a.wf n):(s.nI a).2.2=0→(s.nI a).1.aW∧(s.nI a).2.1.aW:=by
 unfold ax.nI
 simp only
 split
 ·exact fun _=>⟨ha,⟨h.sh,h.de,DF hw.dv,h.o⟩⟩
 ·split
  ·rename_i hc;exact fun e=>absurd e hc
  ·split
   ·rename_i hc;exact fun e=>absurd e hc
   ·rename_i hc
    have hx:=ak.aok ha _ _ (Decidable.not_not.1 hc)
    split
    ·exact fun _=>⟨hx.1,⟨h.sh,h.de,h.di,h.o⟩⟩
    ·exact fun _=>⟨hx.1,ax.XO (s:={s with dir:=(s.dir.apply (gE s.out.dS 0)).1}) ⟨h.sh,h.de,DF hx.2,h.o⟩⟩
theorem ax.aor:(s.nJ a task).2.2=0→(s.nJ a task).1.aW∧(s.nJ a task).2.1.aW:=by
 unfold ax.nJ
 simp only
 generalize (if s.AU s.at_=true then eH s.out.shards s.at_.toNat else eH s.shards s.at_.toNat)=now
 split
 ·rename_i hc;exact fun e=>absurd e hc
 ·split
  ·rename_i hc;exact fun e=>absurd e hc
  ·rename_i hc
   have hx:=ak.ac3 ha _ _ _ (Decidable.not_not.1 hc)
   split
   ·exact fun _=>⟨hx,ax.ac6 (s:={s with at_:=s.at_+1}) ⟨h.sh,h.de,h.di,h.o⟩⟩
   ·exact fun _=>⟨hx,⟨h.sh,h.de,h.di,h.o⟩⟩
theorem ax.Bq (hw:a.wf n) (k:Int):(s.step a task k).2.2=0→(s.step a task k).1.aW∧(s.step a task k).2.1.aW:=by
 have key:(s.step0 a task k).2.2=0→(s.step0 a task k).1.aW∧(s.step0 a task k).2.1.aW:=by
  unfold ax.step0
  simp only
  split
  ·split
   ·refine fun e=>⟨bf.Bq ha _ _ e,?_⟩
    split<;>exact ⟨h.sh,h.de,h.di,h.o⟩
   ·exact fun e=>⟨bf.Bq ha _ _ e,⟨h.sh,h.de,h.di,h.o⟩⟩
  split
  ·exact ax.aon ha h
  split
  ·exact ax.aoo ha h
  split
  ·refine fun _=>⟨ha,?_⟩
   split<;>exact ⟨h.sh,h.de,h.di,h.o⟩
  split
  ·exact ax.aop ha h
  split
  ·exact ax.aoq ha h hw
  split
  ·exact ax.aor ha h
  split
  ·refine fun e=>⟨bf.Bq ha _ _ e,?_⟩
   split<;>exact ⟨h.sh,h.de,h.di,h.o⟩
  ·exact fun _=>⟨ha,h⟩
 unfold ax.step
 split
 ·rename_i hc;exact fun e=>absurd e hc
 ·rename_i hc
  exact fun _=>key (Decidable.not_not.1 hc)
end
end Go.Eng
namespace Go.Eng
open Go
structure Task.aW (t:Task):Prop where
 se:t.sec.aW
 di:t.dir.l.length≤65536
 re:(t.results.length:Int)≤t.entry
 e0:0≤t.entry
 en:t.entry<t.inv.entries
 e6:t.inv.entries≤6
 fi:t.first.length≤6
 sc:t.second.length≤6
abbrev xu (x:iH):Prop:=x.1.aW∧(x.2.1.dn=true∨x.2.1.aW)
def OY (x:iH):Prop:=x.2.2.2=0→xu x
theorem rW {c:Prop} [Decidable c] {x y:iH} (h1:OY x) (h2:OY y):OY (if c then x else y):=by
 split
 ·exact h1
 ·exact h2
theorem FX {s:ax} (h:s.aW) {x:aj} (hx:x.sm):bG.aW {s.bg with shards:=[x],order:=[0]}:=
 ⟨fun y hy=>by simp only [List.mem_singleton] at hy;subst hy;exact hx,(ax.uj h).od,by simp⟩
section
variable {n:Nat} {a:ak} (ha:a.aW) (hw:a.wf n) {t:Task} (h:t.aW) {k:Int}
section
include h
theorem Task.qI (r:aV) (k:Int):(t.next r k).dn=true∨(t.next r k).aW:=by
 have h1:=h.re
 have h2:=h.en
 have h3:=h.e0
 by_cases e:t.entry+1=t.inv.entries
 ·left;simp [Task.next,e]
 ·right
  refine ⟨ax.Bv,Nat.zero_le _,?_,?_,?_,h.e6,Nat.zero_le _,Nat.zero_le _⟩
  ·simp only [Task.next,List.length_append,List.length_cons,List.length_nil];omega
  ·simp only [Task.next];omega
  ·simp only [Task.next];omega
theorem Task.xw (c:List Int) (pc:Int):(t.fJ c pc).aW:=⟨ax.OX _ _,h.di,h.re,h.e0,h.en,h.e6,h.fi,h.sc⟩
theorem Task.xA {o:bG} (ho:o.aW):(t.dec o).aW:=⟨ax.aom h.se ho,h.di,h.re,h.e0,h.en,h.e6,h.fi,h.sc⟩
include hw
theorem Task.XP (r pc:Int):(t.look a r pc).aW:=⟨ax.OX _ _,DF hw.dv,h.re,h.e0,h.en,h.e6,h.fi,h.sc⟩
include ha
theorem Task.DI:(t.go a k).2.2.2.2=0→(t.go a k).1.aW∧(t.go a k).2.1.aW:=by
 unfold Task.go
 simp only
 split
 ·rename_i hc;exact fun e=>absurd e hc
 ·rename_i hc
  have g:=ax.Bq ha h.se hw _ (Decidable.not_not.1 hc)
  exact fun _=>⟨g.1,⟨g.2,h.di,h.re,h.e0,h.en,h.e6,h.fi,h.sc⟩⟩
end
section
include h
theorem aos:(nK t).1.aW:=by
 unfold nK
 simp only
 repeat' split
 all_goals dsimp only
 all_goals first
  |(apply Task.xA;exact ⟨h.se,h.di,h.re,h.e0,h.en,h.e6,h.fi,h.sc⟩;exact ax.uj h.se)
  |(apply Task.xA;exact ⟨h.se,h.di,h.re,h.e0,h.en,h.e6,h.fi,h.sc⟩;exact FX h.se ((acV _ (mr h.se 0)).sm (by omega)))
theorem aot {t':Task} (e:t'.sec=t.sec):(lF t').1.sm:=by
 unfold lF
 simp only
 rw [e]
 exact (an7 _ _ _ _ _ (XD _ _ _ (mr h.se 0))).sm (by omega)
theorem aou:(kN t).1.aW:=by
 unfold kN
 simp only
 repeat' split
 all_goals dsimp only
 all_goals first
  |(apply Task.xA;exact ⟨h.se,h.di,h.re,h.e0,h.en,h.e6,h.fi,h.sc⟩;exact ax.uj h.se)
  |(apply Task.xA;exact ⟨h.se,h.di,h.re,h.e0,h.en,h.e6,h.fi,h.sc⟩;exact FX h.se (aot h rfl))
theorem aov:(settle t).1.sm:=by
 have g:=mr h.se 0
 unfold settle
 simp only
 repeat' split
 ·exact (an8 _ _ _ g).sm (by omega)
 ·exact (an9 _ _ _ _ g).sm (by omega)
 ·exact (aob _ _ _ _ g).sm (by omega)
theorem aow:(nM t).1.aW:=by
 unfold nM
 simp only
 repeat' split
 all_goals dsimp only
 all_goals first
  |(apply Task.xA;exact h;exact ax.uj h.se)
  |(apply Task.xA;exact h;exact FX h.se (aov h))
theorem aox (d:Dead) (k ep:Int):(d.take k ep).1.l.length≤d.l.length∧(d.take k ep).2.1.length≤d.l.length:=by
 have:=WI k ep d.l
 unfold Dead.take
 repeat' split
 all_goals first|exact ⟨Nat.zero_le _,Nat.zero_le _⟩|exact ⟨by simp only;omega,by simp only;omega⟩
theorem aoy:(nP t).1.aW:=by
 have hd:=h.se.de
 unfold nP
 simp only
 repeat' split
 all_goals dsimp only
 all_goals first
  |(apply Task.xA;exact h;exact ax.uj h.se)
  |skip
 have g:=(aox h t.sec.dead (wZ t) t.sec.aG.epoch).1
 refine Task.xA h ⟨fun y hy=> ?_,by simp only;omega,by simp⟩
 simp only [List.mem_singleton] at hy;subst hy
 exact (acY _ (mr h.se 0)).sm (by omega)
theorem XQ {x y:aj} (hx:x.sm) (hy:y.sm):∀ z ∈ placed t x y,z.sm:=by
 intro z hz
 unfold placed at hz
 split at hz<;>simp at hz<;>rcases hz with rfl|rfl<;>assumption
theorem XR:(jm t).length≤1000:=by unfold jm;split<;>simp
theorem XT:t.sec.dead.l.length≤1000:=by have:=h.se.de;omega
theorem XU:(tX t).1.aW:=by
 unfold tX
 simp only
 repeat' split
 all_goals first|exact ax.uj h.se|skip
 exact ⟨XQ h ((aod _ (mr h.se _)).sm (by omega)) ((acY _ (mr h.se _)).sm (by omega)),XT h,XR h⟩
theorem XV:(tY t).1.aW:=by
 unfold tY
 simp only
 repeat' split
 all_goals first|exact ax.uj h.se|skip
 have g:=ac0 ((IntKind.i64.wrap ((kP t).low+(kP t).high)).tdiv 2) (mr h.se (if t.inv.bC<t.inv.to then 0 else 1))
 exact ⟨XQ h (g.1.sm (by omega)) (g.2.sm (by omega)),XT h,XR h⟩
theorem XW:(tZ t).1.aW:=by
 unfold tZ
 simp only
 repeat' split
 all_goals first|exact ax.uj h.se|skip
 exact ⟨XQ h ((acU (k:=0) _).sm (by omega)) ((aoe (mr h.se _) (mr h.se _)).sm (by omega)),XT h,XR h⟩
theorem aoz (d:Dead) (ep:Int):(d.clean ep).1.l.length≤d.l.length:=by
 unfold Dead.clean
 repeat' split
 all_goals first|exact Nat.zero_le _|exact List.length_filter_le _ _
theorem XY:(qB t).1.aW:=by
 have hd:=h.se.de
 unfold qB
 simp only
 repeat' split
 all_goals first
  |exact ax.uj h.se
  |exact FX h.se ((aoc _ (mr h.se 0)).sm (by omega))
  |exact FX h.se ((XD _ _ _ (mr h.se 0)).sm (by omega))
  |(have g:=aoz h t.sec.dead t.sec.aG.epoch;exact ⟨(ax.uj h.se).os,by simp only;omega,by simp⟩)
theorem aoA (d:Dead) (l:List ai):(d.put l).1.l.length≤d.l.length+l.length:=by
 unfold Dead.put
 repeat' split
 all_goals simp [Dead.z]
theorem XZ:(qC t).1.aW:=by
 have hd:=h.se.de
 unfold qC
 simp only
 repeat' split
 all_goals first|exact ax.uj h.se|skip
 have g:=acZ t.sec.dead.room t.sec.aG.epoch t.setup.limit (mr h.se 0)
 have g2:=aoA h t.sec.dead ((eH t.sec.shards 0).tK t.sec.dead.room t.sec.aG.epoch t.setup.limit).2.1
 refine ⟨fun y hy=> ?_,by simp only;omega,by simp⟩
 simp only [List.mem_singleton] at hy;subst hy
 exact g.1.sm (by omega)
end
section
include ha hw h
theorem aoB:(qp a t k).2.2.2=0→xu (qp a t k):=by
 unfold qp
 simp only
 split
 ·rename_i hc;exact fun e=>absurd e hc
 split
 ·split
  ·exact fun _=>⟨ha,Task.qI (t:={t with loaded:=a.fQ}) ⟨h.se,h.di,h.re,h.e0,h.en,h.e6,h.fi,h.sc⟩ _ _⟩
  ·exact fun _=>⟨ha,.inr ⟨h.se,h.di,h.re,h.e0,h.en,h.e6,h.fi,h.sc⟩⟩
 split
 ·split
  ·rename_i hc;exact fun e=>absurd e hc
  ·rename_i hc
   have g:=ak.ac4 ha _ _ _ (Decidable.not_not.1 hc)
   split<;>exact fun _=>⟨g,.inr ⟨h.se,h.di,h.re,h.e0,h.en,h.e6,h.fi,h.sc⟩⟩
 split
 ·exact fun _=>⟨ha,.inr (Task.XP hw h _ _)⟩
 split
 ·rename_i hc;exact fun e=>absurd e hc
 rename_i hc
 obtain ⟨g1,g2⟩:=Task.DI ha hw h (Decidable.not_not.1 hc)
 split
 ·exact fun _=>⟨g1,.inr (aos g2)⟩
 split
 ·exact fun _=>⟨g1,.inr g2⟩
 split
 ·exact fun _=>⟨g1,Task.qI g2 _ _⟩
 split
 ·exact fun _=>⟨g1,Task.qI g2 _ _⟩
 ·exact fun _=>⟨g1,.inr ⟨g2.se,g2.di,g2.re,g2.e0,g2.en,g2.e6,g2.fi,g2.sc⟩⟩
theorem aoC:(qw a t k).2.2.2=0→xu (qw a t k):=by
 unfold qw
 simp only
 split
 ·rename_i hc;exact fun e=>absurd e hc
 split
 ·exact fun _=>⟨ha,.inr (by apply Task.xw;exact ⟨h.se,DF hw.dv,h.re,h.e0,h.en,h.e6,h.fi,h.sc⟩)⟩
 split
 ·exact fun _=>⟨ha,.inr (Task.XP hw h _ _)⟩
 split
 ·rename_i hc;exact fun e=>absurd e hc
 rename_i hc
 obtain ⟨g1,g2⟩:=Task.DI ha hw h (Decidable.not_not.1 hc)
 split
 ·exact fun _=>⟨g1,.inr (aou g2)⟩
 split
 ·exact fun _=>⟨g1,.inr g2⟩
 split
 ·exact fun _=>⟨g1,Task.qI g2 _ _⟩
 split
 ·exact fun _=>⟨g1,Task.qI g2 _ _⟩
 split
 ·exact fun _=>⟨g1,Task.qI g2 _ _⟩
 ·exact fun _=>⟨g1,.inr ⟨g2.se,g2.di,g2.re,g2.e0,g2.en,g2.e6,g2.fi,g2.sc⟩⟩
theorem aoD:(nO a t k).2.2.2=0→xu (nO a t k):=by
 unfold nO
 simp only
 split
 ·rename_i hc;exact fun e=>absurd e hc
 split
 ·split
  ·exact fun _=>⟨ha,Task.qI h _ _⟩
  ·refine fun _=>⟨ha,.inr ?_⟩
   split
   ·apply Task.xw;exact ⟨h.se,h.di,h.re,h.e0,h.en,h.e6,h.fi,h.sc⟩
   ·exact ⟨h.se,h.di,h.re,h.e0,h.en,h.e6,h.fi,h.sc⟩
 split
 ·exact fun _=>⟨ha,.inr (Task.XP hw h _ _)⟩
 split
 ·rename_i hc;exact fun e=>absurd e hc
 rename_i hc
 obtain ⟨g1,g2⟩:=Task.DI ha hw h (Decidable.not_not.1 hc)
 split
 ·exact fun _=>⟨g1,.inr (aow g2)⟩
 split
 ·exact fun _=>⟨g1,.inr g2⟩
 split
 ·exact fun _=>⟨g1,.inr ⟨g2.se,g2.di,g2.re,g2.e0,g2.en,g2.e6,g2.fi,g2.sc⟩⟩
 ·exact fun _=>⟨g1,Task.qI g2 _ _⟩
theorem aoE:(qx a t k).2.2.2=0→xu (qx a t k):=by
 unfold qx
 simp only
 split
 ·rename_i hc;exact fun e=>absurd e hc
 split
 ·split
  ·exact fun _=>⟨ha,Task.qI (t:={t with loaded:=a.epoch}) ⟨h.se,h.di,h.re,h.e0,h.en,h.e6,h.fi,h.sc⟩ _ _⟩
  ·exact fun _=>⟨ha,.inr ⟨h.se,h.di,h.re,h.e0,h.en,h.e6,h.fi,h.sc⟩⟩
 split
 ·rename_i hc;exact fun e=>absurd e hc
 rename_i hc
 have g:=ak.ac4 ha _ _ _ (Decidable.not_not.1 hc)
 split
 ·exact fun _=>⟨g,.inr ⟨h.se,h.di,h.re,h.e0,h.en,h.e6,h.fi,h.sc⟩⟩
 ·exact fun _=>⟨g,Task.qI h _ _⟩
omit h ha in
theorem ac7 {i:Nat} (e:(a.rP i).2=0):i<6:=by
 have h6:=hw.n6
 unfold ak.rP at e
 split at e
 ·cases e
 ·rename_i hc
  simp [ak.slot,hw.sl] at hc
  omega
theorem aoF:(qy a t k).2.2.2=0→xu (qy a t k):=by
 unfold qy
 simp only
 split
 ·rename_i hc;exact fun e=>absurd e hc
 split
 ·exact fun _=>⟨ha,.inr ⟨h.se,h.di,h.re,h.e0,h.en,h.e6,Nat.zero_le _,Nat.zero_le _⟩⟩
 split
 ·split
  ·rename_i hc;exact fun e=>absurd e hc
  ·rename_i hc
   have g:=ac7 hw (Decidable.not_not.1 hc)
   refine fun _=>⟨ha,.inr ?_⟩
   split<;>exact ⟨h.se,h.di,h.re,h.e0,h.en,h.e6,by simp only [List.length_append,List.length_cons,List.length_nil];omega,h.sc⟩
 split
 ·split
  ·rename_i hc;exact fun e=>absurd e hc
  ·rename_i hc
   have g:=ac7 hw (Decidable.not_not.1 hc)
   refine fun _=>⟨ha,.inr ?_⟩
   split<;>exact ⟨h.se,h.di,h.re,h.e0,h.en,h.e6,h.fi,by simp only [List.length_append,List.length_cons,List.length_nil];omega⟩
 split
 ·exact fun _=>⟨ha,.inr ⟨h.se,h.di,h.re,h.e0,h.en,h.e6,h.fi,h.sc⟩⟩
 ·exact fun _=>⟨ha,Task.qI h _ _⟩
theorem aoG:(qA a t k).2.2.2=0→xu (qA a t k):=by
 unfold qA
 simp only
 split
 ·rename_i hc;exact fun e=>absurd e hc
 split
 ·exact fun _=>⟨ha,.inr (by apply Task.xw;exact ⟨h.se,DF hw.dv,h.re,h.e0,h.en,h.e6,h.fi,h.sc⟩)⟩
 split
 ·rename_i hc;exact fun e=>absurd e hc
 rename_i hc
 obtain ⟨g1,g2⟩:=Task.DI ha hw h (Decidable.not_not.1 hc)
 split
 ·exact fun _=>⟨g1,.inr (aoy g2)⟩
 split
 ·exact fun _=>⟨g1,.inr g2⟩
 split
 ·exact fun _=>⟨g1,.inr ⟨g2.se,g2.di,g2.re,g2.e0,g2.en,g2.e6,g2.fi,g2.sc⟩⟩
 ·exact fun _=>⟨g1,Task.qI g2 _ _⟩
theorem FY {plan:Task→tV} (lo hi:Int) (cells:Task→List Int) (hp:∀ t':Task,t'.aW→(plan t').1.aW):(jX plan lo hi cells a t k).2.2.2=0→xu (jX plan lo hi cells a t k):=by
 unfold jX
 dsimp only
 split
 ·rename_i hc;exact fun e=>absurd e hc
 have h1:(if (t.pc==0)=true then t.fJ (cells t) 1 else t).aW:=by
  split
  ·exact Task.xw h _ _
  ·exact h
 generalize (if (t.pc==0)=true then t.fJ (cells t) 1 else t)=t1 at h1 ⊢
 split
 ·rename_i hc;exact fun e=>absurd e hc
 rename_i hc
 obtain ⟨g1,g2⟩:=Task.DI ha hw h1 (Decidable.not_not.1 hc)
 split
 ·exact fun _=>⟨g1,.inr (Task.xA g2 (hp _ g2))⟩
 split
 ·exact fun _=>⟨g1,.inr g2⟩
 ·exact fun _=>⟨g1,Task.qI g2 _ _⟩
theorem aoH:(fK a t k).2.2.2=0→xu (fK a t k):=by
 suffices q:OY (fK a t k) from q
 unfold fK
 refine rW (fun e=>by cases e) ?_
 refine rW (aoB ha hw h) ?_
 refine rW (aoC ha hw h) ?_
 refine rW (aoD ha hw h) ?_
 refine rW (aoE ha hw h) ?_
 refine rW (aoF ha hw h) ?_
 refine rW (aoG ha hw h) ?_
 refine rW (FY ha hw h _ _ _ fun _=>XU) ?_
 refine rW (FY ha hw h _ _ _ fun _=>XV) ?_
 refine rW (FY ha hw h _ _ _ fun _=>XW) ?_
 refine rW (FY ha hw h _ _ _ fun _=>XY) ?_
 exact rW (FY ha hw h _ _ _ fun _=>XZ) (fun e=>by cases e)
end
end
structure aK.aW (w:aK):Prop where
 ar:w.arena.aW
 tk:∀ t ∈ w.tasks,t.dn=true∨t.aW
theorem bV.aoI {i:bV} {u:Setup} (h:i.val u=0):i.entries≤6:=by
 unfold bV.val at h
 unfold bV.entries
 simp only [beq_iff_eq,Bool.or_eq_true,decide_eq_true_eq] at h ⊢
 split
 ·rename_i h1
  rw [if_pos h1] at h
  split at h
  ·cases h
  ·omega
 ·rename_i h1
  rw [if_neg h1] at h
  split
  ·rename_i h3
   rw [if_neg (by omega),if_pos h3] at h
   split at h
   ·cases h
   ·omega
  ·omega
theorem Task.aoJ {num k:Int} {i:bV} {u:Setup} (e:(Task.start num i u k).2=0):(Task.start num i u k).1.aW:=by
 unfold Task.start at e ⊢
 split
 ·rename_i hc;rw [if_pos hc] at e;cases e
 rename_i hc;rw [if_neg hc] at e
 split
 ·rename_i hc;rw [if_pos hc] at e;exact absurd e hc
 rename_i hc;rw [if_neg hc] at e
 split
 ·rename_i hc;rw [if_pos hc] at e;exact absurd e hc
 rename_i hc
 have hv:=Decidable.not_not.1 hc
 exact ⟨ax.Bv,Nat.zero_le _,by simp,by simp,bV.ab5 hv,bV.aoI hv,Nat.zero_le _,Nat.zero_le _⟩
section
variable {n m:Nat} {w:aK} (h:w.wf n m) (hl:w.aW)
include h hl
theorem aK.Bq {i:Nat} (hi:i<w.tasks.length) (hd:(gT w.tasks i).dn=false) (e:(w.step i).2=0):(w.step i).1.aW:=by
 have ht:=(hl.tk _ (Xc hi)).resolve_left (by simp [hd])
 unfold aK.step at e ⊢
 simp only at e ⊢
 split
 ·rename_i hc;rw [if_pos hc] at e;exact absurd e hc
 ·rename_i hc
  have hs:=aoH hl.ar h.ar ht (Decidable.not_not.1 hc)
  refine ⟨hs.1,fun t hx=> ?_⟩
  rcases List.mem_or_eq_of_mem_set hx with hx|rfl
  ·exact hl.tk t hx
  ·exact hs.2
theorem aK.ac8 {k:Int} (e:(w.pick k).2=0):(w.pick k).1.aW:=by
 unfold aK.pick at e ⊢
 split
 ·rename_i hc;rw [if_pos hc] at e;cases e
 ·rename_i hc;rw [if_neg hc] at e
  simp at hc
  have hx:gI w.opn k.toNat ∈ w.opn:=by
   unfold gI;rw [List.getElem?_eq_getElem (by omega)];exact List.getElem_mem _
  obtain ⟨j,h1,h2,h3⟩:=Oz w.tasks 0 _ hx
  have hj:(gI w.opn k.toNat).toNat=j:=by rw [h1];omega
  rw [hj] at e ⊢
  exact aK.Bq h hl h2 h3 e
theorem aK.XM {b:Int} (e:(w.tick b).2=0):(w.tick b).1.aW:=by
 unfold aK.tick at e ⊢
 split
 ·rename_i hc;rw [if_pos hc] at e;exact absurd e hc
 ·rename_i hc
  exact ⟨ak.XM hl.ar _ (Decidable.not_not.1 hc),hl.tk⟩
theorem aK.aoK {i:bV} (e:(w.invoke i).2.2=0):(w.invoke i).1.aW:=by
 unfold aK.invoke at e ⊢
 split
 ·rename_i hc;rw [if_pos hc] at e;cases e
 rename_i hc;rw [if_neg hc] at e
 simp only at e ⊢
 split
 ·rename_i hc;rw [if_pos hc] at e;exact absurd e hc
 rename_i hd
 refine ⟨hl.ar,fun t hx=> ?_⟩
 rcases List.mem_append.1 hx with hx|hx
 ·exact hl.tk t hx
 ·simp only [List.mem_singleton] at hx;subst hx;exact .inr (Task.aoJ (Decidable.not_not.1 hd))
end
end Go.Eng
namespace Go.Eng
open Go Go.Proofs
theorem aoL (a:ak) (s:dG) (n:Int):Fn Tryz.prog 514 [.agg a.enc,.agg s.enc,I n] [] (.aF [.agg (dG.step a s n).1.enc,I (dG.step a s n).2]) [] []:=by
 generalize hR:dG.step a s n=R
 unfold dG.step at hR
 refine Fn.aN akx (by simp) ?_
 unfold Vu SC.mk' ak.enc dG.enc
 simp only [go_sem]
 have aI:=Bj a 1
 have aU:=Bj a 2
 have hJ:=trivial
 repeat' first
  |(first|refine sC ?_|refine sD ?_);simp only [hJ,go_sem]
  |(first|refine bF (fun hq=> ?_) (fun hq=> ?_)|refine dY (fun hq=> ?_) (fun hq=> ?_)|refine dL (fun hq=> ?_) (fun hq=> ?_))<;>simp only [hq,hJ,go_sem]
  |refine sM ?_;simp only [ay,rv,au,get,hJ,go_sem]
  |refine bn ?_
  |fail
 all_goals clear aI aU hJ
 all_goals (subst hR;simp_all [dG.enc,ak.load,rv,au])
theorem ac9 (r:Int):Fn Tryz.prog 346 [I r] [] (.aF [.agg (Walk.begin r).1.enc,I (Walk.begin r).2]) [] []:=by
 generalize hR:Walk.begin r=R
 unfold Walk.begin at hR
 refine Fn.aN aiZ (by simp) ?_
 unfold Ti SC.mk'
 simp only [go_sem]
 exact aX
theorem vK (w:Walk) (l h:Int):Fn Tryz.prog 411 [.agg w.enc,I l,I h] [] (.aF [.agg (w.oN l h).1.enc,I (w.oN l h).2]) [] []:=by
 generalize hR:w.oN l h=R
 unfold Walk.oN at hR
 refine Fn.aN ajo (by simp) ?_
 unfold Ua SC.mk' Walk.enc
 simp only [go_sem]
 by_cases h0:l<0∨w.next<l∨h<w.next∨65536≤h∨w.covered<0∨65536≤w.covered
 ·rw [if_pos (by simpa using h0)] at hR
  exact aX
 rw [if_neg (by simpa using h0)] at hR
 have t1:=Int.tmod_nonneg 65536 (show 0≤h+1 by omega)
 have t2:=Int.tmod_lt_of_pos (h+1) (show (0:Int)<65536 by omega)
 have w1:IntKind.i64.wrap (h+1)=h+1:=bH (by omega)
 have w2:IntKind.i64.wrap ((h+1).tmod 65536)=(h+1).tmod 65536:=bH (by omega)
 have w3:IntKind.i64.wrap (w.covered+h)=w.covered+h:=bH (by omega)
 have w4:IntKind.i64.wrap (w.covered+h - w.next)=w.covered+h - w.next:=bH (by omega)
 have w5:IntKind.i64.wrap (w.covered+h - w.next+1)=w.covered+h - w.next+1:=bH (by omega)
 have hJ:=ah w1 (ah w2 (ah w3 (ah w4 w5)))
 exact aZ
theorem jY (w:Walk):Fn Tryz.prog 412 [.agg w.enc] [] (Bo w.over) [] []:=by
 refine Fn.aN ajp (by simp) ?_
 unfold Ub SC.mk' Walk.enc
 simp only [go_sem]
 have hJ:=trivial
 repeat' first
  |(first|refine sC ?_|refine sD ?_);simp only [hJ,go_sem]
  |(first|refine bF (fun hq=> ?_) (fun hq=> ?_)|refine dY (fun hq=> ?_) (fun hq=> ?_)|refine dL (fun hq=> ?_) (fun hq=> ?_))<;>simp only [hq,hJ,go_sem]
  |refine sM ?_;simp only [ay,rv,au,get,hJ,go_sem]
  |refine bn ?_
  |fail
 all_goals clear hJ
 all_goals simp_all [Walk.over,-Int.not_lt,-Int.not_le]
end Go.Eng
