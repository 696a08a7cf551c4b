/-
  Part of a proof: lemmas and definitions of this work.
  No condition.
-/
import Derived.Test.YtmfankbjapjjiaaGreatA08
import Derived.Test.YtmfankbjapjjiaaGreatA22
set_option linter.all false
set_option maxRecDepth 100000
set_option maxHeartbeats 8000000
namespace Go.Eng
open Go
def ak.lt (k:Nat) (s:ak):Prop:=s.aR.l.length<=k/\s.aR.heap.length<=k
theorem ak.lt.mono {k k':Nat} {s:ak} (h:s.lt k) (hk:k<=k'):s.lt k':=⟨Nat.le_trans h.1 hk,Nat.le_trans h.2 hk⟩
theorem ak.lt.sm {k:Nat} {s:ak} (h:s.lt k) (hk:k<=800):s.sm:=h.mono hk
theorem kI {k:Nat}:ak.z.lt k:=⟨Nat.zero_le _,Nat.zero_le _⟩
theorem am0 {s:ak} (h:s.val=0):s.lt 12:=by
 have h3:=Table.val_zero (oO h).2
 exact ⟨by omega,by omega⟩
section
variable {k:Nat} {s:ak}
theorem WO (c l h:Int):(ak.new c l h).1.lt k:=by
 unfold ak.new
 repeat' split
 all_goals exact ⟨Nat.zero_le _,Nat.zero_le _⟩
theorem adA (c:Int):(ak.free c).1.lt k:=by
 unfold ak.free
 repeat' split
 all_goals exact ⟨Nat.zero_le _,Nat.zero_le _⟩
theorem adB (m:ai) (h:s.lt k):(s.put m).1.lt k:=by
 unfold ak.put
 repeat' split
 all_goals first|exact kI|exact h
theorem WQ (mx dl ep li:Int):∀ (l:List ai) (k:Nat) (s:ak) (out:List Lease),s.lt k->(oF mx dl ep li l s out).1.lt (k+l.length)
 |[],k,s,out,h=>h
 |m::r,k,s,out,h=>by
  simp only [oF]
  split
  ·split
   ·have g:=NG s.aR m.jU.1 dl
    refine (WQ mx dl ep li r (k+1) _ _ ⟨Nat.le_trans g.1 (by have:=h.1;omega),Nat.le_trans g.2 (by have:=h.2;omega)⟩).mono (by simp;omega)
   ·exact (WQ mx dl ep li r k _ _ h).mono (by simp)
  ·exact h.mono (by simp)
theorem am1 (mx now bC ep li:Int) (h:s.lt k):(s.take mx now bC ep li).1.lt (k+12):=by
 unfold ak.take
 repeat' split
 all_goals first|exact kI|skip
 exact (WQ _ _ _ _ _ k s [] h).mono (by have:=s.ready.rA;omega)
theorem adC:∀ (l:List Int) (s:ak),s.lt k->(yQ l s).lt k
 |[],s,h=>h
 |id::r,s,h=>by
  simp only [yQ]
  have g:=DW s.aR id
  exact adC r _ ⟨Nat.le_trans g.1 h.1,Nat.le_trans g.2 h.2⟩
theorem WR (now ep li:Int) (h:s.lt k):(s.expire now ep li).1.lt k:=by
 unfold ak.expire
 repeat' split
 all_goals first|exact kI|exact adC _ _ h
theorem am2 (x:Hd) (now ep:Int) (h:s.lt k):(s.yO x now ep).1.lt k:=by
 have g:=DW s.aR x.id
 unfold ak.yO
 repeat' split
 all_goals first|exact kI|exact ⟨Nat.le_trans g.1 h.1,Nat.le_trans g.2 h.2⟩
theorem am3 (x:Hd) (now ep li:Int) (h:s.lt k):(s.yP x now ep li).1.lt k:=by
 have g:=DW s.aR x.id
 unfold ak.yP
 by_cases h1:s.held x now ep (kE li)≠0
 ·rw [if_pos h1];exact kI
 ·rw [if_neg h1];exact ⟨Nat.le_trans g.1 h.1,Nat.le_trans g.2 h.2⟩
theorem am4 (t:Table) (id dl:Int):(t.extend id dl).1.l.length<=t.l.length/\(t.extend id dl).1.heap.length<=t.heap.length+1:=by
 have g:=Wv t.heap id
 have g2:=Wu (uM t.heap id).1 ⟨dl,id⟩
 unfold Table.extend
 repeat' split
 all_goals first|exact ⟨Nat.zero_le _,Nat.zero_le _⟩|exact ⟨by simp,by simp only;omega⟩
theorem am5 (x:Hd) (now ep bC:Int) (h:s.lt k):(s.change x now ep bC).1.lt (k+1):=by
 have g:=am4 s.aR x.id (now+bC)
 unfold ak.change
 repeat' split
 all_goals first|exact kI|exact ⟨Nat.le_trans g.1 (by have:=h.1;omega),Nat.le_trans g.2 (by have:=h.2;omega)⟩
theorem WS (ep:Int):∀ (l:List ai) (s:ak) (n:Int),s.lt k->(uP ep l s n).1.lt k
 |[],s,n,h=>h
 |m::r,s,n,h=>by
  simp only [uP]
  split
  ·exact WS ep r _ _ h
  ·exact WS ep r _ _ h
theorem WT (ep:Int):∀ (l:List ai) (s:ak) (n:Int),s.lt k->(uQ ep l s n).1.lt k
 |[],s,n,h=>h
 |m::r,s,n,h=>by
  have g:=DW s.aR m.id
  simp only [uQ]
  split
  ·exact WT ep r _ _ ⟨Nat.le_trans g.1 h.1,Nat.le_trans g.2 h.2⟩
  ·exact WT ep r _ _ h
theorem am6 (ep:Int) (h:s.lt k):(s.clean ep).1.lt k:=by
 unfold ak.clean
 repeat' split
 all_goals first|exact kI|exact WT _ _ _ _ (WS _ _ _ _ h)
theorem am7 (n:Int) (h:s.lt k):(s.iG n).1.lt k:=by
 unfold ak.iG
 repeat' split
 all_goals first|exact kI|exact h
theorem adD (lo hi:Int):∀ (l:List ai) (s:ak),s.lt k->(yR lo hi l s).1.lt k
 |[],s,h=>h
 |m::r,s,h=>by
  simp only [yR]
  split
  ·exact kI
  ·exact adD lo hi r _ (adB _ h)
theorem adE (l:List ai) (h:s.lt k):(s.sP l).1.lt k:=by
 unfold ak.sP
 repeat' split
 all_goals first|exact kI|exact adD _ _ _ _ h
theorem WU (n ep li:Int):∀ (l:List ai) (s:ak) (out:List ai),s.lt k->(ni n ep li l s out).1.lt k
 |[],s,out,h=>h
 |m::r,s,out,h=>by
  simp only [ni]
  split
  ·split
   ·exact WU n ep li r _ _ h
   ·exact WU n ep li r _ _ h
  ·exact h
theorem WV (n ep li:Int):∀ (l:List ai) (s:ak) (out:List ai),(ni n ep li l s out).2.length<=out.length+l.length
 |[],s,out=>by simp [ni]
 |m::r,s,out=>by
  simp only [ni]
  split
  ·split
   ·have:=WV n ep li r {s with ready:=(s.ready.remove m.id).1} (out++[m])
    simp at this ⊢;omega
   ·have:=WV n ep li r s out
    simp at this ⊢;omega
  ·simp
theorem adF (n ep li:Int) (h:s.lt k):(s.qX n ep li).1.lt k/\(s.qX n ep li).2.1.length<=12:=by
 unfold ak.qX
 repeat' split
 all_goals first|exact ⟨kI,Nat.zero_le _⟩|skip
 refine ⟨WU _ _ _ _ _ _ h,?_⟩
 have g1:=WV n ep li s.ready.list s []
 have g2:=s.ready.rA
 simp only [List.length_nil] at g1
 simp only
 omega
theorem WW:∀ (l:List ai) (s:ak),s.lt k->(qY l s).lt k
 |[],s,h=>h
 |m::r,s,h=>by
  simp only [qY]
  split
  ·exact WW r _ h
  ·exact WW r _ h
theorem WX:∀ (l:List Lease) (k:Nat) (s:ak),s.lt k->(wU l s).lt (k+l.length)
 |[],k,s,h=>h
 |x::r,k,s,h=>by
  have g:=NG s.aR x.msg x.dl
  simp only [wU]
  split
  ·exact (WX r (k+1) _ ⟨Nat.le_trans g.1 (by have:=h.1;omega),Nat.le_trans g.2 (by have:=h.2;omega)⟩).mono (by simp;omega)
  ·exact (WX r k _ h).mono (by simp)
theorem WY (L:List ai) (X:List Lease) (h:s.lt k):(s.fill L X).lt (k+X.length):=WX _ _ _ (WW _ _ h)
theorem adG (mid:Int) (h:s.lt k):(s.divide mid).1.lt k/\(s.divide mid).2.1.lt k:=by
 unfold ak.divide
 repeat' split
 all_goals first|exact ⟨kI,kI⟩|exact ⟨(WY _ _ (WO (k:=0) _ _ _)).mono (by have:=h.1;omega),(WY _ _ (WO (k:=0) _ _ _)).mono (by have:=h.1;omega)⟩
theorem am8 {b:ak} {m:Nat} (h:s.lt k) (hb:b.lt m):(s.wV b).1.lt (k+m):=by
 unfold ak.wV
 repeat' split
 all_goals first|exact kI|skip
 refine ak.lt.mono (k:=k+b.aR.l.length) (WY _ _ h) ?_
 have:=hb.1
 omega
end
theorem adH (d:Dir):∀ (l:List Span) (nx:Int),nx<=65536->lJ d l nx=0->(l.length:Int)+nx<=65536
 |[],nx,h,e=>by simpa using h
 |x::r,nx,h,e=>by
  simp only [lJ] at e
  split at e
  ·cases e
  ·rename_i hc
   simp at hc
   have:=adH d r (x.high+1) (by omega) e
   simp;omega
theorem DY {d:Dir} (h:d.val=0):d.l.length<=65536:=by
 have:=adH d d.l 0 (by omega) (Dir.oO h).1
 omega
theorem am9 (d:Dir) (e:bN):(d.apply e).1.l.length<=d.l.length+2:=by
 unfold Dir.apply
 simp only
 repeat' split
 all_goals first|exact Nat.zero_le _|skip
 all_goals simp
 all_goals omega
structure aj.bf (a:aj):Prop where
 sh:∀ x ∈ a.slots,x.eU.lt 12
 de:a.dead.dead.l.length<=24
theorem adI {a:aj} (h:a.bf) (i:Nat):(gX a.slots i).eU.lt 12:=by
 unfold gX
 cases e:a.slots[i]? with
 |none=>exact kI
 |some x=>exact h.sh x (List.mem_of_getElem? e)
section
variable {a:aj} (ha:a.bf)
include ha
theorem aj.WZ (c w:Int):(a.own c w).bf:=by
 unfold aj.own
 split
 ·exact ⟨ha.sh,ha.de⟩
 ·refine ⟨fun x hx=> ?_,ha.de⟩
  rcases List.mem_or_eq_of_mem_set hx with hx|rfl
  ·exact ha.sh x hx
  ·exact adI ha _
theorem aj.ana (c w:Int):(a.tryLock c w).2.2=0->(a.tryLock c w).1.bf:=by
 unfold aj.tryLock
 repeat' split
 all_goals (intro e;first|cases e;done|exact ha|exact ha.WZ _ _|exact aj.WZ ha _ _)
theorem aj.anb (c w:Int):(a.unlock c w).2=0->(a.unlock c w).1.bf:=by
 unfold aj.unlock
 repeat' split
 all_goals (intro e;first|cases e;done|exact ha|exact aj.WZ ha _ _)
theorem aj.anc (i w:Int) (s:ak):(a.l6 i w s).2=0->(a.l6 i w s).1.bf:=by
 unfold aj.l6
 split
 ·rename_i h;exact fun e=>absurd e h
 ·split
  ·rename_i h;exact fun e=>absurd e h
  ·rename_i h
   split
   ·intro e;cases e
   ·refine fun _=>⟨fun x hx=> ?_,ha.de⟩
    rcases List.mem_or_eq_of_mem_set hx with hx|rfl
    ·exact ha.sh x hx
    ·exact am0 (Decidable.not_not.1 h)
theorem aj.adJ (i w:Int) (s:aI):(a.jE i w s).2=0->(a.jE i w s).1.bf:=by
 unfold aj.jE
 split
 ·rename_i h;exact fun e=>absurd e h
 ·split
  ·intro e;cases e
  ·exact fun _=>⟨ha.sh,ha.de⟩
theorem aj.ane (w:Int) (d:Dead):(a.l7 w d).2=0->(a.l7 w d).1.bf:=by
 unfold aj.l7
 split
 ·intro e;cases e
 ·split
  ·intro e;cases e
  ·split
   ·rename_i h;exact fun e=>absurd e h
   ·rename_i h
    split
    ·intro e;cases e
    ·have:=Dq (show iA d.cap d.l=0 from Decidable.not_not.1 h)
     exact fun _=>⟨ha.sh,by simp only;omega⟩
theorem aj.anf (v:Int) (d:Dir):(a.oG v d).2.2=0->(a.oG v d).1.bf/\d.val=0:=by
 unfold aj.oG
 split
 ·rename_i h;exact fun e=>absurd e h
 ·rename_i h
  have h:=Decidable.not_not.1 h
  split
  ·intro e;cases e
  ·split
   ·exact fun _=>⟨ha,h⟩
   ·exact fun _=>⟨⟨ha.sh,ha.de⟩,h⟩
theorem aj.adK (w o x:Int):(a.l8 w o x).2.2=0->(a.l8 w o x).1.bf:=by
 unfold aj.l8
 repeat' split
 all_goals (intro e;first|cases e;done|exact ha|exact ⟨ha.sh,ha.de⟩)
theorem aj.W9 (b:Int):(a.tick b).2=0->(a.tick b).1.bf:=by
 unfold aj.tick
 repeat' split
 all_goals (intro e;first|cases e;done|exact ha|exact ⟨ha.sh,ha.de⟩)
theorem aj.ang (i:Int):(a.kF i).1.lt 12:=by
 unfold aj.kF
 split
 ·exact kI
 ·exact adI ha _
theorem aW.zm (l:aW) (task:Int):(l.step a task).2.2=0->(l.step a task).1.bf:=by
 unfold aW.step
 simp only
 split
 ·split
  ·rename_i h;exact fun e=>absurd e h
  ·rename_i h
   have h:=aj.ana ha _ _ (Decidable.not_not.1 h)
   repeat' split
   all_goals exact fun _=>h
 ·split
  ·split
   ·rename_i h;exact fun e=>absurd e h
   ·rename_i h
    have h:=aj.anb ha _ _ (Decidable.not_not.1 h)
    repeat' split
    all_goals exact fun _=>h
  ·split
   ·exact fun _=>ha
   ·intro e;cases e
end
theorem aj.NN (s:Setup):(aj.new s).1.bf:=by
 unfold aj.new
 split
 ·exact ⟨(by intro x hx;cases hx),Nat.zero_le _⟩
 ·refine ⟨fun x hx=> ?_,Nat.zero_le _⟩
  simp only [List.mem_map] at hx
  obtain ⟨i,_,rfl⟩:=hx
  unfold Nj
  split
  ·exact WO _ _ _
  ·exact adA _
structure bE.bf (o:bE):Prop where
 os:∀ x ∈ o.aN,x.sm
 od:o.dead.l.length<=1000
 oo:o.order.length<=1000
structure av.bf (s:av):Prop where
 sh:∀ x ∈ s.aN,x.lt 12
 de:s.dead.l.length<=24
 di:s.dir.l.length<=65536
 o:s.out.bf
theorem bE.zn:bE.z.bf:=⟨(by intro x hx;cases hx),Nat.zero_le _,Nat.zero_le _⟩
theorem av.zn:av.z.bf:=⟨(by intro x hx;cases hx),Nat.zero_le _,Nat.zero_le _,bE.zn⟩
theorem lu {s:av} (h:s.bf) (i:Nat):(dZ s.aN i).lt 12:=by
 unfold dZ
 cases e:s.aN[i]? with
 |none=>exact kI
 |some x=>exact h.sh x (List.mem_of_getElem? e)
theorem nD {s:av} (h:s.bf) (i:Nat):(dZ s.aN i).sm:=(lu h i).sm (by omega)
theorem adL {o:bE} (h:o.bf) (i:Nat):(dZ o.aN i).sm:=by
 unfold dZ
 cases e:o.aN[i]? with
 |none=>exact kI
 |some x=>exact h.os x (List.mem_of_getElem? e)
theorem av.NN (c:List Int) (l:Int):(av.new c l).1.bf:=by
 unfold av.new
 repeat' split
 all_goals first|exact av.zn|exact ⟨(by intro x hx;cases hx),Nat.zero_le _,Nat.zero_le _,bE.zn⟩
theorem av.rD {s:av} (h:s.bf):s.bg.bf:=⟨fun x hx=>(h.sh x hx).sm (by omega),by have:=h.de;unfold av.bg;simp only;omega,Nat.zero_le _⟩
section
variable {n:Nat} {a:aj} (ha:a.bf) {s:av} (h:s.bf) {task:Int}
include h
theorem av.adM:s.jq.1.bf:=by
 unfold av.jq
 split
 ·exact h
 ·exact ⟨h.sh,h.de,h.di,h.o⟩
theorem av.Xa:s.je.1.bf:=by
 unfold av.je
 split
 ·exact ⟨h.sh,h.de,h.di,h.o⟩
 ·exact av.adM h
theorem av.anh {o:bE} (ho:o.bf):(s.sV o).1.bf:=by
 unfold av.sV
 repeat' split
 all_goals first|exact av.zn|exact ⟨h.sh,h.de,h.di,ho⟩|exact av.Xa (s:={s with out:=o}) ⟨h.sh,h.de,h.di,ho⟩
include ha
theorem av.ani:(s.mark a task).2.2=0->(s.mark a task).1.bf/\(s.mark a task).2.1.bf:=by
 unfold av.mark
 simp only
 split
 ·exact fun e=>⟨ha,⟨h.sh,h.de,h.di,h.o⟩⟩
 ·split
  ·exact fun e=>⟨ha,h⟩
  ·refine fun e=>⟨aj.adJ ha _ _ _ e,?_⟩
   split<;>exact ⟨h.sh,h.de,h.di,h.o⟩
theorem av.anj:(s.load a).2.2=0->(s.load a).1.bf/\(s.load a).2.1.bf:=by
 unfold av.load
 simp only
 refine fun e=>⟨ha,?_⟩
 have hx:∀ x ∈ s.aN++[(a.kF (gI s.lock.cells s.at_.toNat)).1],x.lt 12:=by
  intro x hx
  rcases List.mem_append.1 hx with hx|hx
  ·exact h.sh x hx
  ·simp only [List.mem_singleton] at hx;subst hx;exact aj.ang ha _
 have key:∀ y:av×Int,(if (gI s.lock.cells s.at_.toNat==(a.slots.length:Int))=true then ({s with dead:=a.dead.dead},(0:Int)) else ({s with aN:=s.aN++[(a.kF (gI s.lock.cells s.at_.toNat)).1]},(a.kF (gI s.lock.cells s.at_.toNat)).2))=y->y.1.bf:=by
  intro y hy
  split at hy
  ·subst hy;exact ⟨h.sh,ha.de,h.di,h.o⟩
  ·subst hy;exact ⟨hx,h.de,h.di,h.o⟩
 generalize hy:(if (gI s.lock.cells s.at_.toNat==(a.slots.length:Int))=true then ({s with dead:=a.dead.dead},(0:Int)) else ({s with aN:=s.aN++[(a.kF (gI s.lock.cells s.at_.toNat)).1]},(a.kF (gI s.lock.cells s.at_.toNat)).2))=y
 have hy:=key y hy
 split<;>exact ⟨hy.sh,hy.de,hy.di,hy.o⟩
theorem av.ank:(s.store a task).2.2=0->(s.store a task).1.bf/\(s.store a task).2.1.bf:=by
 unfold av.store
 simp only
 have hy:∀ y:aj×Int,(if (gI s.lock.cells (gI s.out.order s.at_.toNat).toNat==(a.slots.length:Int))=true then a.l7 task s.out.dead else a.l6 (gI s.lock.cells (gI s.out.order s.at_.toNat).toNat) task (dZ s.out.aN (gI s.out.order s.at_.toNat).toNat))=y->y.2=0->y.1.bf:=by
  intro y e
  split at e
  ·subst e;exact aj.ane ha _ _
  ·subst e;exact aj.anc ha _ _ _
 generalize hY:(if (gI s.lock.cells (gI s.out.order s.at_.toNat).toNat==(a.slots.length:Int))=true then a.l7 task s.out.dead else a.l6 (gI s.lock.cells (gI s.out.order s.at_.toNat).toNat) task (dZ s.out.aN (gI s.out.order s.at_.toNat).toNat))=y
 have hy:=hy y hY
 split
 ·rename_i hc;exact fun e=>absurd e hc
 ·rename_i hc
  have hy:=hy (Decidable.not_not.1 hc)
  split
  ·exact fun _=>⟨hy,⟨h.sh,h.de,h.di,h.o⟩⟩
  ·split
   ·exact fun _=>⟨hy,⟨h.sh,h.de,h.di,h.o⟩⟩
   ·exact fun _=>⟨hy,av.Xa (s:={s with at_:=s.at_+1,carry:=[]}) ⟨h.sh,h.de,h.di,h.o⟩⟩
theorem av.anl (hw:a.wf n):(s.mg a).2.2=0->(s.mg a).1.bf/\(s.mg a).2.1.bf:=by
 unfold av.mg
 simp only
 split
 ·exact fun _=>⟨ha,⟨h.sh,h.de,DY hw.dv,h.o⟩⟩
 ·split
  ·rename_i hc;exact fun e=>absurd e hc
  ·split
   ·rename_i hc;exact fun e=>absurd e hc
   ·rename_i hc
    have hx:=aj.anf ha _ _ (Decidable.not_not.1 hc)
    split
    ·exact fun _=>⟨hx.1,⟨h.sh,h.de,h.di,h.o⟩⟩
    ·exact fun _=>⟨hx.1,av.Xa (s:={s with dir:=(s.dir.apply (gE s.out.dP 0)).1}) ⟨h.sh,h.de,DY hx.2,h.o⟩⟩
theorem av.anm:(s.mh a task).2.2=0->(s.mh a task).1.bf/\(s.mh a task).2.1.bf:=by
 unfold av.mh
 simp only
 generalize (if s.yT s.at_=true then dZ s.out.aN s.at_.toNat else dZ s.aN s.at_.toNat)=now
 split
 ·rename_i hc;exact fun e=>absurd e hc
 ·split
  ·rename_i hc;exact fun e=>absurd e hc
  ·rename_i hc
   have hx:=aj.adJ ha _ _ _ (Decidable.not_not.1 hc)
   split
   ·exact fun _=>⟨hx,av.adM (s:={s with at_:=s.at_+1}) ⟨h.sh,h.de,h.di,h.o⟩⟩
   ·exact fun _=>⟨hx,⟨h.sh,h.de,h.di,h.o⟩⟩
theorem av.zm (hw:a.wf n) (k:Int):(s.step a task k).2.2=0->(s.step a task k).1.bf/\(s.step a task k).2.1.bf:=by
 have key:(s.step0 a task k).2.2=0->(s.step0 a task k).1.bf/\(s.step0 a task k).2.1.bf:=by
  unfold av.step0
  simp only
  split
  ·split
   ·refine fun e=>⟨aW.zm ha _ _ e,?_⟩
    split<;>exact ⟨h.sh,h.de,h.di,h.o⟩
   ·exact fun e=>⟨aW.zm ha _ _ e,⟨h.sh,h.de,h.di,h.o⟩⟩
  split
  ·exact av.ani ha h
  split
  ·exact av.anj ha h
  split
  ·refine fun _=>⟨ha,?_⟩
   split<;>exact ⟨h.sh,h.de,h.di,h.o⟩
  split
  ·exact av.ank ha h
  split
  ·exact av.anl ha h hw
  split
  ·exact av.anm ha h
  split
  ·refine fun e=>⟨aW.zm ha _ _ e,?_⟩
   split<;>exact ⟨h.sh,h.de,h.di,h.o⟩
  ·exact fun _=>⟨ha,h⟩
 unfold av.step
 split
 ·rename_i hc;exact fun e=>absurd e hc
 ·rename_i hc
  exact fun _=>key (Decidable.not_not.1 hc)
end
end Go.Eng
namespace Go.Eng
open Go
structure Task.bf (t:Task):Prop where
 se:t.sec.bf
 di:t.dir.l.length<=65536
 re:(t.results.length:Int)<=t.entry
 e0:0<=t.entry
 en:t.entry<t.inv.entries
 e6:t.inv.entries<=6
 fi:t.first.length<=6
 sc:t.second.length<=6
abbrev u6 (x:gG):Prop:=x.1.bf/\(x.2.1.dn=true\/x.2.1.bf)
def NP (x:gG):Prop:=x.2.2.2=0->u6 x
theorem qp {c:Prop} [Decidable c] {x y:gG} (h1:NP x) (h2:NP y):NP (if c then x else y):=by
 split
 ·exact h1
 ·exact h2
theorem Kk {s:av} (h:s.bf) {x:ak} (hx:x.sm):bE.bf {s.bg with aN:=[x],order:=[0]}:=
 ⟨fun y hy=>by simp only [List.mem_singleton] at hy;subst hy;exact hx,(av.rD h).od,by simp⟩
section
variable {n:Nat} {a:aj} (ha:a.bf) (hw:a.wf n) {t:Task} (h:t.bf) {k:Int}
section
include h
theorem Task.oV (r:aU) (k:Int):(t.next r k).dn=true\/(t.next r k).bf:=by
 have h1:=h.re
 have h2:=h.en
 have h3:=h.e0
 by_cases e:t.entry+1=t.inv.entries
 ·left;simp [Task.next,e]
 ·right
  refine ⟨av.zn,Nat.zero_le _,?_,?_,?_,h.e6,Nat.zero_le _,Nat.zero_le _⟩
  ·simp only [Task.next,List.length_append,List.length_cons,List.length_nil];omega
  ·simp only [Task.next];omega
  ·simp only [Task.next];omega
theorem Task.u7 (c:List Int) (pc:Int):(t.eX c pc).bf:=⟨av.NN _ _,h.di,h.re,h.e0,h.en,h.e6,h.fi,h.sc⟩
theorem Task.ve {o:bE} (ho:o.bf):(t.dec o).bf:=⟨av.anh h.se ho,h.di,h.re,h.e0,h.en,h.e6,h.fi,h.sc⟩
include hw
theorem Task.Xb (r pc:Int):(t.look a r pc).bf:=⟨av.NN _ _,DY hw.dv,h.re,h.e0,h.en,h.e6,h.fi,h.sc⟩
include ha
theorem Task.DZ:(t.go a k).2.2.2.2=0->(t.go a k).1.bf/\(t.go a k).2.1.bf:=by
 unfold Task.go
 simp only
 split
 ·rename_i hc;exact fun e=>absurd e hc
 ·rename_i hc
  have g:=av.zm ha h.se hw _ (Decidable.not_not.1 hc)
  exact fun _=>⟨g.1,⟨g.2,h.di,h.re,h.e0,h.en,h.e6,h.fi,h.sc⟩⟩
end
section
include h
theorem ann:(mo t).1.bf:=by
 unfold mo
 simp only
 repeat' split
 all_goals dsimp only
 all_goals first
  |(apply Task.ve;exact ⟨h.se,h.di,h.re,h.e0,h.en,h.e6,h.fi,h.sc⟩;exact av.rD h.se)
  |(apply Task.ve;exact ⟨h.se,h.di,h.re,h.e0,h.en,h.e6,h.fi,h.sc⟩;exact Kk h.se ((adB _ (lu h.se 0)).sm (by omega)))
theorem ano {t':Task} (e:t'.sec=t.sec):(kG t').1.sm:=by
 unfold kG
 simp only
 rw [e]
 exact (am1 _ _ _ _ _ (WR _ _ _ (lu h.se 0))).sm (by omega)
theorem anp:(jV t).1.bf:=by
 unfold jV
 simp only
 repeat' split
 all_goals dsimp only
 all_goals first
  |(apply Task.ve;exact ⟨h.se,h.di,h.re,h.e0,h.en,h.e6,h.fi,h.sc⟩;exact av.rD h.se)
  |(apply Task.ve;exact ⟨h.se,h.di,h.re,h.e0,h.en,h.e6,h.fi,h.sc⟩;exact Kk h.se (ano h rfl))
theorem anq:(settle t).1.sm:=by
 have g:=lu h.se 0
 unfold settle
 simp only
 repeat' split
 ·exact (am2 _ _ _ g).sm (by omega)
 ·exact (am3 _ _ _ _ g).sm (by omega)
 ·exact (am5 _ _ _ _ g).sm (by omega)
theorem anr:(mq t).1.bf:=by
 unfold mq
 simp only
 repeat' split
 all_goals dsimp only
 all_goals first
  |(apply Task.ve;exact h;exact av.rD h.se)
  |(apply Task.ve;exact h;exact Kk h.se (anq h))
theorem ant (d:Dead) (k ep:Int):(d.take k ep).1.l.length<=d.l.length/\(d.take k ep).2.1.length<=d.l.length:=by
 have:=VS k ep d.l
 unfold Dead.take
 repeat' split
 all_goals first|exact ⟨Nat.zero_le _,Nat.zero_le _⟩|exact ⟨by simp only;omega,by simp only;omega⟩
theorem anu:(mD t).1.bf:=by
 have hd:=h.se.de
 unfold mD
 simp only
 repeat' split
 all_goals dsimp only
 all_goals first
  |(apply Task.ve;exact h;exact av.rD h.se)
  |skip
 have g:=(ant h t.sec.dead (uV t) t.sec.aJ.epoch).1
 refine Task.ve h ⟨fun y hy=> ?_,by simp only;omega,by simp⟩
 simp only [List.mem_singleton] at hy;subst hy
 exact (adE _ (lu h.se 0)).sm (by omega)
theorem Xc {x y:ak} (hx:x.sm) (hy:y.sm):∀ z ∈ placed t x y,z.sm:=by
 intro z hz
 unfold placed at hz
 split at hz<;>simp at hz<;>rcases hz with rfl|rfl<;>assumption
theorem Xd:(iM t).length<=1000:=by unfold iM;split<;>simp
theorem Xe:t.sec.dead.l.length<=1000:=by have:=h.se.de;omega
theorem Xf:(rf t).1.bf:=by
 unfold rf
 simp only
 repeat' split
 all_goals first|exact av.rD h.se|skip
 exact ⟨Xc h ((am7 _ (lu h.se _)).sm (by omega)) ((adE _ (lu h.se _)).sm (by omega)),Xe h,Xd h⟩
theorem Xg:(rq t).1.bf:=by
 unfold rq
 simp only
 repeat' split
 all_goals first|exact av.rD h.se|skip
 have g:=adG ((IntKind.i64.wrap ((jW t).low+(jW t).high)).tdiv 2) (lu h.se (if t.inv.bA<t.inv.to then 0 else 1))
 exact ⟨Xc h (g.1.sm (by omega)) (g.2.sm (by omega)),Xe h,Xd h⟩
theorem Xh:(ru t).1.bf:=by
 unfold ru
 simp only
 repeat' split
 all_goals first|exact av.rD h.se|skip
 exact ⟨Xc h ((adA (k:=0) _).sm (by omega)) ((am8 (lu h.se _) (lu h.se _)).sm (by omega)),Xe h,Xd h⟩
theorem anv (d:Dead) (ep:Int):(d.clean ep).1.l.length<=d.l.length:=by
 unfold Dead.clean
 repeat' split
 all_goals first|exact Nat.zero_le _|exact List.length_filter_le _ _
theorem Xi:(oM t).1.bf:=by
 have hd:=h.se.de
 unfold oM
 simp only
 repeat' split
 all_goals first
  |exact av.rD h.se
  |exact Kk h.se ((am6 _ (lu h.se 0)).sm (by omega))
  |exact Kk h.se ((WR _ _ _ (lu h.se 0)).sm (by omega))
  |(have g:=anv h t.sec.dead t.sec.aJ.epoch;exact ⟨(av.rD h.se).os,by simp only;omega,by simp⟩)
theorem anw (d:Dead) (l:List ai):(d.put l).1.l.length<=d.l.length+l.length:=by
 unfold Dead.put
 repeat' split
 all_goals simp [Dead.z]
theorem Xj:(oN t).1.bf:=by
 have hd:=h.se.de
 unfold oN
 simp only
 repeat' split
 all_goals first|exact av.rD h.se|skip
 have g:=adF t.sec.dead.room t.sec.aJ.epoch t.setup.limit (lu h.se 0)
 have g2:=anw h t.sec.dead ((dZ t.sec.aN 0).qX t.sec.dead.room t.sec.aJ.epoch t.setup.limit).2.1
 refine ⟨fun y hy=> ?_,by simp only;omega,by simp⟩
 simp only [List.mem_singleton] at hy;subst hy
 exact g.1.sm (by omega)
end
section
include ha hw h
theorem anx:(oH a t k).2.2.2=0->u6 (oH a t k):=by
 unfold oH
 simp only
 split
 ·rename_i hc;exact fun e=>absurd e hc
 split
 ·split
  ·exact fun _=>⟨ha,Task.oV (t:={t with loaded:=a.fA}) ⟨h.se,h.di,h.re,h.e0,h.en,h.e6,h.fi,h.sc⟩ _ _⟩
  ·exact fun _=>⟨ha,.inr ⟨h.se,h.di,h.re,h.e0,h.en,h.e6,h.fi,h.sc⟩⟩
 split
 ·split
  ·rename_i hc;exact fun e=>absurd e hc
  ·rename_i hc
   have g:=aj.adK ha _ _ _ (Decidable.not_not.1 hc)
   split<;>exact fun _=>⟨g,.inr ⟨h.se,h.di,h.re,h.e0,h.en,h.e6,h.fi,h.sc⟩⟩
 split
 ·exact fun _=>⟨ha,.inr (Task.Xb hw h _ _)⟩
 split
 ·rename_i hc;exact fun e=>absurd e hc
 rename_i hc
 obtain ⟨g1,g2⟩:=Task.DZ ha hw h (Decidable.not_not.1 hc)
 split
 ·exact fun _=>⟨g1,.inr (ann g2)⟩
 split
 ·exact fun _=>⟨g1,.inr g2⟩
 split
 ·exact fun _=>⟨g1,Task.oV g2 _ _⟩
 split
 ·exact fun _=>⟨g1,Task.oV g2 _ _⟩
 ·exact fun _=>⟨g1,.inr ⟨g2.se,g2.di,g2.re,g2.e0,g2.en,g2.e6,g2.fi,g2.sc⟩⟩
theorem anz:(oI a t k).2.2.2=0->u6 (oI a t k):=by
 unfold oI
 simp only
 split
 ·rename_i hc;exact fun e=>absurd e hc
 split
 ·exact fun _=>⟨ha,.inr (by apply Task.u7;exact ⟨h.se,DY hw.dv,h.re,h.e0,h.en,h.e6,h.fi,h.sc⟩)⟩
 split
 ·exact fun _=>⟨ha,.inr (Task.Xb hw h _ _)⟩
 split
 ·rename_i hc;exact fun e=>absurd e hc
 rename_i hc
 obtain ⟨g1,g2⟩:=Task.DZ ha hw h (Decidable.not_not.1 hc)
 split
 ·exact fun _=>⟨g1,.inr (anp g2)⟩
 split
 ·exact fun _=>⟨g1,.inr g2⟩
 split
 ·exact fun _=>⟨g1,Task.oV g2 _ _⟩
 split
 ·exact fun _=>⟨g1,Task.oV g2 _ _⟩
 split
 ·exact fun _=>⟨g1,Task.oV g2 _ _⟩
 ·exact fun _=>⟨g1,.inr ⟨g2.se,g2.di,g2.re,g2.e0,g2.en,g2.e6,g2.fi,g2.sc⟩⟩
theorem anA:(mr a t k).2.2.2=0->u6 (mr a t k):=by
 unfold mr
 simp only
 split
 ·rename_i hc;exact fun e=>absurd e hc
 split
 ·split
  ·exact fun _=>⟨ha,Task.oV h _ _⟩
  ·refine fun _=>⟨ha,.inr ?_⟩
   split
   ·apply Task.u7;exact ⟨h.se,h.di,h.re,h.e0,h.en,h.e6,h.fi,h.sc⟩
   ·exact ⟨h.se,h.di,h.re,h.e0,h.en,h.e6,h.fi,h.sc⟩
 split
 ·exact fun _=>⟨ha,.inr (Task.Xb hw h _ _)⟩
 split
 ·rename_i hc;exact fun e=>absurd e hc
 rename_i hc
 obtain ⟨g1,g2⟩:=Task.DZ ha hw h (Decidable.not_not.1 hc)
 split
 ·exact fun _=>⟨g1,.inr (anr g2)⟩
 split
 ·exact fun _=>⟨g1,.inr g2⟩
 split
 ·exact fun _=>⟨g1,.inr ⟨g2.se,g2.di,g2.re,g2.e0,g2.en,g2.e6,g2.fi,g2.sc⟩⟩
 ·exact fun _=>⟨g1,Task.oV g2 _ _⟩
theorem anB:(oJ a t k).2.2.2=0->u6 (oJ a t k):=by
 unfold oJ
 simp only
 split
 ·rename_i hc;exact fun e=>absurd e hc
 split
 ·split
  ·exact fun _=>⟨ha,Task.oV (t:={t with loaded:=a.epoch}) ⟨h.se,h.di,h.re,h.e0,h.en,h.e6,h.fi,h.sc⟩ _ _⟩
  ·exact fun _=>⟨ha,.inr ⟨h.se,h.di,h.re,h.e0,h.en,h.e6,h.fi,h.sc⟩⟩
 split
 ·rename_i hc;exact fun e=>absurd e hc
 rename_i hc
 have g:=aj.adK ha _ _ _ (Decidable.not_not.1 hc)
 split
 ·exact fun _=>⟨g,.inr ⟨h.se,h.di,h.re,h.e0,h.en,h.e6,h.fi,h.sc⟩⟩
 ·exact fun _=>⟨g,Task.oV h _ _⟩
omit h ha in
theorem adN {i:Nat} (e:(a.qj i).2=0):i<6:=by
 have h6:=hw.n6
 unfold aj.qj at e
 split at e
 ·cases e
 ·rename_i hc
  simp [aj.slot,hw.sl] at hc
  omega
theorem anC:(oK a t k).2.2.2=0->u6 (oK a t k):=by
 unfold oK
 simp only
 split
 ·rename_i hc;exact fun e=>absurd e hc
 split
 ·exact fun _=>⟨ha,.inr ⟨h.se,h.di,h.re,h.e0,h.en,h.e6,Nat.zero_le _,Nat.zero_le _⟩⟩
 split
 ·split
  ·rename_i hc;exact fun e=>absurd e hc
  ·rename_i hc
   have g:=adN hw (Decidable.not_not.1 hc)
   refine fun _=>⟨ha,.inr ?_⟩
   split<;>exact ⟨h.se,h.di,h.re,h.e0,h.en,h.e6,by simp only [List.length_append,List.length_cons,List.length_nil];omega,h.sc⟩
 split
 ·split
  ·rename_i hc;exact fun e=>absurd e hc
  ·rename_i hc
   have g:=adN hw (Decidable.not_not.1 hc)
   refine fun _=>⟨ha,.inr ?_⟩
   split<;>exact ⟨h.se,h.di,h.re,h.e0,h.en,h.e6,h.fi,by simp only [List.length_append,List.length_cons,List.length_nil];omega⟩
 split
 ·exact fun _=>⟨ha,.inr ⟨h.se,h.di,h.re,h.e0,h.en,h.e6,h.fi,h.sc⟩⟩
 ·exact fun _=>⟨ha,Task.oV h _ _⟩
theorem anD:(oL a t k).2.2.2=0->u6 (oL a t k):=by
 unfold oL
 simp only
 split
 ·rename_i hc;exact fun e=>absurd e hc
 split
 ·exact fun _=>⟨ha,.inr (by apply Task.u7;exact ⟨h.se,DY hw.dv,h.re,h.e0,h.en,h.e6,h.fi,h.sc⟩)⟩
 split
 ·rename_i hc;exact fun e=>absurd e hc
 rename_i hc
 obtain ⟨g1,g2⟩:=Task.DZ ha hw h (Decidable.not_not.1 hc)
 split
 ·exact fun _=>⟨g1,.inr (anu g2)⟩
 split
 ·exact fun _=>⟨g1,.inr g2⟩
 split
 ·exact fun _=>⟨g1,.inr ⟨g2.se,g2.di,g2.re,g2.e0,g2.en,g2.e6,g2.fi,g2.sc⟩⟩
 ·exact fun _=>⟨g1,Task.oV g2 _ _⟩
theorem Kl {plan:Task->qZ} (lo hi:Int) (cells:Task->List Int) (hp:∀ t':Task,t'.bf->(plan t').1.bf):(jF plan lo hi cells a t k).2.2.2=0->u6 (jF plan lo hi cells a t k):=by
 unfold jF
 dsimp only
 split
 ·rename_i hc;exact fun e=>absurd e hc
 have h1:(if (t.pc==0)=true then t.eX (cells t) 1 else t).bf:=by
  split
  ·exact Task.u7 h _ _
  ·exact h
 generalize (if (t.pc==0)=true then t.eX (cells t) 1 else t)=t1 at h1 ⊢
 split
 ·rename_i hc;exact fun e=>absurd e hc
 rename_i hc
 obtain ⟨g1,g2⟩:=Task.DZ ha hw h1 (Decidable.not_not.1 hc)
 split
 ·exact fun _=>⟨g1,.inr (Task.ve g2 (hp _ g2))⟩
 split
 ·exact fun _=>⟨g1,.inr g2⟩
 ·exact fun _=>⟨g1,Task.oV g2 _ _⟩
theorem anE:(eY a t k).2.2.2=0->u6 (eY a t k):=by
 suffices q:NP (eY a t k) from q
 unfold eY
 refine qp (fun e=>by cases e) ?_
 refine qp (anx ha hw h) ?_
 refine qp (anz ha hw h) ?_
 refine qp (anA ha hw h) ?_
 refine qp (anB ha hw h) ?_
 refine qp (anC ha hw h) ?_
 refine qp (anD ha hw h) ?_
 refine qp (Kl ha hw h _ _ _ fun _=>Xf) ?_
 refine qp (Kl ha hw h _ _ _ fun _=>Xg) ?_
 refine qp (Kl ha hw h _ _ _ fun _=>Xh) ?_
 refine qp (Kl ha hw h _ _ _ fun _=>Xi) ?_
 exact qp (Kl ha hw h _ _ _ fun _=>Xj) (fun e=>by cases e)
end
end
structure aF.bf (w:aF):Prop where
 ar:w.arena.bf
 tk:∀ t ∈ w.tasks,t.dn=true\/t.bf
theorem bJ.anF {i:bJ} {u:Setup} (h:i.val u=0):i.entries<=6:=by
 unfold bJ.val at h
 unfold bJ.entries
 simp only [beq_iff_eq,Bool.or_eq_true,decide_eq_true_eq] at h ⊢
 split
 ·rename_i h1
  rw [if_pos h1] at h
  split at h
  ·cases h
  ·omega
 ·rename_i h1
  rw [if_neg h1] at h
  split
  ·rename_i h3
   rw [if_neg (by omega),if_pos h3] at h
   split at h
   ·cases h
   ·omega
  ·omega
theorem Task.anG {num k:Int} {i:bJ} {u:Setup} (e:(Task.start num i u k).2=0):(Task.start num i u k).1.bf:=by
 unfold Task.start at e ⊢
 split
 ·rename_i hc;rw [if_pos hc] at e;cases e
 rename_i hc;rw [if_neg hc] at e
 split
 ·rename_i hc;rw [if_pos hc] at e;exact absurd e hc
 rename_i hc;rw [if_neg hc] at e
 split
 ·rename_i hc;rw [if_pos hc] at e;exact absurd e hc
 rename_i hc
 have hv:=Decidable.not_not.1 hc
 exact ⟨av.zn,Nat.zero_le _,by simp,by simp,bJ.acP hv,bJ.anF hv,Nat.zero_le _,Nat.zero_le _⟩
section
variable {n m:Nat} {w:aF} (h:w.wf n m) (hl:w.bf)
include h hl
theorem aF.zm {i:Nat} (hi:i<w.tasks.length) (hd:(gT w.tasks i).dn=false) (e:(w.step i).2=0):(w.step i).1.bf:=by
 have ht:=(hl.tk _ (Wm hi)).resolve_left (by simp [hd])
 unfold aF.step at e ⊢
 simp only at e ⊢
 split
 ·rename_i hc;rw [if_pos hc] at e;exact absurd e hc
 ·rename_i hc
  have hs:=anE hl.ar h.ar ht (Decidable.not_not.1 hc)
  refine ⟨hs.1,fun t hx=> ?_⟩
  rcases List.mem_or_eq_of_mem_set hx with hx|rfl
  ·exact hl.tk t hx
  ·exact hs.2
theorem aF.adO {k:Int} (e:(w.pick k).2=0):(w.pick k).1.bf:=by
 unfold aF.pick at e ⊢
 split
 ·rename_i hc;rw [if_pos hc] at e;cases e
 ·rename_i hc;rw [if_neg hc] at e
  simp at hc
  have hx:gI w.opn k.toNat ∈ w.opn:=by
   unfold gI;rw [List.getElem?_eq_getElem (by omega)];exact List.getElem_mem _
  obtain ⟨j,h1,h2,h3⟩:=Ns w.tasks 0 _ hx
  have hj:(gI w.opn k.toNat).toNat=j:=by rw [h1];omega
  rw [hj] at e ⊢
  exact aF.zm h hl h2 h3 e
theorem aF.W9 {b:Int} (e:(w.tick b).2=0):(w.tick b).1.bf:=by
 unfold aF.tick at e ⊢
 split
 ·rename_i hc;rw [if_pos hc] at e;exact absurd e hc
 ·rename_i hc
  exact ⟨aj.W9 hl.ar _ (Decidable.not_not.1 hc),hl.tk⟩
theorem aF.anH {i:bJ} (e:(w.invoke i).2.2=0):(w.invoke i).1.bf:=by
 unfold aF.invoke at e ⊢
 split
 ·rename_i hc;rw [if_pos hc] at e;cases e
 rename_i hc;rw [if_neg hc] at e
 simp only at e ⊢
 split
 ·rename_i hc;rw [if_pos hc] at e;exact absurd e hc
 rename_i hd
 refine ⟨hl.ar,fun t hx=> ?_⟩
 rcases List.mem_append.1 hx with hx|hx
 ·exact hl.tk t hx
 ·simp only [List.mem_singleton] at hx;subst hx;exact .inr (Task.anG (Decidable.not_not.1 hd))
end
end Go.Eng
namespace Go.Eng
open Go Go.Proofs
theorem anI (a:aj) (s:cB) (n:Int):Fn Tryz.prog 418 [.agg a.enc,.agg s.enc,I n] [] (.aG [.agg (cB.step a s n).1.enc,I (cB.step a s n).2]) [] []:=by
 generalize hR:cB.step a s n=R
 unfold cB.step at hR
 refine Fn.aO Uh (by simp) ?_
 unfold Ug SC.mk' aj.enc cB.enc
 simp only [go_sem]
 have aK:=zi a 1
 have aV:=zi a 2
 have hJ:=trivial
 repeat' first
  |(first|refine sC ?_|refine sD ?_);simp only [hJ,go_sem]
  |(first|refine bD (fun hq=> ?_) (fun hq=> ?_)|refine dS (fun hq=> ?_) (fun hq=> ?_)|refine dD (fun hq=> ?_) (fun hq=> ?_))<;>simp only [hq,hJ,go_sem]
  |refine sM ?_;simp only [ay,rv,au,get,hJ,go_sem]
  |refine bn ?_
  |fail
 all_goals clear aK aV hJ
 all_goals (subst hR;simp_all [cB.enc,aj.load,rv,au])
theorem adP (r:Int):Fn Tryz.prog 265 [I r] [] (.aG [.agg (Walk.begin r).1.enc,I (Walk.begin r).2]) [] []:=by
 generalize hR:Walk.begin r=R
 unfold Walk.begin at hR
 refine Fn.aO QW (by simp) ?_
 unfold QV SC.mk'
 simp only [go_sem]
 exact aX
theorem tF (w:Walk) (l h:Int):Fn Tryz.prog 322 [.agg w.enc,I l,I h] [] (.aG [.agg (w.nk l h).1.enc,I (w.nk l h).2]) [] []:=by
 generalize hR:w.nk l h=R
 unfold Walk.nk at hR
 refine Fn.aO abh (by simp) ?_
 unfold RN SC.mk' Walk.enc
 simp only [go_sem]
 by_cases h0:l<0\/w.next<l\/h<w.next\/65536<=h\/w.covered<0\/65536<=w.covered
 ·rw [if_pos (by simpa using h0)] at hR
  exact aX
 rw [if_neg (by simpa using h0)] at hR
 have t1:=Int.tmod_nonneg 65536 (show 0<=h+1 by omega)
 have t2:=Int.tmod_lt_of_pos (h+1) (show (0:Int)<65536 by omega)
 have w1:IntKind.i64.wrap (h+1)=h+1:=bF (by omega)
 have w2:IntKind.i64.wrap ((h+1).tmod 65536)=(h+1).tmod 65536:=bF (by omega)
 have w3:IntKind.i64.wrap (w.covered+h)=w.covered+h:=bF (by omega)
 have w4:IntKind.i64.wrap (w.covered+h - w.next)=w.covered+h - w.next:=bF (by omega)
 have w5:IntKind.i64.wrap (w.covered+h - w.next+1)=w.covered+h - w.next+1:=bF (by omega)
 have hJ:=ah w1 (ah w2 (ah w3 (ah w4 w5)))
 exact aZ
theorem jG (w:Walk):Fn Tryz.prog 323 [.agg w.enc] [] (Bo w.over) [] []:=by
 refine Fn.aO abj (by simp) ?_
 unfold RO SC.mk' Walk.enc
 simp only [go_sem]
 have hJ:=trivial
 repeat' first
  |(first|refine sC ?_|refine sD ?_);simp only [hJ,go_sem]
  |(first|refine bD (fun hq=> ?_) (fun hq=> ?_)|refine dS (fun hq=> ?_) (fun hq=> ?_)|refine dD (fun hq=> ?_) (fun hq=> ?_))<;>simp only [hq,hJ,go_sem]
  |refine sM ?_;simp only [ay,rv,au,get,hJ,go_sem]
  |refine bn ?_
  |fail
 all_goals clear hJ
 all_goals simp_all [Walk.over,-Int.not_lt,-Int.not_le]
end Go.Eng
