/-
  Part of a proof: lemmas and definitions of this work.
  No condition.
-/
import Derived.Test.YthhjbngoibmpgaaGreatA08
import Derived.Test.YthhjbngoibmpgaaGreatA22
set_option linter.all false
set_option maxRecDepth 100000
set_option maxHeartbeats 8000000
namespace Go.Eng
open Go
def ak.lt (k:Nat) (s:ak):Prop:=s.aR.l.length<=k/\s.aR.heap.length<=k
theorem ak.lt.mono {k k':Nat} {s:ak} (h:s.lt k) (hk:k<=k'):s.lt k':=⟨Nat.le_trans h.1 hk,Nat.le_trans h.2 hk⟩
theorem ak.lt.sm {k:Nat} {s:ak} (h:s.lt k) (hk:k<=800):s.sm:=h.mono hk
theorem kH {k:Nat}:ak.z.lt k:=⟨Nat.zero_le _,Nat.zero_le _⟩
theorem amD {s:ak} (h:s.val=0):s.lt 12:=by
 have h3:=Table.val_zero (oU h).2
 exact ⟨by omega,by omega⟩
section
variable {k:Nat} {s:ak}
theorem WK (c l h:Int):(ak.new c l h).1.lt k:=by
 unfold ak.new
 repeat' split
 all_goals exact ⟨Nat.zero_le _,Nat.zero_le _⟩
theorem acY (c:Int):(ak.free c).1.lt k:=by
 unfold ak.free
 repeat' split
 all_goals exact ⟨Nat.zero_le _,Nat.zero_le _⟩
theorem acZ (m:ai) (h:s.lt k):(s.put m).1.lt k:=by
 unfold ak.put
 repeat' split
 all_goals first|exact kH|exact h
theorem WL (mx dl ep li:Int):∀ (l:List ai) (k:Nat) (s:ak) (out:List Lease),s.lt k->(oI mx dl ep li l s out).1.lt (k+l.length)
 |[],k,s,out,h=>h
 |m::r,k,s,out,h=>by
  simp only [oI]
  split
  ·split
   ·have g:=NF s.aR m.jU.1 dl
    refine (WL mx dl ep li r (k+1) _ _ ⟨Nat.le_trans g.1 (by have:=h.1;omega),Nat.le_trans g.2 (by have:=h.2;omega)⟩).mono (by simp;omega)
   ·exact (WL mx dl ep li r k _ _ h).mono (by simp)
  ·exact h.mono (by simp)
theorem amE (mx now bB ep li:Int) (h:s.lt k):(s.take mx now bB ep li).1.lt (k+12):=by
 unfold ak.take
 repeat' split
 all_goals first|exact kH|skip
 exact (WL _ _ _ _ _ k s [] h).mono (by have:=s.ready.rz;omega)
theorem ac0:∀ (l:List Int) (s:ak),s.lt k->(yU l s).lt k
 |[],s,h=>h
 |id::r,s,h=>by
  simp only [yU]
  have g:=Bn s.aR id
  exact ac0 r _ ⟨Nat.le_trans g.1 h.1,Nat.le_trans g.2 h.2⟩
theorem WM (now ep li:Int) (h:s.lt k):(s.expire now ep li).1.lt k:=by
 unfold ak.expire
 repeat' split
 all_goals first|exact kH|exact ac0 _ _ h
theorem amF (x:Hd) (now ep:Int) (h:s.lt k):(s.yS x now ep).1.lt k:=by
 have g:=Bn s.aR x.id
 unfold ak.yS
 repeat' split
 all_goals first|exact kH|exact ⟨Nat.le_trans g.1 h.1,Nat.le_trans g.2 h.2⟩
theorem amG (x:Hd) (now ep li:Int) (h:s.lt k):(s.yT x now ep li).1.lt k:=by
 have g:=Bn s.aR x.id
 unfold ak.yT
 by_cases h1:s.held x now ep (kD li)≠0
 ·rw [if_pos h1];exact kH
 ·rw [if_neg h1];exact ⟨Nat.le_trans g.1 h.1,Nat.le_trans g.2 h.2⟩
theorem amH (t:Table) (id dl:Int):(t.extend id dl).1.l.length<=t.l.length/\(t.extend id dl).1.heap.length<=t.heap.length+1:=by
 have g:=Wq t.heap id
 have g2:=Wp (uP t.heap id).1 ⟨dl,id⟩
 unfold Table.extend
 repeat' split
 all_goals first|exact ⟨Nat.zero_le _,Nat.zero_le _⟩|exact ⟨by simp,by simp only;omega⟩
theorem amI (x:Hd) (now ep bB:Int) (h:s.lt k):(s.change x now ep bB).1.lt (k+1):=by
 have g:=amH s.aR x.id (now+bB)
 unfold ak.change
 repeat' split
 all_goals first|exact kH|exact ⟨Nat.le_trans g.1 (by have:=h.1;omega),Nat.le_trans g.2 (by have:=h.2;omega)⟩
theorem WN (ep:Int):∀ (l:List ai) (s:ak) (n:Int),s.lt k->(uS ep l s n).1.lt k
 |[],s,n,h=>h
 |m::r,s,n,h=>by
  simp only [uS]
  split
  ·exact WN ep r _ _ h
  ·exact WN ep r _ _ h
theorem WO (ep:Int):∀ (l:List ai) (s:ak) (n:Int),s.lt k->(uU ep l s n).1.lt k
 |[],s,n,h=>h
 |m::r,s,n,h=>by
  have g:=Bn s.aR m.id
  simp only [uU]
  split
  ·exact WO ep r _ _ ⟨Nat.le_trans g.1 h.1,Nat.le_trans g.2 h.2⟩
  ·exact WO ep r _ _ h
theorem amJ (ep:Int) (h:s.lt k):(s.clean ep).1.lt k:=by
 unfold ak.clean
 repeat' split
 all_goals first|exact kH|exact WO _ _ _ _ (WN _ _ _ _ h)
theorem amK (n:Int) (h:s.lt k):(s.iF n).1.lt k:=by
 unfold ak.iF
 repeat' split
 all_goals first|exact kH|exact h
theorem ac1 (lo hi:Int):∀ (l:List ai) (s:ak),s.lt k->(yV lo hi l s).1.lt k
 |[],s,h=>h
 |m::r,s,h=>by
  simp only [yV]
  split
  ·exact kH
  ·exact ac1 lo hi r _ (acZ _ h)
theorem ac2 (l:List ai) (h:s.lt k):(s.sU l).1.lt k:=by
 unfold ak.sU
 repeat' split
 all_goals first|exact kH|exact ac1 _ _ _ _ h
theorem WQ (n ep li:Int):∀ (l:List ai) (s:ak) (out:List ai),s.lt k->(mZ n ep li l s out).1.lt k
 |[],s,out,h=>h
 |m::r,s,out,h=>by
  simp only [mZ]
  split
  ·split
   ·exact WQ n ep li r _ _ h
   ·exact WQ n ep li r _ _ h
  ·exact h
theorem WR (n ep li:Int):∀ (l:List ai) (s:ak) (out:List ai),(mZ n ep li l s out).2.length<=out.length+l.length
 |[],s,out=>by simp [mZ]
 |m::r,s,out=>by
  simp only [mZ]
  split
  ·split
   ·have:=WR n ep li r {s with ready:=(s.ready.remove m.id).1} (out++[m])
    simp at this ⊢;omega
   ·have:=WR n ep li r s out
    simp at this ⊢;omega
  ·simp
theorem ac3 (n ep li:Int) (h:s.lt k):(s.qW n ep li).1.lt k/\(s.qW n ep li).2.1.length<=12:=by
 unfold ak.qW
 repeat' split
 all_goals first|exact ⟨kH,Nat.zero_le _⟩|skip
 refine ⟨WQ _ _ _ _ _ _ h,?_⟩
 have g1:=WR n ep li s.ready.list s []
 have g2:=s.ready.rz
 simp only [List.length_nil] at g1
 simp only
 omega
theorem WS:∀ (l:List ai) (s:ak),s.lt k->(qX l s).lt k
 |[],s,h=>h
 |m::r,s,h=>by
  simp only [qX]
  split
  ·exact WS r _ h
  ·exact WS r _ h
theorem WT:∀ (l:List Lease) (k:Nat) (s:ak),s.lt k->(wS l s).lt (k+l.length)
 |[],k,s,h=>h
 |x::r,k,s,h=>by
  have g:=NF s.aR x.msg x.dl
  simp only [wS]
  split
  ·exact (WT r (k+1) _ ⟨Nat.le_trans g.1 (by have:=h.1;omega),Nat.le_trans g.2 (by have:=h.2;omega)⟩).mono (by simp;omega)
  ·exact (WT r k _ h).mono (by simp)
theorem WU (L:List ai) (X:List Lease) (h:s.lt k):(s.fill L X).lt (k+X.length):=WT _ _ _ (WS _ _ h)
theorem ac4 (mid:Int) (h:s.lt k):(s.divide mid).1.lt k/\(s.divide mid).2.1.lt k:=by
 unfold ak.divide
 repeat' split
 all_goals first|exact ⟨kH,kH⟩|exact ⟨(WU _ _ (WK (k:=0) _ _ _)).mono (by have:=h.1;omega),(WU _ _ (WK (k:=0) _ _ _)).mono (by have:=h.1;omega)⟩
theorem amL {b:ak} {m:Nat} (h:s.lt k) (hb:b.lt m):(s.wT b).1.lt (k+m):=by
 unfold ak.wT
 repeat' split
 all_goals first|exact kH|skip
 refine ak.lt.mono (k:=k+b.aR.l.length) (WU _ _ h) ?_
 have:=hb.1
 omega
end
theorem ac5 (d:Dir):∀ (l:List Span) (nx:Int),nx<=65536->lH d l nx=0->(l.length:Int)+nx<=65536
 |[],nx,h,e=>by simpa using h
 |x::r,nx,h,e=>by
  simp only [lH] at e
  split at e
  ·cases e
  ·rename_i hc
   simp at hc
   have:=ac5 d r (x.high+1) (by omega) e
   simp;omega
theorem Bq {d:Dir} (h:d.val=0):d.l.length<=65536:=by
 have:=ac5 d d.l 0 (by omega) (Dir.oU h).1
 omega
theorem amM (d:Dir) (e:bL):(d.apply e).1.l.length<=d.l.length+2:=by
 unfold Dir.apply
 simp only
 repeat' split
 all_goals first|exact Nat.zero_le _|skip
 all_goals simp
 all_goals omega
structure aj.aW (a:aj):Prop where
 sh:∀ x ∈ a.slots,x.eT.lt 12
 de:a.dead.dead.l.length<=24
theorem ac6 {a:aj} (h:a.aW) (i:Nat):(gX a.slots i).eT.lt 12:=by
 unfold gX
 cases e:a.slots[i]? with
 |none=>exact kH
 |some x=>exact h.sh x (List.mem_of_getElem? e)
section
variable {a:aj} (ha:a.aW)
include ha
theorem aj.WV (c w:Int):(a.own c w).aW:=by
 unfold aj.own
 split
 ·exact ⟨ha.sh,ha.de⟩
 ·refine ⟨fun x hx=> ?_,ha.de⟩
  rcases List.mem_or_eq_of_mem_set hx with hx|rfl
  ·exact ha.sh x hx
  ·exact ac6 ha _
theorem aj.amN (c w:Int):(a.tryLock c w).2.2=0->(a.tryLock c w).1.aW:=by
 unfold aj.tryLock
 repeat' split
 all_goals (intro e;first|cases e;done|exact ha|exact ha.WV _ _|exact aj.WV ha _ _)
theorem aj.amO (c w:Int):(a.unlock c w).2=0->(a.unlock c w).1.aW:=by
 unfold aj.unlock
 repeat' split
 all_goals (intro e;first|cases e;done|exact ha|exact aj.WV ha _ _)
theorem aj.amP (i w:Int) (s:ak):(a.lW i w s).2=0->(a.lW i w s).1.aW:=by
 unfold aj.lW
 split
 ·rename_i h;exact fun e=>absurd e h
 ·split
  ·rename_i h;exact fun e=>absurd e h
  ·rename_i h
   split
   ·intro e;cases e
   ·refine fun _=>⟨fun x hx=> ?_,ha.de⟩
    rcases List.mem_or_eq_of_mem_set hx with hx|rfl
    ·exact ha.sh x hx
    ·exact amD (Decidable.not_not.1 h)
theorem aj.ac7 (i w:Int) (s:aJ):(a.jA i w s).2=0->(a.jA i w s).1.aW:=by
 unfold aj.jA
 split
 ·rename_i h;exact fun e=>absurd e h
 ·split
  ·intro e;cases e
  ·exact fun _=>⟨ha.sh,ha.de⟩
theorem aj.amQ (w:Int) (d:Dead):(a.lX w d).2=0->(a.lX w d).1.aW:=by
 unfold aj.lX
 split
 ·intro e;cases e
 ·split
  ·intro e;cases e
  ·split
   ·rename_i h;exact fun e=>absurd e h
   ·rename_i h
    split
    ·intro e;cases e
    ·have:=AP (show iA d.cap d.l=0 from Decidable.not_not.1 h)
     exact fun _=>⟨ha.sh,by simp only;omega⟩
theorem aj.amR (v:Int) (d:Dir):(a.oJ v d).2.2=0->(a.oJ v d).1.aW/\d.val=0:=by
 unfold aj.oJ
 split
 ·rename_i h;exact fun e=>absurd e h
 ·rename_i h
  have h:=Decidable.not_not.1 h
  split
  ·intro e;cases e
  ·split
   ·exact fun _=>⟨ha,h⟩
   ·exact fun _=>⟨⟨ha.sh,ha.de⟩,h⟩
theorem aj.ac8 (w o x:Int):(a.lY w o x).2.2=0->(a.lY w o x).1.aW:=by
 unfold aj.lY
 repeat' split
 all_goals (intro e;first|cases e;done|exact ha|exact ⟨ha.sh,ha.de⟩)
theorem aj.WW (b:Int):(a.tick b).2=0->(a.tick b).1.aW:=by
 unfold aj.tick
 repeat' split
 all_goals (intro e;first|cases e;done|exact ha|exact ⟨ha.sh,ha.de⟩)
theorem aj.amS (i:Int):(a.kE i).1.lt 12:=by
 unfold aj.kE
 split
 ·exact kH
 ·exact ac6 ha _
theorem bf.zu (l:bf) (task:Int):(l.step a task).2.2=0->(l.step a task).1.aW:=by
 unfold bf.step
 simp only
 split
 ·split
  ·rename_i h;exact fun e=>absurd e h
  ·rename_i h
   have h:=aj.amN ha _ _ (Decidable.not_not.1 h)
   repeat' split
   all_goals exact fun _=>h
 ·split
  ·split
   ·rename_i h;exact fun e=>absurd e h
   ·rename_i h
    have h:=aj.amO ha _ _ (Decidable.not_not.1 h)
    repeat' split
    all_goals exact fun _=>h
  ·split
   ·exact fun _=>ha
   ·intro e;cases e
end
theorem aj.NM (s:Setup):(aj.new s).1.aW:=by
 unfold aj.new
 split
 ·exact ⟨(by intro x hx;cases hx),Nat.zero_le _⟩
 ·refine ⟨fun x hx=> ?_,Nat.zero_le _⟩
  simp only [List.mem_map] at hx
  obtain ⟨i,_,rfl⟩:=hx
  unfold Ni
  split
  ·exact WK _ _ _
  ·exact acY _
structure bD.aW (o:bD):Prop where
 os:∀ x ∈ o.aN,x.sm
 od:o.dead.l.length<=1000
 oo:o.order.length<=1000
structure av.aW (s:av):Prop where
 sh:∀ x ∈ s.aN,x.lt 12
 de:s.dead.l.length<=24
 di:s.dir.l.length<=65536
 o:s.out.aW
theorem bD.zw:bD.z.aW:=⟨(by intro x hx;cases hx),Nat.zero_le _,Nat.zero_le _⟩
theorem av.zw:av.z.aW:=⟨(by intro x hx;cases hx),Nat.zero_le _,Nat.zero_le _,bD.zw⟩
theorem kY {s:av} (h:s.aW) (i:Nat):(dW s.aN i).lt 12:=by
 unfold dW
 cases e:s.aN[i]? with
 |none=>exact kH
 |some x=>exact h.sh x (List.mem_of_getElem? e)
theorem nA {s:av} (h:s.aW) (i:Nat):(dW s.aN i).sm:=(kY h i).sm (by omega)
theorem ac9 {o:bD} (h:o.aW) (i:Nat):(dW o.aN i).sm:=by
 unfold dW
 cases e:o.aN[i]? with
 |none=>exact kH
 |some x=>exact h.os x (List.mem_of_getElem? e)
theorem av.NM (c:List Int) (l:Int):(av.new c l).1.aW:=by
 unfold av.new
 repeat' split
 all_goals first|exact av.zw|exact ⟨(by intro x hx;cases hx),Nat.zero_le _,Nat.zero_le _,bD.zw⟩
theorem av.rC {s:av} (h:s.aW):s.bg.aW:=⟨fun x hx=>(h.sh x hx).sm (by omega),by have:=h.de;unfold av.bg;simp only;omega,Nat.zero_le _⟩
section
variable {n:Nat} {a:aj} (ha:a.aW) {s:av} (h:s.aW) {task:Int}
include h
theorem av.ada:s.jl.1.aW:=by
 unfold av.jl
 split
 ·exact h
 ·exact ⟨h.sh,h.de,h.di,h.o⟩
theorem av.WX:s.ja.1.aW:=by
 unfold av.ja
 split
 ·exact ⟨h.sh,h.de,h.di,h.o⟩
 ·exact av.ada h
theorem av.amT {o:bD} (ho:o.aW):(s.tu o).1.aW:=by
 unfold av.tu
 repeat' split
 all_goals first|exact av.zw|exact ⟨h.sh,h.de,h.di,ho⟩|exact av.WX (s:={s with out:=o}) ⟨h.sh,h.de,h.di,ho⟩
include ha
theorem av.amU:(s.mark a task).2.2=0->(s.mark a task).1.aW/\(s.mark a task).2.1.aW:=by
 unfold av.mark
 simp only
 split
 ·exact fun e=>⟨ha,⟨h.sh,h.de,h.di,h.o⟩⟩
 ·split
  ·exact fun e=>⟨ha,h⟩
  ·refine fun e=>⟨aj.ac7 ha _ _ _ e,?_⟩
   split<;>exact ⟨h.sh,h.de,h.di,h.o⟩
theorem av.amV:(s.load a).2.2=0->(s.load a).1.aW/\(s.load a).2.1.aW:=by
 unfold av.load
 simp only
 refine fun e=>⟨ha,?_⟩
 have hx:∀ x ∈ s.aN++[(a.kE (gI s.lock.cells s.at_.toNat)).1],x.lt 12:=by
  intro x hx
  rcases List.mem_append.1 hx with hx|hx
  ·exact h.sh x hx
  ·simp only [List.mem_singleton] at hx;subst hx;exact aj.amS ha _
 have key:∀ y:av×Int,(if (gI s.lock.cells s.at_.toNat==(a.slots.length:Int))=true then ({s with dead:=a.dead.dead},(0:Int)) else ({s with aN:=s.aN++[(a.kE (gI s.lock.cells s.at_.toNat)).1]},(a.kE (gI s.lock.cells s.at_.toNat)).2))=y->y.1.aW:=by
  intro y hy
  split at hy
  ·subst hy;exact ⟨h.sh,ha.de,h.di,h.o⟩
  ·subst hy;exact ⟨hx,h.de,h.di,h.o⟩
 generalize hy:(if (gI s.lock.cells s.at_.toNat==(a.slots.length:Int))=true then ({s with dead:=a.dead.dead},(0:Int)) else ({s with aN:=s.aN++[(a.kE (gI s.lock.cells s.at_.toNat)).1]},(a.kE (gI s.lock.cells s.at_.toNat)).2))=y
 have hy:=key y hy
 split<;>exact ⟨hy.sh,hy.de,hy.di,hy.o⟩
theorem av.amW:(s.store a task).2.2=0->(s.store a task).1.aW/\(s.store a task).2.1.aW:=by
 unfold av.store
 simp only
 have hy:∀ y:aj×Int,(if (gI s.lock.cells (gI s.out.order s.at_.toNat).toNat==(a.slots.length:Int))=true then a.lX task s.out.dead else a.lW (gI s.lock.cells (gI s.out.order s.at_.toNat).toNat) task (dW s.out.aN (gI s.out.order s.at_.toNat).toNat))=y->y.2=0->y.1.aW:=by
  intro y e
  split at e
  ·subst e;exact aj.amQ ha _ _
  ·subst e;exact aj.amP ha _ _ _
 generalize hY:(if (gI s.lock.cells (gI s.out.order s.at_.toNat).toNat==(a.slots.length:Int))=true then a.lX task s.out.dead else a.lW (gI s.lock.cells (gI s.out.order s.at_.toNat).toNat) task (dW s.out.aN (gI s.out.order s.at_.toNat).toNat))=y
 have hy:=hy y hY
 split
 ·rename_i hc;exact fun e=>absurd e hc
 ·rename_i hc
  have hy:=hy (Decidable.not_not.1 hc)
  split
  ·exact fun _=>⟨hy,⟨h.sh,h.de,h.di,h.o⟩⟩
  ·split
   ·exact fun _=>⟨hy,⟨h.sh,h.de,h.di,h.o⟩⟩
   ·exact fun _=>⟨hy,av.WX (s:={s with at_:=s.at_+1,carry:=[]}) ⟨h.sh,h.de,h.di,h.o⟩⟩
theorem av.amX (hw:a.wf n):(s.l6 a).2.2=0->(s.l6 a).1.aW/\(s.l6 a).2.1.aW:=by
 unfold av.l6
 simp only
 split
 ·exact fun _=>⟨ha,⟨h.sh,h.de,Bq hw.dv,h.o⟩⟩
 ·split
  ·rename_i hc;exact fun e=>absurd e hc
  ·split
   ·rename_i hc;exact fun e=>absurd e hc
   ·rename_i hc
    have hx:=aj.amR ha _ _ (Decidable.not_not.1 hc)
    split
    ·exact fun _=>⟨hx.1,⟨h.sh,h.de,h.di,h.o⟩⟩
    ·exact fun _=>⟨hx.1,av.WX (s:={s with dir:=(s.dir.apply (gE s.out.dO 0)).1}) ⟨h.sh,h.de,Bq hx.2,h.o⟩⟩
theorem av.amY:(s.l7 a task).2.2=0->(s.l7 a task).1.aW/\(s.l7 a task).2.1.aW:=by
 unfold av.l7
 simp only
 generalize (if s.yY s.at_=true then dW s.out.aN s.at_.toNat else dW s.aN s.at_.toNat)=now
 split
 ·rename_i hc;exact fun e=>absurd e hc
 ·split
  ·rename_i hc;exact fun e=>absurd e hc
  ·rename_i hc
   have hx:=aj.ac7 ha _ _ _ (Decidable.not_not.1 hc)
   split
   ·exact fun _=>⟨hx,av.ada (s:={s with at_:=s.at_+1}) ⟨h.sh,h.de,h.di,h.o⟩⟩
   ·exact fun _=>⟨hx,⟨h.sh,h.de,h.di,h.o⟩⟩
theorem av.zu (hw:a.wf n) (k:Int):(s.step a task k).2.2=0->(s.step a task k).1.aW/\(s.step a task k).2.1.aW:=by
 have key:(s.step0 a task k).2.2=0->(s.step0 a task k).1.aW/\(s.step0 a task k).2.1.aW:=by
  unfold av.step0
  simp only
  split
  ·split
   ·refine fun e=>⟨bf.zu ha _ _ e,?_⟩
    split<;>exact ⟨h.sh,h.de,h.di,h.o⟩
   ·exact fun e=>⟨bf.zu ha _ _ e,⟨h.sh,h.de,h.di,h.o⟩⟩
  split
  ·exact av.amU ha h
  split
  ·exact av.amV ha h
  split
  ·refine fun _=>⟨ha,?_⟩
   split<;>exact ⟨h.sh,h.de,h.di,h.o⟩
  split
  ·exact av.amW ha h
  split
  ·exact av.amX ha h hw
  split
  ·exact av.amY ha h
  split
  ·refine fun e=>⟨bf.zu ha _ _ e,?_⟩
   split<;>exact ⟨h.sh,h.de,h.di,h.o⟩
  ·exact fun _=>⟨ha,h⟩
 unfold av.step
 split
 ·rename_i hc;exact fun e=>absurd e hc
 ·rename_i hc
  exact fun _=>key (Decidable.not_not.1 hc)
end
end Go.Eng
namespace Go.Eng
open Go
structure Task.aW (t:Task):Prop where
 se:t.sec.aW
 di:t.dir.l.length<=65536
 re:(t.results.length:Int)<=t.entry
 e0:0<=t.entry
 en:t.entry<t.inv.entries
 e6:t.inv.entries<=6
 fi:t.first.length<=6
 sc:t.second.length<=6
abbrev vg (x:gF):Prop:=x.1.aW/\(x.2.1.dn=true\/x.2.1.aW)
def NN (x:gF):Prop:=x.2.2.2=0->vg x
theorem qw {c:Prop} [Decidable c] {x y:gF} (h1:NN x) (h2:NN y):NN (if c then x else y):=by
 split
 ·exact h1
 ·exact h2
theorem DL {s:av} (h:s.aW) {x:ak} (hx:x.sm):bD.aW {s.bg with aN:=[x],order:=[0]}:=
 ⟨fun y hy=>by simp only [List.mem_singleton] at hy;subst hy;exact hx,(av.rC h).od,by simp⟩
section
variable {n:Nat} {a:aj} (ha:a.aW) (hw:a.wf n) {t:Task} (h:t.aW) {k:Int}
section
include h
theorem Task.o7 (r:aV) (k:Int):(t.next r k).dn=true\/(t.next r k).aW:=by
 have h1:=h.re
 have h2:=h.en
 have h3:=h.e0
 by_cases e:t.entry+1=t.inv.entries
 ·left;simp [Task.next,e]
 ·right
  refine ⟨av.zw,Nat.zero_le _,?_,?_,?_,h.e6,Nat.zero_le _,Nat.zero_le _⟩
  ·simp only [Task.next,List.length_append,List.length_cons,List.length_nil];omega
  ·simp only [Task.next];omega
  ·simp only [Task.next];omega
theorem Task.vk (c:List Int) (pc:Int):(t.eU c pc).aW:=⟨av.NM _ _,h.di,h.re,h.e0,h.en,h.e6,h.fi,h.sc⟩
theorem Task.vo {o:bD} (ho:o.aW):(t.dec o).aW:=⟨av.amT h.se ho,h.di,h.re,h.e0,h.en,h.e6,h.fi,h.sc⟩
include hw
theorem Task.WY (r pc:Int):(t.look a r pc).aW:=⟨av.NM _ _,Bq hw.dv,h.re,h.e0,h.en,h.e6,h.fi,h.sc⟩
include ha
theorem Task.Br:(t.go a k).2.2.2.2=0->(t.go a k).1.aW/\(t.go a k).2.1.aW:=by
 unfold Task.go
 simp only
 split
 ·rename_i hc;exact fun e=>absurd e hc
 ·rename_i hc
  have g:=av.zu ha h.se hw _ (Decidable.not_not.1 hc)
  exact fun _=>⟨g.1,⟨g.2,h.di,h.re,h.e0,h.en,h.e6,h.fi,h.sc⟩⟩
end
section
include h
theorem amZ:(l8 t).1.aW:=by
 unfold l8
 simp only
 repeat' split
 all_goals dsimp only
 all_goals first
  |(apply Task.vo;exact ⟨h.se,h.di,h.re,h.e0,h.en,h.e6,h.fi,h.sc⟩;exact av.rC h.se)
  |(apply Task.vo;exact ⟨h.se,h.di,h.re,h.e0,h.en,h.e6,h.fi,h.sc⟩;exact DL h.se ((acZ _ (kY h.se 0)).sm (by omega)))
theorem am0 {t':Task} (e:t'.sec=t.sec):(kF t').1.sm:=by
 unfold kF
 simp only
 rw [e]
 exact (amE _ _ _ _ _ (WM _ _ _ (kY h.se 0))).sm (by omega)
theorem am1:(jV t).1.aW:=by
 unfold jV
 simp only
 repeat' split
 all_goals dsimp only
 all_goals first
  |(apply Task.vo;exact ⟨h.se,h.di,h.re,h.e0,h.en,h.e6,h.fi,h.sc⟩;exact av.rC h.se)
  |(apply Task.vo;exact ⟨h.se,h.di,h.re,h.e0,h.en,h.e6,h.fi,h.sc⟩;exact DL h.se (am0 h rfl))
theorem am2:(settle t).1.sm:=by
 have g:=kY h.se 0
 unfold settle
 simp only
 repeat' split
 ·exact (amF _ _ _ g).sm (by omega)
 ·exact (amG _ _ _ _ g).sm (by omega)
 ·exact (amI _ _ _ _ g).sm (by omega)
theorem am3:(l9 t).1.aW:=by
 unfold l9
 simp only
 repeat' split
 all_goals dsimp only
 all_goals first
  |(apply Task.vo;exact h;exact av.rC h.se)
  |(apply Task.vo;exact h;exact DL h.se (am2 h))
theorem am4 (d:Dead) (k ep:Int):(d.take k ep).1.l.length<=d.l.length/\(d.take k ep).2.1.length<=d.l.length:=by
 have:=VK k ep d.l
 unfold Dead.take
 repeat' split
 all_goals first|exact ⟨Nat.zero_le _,Nat.zero_le _⟩|exact ⟨by simp only;omega,by simp only;omega⟩
theorem am5:(mh t).1.aW:=by
 have hd:=h.se.de
 unfold mh
 simp only
 repeat' split
 all_goals dsimp only
 all_goals first
  |(apply Task.vo;exact h;exact av.rC h.se)
  |skip
 have g:=(am4 h t.sec.dead (uY t) t.sec.aI.epoch).1
 refine Task.vo h ⟨fun y hy=> ?_,by simp only;omega,by simp⟩
 simp only [List.mem_singleton] at hy;subst hy
 exact (ac2 _ (kY h.se 0)).sm (by omega)
theorem WZ {x y:ak} (hx:x.sm) (hy:y.sm):∀ z ∈ placed t x y,z.sm:=by
 intro z hz
 unfold placed at hz
 split at hz<;>simp at hz<;>rcases hz with rfl|rfl<;>assumption
theorem W9:(iL t).length<=1000:=by unfold iL;split<;>simp
theorem Xa:t.sec.dead.l.length<=1000:=by have:=h.se.de;omega
theorem Xb:(qZ t).1.aW:=by
 unfold qZ
 simp only
 repeat' split
 all_goals first|exact av.rC h.se|skip
 exact ⟨WZ h ((amK _ (kY h.se _)).sm (by omega)) ((ac2 _ (kY h.se _)).sm (by omega)),Xa h,W9 h⟩
theorem Xc:(rf t).1.aW:=by
 unfold rf
 simp only
 repeat' split
 all_goals first|exact av.rC h.se|skip
 have g:=ac4 ((IntKind.i64.wrap ((jW t).low+(jW t).high)).tdiv 2) (kY h.se (if t.inv.bq<t.inv.to then 0 else 1))
 exact ⟨WZ h (g.1.sm (by omega)) (g.2.sm (by omega)),Xa h,W9 h⟩
theorem Xd:(rq t).1.aW:=by
 unfold rq
 simp only
 repeat' split
 all_goals first|exact av.rC h.se|skip
 exact ⟨WZ h ((acY (k:=0) _).sm (by omega)) ((amL (kY h.se _) (kY h.se _)).sm (by omega)),Xa h,W9 h⟩
theorem am6 (d:Dead) (ep:Int):(d.clean ep).1.l.length<=d.l.length:=by
 unfold Dead.clean
 repeat' split
 all_goals first|exact Nat.zero_le _|exact List.length_filter_le _ _
theorem Xe:(oP t).1.aW:=by
 have hd:=h.se.de
 unfold oP
 simp only
 repeat' split
 all_goals first
  |exact av.rC h.se
  |exact DL h.se ((amJ _ (kY h.se 0)).sm (by omega))
  |exact DL h.se ((WM _ _ _ (kY h.se 0)).sm (by omega))
  |(have g:=am6 h t.sec.dead t.sec.aI.epoch;exact ⟨(av.rC h.se).os,by simp only;omega,by simp⟩)
theorem am7 (d:Dead) (l:List ai):(d.put l).1.l.length<=d.l.length+l.length:=by
 unfold Dead.put
 repeat' split
 all_goals simp [Dead.z]
theorem Xf:(oQ t).1.aW:=by
 have hd:=h.se.de
 unfold oQ
 simp only
 repeat' split
 all_goals first|exact av.rC h.se|skip
 have g:=ac3 t.sec.dead.room t.sec.aI.epoch t.setup.limit (kY h.se 0)
 have g2:=am7 h t.sec.dead ((dW t.sec.aN 0).qW t.sec.dead.room t.sec.aI.epoch t.setup.limit).2.1
 refine ⟨fun y hy=> ?_,by simp only;omega,by simp⟩
 simp only [List.mem_singleton] at hy;subst hy
 exact g.1.sm (by omega)
end
section
include ha hw h
theorem am8:(oK a t k).2.2.2=0->vg (oK a t k):=by
 unfold oK
 simp only
 split
 ·rename_i hc;exact fun e=>absurd e hc
 split
 ·split
  ·exact fun _=>⟨ha,Task.o7 (t:={t with loaded:=a.fB}) ⟨h.se,h.di,h.re,h.e0,h.en,h.e6,h.fi,h.sc⟩ _ _⟩
  ·exact fun _=>⟨ha,.inr ⟨h.se,h.di,h.re,h.e0,h.en,h.e6,h.fi,h.sc⟩⟩
 split
 ·split
  ·rename_i hc;exact fun e=>absurd e hc
  ·rename_i hc
   have g:=aj.ac8 ha _ _ _ (Decidable.not_not.1 hc)
   split<;>exact fun _=>⟨g,.inr ⟨h.se,h.di,h.re,h.e0,h.en,h.e6,h.fi,h.sc⟩⟩
 split
 ·exact fun _=>⟨ha,.inr (Task.WY hw h _ _)⟩
 split
 ·rename_i hc;exact fun e=>absurd e hc
 rename_i hc
 obtain ⟨g1,g2⟩:=Task.Br ha hw h (Decidable.not_not.1 hc)
 split
 ·exact fun _=>⟨g1,.inr (amZ g2)⟩
 split
 ·exact fun _=>⟨g1,.inr g2⟩
 split
 ·exact fun _=>⟨g1,Task.o7 g2 _ _⟩
 split
 ·exact fun _=>⟨g1,Task.o7 g2 _ _⟩
 ·exact fun _=>⟨g1,.inr ⟨g2.se,g2.di,g2.re,g2.e0,g2.en,g2.e6,g2.fi,g2.sc⟩⟩
theorem am9:(oL a t k).2.2.2=0->vg (oL a t k):=by
 unfold oL
 simp only
 split
 ·rename_i hc;exact fun e=>absurd e hc
 split
 ·exact fun _=>⟨ha,.inr (by apply Task.vk;exact ⟨h.se,Bq hw.dv,h.re,h.e0,h.en,h.e6,h.fi,h.sc⟩)⟩
 split
 ·exact fun _=>⟨ha,.inr (Task.WY hw h _ _)⟩
 split
 ·rename_i hc;exact fun e=>absurd e hc
 rename_i hc
 obtain ⟨g1,g2⟩:=Task.Br ha hw h (Decidable.not_not.1 hc)
 split
 ·exact fun _=>⟨g1,.inr (am1 g2)⟩
 split
 ·exact fun _=>⟨g1,.inr g2⟩
 split
 ·exact fun _=>⟨g1,Task.o7 g2 _ _⟩
 split
 ·exact fun _=>⟨g1,Task.o7 g2 _ _⟩
 split
 ·exact fun _=>⟨g1,Task.o7 g2 _ _⟩
 ·exact fun _=>⟨g1,.inr ⟨g2.se,g2.di,g2.re,g2.e0,g2.en,g2.e6,g2.fi,g2.sc⟩⟩
theorem ana:(mg a t k).2.2.2=0->vg (mg a t k):=by
 unfold mg
 simp only
 split
 ·rename_i hc;exact fun e=>absurd e hc
 split
 ·split
  ·exact fun _=>⟨ha,Task.o7 h _ _⟩
  ·refine fun _=>⟨ha,.inr ?_⟩
   split
   ·apply Task.vk;exact ⟨h.se,h.di,h.re,h.e0,h.en,h.e6,h.fi,h.sc⟩
   ·exact ⟨h.se,h.di,h.re,h.e0,h.en,h.e6,h.fi,h.sc⟩
 split
 ·exact fun _=>⟨ha,.inr (Task.WY hw h _ _)⟩
 split
 ·rename_i hc;exact fun e=>absurd e hc
 rename_i hc
 obtain ⟨g1,g2⟩:=Task.Br ha hw h (Decidable.not_not.1 hc)
 split
 ·exact fun _=>⟨g1,.inr (am3 g2)⟩
 split
 ·exact fun _=>⟨g1,.inr g2⟩
 split
 ·exact fun _=>⟨g1,.inr ⟨g2.se,g2.di,g2.re,g2.e0,g2.en,g2.e6,g2.fi,g2.sc⟩⟩
 ·exact fun _=>⟨g1,Task.o7 g2 _ _⟩
theorem anb:(oM a t k).2.2.2=0->vg (oM a t k):=by
 unfold oM
 simp only
 split
 ·rename_i hc;exact fun e=>absurd e hc
 split
 ·split
  ·exact fun _=>⟨ha,Task.o7 (t:={t with loaded:=a.epoch}) ⟨h.se,h.di,h.re,h.e0,h.en,h.e6,h.fi,h.sc⟩ _ _⟩
  ·exact fun _=>⟨ha,.inr ⟨h.se,h.di,h.re,h.e0,h.en,h.e6,h.fi,h.sc⟩⟩
 split
 ·rename_i hc;exact fun e=>absurd e hc
 rename_i hc
 have g:=aj.ac8 ha _ _ _ (Decidable.not_not.1 hc)
 split
 ·exact fun _=>⟨g,.inr ⟨h.se,h.di,h.re,h.e0,h.en,h.e6,h.fi,h.sc⟩⟩
 ·exact fun _=>⟨g,Task.o7 h _ _⟩
omit h ha in
theorem adb {i:Nat} (e:(a.ql i).2=0):i<6:=by
 have h6:=hw.n6
 unfold aj.ql at e
 split at e
 ·cases e
 ·rename_i hc
  simp [aj.slot,hw.sl] at hc
  omega
theorem anc:(oN a t k).2.2.2=0->vg (oN a t k):=by
 unfold oN
 simp only
 split
 ·rename_i hc;exact fun e=>absurd e hc
 split
 ·exact fun _=>⟨ha,.inr ⟨h.se,h.di,h.re,h.e0,h.en,h.e6,Nat.zero_le _,Nat.zero_le _⟩⟩
 split
 ·split
  ·rename_i hc;exact fun e=>absurd e hc
  ·rename_i hc
   have g:=adb hw (Decidable.not_not.1 hc)
   refine fun _=>⟨ha,.inr ?_⟩
   split<;>exact ⟨h.se,h.di,h.re,h.e0,h.en,h.e6,by simp only [List.length_append,List.length_cons,List.length_nil];omega,h.sc⟩
 split
 ·split
  ·rename_i hc;exact fun e=>absurd e hc
  ·rename_i hc
   have g:=adb hw (Decidable.not_not.1 hc)
   refine fun _=>⟨ha,.inr ?_⟩
   split<;>exact ⟨h.se,h.di,h.re,h.e0,h.en,h.e6,h.fi,by simp only [List.length_append,List.length_cons,List.length_nil];omega⟩
 split
 ·exact fun _=>⟨ha,.inr ⟨h.se,h.di,h.re,h.e0,h.en,h.e6,h.fi,h.sc⟩⟩
 ·exact fun _=>⟨ha,Task.o7 h _ _⟩
theorem ane:(oO a t k).2.2.2=0->vg (oO a t k):=by
 unfold oO
 simp only
 split
 ·rename_i hc;exact fun e=>absurd e hc
 split
 ·exact fun _=>⟨ha,.inr (by apply Task.vk;exact ⟨h.se,Bq hw.dv,h.re,h.e0,h.en,h.e6,h.fi,h.sc⟩)⟩
 split
 ·rename_i hc;exact fun e=>absurd e hc
 rename_i hc
 obtain ⟨g1,g2⟩:=Task.Br ha hw h (Decidable.not_not.1 hc)
 split
 ·exact fun _=>⟨g1,.inr (am5 g2)⟩
 split
 ·exact fun _=>⟨g1,.inr g2⟩
 split
 ·exact fun _=>⟨g1,.inr ⟨g2.se,g2.di,g2.re,g2.e0,g2.en,g2.e6,g2.fi,g2.sc⟩⟩
 ·exact fun _=>⟨g1,Task.o7 g2 _ _⟩
theorem DN {plan:Task->qY} (lo hi:Int) (cells:Task->List Int) (hp:∀ t':Task,t'.aW->(plan t').1.aW):(jB plan lo hi cells a t k).2.2.2=0->vg (jB plan lo hi cells a t k):=by
 unfold jB
 dsimp only
 split
 ·rename_i hc;exact fun e=>absurd e hc
 have h1:(if (t.pc==0)=true then t.eU (cells t) 1 else t).aW:=by
  split
  ·exact Task.vk h _ _
  ·exact h
 generalize (if (t.pc==0)=true then t.eU (cells t) 1 else t)=t1 at h1 ⊢
 split
 ·rename_i hc;exact fun e=>absurd e hc
 rename_i hc
 obtain ⟨g1,g2⟩:=Task.Br ha hw h1 (Decidable.not_not.1 hc)
 split
 ·exact fun _=>⟨g1,.inr (Task.vo g2 (hp _ g2))⟩
 split
 ·exact fun _=>⟨g1,.inr g2⟩
 ·exact fun _=>⟨g1,Task.o7 g2 _ _⟩
theorem anf:(eX a t k).2.2.2=0->vg (eX a t k):=by
 suffices q:NN (eX a t k) from q
 unfold eX
 refine qw (fun e=>by cases e) ?_
 refine qw (am8 ha hw h) ?_
 refine qw (am9 ha hw h) ?_
 refine qw (ana ha hw h) ?_
 refine qw (anb ha hw h) ?_
 refine qw (anc ha hw h) ?_
 refine qw (ane ha hw h) ?_
 refine qw (DN ha hw h _ _ _ fun _=>Xb) ?_
 refine qw (DN ha hw h _ _ _ fun _=>Xc) ?_
 refine qw (DN ha hw h _ _ _ fun _=>Xd) ?_
 refine qw (DN ha hw h _ _ _ fun _=>Xe) ?_
 exact qw (DN ha hw h _ _ _ fun _=>Xf) (fun e=>by cases e)
end
end
structure aH.aW (w:aH):Prop where
 ar:w.arena.aW
 tk:∀ t ∈ w.tasks,t.dn=true\/t.aW
theorem bM.ang {i:bM} {u:Setup} (h:i.val u=0):i.entries<=6:=by
 unfold bM.val at h
 unfold bM.entries
 simp only [beq_iff_eq,Bool.or_eq_true,decide_eq_true_eq] at h ⊢
 split
 ·rename_i h1
  rw [if_pos h1] at h
  split at h
  ·cases h
  ·omega
 ·rename_i h1
  rw [if_neg h1] at h
  split
  ·rename_i h3
   rw [if_neg (by omega),if_pos h3] at h
   split at h
   ·cases h
   ·omega
  ·omega
theorem Task.anh {num k:Int} {i:bM} {u:Setup} (e:(Task.start num i u k).2=0):(Task.start num i u k).1.aW:=by
 unfold Task.start at e ⊢
 split
 ·rename_i hc;rw [if_pos hc] at e;cases e
 rename_i hc;rw [if_neg hc] at e
 split
 ·rename_i hc;rw [if_pos hc] at e;exact absurd e hc
 rename_i hc;rw [if_neg hc] at e
 split
 ·rename_i hc;rw [if_pos hc] at e;exact absurd e hc
 rename_i hc
 have hv:=Decidable.not_not.1 hc
 exact ⟨av.zw,Nat.zero_le _,by simp,by simp,bM.ab8 hv,bM.ang hv,Nat.zero_le _,Nat.zero_le _⟩
section
variable {n m:Nat} {w:aH} (h:w.wf n m) (hl:w.aW)
include h hl
theorem aH.zu {i:Nat} (hi:i<w.tasks.length) (hd:(gT w.tasks i).dn=false) (e:(w.step i).2=0):(w.step i).1.aW:=by
 have ht:=(hl.tk _ (Wh hi)).resolve_left (by simp [hd])
 unfold aH.step at e ⊢
 simp only at e ⊢
 split
 ·rename_i hc;rw [if_pos hc] at e;exact absurd e hc
 ·rename_i hc
  have hs:=anf hl.ar h.ar ht (Decidable.not_not.1 hc)
  refine ⟨hs.1,fun t hx=> ?_⟩
  rcases List.mem_or_eq_of_mem_set hx with hx|rfl
  ·exact hl.tk t hx
  ·exact hs.2
theorem aH.ade {k:Int} (e:(w.pick k).2=0):(w.pick k).1.aW:=by
 unfold aH.pick at e ⊢
 split
 ·rename_i hc;rw [if_pos hc] at e;cases e
 ·rename_i hc;rw [if_neg hc] at e
  simp at hc
  have hx:gI w.opn k.toNat ∈ w.opn:=by
   unfold gI;rw [List.getElem?_eq_getElem (by omega)];exact List.getElem_mem _
  obtain ⟨j,h1,h2,h3⟩:=Nr w.tasks 0 _ hx
  have hj:(gI w.opn k.toNat).toNat=j:=by rw [h1];omega
  rw [hj] at e ⊢
  exact aH.zu h hl h2 h3 e
theorem aH.WW {b:Int} (e:(w.tick b).2=0):(w.tick b).1.aW:=by
 unfold aH.tick at e ⊢
 split
 ·rename_i hc;rw [if_pos hc] at e;exact absurd e hc
 ·rename_i hc
  exact ⟨aj.WW hl.ar _ (Decidable.not_not.1 hc),hl.tk⟩
theorem aH.ani {i:bM} (e:(w.invoke i).2.2=0):(w.invoke i).1.aW:=by
 unfold aH.invoke at e ⊢
 split
 ·rename_i hc;rw [if_pos hc] at e;cases e
 rename_i hc;rw [if_neg hc] at e
 simp only at e ⊢
 split
 ·rename_i hc;rw [if_pos hc] at e;exact absurd e hc
 rename_i hd
 refine ⟨hl.ar,fun t hx=> ?_⟩
 rcases List.mem_append.1 hx with hx|hx
 ·exact hl.tk t hx
 ·simp only [List.mem_singleton] at hx;subst hx;exact .inr (Task.anh (Decidable.not_not.1 hd))
end
end Go.Eng
namespace Go.Eng
open Go Go.Proofs
theorem anj (a:aj) (s:cB) (n:Int):Fn Tryz.prog 192 [.agg a.enc,.agg s.enc,I n] [] (.aF [.agg (cB.step a s n).1.enc,I (cB.step a s n).2]) [] []:=by
 generalize hR:cB.step a s n=R
 unfold cB.step at hR
 refine Fn.aO Sq (by simp) ?_
 unfold Sn SC.mk' aj.enc cB.enc
 simp only [go_sem]
 have aK:=zo a 1
 have aU:=zo a 2
 have hJ:=trivial
 repeat' first
  |(first|refine sC ?_|refine sD ?_);simp only [hJ,go_sem]
  |(first|refine bC (fun hq=> ?_) (fun hq=> ?_)|refine dR (fun hq=> ?_) (fun hq=> ?_)|refine dD (fun hq=> ?_) (fun hq=> ?_))<;>simp only [hq,hJ,go_sem]
  |refine sM ?_;simp only [ay,rv,au,get,hJ,go_sem]
  |refine bn ?_
  |fail
 all_goals clear aK aU hJ
 all_goals (subst hR;simp_all [cB.enc,aj.load,rv,au])
theorem adf (r:Int):Fn Tryz.prog 311 [I r] [] (.aF [.agg (Walk.begin r).1.enc,I (Walk.begin r).2]) [] []:=by
 generalize hR:Walk.begin r=R
 unfold Walk.begin at hR
 refine Fn.aO Ud (by simp) ?_
 unfold Ub SC.mk'
 simp only [go_sem]
 exact aX
theorem tK (w:Walk) (l h:Int):Fn Tryz.prog 370 [.agg w.enc,I l,I h] [] (.aF [.agg (w.ng l h).1.enc,I (w.ng l h).2]) [] []:=by
 generalize hR:w.ng l h=R
 unfold Walk.ng at hR
 refine Fn.aO ai6 (by simp) ?_
 unfold UJ SC.mk' Walk.enc
 simp only [go_sem]
 by_cases h0:l<0\/w.next<l\/h<w.next\/65536<=h\/w.covered<0\/65536<=w.covered
 ·rw [if_pos (by simpa using h0)] at hR
  exact aX
 rw [if_neg (by simpa using h0)] at hR
 have t1:=Int.tmod_nonneg 65536 (show 0<=h+1 by omega)
 have t2:=Int.tmod_lt_of_pos (h+1) (show (0:Int)<65536 by omega)
 have w1:IntKind.i64.wrap (h+1)=h+1:=bE (by omega)
 have w2:IntKind.i64.wrap ((h+1).tmod 65536)=(h+1).tmod 65536:=bE (by omega)
 have w3:IntKind.i64.wrap (w.covered+h)=w.covered+h:=bE (by omega)
 have w4:IntKind.i64.wrap (w.covered+h - w.next)=w.covered+h - w.next:=bE (by omega)
 have w5:IntKind.i64.wrap (w.covered+h - w.next+1)=w.covered+h - w.next+1:=bE (by omega)
 have hJ:=ah w1 (ah w2 (ah w3 (ah w4 w5)))
 exact aZ
theorem jC (w:Walk):Fn Tryz.prog 371 [.agg w.enc] [] (Bo w.over) [] []:=by
 refine Fn.aO ai7 (by simp) ?_
 unfold UK SC.mk' Walk.enc
 simp only [go_sem]
 have hJ:=trivial
 repeat' first
  |(first|refine sC ?_|refine sD ?_);simp only [hJ,go_sem]
  |(first|refine bC (fun hq=> ?_) (fun hq=> ?_)|refine dR (fun hq=> ?_) (fun hq=> ?_)|refine dD (fun hq=> ?_) (fun hq=> ?_))<;>simp only [hq,hJ,go_sem]
  |refine sM ?_;simp only [ay,rv,au,get,hJ,go_sem]
  |refine bn ?_
  |fail
 all_goals clear hJ
 all_goals simp_all [Walk.over,-Int.not_lt,-Int.not_le]
end Go.Eng
