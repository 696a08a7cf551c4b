/-
  Part of a proof: lemmas and definitions of this work.
  No condition.
-/
import Derived.Test.YthhjbngoibmpgaaGreatH08
import Derived.Test.YthhjbngoibmpgaaGreatH17
set_option linter.all false
set_option maxRecDepth 100000
set_option maxHeartbeats 8000000
namespace Go.Eng
open Go
def aj.lt (k:Nat) (s:aj):Prop:=s.aL.l.length<=k/\s.aL.heap.length<=k
theorem aj.lt.mono {k k':Nat} {s:aj} (h:s.lt k) (hk:k<=k'):s.lt k':=⟨Nat.le_trans h.1 hk,Nat.le_trans h.2 hk⟩
theorem aj.lt.sm {k:Nat} {s:aj} (h:s.lt k) (hk:k<=800):s.sm:=h.mono hk
theorem ja {k:Nat}:aj.z.lt k:=⟨Nat.zero_le _,Nat.zero_le _⟩
theorem adu {s:aj} (h:s.val=0):s.lt 12:=by
 have h3:=Table.val_zero (yH h).2
 exact ⟨by omega,by omega⟩
section
variable {k:Nat} {s:aj}
theorem IU (c l h:Int):(aj.new c l h).1.lt k:=by
 unfold aj.new
 repeat' split
 all_goals exact ⟨Nat.zero_le _,Nat.zero_le _⟩
theorem Qv (c:Int):(aj.free c).1.lt k:=by
 unfold aj.free
 repeat' split
 all_goals exact ⟨Nat.zero_le _,Nat.zero_le _⟩
theorem Qw (m:ak) (h:s.lt k):(s.put m).1.lt k:=by
 unfold aj.put
 repeat' split
 all_goals first|exact ja|exact h
theorem IV (mx dl ep li:Int):∀ (l:List ak) (k:Nat) (s:aj) (out:List Lease),s.lt k->(qX mx dl ep li l s out).1.lt (k+l.length)
 |[],k,s,out,h=>h
 |m::r,k,s,out,h=>by
  simp only [qX]
  split
  ·split
   ·have g:=PG s.aL m.Bg.1 dl
    refine (IV mx dl ep li r (k+1) _ _ ⟨Nat.le_trans g.1 (by have:=h.1;omega),Nat.le_trans g.2 (by have:=h.2;omega)⟩).mono (by simp;omega)
   ·exact (IV mx dl ep li r k _ _ h).mono (by simp)
  ·exact h.mono (by simp)
theorem adw (mx now eP ep li:Int) (h:s.lt k):(s.take mx now eP ep li).1.lt (k+12):=by
 unfold aj.take
 repeat' split
 all_goals first|exact ja|skip
 exact (IV _ _ _ _ _ k s [] h).mono (by have:=s.ready.yM;omega)
theorem Qx:∀ (l:List Int) (s:aj),s.lt k->(Bl l s).lt k
 |[],s,h=>h
 |id::r,s,h=>by
  simp only [Bl]
  have g:=BN s.aL id
  exact Qx r _ ⟨Nat.le_trans g.1 h.1,Nat.le_trans g.2 h.2⟩
theorem Qy (now ep li:Int) (h:s.lt k):(s.expire now ep li).1.lt k:=by
 unfold aj.expire
 repeat' split
 all_goals first|exact ja|exact Qx _ _ h
theorem adx (x:Hd) (now ep:Int) (h:s.lt k):(s.G5 x now ep).1.lt k:=by
 have g:=BN s.aL x.id
 unfold aj.G5
 repeat' split
 all_goals first|exact ja|exact ⟨Nat.le_trans g.1 h.1,Nat.le_trans g.2 h.2⟩
theorem ady (x:Hd) (now ep li:Int) (h:s.lt k):(s.G6 x now ep li).1.lt k:=by
 have g:=BN s.aL x.id
 unfold aj.G6
 by_cases h1:s.held x now ep (j6 li)≠0
 ·rw [if_pos h1];exact ja
 ·rw [if_neg h1];exact ⟨Nat.le_trans g.1 h.1,Nat.le_trans g.2 h.2⟩
theorem adz (t:Table) (id dl:Int):(t.extend id dl).1.l.length<=t.l.length/\(t.extend id dl).1.heap.length<=t.heap.length+1:=by
 have g:=Pv t.heap id
 have g2:=Pt (yw t.heap id).1 ⟨dl,id⟩
 unfold Table.extend
 repeat' split
 all_goals first|exact ⟨Nat.zero_le _,Nat.zero_le _⟩|exact ⟨by simp,by simp only;omega⟩
theorem adA (x:Hd) (now ep eP:Int) (h:s.lt k):(s.change x now ep eP).1.lt (k+1):=by
 have g:=adz s.aL x.id (now+eP)
 unfold aj.change
 repeat' split
 all_goals first|exact ja|exact ⟨Nat.le_trans g.1 (by have:=h.1;omega),Nat.le_trans g.2 (by have:=h.2;omega)⟩
theorem IW (ep:Int):∀ (l:List ak) (s:aj) (n:Int),s.lt k->(yB ep l s n).1.lt k
 |[],s,n,h=>h
 |m::r,s,n,h=>by
  simp only [yB]
  split
  ·exact IW ep r _ _ h
  ·exact IW ep r _ _ h
theorem IX (ep:Int):∀ (l:List ak) (s:aj) (n:Int),s.lt k->(yC ep l s n).1.lt k
 |[],s,n,h=>h
 |m::r,s,n,h=>by
  have g:=BN s.aL m.id
  simp only [yC]
  split
  ·exact IX ep r _ _ ⟨Nat.le_trans g.1 h.1,Nat.le_trans g.2 h.2⟩
  ·exact IX ep r _ _ h
theorem adB (ep:Int) (h:s.lt k):(s.clean ep).1.lt k:=by
 unfold aj.clean
 repeat' split
 all_goals first|exact ja|exact IX _ _ _ _ (IW _ _ _ _ h)
theorem adC (n:Int) (h:s.lt k):(s.qV n).1.lt k:=by
 unfold aj.qV
 repeat' split
 all_goals first|exact ja|exact h
theorem Qz (lo hi:Int):∀ (l:List ak) (s:aj),s.lt k->(Bn lo hi l s).1.lt k
 |[],s,h=>h
 |m::r,s,h=>by
  simp only [Bn]
  split
  ·exact ja
  ·exact Qz lo hi r _ (Qw _ h)
theorem QA (l:List ak) (h:s.lt k):(s.Bp l).1.lt k:=by
 unfold aj.Bp
 repeat' split
 all_goals first|exact ja|exact Qz _ _ _ _ h
theorem IY (n ep li:Int):∀ (l:List ak) (s:aj) (out:List ak),s.lt k->(o7 n ep li l s out).1.lt k
 |[],s,out,h=>h
 |m::r,s,out,h=>by
  simp only [o7]
  split
  ·split
   ·exact IY n ep li r _ _ h
   ·exact IY n ep li r _ _ h
  ·exact h
theorem IZ (n ep li:Int):∀ (l:List ak) (s:aj) (out:List ak),(o7 n ep li l s out).2.length<=out.length+l.length
 |[],s,out=>by simp [o7]
 |m::r,s,out=>by
  simp only [o7]
  split
  ·split
   ·have:=IZ n ep li r {s with ready:=(s.ready.remove m.id).1} (out++[m])
    simp at this ⊢;omega
   ·have:=IZ n ep li r s out
    simp at this ⊢;omega
  ·simp
theorem adD (n ep li:Int) (h:s.lt k):(s.yD n ep li).1.lt k/\(s.yD n ep li).2.1.length<=12:=by
 unfold aj.yD
 repeat' split
 all_goals first|exact ⟨ja,Nat.zero_le _⟩|skip
 refine ⟨IY _ _ _ _ _ _ h,?_⟩
 have g1:=IZ n ep li s.ready.list s []
 have g2:=s.ready.yM
 simp only [List.length_nil] at g1
 simp only
 omega
theorem I4:∀ (l:List ak) (s:aj),s.lt k->(yE l s).lt k
 |[],s,h=>h
 |m::r,s,h=>by
  simp only [yE]
  split
  ·exact I4 r _ h
  ·exact I4 r _ h
theorem I5:∀ (l:List Lease) (k:Nat) (s:aj),s.lt k->(yF l s).lt (k+l.length)
 |[],k,s,h=>h
 |x::r,k,s,h=>by
  have g:=PG s.aL x.msg x.dl
  simp only [yF]
  split
  ·exact (I5 r (k+1) _ ⟨Nat.le_trans g.1 (by have:=h.1;omega),Nat.le_trans g.2 (by have:=h.2;omega)⟩).mono (by simp;omega)
  ·exact (I5 r k _ h).mono (by simp)
theorem I6 (L:List ak) (X:List Lease) (h:s.lt k):(s.fill L X).lt (k+X.length):=I5 _ _ _ (I4 _ _ h)
theorem adE (mid:Int) (h:s.lt k):(s.divide mid).1.lt k/\(s.divide mid).2.1.lt k:=by
 unfold aj.divide
 repeat' split
 all_goals first|exact ⟨ja,ja⟩|exact ⟨(I6 _ _ (IU (k:=0) _ _ _)).mono (by have:=h.1;omega),(I6 _ _ (IU (k:=0) _ _ _)).mono (by have:=h.1;omega)⟩
theorem adF {b:aj} {m:Nat} (h:s.lt k) (hb:b.lt m):(s.G7 b).1.lt (k+m):=by
 unfold aj.G7
 repeat' split
 all_goals first|exact ja|skip
 refine aj.lt.mono (k:=k+b.aL.l.length) (I6 _ _ h) ?_
 have:=hb.1
 omega
end
theorem QB (d:Dir):∀ (l:List Span) (nx:Int),nx<=65536->kg d l nx=0->(l.length:Int)+nx<=65536
 |[],nx,h,e=>by simpa using h
 |x::r,nx,h,e=>by
  simp only [kg] at e
  split at e
  ·cases e
  ·rename_i hc
   simp at hc
   have:=QB d r (x.high+1) (by omega) e
   simp;omega
theorem yR {d:Dir} (h:d.val=0):d.l.length<=65536:=by
 have:=QB d d.l 0 (by omega) (Dir.yH h).1
 omega
structure ai.aT (a:ai):Prop where
 sh:∀ x ∈ a.slots,x.bM.lt 12
 de:a.dead.dead.l.length<=24
theorem QC {a:ai} (h:a.aT) (i:Nat):(dX a.slots i).bM.lt 12:=by
 unfold dX
 cases e:a.slots[i]? with
 |none=>exact ja
 |some x=>exact h.sh x (List.mem_of_getElem? e)
section
variable {a:ai} (ha:a.aT)
include ha
theorem ai.I7 (c w:Int):(a.own c w).aT:=by
 unfold ai.own
 split
 ·exact ⟨ha.sh,ha.de⟩
 ·refine ⟨fun x hx=> ?_,ha.de⟩
  rcases List.mem_or_eq_of_mem_set hx with hx|rfl
  ·exact ha.sh x hx
  ·exact QC ha _
theorem ai.adG (c w:Int):(a.tryLock c w).2.2=0->(a.tryLock c w).1.aT:=by
 unfold ai.tryLock
 repeat' split
 all_goals (intro e;first|cases e;done|exact ha|exact ha.I7 _ _|exact ai.I7 ha _ _)
theorem ai.adH (c w:Int):(a.unlock c w).2=0->(a.unlock c w).1.aT:=by
 unfold ai.unlock
 repeat' split
 all_goals (intro e;first|cases e;done|exact ha|exact ai.I7 ha _ _)
theorem ai.adI (i w:Int) (s:aj):(a.iB i w s).2=0->(a.iB i w s).1.aT:=by
 unfold ai.iB
 split
 ·rename_i h;exact fun e=>absurd e h
 ·split
  ·rename_i h;exact fun e=>absurd e h
  ·rename_i h
   split
   ·intro e;cases e
   ·refine fun _=>⟨fun x hx=> ?_,ha.de⟩
    rcases List.mem_or_eq_of_mem_set hx with hx|rfl
    ·exact ha.sh x hx
    ·exact adu (Decidable.not_not.1 h)
theorem ai.QD (i w:Int) (s:aG):(a.gU i w s).2=0->(a.gU i w s).1.aT:=by
 unfold ai.gU
 split
 ·rename_i h;exact fun e=>absurd e h
 ·split
  ·intro e;cases e
  ·exact fun _=>⟨ha.sh,ha.de⟩
theorem ai.adJ (w:Int) (d:Dead):(a.iC w d).2=0->(a.iC w d).1.aT:=by
 unfold ai.iC
 split
 ·intro e;cases e
 ·split
  ·intro e;cases e
  ·split
   ·rename_i h;exact fun e=>absurd e h
   ·rename_i h
    split
    ·intro e;cases e
    ·have:=aae (show qO d.cap d.l=0 from Decidable.not_not.1 h)
     exact fun _=>⟨ha.sh,by simp only;omega⟩
theorem ai.adK (v:Int) (d:Dir):(a.qZ v d).2.2=0->(a.qZ v d).1.aT/\d.val=0:=by
 unfold ai.qZ
 split
 ·rename_i h;exact fun e=>absurd e h
 ·rename_i h
  have h:=Decidable.not_not.1 h
  split
  ·intro e;cases e
  ·split
   ·exact fun _=>⟨ha,h⟩
   ·exact fun _=>⟨⟨ha.sh,ha.de⟩,h⟩
theorem ai.QE (w o x:Int):(a.rf w o x).2.2=0->(a.rf w o x).1.aT:=by
 unfold ai.rf
 repeat' split
 all_goals (intro e;first|cases e;done|exact ha|exact ⟨ha.sh,ha.de⟩)
theorem ai.adL (i:Int):(a.fD i).1.lt 12:=by
 unfold ai.fD
 split
 ·exact ja
 ·exact QC ha _
theorem aC.ug (l:aC) (task:Int):(l.step a task).2.2=0->(l.step a task).1.aT:=by
 unfold aC.step
 simp only
 split
 ·split
  ·rename_i h;exact fun e=>absurd e h
  ·rename_i h
   have h:=ai.adG ha _ _ (Decidable.not_not.1 h)
   repeat' split
   all_goals exact fun _=>h
 ·split
  ·split
   ·rename_i h;exact fun e=>absurd e h
   ·rename_i h
    have h:=ai.adH ha _ _ (Decidable.not_not.1 h)
    repeat' split
    all_goals exact fun _=>h
  ·split
   ·exact fun _=>ha
   ·intro e;cases e
end
theorem ai.yS (s:Setup):(ai.new s).1.aT:=by
 unfold ai.new
 split
 ·exact ⟨(by intro x hx;cases hx),Nat.zero_le _⟩
 ·refine ⟨fun x hx=> ?_,Nat.zero_le _⟩
  simp only [List.mem_map] at hx
  obtain ⟨i,_,rfl⟩:=hx
  unfold nY
  split
  ·exact IU _ _ _
  ·exact Qv _
structure bL.aT (o:bL):Prop where
 os:∀ x ∈ o.aA,x.sm
 od:o.dead.l.length<=1000
 oo:o.order.length<=1000
structure ah.aT (s:ah):Prop where
 sh:∀ x ∈ s.aA,x.lt 12
 de:s.dead.l.length<=24
 di:s.dir.l.length<=65536
 o:s.out.aT
theorem bL.vV:bL.z.aT:=⟨(by intro x hx;cases hx),Nat.zero_le _,Nat.zero_le _⟩
theorem ah.vV:ah.z.aT:=⟨(by intro x hx;cases hx),Nat.zero_le _,Nat.zero_le _,bL.vV⟩
theorem lu {s:ah} (h:s.aT) (i:Nat):(bV s.aA i).lt 12:=by
 unfold bV
 cases e:s.aA[i]? with
 |none=>exact ja
 |some x=>exact h.sh x (List.mem_of_getElem? e)
theorem QF {s:ah} (h:s.aT) (i:Nat):(bV s.aA i).sm:=(lu h i).sm (by omega)
theorem QG {o:bL} (h:o.aT) (i:Nat):(bV o.aA i).sm:=by
 unfold bV
 cases e:o.aA[i]? with
 |none=>exact ja
 |some x=>exact h.os x (List.mem_of_getElem? e)
theorem ah.yS (c:List Int) (l:Int):(ah.new c l).1.aT:=by
 unfold ah.new
 repeat' split
 all_goals first|exact ah.vV|exact ⟨(by intro x hx;cases hx),Nat.zero_le _,Nat.zero_le _,bL.vV⟩
theorem ah.lC {s:ah} (h:s.aT):s.bg.aT:=⟨fun x hx=>(h.sh x hx).sm (by omega),by have:=h.de;unfold ah.bg;simp only;omega,Nat.zero_le _⟩
section
variable {n:Nat} {a:ai} (ha:a.aT) {s:ah} (h:s.aT) {task:Int}
include h
theorem ah.QH:s.eD.1.aT:=by
 unfold ah.eD
 split
 ·exact h
 ·exact ⟨h.sh,h.de,h.di,h.o⟩
theorem ah.I8:s.dz.1.aT:=by
 unfold ah.dz
 split
 ·exact ⟨h.sh,h.de,h.di,h.o⟩
 ·exact ah.QH h
theorem ah.QI {o:bL} (ho:o.aT):(s.fE o).1.aT:=by
 unfold ah.fE
 repeat' split
 all_goals first|exact ah.vV|exact ⟨h.sh,h.de,h.di,ho⟩|exact ah.I8 (s:={s with out:=o}) ⟨h.sh,h.de,h.di,ho⟩
include ha
theorem ah.adM:(s.mark a task).2.2=0->(s.mark a task).1.aT/\(s.mark a task).2.1.aT:=by
 unfold ah.mark
 simp only
 split
 ·exact fun e=>⟨ha,⟨h.sh,h.de,h.di,h.o⟩⟩
 ·split
  ·exact fun e=>⟨ha,h⟩
  ·refine fun e=>⟨ai.QD ha _ _ _ e,?_⟩
   split<;>exact ⟨h.sh,h.de,h.di,h.o⟩
theorem ah.adN:(s.load a).2.2=0->(s.load a).1.aT/\(s.load a).2.1.aT:=by
 unfold ah.load
 simp only
 refine fun e=>⟨ha,?_⟩
 have hx:∀ x ∈ s.aA++[(a.fD (gI s.lock.cells s.at_.toNat)).1],x.lt 12:=by
  intro x hx
  rcases List.mem_append.1 hx with hx|hx
  ·exact h.sh x hx
  ·simp only [List.mem_singleton] at hx;subst hx;exact ai.adL ha _
 have key:∀ y:ah×Int,(if (gI s.lock.cells s.at_.toNat==(a.slots.length:Int))=true then ({s with dead:=a.dead.dead},(0:Int)) else ({s with aA:=s.aA++[(a.fD (gI s.lock.cells s.at_.toNat)).1]},(a.fD (gI s.lock.cells s.at_.toNat)).2))=y->y.1.aT:=by
  intro y hy
  split at hy
  ·subst hy;exact ⟨h.sh,ha.de,h.di,h.o⟩
  ·subst hy;exact ⟨hx,h.de,h.di,h.o⟩
 generalize hy:(if (gI s.lock.cells s.at_.toNat==(a.slots.length:Int))=true then ({s with dead:=a.dead.dead},(0:Int)) else ({s with aA:=s.aA++[(a.fD (gI s.lock.cells s.at_.toNat)).1]},(a.fD (gI s.lock.cells s.at_.toNat)).2))=y
 have hy:=key y hy
 split<;>exact ⟨hy.sh,hy.de,hy.di,hy.o⟩
theorem ah.adO:(s.store a task).2.2=0->(s.store a task).1.aT/\(s.store a task).2.1.aT:=by
 unfold ah.store
 simp only
 have hy:∀ y:ai×Int,(if (gI s.lock.cells (gI s.out.order s.at_.toNat).toNat==(a.slots.length:Int))=true then a.iC task s.out.dead else a.iB (gI s.lock.cells (gI s.out.order s.at_.toNat).toNat) task (bV s.out.aA (gI s.out.order s.at_.toNat).toNat))=y->y.2=0->y.1.aT:=by
  intro y e
  split at e
  ·subst e;exact ai.adJ ha _ _
  ·subst e;exact ai.adI ha _ _ _
 generalize hY:(if (gI s.lock.cells (gI s.out.order s.at_.toNat).toNat==(a.slots.length:Int))=true then a.iC task s.out.dead else a.iB (gI s.lock.cells (gI s.out.order s.at_.toNat).toNat) task (bV s.out.aA (gI s.out.order s.at_.toNat).toNat))=y
 have hy:=hy y hY
 split
 ·rename_i hc;exact fun e=>absurd e hc
 ·rename_i hc
  have hy:=hy (Decidable.not_not.1 hc)
  split
  ·exact fun _=>⟨hy,⟨h.sh,h.de,h.di,h.o⟩⟩
  ·split
   ·exact fun _=>⟨hy,⟨h.sh,h.de,h.di,h.o⟩⟩
   ·exact fun _=>⟨hy,ah.I8 (s:={s with at_:=s.at_+1,carry:=[]}) ⟨h.sh,h.de,h.di,h.o⟩⟩
theorem ah.adP (hw:a.wf n):(s.ko a).2.2=0->(s.ko a).1.aT/\(s.ko a).2.1.aT:=by
 unfold ah.ko
 simp only
 split
 ·exact fun _=>⟨ha,⟨h.sh,h.de,yR hw.dv,h.o⟩⟩
 ·split
  ·rename_i hc;exact fun e=>absurd e hc
  ·split
   ·rename_i hc;exact fun e=>absurd e hc
   ·rename_i hc
    have hx:=ai.adK ha _ _ (Decidable.not_not.1 hc)
    split
    ·exact fun _=>⟨hx.1,⟨h.sh,h.de,h.di,h.o⟩⟩
    ·exact fun _=>⟨hx.1,ah.I8 (s:={s with dir:=(s.dir.apply (gE s.out.dF 0)).1}) ⟨h.sh,h.de,yR hx.2,h.o⟩⟩
theorem ah.adQ:(s.ji a task).2.2=0->(s.ji a task).1.aT/\(s.ji a task).2.1.aT:=by
 unfold ah.ji
 simp only
 generalize (if s.tJ s.at_=true then bV s.out.aA s.at_.toNat else bV s.aA s.at_.toNat)=now
 split
 ·rename_i hc;exact fun e=>absurd e hc
 ·split
  ·rename_i hc;exact fun e=>absurd e hc
  ·rename_i hc
   have hx:=ai.QD ha _ _ _ (Decidable.not_not.1 hc)
   split
   ·exact fun _=>⟨hx,ah.QH (s:={s with at_:=s.at_+1}) ⟨h.sh,h.de,h.di,h.o⟩⟩
   ·exact fun _=>⟨hx,⟨h.sh,h.de,h.di,h.o⟩⟩
theorem ah.ug (hw:a.wf n) (k:Int):(s.step a task k).2.2=0->(s.step a task k).1.aT/\(s.step a task k).2.1.aT:=by
 have key:(s.step0 a task k).2.2=0->(s.step0 a task k).1.aT/\(s.step0 a task k).2.1.aT:=by
  unfold ah.step0
  simp only
  split
  ·split
   ·refine fun e=>⟨aC.ug ha _ _ e,?_⟩
    split<;>exact ⟨h.sh,h.de,h.di,h.o⟩
   ·exact fun e=>⟨aC.ug ha _ _ e,⟨h.sh,h.de,h.di,h.o⟩⟩
  split
  ·exact ah.adM ha h
  split
  ·exact ah.adN ha h
  split
  ·refine fun _=>⟨ha,?_⟩
   split<;>exact ⟨h.sh,h.de,h.di,h.o⟩
  split
  ·exact ah.adO ha h
  split
  ·exact ah.adP ha h hw
  split
  ·exact ah.adQ ha h
  split
  ·refine fun e=>⟨aC.ug ha _ _ e,?_⟩
   split<;>exact ⟨h.sh,h.de,h.di,h.o⟩
  ·exact fun _=>⟨ha,h⟩
 unfold ah.step
 split
 ·rename_i hc;exact fun e=>absurd e hc
 ·rename_i hc
  exact fun _=>key (Decidable.not_not.1 hc)
end
end Go.Eng
namespace Go.Eng
open Go
structure Task.aT (t:Task):Prop where
 se:t.sec.aT
 di:t.dir.l.length<=65536
 re:(t.results.length:Int)<=t.entry
 e0:0<=t.entry
 en:t.entry<t.inv.entries
 e6:t.inv.entries<=6
 fi:t.first.length<=6
 sc:t.second.length<=6
abbrev pR (x:kV):Prop:=x.1.aT/\(x.2.1.dn=true\/x.2.1.aT)
def BZ (x:kV):Prop:=x.2.2.2=0->pR x
theorem mE {c:Prop} [Decidable c] {x y:kV} (h1:BZ x) (h2:BZ y):BZ (if c then x else y):=by
 split
 ·exact h1
 ·exact h2
theorem yT {s:ah} (h:s.aT) {x:aj} (hx:x.sm):bL.aT {s.bg with aA:=[x],order:=[0]}:=
 ⟨fun y hy=>by simp only [List.mem_singleton] at hy;subst hy;exact hx,(ah.lC h).od,by simp⟩
section
variable {n:Nat} {a:ai} (ha:a.aT) (hw:a.wf n) {t:Task} (h:t.aT) {k:Int}
section
include h
theorem Task.lD (r:bI) (k:Int):(t.next r k).dn=true\/(t.next r k).aT:=by
 have h1:=h.re
 have h2:=h.en
 have h3:=h.e0
 by_cases e:t.entry+1=t.inv.entries
 ·left;simp [Task.next,e]
 ·right
  refine ⟨ah.vV,Nat.zero_le _,?_,?_,?_,h.e6,Nat.zero_le _,Nat.zero_le _⟩
  ·simp only [Task.next,List.length_append,List.length_cons,List.length_nil];omega
  ·simp only [Task.next];omega
  ·simp only [Task.next];omega
theorem Task.Ca (c:List Int) (pc:Int):(t.kW c pc).aT:=⟨ah.yS _ _,h.di,h.re,h.e0,h.en,h.e6,h.fi,h.sc⟩
theorem Task.pU {o:bL} (ho:o.aT):(t.dec o).aT:=⟨ah.QI h.se ho,h.di,h.re,h.e0,h.en,h.e6,h.fi,h.sc⟩
include hw
theorem Task.I9 (r pc:Int):(t.look a r pc).aT:=⟨ah.yS _ _,yR hw.dv,h.re,h.e0,h.en,h.e6,h.fi,h.sc⟩
include ha
theorem Task.yU:(t.go a k).2.2.2.2=0->(t.go a k).1.aT/\(t.go a k).2.1.aT:=by
 unfold Task.go
 simp only
 split
 ·rename_i hc;exact fun e=>absurd e hc
 ·rename_i hc
  have g:=ah.ug ha h.se hw _ (Decidable.not_not.1 hc)
  exact fun _=>⟨g.1,⟨g.2,h.di,h.re,h.e0,h.en,h.e6,h.fi,h.sc⟩⟩
end
section
include h
theorem adR:(pu t).1.aT:=by
 unfold pu
 simp only
 repeat' split
 all_goals dsimp only
 all_goals first
  |(apply Task.pU;exact ⟨h.se,h.di,h.re,h.e0,h.en,h.e6,h.fi,h.sc⟩;exact ah.lC h.se)
  |(apply Task.pU;exact ⟨h.se,h.di,h.re,h.e0,h.en,h.e6,h.fi,h.sc⟩;exact yT h.se ((Qw _ (lu h.se 0)).sm (by omega)))
theorem adS {t':Task} (e:t'.sec=t.sec):(vK t').1.sm:=by
 unfold vK
 simp only
 rw [e]
 exact (adw _ _ _ _ _ (Qy _ _ _ (lu h.se 0))).sm (by omega)
theorem adT:(pz t).1.aT:=by
 unfold pz
 simp only
 repeat' split
 all_goals dsimp only
 all_goals first
  |(apply Task.pU;exact ⟨h.se,h.di,h.re,h.e0,h.en,h.e6,h.fi,h.sc⟩;exact ah.lC h.se)
  |(apply Task.pU;exact ⟨h.se,h.di,h.re,h.e0,h.en,h.e6,h.fi,h.sc⟩;exact yT h.se (adS h rfl))
theorem adU:(settle t).1.sm:=by
 have g:=lu h.se 0
 unfold settle
 simp only
 repeat' split
 ·exact (adx _ _ _ g).sm (by omega)
 ·exact (ady _ _ _ _ g).sm (by omega)
 ·exact (adA _ _ _ _ g).sm (by omega)
theorem adV:(pE t).1.aT:=by
 unfold pE
 simp only
 repeat' split
 all_goals dsimp only
 all_goals first
  |(apply Task.pU;exact h;exact ah.lC h.se)
  |(apply Task.pU;exact h;exact yT h.se (adU h))
theorem adW (d:Dead) (k ep:Int):(d.take k ep).1.l.length<=d.l.length/\(d.take k ep).2.1.length<=d.l.length:=by
 have:=aaH k ep d.l
 unfold Dead.take
 repeat' split
 all_goals first|exact ⟨Nat.zero_le _,Nat.zero_le _⟩|exact ⟨by simp only;omega,by simp only;omega⟩
theorem adX:(pF t).1.aT:=by
 have hd:=h.se.de
 unfold pF
 simp only
 repeat' split
 all_goals dsimp only
 all_goals first
  |(apply Task.pU;exact h;exact ah.lC h.se)
  |skip
 have g:=(adW h t.sec.dead (Bv t) t.sec.aO.epoch).1
 refine Task.pU h ⟨fun y hy=> ?_,by simp only;omega,by simp⟩
 simp only [List.mem_singleton] at hy;subst hy
 exact (QA _ (lu h.se 0)).sm (by omega)
theorem Ja {x y:aj} (hx:x.sm) (hy:y.sm):∀ z ∈ placed t x y,z.sm:=by
 intro z hz
 unfold placed at hz
 split at hz<;>simp at hz<;>rcases hz with rfl|rfl<;>assumption
theorem Jb:(rq t).length<=1000:=by unfold rq;split<;>simp
theorem Jc:t.sec.dead.l.length<=1000:=by have:=h.se.de;omega
theorem adY:(Bw t).1.aT:=by
 unfold Bw
 simp only
 repeat' split
 all_goals first|exact ah.lC h.se|skip
 exact ⟨Ja h ((adC _ (lu h.se _)).sm (by omega)) ((QA _ (lu h.se _)).sm (by omega)),Jc h,Jb h⟩
theorem adZ:(Bz t).1.aT:=by
 unfold Bz
 simp only
 repeat' split
 all_goals first|exact ah.lC h.se|skip
 have g:=adE ((IntKind.i64.wrap ((yG t).low+(yG t).high)).tdiv 2) (lu h.se (if t.inv.dR<t.inv.to then 0 else 1))
 exact ⟨Ja h (g.1.sm (by omega)) (g.2.sm (by omega)),Jc h,Jb h⟩
theorem ad1:(BA t).1.aT:=by
 unfold BA
 simp only
 repeat' split
 all_goals first|exact ah.lC h.se|skip
 exact ⟨Ja h ((Qv (k:=0) _).sm (by omega)) ((adF (lu h.se _) (lu h.se _)).sm (by omega)),Jc h,Jb h⟩
theorem ad2 (d:Dead) (ep:Int):(d.clean ep).1.l.length<=d.l.length:=by
 unfold Dead.clean
 repeat' split
 all_goals first|exact Nat.zero_le _|exact List.length_filter_le _ _
theorem ad3:(vL t).1.aT:=by
 have hd:=h.se.de
 unfold vL
 simp only
 repeat' split
 all_goals first
  |exact ah.lC h.se
  |exact yT h.se ((adB _ (lu h.se 0)).sm (by omega))
  |exact yT h.se ((Qy _ _ _ (lu h.se 0)).sm (by omega))
  |(have g:=ad2 h t.sec.dead t.sec.aO.epoch;exact ⟨(ah.lC h.se).os,by simp only;omega,by simp⟩)
theorem ad4 (d:Dead) (l:List ak):(d.put l).1.l.length<=d.l.length+l.length:=by
 unfold Dead.put
 repeat' split
 all_goals simp [Dead.z]
theorem ad5:(vM t).1.aT:=by
 have hd:=h.se.de
 unfold vM
 simp only
 repeat' split
 all_goals first|exact ah.lC h.se|skip
 have g:=adD t.sec.dead.room t.sec.aO.epoch t.setup.limit (lu h.se 0)
 have g2:=ad4 h t.sec.dead ((bV t.sec.aA 0).yD t.sec.dead.room t.sec.aO.epoch t.setup.limit).2.1
 refine ⟨fun y hy=> ?_,by simp only;omega,by simp⟩
 simp only [List.mem_singleton] at hy;subst hy
 exact g.1.sm (by omega)
end
section
include ha hw h
theorem ad6:(tK a t k).2.2.2=0->pR (tK a t k):=by
 unfold tK
 simp only
 split
 ·rename_i hc;exact fun e=>absurd e hc
 split
 ·split
  ·exact fun _=>⟨ha,Task.lD (t:={t with loaded:=a.fI}) ⟨h.se,h.di,h.re,h.e0,h.en,h.e6,h.fi,h.sc⟩ _ _⟩
  ·exact fun _=>⟨ha,.inr ⟨h.se,h.di,h.re,h.e0,h.en,h.e6,h.fi,h.sc⟩⟩
 split
 ·split
  ·rename_i hc;exact fun e=>absurd e hc
  ·rename_i hc
   have g:=ai.QE ha _ _ _ (Decidable.not_not.1 hc)
   split<;>exact fun _=>⟨g,.inr ⟨h.se,h.di,h.re,h.e0,h.en,h.e6,h.fi,h.sc⟩⟩
 split
 ·exact fun _=>⟨ha,.inr (Task.I9 hw h _ _)⟩
 split
 ·rename_i hc;exact fun e=>absurd e hc
 rename_i hc
 obtain ⟨g1,g2⟩:=Task.yU ha hw h (Decidable.not_not.1 hc)
 split
 ·exact fun _=>⟨g1,.inr (adR g2)⟩
 split
 ·exact fun _=>⟨g1,.inr g2⟩
 split
 ·exact fun _=>⟨g1,Task.lD g2 _ _⟩
 split
 ·exact fun _=>⟨g1,Task.lD g2 _ _⟩
 ·exact fun _=>⟨g1,.inr ⟨g2.se,g2.di,g2.re,g2.e0,g2.en,g2.e6,g2.fi,g2.sc⟩⟩
theorem ad7:(tN a t k).2.2.2=0->pR (tN a t k):=by
 unfold tN
 simp only
 split
 ·rename_i hc;exact fun e=>absurd e hc
 split
 ·exact fun _=>⟨ha,.inr (by apply Task.Ca;exact ⟨h.se,yR hw.dv,h.re,h.e0,h.en,h.e6,h.fi,h.sc⟩)⟩
 split
 ·exact fun _=>⟨ha,.inr (Task.I9 hw h _ _)⟩
 split
 ·rename_i hc;exact fun e=>absurd e hc
 rename_i hc
 obtain ⟨g1,g2⟩:=Task.yU ha hw h (Decidable.not_not.1 hc)
 split
 ·exact fun _=>⟨g1,.inr (adT g2)⟩
 split
 ·exact fun _=>⟨g1,.inr g2⟩
 split
 ·exact fun _=>⟨g1,Task.lD g2 _ _⟩
 split
 ·exact fun _=>⟨g1,Task.lD g2 _ _⟩
 split
 ·exact fun _=>⟨g1,Task.lD g2 _ _⟩
 ·exact fun _=>⟨g1,.inr ⟨g2.se,g2.di,g2.re,g2.e0,g2.en,g2.e6,g2.fi,g2.sc⟩⟩
theorem ad8:(tO a t k).2.2.2=0->pR (tO a t k):=by
 unfold tO
 simp only
 split
 ·rename_i hc;exact fun e=>absurd e hc
 split
 ·split
  ·exact fun _=>⟨ha,Task.lD h _ _⟩
  ·refine fun _=>⟨ha,.inr ?_⟩
   split
   ·apply Task.Ca;exact ⟨h.se,h.di,h.re,h.e0,h.en,h.e6,h.fi,h.sc⟩
   ·exact ⟨h.se,h.di,h.re,h.e0,h.en,h.e6,h.fi,h.sc⟩
 split
 ·exact fun _=>⟨ha,.inr (Task.I9 hw h _ _)⟩
 split
 ·rename_i hc;exact fun e=>absurd e hc
 rename_i hc
 obtain ⟨g1,g2⟩:=Task.yU ha hw h (Decidable.not_not.1 hc)
 split
 ·exact fun _=>⟨g1,.inr (adV g2)⟩
 split
 ·exact fun _=>⟨g1,.inr g2⟩
 split
 ·exact fun _=>⟨g1,.inr ⟨g2.se,g2.di,g2.re,g2.e0,g2.en,g2.e6,g2.fi,g2.sc⟩⟩
 ·exact fun _=>⟨g1,Task.lD g2 _ _⟩
theorem ad9:(tQ a t k).2.2.2=0->pR (tQ a t k):=by
 unfold tQ
 simp only
 split
 ·rename_i hc;exact fun e=>absurd e hc
 split
 ·split
  ·exact fun _=>⟨ha,Task.lD (t:={t with loaded:=a.epoch}) ⟨h.se,h.di,h.re,h.e0,h.en,h.e6,h.fi,h.sc⟩ _ _⟩
  ·exact fun _=>⟨ha,.inr ⟨h.se,h.di,h.re,h.e0,h.en,h.e6,h.fi,h.sc⟩⟩
 split
 ·rename_i hc;exact fun e=>absurd e hc
 rename_i hc
 have g:=ai.QE ha _ _ _ (Decidable.not_not.1 hc)
 split
 ·exact fun _=>⟨g,.inr ⟨h.se,h.di,h.re,h.e0,h.en,h.e6,h.fi,h.sc⟩⟩
 ·exact fun _=>⟨g,Task.lD h _ _⟩
omit h ha in
theorem QJ {i:Nat} (e:(a.jJ i).2=0):i<6:=by
 have h6:=hw.n6
 unfold ai.jJ at e
 split at e
 ·cases e
 ·rename_i hc
  simp [ai.slot,hw.sl] at hc
  omega
theorem aea:(tT a t k).2.2.2=0->pR (tT a t k):=by
 unfold tT
 simp only
 split
 ·rename_i hc;exact fun e=>absurd e hc
 split
 ·exact fun _=>⟨ha,.inr ⟨h.se,h.di,h.re,h.e0,h.en,h.e6,Nat.zero_le _,Nat.zero_le _⟩⟩
 split
 ·split
  ·rename_i hc;exact fun e=>absurd e hc
  ·rename_i hc
   have g:=QJ hw (Decidable.not_not.1 hc)
   refine fun _=>⟨ha,.inr ?_⟩
   split<;>exact ⟨h.se,h.di,h.re,h.e0,h.en,h.e6,by simp only [List.length_append,List.length_cons,List.length_nil];omega,h.sc⟩
 split
 ·split
  ·rename_i hc;exact fun e=>absurd e hc
  ·rename_i hc
   have g:=QJ hw (Decidable.not_not.1 hc)
   refine fun _=>⟨ha,.inr ?_⟩
   split<;>exact ⟨h.se,h.di,h.re,h.e0,h.en,h.e6,h.fi,by simp only [List.length_append,List.length_cons,List.length_nil];omega⟩
 split
 ·exact fun _=>⟨ha,.inr ⟨h.se,h.di,h.re,h.e0,h.en,h.e6,h.fi,h.sc⟩⟩
 ·exact fun _=>⟨ha,Task.lD h _ _⟩
theorem aeb:(tV a t k).2.2.2=0->pR (tV a t k):=by
 unfold tV
 simp only
 split
 ·rename_i hc;exact fun e=>absurd e hc
 split
 ·exact fun _=>⟨ha,.inr (by apply Task.Ca;exact ⟨h.se,yR hw.dv,h.re,h.e0,h.en,h.e6,h.fi,h.sc⟩)⟩
 split
 ·rename_i hc;exact fun e=>absurd e hc
 rename_i hc
 obtain ⟨g1,g2⟩:=Task.yU ha hw h (Decidable.not_not.1 hc)
 split
 ·exact fun _=>⟨g1,.inr (adX g2)⟩
 split
 ·exact fun _=>⟨g1,.inr g2⟩
 split
 ·exact fun _=>⟨g1,.inr ⟨g2.se,g2.di,g2.re,g2.e0,g2.en,g2.e6,g2.fi,g2.sc⟩⟩
 ·exact fun _=>⟨g1,Task.lD g2 _ _⟩
theorem yV {plan:Task->pG} (lo hi:Int) (cells:Task->List Int) (hp:∀ t':Task,t'.aT->(plan t').1.aT):(kX plan lo hi cells a t k).2.2.2=0->pR (kX plan lo hi cells a t k):=by
 unfold kX
 dsimp only
 split
 ·rename_i hc;exact fun e=>absurd e hc
 have h1:(if (t.pc==0)=true then t.kW (cells t) 1 else t).aT:=by
  split
  ·exact Task.Ca h _ _
  ·exact h
 generalize (if (t.pc==0)=true then t.kW (cells t) 1 else t)=t1 at h1 ⊢
 split
 ·rename_i hc;exact fun e=>absurd e hc
 rename_i hc
 obtain ⟨g1,g2⟩:=Task.yU ha hw h1 (Decidable.not_not.1 hc)
 split
 ·exact fun _=>⟨g1,.inr (Task.pU g2 (hp _ g2))⟩
 split
 ·exact fun _=>⟨g1,.inr g2⟩
 ·exact fun _=>⟨g1,Task.lD g2 _ _⟩
theorem aec:(ru a t k).2.2.2=0->pR (ru a t k):=by
 suffices q:BZ (ru a t k) from q
 unfold ru
 refine mE (fun e=>by cases e) ?_
 refine mE (ad6 ha hw h) ?_
 refine mE (ad7 ha hw h) ?_
 refine mE (ad8 ha hw h) ?_
 refine mE (ad9 ha hw h) ?_
 refine mE (aea ha hw h) ?_
 refine mE (aeb ha hw h) ?_
 refine mE (yV ha hw h _ _ _ fun _=>adY) ?_
 refine mE (yV ha hw h _ _ _ fun _=>adZ) ?_
 refine mE (yV ha hw h _ _ _ fun _=>ad1) ?_
 refine mE (yV ha hw h _ _ _ fun _=>ad3) ?_
 exact mE (yV ha hw h _ _ _ fun _=>ad5) (fun e=>by cases e)
end
end
structure bF.aT (w:bF):Prop where
 ar:w.arena.aT
 tk:∀ t ∈ w.tasks,t.dn=true\/t.aT
section
variable {n m:Nat} {w:bF} (h:w.wf n m) (hl:w.aT)
include h hl
theorem bF.ug {i:Nat} (hi:i<w.tasks.length) (hd:(gT w.tasks i).dn=false) (e:(w.step i).2=0):(w.step i).1.aT:=by
 have ht:=(hl.tk _ (Po hi)).resolve_left (by simp [hd])
 unfold bF.step at e ⊢
 simp only at e ⊢
 split
 ·rename_i hc;rw [if_pos hc] at e;exact absurd e hc
 ·rename_i hc
  have hs:=aec hl.ar h.ar ht (Decidable.not_not.1 hc)
  refine ⟨hs.1,fun t hx=> ?_⟩
  rcases List.mem_or_eq_of_mem_set hx with hx|rfl
  ·exact hl.tk t hx
  ·exact hs.2
end
end Go.Eng
namespace Go.Eng
open Go Go.Proofs
attribute [local go_sem] List.length_map
end Go.Eng
namespace Go.Eng
open Go Go.Proofs
attribute [local go_sem] ai.enc ah.enc Task.enc Ev.enc bL.enc aC.enc dx.enc Dead.enc Dir.enc aj.enc Walk.enc bI.enc aG.enc eB.enc Setup.enc aY qN oW List.length_map
@[go_sem,simp] theorem af5 {α β:Type} (f:α->β) (l:List α) (x:β):List.take (l.length+1) (List.map f l++[x])=List.map f l++[x]:=eZ (by simp)
@[go_sem,simp] theorem af6 {α β:Type} (f:α->β) (l:List α):List.take l.length (List.map f l)=List.map f l:=eZ (by simp)
theorem Cb {n:Nat} {a:ai} (ha:a.wf n):a.slots.length<=1000:=by have:=ha.sl;have:=ha.n6;omega
theorem Cc {n:Nat} {a:ai} (ha:a.wf n):a.aH.length=a.slots.length:=by rw [ha.st,ha.sl]
theorem Ce (a:ai) (s:ah):0<=ah.slots a s/\ah.slots a s<=s.lock.cells.length:=by
 have:=List.length_filter_le (fun c:Int=>decide (c<(a.slots.length:Int))) s.lock.cells
 unfold ah.slots eT;omega
end Go.Eng
