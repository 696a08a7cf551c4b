/-
  Part of a proof: lemmas and definitions of this work.
  No condition.
-/
import Derived.Test.YtmfankbjapjjiaaGreatA08
import Derived.Test.YtmfankbjapjjiaaGreatA15
set_option linter.all false
set_option maxRecDepth 100000
set_option maxHeartbeats 8000000
namespace Go.Eng
open Go
structure aF.wf (n m:Nat) (w:aF):Prop where
 su:w.setup.ok n
 ar:w.arena.wf n
 tk:∀ t ∈ w.tasks,t.dn=true\/t.wf n
 tl:w.tasks.length<=200
 s0:0<=w.steps
 s1:w.steps<=m
 lg:w.log.length<=2*m
 hl:w.handles.length<=6*m
theorem aF.wf.mono {n m m':Nat} {w:aF} (h:w.wf n m) (hm:m<=m'):w.wf n m':=
 ⟨h.su,h.ar,h.tk,h.tl,h.s0,by have:=h.s1;omega,by have:=h.lg;omega,by have:=h.hl;omega⟩
theorem Ns:∀ (l:List Task) (i:Nat),∀ x ∈ opn l i,∃ j:Nat,x=((i+j:Nat):Int)/\j<l.length/\(gT l j).dn=false
 |[],_,x,h=>by simp [opn] at h
 |t::r,i,x,h=>by
  have step:x ∈ opn r (i+1)->∃ j:Nat,x=((i+j:Nat):Int)/\j<(t::r).length/\(gT (t::r) j).dn=false:=by
   intro h
   obtain ⟨j,h1,h2,h3⟩:=Ns r (i+1) x h
   exact ⟨j+1,by rw [h1];omega,by simp;omega,by simpa [gT] using h3⟩
  simp only [opn] at h
  split at h
  ·exact step h
  ·rename_i hd
   rcases List.mem_cons.1 h with rfl|h
   ·exact ⟨0,by simp,by simp,by simpa [gT] using hd⟩
   ·exact step h
theorem Wl:∀ (l:List Task) (i:Nat),(opn l i).length<=l.length
 |[],_=>by simp [opn]
 |t::r,i=>by
  have:=Wl r (i+1)
  simp only [opn]
  split
  ·simp;omega
  ·simp;omega
section
variable {n m:Nat} {w:aF}
theorem Wm {l:List Task} {i:Nat} (h:i<l.length):gT l i ∈ l:=by
 unfold gT;rw [List.getElem?_eq_getElem h];exact List.getElem_mem h
theorem aF.DN (h:w.wf n m) (hm:m<=1000000) {i:Nat} (hi:i<w.tasks.length) (hd:(gT w.tasks i).dn=false) (e:(w.step i).2=0):(w.step i).1.wf n (m+1):=by
 have ht:=(h.tk _ (Wm hi)).resolve_left (by simp [hd])
 have hw:IntKind.i64.wrap (w.steps+1)=w.steps+1:=bF (by have:=h.s0;have:=h.s1;omega)
 unfold aF.step at e ⊢
 simp only [hw] at e ⊢
 split
 ·rename_i hc;rw [if_pos hc] at e;exact absurd e hc
 ·rename_i hc
  have hs:=acO h.ar ht hd (k:=w.steps+1) (Decidable.not_not.1 hc)
  refine ⟨h.su,hs.ar,fun t hx=> ?_,by simpa using h.tl,by have:=h.s0;simp only;omega,by have:=h.s1;simp only;omega,?_,?_⟩
  ·rcases List.mem_or_eq_of_mem_set hx with hx|rfl
   ·exact h.tk t hx
   ·exact hs.tk
  ·have:=h.lg;have:=hs.ev;simp only [List.length_append];omega
  ·have:=h.hl;have:=hs.rs;simp only [List.length_append];omega
theorem aF.Wn (h:w.wf n m) (hm:m<=1000000) {k:Int} (e:(w.pick k).2=0):(w.pick k).1.wf n (m+1):=by
 unfold aF.pick at e ⊢
 split
 ·rename_i hc;rw [if_pos hc] at e;cases e
 ·rename_i hc;rw [if_neg hc] at e
  simp at hc
  have hx:gI w.opn k.toNat ∈ w.opn:=by
   unfold gI;rw [List.getElem?_eq_getElem (by omega)];exact List.getElem_mem _
  obtain ⟨j,h1,h2,h3⟩:=Ns w.tasks 0 _ hx
  have hj:(gI w.opn k.toNat).toNat=j:=by rw [h1];omega
  rw [hj] at e ⊢
  exact aF.DN h hm h2 h3 e
theorem aF.VY (h:w.wf n m) (hm:m<=1000000) {b:Int} (e:(w.tick b).2=0):(w.tick b).1.wf n (m+1):=by
 have hw:IntKind.i64.wrap (w.steps+1)=w.steps+1:=bF (by have:=h.s0;have:=h.s1;omega)
 unfold aF.tick at e ⊢
 simp only [hw] at e ⊢
 split
 ·rename_i hc;rw [if_pos hc] at e;exact absurd e hc
 ·rename_i hc
  refine ⟨h.su,aj.VY h.ar (Decidable.not_not.1 hc),h.tk,h.tl,by have:=h.s0;simp only;omega,by have:=h.s1;simp only;omega,?_,by have:=h.hl;simp only;omega⟩
  have:=h.lg;simp only [List.length_append,List.length_cons,List.length_nil];omega
theorem bJ.acP {i:bJ} {u:Setup} (h:i.val u=0):0<i.entries:=by
 unfold bJ.val at h
 unfold bJ.entries
 simp only [beq_iff_eq,Bool.or_eq_true,decide_eq_true_eq] at h ⊢
 split
 ·rename_i h1
  rw [if_pos h1] at h
  split at h
  ·cases h
  ·omega
 ·rename_i h1
  rw [if_neg h1] at h
  split
  ·rename_i h3
   rw [if_neg (by omega),if_pos h3] at h
   split at h
   ·cases h
   ·omega
  ·omega
theorem Task.al5 {u:Setup} (hu:u.ok n) {num k:Int} {i:bJ} (e:(Task.start num i u k).2=0):(Task.start num i u k).1.wf n/\(Task.start num i u k).1.results=[]:=by
 unfold Task.start at e ⊢
 split
 ·rename_i hc;rw [if_pos hc] at e;cases e
 rename_i hc;rw [if_neg hc] at e
 split
 ·rename_i hc;rw [if_pos hc] at e;exact absurd e hc
 rename_i hc;rw [if_neg hc] at e
 split
 ·rename_i hc;rw [if_pos hc] at e;exact absurd e hc
 rename_i hc
 have hv:=Decidable.not_not.1 hc
 refine ⟨⟨hu,hv,⟨by simp,bJ.acP hv⟩,fun _=>⟨⟨by simp,by simp⟩,.inl rfl⟩,fun _=>⟨⟨by simp,by simp⟩,.inl rfl⟩,fun _ _=> .inl rfl,fun _=> .inl rfl,fun _ _=> .inl rfl,fun _=> .inl rfl,fun _=> .inl rfl⟩,rfl⟩
theorem aF.al6 (h:w.wf n m) {i:bJ} (e:(w.invoke i).2.2=0):(w.invoke i).1.wf n m:=by
 unfold aF.invoke at e ⊢
 split
 ·rename_i hc;rw [if_pos hc] at e;cases e
 rename_i hc;rw [if_neg hc] at e
 simp only [Bool.or_eq_true,decide_eq_true_eq,not_or] at hc
 simp only at e ⊢
 split
 ·rename_i hc;rw [if_pos hc] at e;exact absurd e hc
 rename_i hd
 have hs:=Task.al5 h.su (Decidable.not_not.1 hd)
 refine ⟨h.su,h.ar,fun t hx=> ?_,by have:=h.tl;simp only [List.length_append,List.length_cons,List.length_nil];omega,h.s0,h.s1,h.lg,h.hl⟩
 rcases List.mem_append.1 hx with hx|hx
 ·exact h.tk t hx
 ·simp only [List.mem_singleton] at hx;subst hx;exact .inr hs.1
theorem acQ {k:Int}:∀ (f:Nat) {m:Nat} {w:aF},w.wf n m->m+f<=1000000->(qm k f w).2=0->(qm k f w).1.wf n (m+f)
 |0,m,w,h,_,_=>h
 |f+1,m,w,h,hm,e=>by
  simp only [qm] at e ⊢
  split
  ·exact h.mono (by omega)
  ·rename_i hc;rw [if_neg hc] at e
   split
   ·rename_i hd;rw [if_pos hd] at e;exact absurd e hd
   ·rename_i hd;rw [if_neg hd] at e
    have:=acQ f (aF.Wn h (by omega) (Decidable.not_not.1 hd)) (by omega) e
    exact this.mono (by omega)
theorem aF.al7 (h:w.wf n m) (hm:m+256<=1000000) {c:bH} (e:(w.nu c).2=0):(w.nu c).1.wf n (m+256):=by
 unfold aF.nu at e ⊢
 simp only at e ⊢
 split
 ·rename_i hc;rw [if_pos hc] at e
  have hb:(max 0 (min c.dN 255)).toNat<=255:=by omega
  exact (acQ _ h (by omega) e).mono (by omega)
 rename_i hc;rw [if_neg hc] at e;clear hc
 split
 ·rename_i hc;rw [if_pos hc] at e
  split
  ·rename_i hd
   exact (aF.VY h (by omega) (by simpa using hd)).mono (by omega)
  ·exact h.mono (by omega)
 rename_i hc;rw [if_neg hc] at e;clear hc
 have key:∀ v:bJ,(if ((w.invoke v).2.2==0)=true then ((w.invoke v).1,(0:Int)) else (w,0)).1.wf n m:=by
  intro v
  split
  ·rename_i hd
   exact aF.al6 h (by simpa using hd)
  ·exact h
 split
 ·exact (key _).mono (by omega)
 ·exact h.mono (by omega)
end
end Go.Eng
namespace Go.Eng
open Go
attribute [go_sem] Int.cast_ofNat_Int Int.reduceBEq Int.reduceLT Int.reduceLE Int.reduceSub Int.reduceAdd Int.reduceNeg Int.reduceEq Int.reduceToNat decide_true decide_false decide_eq_true_eq beq_self_eq_true bne_self_eq_false List.reduceReplicate List.length_set List.length_replicate List.length_cons List.length_nil List.set_cons_zero List.set_cons_succ Int.toNat_natCast
def acR (l:List Int) (a:Nat):Setup×Nat:=
 let s:Int:=fe l a 1 4
 let a1:=eF l a 1 4
 let c:=fe l a1 1 5
 let a2:=eF l a1 1 5
 let d:=fe l a2 1 4
 let a3:=eF l a2 1 4
 let li:=fe l a3 1 3
 let a4:=eF l a3 1 3
 (⟨s,fe l a4 1 s,c,d,li,0,1,0⟩,eF l a4 1 s)
def DR (l:List Int) (a:Nat):Setup×Nat:=
 let x:=acR l a
 let k:=nV l x.2 12
 let a1:=nN l x.2 12
 if k==9 then ({x.1 with clock:=1073741824 - nV l a1 200},nN l a1 200)
 else if k==10 then ({x.1 with fA:=1073741824 - nV l a1 4},nN l a1 4)
 else if k==11 then ({x.1 with epoch:=65536 - nV l a1 3},nN l a1 3)
 else (x.1,a1)
def xk (l:List Int):Nat->Nat->List ByteArray->List ByteArray×Nat
 |0,a,acc=>(acc,a)
 |i+1,a,acc=>xk l i (VB l a) (acc++[JU l a])
def ny (l:List Int) (a:Nat):dx×Nat:=
 let a1:=nN l a 6
 let a2:=nN l a1 9
 (⟨nV l a 6,pk l a1 [0,0,0,0,2,3,4,5,7],[(nV l a2 256).toNat.toUInt8]⟩,nN l a2 256)
def iN (l:List Int):Nat->Nat->List dx->List dx×Nat
 |0,a,acc=>(acc,a)
 |i+1,a,acc=>iN l i (ny l a).2 (acc++[(ny l a).1])
def mF (c:bH):bH:=if c.inv.kind==7||c.inv.kind==6 then {c with inv:={c.inv with home:=0,max_:=0}} else c
def fU (i:bJ):bH:={bH.z with kind:=3,inv:=i}
def rz (l:List Int) (a:Nat):bH×Nat:=
 let k:=nV l a 20
 let a1:=nN l a 20
 if k<9 then ({bH.z with kind:=1,pick:=nV l a1 8,dN:=pk l (nN l a1 8) [1,1,2,3,5,8,14,30]},nN l (nN l a1 8) 8)
 else if k<10 then ({bH.z with kind:=2,dN:=pk l a1 [0,1,3,10,40]},nN l a1 5)
 else
  let slot:=nV l a1 4
  let a2:=nN l a1 4
  if k==10||(k==11||k==12) then
   (let x:=xk l (fe l a2 1 2).toNat (eF l a2 1 2) []
    (mF (fU {bJ.z with kind:=1,bodies:=x.1}),x.2))
  else if k==13||k==14 then
   (let a3:=eF l a2 1 3
    (mF (fU {bJ.z with kind:=2,home:=slot,max_:=fe l a2 1 3,bC:=pk l a3 [0,1,5,20,100]}),nN l a3 5))
  else if k==15||k==16 then
   (let o:=fe l a2 3 5
    let a3:=eF l a2 3 5
    let v:Int×Nat:=if o==5 then (pk l a3 [0,1,10,50],nN l a3 4) else (0,a3)
    let x:=iN l (fe l v.2 1 2).toNat (eF l v.2 1 2) []
    (mF {fU {bJ.z with kind:=o,bC:=v.1} with refs:=x.1},x.2))
  else if k==17 then
   (let a3:=nN l a2 4
    (mF (fU {bJ.z with kind:=pk l a2 [7,7,6,8],home:=slot,max_:=fe l a3 1 3}),eF l a3 1 3))
  else if k==18 then
   (let a3:=eF l a2 9 11
    (mF (fU {bJ.z with kind:=fe l a2 9 11,bA:=slot,to:=nV l a3 4}),nN l a3 4))
  else
   (let a3:=eF l a2 12 14
    (mF (fU {bJ.z with kind:=fe l a2 12 14,bA:=nV l a3 5}),nN l a3 5))
def oU (l:List Int):Nat->Nat->List bH->List bH×Nat
 |0,a,acc=>(acc,a)
 |i+1,a,acc=>if a<l.length then oU l i (rz l a).2 (acc++[(rz l a).1]) else (acc,a)
def lM (l:List Int) (n a:Nat):aF×Nat:=
 let u:=DR l a
 let c:=oU l n u.2 []
 let w:=aF.run u.1 c.1
 (if w.2≠0 then (aF.new ⟨1,1,1,1,1,0,1,0⟩).1 else w.1,c.2)
end Go.Eng
namespace Go.Eng
open Go Go.Proofs
theorem y9 (a b:Due):Fn Tryz.prog 481 [.agg a.enc,.agg b.enc] [] (Bo (a.before b)) [] []:=by
 refine Fn.aO ajZ (by simp) ?_
 unfold Vw SC.mk' Due.enc
 simp only [go_sem]
 repeat' first|refine dD (fun h1=> ?_) (fun h1=> ?_)<;>simp only [h1,go_sem]|refine bD (fun h1=> ?_) (fun h1=> ?_)<;>simp only [h1,go_sem]|refine Fin.bI _ rfl rfl rfl ?_
 all_goals simp_all [Due.before,ay]
theorem acS (a:Due):Fn Tryz.prog 467 [.agg a.enc] [] (Bo a.sound) [] []:=by
 refine Fn.aO abG (by simp) ?_
 unfold Vi SC.mk' Due.enc
 simp only [go_sem]
 repeat' first|refine dD (fun h1=> ?_) (fun h1=> ?_)<;>simp only [h1,go_sem]|refine bD (fun h1=> ?_) (fun h1=> ?_)<;>simp only [h1,go_sem]|refine Fin.bI _ rfl rfl rfl ?_
 all_goals (simp_all [Due.sound,ay]<;>omega)
theorem Wo (h:List Due) (id:Int) (hl:h.length<=1000):Fn Tryz.prog 465 [.sl 2 (h.map Due.enc),I id] [] (I (oC id h 0)) [] []:=by
 refine Fn.aO abF (by simp) ?_
 unfold Vg SC.mk'
 simp only [go_sem]
 refine go_loop (fun j:{j:Nat // j<=h.length/\oC id (h.drop j) j=oC id h 0}=>⟨1000,[(0,.sl 2 (h.map Due.enc)),(1,I id),(5,I j.1)],[]⟩) (fun j=>h.length - j.1) ⟨0,by omega,rfl⟩ (wk [] []) ?_
 rintro ⟨j,hj,he⟩ B hB
 simp only [go_sem]
 refine bD (fun h1=> ?_) (fun h1=> ?_)<;>simp only [h1,go_sem]
 ·have e1:j<h.length:=by simpa using h1
  rw [eD Due.z e1] at he
  simp only [oC] at he
  simp only [Int.toNat_natCast,bT Due.enc Due.z e1,Due.enc,go_sem]
  refine ⟨⟨by omega,by omega⟩,?_⟩
  have hw:=bQ (show j<=100000 by omega)
  refine bD (fun h2=> ?_) (fun h2=> ?_)<;>simp only [h2,hw,go_sem]
  ·rw [if_pos h2] at he
   exact Fin.bI _ rfl rfl rfl (by rw [<-he];rfl)
  ·rw [if_neg (by simp [h2])] at he
   exact hB _ ⟨j+1,e1,he⟩ (by simp only;omega) (wk [] [])
 ·have e1:h.length<=j:=by simpa using h1
  rw [eO e1] at he
  exact Fin.bI _ rfl rfl rfl (by rw [<-he];rfl)
theorem half {j:Nat} (h1:1<=j) (h2:j<=100000):IntKind.i64.wrap ((IntKind.i64.wrap ((j:Int) - 1)).tdiv 2)=(((j - 1) / 2:Nat):Int):=by
 have e:(j:Int) - 1=((j - 1:Nat):Int):=by omega
 rw [e,bF (n:=((j - 1:Nat):Int)) (by omega),Int.tdiv_eq_ediv_of_nonneg (by omega),bF (by omega)]
 omega
theorem uX:((2:Int)≠0)=True:=by simp
theorem Nt (h:List Due) (hl:h.length<=1000):Fn Tryz.prog 464 [.sl 2 (h.map Due.enc)] [] (I (iL h)) [] []:=by
 refine Fn.aO Vf (by simp) ?_
 unfold Ve SC.mk'
 simp only [go_sem]
 refine bD (fun h0=> ?_) (fun h0=> ?_)<;>simp only [h0,go_sem]
 ·exact Fin.bI _ rfl rfl rfl (by unfold iL;rw [if_pos (by simpa using h0)];rfl)
 have e0:iL h=DF h h:=by unfold iL;rw [if_neg (by simpa using h0)]
 refine go_loop (fun j:{j:Nat // j<=h.length/\DF h (h.drop j)=iL h}=>⟨1000,[(0,.sl 2 (h.map Due.enc)),(3,I j.1)],[]⟩) (fun j=>h.length - j.1) ⟨0,by omega,e0.symm⟩ (wk [] []) ?_
 rintro ⟨j,hj,he⟩ B hB
 simp only [go_sem]
 refine bD (fun h1=> ?_) (fun h1=> ?_)<;>simp only [h1,go_sem]
 ·have e1:j<h.length:=by simpa using h1
  rw [eD Due.z e1] at he
  simp only [DF] at he
  have hw:=bQ (show j<=100000 by omega)
  have hx:nth (h.map Due.enc) j=Due.enc (h[j]?.getD Due.z):=bT Due.enc Due.z e1
  simp only [Int.toNat_natCast,hx,Due.enc,go_sem]
  refine ⟨⟨by omega,by omega⟩,aQ (acS (h[j]?.getD Due.z)) rfl rfl ?_⟩
  simp only [go_sem]
  by_cases h2:(h[j]?.getD Due.z).sound=true
  ·rw [if_pos h2] at he
   simp only [h2,hw,go_sem]
   exact hB _ ⟨j+1,e1,he⟩ (by simp only;omega) (wk [] [])
  ·rw [if_neg h2] at he
   simp only [Bool.not_eq_true] at h2
   simp only [h2,go_sem]
   exact Fin.bI _ rfl rfl rfl (by rw [<-he];rfl)
 have e1:h.length<=j:=by simpa using h1
 rw [eO e1] at he
 simp only [DF] at he
 refine go_loop (fun j:{j:Nat // j<=h.length/\J5 h (h.drop j) j=iL h}=>⟨2000,[(0,.sl 2 (h.map Due.enc)),(4,I j.1)],[]⟩) (fun j=>h.length - j.1) ⟨0,by omega,he⟩ (wk [] []) ?_
 clear he h1 e1 hB
 rintro ⟨j,hj,he⟩ B hB
 simp only [go_sem]
 refine bD (fun h1=> ?_) (fun h1=> ?_)<;>simp only [h1,go_sem]
 ·have e1:j<h.length:=by simpa using h1
  rw [eD Due.z e1] at he
  simp only [J5] at he
  have hw:=bQ (show j<=100000 by omega)
  have hx:nth (h.map Due.enc) j=Due.enc (h[j]?.getD Due.z):=bT Due.enc Due.z e1
  simp only [Int.toNat_natCast,hx,Due.enc,go_sem]
  refine ⟨⟨by omega,by omega⟩,aQ (Wo h (h[j]?.getD Due.z).id hl) rfl rfl ?_⟩
  simp only [go_sem]
  refine bD (fun h2=> ?_) (fun h2=> ?_)<;>simp only [h2,hw,go_sem]
  ·rw [if_pos h2] at he
   exact Fin.bI _ rfl rfl rfl (by rw [<-he];rfl)
  ·rw [if_neg (by simp [h2])] at he
   exact hB _ ⟨j+1,e1,he⟩ (by simp only;omega) (wk [] [])
 have e1:h.length<=j:=by simpa using h1
 rw [eO e1] at he
 simp only [J5] at he
 refine go_loop (fun j:{j:Nat // 1<=j/\Ni h (h.drop j) j=iL h}=>⟨3000,[(0,.sl 2 (h.map Due.enc)),(5,I j.1)],[]⟩) (fun j=>h.length - j.1) ⟨1,by omega,he⟩ (wk [] []) ?_
 clear he h1 e1 hB
 rintro ⟨j,hj,he⟩ B hB
 simp only [go_sem]
 refine bD (fun h1=> ?_) (fun h1=> ?_)<;>simp only [h1,go_sem]
 ·have e1:j<h.length:=by simpa using h1
  rw [eD Due.z e1] at he
  simp only [Ni] at he
  have hw:=bQ (show j<=100000 by omega)
  have hx:nth (h.map Due.enc) j=Due.enc (h[j]?.getD Due.z):=bT Due.enc Due.z e1
  have hy:nth (h.map Due.enc) ((j - 1) / 2)=Due.enc (gD h ((j - 1) / 2)):=bT Due.enc Due.z (by omega)
  simp only [half hj (show j<=100000 by omega),uX,Int.toNat_natCast,hx,hy,Due.enc,go_sem]
  refine ⟨⟨by omega,by omega⟩,⟨by omega,by omega⟩,bX (y9 (h[j]?.getD Due.z) (gD h ((j - 1) / 2))) rfl rfl ?_⟩
  simp only [go_sem]
  refine ⟨rfl,?_⟩
  by_cases h2:(h[j]?.getD Due.z).before (gD h ((j - 1) / 2))=true
  ·rw [if_pos h2] at he
   simp only [h2,go_sem]
   exact Fin.bI _ rfl rfl rfl (by rw [<-he];rfl)
  ·rw [if_neg h2] at he
   simp only [Bool.not_eq_true] at h2
   simp only [h2,hw,go_sem]
   exact hB _ ⟨j+1,by omega,he⟩ (by simp only;omega) (wk [] [])
 ·have e1:h.length<=j:=by simpa using h1
  rw [eO e1] at he
  exact Fin.bI _ rfl rfl rfl (by rw [<-he];rfl)
theorem Nu (h:List Due) (i k:Nat) (hl:h.length<=1000) (hi:i<h.length) (hk:k<h.length):Fn Tryz.prog 483 [.sl 2 (h.map Due.enc),I i,I k] [] (.sl 2 ((mZ h i k).map Due.enc)) [] []:=by
 refine Fn.aO aj1 (by simp) ?_
 unfold Vy SC.mk'
 have hx:nth (h.map Due.enc) i=Due.enc (gD h i):=bT Due.enc Due.z hi
 have hy:nth (h.map Due.enc) k=Due.enc (gD h k):=bT Due.enc Due.z hk
 have hm:h.length<=maxLen:=Nat.le_trans hl (by decide)
 simp only [Int.toNat_natCast,hx,hy,Due.enc,go_sem]
 refine ⟨⟨by omega,hm⟩,⟨by omega,by omega⟩,⟨by omega,by omega⟩,⟨by omega,by omega⟩,hi,⟨by omega,by omega⟩,hk,rfl,Fin.aD _ rfl rfl ?_⟩
 have e1:(h.map Due.enc).set i [I (gD h k).dl,I (gD h k).id]=(h.set i (gD h k)).map Due.enc:=by rw [List.map_set];rfl
 have e2:((h.set i (gD h k)).map Due.enc).set k [I (gD h i).dl,I (gD h i).id]=(mZ h i k).map Due.enc:=by unfold mZ;exact List.map_set.symm
 have e3:∀ x:Due,List.drop 2 x.enc=[]:=fun _=>rfl
 rw [e1,bT Due.enc Due.z (by simpa using hk)]
 simp only [ay,rv,get,e3,e2,go_sem]
 refine ⟨by simp,by simp [mZ],?_⟩
 rw [bB (by simp [mZ])]
theorem tu (h:List Due) (i k:Nat):(mZ h i k).length=h.length:=by simp [mZ]
theorem Wp:∀ (f i:Nat) (h:List Due),i<=f->lm h f i=lm h i i
 |f,0,h,_=>by cases f<;>simp [lm]
 |0,i+1,h,hf=>by omega
 |f+1,i+1,h,hf=>by
  simp only [lm]
  split
  ·rw [Wp f _ _ (by omega),Wp i ((i+1 - 1) / 2) _ (by omega)]
  ·rfl
theorem al8 {h:List Due} {i:Nat} (hi:1<=i):lm h i i=if (gD h i).before (gD h ((i - 1) / 2))=true then lm (mZ h i ((i - 1) / 2)) ((i - 1) / 2) ((i - 1) / 2) else h:=by
 obtain ⟨k,rfl⟩:∃ k,i=k+1:=⟨i - 1,by omega⟩
 rw [lm,<-Wp k ((k+1 - 1) / 2) _ (by omega)]
 simp
theorem acT (h0:List Due) (i0:Nat) (hl:h0.length<=1000) (hi:i0<h0.length):Fn Tryz.prog 468 [.sl 2 (h0.map Due.enc),I i0] [] (.sl 2 ((lm h0 i0 i0).map Due.enc)) [] []:=by
 refine Fn.aO abH (by simp) ?_
 unfold Vj SC.mk'
 simp only [go_sem]
 refine go_loop (fun s:{s:List Due×Nat // s.1.length=h0.length/\s.2<s.1.length/\lm s.1 s.2 s.2=lm h0 i0 i0}=>⟨1000,[(0,.sl 2 (s.1.1.map Due.enc)),(1,I s.1.2)],[]⟩) (fun s=>s.1.2) ⟨(h0,i0),rfl,hi,rfl⟩ (wk [] []) ?_
 rintro ⟨⟨h,i⟩,hh,hi,he⟩ B hB
 simp only at hh hi he
 simp only [go_sem]
 refine dS (fun h1=> ?_) (fun h1=> ?_)<;>simp only [h1,go_sem]
 ·have e1:1<=i:=by simp at h1;omega
  rw [al8 e1] at he
  have hx:nth (h.map Due.enc) i=Due.enc (gD h i):=bT Due.enc Due.z hi
  have hy:nth (h.map Due.enc) ((i - 1) / 2)=Due.enc (gD h ((i - 1) / 2)):=bT Due.enc Due.z (by omega)
  have Da:=half e1 (show i<=100000 by omega)
  simp only [Da,uX,Int.toNat_natCast,hx,hy,Due.enc,go_sem]
  refine ⟨⟨by omega,by omega⟩,⟨by omega,by omega⟩,bX (y9 (gD h i) (gD h ((i - 1) / 2))) rfl rfl ?_⟩
  simp only [go_sem]
  refine ⟨rfl,?_⟩
  by_cases h2:(gD h i).before (gD h ((i - 1) / 2))=true
  ·rw [if_pos h2] at he
   simp only [h2,Da,uX,go_sem]
   refine aQ (Nu h i ((i - 1) / 2) (by omega) hi (by omega)) rfl rfl ?_
   simp only [Da,uX,go_sem]
   exact hB _ ⟨(mZ h i ((i - 1) / 2),(i - 1) / 2),by rw [tu];exact hh,by rw [tu];simp only;omega,he⟩ (by simp only;omega) (wk [] [])
  ·rw [if_neg h2] at he
   simp only [Bool.not_eq_true] at h2
   simp only [h2,go_sem]
   exact Fin.bI _ rfl rfl rfl (by rw [<-he];rfl)
 ·have e1:i=0:=by simp at h1;omega
  subst e1
  have he:h=lm h0 i0 i0:=he
  refine ⟨rfl,?_⟩
  simp only [go_sem]
  exact Fin.bI _ rfl rfl rfl (by rw [<-he];rfl)
theorem acU (h0:List Due) (i0 f0:Nat) (hl:h0.length<=1000) (hf:h0.length<=i0+f0) (hi:i0<=1000):Fn Tryz.prog 482 [.sl 2 (h0.map Due.enc),I i0] [] (.sl 2 ((qW h0 f0 i0).map Due.enc)) [] []:=by
 refine Fn.aO aj0 (by simp) ?_
 unfold Vx SC.mk'
 simp only [go_sem]
 refine go_loop (fun s:{s:List Due×Nat×Nat // s.1.length=h0.length/\s.1.length<=s.2.1+s.2.2/\s.2.1<=1000/\qW s.1 s.2.2 s.2.1=qW h0 f0 i0}=>⟨1000,[(0,.sl 2 (s.1.1.map Due.enc)),(1,I s.1.2.1)],[]⟩) (fun s=>1000 - s.1.2.1) ⟨(h0,i0,f0),rfl,hf,hi,rfl⟩ (wk [] []) ?_
 rintro ⟨⟨h,i,f⟩,hh,hf,hi,he⟩ B hB
 simp only at hh hf hi he
 have hm1:IntKind.i64.wrap (IntKind.i64.wrap (2*(i:Int))+1)=((2*i+1:Nat):Int):=by rw [bF (n:=2*(i:Int)) (by omega),bF (by omega)];omega
 have hm2:IntKind.i64.wrap (((2*i+1:Nat):Int)+1)=((2*i+2:Nat):Int):=by rw [bF (by omega)];omega
 simp only [hm1,go_sem]
 refine bD (fun h1=> ?_) (fun h1=> ?_)<;>simp only [h1,hm1,go_sem]
 ·have e1:2*i+1<h.length:=by simp at h1;omega
  obtain ⟨f,rfl⟩:∃ g,f=g+1:=⟨f - 1,by omega⟩
  simp only [qW,if_pos e1] at he
  have hx:nth (h.map Due.enc) i=Due.enc (gD h i):=bT Due.enc Due.z (by omega)
  have hy:nth (h.map Due.enc) (2*i+1)=Due.enc (gD h (2*i+1)):=bT Due.enc Due.z e1
  by_cases h2:2*i+2<h.length
  ·have h2':decide (((2*i+2:Nat):Int)<(h.length:Int))=true:=by simp;omega
   have hz:nth (h.map Due.enc) (2*i+2)=Due.enc (gD h (2*i+2)):=bT Due.enc Due.z h2
   simp only [hm2,h2',hy,hz,Int.toNat_natCast,Due.enc,go_sem]
   refine ⟨⟨by omega,by omega⟩,⟨by omega,by omega⟩,bX (y9 (gD h (2*i+2)) (gD h (2*i+1))) rfl rfl ?_⟩
   simp only [go_sem]
   refine ⟨rfl,?_⟩
   by_cases h3:(gD h (2*i+2)).before (gD h (2*i+1))=true
   ·have ek:uL h i=2*i+2:=by unfold uL;rw [if_pos ⟨h2,h3⟩]
    rw [ek] at he
    simp only [h3,hm2,hx,hz,Int.toNat_natCast,Due.enc,go_sem]
    refine ⟨⟨by omega,by omega⟩,⟨by omega,by omega⟩,bX (y9 (gD h (2*i+2)) (gD h i)) rfl rfl ?_⟩
    simp only [go_sem]
    refine ⟨rfl,?_⟩
    by_cases h4:(gD h (2*i+2)).before (gD h i)=true
    ·rw [if_pos h4] at he
     simp only [h4,go_sem]
     refine aQ (Nu h i (2*i+2) (by omega) (by omega) h2) rfl rfl ?_
     simp only [go_sem]
     exact hB _ ⟨(mZ h i (2*i+2),2*i+2,f),by rw [tu];exact hh,by rw [tu];simp only;omega,by simp only;omega,he⟩ (by simp only;omega) (wk [] [])
    ·rw [if_neg h4] at he
     simp only [Bool.not_eq_true] at h4
     simp only [h4,go_sem]
     exact Fin.bI _ rfl rfl rfl (by rw [<-he];rfl)
   ·have ek:uL h i=2*i+1:=by unfold uL;rw [if_neg (fun h=>h3 h.2)]
    rw [ek] at he
    simp only [Bool.not_eq_true] at h3
    simp only [h3,hx,hy,Int.toNat_natCast,Due.enc,go_sem]
    refine ⟨⟨by omega,by omega⟩,⟨by omega,by omega⟩,bX (y9 (gD h (2*i+1)) (gD h i)) rfl rfl ?_⟩
    simp only [go_sem]
    refine ⟨rfl,?_⟩
    by_cases h4:(gD h (2*i+1)).before (gD h i)=true
    ·rw [if_pos h4] at he
     simp only [h4,go_sem]
     refine aQ (Nu h i (2*i+1) (by omega) (by omega) e1) rfl rfl ?_
     simp only [go_sem]
     exact hB _ ⟨(mZ h i (2*i+1),2*i+1,f),by rw [tu];exact hh,by rw [tu];simp only;omega,by simp only;omega,he⟩ (by simp only;omega) (wk [] [])
    ·rw [if_neg h4] at he
     simp only [Bool.not_eq_true] at h4
     simp only [h4,go_sem]
     exact Fin.bI _ rfl rfl rfl (by rw [<-he];rfl)
  ·have h2':decide (((2*i+2:Nat):Int)<(h.length:Int))=false:=by simp;omega
   have ek:uL h i=2*i+1:=by unfold uL;rw [if_neg (fun h=>h2 h.1)]
   rw [ek] at he
   simp only [hm2,h2',hx,hy,Int.toNat_natCast,Due.enc,go_sem]
   refine ⟨rfl,⟨by omega,by omega⟩,⟨by omega,by omega⟩,bX (y9 (gD h (2*i+1)) (gD h i)) rfl rfl ?_⟩
   simp only [go_sem]
   refine ⟨rfl,?_⟩
   by_cases h4:(gD h (2*i+1)).before (gD h i)=true
   ·rw [if_pos h4] at he
    simp only [h4,go_sem]
    refine aQ (Nu h i (2*i+1) (by omega) (by omega) e1) rfl rfl ?_
    simp only [go_sem]
    exact hB _ ⟨(mZ h i (2*i+1),2*i+1,f),by rw [tu];exact hh,by rw [tu];simp only;omega,by simp only;omega,he⟩ (by simp only;omega) (wk [] [])
   ·rw [if_neg h4] at he
    simp only [Bool.not_eq_true] at h4
    simp only [h4,go_sem]
    exact Fin.bI _ rfl rfl rfl (by rw [<-he];rfl)
 ·have e1:¬ 2*i+1<h.length:=by simp at h1;omega
  have e:qW h f i=h:=by cases f<;>simp [qW,e1]
  rw [e] at he
  exact Fin.bI _ rfl rfl rfl (by rw [<-he];rfl)
theorem Wq:∀ (f i:Nat) (h:List Due),(lm h f i).length=h.length
 |0,_,_=>rfl
 |f+1,i,h=>by simp only [lm];split;rw [Wq f,tu];rfl
theorem acV:∀ (f i:Nat) (h:List Due),(qW h f i).length=h.length
 |0,_,_=>rfl
 |f+1,i,h=>by
  simp only [qW];split
  ·split
   ·rw [acV f,tu]
   ·rfl
  ·rfl
theorem Kh (h:List Due) (i:Nat) (hi:i<h.length):(qf h i).length=h.length - 1:=by
 unfold qf
 simp only
 split
 ·simp
 ·split
  ·rw [Wq];simp
  ·rw [acV];simp
theorem acW (h:List Due) (i:Nat) (hl:h.length<=1000) (hi:i<h.length):Fn Tryz.prog 466 [.sl 2 (h.map Due.enc),I i] [] (.sl 2 ((qf h i).map Due.enc)) [] []:=by
 refine Fn.aO ajY (by simp) ?_
 unfold Vh SC.mk'
 have hn:IntKind.i64.wrap ((h.length:Int) - 1)=((h.length - 1:Nat):Int):=by rw [bF (by omega)];omega
 have ht:List.drop ((0:Nat):Int).toNat (List.take ((h.length - 1:Nat):Int).toNat (h.map Due.enc))=(h.take (h.length - 1)).map Due.enc:=by
  rw [List.map_take];rfl
 have hl1:(h.take (h.length - 1)).length=h.length - 1:=by simp
 have hm:h.length - 1<=maxLen:=Nat.le_trans (show _<=1000 by omega) (by decide)
 generalize hx:h.take (h.length - 1)=x at ht hl1
 have hcut:qf h i=if i=x.length then x else if 0<i/\(gD (x.set i (gD h x.length)) i).before (gD (x.set i (gD h x.length)) ((i - 1) / 2))=true then lm (x.set i (gD h x.length)) i i else qW (x.set i (gD h x.length)) x.length i:=by
  unfold qf;simp only [<-hl1];rw [show h.take x.length=x from by rw [hl1];exact hx]
 rw [<-hl1] at hn hm
 simp only [hn,ht,<-hl1,go_sem] at ht ⊢
 simp only [ht,Int.toNat_natCast,go_sem]
 refine ⟨⟨by omega,by omega⟩,⟨by omega,hm⟩,?_⟩
 by_cases h1:i=x.length
 ·have h1':((i:Int)==(x.length:Int))=true:=by simp [h1]
  rw [hcut,if_pos h1]
  simp only [h1',go_sem]
  refine Fin.aD _ rfl rfl ?_
  simp only [ay,rv,get,go_sem]
  exact ⟨by simp,Nat.le_refl _,by rw [bB (by simp)]⟩
 have h1':((i:Int)==(x.length:Int))=false:=by simp;omega
 rw [hcut,if_neg h1]
 have hi2:i<x.length:=by omega
 have hy:nth (h.map Due.enc) x.length=Due.enc (gD h x.length):=bT Due.enc Due.z (by omega)
 have e1:(x.map Due.enc).set i [I (gD h x.length).dl,I (gD h x.length).id]=(x.set i (gD h x.length)).map Due.enc:=List.map_set.symm
 have e3:nth (x.map Due.enc) i=Due.enc (gD x i):=bT Due.enc Due.z hi2
 simp only [h1',hy,e3,e1,Int.toNat_natCast,Due.enc,go_sem]
 refine ⟨⟨by omega,by omega⟩,⟨by omega,by omega⟩,hi2,?_⟩
 generalize hz:x.set i (gD h x.length)=y
 have hyl:y.length=x.length:=by rw [<-hz];simp
 by_cases h2:0<i
 ·have h2':decide ((0:Int)<(i:Int))=true:=by simp;omega
  have f1:nth (y.map Due.enc) i=Due.enc (gD y i):=bT Due.enc Due.z (by omega)
  have f2:nth (y.map Due.enc) ((i - 1) / 2)=Due.enc (gD y ((i - 1) / 2)):=bT Due.enc Due.z (by omega)
  simp only [h2',half h2 (show i<=100000 by omega),uX,f1,f2,hyl,Int.toNat_natCast,Due.enc,go_sem]
  refine ⟨⟨by omega,by omega⟩,hi2,⟨by omega,by omega⟩,by omega,bX (y9 (gD y i) (gD y ((i - 1) / 2))) rfl rfl ?_⟩
  simp only [go_sem]
  refine ⟨rfl,?_⟩
  by_cases h3:(gD y i).before (gD y ((i - 1) / 2))=true
  ·rw [if_pos ⟨h2,h3⟩]
   simp only [h3,go_sem]
   refine iK (acT y i (by omega) (by omega)) ⟨by simp only [rv,get,hyl,go_sem];exact ⟨by simp,by simp [hyl],by rw [bB (by simp [hyl])]⟩,by simp only [au,rv,and_self]⟩ rfl rfl rfl ?_
   simp only [dF,deep,go_sem]
   exact Fin.bI _ rfl rfl rfl rfl
  ·rw [if_neg (fun h=>h3 h.2)]
   simp only [Bool.not_eq_true] at h3
   simp only [h3,go_sem]
   refine iK (acU y i x.length (by omega) (by omega) (by omega)) ⟨by simp only [rv,get,hyl,go_sem];exact ⟨by simp,by simp [hyl],by rw [bB (by simp [hyl])]⟩,by simp only [au,rv,and_self]⟩ rfl rfl rfl ?_
   simp only [dF,deep,go_sem]
   exact Fin.bI _ rfl rfl rfl rfl
 ·have h2':decide ((0:Int)<(i:Int))=false:=by simp;omega
  rw [if_neg (fun h=>h2 h.1)]
  simp only [h2',go_sem]
  refine ⟨rfl,?_⟩
  refine iK (acU y i x.length (by omega) (by omega) (by omega)) ⟨by simp only [rv,get,hyl,go_sem];exact ⟨by simp,by simp [hyl],by rw [bB (by simp [hyl])]⟩,by simp only [au,rv,and_self]⟩ rfl rfl rfl ?_
  simp only [dF,deep,go_sem]
  exact Fin.bI _ rfl rfl rfl rfl
theorem Ws (h:List Due) (d:Due) (hl:h.length<=900):Fn Tryz.prog 434 [.sl 2 (h.map Due.enc),.agg d.enc] [] (.aG [.sl 2 ((wP h d).1.map Due.enc),I (wP h d).2]) [] []:=by
 refine Fn.aO abC (by simp) ?_
 unfold UE SC.mk' wP
 simp only [Due.enc,go_sem]
 refine aQ (Nt h (by omega)) rfl rfl ?_
 simp only [go_sem]
 by_cases h1:(iL h !=0)=true
 ·simp only [h1,if_true,go_sem]
  exact Fin.aD _ rfl rfl (by simp only [ay,rv,au,List.map_nil,go_sem])
 simp only [Bool.not_eq_true] at h1
 simp only [h1,Bool.false_eq_true,if_false,go_sem]
 refine aQ (acS d) rfl rfl ?_
 simp only [go_sem]
 by_cases h2:d.sound=true
 ·simp only [h2,Bool.not_true,Bool.false_eq_true,if_false,go_sem]
  by_cases h3:((h.length:Int)==12)=true
  ·simp only [h3,if_true,go_sem]
   exact Fin.aD _ rfl rfl (by simp only [ay,rv,au,List.map_nil,go_sem])
  simp only [Bool.not_eq_true] at h3
  simp only [h3,Bool.false_eq_true,if_false,go_sem]
  refine aQ (Wo h d.id (by omega)) rfl rfl ?_
  simp only [go_sem]
  by_cases h4:0<=oC d.id h 0
  ·simp only [h4,if_true,go_sem]
   exact Fin.aD _ rfl rfl (by simp only [ay,rv,au,List.map_nil,go_sem])
  simp only [h4,if_false,go_sem]
  have hm:h.length<=maxLen:=Nat.le_trans hl (by decide)
  have hm1:h.length+1<=maxLen:=Nat.le_trans (show _<=901 by omega) (by decide)
  refine ⟨⟨by omega,hm⟩,⟨by omega,hm1,Nat.le_refl _⟩,?_⟩
  refine EM (acT (h++[d]) h.length (by simp;omega) (by simp)) ⟨by simp only [rv,get,List.map_append,List.map_cons,List.map_nil,Due.enc,go_sem];exact ⟨by simp,by simp,by simp [List.take_of_length_le]⟩,by simp only [au,rv,and_self]⟩ rfl rfl rfl ?_
  simp only [dF,deep,go_sem]
  exact ⟨rfl,Fin.aD _ rfl rfl (by simp only [ay,rv,au,go_sem])⟩
 ·simp only [Bool.not_eq_true] at h2
  simp only [h2,Bool.not_false,if_true,go_sem]
  exact Fin.aD _ rfl rfl (by simp only [ay,rv,au,List.map_nil,go_sem])
theorem Wt (id:Int):∀ (l:List Due) (i:Nat),oC id l i= -1\/∃ k:Nat,oC id l i=((i+k:Nat):Int)/\k<l.length
 |[],i=> .inl rfl
 |d::r,i=>by
  simp only [oC]
  split
  ·exact .inr ⟨0,by simp,by simp⟩
  ·rcases Wt id r (i+1) with h|⟨k,h1,h2⟩
   ·exact .inl h
   ·exact .inr ⟨k+1,by rw [h1];omega,by simp;omega⟩
theorem acX (h:List Due) (id:Int) (hl:h.length<=900):Fn Tryz.prog 433 [.sl 2 (h.map Due.enc),I id] [] (.aG [.sl 2 ((uM h id).1.map Due.enc),I (uM h id).2]) [] []:=by
 refine Fn.aO ajS (by simp) ?_
 unfold UD SC.mk' uM
 simp only [go_sem]
 refine aQ (Nt h (by omega)) rfl rfl ?_
 simp only [go_sem]
 by_cases h1:(iL h !=0)=true
 ·simp only [h1,if_true,go_sem]
  exact Fin.aD _ rfl rfl (by simp only [ay,rv,au,List.map_nil,go_sem])
 simp only [Bool.not_eq_true] at h1
 simp only [h1,Bool.false_eq_true,if_false,go_sem]
 refine aQ (Wo h id (by omega)) rfl rfl ?_
 simp only [go_sem]
 rcases Wt id h 0 with h2|⟨k,h2,h3⟩
 ·simp only [h2,if_true,go_sem]
  exact Fin.aD _ rfl rfl (by simp only [ay,rv,au,List.map_nil,go_sem])
 ·rw [Nat.zero_add] at h2
  have h4:¬ (k:Int)<0:=by omega
  simp only [h2,h4,if_false,Int.toNat_natCast,go_sem]
  refine aQ (acW h k (by omega) h3) rfl rfl ?_
  simp only [go_sem]
  exact Fin.aD _ rfl rfl (by simp only [ay,rv,au,go_sem])
theorem al9 (h0:List Due) (now:Int) (hl:h0.length<=900):Fn Tryz.prog 438 [.sl 2 (h0.map Due.enc),I now] [] (.sl 1 (encI (kD now (h0.length+1) h0))) [] []:=by
 generalize hR:kD now (h0.length+1) h0=R
 refine Fn.aO abE (by simp) ?_
 unfold UK SC.mk'
 simp only [go_sem]
 refine go_loop (fun s:{s:List Due×List Int // s.1.length<=900/\s.2.length+s.1.length<=900/\s.2++kD now (s.1.length+1) s.1=R}=>⟨1000,[(0,.sl 2 (s.1.1.map Due.enc)),(1,I now),(5,.own 32 1 0 s.1.2.length)],[(32,.row 3 1 (encI s.1.2))]⟩) (fun s=>s.1.1.length) ⟨(h0,[]),hl,by simpa using hl,by simpa using hR⟩ (wk [] [32]) ?_
 rintro ⟨⟨h,out⟩,hh,hb,he⟩ B hB
 simp only at hh hb he
 simp only [go_sem]
 refine aQ (Nt h (by omega)) rfl rfl ?_
 simp only [go_sem]
 have ex:(¬ (iL h=0/\0<h.length/\(gD h 0).dl<=now))->rv [(32,.row 3 1 (encI out))] [] [] (.sl 1 (encI R)) (.own 32 1 0 out.length):=by
  intro hn
  simp only [kD] at he
  rw [if_neg (by simpa using hn),List.append_nil] at he
  rw [<-he]
  simp only [rv,get,go_sem]
  exact ⟨by simp,Nat.le_refl _,by rw [bB (by simp [encI])]⟩
 by_cases h1:(iL h==0)=true
 ·simp only [h1,go_sem]
  by_cases h2:0<h.length
  ·have h2':decide ((0:Int)<(h.length:Int))=true:=by simp;omega
   have hx:nth (h.map Due.enc) 0=Due.enc (gD h 0):=bT Due.enc Due.z h2
   have t0:((0:Int)).toNat=0:=rfl
   simp only [h2',t0,hx,Due.enc,go_sem]
   refine ⟨by omega,?_⟩
   by_cases h3:(gD h 0).dl<=now
   ·have hm:out.length+1<=maxLen:=Nat.le_trans (show _<=901 by omega) (by decide)
    have e2:encI out++[[I (gD h 0).id]]=encI (out++[(gD h 0).id]):=by simp [encI]
    have e2':List.take out.length (encI out)++[[I (gD h 0).id]]=encI (out++[(gD h 0).id]):=by rw [bB (by simp [encI])];exact e2
    simp only [h3,t0,hx,Due.enc,List.reduceReplicate,List.set,e2,e2',go_sem]
    refine ⟨by omega,⟨by omega,hm,Nat.le_refl _⟩,?_⟩
    refine aQ (acW h 0 (by omega) h2) rfl rfl ?_
    simp only [go_sem]
    have hc:=Kh h 0 h2
    have e4:kD now (h.length+1) h=(gD h 0).id::kD now ((qf h 0).length+1) (qf h 0):=by
     rw [kD,if_pos ⟨h1,h2,h3⟩,hc,show h.length - 1+1=h.length by omega]
    rw [e4] at he
    exact hB _ ⟨(qf h 0,out++[(gD h 0).id]),by simp only;omega,by simp;omega,by simpa using he⟩ (by simp only;omega) (wk [(32,1176)] [])
   ·simp only [h3,go_sem]
    exact Fin.aD _ rfl rfl (ex (fun h=>h3 h.2.2))
  ·have h2':decide ((0:Int)<(h.length:Int))=false:=decide_eq_false (by omega)
   simp only [h2',go_sem]
   exact Fin.aD _ rfl rfl (ex (fun h=>h2 h.2.1))
 ·have h1':(iL h==0)=false:=by simpa using h1
  simp only [h1',go_sem]
  exact Fin.aD _ rfl rfl (ex (fun h=>h1 (by simp [h.1])))
end Go.Eng
