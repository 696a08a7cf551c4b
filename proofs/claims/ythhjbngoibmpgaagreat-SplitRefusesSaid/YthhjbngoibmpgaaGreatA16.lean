/-
  Part of a proof: lemmas and definitions of this work.
  No condition.
-/
import Derived.Test.YthhjbngoibmpgaaGreatA08
import Derived.Test.YthhjbngoibmpgaaGreatA15
set_option linter.all false
set_option maxRecDepth 100000
set_option maxHeartbeats 8000000
namespace Go.Eng
open Go
structure aH.wf (n m:Nat) (w:aH):Prop where
 su:w.setup.ok n
 ar:w.arena.wf n
 tk:∀ t ∈ w.tasks,t.dn=true\/t.wf n
 tl:w.tasks.length<=200
 s0:0<=w.steps
 s1:w.steps<=m
 lg:w.log.length<=2*m
 hl:w.handles.length<=6*m
theorem aH.wf.mono {n m m':Nat} {w:aH} (h:w.wf n m) (hm:m<=m'):w.wf n m':=
 ⟨h.su,h.ar,h.tk,h.tl,h.s0,by have:=h.s1;omega,by have:=h.lg;omega,by have:=h.hl;omega⟩
theorem Nr:∀ (l:List Task) (i:Nat),∀ x ∈ opn l i,∃ j:Nat,x=((i+j:Nat):Int)/\j<l.length/\(gT l j).dn=false
 |[],_,x,h=>by simp [opn] at h
 |t::r,i,x,h=>by
  have step:x ∈ opn r (i+1)->∃ j:Nat,x=((i+j:Nat):Int)/\j<(t::r).length/\(gT (t::r) j).dn=false:=by
   intro h
   obtain ⟨j,h1,h2,h3⟩:=Nr r (i+1) x h
   exact ⟨j+1,by rw [h1];omega,by simp;omega,by simpa [gT] using h3⟩
  simp only [opn] at h
  split at h
  ·exact step h
  ·rename_i hd
   rcases List.mem_cons.1 h with rfl|h
   ·exact ⟨0,by simp,by simp,by simpa [gT] using hd⟩
   ·exact step h
theorem Wd:∀ (l:List Task) (i:Nat),(opn l i).length<=l.length
 |[],_=>by simp [opn]
 |t::r,i=>by
  have:=Wd r (i+1)
  simp only [opn]
  split
  ·simp;omega
  ·simp;omega
section
variable {n m:Nat} {w:aH}
theorem Wh {l:List Task} {i:Nat} (h:i<l.length):gT l i ∈ l:=by
 unfold gT;rw [List.getElem?_eq_getElem h];exact List.getElem_mem h
theorem aH.Bf (h:w.wf n m) (hm:m<=1000000) {i:Nat} (hi:i<w.tasks.length) (hd:(gT w.tasks i).dn=false) (e:(w.step i).2=0):(w.step i).1.wf n (m+1):=by
 have ht:=(h.tk _ (Wh hi)).resolve_left (by simp [hd])
 have hw:IntKind.i64.wrap (w.steps+1)=w.steps+1:=bE (by have:=h.s0;have:=h.s1;omega)
 unfold aH.step at e ⊢
 simp only [hw] at e ⊢
 split
 ·rename_i hc;rw [if_pos hc] at e;exact absurd e hc
 ·rename_i hc
  have hs:=ab7 h.ar ht hd (k:=w.steps+1) (Decidable.not_not.1 hc)
  refine ⟨h.su,hs.ar,fun t hx=> ?_,by simpa using h.tl,by have:=h.s0;simp only;omega,by have:=h.s1;simp only;omega,?_,?_⟩
  ·rcases List.mem_or_eq_of_mem_set hx with hx|rfl
   ·exact h.tk t hx
   ·exact hs.tk
  ·have:=h.lg;have:=hs.ev;simp only [List.length_append];omega
  ·have:=h.hl;have:=hs.rs;simp only [List.length_append];omega
theorem aH.Wi (h:w.wf n m) (hm:m<=1000000) {k:Int} (e:(w.pick k).2=0):(w.pick k).1.wf n (m+1):=by
 unfold aH.pick at e ⊢
 split
 ·rename_i hc;rw [if_pos hc] at e;cases e
 ·rename_i hc;rw [if_neg hc] at e
  simp at hc
  have hx:gI w.opn k.toNat ∈ w.opn:=by
   unfold gI;rw [List.getElem?_eq_getElem (by omega)];exact List.getElem_mem _
  obtain ⟨j,h1,h2,h3⟩:=Nr w.tasks 0 _ hx
  have hj:(gI w.opn k.toNat).toNat=j:=by rw [h1];omega
  rw [hj] at e ⊢
  exact aH.Bf h hm h2 h3 e
theorem aH.VT (h:w.wf n m) (hm:m<=1000000) {b:Int} (e:(w.tick b).2=0):(w.tick b).1.wf n (m+1):=by
 have hw:IntKind.i64.wrap (w.steps+1)=w.steps+1:=bE (by have:=h.s0;have:=h.s1;omega)
 unfold aH.tick at e ⊢
 simp only [hw] at e ⊢
 split
 ·rename_i hc;rw [if_pos hc] at e;exact absurd e hc
 ·rename_i hc
  refine ⟨h.su,aj.VT h.ar (Decidable.not_not.1 hc),h.tk,h.tl,by have:=h.s0;simp only;omega,by have:=h.s1;simp only;omega,?_,by have:=h.hl;simp only;omega⟩
  have:=h.lg;simp only [List.length_append,List.length_cons,List.length_nil];omega
theorem bM.ab8 {i:bM} {u:Setup} (h:i.val u=0):0<i.entries:=by
 unfold bM.val at h
 unfold bM.entries
 simp only [beq_iff_eq,Bool.or_eq_true,decide_eq_true_eq] at h ⊢
 split
 ·rename_i h1
  rw [if_pos h1] at h
  split at h
  ·cases h
  ·omega
 ·rename_i h1
  rw [if_neg h1] at h
  split
  ·rename_i h3
   rw [if_neg (by omega),if_pos h3] at h
   split at h
   ·cases h
   ·omega
  ·omega
theorem Task.alI {u:Setup} (hu:u.ok n) {num k:Int} {i:bM} (e:(Task.start num i u k).2=0):(Task.start num i u k).1.wf n/\(Task.start num i u k).1.results=[]:=by
 unfold Task.start at e ⊢
 split
 ·rename_i hc;rw [if_pos hc] at e;cases e
 rename_i hc;rw [if_neg hc] at e
 split
 ·rename_i hc;rw [if_pos hc] at e;exact absurd e hc
 rename_i hc;rw [if_neg hc] at e
 split
 ·rename_i hc;rw [if_pos hc] at e;exact absurd e hc
 rename_i hc
 have hv:=Decidable.not_not.1 hc
 refine ⟨⟨hu,hv,⟨by simp,bM.ab8 hv⟩,fun _=>⟨⟨by simp,by simp⟩,.inl rfl⟩,fun _=>⟨⟨by simp,by simp⟩,.inl rfl⟩,fun _ _=> .inl rfl,fun _=> .inl rfl,fun _ _=> .inl rfl,fun _=> .inl rfl,fun _=> .inl rfl⟩,rfl⟩
theorem aH.alJ (h:w.wf n m) {i:bM} (e:(w.invoke i).2.2=0):(w.invoke i).1.wf n m:=by
 unfold aH.invoke at e ⊢
 split
 ·rename_i hc;rw [if_pos hc] at e;cases e
 rename_i hc;rw [if_neg hc] at e
 simp only [Bool.or_eq_true,decide_eq_true_eq,not_or] at hc
 simp only at e ⊢
 split
 ·rename_i hc;rw [if_pos hc] at e;exact absurd e hc
 rename_i hd
 have hs:=Task.alI h.su (Decidable.not_not.1 hd)
 refine ⟨h.su,h.ar,fun t hx=> ?_,by have:=h.tl;simp only [List.length_append,List.length_cons,List.length_nil];omega,h.s0,h.s1,h.lg,h.hl⟩
 rcases List.mem_append.1 hx with hx|hx
 ·exact h.tk t hx
 ·simp only [List.mem_singleton] at hx;subst hx;exact .inr hs.1
theorem ab9 {k:Int}:∀ (f:Nat) {m:Nat} {w:aH},w.wf n m->m+f<=1000000->(qo k f w).2=0->(qo k f w).1.wf n (m+f)
 |0,m,w,h,_,_=>h
 |f+1,m,w,h,hm,e=>by
  simp only [qo] at e ⊢
  split
  ·exact h.mono (by omega)
  ·rename_i hc;rw [if_neg hc] at e
   split
   ·rename_i hd;rw [if_pos hd] at e;exact absurd e hd
   ·rename_i hd;rw [if_neg hd] at e
    have:=ab9 f (aH.Wi h (by omega) (Decidable.not_not.1 hd)) (by omega) e
    exact this.mono (by omega)
theorem aH.alK (h:w.wf n m) (hm:m+256<=1000000) {c:bG} (e:(w.ni c).2=0):(w.ni c).1.wf n (m+256):=by
 unfold aH.ni at e ⊢
 simp only at e ⊢
 split
 ·rename_i hc;rw [if_pos hc] at e
  have hb:(max 0 (min c.dM 255)).toNat<=255:=by omega
  exact (ab9 _ h (by omega) e).mono (by omega)
 rename_i hc;rw [if_neg hc] at e;clear hc
 split
 ·rename_i hc;rw [if_pos hc] at e
  split
  ·rename_i hd
   exact (aH.VT h (by omega) (by simpa using hd)).mono (by omega)
  ·exact h.mono (by omega)
 rename_i hc;rw [if_neg hc] at e;clear hc
 have key:∀ v:bM,(if ((w.invoke v).2.2==0)=true then ((w.invoke v).1,(0:Int)) else (w,0)).1.wf n m:=by
  intro v
  split
  ·rename_i hd
   exact aH.alJ h (by simpa using hd)
  ·exact h
 split
 ·exact (key _).mono (by omega)
 ·exact h.mono (by omega)
end
end Go.Eng
namespace Go.Eng
open Go
attribute [go_sem] Int.cast_ofNat_Int Int.reduceBEq Int.reduceLT Int.reduceLE Int.reduceSub Int.reduceAdd Int.reduceNeg Int.reduceEq Int.reduceToNat decide_true decide_false decide_eq_true_eq beq_self_eq_true bne_self_eq_false List.reduceReplicate List.length_set List.length_replicate List.length_cons List.length_nil List.set_cons_zero List.set_cons_succ Int.toNat_natCast
def acd (l:List Int) (a:Nat):Setup×Nat:=
 let s:Int:=fo l a 1 4
 let a1:=eD l a 1 4
 let c:=fo l a1 1 5
 let a2:=eD l a1 1 5
 let d:=fo l a2 1 4
 let a3:=eD l a2 1 4
 let li:=fo l a3 1 3
 let a4:=eD l a3 1 3
 (⟨s,fo l a4 1 s,c,d,li,0,1,0⟩,eD l a4 1 s)
def Bg (l:List Int) (a:Nat):Setup×Nat:=
 let x:=acd l a
 let k:=nV l x.2 12
 let a1:=nN l x.2 12
 if k==9 then ({x.1 with clock:=1073741824 - nV l a1 200},nN l a1 200)
 else if k==10 then ({x.1 with fB:=1073741824 - nV l a1 4},nN l a1 4)
 else if k==11 then ({x.1 with epoch:=65536 - nV l a1 3},nN l a1 3)
 else (x.1,a1)
def xg (l:List Int):Nat->Nat->List ByteArray->List ByteArray×Nat
 |0,a,acc=>(acc,a)
 |i+1,a,acc=>xg l i (Vx l a) (acc++[Dh l a])
def nk (l:List Int) (a:Nat):dw×Nat:=
 let a1:=nN l a 6
 let a2:=nN l a1 9
 (⟨nV l a 6,pk l a1 [0,0,0,0,2,3,4,5,7],[(nV l a2 256).toNat.toUInt8]⟩,nN l a2 256)
def iM (l:List Int):Nat->Nat->List dw->List dw×Nat
 |0,a,acc=>(acc,a)
 |i+1,a,acc=>iM l i (nk l a).2 (acc++[(nk l a).1])
def mq (c:bG):bG:=if c.inv.kind==7||c.inv.kind==6 then {c with inv:={c.inv with home:=0,max_:=0}} else c
def fT (i:bM):bG:={bG.z with kind:=3,inv:=i}
def ru (l:List Int) (a:Nat):bG×Nat:=
 let k:=nV l a 20
 let a1:=nN l a 20
 if k<9 then ({bG.z with kind:=1,pick:=nV l a1 8,dM:=pk l (nN l a1 8) [1,1,2,3,5,8,14,30]},nN l (nN l a1 8) 8)
 else if k<10 then ({bG.z with kind:=2,dM:=pk l a1 [0,1,3,10,40]},nN l a1 5)
 else
  let slot:=nV l a1 4
  let a2:=nN l a1 4
  if k==10||(k==11||k==12) then
   (let x:=xg l (fo l a2 1 2).toNat (eD l a2 1 2) []
    (mq (fT {bM.z with kind:=1,bodies:=x.1}),x.2))
  else if k==13||k==14 then
   (let a3:=eD l a2 1 3
    (mq (fT {bM.z with kind:=2,home:=slot,max_:=fo l a2 1 3,bB:=pk l a3 [0,1,5,20,100]}),nN l a3 5))
  else if k==15||k==16 then
   (let o:=fo l a2 3 5
    let a3:=eD l a2 3 5
    let v:Int×Nat:=if o==5 then (pk l a3 [0,1,10,50],nN l a3 4) else (0,a3)
    let x:=iM l (fo l v.2 1 2).toNat (eD l v.2 1 2) []
    (mq {fT {bM.z with kind:=o,bB:=v.1} with refs:=x.1},x.2))
  else if k==17 then
   (let a3:=nN l a2 4
    (mq (fT {bM.z with kind:=pk l a2 [7,7,6,8],home:=slot,max_:=fo l a3 1 3}),eD l a3 1 3))
  else if k==18 then
   (let a3:=eD l a2 9 11
    (mq (fT {bM.z with kind:=fo l a2 9 11,bq:=slot,to:=nV l a3 4}),nN l a3 4))
  else
   (let a3:=eD l a2 12 14
    (mq (fT {bM.z with kind:=fo l a2 12 14,bq:=nV l a3 5}),nN l a3 5))
def oZ (l:List Int):Nat->Nat->List bG->List bG×Nat
 |0,a,acc=>(acc,a)
 |i+1,a,acc=>if a<l.length then oZ l i (ru l a).2 (acc++[(ru l a).1]) else (acc,a)
def o6 (l:List Int) (n a:Nat):aH×Nat:=
 let u:=Bg l a
 let c:=oZ l n u.2 []
 let w:=aH.run u.1 c.1
 (if w.2≠0 then (aH.new ⟨1,1,1,1,1,0,1,0⟩).1 else w.1,c.2)
end Go.Eng
namespace Go.Eng
open Go Go.Proofs
theorem zh (a b:Due):Fn Tryz.prog 351 [.agg a.enc,.agg b.enc] [] (Bo (a.before b)) [] []:=by
 refine Fn.aO ai4 (by simp) ?_
 unfold Uv SC.mk' Due.enc
 simp only [go_sem]
 repeat' first|refine dD (fun h1=> ?_) (fun h1=> ?_)<;>simp only [h1,go_sem]|refine bC (fun h1=> ?_) (fun h1=> ?_)<;>simp only [h1,go_sem]|refine Fin.bI _ rfl rfl rfl ?_
 all_goals simp_all [Due.before,ay]
theorem ace (a:Due):Fn Tryz.prog 263 [.agg a.enc] [] (Bo a.sound) [] []:=by
 refine Fn.aO aaH (by simp) ?_
 unfold Ti SC.mk' Due.enc
 simp only [go_sem]
 repeat' first|refine dD (fun h1=> ?_) (fun h1=> ?_)<;>simp only [h1,go_sem]|refine bC (fun h1=> ?_) (fun h1=> ?_)<;>simp only [h1,go_sem]|refine Fin.bI _ rfl rfl rfl ?_
 all_goals (simp_all [Due.sound,ay]<;>omega)
theorem Wj (h:List Due) (id:Int) (hl:h.length<=1000):Fn Tryz.prog 264 [.sl 2 (h.map Due.enc),I id] [] (I (oG id h 0)) [] []:=by
 refine Fn.aO aaI (by simp) ?_
 unfold Tj SC.mk'
 simp only [go_sem]
 refine go_loop (fun j:{j:Nat // j<=h.length/\oG id (h.drop j) j=oG id h 0}=>⟨1000,[(0,.sl 2 (h.map Due.enc)),(1,I id),(5,I j.1)],[]⟩) (fun j=>h.length - j.1) ⟨0,by omega,rfl⟩ (wk [] []) ?_
 rintro ⟨j,hj,he⟩ B hB
 simp only [go_sem]
 refine bC (fun h1=> ?_) (fun h1=> ?_)<;>simp only [h1,go_sem]
 ·have e1:j<h.length:=by simpa using h1
  rw [eB Due.z e1] at he
  simp only [oG] at he
  simp only [Int.toNat_natCast,bS Due.enc Due.z e1,Due.enc,go_sem]
  refine ⟨⟨by omega,by omega⟩,?_⟩
  have hw:=bT (show j<=100000 by omega)
  refine bC (fun h2=> ?_) (fun h2=> ?_)<;>simp only [h2,hw,go_sem]
  ·rw [if_pos h2] at he
   exact Fin.bI _ rfl rfl rfl (by rw [<-he];rfl)
  ·rw [if_neg (by simp [h2])] at he
   exact hB _ ⟨j+1,e1,he⟩ (by simp only;omega) (wk [] [])
 ·have e1:h.length<=j:=by simpa using h1
  rw [eH e1] at he
  exact Fin.bI _ rfl rfl rfl (by rw [<-he];rfl)
theorem half {j:Nat} (h1:1<=j) (h2:j<=100000):IntKind.i64.wrap ((IntKind.i64.wrap ((j:Int) - 1)).tdiv 2)=(((j - 1) / 2:Nat):Int):=by
 have e:(j:Int) - 1=((j - 1:Nat):Int):=by omega
 rw [e,bE (n:=((j - 1:Nat):Int)) (by omega),Int.tdiv_eq_ediv_of_nonneg (by omega),bE (by omega)]
 omega
theorem u6:((2:Int)≠0)=True:=by simp
theorem Ns (h:List Due) (hl:h.length<=1000):Fn Tryz.prog 261 [.sl 2 (h.map Due.enc)] [] (I (iK h)) [] []:=by
 refine Fn.aO ME (by simp) ?_
 unfold Tf SC.mk'
 simp only [go_sem]
 refine bC (fun h0=> ?_) (fun h0=> ?_)<;>simp only [h0,go_sem]
 ·exact Fin.bI _ rfl rfl rfl (by unfold iK;rw [if_pos (by simpa using h0)];rfl)
 have e0:iK h=Ba h h:=by unfold iK;rw [if_neg (by simpa using h0)]
 refine go_loop (fun j:{j:Nat // j<=h.length/\Ba h (h.drop j)=iK h}=>⟨1000,[(0,.sl 2 (h.map Due.enc)),(3,I j.1)],[]⟩) (fun j=>h.length - j.1) ⟨0,by omega,e0.symm⟩ (wk [] []) ?_
 rintro ⟨j,hj,he⟩ B hB
 simp only [go_sem]
 refine bC (fun h1=> ?_) (fun h1=> ?_)<;>simp only [h1,go_sem]
 ·have e1:j<h.length:=by simpa using h1
  rw [eB Due.z e1] at he
  simp only [Ba] at he
  have hw:=bT (show j<=100000 by omega)
  have hx:nth (h.map Due.enc) j=Due.enc (h[j]?.getD Due.z):=bS Due.enc Due.z e1
  simp only [Int.toNat_natCast,hx,Due.enc,go_sem]
  refine ⟨⟨by omega,by omega⟩,aQ (ace (h[j]?.getD Due.z)) rfl rfl ?_⟩
  simp only [go_sem]
  by_cases h2:(h[j]?.getD Due.z).sound=true
  ·rw [if_pos h2] at he
   simp only [h2,hw,go_sem]
   exact hB _ ⟨j+1,e1,he⟩ (by simp only;omega) (wk [] [])
  ·rw [if_neg h2] at he
   simp only [Bool.not_eq_true] at h2
   simp only [h2,go_sem]
   exact Fin.bI _ rfl rfl rfl (by rw [<-he];rfl)
 have e1:h.length<=j:=by simpa using h1
 rw [eH e1] at he
 simp only [Ba] at he
 refine go_loop (fun j:{j:Nat // j<=h.length/\Dr h (h.drop j) j=iK h}=>⟨2000,[(0,.sl 2 (h.map Due.enc)),(4,I j.1)],[]⟩) (fun j=>h.length - j.1) ⟨0,by omega,he⟩ (wk [] []) ?_
 clear he h1 e1 hB
 rintro ⟨j,hj,he⟩ B hB
 simp only [go_sem]
 refine bC (fun h1=> ?_) (fun h1=> ?_)<;>simp only [h1,go_sem]
 ·have e1:j<h.length:=by simpa using h1
  rw [eB Due.z e1] at he
  simp only [Dr] at he
  have hw:=bT (show j<=100000 by omega)
  have hx:nth (h.map Due.enc) j=Due.enc (h[j]?.getD Due.z):=bS Due.enc Due.z e1
  simp only [Int.toNat_natCast,hx,Due.enc,go_sem]
  refine ⟨⟨by omega,by omega⟩,aQ (Wj h (h[j]?.getD Due.z).id hl) rfl rfl ?_⟩
  simp only [go_sem]
  refine bC (fun h2=> ?_) (fun h2=> ?_)<;>simp only [h2,hw,go_sem]
  ·rw [if_pos h2] at he
   exact Fin.bI _ rfl rfl rfl (by rw [<-he];rfl)
  ·rw [if_neg (by simp [h2])] at he
   exact hB _ ⟨j+1,e1,he⟩ (by simp only;omega) (wk [] [])
 have e1:h.length<=j:=by simpa using h1
 rw [eH e1] at he
 simp only [Dr] at he
 refine go_loop (fun j:{j:Nat // 1<=j/\Nh h (h.drop j) j=iK h}=>⟨3000,[(0,.sl 2 (h.map Due.enc)),(5,I j.1)],[]⟩) (fun j=>h.length - j.1) ⟨1,by omega,he⟩ (wk [] []) ?_
 clear he h1 e1 hB
 rintro ⟨j,hj,he⟩ B hB
 simp only [go_sem]
 refine bC (fun h1=> ?_) (fun h1=> ?_)<;>simp only [h1,go_sem]
 ·have e1:j<h.length:=by simpa using h1
  rw [eB Due.z e1] at he
  simp only [Nh] at he
  have hw:=bT (show j<=100000 by omega)
  have hx:nth (h.map Due.enc) j=Due.enc (h[j]?.getD Due.z):=bS Due.enc Due.z e1
  have hy:nth (h.map Due.enc) ((j - 1) / 2)=Due.enc (gD h ((j - 1) / 2)):=bS Due.enc Due.z (by omega)
  simp only [half hj (show j<=100000 by omega),u6,Int.toNat_natCast,hx,hy,Due.enc,go_sem]
  refine ⟨⟨by omega,by omega⟩,⟨by omega,by omega⟩,bX (zh (h[j]?.getD Due.z) (gD h ((j - 1) / 2))) rfl rfl ?_⟩
  simp only [go_sem]
  refine ⟨rfl,?_⟩
  by_cases h2:(h[j]?.getD Due.z).before (gD h ((j - 1) / 2))=true
  ·rw [if_pos h2] at he
   simp only [h2,go_sem]
   exact Fin.bI _ rfl rfl rfl (by rw [<-he];rfl)
  ·rw [if_neg h2] at he
   simp only [Bool.not_eq_true] at h2
   simp only [h2,hw,go_sem]
   exact hB _ ⟨j+1,by omega,he⟩ (by simp only;omega) (wk [] [])
 ·have e1:h.length<=j:=by simpa using h1
  rw [eH e1] at he
  exact Fin.bI _ rfl rfl rfl (by rw [<-he];rfl)
theorem Nt (h:List Due) (i k:Nat) (hl:h.length<=1000) (hi:i<h.length) (hk:k<h.length):Fn Tryz.prog 352 [.sl 2 (h.map Due.enc),I i,I k] [] (.sl 2 ((mX h i k).map Due.enc)) [] []:=by
 refine Fn.aO ai5 (by simp) ?_
 unfold Uw SC.mk'
 have hx:nth (h.map Due.enc) i=Due.enc (gD h i):=bS Due.enc Due.z hi
 have hy:nth (h.map Due.enc) k=Due.enc (gD h k):=bS Due.enc Due.z hk
 have hm:h.length<=maxLen:=Nat.le_trans hl (by decide)
 simp only [Int.toNat_natCast,hx,hy,Due.enc,go_sem]
 refine ⟨⟨by omega,hm⟩,⟨by omega,by omega⟩,⟨by omega,by omega⟩,⟨by omega,by omega⟩,hi,⟨by omega,by omega⟩,hk,rfl,Fin.aD _ rfl rfl ?_⟩
 have e1:(h.map Due.enc).set i [I (gD h k).dl,I (gD h k).id]=(h.set i (gD h k)).map Due.enc:=by rw [List.map_set];rfl
 have e2:((h.set i (gD h k)).map Due.enc).set k [I (gD h i).dl,I (gD h i).id]=(mX h i k).map Due.enc:=by unfold mX;exact List.map_set.symm
 have e3:∀ x:Due,List.drop 2 x.enc=[]:=fun _=>rfl
 rw [e1,bS Due.enc Due.z (by simpa using hk)]
 simp only [ay,rv,get,e3,e2,go_sem]
 refine ⟨by simp,by simp [mX],?_⟩
 rw [bA (by simp [mX])]
theorem tH (h:List Due) (i k:Nat):(mX h i k).length=h.length:=by simp [mX]
theorem Wl:∀ (f i:Nat) (h:List Due),i<=f->kW h f i=kW h i i
 |f,0,h,_=>by cases f<;>simp [kW]
 |0,i+1,h,hf=>by omega
 |f+1,i+1,h,hf=>by
  simp only [kW]
  split
  ·rw [Wl f _ _ (by omega),Wl i ((i+1 - 1) / 2) _ (by omega)]
  ·rfl
theorem alL {h:List Due} {i:Nat} (hi:1<=i):kW h i i=if (gD h i).before (gD h ((i - 1) / 2))=true then kW (mX h i ((i - 1) / 2)) ((i - 1) / 2) ((i - 1) / 2) else h:=by
 obtain ⟨k,rfl⟩:∃ k,i=k+1:=⟨i - 1,by omega⟩
 rw [kW,<-Wl k ((k+1 - 1) / 2) _ (by omega)]
 simp
theorem acf (h0:List Due) (i0:Nat) (hl:h0.length<=1000) (hi:i0<h0.length):Fn Tryz.prog 265 [.sl 2 (h0.map Due.enc),I i0] [] (.sl 2 ((kW h0 i0 i0).map Due.enc)) [] []:=by
 refine Fn.aO aaJ (by simp) ?_
 unfold Tk SC.mk'
 simp only [go_sem]
 refine go_loop (fun s:{s:List Due×Nat // s.1.length=h0.length/\s.2<s.1.length/\kW s.1 s.2 s.2=kW h0 i0 i0}=>⟨1000,[(0,.sl 2 (s.1.1.map Due.enc)),(1,I s.1.2)],[]⟩) (fun s=>s.1.2) ⟨(h0,i0),rfl,hi,rfl⟩ (wk [] []) ?_
 rintro ⟨⟨h,i⟩,hh,hi,he⟩ B hB
 simp only at hh hi he
 simp only [go_sem]
 refine dR (fun h1=> ?_) (fun h1=> ?_)<;>simp only [h1,go_sem]
 ·have e1:1<=i:=by simp at h1;omega
  rw [alL e1] at he
  have hx:nth (h.map Due.enc) i=Due.enc (gD h i):=bS Due.enc Due.z hi
  have hy:nth (h.map Due.enc) ((i - 1) / 2)=Due.enc (gD h ((i - 1) / 2)):=bS Due.enc Due.z (by omega)
  have Aj:=half e1 (show i<=100000 by omega)
  simp only [Aj,u6,Int.toNat_natCast,hx,hy,Due.enc,go_sem]
  refine ⟨⟨by omega,by omega⟩,⟨by omega,by omega⟩,bX (zh (gD h i) (gD h ((i - 1) / 2))) rfl rfl ?_⟩
  simp only [go_sem]
  refine ⟨rfl,?_⟩
  by_cases h2:(gD h i).before (gD h ((i - 1) / 2))=true
  ·rw [if_pos h2] at he
   simp only [h2,Aj,u6,go_sem]
   refine aQ (Nt h i ((i - 1) / 2) (by omega) hi (by omega)) rfl rfl ?_
   simp only [Aj,u6,go_sem]
   exact hB _ ⟨(mX h i ((i - 1) / 2),(i - 1) / 2),by rw [tH];exact hh,by rw [tH];simp only;omega,he⟩ (by simp only;omega) (wk [] [])
  ·rw [if_neg h2] at he
   simp only [Bool.not_eq_true] at h2
   simp only [h2,go_sem]
   exact Fin.bI _ rfl rfl rfl (by rw [<-he];rfl)
 ·have e1:i=0:=by simp at h1;omega
  subst e1
  have he:h=kW h0 i0 i0:=he
  refine ⟨rfl,?_⟩
  simp only [go_sem]
  exact Fin.bI _ rfl rfl rfl (by rw [<-he];rfl)
theorem acg (h0:List Due) (i0 f0:Nat) (hl:h0.length<=1000) (hf:h0.length<=i0+f0) (hi:i0<=1000):Fn Tryz.prog 424 [.sl 2 (h0.map Due.enc),I i0] [] (.sl 2 ((qV h0 f0 i0).map Due.enc)) [] []:=by
 refine Fn.aO ajA (by simp) ?_
 unfold Vp SC.mk'
 simp only [go_sem]
 refine go_loop (fun s:{s:List Due×Nat×Nat // s.1.length=h0.length/\s.1.length<=s.2.1+s.2.2/\s.2.1<=1000/\qV s.1 s.2.2 s.2.1=qV h0 f0 i0}=>⟨1000,[(0,.sl 2 (s.1.1.map Due.enc)),(1,I s.1.2.1)],[]⟩) (fun s=>1000 - s.1.2.1) ⟨(h0,i0,f0),rfl,hf,hi,rfl⟩ (wk [] []) ?_
 rintro ⟨⟨h,i,f⟩,hh,hf,hi,he⟩ B hB
 simp only at hh hf hi he
 have hm1:IntKind.i64.wrap (IntKind.i64.wrap (2*(i:Int))+1)=((2*i+1:Nat):Int):=by rw [bE (n:=2*(i:Int)) (by omega),bE (by omega)];omega
 have hm2:IntKind.i64.wrap (((2*i+1:Nat):Int)+1)=((2*i+2:Nat):Int):=by rw [bE (by omega)];omega
 simp only [hm1,go_sem]
 refine bC (fun h1=> ?_) (fun h1=> ?_)<;>simp only [h1,hm1,go_sem]
 ·have e1:2*i+1<h.length:=by simp at h1;omega
  obtain ⟨f,rfl⟩:∃ g,f=g+1:=⟨f - 1,by omega⟩
  simp only [qV,if_pos e1] at he
  have hx:nth (h.map Due.enc) i=Due.enc (gD h i):=bS Due.enc Due.z (by omega)
  have hy:nth (h.map Due.enc) (2*i+1)=Due.enc (gD h (2*i+1)):=bS Due.enc Due.z e1
  by_cases h2:2*i+2<h.length
  ·have h2':decide (((2*i+2:Nat):Int)<(h.length:Int))=true:=by simp;omega
   have hz:nth (h.map Due.enc) (2*i+2)=Due.enc (gD h (2*i+2)):=bS Due.enc Due.z h2
   simp only [hm2,h2',hy,hz,Int.toNat_natCast,Due.enc,go_sem]
   refine ⟨⟨by omega,by omega⟩,⟨by omega,by omega⟩,bX (zh (gD h (2*i+2)) (gD h (2*i+1))) rfl rfl ?_⟩
   simp only [go_sem]
   refine ⟨rfl,?_⟩
   by_cases h3:(gD h (2*i+2)).before (gD h (2*i+1))=true
   ·have ek:uO h i=2*i+2:=by unfold uO;rw [if_pos ⟨h2,h3⟩]
    rw [ek] at he
    simp only [h3,hm2,hx,hz,Int.toNat_natCast,Due.enc,go_sem]
    refine ⟨⟨by omega,by omega⟩,⟨by omega,by omega⟩,bX (zh (gD h (2*i+2)) (gD h i)) rfl rfl ?_⟩
    simp only [go_sem]
    refine ⟨rfl,?_⟩
    by_cases h4:(gD h (2*i+2)).before (gD h i)=true
    ·rw [if_pos h4] at he
     simp only [h4,go_sem]
     refine aQ (Nt h i (2*i+2) (by omega) (by omega) h2) rfl rfl ?_
     simp only [go_sem]
     exact hB _ ⟨(mX h i (2*i+2),2*i+2,f),by rw [tH];exact hh,by rw [tH];simp only;omega,by simp only;omega,he⟩ (by simp only;omega) (wk [] [])
    ·rw [if_neg h4] at he
     simp only [Bool.not_eq_true] at h4
     simp only [h4,go_sem]
     exact Fin.bI _ rfl rfl rfl (by rw [<-he];rfl)
   ·have ek:uO h i=2*i+1:=by unfold uO;rw [if_neg (fun h=>h3 h.2)]
    rw [ek] at he
    simp only [Bool.not_eq_true] at h3
    simp only [h3,hx,hy,Int.toNat_natCast,Due.enc,go_sem]
    refine ⟨⟨by omega,by omega⟩,⟨by omega,by omega⟩,bX (zh (gD h (2*i+1)) (gD h i)) rfl rfl ?_⟩
    simp only [go_sem]
    refine ⟨rfl,?_⟩
    by_cases h4:(gD h (2*i+1)).before (gD h i)=true
    ·rw [if_pos h4] at he
     simp only [h4,go_sem]
     refine aQ (Nt h i (2*i+1) (by omega) (by omega) e1) rfl rfl ?_
     simp only [go_sem]
     exact hB _ ⟨(mX h i (2*i+1),2*i+1,f),by rw [tH];exact hh,by rw [tH];simp only;omega,by simp only;omega,he⟩ (by simp only;omega) (wk [] [])
    ·rw [if_neg h4] at he
     simp only [Bool.not_eq_true] at h4
     simp only [h4,go_sem]
     exact Fin.bI _ rfl rfl rfl (by rw [<-he];rfl)
  ·have h2':decide (((2*i+2:Nat):Int)<(h.length:Int))=false:=by simp;omega
   have ek:uO h i=2*i+1:=by unfold uO;rw [if_neg (fun h=>h2 h.1)]
   rw [ek] at he
   simp only [hm2,h2',hx,hy,Int.toNat_natCast,Due.enc,go_sem]
   refine ⟨rfl,⟨by omega,by omega⟩,⟨by omega,by omega⟩,bX (zh (gD h (2*i+1)) (gD h i)) rfl rfl ?_⟩
   simp only [go_sem]
   refine ⟨rfl,?_⟩
   by_cases h4:(gD h (2*i+1)).before (gD h i)=true
   ·rw [if_pos h4] at he
    simp only [h4,go_sem]
    refine aQ (Nt h i (2*i+1) (by omega) (by omega) e1) rfl rfl ?_
    simp only [go_sem]
    exact hB _ ⟨(mX h i (2*i+1),2*i+1,f),by rw [tH];exact hh,by rw [tH];simp only;omega,by simp only;omega,he⟩ (by simp only;omega) (wk [] [])
   ·rw [if_neg h4] at he
    simp only [Bool.not_eq_true] at h4
    simp only [h4,go_sem]
    exact Fin.bI _ rfl rfl rfl (by rw [<-he];rfl)
 ·have e1:¬ 2*i+1<h.length:=by simp at h1;omega
  have e:qV h f i=h:=by cases f<;>simp [qV,e1]
  rw [e] at he
  exact Fin.bI _ rfl rfl rfl (by rw [<-he];rfl)
theorem Wm:∀ (f i:Nat) (h:List Due),(kW h f i).length=h.length
 |0,_,_=>rfl
 |f+1,i,h=>by simp only [kW];split;rw [Wm f,tH];rfl
theorem ach:∀ (f i:Nat) (h:List Due),(qV h f i).length=h.length
 |0,_,_=>rfl
 |f+1,i,h=>by
  simp only [qV];split
  ·split
   ·rw [ach f,tH]
   ·rfl
  ·rfl
theorem DI (h:List Due) (i:Nat) (hi:i<h.length):(qg h i).length=h.length - 1:=by
 unfold qg
 simp only
 split
 ·simp
 ·split
  ·rw [Wm];simp
  ·rw [ach];simp
theorem aci (h:List Due) (i:Nat) (hl:h.length<=1000) (hi:i<h.length):Fn Tryz.prog 398 [.sl 2 (h.map Due.enc),I i] [] (.sl 2 ((qg h i).map Due.enc)) [] []:=by
 refine Fn.aO ajt (by simp) ?_
 unfold Vi SC.mk'
 have hn:IntKind.i64.wrap ((h.length:Int) - 1)=((h.length - 1:Nat):Int):=by rw [bE (by omega)];omega
 have ht:List.drop ((0:Nat):Int).toNat (List.take ((h.length - 1:Nat):Int).toNat (h.map Due.enc))=(h.take (h.length - 1)).map Due.enc:=by
  rw [List.map_take];rfl
 have hl1:(h.take (h.length - 1)).length=h.length - 1:=by simp
 have hm:h.length - 1<=maxLen:=Nat.le_trans (show _<=1000 by omega) (by decide)
 generalize hx:h.take (h.length - 1)=x at ht hl1
 have hcut:qg h i=if i=x.length then x else if 0<i/\(gD (x.set i (gD h x.length)) i).before (gD (x.set i (gD h x.length)) ((i - 1) / 2))=true then kW (x.set i (gD h x.length)) i i else qV (x.set i (gD h x.length)) x.length i:=by
  unfold qg;simp only [<-hl1];rw [show h.take x.length=x from by rw [hl1];exact hx]
 rw [<-hl1] at hn hm
 simp only [hn,ht,<-hl1,go_sem] at ht ⊢
 simp only [ht,Int.toNat_natCast,go_sem]
 refine ⟨⟨by omega,by omega⟩,⟨by omega,hm⟩,?_⟩
 by_cases h1:i=x.length
 ·have h1':((i:Int)==(x.length:Int))=true:=by simp [h1]
  rw [hcut,if_pos h1]
  simp only [h1',go_sem]
  refine Fin.aD _ rfl rfl ?_
  simp only [ay,rv,get,go_sem]
  exact ⟨by simp,Nat.le_refl _,by rw [bA (by simp)]⟩
 have h1':((i:Int)==(x.length:Int))=false:=by simp;omega
 rw [hcut,if_neg h1]
 have hi2:i<x.length:=by omega
 have hy:nth (h.map Due.enc) x.length=Due.enc (gD h x.length):=bS Due.enc Due.z (by omega)
 have e1:(x.map Due.enc).set i [I (gD h x.length).dl,I (gD h x.length).id]=(x.set i (gD h x.length)).map Due.enc:=List.map_set.symm
 have e3:nth (x.map Due.enc) i=Due.enc (gD x i):=bS Due.enc Due.z hi2
 simp only [h1',hy,e3,e1,Int.toNat_natCast,Due.enc,go_sem]
 refine ⟨⟨by omega,by omega⟩,⟨by omega,by omega⟩,hi2,?_⟩
 generalize hz:x.set i (gD h x.length)=y
 have hyl:y.length=x.length:=by rw [<-hz];simp
 by_cases h2:0<i
 ·have h2':decide ((0:Int)<(i:Int))=true:=by simp;omega
  have f1:nth (y.map Due.enc) i=Due.enc (gD y i):=bS Due.enc Due.z (by omega)
  have f2:nth (y.map Due.enc) ((i - 1) / 2)=Due.enc (gD y ((i - 1) / 2)):=bS Due.enc Due.z (by omega)
  simp only [h2',half h2 (show i<=100000 by omega),u6,f1,f2,hyl,Int.toNat_natCast,Due.enc,go_sem]
  refine ⟨⟨by omega,by omega⟩,hi2,⟨by omega,by omega⟩,by omega,bX (zh (gD y i) (gD y ((i - 1) / 2))) rfl rfl ?_⟩
  simp only [go_sem]
  refine ⟨rfl,?_⟩
  by_cases h3:(gD y i).before (gD y ((i - 1) / 2))=true
  ·rw [if_pos ⟨h2,h3⟩]
   simp only [h3,go_sem]
   refine jk (acf y i (by omega) (by omega)) ⟨by simp only [rv,get,hyl,go_sem];exact ⟨by simp,by simp [hyl],by rw [bA (by simp [hyl])]⟩,by simp only [au,rv,and_self]⟩ rfl rfl rfl ?_
   simp only [dF,deep,go_sem]
   exact Fin.bI _ rfl rfl rfl rfl
  ·rw [if_neg (fun h=>h3 h.2)]
   simp only [Bool.not_eq_true] at h3
   simp only [h3,go_sem]
   refine jk (acg y i x.length (by omega) (by omega) (by omega)) ⟨by simp only [rv,get,hyl,go_sem];exact ⟨by simp,by simp [hyl],by rw [bA (by simp [hyl])]⟩,by simp only [au,rv,and_self]⟩ rfl rfl rfl ?_
   simp only [dF,deep,go_sem]
   exact Fin.bI _ rfl rfl rfl rfl
 ·have h2':decide ((0:Int)<(i:Int))=false:=by simp;omega
  rw [if_neg (fun h=>h2 h.1)]
  simp only [h2',go_sem]
  refine ⟨rfl,?_⟩
  refine jk (acg y i x.length (by omega) (by omega) (by omega)) ⟨by simp only [rv,get,hyl,go_sem];exact ⟨by simp,by simp [hyl],by rw [bA (by simp [hyl])]⟩,by simp only [au,rv,and_self]⟩ rfl rfl rfl ?_
  simp only [dF,deep,go_sem]
  exact Fin.bI _ rfl rfl rfl rfl
theorem Wn (h:List Due) (d:Due) (hl:h.length<=900):Fn Tryz.prog 173 [.sl 2 (h.map Due.enc),.agg d.enc] [] (.aF [.sl 2 ((wN h d).1.map Due.enc),I (wN h d).2]) [] []:=by
 refine Fn.aO aay (by simp) ?_
 unfold RL SC.mk' wN
 simp only [Due.enc,go_sem]
 refine aQ (Ns h (by omega)) rfl rfl ?_
 simp only [go_sem]
 by_cases h1:(iK h !=0)=true
 ·simp only [h1,if_true,go_sem]
  exact Fin.aD _ rfl rfl (by simp only [ay,rv,au,List.map_nil,go_sem])
 simp only [Bool.not_eq_true] at h1
 simp only [h1,Bool.false_eq_true,if_false,go_sem]
 refine aQ (ace d) rfl rfl ?_
 simp only [go_sem]
 by_cases h2:d.sound=true
 ·simp only [h2,Bool.not_true,Bool.false_eq_true,if_false,go_sem]
  by_cases h3:((h.length:Int)==12)=true
  ·simp only [h3,if_true,go_sem]
   exact Fin.aD _ rfl rfl (by simp only [ay,rv,au,List.map_nil,go_sem])
  simp only [Bool.not_eq_true] at h3
  simp only [h3,Bool.false_eq_true,if_false,go_sem]
  refine aQ (Wj h d.id (by omega)) rfl rfl ?_
  simp only [go_sem]
  by_cases h4:0<=oG d.id h 0
  ·simp only [h4,if_true,go_sem]
   exact Fin.aD _ rfl rfl (by simp only [ay,rv,au,List.map_nil,go_sem])
  simp only [h4,if_false,go_sem]
  have hm:h.length<=maxLen:=Nat.le_trans hl (by decide)
  have hm1:h.length+1<=maxLen:=Nat.le_trans (show _<=901 by omega) (by decide)
  refine ⟨⟨by omega,hm⟩,⟨by omega,hm1,Nat.le_refl _⟩,?_⟩
  refine Cm (acf (h++[d]) h.length (by simp;omega) (by simp)) ⟨by simp only [rv,get,List.map_append,List.map_cons,List.map_nil,Due.enc,go_sem];exact ⟨by simp,by simp,by simp [List.take_of_length_le]⟩,by simp only [au,rv,and_self]⟩ rfl rfl rfl ?_
  simp only [dF,deep,go_sem]
  exact ⟨rfl,Fin.aD _ rfl rfl (by simp only [ay,rv,au,go_sem])⟩
 ·simp only [Bool.not_eq_true] at h2
  simp only [h2,Bool.not_false,if_true,go_sem]
  exact Fin.aD _ rfl rfl (by simp only [ay,rv,au,List.map_nil,go_sem])
theorem Wo (id:Int):∀ (l:List Due) (i:Nat),oG id l i= -1\/∃ k:Nat,oG id l i=((i+k:Nat):Int)/\k<l.length
 |[],i=> .inl rfl
 |d::r,i=>by
  simp only [oG]
  split
  ·exact .inr ⟨0,by simp,by simp⟩
  ·rcases Wo id r (i+1) with h|⟨k,h1,h2⟩
   ·exact .inl h
   ·exact .inr ⟨k+1,by rw [h1];omega,by simp;omega⟩
theorem acj (h:List Due) (id:Int) (hl:h.length<=900):Fn Tryz.prog 329 [.sl 2 (h.map Due.enc),I id] [] (.aF [.sl 2 ((uP h id).1.map Due.enc),I (uP h id).2]) [] []:=by
 refine Fn.aO ai3 (by simp) ?_
 unfold Ut SC.mk' uP
 simp only [go_sem]
 refine aQ (Ns h (by omega)) rfl rfl ?_
 simp only [go_sem]
 by_cases h1:(iK h !=0)=true
 ·simp only [h1,if_true,go_sem]
  exact Fin.aD _ rfl rfl (by simp only [ay,rv,au,List.map_nil,go_sem])
 simp only [Bool.not_eq_true] at h1
 simp only [h1,Bool.false_eq_true,if_false,go_sem]
 refine aQ (Wj h id (by omega)) rfl rfl ?_
 simp only [go_sem]
 rcases Wo id h 0 with h2|⟨k,h2,h3⟩
 ·simp only [h2,if_true,go_sem]
  exact Fin.aD _ rfl rfl (by simp only [ay,rv,au,List.map_nil,go_sem])
 ·rw [Nat.zero_add] at h2
  have h4:¬ (k:Int)<0:=by omega
  simp only [h2,h4,if_false,Int.toNat_natCast,go_sem]
  refine aQ (aci h k (by omega) h3) rfl rfl ?_
  simp only [go_sem]
  exact Fin.aD _ rfl rfl (by simp only [ay,rv,au,go_sem])
theorem alM (h0:List Due) (now:Int) (hl:h0.length<=900):Fn Tryz.prog 444 [.sl 2 (h0.map Due.enc),I now] [] (.sl 1 (encI (kC now (h0.length+1) h0))) [] []:=by
 generalize hR:kC now (h0.length+1) h0=R
 refine Fn.aO ajE (by simp) ?_
 unfold Vt SC.mk'
 simp only [go_sem]
 refine go_loop (fun s:{s:List Due×List Int // s.1.length<=900/\s.2.length+s.1.length<=900/\s.2++kC now (s.1.length+1) s.1=R}=>⟨1000,[(0,.sl 2 (s.1.1.map Due.enc)),(1,I now),(5,.own 32 1 0 s.1.2.length)],[(32,.row 3 1 (encI s.1.2))]⟩) (fun s=>s.1.1.length) ⟨(h0,[]),hl,by simpa using hl,by simpa using hR⟩ (wk [] [32]) ?_
 rintro ⟨⟨h,out⟩,hh,hb,he⟩ B hB
 simp only at hh hb he
 simp only [go_sem]
 refine aQ (Ns h (by omega)) rfl rfl ?_
 simp only [go_sem]
 have ex:(¬ (iK h=0/\0<h.length/\(gD h 0).dl<=now))->rv [(32,.row 3 1 (encI out))] [] [] (.sl 1 (encI R)) (.own 32 1 0 out.length):=by
  intro hn
  simp only [kC] at he
  rw [if_neg (by simpa using hn),List.append_nil] at he
  rw [<-he]
  simp only [rv,get,go_sem]
  exact ⟨by simp,Nat.le_refl _,by rw [bA (by simp [encI])]⟩
 by_cases h1:(iK h==0)=true
 ·simp only [h1,go_sem]
  by_cases h2:0<h.length
  ·have h2':decide ((0:Int)<(h.length:Int))=true:=by simp;omega
   have hx:nth (h.map Due.enc) 0=Due.enc (gD h 0):=bS Due.enc Due.z h2
   have t0:((0:Int)).toNat=0:=rfl
   simp only [h2',t0,hx,Due.enc,go_sem]
   refine ⟨by omega,?_⟩
   by_cases h3:(gD h 0).dl<=now
   ·have hm:out.length+1<=maxLen:=Nat.le_trans (show _<=901 by omega) (by decide)
    have e2:encI out++[[I (gD h 0).id]]=encI (out++[(gD h 0).id]):=by simp [encI]
    have e2':List.take out.length (encI out)++[[I (gD h 0).id]]=encI (out++[(gD h 0).id]):=by rw [bA (by simp [encI])];exact e2
    simp only [h3,t0,hx,Due.enc,List.reduceReplicate,List.set,e2,e2',go_sem]
    refine ⟨by omega,⟨by omega,hm,Nat.le_refl _⟩,?_⟩
    refine aQ (aci h 0 (by omega) h2) rfl rfl ?_
    simp only [go_sem]
    have hc:=DI h 0 h2
    have e4:kC now (h.length+1) h=(gD h 0).id::kC now ((qg h 0).length+1) (qg h 0):=by
     rw [kC,if_pos ⟨h1,h2,h3⟩,hc,show h.length - 1+1=h.length by omega]
    rw [e4] at he
    exact hB _ ⟨(qg h 0,out++[(gD h 0).id]),by simp only;omega,by simp;omega,by simpa using he⟩ (by simp only;omega) (wk [(32,1176)] [])
   ·simp only [h3,go_sem]
    exact Fin.aD _ rfl rfl (ex (fun h=>h3 h.2.2))
  ·have h2':decide ((0:Int)<(h.length:Int))=false:=decide_eq_false (by omega)
   simp only [h2',go_sem]
   exact Fin.aD _ rfl rfl (ex (fun h=>h2 h.2.1))
 ·have h1':(iK h==0)=false:=by simpa using h1
  simp only [h1',go_sem]
  exact Fin.aD _ rfl rfl (ex (fun h=>h1 (by simp [h.1])))
end Go.Eng
