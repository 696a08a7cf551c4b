/-
  Part of a proof: lemmas and definitions of this work.
  No condition.
-/
import Derived.Test.YtmhaehngejengaaGreatA12
import Derived.Test.YtmhaehngejengaaGreatA29
set_option linter.all false
set_option maxRecDepth 100000
set_option maxHeartbeats 8000000
namespace Go.Eng
open Go Go.Proofs
attribute [local go_sem] List.length_map
theorem aoM (c:List Int) (l:Int) (hc:c.length≤1000):Fn Tryz.prog 419 [.sl 1 (encI c),I l] [] (.aF [.agg (ax.new c l).1.enc,I (ax.new c l).2]) [] []:=by
 generalize hR:ax.new c l=R
 unfold ax.new at hR
 refine Fn.aN ajw (by simp) ?_
 unfold Uj SC.mk'
 simp only [go_sem]
 have aI:=an2 c hc
 have hJ:=bf.enc.eq_1
 exact aZ
theorem mP (s:ax) (ph:Int):Fn Tryz.prog 492 [.agg s.enc,I ph] [] (.agg (s.enter ph).enc) [] []:=by
 refine Fn.aN akj (by simp) ?_
 unfold Ve SC.mk' ax.enc
 simp only [go_sem]
 exact aX
theorem X0 (s:ax):Fn Tryz.prog 526 [.agg s.enc] [] (.aF [.agg s.jQ.1.enc,I s.jQ.2]) [] []:=by
 generalize hR:s.jQ=R
 unfold ax.jQ at hR
 refine Fn.aN akI (by simp) ?_
 unfold VH SC.mk' ax.enc
 simp only [go_sem]
 have aI:=an0 s.lock
 have aU:=mP {s with lock:=s.lock.free.1} 8
 try dsimp only at aU
 have hJ:=ah bf.enc.eq_1 ax.enc.eq_1
 exact aZ
theorem OZ (a:ak) (s:ax):Fn Tryz.prog 493 [.agg a.enc,.agg s.enc] [] (.aF [.agg a.enc,.agg s.jH.1.enc,I s.jH.2]) [] []:=by
 generalize hR:s.jH=R
 unfold ax.jH at hR
 refine Fn.aN akk (by simp) ?_
 unfold Vf SC.mk' ak.enc ax.enc
 simp only [go_sem]
 have aI:=mP s 7
 have aU:=X0 s
 have hJ:=ax.enc.eq_1
 exact aZ
theorem gQ (s:ax):Fn Tryz.prog 408 [.agg s.enc] [] (.agg s.bg.enc) [] []:=by
 refine Fn.aN aaV (by simp) ?_
 unfold NJ SC.mk' ax.enc
 simp only [go_sem]
 have hJ:=Dead.enc.eq_1
 exact aZ
theorem ada (a:ak) (s:ax) (hl:s.lock.cells.length≤1000):Fn Tryz.prog 511 [.agg a.enc,.agg s.enc] [] (I (ax.slots a s)) [] []:=by
 generalize hR:ax.slots a s=R
 unfold ax.slots at hR
 refine Fn.aN aku (by simp) ?_
 unfold Vr SC.mk' ak.enc ax.enc
 simp only [go_sem]
 refine go_loop (fun x:{x:Nat×Int // x.1≤s.lock.cells.length∧(0≤x.2∧x.2≤x.1)∧x.2+oL (fun c:Int=>decide (c<(a.slots.length:Int))) (s.lock.cells.drop x.1)=R}=>⟨2000,[(2,.ptr 8 0),(3,.ptr 16 0),(5,I x.1.2),(6,I x.1.1)],[(8,.box [.sl 9 (a.slots.map Slot.enc),.sl 4 (a.cu.map aH.enc),I a.dead.owner,I a.dead.dead.cap,.sl 7 (a.dead.dead.l.map ai.enc),I a.dir.version,.sl 3 (a.dir.l.map Span.enc),.sl 1 (encI a.dir.aJ),I a.epoch,I a.clock,I a.fQ]),(16,.box [I s.phase,I s.at_,.sl 1 (encI s.lock.cells),I s.lock.phase,I s.lock.got,I s.lock.tries,I s.lock.wait,I s.aG.phase,I s.aG.epoch,I s.aG.clock,I s.aG.stamp,.sl 8 (s.shards.map aj.enc),I s.dead.cap,.sl 7 (s.dead.l.map ai.enc),.sl 4 (s.cu.map aH.enc),I s.dir.version,.sl 3 (s.dir.l.map Span.enc),.sl 1 (encI s.dir.aJ),.sl 8 (s.out.shards.map aj.enc),I s.out.dead.cap,.sl 7 (s.out.dead.l.map ai.enc),.sl 1 (encI s.out.order),.sl 7 (s.out.carry.map ai.enc),.sl 4 (s.out.dS.map bT.enc),I s.limit,.sl 7 (s.carry.map ai.enc)])]⟩) (fun x=>s.lock.cells.length - x.1.1) ⟨(0,0),by omega,by simp,by rw [←hR];simp⟩ (wk [(8,8),(16,16)] []) ?_
 rintro ⟨⟨j,c⟩,hj,hc,he⟩ B hB
 simp only at hj hc he
 simp only [go_sem]
 by_cases e1:j<s.lock.cells.length
 ·have e2:decide ((j:Int)<(s.lock.cells.length:Int))=true:=by simp;omega
  rw [eP 0 e1,Xq] at he
  simp only [show s.lock.cells[j]?.getD 0=gI s.lock.cells j from rfl] at he
  have hx:=oU e1
  have hw:=cZ (show j≤100000 by omega)
  have hw2:IntKind.i64.wrap (c+1)=c+1:=bH (by omega)
  simp only [e2,hx,aS,List.length_map,Int.toNat_natCast,go_sem]
  repeat (refine bn ?_)
  by_cases e3:gI s.lock.cells j<(a.slots.length:Int)
  ·simp only [e3,decide_true,if_true] at he
   simp only [e3,hw,hw2,go_sem]
   exact hB _ ⟨(j+1,c+1),by simp only;omega,by simp only;omega,by simp only;omega⟩ (by simp only;omega) (wk [(8,8),(16,16)] [])
  ·simp only [e3,decide_false,Bool.false_eq_true,if_false] at he
   simp only [e3,hw,go_sem]
   exact hB _ ⟨(j+1,c),by simp only;omega,by simp only;omega,by simp only;simpa using he⟩ (by simp only;omega) (wk [(8,8),(16,16)] [])
 ·have e2:decide ((j:Int)<(s.lock.cells.length:Int))=false:=by simp;omega
  rw [fF (by omega)] at he
  simp only [oL,List.filter_nil,List.length_nil,Int.natCast_zero,Int.add_zero] at he
  simp only [e2,aS,go_sem]
  exact Fin.mk0 _ rfl rfl (by rw [←he];rfl)
theorem aoN (s:ax) (k:Int) (hl:s.out.order.length≤1000):Fn Tryz.prog 545 [.agg s.enc,I k] [] (Bo (s.AU k)) [] []:=by
 generalize hR:s.AU k=R
 unfold ax.AU at hR
 refine Fn.aN akX (by simp) ?_
 unfold V4 SC.mk' ax.enc
 simp only [go_sem]
 refine go_loop (fun j:{j:Nat // j≤s.out.order.length∧((s.out.order.drop j).any fun x=>x==k)=R}=>⟨2000,[(1,I k),(2,.ptr 8 0),(5,I j.1)],[(8,.box [I s.phase,I s.at_,.sl 1 (encI s.lock.cells),I s.lock.phase,I s.lock.got,I s.lock.tries,I s.lock.wait,I s.aG.phase,I s.aG.epoch,I s.aG.clock,I s.aG.stamp,.sl 8 (s.shards.map aj.enc),I s.dead.cap,.sl 7 (s.dead.l.map ai.enc),.sl 4 (s.cu.map aH.enc),I s.dir.version,.sl 3 (s.dir.l.map Span.enc),.sl 1 (encI s.dir.aJ),.sl 8 (s.out.shards.map aj.enc),I s.out.dead.cap,.sl 7 (s.out.dead.l.map ai.enc),.sl 1 (encI s.out.order),.sl 7 (s.out.carry.map ai.enc),.sl 4 (s.out.dS.map bT.enc),I s.limit,.sl 7 (s.carry.map ai.enc)])]⟩) (fun j=>s.out.order.length - j.1) ⟨0,by omega,hR⟩ (wk [(8,8)] []) ?_
 rintro ⟨j,hj,he⟩ B hB
 simp only [go_sem]
 by_cases e1:j<s.out.order.length
 ·have e2:decide ((j:Int)<(s.out.order.length:Int))=true:=by simp;omega
  rw [eP 0 e1] at he
  simp only [List.any_cons,show s.out.order[j]?.getD 0=gI s.out.order j from rfl] at he
  have hx:=oU e1
  have hw:=cZ (show j≤100000 by omega)
  simp only [e2,hx,aS,Int.toNat_natCast,go_sem]
  repeat (refine bn ?_)
  by_cases e3:(gI s.out.order j==k)=true
  ·simp only [e3,Bool.true_or] at he
   simp only [e3,go_sem]
   exact Fin.mk0 _ rfl rfl (by rw [←he];rfl)
  ·simp only [Bool.not_eq_true] at e3
   simp only [e3,Bool.false_or] at he
   simp only [e3,hw,go_sem]
   exact hB _ ⟨j+1,by omega,he⟩ (by simp only;omega) (wk [(8,8)] [])
 ·have e2:decide ((j:Int)<(s.out.order.length:Int))=false:=by simp;omega
  rw [fF (by omega)] at he
  simp only [e2,aS,go_sem]
  exact Fin.mk0 _ rfl rfl (by rw [←he];rfl)
end Go.Eng
namespace Go.Eng
open Go Go.Proofs
attribute [local go_sem] ak.enc ax.enc Task.enc Ev.enc bG.enc bf.enc dG.enc Dead.enc Dir.enc aj.enc Walk.enc aV.enc aH.enc bT.enc Setup.enc aS fD fE List.length_map
@[go_sem,simp] theorem arC {α β:Type} (f:α→β) (l:List α) (x:β):List.take (l.length+1) (List.map f l++[x])=List.map f l++[x]:=bD (by simp)
@[go_sem,simp] theorem arD {α β:Type} (f:α→β) (l:List α):List.take l.length (List.map f l)=List.map f l:=bD (by simp)
theorem O0 {n:Nat} {a:ak} (ha:a.wf n):a.slots.length≤1000:=by have:=ha.sl;have:=ha.n6;omega
theorem FZ {n:Nat} {a:ak} (ha:a.wf n):a.cu.length=a.slots.length:=by rw [ha.st,ha.sl]
theorem aoO (a:ak) (s:ax):0≤ax.slots a s∧ax.slots a s≤s.lock.cells.length:=by
 have:=List.length_filter_le (fun c:Int=>decide (c<(a.slots.length:Int))) s.lock.cells
 unfold ax.slots oL;omega
theorem aoP (a:ak) (s:ax) (task:Int) {n:Nat} (ha:a.wf n) (hs:s.wf n) (hp:s.phase=1):Fn Tryz.prog 512 [.agg a.enc,.agg s.enc,I task] [] (.aF [.agg (s.mark a task).1.enc,.agg (s.mark a task).2.1.enc,I (s.mark a task).2.2]) [] []:=by
 generalize hR:s.mark a task=R
 unfold ax.mark at hR
 simp only at hR
 obtain ⟨_,_,h3,h4,h5⟩:=hs.p1 hp
 have hK:=y7 n s.lock.cells
 have hl3:=hs.lk.l3
 have hq:s.at_.tdiv 2=s.at_ / 2:=Int.tdiv_eq_ediv_of_nonneg h3
 have hr:s.at_.tmod 2=s.at_ % 2:=Int.tmod_eq_emod_of_nonneg h3
 obtain ⟨i,hi⟩:∃ i:Nat,s.at_ / 2=(i:Int):=⟨(s.at_ / 2).toNat,by omega⟩
 have w1:IntKind.i64.wrap (s.at_.tdiv 2)=(i:Int):=by rw [hq,hi];exact bH (by omega)
 have w2:IntKind.i64.wrap (s.at_.tmod 2)=s.at_.tmod 2:=bH (by omega)
 have w3:IntKind.i64.wrap (s.at_+1)=s.at_+1:=bH (by omega)
 have hx:=oU (show i<s.lock.cells.length by omega)
 rw [hq,hi,Int.toNat_natCast] at hR
 have hm:s.cu.length≤maxLen:=Nat.le_trans (show _≤10000 by omega) (by decide)
 have hm1:s.cu.length+1≤maxLen:=Nat.le_trans (show _≤10000 by omega) (by decide)
 refine Fn.aT bY akv (by simp) ?_
 unfold Vs SC.mk' ak.enc ax.enc
 simp only [w1,w2,hx,aS,xh,go_sem]
 repeat (refine bn ?_)
 by_cases c1:(s.at_.tmod 2==0)=true
 ·rw [if_pos c1] at hR
  simp only [c1,go_sem]
  have aI:=Xz a (gI s.lock.cells i) (FZ ha)
  have hJ:=ah w3 @mT
  exact aZ
 ·rw [if_neg c1] at hR
  simp only [Bool.not_eq_true] at c1
  have hc1:¬ s.at_ % 2=0:=by rw [←hr];simpa using c1
  have hsl:i<s.cu.length:=by omega
  have hn:=OU hsl
  have Bg:min i s.cu.length=i:=Nat.min_eq_left (by omega)
  have m1:i≤maxLen:=Nat.le_trans (show _≤10000 by omega) (by decide)
  have m2:i+1≤maxLen:=Nat.le_trans (show _≤10000 by omega) (by decide)
  have hl:(s.cu.take i).length=i:=by simp;omega
  have ht:List.take i (List.map aH.enc s.cu)=List.map aH.enc (s.cu.take i):=jc ..
  have ht2:List.take (i+1) (List.map aH.enc (List.take i s.cu)++[aH.enc (jG s.cu i).begin.1])=List.map aH.enc (List.take i s.cu++[(jG s.cu i).begin.1]):=by rw [bD (by simp;omega)];simp
  have ht3:List.take i (List.map aH.enc (List.take i s.cu))=List.map aH.enc (List.take i s.cu):=bD (by simp;omega)
  generalize hT:List.take i s.cu=T at*
  simp only [c1,hn,mT,go_sem]
  repeat (refine bn ?_)
  (refine CG (by simp only [go_sem];rfl) (by rfl) (by simp only [go_sem]<;>first|trivial|omega|(simp<;>omega)) ?_;simp only [go_sem])
  simp only [hn,mT,go_sem]
  repeat (refine bn ?_)
  refine aO (anO (jG s.cu i)) rfl rfl ?_
  generalize (jG s.cu i).begin=x at hR ht2 ⊢
  simp only [mT,go_sem]
  by_cases b1:x.2≠0
  ·rw [if_pos b1] at hR
   have b1':(x.2 !=0)=true:=by simpa using b1
   simp only [b1',go_sem]
   exact aX
  rw [if_neg b1] at hR
  have b1':(x.2 !=0)=false:=by simpa using b1
  have hS:=ada (a.jW (gI s.lock.cells i) task x.1).1 {s with cu:=T++[x.1],at_:=s.at_+1} (show s.lock.cells.length≤1000 by omega)
  have hq1:=aoO (a.jW (gI s.lock.cells i) task x.1).1 {s with cu:=T++[x.1],at_:=s.at_+1}
  simp only at hq1
  generalize ax.slots (a.jW (gI s.lock.cells i) task x.1).1 {s with cu:=T++[x.1],at_:=s.at_+1}=q at hR hS hq1
  have hws:IntKind.i64.wrap (2*q)=2*q:=bH (by omega)
  simp only [mT] at ht2
  have hmT:T.length≤maxLen:=by omega
  simp only [b1',ht,ht3,hl,mT,List.length_map,go_sem]
  repeat (refine bn ?_)
  have aI:=XA a (gI s.lock.cells i) task x.1 (FZ ha) (O0 ha)
  have hJ:=ah w3 (ah hws (ah ht (ah ht2 (ah ht3 hl))))
  repeat' first
   |(first|refine aO (mP {s with cu:=T++[x.1],at_:=s.at_+1} 2) rfl rfl ?_|refine dh (mP {s with cu:=T++[x.1],at_:=s.at_+1} 2) rfl rfl ?_|refine sZ ?_ (mP {s with cu:=T++[x.1],at_:=s.at_+1} 2)|refine sY ?_ (mP {s with cu:=T++[x.1],at_:=s.at_+1} 2));simp only [hJ,mT,ak.enc,ax.enc,List.length_map,go_sem]
   |(first|refine sC ?_|refine sD ?_|refine sZ ?_|refine sY ?_|refine sF ?_);simp only [hJ,mT,ak.enc,ax.enc,List.length_map,go_sem]
   |(first|refine bF (fun hq=> ?_) (fun hq=> ?_)|refine dY (fun hq=> ?_) (fun hq=> ?_)|refine dL (fun hq=> ?_) (fun hq=> ?_))<;>simp only [hq,hJ,mT,ak.enc,ax.enc,List.length_map,go_sem]
   |refine sM ?_;simp only [ay,rv,au,get,hJ,mT,ak.enc,ax.enc,List.length_map,go_sem]
   |refine bn ?_
   |fail
  all_goals clear aI hJ
  all_goals clear hS ht2 ht3 ht hn Bg hmT hm hm1 m1 m2 hx hws hl hT hsl hc1 w1 w2 w3 hi h3 h4 h5 hK hl3 hr
  all_goals (subst hR;first|rfl|simp_all [rv,au,get,ax.enter,ax.enter,ak.enc,ax.enc,Task.enc,Ev.enc,bG.enc,bf.enc,dG.enc,Dead.enc,Dir.enc,aj.enc,Walk.enc,aV.enc,aH.enc,-Int.not_lt,-Int.not_le]<;>try rfl)
theorem aoR (a:ak) (s:ax) {n:Nat} (ha:a.wf n) (hs:s.wf n) (hp:s.phase=2):Fn Tryz.prog 513 [.agg a.enc,.agg s.enc] [] (.aF [.agg (s.load a).1.enc,.agg (s.load a).2.1.enc,I (s.load a).2.2]) [] []:=by
 generalize hR:s.load a=R
 unfold ax.load at hR
 simp only at hR
 obtain ⟨_,_,h3,h4,h5⟩:=hs.p2 hp
 have hl3:=hs.lk.l3
 have hx:=oU (show s.at_.toNat<s.lock.cells.length by omega)
 have w3:IntKind.i64.wrap (s.at_+1)=s.at_+1:=bH (by omega)
 have hm:s.shards.length≤maxLen:=Nat.le_trans (show _≤10000 by omega) (by decide)
 have hm1:s.shards.length+1≤maxLen:=Nat.le_trans (show _≤10000 by omega) (by decide)
 generalize hc:gI s.lock.cells s.at_.toNat=c at hR hx
 refine Fn.aT bY akw (by simp) ?_
 unfold Vt SC.mk' ak.enc ax.enc
 simp only [hx,aS,go_sem]
 repeat (refine bn ?_)
 by_cases c1:(c==(a.slots.length:Int))=true
 ·simp only [if_pos c1] at hR
  simp only [c1,List.length_map,go_sem]
  have aI:=anU a
  have aU:=mP {s with dead:=a.dead.dead,at_:=s.at_+1} 3
  try dsimp only at aU
  have hJ:=w3
  exact aZ
 ·simp only [if_neg c1] at hR
  simp only [Bool.not_eq_true] at c1
  simp only [c1,List.length_map,go_sem]
  have aI:=anT a c
  have aU:=mP {s with shards:=s.shards++[(a.lD c).1],at_:=s.at_+1} 3
  try dsimp only at aU
  have hJ:=w3
  exact aZ
end Go.Eng
namespace Go.Eng
open Go Go.Proofs
attribute [local go_sem] ak.enc ax.enc Task.enc Ev.enc bG.enc bf.enc dG.enc Dead.enc Dir.enc aj.enc Walk.enc aV.enc aH.enc bT.enc Setup.enc aS fD fE List.length_map
theorem X3 {l:List aj} {i:Nat} (h:i<l.length):nth (l.map aj.enc) i=aj.enc (eH l i):=bZ aj.enc aj.z h
theorem aoS {l:List bT} {i:Nat} (h:i<l.length):nth (l.map bT.enc) i=bT.enc (gE l i):=bZ bT.enc bT.z h
theorem aoT (a:ak) (s:ax) (task:Int) {n:Nat} (ha:a.wf n) (hs:s.wf n) (hl:s.aW) (hp:s.phase=5):Fn Tryz.prog 515 [.agg a.enc,.agg s.enc,I task] [] (.aF [.agg (s.store a task).1.enc,.agg (s.store a task).2.1.enc,I (s.store a task).2.2]) [] []:=by
 generalize hR:s.store a task=R
 unfold ax.store at hR
 simp only at hR
 have h5:=hs.p5 (by omega)
 have hq5:=hs.q5 hp
 have hl3:=hs.lk.l3
 have hoo:=hl.o.oo
 have hod:=hl.o.od
 have hx:=oU (show s.at_.toNat<s.out.order.length by omega)
 have hk:=FP h5.2 (i:=s.at_.toNat) (by omega)
 have w3:IntKind.i64.wrap (s.at_+1)=s.at_+1:=bH (by omega)
 generalize hK:gI s.out.order s.at_.toNat=k at hR hx hk
 have hy:=oU (show k.toNat<s.lock.cells.length by omega)
 have hcn:=FP hs.lk.xg (i:=k.toNat) (by omega)
 have hlt:=WS (n:=n) s.lock.cells k.toNat hs.lk.vH (by omega)
 generalize hC:gI s.lock.cells k.toNat=c at hR hy hcn hlt
 refine Fn.aT bY aky (by simp) ?_
 unfold Vw SC.mk' ak.enc ax.enc
 simp only [hx,hy,aS,go_sem]
 repeat (refine bn ?_)
 by_cases c1:(c==(a.slots.length:Int))=true
 ·simp only [if_pos c1] at hR
  simp only [c1,List.length_map,go_sem]
  have aI:=anY a task s.out.dead (by omega)
  have aU:=mP {s with at_:=s.at_+1,carry:=[]} 6
  try dsimp only at aU
  have bK:=OZ (a.nD task s.out.dead).1 {s with at_:=s.at_+1,carry:=[]}
  try dsimp only at bK
  have hJ:=w3
  exact aZ
 ·simp only [if_neg c1] at hR
  have hcl:c<n:=by
   have:c≠(a.slots.length:Int):=by simpa using c1
   have:=ha.sl
   omega
  have hlt:=hlt hcl
  have hz:=X3 (show k.toNat<s.out.shards.length by omega)
  have hsm:=ac5 hl.o k.toNat
  simp only [Bool.not_eq_true] at c1
  generalize eH s.out.shards k.toNat=sh at hR hz hsm
  simp only [c1,List.length_map,go_sem]
  repeat (refine bn ?_)
  have aI:=anW a c task sh hsm (O0 ha)
  have aU:=mP {s with at_:=s.at_+1,carry:=[]} 6
  try dsimp only at aU
  have bK:=OZ (a.nC c task sh).1 {s with at_:=s.at_+1,carry:=[]}
  try dsimp only at bK
  have hJ:=ah w3 hz
  exact aZ
theorem aoV (a:ak) (s:ax) {n:Nat} (ha:a.wf n) (hs:s.wf n) (hl:s.aW) (hp:s.phase=6):Fn Tryz.prog 516 [.agg a.enc,.agg s.enc] [] (.aF [.agg (s.nI a).1.enc,.agg (s.nI a).2.1.enc,I (s.nI a).2.2]) [] []:=by
 generalize hR:s.nI a=R
 unfold ax.nI at hR
 simp only at hR
 have h6:=hs.p6 hp
 have hdi:=hl.di
 have hx:=aoS h6
 have hal:=aof s.dir (gE s.out.dS 0)
 generalize gE s.out.dS 0=e at hR hx hal
 refine Fn.aT bY akz (by simp) ?_
 unfold Vx SC.mk' ak.enc ax.enc
 simp only [go_sem]
 by_cases c1:(s.at_==0)=true
 ·simp only [if_pos c1] at hR
  simp only [c1,go_sem]
  have aI:=OW a
  exact aX
 simp only [if_neg c1] at hR
 simp only [Bool.not_eq_true] at c1
 simp only [c1,go_sem]
 (refine CG (by simp only [go_sem];rfl) (by rfl) (by simp only [go_sem]<;>first|trivial|omega|(simp<;>omega)) ?_;simp only [go_sem])
 simp only [hx,bT.enc,List.length_map,go_sem]
 repeat (refine bn ?_)
 refine dh (anM s.dir e (by omega)) rfl rfl ?_
 generalize s.dir.apply e=d at hR hal ⊢
 simp only [Dir.enc,go_sem]
 by_cases b1:d.2≠0
 ·rw [if_pos b1] at hR
  have b1':(d.2 !=0)=true:=by simpa using b1
  simp only [b1',go_sem]
  exact aX
 rw [if_neg b1] at hR
 have b1':(d.2 !=0)=false:=by simpa using b1
 simp only [b1',go_sem]
 have aI:=anZ a s.dir.version d.1 (by omega)
 have aU:=OZ (a.qo s.dir.version d.1).1 {s with dir:=d.1}
 try dsimp only at aU
 exact aX
theorem aoW (a:ak) (s:ax) (task:Int) {n:Nat} (ha:a.wf n) (hs:s.wf n) (hl:s.aW) (hp:s.phase=7):Fn Tryz.prog 517 [.agg a.enc,.agg s.enc,I task] [] (.aF [.agg (s.nJ a task).1.enc,.agg (s.nJ a task).2.1.enc,I (s.nJ a task).2.2]) [] []:=by
 generalize hR:s.nJ a task=R
 unfold ax.nJ at hR
 simp only at hR
 have h5:=hs.p5 (by omega)
 have h7:=hs.p7 hp
 have hq3:=hs.q3 (by omega)
 have hK:=y7 n s.lock.cells
 have hl3:=hs.lk.l3
 have hoo:=hl.o.oo
 have hx:=X3 (show s.at_.toNat<s.shards.length by omega)
 have hy:=X3 (show s.at_.toNat<s.out.shards.length by omega)
 have hz:=OU (show s.at_.toNat<s.cu.length by omega)
 have hc:=oU (show s.at_.toNat<s.lock.cells.length by omega)
 have w3:IntKind.i64.wrap (s.at_+1)=s.at_+1:=bH (by omega)
 have sm1:=oV hl s.at_.toNat
 have sm2:=ac5 hl.o s.at_.toNat
 generalize eH s.shards s.at_.toNat=sh at hR hx sm1
 generalize eH s.out.shards s.at_.toNat=so at hR hy sm2
 generalize jG s.cu s.at_.toNat=st at hR hz
 generalize gI s.lock.cells s.at_.toNat=c at hR hc
 refine Fn.aT bY akA (by simp) ?_
 unfold Vy SC.mk' ak.enc ax.enc
 simp only [hx,aj.enc,List.length_map,go_sem]
 repeat (refine bn ?_)
 (refine CG (by simp only [go_sem];rfl) (by rfl) (by simp only [go_sem]<;>first|trivial|omega|(simp<;>omega)) ?_;simp only [go_sem])
 refine aO (aoN s s.at_ (by omega)) rfl rfl ?_
 simp only [go_sem]
 have key:∀ now:aj,now.sm→(if (st.done now s.aG.epoch s.limit).2≠0 then (a,s,(st.done now s.aG.epoch s.limit).2) else if (a.jW c task (st.done now s.aG.epoch s.limit).1).2≠0 then ((a.jW c task (st.done now s.aG.epoch s.limit).1).1,s,(a.jW c task (st.done now s.aG.epoch s.limit).1).2) else if (s.at_+1==(s.cu.length:Int))=true then ((a.jW c task (st.done now s.aG.epoch s.limit).1).1,(ax.jQ {s with at_:=s.at_+1}).1,(ax.jQ {s with at_:=s.at_+1}).2) else ((a.jW c task (st.done now s.aG.epoch s.limit).1).1,{s with at_:=s.at_+1},(0:Int)))=R→True:=fun _ _ _=>trivial
 by_cases c1:s.AU s.at_=true
 ·simp only [if_pos c1] at hR
  simp only [c1,hy,hz,hc,mT,aj.enc,aS,List.length_map,go_sem]
  repeat (refine bn ?_)
  have aI:=acN st so s.aG.epoch s.limit sm2
  have aU:=XA a c task (st.done so s.aG.epoch s.limit).1 (FZ ha) (O0 ha)
  have bK:=X0 {s with at_:=s.at_+1}
  try dsimp only at bK
  have hJ:=ah w3 (ah hz (ah hc @mT))
  exact aZ
 ·simp only [if_neg c1] at hR
  simp only [Bool.not_eq_true] at c1
  simp only [c1,hz,hc,mT,aj.enc,aS,List.length_map,go_sem]
  repeat (refine bn ?_)
  have aI:=acN st sh s.aG.epoch s.limit sm1
  have aU:=XA a c task (st.done sh s.aG.epoch s.limit).1 (FZ ha) (O0 ha)
  have bK:=X0 {s with at_:=s.at_+1}
  try dsimp only at bK
  have hJ:=ah w3 (ah hz (ah hc @mT))
  exact aZ
end Go.Eng
namespace Go.Eng
open Go Go.Proofs
attribute [local go_sem] ak.enc ax.enc Task.enc Ev.enc bG.enc bf.enc dG.enc Dead.enc Dir.enc aj.enc Walk.enc aV.enc aH.enc bT.enc Setup.enc aS fD fE List.length_map List.map_nil jq
theorem aoX (a:ak) (l:bf) (task:Int) (h:l.cells.length≤1000):(l.step a task).2.1.cells.length≤1000:=by
 unfold bf.step
 simp only
 repeat' split
 all_goals first|exact Nat.zero_le _|exact h
theorem aoY (a:ak) (s:ax) (task k:Int) {n:Nat} (ha:a.wf n) (hs:s.wf n) (hl:s.aW):Fn Tryz.prog 476 [.agg a.enc,.agg s.enc,I task,I k] [] (.aF [.agg (s.step0 a task k).1.enc,.agg (s.step0 a task k).2.1.enc,I (s.step0 a task k).2.2]) [] []:=by
 generalize hR:s.step0 a task k=R
 unfold ax.step0 at hR
 simp only at hR
 have hc1:s.lock.cells.length≤1000:=by have:=hs.lk.l3;omega
 by_cases p0:s.phase=0
 ·have e:∀ j:Int,(s.phase==j)=((0:Int)==j):=fun j=>by rw [p0]
  simp only [e,Int.reduceBEq,Bool.false_eq_true,if_true,if_false] at hR
  refine Fn.aT bY wK (by simp) ?_
  unfold sW SC.mk' ak.enc ax.enc
  simp only [e,go_sem]
  have aI:=acT a s.lock task n ha hs.lk
  have aU:=mP {s with lock:=(s.lock.step a task).2.1} 1
  try dsimp only at aU
  have bK:=ada a (ax.enter {s with lock:=(s.lock.step a task).2.1} 1) (aoX a s.lock task hc1)
  try dsimp only at bK
  have eF:=mP (ax.enter {s with lock:=(s.lock.step a task).2.1} 1) 2
  try dsimp only at eF
  have hJ:=e
  exact aZ
 by_cases p1:s.phase=1
 ·have e:∀ j:Int,(s.phase==j)=((1:Int)==j):=fun j=>by rw [p1]
  simp only [e,Int.reduceBEq,Bool.false_eq_true,if_true,if_false] at hR
  refine Fn.aT bY wK (by simp) ?_
  unfold sW SC.mk' ak.enc ax.enc
  simp only [e,go_sem]
  have aI:=aoP a s task ha hs p1
  have hJ:=e
  exact aZ
 by_cases p2:s.phase=2
 ·have e:∀ j:Int,(s.phase==j)=((2:Int)==j):=fun j=>by rw [p2]
  simp only [e,Int.reduceBEq,Bool.false_eq_true,if_true,if_false] at hR
  refine Fn.aT bY wK (by simp) ?_
  unfold sW SC.mk' ak.enc ax.enc
  simp only [e,go_sem]
  have aI:=aoR a s ha hs p2
  have hJ:=e
  exact aZ
 by_cases p3:s.phase=3
 ·have e:∀ j:Int,(s.phase==j)=((3:Int)==j):=fun j=>by rw [p3]
  simp only [e,Int.reduceBEq,Bool.false_eq_true,if_true,if_false] at hR
  refine Fn.aT bY wK (by simp) ?_
  unfold sW SC.mk' ak.enc ax.enc
  simp only [e,go_sem]
  have aI:=aoL a s.aG k
  have aU:=mP {s with aG:=(s.aG.step a k).1} 4
  try dsimp only at aU
  have hJ:=e
  exact aZ
 by_cases p5:s.phase=5
 ·have e:∀ j:Int,(s.phase==j)=((5:Int)==j):=fun j=>by rw [p5]
  simp only [e,Int.reduceBEq,Bool.false_eq_true,if_true,if_false] at hR
  refine Fn.aT bY wK (by simp) ?_
  unfold sW SC.mk' ak.enc ax.enc
  simp only [e,go_sem]
  have aI:=aoT a s task ha hs hl p5
  have hJ:=e
  exact aZ
 by_cases p6:s.phase=6
 ·have e:∀ j:Int,(s.phase==j)=((6:Int)==j):=fun j=>by rw [p6]
  simp only [e,Int.reduceBEq,Bool.false_eq_true,if_true,if_false] at hR
  refine Fn.aT bY wK (by simp) ?_
  unfold sW SC.mk' ak.enc ax.enc
  simp only [e,go_sem]
  have aI:=aoV a s ha hs hl p6
  have hJ:=e
  exact aZ
 by_cases p7:s.phase=7
 ·have e:∀ j:Int,(s.phase==j)=((7:Int)==j):=fun j=>by rw [p7]
  simp only [e,Int.reduceBEq,Bool.false_eq_true,if_true,if_false] at hR
  refine Fn.aT bY wK (by simp) ?_
  unfold sW SC.mk' ak.enc ax.enc
  simp only [e,go_sem]
  have aI:=aoW a s task ha hs hl p7
  have hJ:=e
  exact aZ
 by_cases p8:s.phase=8
 ·have e:∀ j:Int,(s.phase==j)=((8:Int)==j):=fun j=>by rw [p8]
  simp only [e,Int.reduceBEq,Bool.false_eq_true,if_true,if_false] at hR
  refine Fn.aT bY wK (by simp) ?_
  unfold sW SC.mk' ak.enc ax.enc
  simp only [e,go_sem]
  have aI:=acT a s.lock task n ha hs.lk
  have aU:=mP {s with lock:=(s.lock.step a task).2.1} 9
  try dsimp only at aU
  have hJ:=e
  exact aZ
 have f0:(s.phase==0)=false:=beq_eq_false_iff_ne.2 p0
 have f1:(s.phase==1)=false:=beq_eq_false_iff_ne.2 p1
 have f2:(s.phase==2)=false:=beq_eq_false_iff_ne.2 p2
 have f3:(s.phase==3)=false:=beq_eq_false_iff_ne.2 p3
 have f5:(s.phase==5)=false:=beq_eq_false_iff_ne.2 p5
 have f6:(s.phase==6)=false:=beq_eq_false_iff_ne.2 p6
 have f7:(s.phase==7)=false:=beq_eq_false_iff_ne.2 p7
 have f8:(s.phase==8)=false:=beq_eq_false_iff_ne.2 p8
 simp only [f0,f1,f2,f3,f5,f6,f7,f8,Bool.false_eq_true,if_false] at hR
 refine Fn.aT bY wK (by simp) ?_
 unfold sW SC.mk' ak.enc ax.enc
 simp only [f0,f1,f2,f3,f5,f6,f7,f8,go_sem]
 exact aX
theorem aoZ (a:ak) (s:ax) (task k:Int) {n:Nat} (ha:a.wf n) (hal:a.aW) (hs:s.wf n) (hl:s.aW):Fn Tryz.prog 407 [.agg a.enc,.agg s.enc,I task,I k] [] (.aF [.agg (s.step a task k).1.enc,.agg (s.step a task k).2.1.enc,I (s.step a task k).2.2]) [] []:=by
 generalize hR:s.step a task k=R
 unfold ax.step at hR
 refine Fn.aT bY ajm (by simp) ?_
 unfold TW SC.mk' ak.enc ax.enc
 simp only [go_sem]
 have aI:=aoY a s task k ha hs hl
 exact aX
theorem adf (l:List Int) (x:Int):∀ (m:Nat),m≤l.length→(((l.take m).any fun y=>y==x)=false↔∀ k,k<m→¬ gI l k=x):=by
 intro m hm
 rw [List.any_eq_false]
 constructor
 ·intro h k hk e
  have hkl:k<l.length:=by omega
  refine h (gI l k) ?_ (by simp [e])
  unfold gI
  rw [List.getElem?_eq_getElem hkl]
  exact List.mem_take_iff_getElem.2 ⟨k,by omega,rfl⟩
 ·intro h y hy
  obtain ⟨k,hk,rfl⟩:=List.mem_take_iff_getElem.1 hy
  have hkl:k<l.length:=by omega
  have:=h k (by omega)
  unfold gI at this
  rw [List.getElem?_eq_getElem hkl] at this
  simpa using this
theorem ao0 (s:ax) (o:bG) (ho:o.order.length≤1000) (hc:s.lock.cells.length≤1000):Fn Tryz.prog 435 [.agg s.enc,.agg o.enc] [] (.aF [.agg (s.vF o).1.enc,I (s.vF o).2]) [] []:=by
 generalize hR:s.vF o=R
 unfold ax.vF at hR
 refine Fn.aT bY ajL (by simp) ?_
 unfold UB SC.mk' ax.enc bG.enc
 simp only [go_sem]
 by_cases h0:(s.phase !=4)=true
 ·rw [if_pos h0] at hR
  simp only [h0,go_sem]
  exact Fin.mk0 _ rfl rfl (by rw [←hR];simp only [ay,rv,au,get,ax.enc,jq,List.map_nil,go_sem])
 rw [if_neg h0] at hR
 simp only [Bool.not_eq_true] at h0
 simp only [h0,List.length_map,go_sem]
 by_cases h1:o.shards.length≠s.shards.length
 ·rw [if_pos (.inl h1)] at hR
  have h1':((o.shards.length:Int) !=(s.shards.length:Int))=true:=by simp;omega
  simp only [h1',go_sem]
  exact Fin.mk0 _ rfl rfl (by rw [←hR];simp only [ay,rv,au,get,ax.enc,jq,List.map_nil,go_sem])
 have h1':((o.shards.length:Int) !=(s.shards.length:Int))=false:=by simp;omega
 by_cases h2:1<o.dS.length
 ·rw [if_pos (.inr h2)] at hR
  have h2':decide ((1:Int)<(o.dS.length:Int))=true:=by simp;omega
  simp only [h1',h2',List.length_map,go_sem]
  exact Fin.mk0 _ rfl rfl (by rw [←hR];simp only [ay,rv,au,get,ax.enc,jq,List.map_nil,go_sem])
 rw [if_neg (by omega)] at hR
 have h2':decide ((1:Int)<(o.dS.length:Int))=false:=by simp;omega
 simp only [h1',h2',List.length_map,go_sem]
 generalize hK:jI s.lock.cells o.order []=K at hR
 refine go_loop (fun j:{j:Nat // j≤o.order.length∧jI s.lock.cells (o.order.drop j) (o.order.take j)=K}=>⟨2000,[(2,.ptr 8 0),(3,.ptr 16 0),(4,.ptr 24 0),(6,I j.1)],[(8,.box [I s.phase,I s.at_,.sl 1 (encI s.lock.cells),I s.lock.phase,I s.lock.got,I s.lock.tries,I s.lock.wait,I s.aG.phase,I s.aG.epoch,I s.aG.clock,I s.aG.stamp,.sl 8 (s.shards.map aj.enc),I s.dead.cap,.sl 7 (s.dead.l.map ai.enc),.sl 4 (s.cu.map aH.enc),I s.dir.version,.sl 3 (s.dir.l.map Span.enc),.sl 1 (encI s.dir.aJ),.sl 8 (s.out.shards.map aj.enc),I s.out.dead.cap,.sl 7 (s.out.dead.l.map ai.enc),.sl 1 (encI s.out.order),.sl 7 (s.out.carry.map ai.enc),.sl 4 (s.out.dS.map bT.enc),I s.limit,.sl 7 (s.carry.map ai.enc)]),(16,.box [.sl 8 (o.shards.map aj.enc),I o.dead.cap,.sl 7 (o.dead.l.map ai.enc),.sl 1 (encI o.order),.sl 7 (o.carry.map ai.enc),.sl 4 (o.dS.map bT.enc)]),(24,.box [I 0,I 0,Nl,I 0,I 0,I 0,I 0,I 0,I 0,I 0,I 0,Nl,I 0,Nl,Nl,I 0,Nl,Nl,Nl,I 0,Nl,Nl,Nl,Nl,I 0,Nl])]⟩) (fun j=>o.order.length - j.1) ⟨0,by omega,by simpa using hK⟩ (wk [(8,8),(16,16),(24,24)] []) ?_
 rintro ⟨j,hj,he⟩ B hB
 simp only [go_sem]
 by_cases e1:j<o.order.length
 ·have e2:decide ((j:Int)<(o.order.length:Int))=true:=by simp;omega
  rw [eP 0 e1] at he
  simp only [jI,show o.order[j]?.getD 0=gI o.order j from rfl] at he
  have hx:=oU e1
  have hw:=cZ (show j≤100000 by omega)
  have htk:o.order.take j++[gI o.order j]=o.order.take (j+1):=by
   unfold gI
   rw [List.take_succ_eq_append_getElem e1,List.getElem?_eq_getElem e1];rfl
  simp only [e2,hx,aS,Int.toNat_natCast,go_sem]
  repeat (refine bn ?_)
  by_cases f1:gI o.order j<0
  ·have hKf:K=false:=by rw [←he];simp;omega
   rw [hKf,if_pos rfl] at hR
   simp only [f1,hx,aS,go_sem]
   repeat (refine bn ?_)
   exact Fin.mk0 _ rfl rfl (by rw [←hR];simp only [ay,rv,au,get,ax.enc,jq,List.map_nil,go_sem])
  by_cases f2:(s.lock.cells.length:Int)≤gI o.order j
  ·have hKf:K=false:=by rw [←he];simp;omega
   rw [hKf,if_pos rfl] at hR
   simp only [f1,f2,hx,aS,Int.toNat_natCast,go_sem]
   repeat (refine bn ?_)
   exact Fin.mk0 _ rfl rfl (by rw [←hR];simp only [ay,rv,au,get,ax.enc,jq,List.map_nil,go_sem])
  have he2:(!((o.order.take j).any fun x=>x==gI o.order j)&&jI s.lock.cells (o.order.drop (j+1)) (o.order.take (j+1)))=K:=by
   rw [←he,htk,show decide (0≤gI o.order j)=true by simp;omega,show decide (gI o.order j<(s.lock.cells.length:Int))=true by simp;omega];simp
  simp only [f1,f2,hx,aS,Int.toNat_natCast,go_sem]
  repeat (refine bn ?_)
  refine go_loop (fun m:{m:Nat // m≤j∧∀ i,i<m→¬ gI o.order i=gI o.order j}=>⟨4000,[(2,.ptr 8 0),(3,.ptr 16 0),(4,.ptr 24 0),(6,I j),(7,I m.1)],[(8,.box [I s.phase,I s.at_,.sl 1 (encI s.lock.cells),I s.lock.phase,I s.lock.got,I s.lock.tries,I s.lock.wait,I s.aG.phase,I s.aG.epoch,I s.aG.clock,I s.aG.stamp,.sl 8 (s.shards.map aj.enc),I s.dead.cap,.sl 7 (s.dead.l.map ai.enc),.sl 4 (s.cu.map aH.enc),I s.dir.version,.sl 3 (s.dir.l.map Span.enc),.sl 1 (encI s.dir.aJ),.sl 8 (s.out.shards.map aj.enc),I s.out.dead.cap,.sl 7 (s.out.dead.l.map ai.enc),.sl 1 (encI s.out.order),.sl 7 (s.out.carry.map ai.enc),.sl 4 (s.out.dS.map bT.enc),I s.limit,.sl 7 (s.carry.map ai.enc)]),(16,.box [.sl 8 (o.shards.map aj.enc),I o.dead.cap,.sl 7 (o.dead.l.map ai.enc),.sl 1 (encI o.order),.sl 7 (o.carry.map ai.enc),.sl 4 (o.dS.map bT.enc)]),(24,.box [I 0,I 0,Nl,I 0,I 0,I 0,I 0,I 0,I 0,I 0,I 0,Nl,I 0,Nl,Nl,I 0,Nl,Nl,Nl,I 0,Nl,Nl,Nl,Nl,I 0,Nl])]⟩) (fun m=>j - m.1) ⟨0,by omega,by intro i hi;omega⟩ (wk [(8,8),(16,16),(24,24)] []) ?_
  rintro ⟨m,hm,hq⟩ B2 hB2
  simp only [go_sem]
  by_cases g1:m<j
  ·have g2:decide ((m:Int)<(j:Int))=true:=by simp;omega
   have hy:=oU (show m<o.order.length by omega)
   have hw2:=cZ (show m≤100000 by omega)
   simp only [g2,hx,hy,aS,Int.toNat_natCast,go_sem]
   repeat (refine bn ?_)
   by_cases g3:gI o.order m=gI o.order j
   ·have hKf:K=false:=by
     have:¬ ((o.order.take j).any fun x=>x==gI o.order j)=false:=fun h=>(adf _ _ j hj).1 h m g1 g3
     rw [←he2,show ((o.order.take j).any fun x=>x==gI o.order j)=true by simpa using this];rfl
    rw [hKf,if_pos rfl] at hR
    simp only [g3,go_sem]
    exact Fin.mk0 _ rfl rfl (by rw [←hR];simp only [ay,rv,au,get,ax.enc,jq,List.map_nil,go_sem])
   ·have g3':(gI o.order m==gI o.order j)=false:=beq_eq_false_iff_ne.2 g3
    simp only [g3',hw2,go_sem]
    refine hB2 _ ⟨m+1,by omega,fun i hi=> ?_⟩ (by simp only;omega) (wk [(8,8),(16,16),(24,24)] [])
    rcases Nat.lt_succ_iff_lt_or_eq.1 hi with h|h
    ·exact hq i h
    ·subst h;exact g3
  ·have g2:decide ((m:Int)<(j:Int))=false:=by simp;omega
   have hmj:m=j:=by omega
   subst hmj
   have he3:jI s.lock.cells (o.order.drop (m+1)) (o.order.take (m+1))=K:=by
    rw [←he2,(adf _ _ m hj).2 hq];rfl
   simp only [g2,hw,go_sem]
   exact hB _ ⟨m+1,by omega,he3⟩ (by simp only;omega) (wk [(8,8),(16,16),(24,24)] [])
 ·have e2:decide ((j:Int)<(o.order.length:Int))=false:=by simp;omega
  rw [fF (by omega)] at he
  simp only [jI] at he
  rw [←he] at hR
  simp only [Bool.true_eq_false,if_false] at hR
  simp only [e2,aS,List.length_map,go_sem]
  have aI:=mP {s with out:=o} 5
  try dsimp only at aI
  have aU:=mP {s with out:=o} 6
  try dsimp only at aU
  have bK:=OZ ak.z {s with out:=o}
  try dsimp only at bK
  have hJ:=ah ak.z.eq_1 (ah tq.z.eq_1 (ah Dead.z.eq_1 Dir.z.eq_1))
  exact aZ
end Go.Eng
