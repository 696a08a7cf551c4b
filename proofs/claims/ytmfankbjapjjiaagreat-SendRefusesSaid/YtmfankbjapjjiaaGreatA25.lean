/-
  Part of a proof: lemmas and definitions of this work.
  No condition.
-/
import Derived.Test.YtmfankbjapjjiaaGreatA08
import Derived.Test.YtmfankbjapjjiaaGreatA24
set_option linter.all false
set_option maxRecDepth 100000
set_option maxHeartbeats 8000000
namespace Go.Eng
open Go Go.Proofs
attribute [local go_sem] List.length_map
theorem anJ (c:List Int) (l:Int) (hc:c.length<=1000):Fn Tryz.prog 330 [.sl 1 (encI c),I l] [] (.aG [.agg (av.new c l).1.enc,I (av.new c l).2]) [] []:=by
 generalize hR:av.new c l=R
 unfold av.new at hR
 refine Fn.aO R7 (by simp) ?_
 unfold R6 SC.mk'
 simp only [go_sem]
 have aK:=amW c hc
 have hJ:=aW.enc.eq_1
 exact aZ
theorem lN (s:av) (ph:Int):Fn Tryz.prog 397 [.agg s.enc,I ph] [] (.agg (s.enter ph).enc) [] []:=by
 refine Fn.aO TH (by simp) ?_
 unfold TG SC.mk' av.enc
 simp only [go_sem]
 exact aX
theorem Xk (s:av):Fn Tryz.prog 435 [.agg s.enc] [] (.aG [.agg s.jq.1.enc,I s.jq.2]) [] []:=by
 generalize hR:s.jq=R
 unfold av.jq at hR
 refine Fn.aO UG (by simp) ?_
 unfold UF SC.mk' av.enc
 simp only [go_sem]
 have aK:=amU s.lock
 have aV:=lN {s with lock:=s.lock.free.1} 8
 try dsimp only at aV
 have hJ:=ah aW.enc.eq_1 av.enc.eq_1
 exact aZ
theorem NQ (a:aj) (s:av):Fn Tryz.prog 398 [.agg a.enc,.agg s.enc] [] (.aG [.agg a.enc,.agg s.je.1.enc,I s.je.2]) [] []:=by
 generalize hR:s.je=R
 unfold av.je at hR
 refine Fn.aO TJ (by simp) ?_
 unfold TI SC.mk' aj.enc av.enc
 simp only [go_sem]
 have aK:=lN s 7
 have aV:=Xk s
 have hJ:=av.enc.eq_1
 exact aZ
theorem fF (s:av):Fn Tryz.prog 319 [.agg s.enc] [] (.agg s.bg.enc) [] []:=by
 refine Fn.aO MK (by simp) ?_
 unfold MJ SC.mk' av.enc
 simp only [go_sem]
 have hJ:=Dead.enc.eq_1
 exact aZ
theorem adQ (a:aj) (s:av) (hl:s.lock.cells.length<=1000):Fn Tryz.prog 415 [.agg a.enc,.agg s.enc] [] (I (av.slots a s)) [] []:=by
 generalize hR:av.slots a s=R
 unfold av.slots at hR
 refine Fn.aO Ua (by simp) ?_
 unfold T9 SC.mk' aj.enc av.enc
 simp only [go_sem]
 refine go_loop (fun x:{x:Nat×Int // x.1<=s.lock.cells.length/\(0<=x.2/\x.2<=x.1)/\x.2+ng (fun c:Int=>decide (c<(a.slots.length:Int))) (s.lock.cells.drop x.1)=R}=>⟨2000,[(2,.ptr 8 0),(3,.ptr 16 0),(5,I x.1.2),(6,I x.1.1)],[(8,.box [.sl 9 (a.slots.map Slot.enc),.sl 4 (a.bU.map aI.enc),I a.dead.owner,I a.dead.dead.cap,.sl 7 (a.dead.dead.l.map ai.enc),I a.dir.version,.sl 3 (a.dir.l.map Span.enc),.sl 1 (encI a.dir.aL),I a.epoch,I a.clock,I a.fA]),(16,.box [I s.phase,I s.at_,.sl 1 (encI s.lock.cells),I s.lock.phase,I s.lock.got,I s.lock.tries,I s.lock.wait,I s.aJ.phase,I s.aJ.epoch,I s.aJ.clock,I s.aJ.stamp,.sl 8 (s.aN.map ak.enc),I s.dead.cap,.sl 7 (s.dead.l.map ai.enc),.sl 4 (s.bU.map aI.enc),I s.dir.version,.sl 3 (s.dir.l.map Span.enc),.sl 1 (encI s.dir.aL),.sl 8 (s.out.aN.map ak.enc),I s.out.dead.cap,.sl 7 (s.out.dead.l.map ai.enc),.sl 1 (encI s.out.order),.sl 7 (s.out.carry.map ai.enc),.sl 4 (s.out.dP.map bN.enc),I s.limit,.sl 7 (s.carry.map ai.enc)])]⟩) (fun x=>s.lock.cells.length - x.1.1) ⟨(0,0),by omega,by simp,by rw [<-hR];simp⟩ (wk [(8,8),(16,16)] []) ?_
 rintro ⟨⟨j,c⟩,hj,hc,he⟩ B hB
 simp only at hj hc he
 simp only [go_sem]
 by_cases e1:j<s.lock.cells.length
 ·have e2:decide ((j:Int)<(s.lock.cells.length:Int))=true:=by simp;omega
  rw [eD 0 e1,WB] at he
  simp only [show s.lock.cells[j]?.getD 0=gI s.lock.cells j from rfl] at he
  have hx:=nC e1
  have hw:=bQ (show j<=100000 by omega)
  have hw2:IntKind.i64.wrap (c+1)=c+1:=bF (by omega)
  simp only [e2,hx,aS,List.length_map,Int.toNat_natCast,go_sem]
  repeat (refine bn ?_)
  by_cases e3:gI s.lock.cells j<(a.slots.length:Int)
  ·simp only [e3,decide_true,if_true] at he
   simp only [e3,hw,hw2,go_sem]
   exact hB _ ⟨(j+1,c+1),by simp only;omega,by simp only;omega,by simp only;omega⟩ (by simp only;omega) (wk [(8,8),(16,16)] [])
  ·simp only [e3,decide_false,Bool.false_eq_true,if_false] at he
   simp only [e3,hw,go_sem]
   exact hB _ ⟨(j+1,c),by simp only;omega,by simp only;omega,by simp only;simpa using he⟩ (by simp only;omega) (wk [(8,8),(16,16)] [])
 ·have e2:decide ((j:Int)<(s.lock.cells.length:Int))=false:=by simp;omega
  rw [eO (by omega)] at he
  simp only [ng,List.filter_nil,List.length_nil,Int.natCast_zero,Int.add_zero] at he
  simp only [e2,aS,go_sem]
  exact Fin.aD _ rfl rfl (by rw [<-he];rfl)
theorem anK (s:av) (k:Int) (hl:s.out.order.length<=1000):Fn Tryz.prog 462 [.agg s.enc,I k] [] (Bo (s.yT k)) [] []:=by
 generalize hR:s.yT k=R
 unfold av.yT at hR
 refine Fn.aO Va (by simp) ?_
 unfold U9 SC.mk' av.enc
 simp only [go_sem]
 refine go_loop (fun j:{j:Nat // j<=s.out.order.length/\((s.out.order.drop j).any fun x=>x==k)=R}=>⟨2000,[(1,I k),(2,.ptr 8 0),(5,I j.1)],[(8,.box [I s.phase,I s.at_,.sl 1 (encI s.lock.cells),I s.lock.phase,I s.lock.got,I s.lock.tries,I s.lock.wait,I s.aJ.phase,I s.aJ.epoch,I s.aJ.clock,I s.aJ.stamp,.sl 8 (s.aN.map ak.enc),I s.dead.cap,.sl 7 (s.dead.l.map ai.enc),.sl 4 (s.bU.map aI.enc),I s.dir.version,.sl 3 (s.dir.l.map Span.enc),.sl 1 (encI s.dir.aL),.sl 8 (s.out.aN.map ak.enc),I s.out.dead.cap,.sl 7 (s.out.dead.l.map ai.enc),.sl 1 (encI s.out.order),.sl 7 (s.out.carry.map ai.enc),.sl 4 (s.out.dP.map bN.enc),I s.limit,.sl 7 (s.carry.map ai.enc)])]⟩) (fun j=>s.out.order.length - j.1) ⟨0,by omega,hR⟩ (wk [(8,8)] []) ?_
 rintro ⟨j,hj,he⟩ B hB
 simp only [go_sem]
 by_cases e1:j<s.out.order.length
 ·have e2:decide ((j:Int)<(s.out.order.length:Int))=true:=by simp;omega
  rw [eD 0 e1] at he
  simp only [List.any_cons,show s.out.order[j]?.getD 0=gI s.out.order j from rfl] at he
  have hx:=nC e1
  have hw:=bQ (show j<=100000 by omega)
  simp only [e2,hx,aS,Int.toNat_natCast,go_sem]
  repeat (refine bn ?_)
  by_cases e3:(gI s.out.order j==k)=true
  ·simp only [e3,Bool.true_or] at he
   simp only [e3,go_sem]
   exact Fin.aD _ rfl rfl (by rw [<-he];rfl)
  ·simp only [Bool.not_eq_true] at e3
   simp only [e3,Bool.false_or] at he
   simp only [e3,hw,go_sem]
   exact hB _ ⟨j+1,by omega,he⟩ (by simp only;omega) (wk [(8,8)] [])
 ·have e2:decide ((j:Int)<(s.out.order.length:Int))=false:=by simp;omega
  rw [eO (by omega)] at he
  simp only [e2,aS,go_sem]
  exact Fin.aD _ rfl rfl (by rw [<-he];rfl)
end Go.Eng
namespace Go.Eng
open Go Go.Proofs
attribute [local go_sem] aj.enc av.enc Task.enc Ev.enc bE.enc aW.enc cB.enc Dead.enc Dir.enc ak.enc Walk.enc aU.enc aI.enc bN.enc Setup.enc aS dX dY List.length_map
@[go_sem,simp] theorem ar0 {α β:Type} (f:α->β) (l:List α) (x:β):List.take (l.length+1) (List.map f l++[x])=List.map f l++[x]:=bB (by simp)
@[go_sem,simp] theorem ar1 {α β:Type} (f:α->β) (l:List α):List.take l.length (List.map f l)=List.map f l:=bB (by simp)
theorem NR {n:Nat} {a:aj} (ha:a.wf n):a.slots.length<=1000:=by have:=ha.sl;have:=ha.n6;omega
theorem Km {n:Nat} {a:aj} (ha:a.wf n):a.bU.length=a.slots.length:=by rw [ha.st,ha.sl]
theorem anL (a:aj) (s:av):0<=av.slots a s/\av.slots a s<=s.lock.cells.length:=by
 have:=List.length_filter_le (fun c:Int=>decide (c<(a.slots.length:Int))) s.lock.cells
 unfold av.slots ng;omega
theorem anM (a:aj) (s:av) (task:Int) {n:Nat} (ha:a.wf n) (hs:s.wf n) (hp:s.phase=1):Fn Tryz.prog 416 [.agg a.enc,.agg s.enc,I task] [] (.aG [.agg (s.mark a task).1.enc,.agg (s.mark a task).2.1.enc,I (s.mark a task).2.2]) [] []:=by
 generalize hR:s.mark a task=R
 unfold av.mark at hR
 simp only at hR
 obtain ⟨_,_,h3,h4,h5⟩:=hs.p1 hp
 have hK:=xg n s.lock.cells
 have hl3:=hs.lk.l3
 have hq:s.at_.tdiv 2=s.at_ / 2:=Int.tdiv_eq_ediv_of_nonneg h3
 have hr:s.at_.tmod 2=s.at_ % 2:=Int.tmod_eq_emod_of_nonneg h3
 obtain ⟨i,hi⟩:∃ i:Nat,s.at_ / 2=(i:Int):=⟨(s.at_ / 2).toNat,by omega⟩
 have w1:IntKind.i64.wrap (s.at_.tdiv 2)=(i:Int):=by rw [hq,hi];exact bF (by omega)
 have w2:IntKind.i64.wrap (s.at_.tmod 2)=s.at_.tmod 2:=bF (by omega)
 have w3:IntKind.i64.wrap (s.at_+1)=s.at_+1:=bF (by omega)
 have hx:=nC (show i<s.lock.cells.length by omega)
 rw [hq,hi,Int.toNat_natCast] at hR
 have hm:s.bU.length<=maxLen:=Nat.le_trans (show _<=10000 by omega) (by decide)
 have hm1:s.bU.length+1<=maxLen:=Nat.le_trans (show _<=10000 by omega) (by decide)
 refine Fn.aT bS Ud (by simp) ?_
 unfold Ub SC.mk' aj.enc av.enc
 simp only [w1,w2,hx,aS,uX,go_sem]
 repeat (refine bn ?_)
 by_cases c1:(s.at_.tmod 2==0)=true
 ·rw [if_pos c1] at hR
  simp only [c1,go_sem]
  have aK:=WM a (gI s.lock.cells i) (Km ha)
  have hJ:=ah w3 @mT
  exact aZ
 ·rw [if_neg c1] at hR
  simp only [Bool.not_eq_true] at c1
  have hc1:¬ s.at_ % 2=0:=by rw [<-hr];simpa using c1
  have hsl:i<s.bU.length:=by omega
  have hn:=NJ hsl
  have zf:min i s.bU.length=i:=Nat.min_eq_left (by omega)
  have m1:i<=maxLen:=Nat.le_trans (show _<=10000 by omega) (by decide)
  have m2:i+1<=maxLen:=Nat.le_trans (show _<=10000 by omega) (by decide)
  have hl:(s.bU.take i).length=i:=by simp;omega
  have ht:List.take i (List.map aI.enc s.bU)=List.map aI.enc (s.bU.take i):=iB ..
  have ht2:List.take (i+1) (List.map aI.enc (List.take i s.bU)++[aI.enc (jd s.bU i).begin.1])=List.map aI.enc (List.take i s.bU++[(jd s.bU i).begin.1]):=by rw [bB (by simp;omega)];simp
  have ht3:List.take i (List.map aI.enc (List.take i s.bU))=List.map aI.enc (List.take i s.bU):=bB (by simp;omega)
  generalize hT:List.take i s.bU=T at*
  simp only [c1,hn,mT,go_sem]
  repeat (refine bn ?_)
  (refine Db (by simp only [go_sem];rfl) (by rfl) (by simp only [go_sem]<;>first|trivial|omega|(simp<;>omega)) ?_;simp only [go_sem])
  simp only [hn,mT,go_sem]
  repeat (refine bn ?_)
  refine aQ (amI (jd s.bU i)) rfl rfl ?_
  generalize (jd s.bU i).begin=x at hR ht2 ⊢
  simp only [mT,go_sem]
  by_cases b1:x.2≠0
  ·rw [if_pos b1] at hR
   have b1':(x.2 !=0)=true:=by simpa using b1
   simp only [b1',go_sem]
   exact aX
  rw [if_neg b1] at hR
  have b1':(x.2 !=0)=false:=by simpa using b1
  have hS:=adQ (a.jE (gI s.lock.cells i) task x.1).1 {s with bU:=T++[x.1],at_:=s.at_+1} (show s.lock.cells.length<=1000 by omega)
  have hq1:=anL (a.jE (gI s.lock.cells i) task x.1).1 {s with bU:=T++[x.1],at_:=s.at_+1}
  simp only at hq1
  generalize av.slots (a.jE (gI s.lock.cells i) task x.1).1 {s with bU:=T++[x.1],at_:=s.at_+1}=q at hR hS hq1
  have hws:IntKind.i64.wrap (2*q)=2*q:=bF (by omega)
  simp only [mT] at ht2
  have hmT:T.length<=maxLen:=by omega
  simp only [b1',ht,ht3,hl,mT,List.length_map,go_sem]
  repeat (refine bn ?_)
  have aK:=WN a (gI s.lock.cells i) task x.1 (Km ha) (NR ha)
  have hJ:=ah w3 (ah hws (ah ht (ah ht2 (ah ht3 hl))))
  repeat' first
   |(first|refine aQ (lN {s with bU:=T++[x.1],at_:=s.at_+1} 2) rfl rfl ?_|refine bX (lN {s with bU:=T++[x.1],at_:=s.at_+1} 2) rfl rfl ?_|refine sZ ?_ (lN {s with bU:=T++[x.1],at_:=s.at_+1} 2)|refine sY ?_ (lN {s with bU:=T++[x.1],at_:=s.at_+1} 2));simp only [hJ,mT,aj.enc,av.enc,List.length_map,go_sem]
   |(first|refine sC ?_|refine sD ?_|refine sZ ?_|refine sY ?_|refine sF ?_);simp only [hJ,mT,aj.enc,av.enc,List.length_map,go_sem]
   |(first|refine bD (fun hq=> ?_) (fun hq=> ?_)|refine dS (fun hq=> ?_) (fun hq=> ?_)|refine dD (fun hq=> ?_) (fun hq=> ?_))<;>simp only [hq,hJ,mT,aj.enc,av.enc,List.length_map,go_sem]
   |refine sM ?_;simp only [ay,rv,au,get,hJ,mT,aj.enc,av.enc,List.length_map,go_sem]
   |refine bn ?_
   |fail
  all_goals clear aK hJ
  all_goals clear hS ht2 ht3 ht hn zf hmT hm hm1 m1 m2 hx hws hl hT hsl hc1 w1 w2 w3 hi h3 h4 h5 hK hl3 hr
  all_goals (subst hR;first|rfl|simp_all [rv,au,get,av.enter,av.enter,aj.enc,av.enc,Task.enc,Ev.enc,bE.enc,aW.enc,cB.enc,Dead.enc,Dir.enc,ak.enc,Walk.enc,aU.enc,aI.enc,-Int.not_lt,-Int.not_le]<;>try rfl)
theorem anO (a:aj) (s:av) {n:Nat} (ha:a.wf n) (hs:s.wf n) (hp:s.phase=2):Fn Tryz.prog 417 [.agg a.enc,.agg s.enc] [] (.aG [.agg (s.load a).1.enc,.agg (s.load a).2.1.enc,I (s.load a).2.2]) [] []:=by
 generalize hR:s.load a=R
 unfold av.load at hR
 simp only at hR
 obtain ⟨_,_,h3,h4,h5⟩:=hs.p2 hp
 have hl3:=hs.lk.l3
 have hx:=nC (show s.at_.toNat<s.lock.cells.length by omega)
 have w3:IntKind.i64.wrap (s.at_+1)=s.at_+1:=bF (by omega)
 have hm:s.aN.length<=maxLen:=Nat.le_trans (show _<=10000 by omega) (by decide)
 have hm1:s.aN.length+1<=maxLen:=Nat.le_trans (show _<=10000 by omega) (by decide)
 generalize hc:gI s.lock.cells s.at_.toNat=c at hR hx
 refine Fn.aT bS Uf (by simp) ?_
 unfold Ue SC.mk' aj.enc av.enc
 simp only [hx,aS,go_sem]
 repeat (refine bn ?_)
 by_cases c1:(c==(a.slots.length:Int))=true
 ·simp only [if_pos c1] at hR
  simp only [c1,List.length_map,go_sem]
  have aK:=amO a
  have aV:=lN {s with dead:=a.dead.dead,at_:=s.at_+1} 3
  try dsimp only at aV
  have hJ:=w3
  exact aZ
 ·simp only [if_neg c1] at hR
  simp only [Bool.not_eq_true] at c1
  simp only [c1,List.length_map,go_sem]
  have aK:=amN a c
  have aV:=lN {s with aN:=s.aN++[(a.kF c).1],at_:=s.at_+1} 3
  try dsimp only at aV
  have hJ:=w3
  exact aZ
end Go.Eng
namespace Go.Eng
open Go Go.Proofs
attribute [local go_sem] aj.enc av.enc Task.enc Ev.enc bE.enc aW.enc cB.enc Dead.enc Dir.enc ak.enc Walk.enc aU.enc aI.enc bN.enc Setup.enc aS dX dY List.length_map
theorem Xl {l:List ak} {i:Nat} (h:i<l.length):nth (l.map ak.enc) i=ak.enc (dZ l i):=bT ak.enc ak.z h
theorem anP {l:List bN} {i:Nat} (h:i<l.length):nth (l.map bN.enc) i=bN.enc (gE l i):=bT bN.enc bN.z h
theorem anQ (a:aj) (s:av) (task:Int) {n:Nat} (ha:a.wf n) (hs:s.wf n) (hl:s.bf) (hp:s.phase=5):Fn Tryz.prog 419 [.agg a.enc,.agg s.enc,I task] [] (.aG [.agg (s.store a task).1.enc,.agg (s.store a task).2.1.enc,I (s.store a task).2.2]) [] []:=by
 generalize hR:s.store a task=R
 unfold av.store at hR
 simp only at hR
 have h5:=hs.p5 (by omega)
 have hq5:=hs.q5 hp
 have hl3:=hs.lk.l3
 have hoo:=hl.o.oo
 have hod:=hl.o.od
 have hx:=nC (show s.at_.toNat<s.out.order.length by omega)
 have hk:=Kb h5.2 (i:=s.at_.toNat) (by omega)
 have w3:IntKind.i64.wrap (s.at_+1)=s.at_+1:=bF (by omega)
 generalize hK:gI s.out.order s.at_.toNat=k at hR hx hk
 have hy:=nC (show k.toNat<s.lock.cells.length by omega)
 have hcn:=Kb hs.lk.uW (i:=k.toNat) (by omega)
 have hlt:=V4 (n:=n) s.lock.cells k.toNat hs.lk.tq (by omega)
 generalize hC:gI s.lock.cells k.toNat=c at hR hy hcn hlt
 refine Fn.aT bS Uj (by simp) ?_
 unfold Ui SC.mk' aj.enc av.enc
 simp only [hx,hy,aS,go_sem]
 repeat (refine bn ?_)
 by_cases c1:(c==(a.slots.length:Int))=true
 ·simp only [if_pos c1] at hR
  simp only [c1,List.length_map,go_sem]
  have aK:=amS a task s.out.dead (by omega)
  have aV:=lN {s with at_:=s.at_+1,carry:=[]} 6
  try dsimp only at aV
  have bL:=NQ (a.l7 task s.out.dead).1 {s with at_:=s.at_+1,carry:=[]}
  try dsimp only at bL
  have hJ:=w3
  exact aZ
 ·simp only [if_neg c1] at hR
  have hcl:c<n:=by
   have:c≠(a.slots.length:Int):=by simpa using c1
   have:=ha.sl
   omega
  have hlt:=hlt hcl
  have hz:=Xl (show k.toNat<s.out.aN.length by omega)
  have hsm:=adL hl.o k.toNat
  simp only [Bool.not_eq_true] at c1
  generalize dZ s.out.aN k.toNat=sh at hR hz hsm
  simp only [c1,List.length_map,go_sem]
  repeat (refine bn ?_)
  have aK:=amQ a c task sh hsm (NR ha)
  have aV:=lN {s with at_:=s.at_+1,carry:=[]} 6
  try dsimp only at aV
  have bL:=NQ (a.l6 c task sh).1 {s with at_:=s.at_+1,carry:=[]}
  try dsimp only at bL
  have hJ:=ah w3 hz
  exact aZ
theorem anS (a:aj) (s:av) {n:Nat} (ha:a.wf n) (hs:s.wf n) (hl:s.bf) (hp:s.phase=6):Fn Tryz.prog 420 [.agg a.enc,.agg s.enc] [] (.aG [.agg (s.mg a).1.enc,.agg (s.mg a).2.1.enc,I (s.mg a).2.2]) [] []:=by
 generalize hR:s.mg a=R
 unfold av.mg at hR
 simp only at hR
 have h6:=hs.p6 hp
 have hdi:=hl.di
 have hx:=anP h6
 have hal:=am9 s.dir (gE s.out.dP 0)
 generalize gE s.out.dP 0=e at hR hx hal
 refine Fn.aT bS ajQ (by simp) ?_
 unfold Uk SC.mk' aj.enc av.enc
 simp only [go_sem]
 by_cases c1:(s.at_==0)=true
 ·simp only [if_pos c1] at hR
  simp only [c1,go_sem]
  have aK:=NM a
  have hJ:=trivial
  exact aZ
 simp only [if_neg c1] at hR
 simp only [Bool.not_eq_true] at c1
 simp only [c1,go_sem]
 (refine Db (by simp only [go_sem];rfl) (by rfl) (by simp only [go_sem]<;>first|trivial|omega|(simp<;>omega)) ?_;simp only [go_sem])
 simp only [hx,bN.enc,List.length_map,go_sem]
 repeat (refine bn ?_)
 refine bX (amG s.dir e (by omega)) rfl rfl ?_
 generalize s.dir.apply e=d at hR hal ⊢
 simp only [Dir.enc,go_sem]
 by_cases b1:d.2≠0
 ·rw [if_pos b1] at hR
  have b1':(d.2 !=0)=true:=by simpa using b1
  simp only [b1',go_sem]
  exact aX
 rw [if_neg b1] at hR
 have b1':(d.2 !=0)=false:=by simpa using b1
 simp only [b1',go_sem]
 have aK:=amT a s.dir.version d.1 (by omega)
 have aV:=NQ (a.oG s.dir.version d.1).1 {s with dir:=d.1}
 try dsimp only at aV
 have hJ:=trivial
 exact aZ
theorem anT (a:aj) (s:av) (task:Int) {n:Nat} (ha:a.wf n) (hs:s.wf n) (hl:s.bf) (hp:s.phase=7):Fn Tryz.prog 421 [.agg a.enc,.agg s.enc,I task] [] (.aG [.agg (s.mh a task).1.enc,.agg (s.mh a task).2.1.enc,I (s.mh a task).2.2]) [] []:=by
 generalize hR:s.mh a task=R
 unfold av.mh at hR
 simp only at hR
 have h5:=hs.p5 (by omega)
 have h7:=hs.p7 hp
 have hq3:=hs.q3 (by omega)
 have hK:=xg n s.lock.cells
 have hl3:=hs.lk.l3
 have hoo:=hl.o.oo
 have hx:=Xl (show s.at_.toNat<s.aN.length by omega)
 have hy:=Xl (show s.at_.toNat<s.out.aN.length by omega)
 have hz:=NJ (show s.at_.toNat<s.bU.length by omega)
 have hc:=nC (show s.at_.toNat<s.lock.cells.length by omega)
 have w3:IntKind.i64.wrap (s.at_+1)=s.at_+1:=bF (by omega)
 have sm1:=nD hl s.at_.toNat
 have sm2:=adL hl.o s.at_.toNat
 generalize dZ s.aN s.at_.toNat=sh at hR hx sm1
 generalize dZ s.out.aN s.at_.toNat=so at hR hy sm2
 generalize jd s.bU s.at_.toNat=st at hR hz
 generalize gI s.lock.cells s.at_.toNat=c at hR hc
 refine Fn.aT bS Um (by simp) ?_
 unfold Ul SC.mk' aj.enc av.enc
 simp only [hx,ak.enc,List.length_map,go_sem]
 repeat (refine bn ?_)
 (refine Db (by simp only [go_sem];rfl) (by rfl) (by simp only [go_sem]<;>first|trivial|omega|(simp<;>omega)) ?_;simp only [go_sem])
 refine aQ (anK s s.at_ (by omega)) rfl rfl ?_
 simp only [go_sem]
 have key:∀ now:ak,now.sm->(if (st.done now s.aJ.epoch s.limit).2≠0 then (a,s,(st.done now s.aJ.epoch s.limit).2) else if (a.jE c task (st.done now s.aJ.epoch s.limit).1).2≠0 then ((a.jE c task (st.done now s.aJ.epoch s.limit).1).1,s,(a.jE c task (st.done now s.aJ.epoch s.limit).1).2) else if (s.at_+1==(s.bU.length:Int))=true then ((a.jE c task (st.done now s.aJ.epoch s.limit).1).1,(av.jq {s with at_:=s.at_+1}).1,(av.jq {s with at_:=s.at_+1}).2) else ((a.jE c task (st.done now s.aJ.epoch s.limit).1).1,{s with at_:=s.at_+1},(0:Int)))=R->True:=fun _ _ _=>trivial
 by_cases c1:s.yT s.at_=true
 ·simp only [if_pos c1] at hR
  simp only [c1,hy,hz,hc,mT,ak.enc,aS,List.length_map,go_sem]
  repeat (refine bn ?_)
  have aK:=adr st so s.aJ.epoch s.limit sm2
  have aV:=WN a c task (st.done so s.aJ.epoch s.limit).1 (Km ha) (NR ha)
  have bL:=Xk {s with at_:=s.at_+1}
  try dsimp only at bL
  have hJ:=ah w3 (ah hz (ah hc @mT))
  exact aZ
 ·simp only [if_neg c1] at hR
  simp only [Bool.not_eq_true] at c1
  simp only [c1,hz,hc,mT,ak.enc,aS,List.length_map,go_sem]
  repeat (refine bn ?_)
  have aK:=adr st sh s.aJ.epoch s.limit sm1
  have aV:=WN a c task (st.done sh s.aJ.epoch s.limit).1 (Km ha) (NR ha)
  have bL:=Xk {s with at_:=s.at_+1}
  try dsimp only at bL
  have hJ:=ah w3 (ah hz (ah hc @mT))
  exact aZ
end Go.Eng
