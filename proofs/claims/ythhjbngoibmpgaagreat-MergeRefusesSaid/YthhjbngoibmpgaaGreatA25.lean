/-
  Part of a proof: lemmas and definitions of this work.
  No condition.
-/
import Derived.Test.YthhjbngoibmpgaaGreatA08
import Derived.Test.YthhjbngoibmpgaaGreatA24
set_option linter.all false
set_option maxRecDepth 100000
set_option maxHeartbeats 8000000
namespace Go.Eng
open Go Go.Proofs
attribute [local go_sem] List.length_map
theorem ank (c:List Int) (l:Int) (hc:c.length<=1000):Fn Tryz.prog 18 [.sl 1 (encI c),I l] [] (.aF [.agg (av.new c l).1.enc,I (av.new c l).2]) [] []:=by
 generalize hR:av.new c l=R
 unfold av.new at hR
 refine Fn.aO Qc (by simp) ?_
 unfold Qb SC.mk'
 simp only [go_sem]
 have aK:=amz c hc
 have hJ:=bf.enc.eq_1
 exact aZ
theorem lJ (s:av) (ph:Int):Fn Tryz.prog 120 [.agg s.enc,I ph] [] (.agg (s.enter ph).enc) [] []:=by
 refine Fn.aO Q9 (by simp) ?_
 unfold Q8 SC.mk' av.enc
 simp only [go_sem]
 exact aX
theorem Xg (s:av):Fn Tryz.prog 187 [.agg s.enc] [] (.aF [.agg s.jl.1.enc,I s.jl.2]) [] []:=by
 generalize hR:s.jl=R
 unfold av.jl at hR
 refine Fn.aO Sb (by simp) ?_
 unfold R9 SC.mk' av.enc
 simp only [go_sem]
 have aK:=amx s.lock
 have aU:=lJ {s with lock:=s.lock.free.1} 8
 try dsimp only at aU
 have hJ:=ah bf.enc.eq_1 av.enc.eq_1
 exact aZ
theorem NP (a:aj) (s:av):Fn Tryz.prog 121 [.agg a.enc,.agg s.enc] [] (.aF [.agg a.enc,.agg s.ja.1.enc,I s.ja.2]) [] []:=by
 generalize hR:s.ja=R
 unfold av.ja at hR
 refine Fn.aO Rb (by simp) ?_
 unfold Ra SC.mk' aj.enc av.enc
 simp only [go_sem]
 have aK:=lJ s 7
 have aU:=Xg s
 have hJ:=av.enc.eq_1
 exact aZ
theorem fF (s:av):Fn Tryz.prog 61 [.agg s.enc] [] (.agg s.bg.enc) [] []:=by
 refine Fn.aO Ma (by simp) ?_
 unfold L9 SC.mk' av.enc
 simp only [go_sem]
 have hJ:=Dead.enc.eq_1
 exact aZ
theorem adg (a:aj) (s:av) (hl:s.lock.cells.length<=1000):Fn Tryz.prog 189 [.agg a.enc,.agg s.enc] [] (I (av.slots a s)) [] []:=by
 generalize hR:av.slots a s=R
 unfold av.slots at hR
 refine Fn.aO Si (by simp) ?_
 unfold Sg SC.mk' aj.enc av.enc
 simp only [go_sem]
 refine go_loop (fun x:{x:Nat×Int // x.1<=s.lock.cells.length/\(0<=x.2/\x.2<=x.1)/\x.2+mY (fun c:Int=>decide (c<(a.slots.length:Int))) (s.lock.cells.drop x.1)=R}=>⟨2000,[(2,.ptr 8 0),(3,.ptr 16 0),(5,I x.1.2),(6,I x.1.1)],[(8,.box [.sl 9 (a.slots.map Slot.enc),.sl 4 (a.bU.map aJ.enc),I a.dead.owner,I a.dead.dead.cap,.sl 7 (a.dead.dead.l.map ai.enc),I a.dir.version,.sl 3 (a.dir.l.map Span.enc),.sl 1 (encI a.dir.aM),I a.epoch,I a.clock,I a.fB]),(16,.box [I s.phase,I s.at_,.sl 1 (encI s.lock.cells),I s.lock.phase,I s.lock.got,I s.lock.tries,I s.lock.wait,I s.aI.phase,I s.aI.epoch,I s.aI.clock,I s.aI.stamp,.sl 8 (s.aN.map ak.enc),I s.dead.cap,.sl 7 (s.dead.l.map ai.enc),.sl 4 (s.bU.map aJ.enc),I s.dir.version,.sl 3 (s.dir.l.map Span.enc),.sl 1 (encI s.dir.aM),.sl 8 (s.out.aN.map ak.enc),I s.out.dead.cap,.sl 7 (s.out.dead.l.map ai.enc),.sl 1 (encI s.out.order),.sl 7 (s.out.carry.map ai.enc),.sl 4 (s.out.dO.map bL.enc),I s.limit,.sl 7 (s.carry.map ai.enc)])]⟩) (fun x=>s.lock.cells.length - x.1.1) ⟨(0,0),by omega,by simp,by rw [<-hR];simp⟩ (wk [(8,8),(16,16)] []) ?_
 rintro ⟨⟨j,c⟩,hj,hc,he⟩ B hB
 simp only at hj hc he
 simp only [go_sem]
 by_cases e1:j<s.lock.cells.length
 ·have e2:decide ((j:Int)<(s.lock.cells.length:Int))=true:=by simp;omega
  rw [eB 0 e1,Wx] at he
  simp only [show s.lock.cells[j]?.getD 0=gI s.lock.cells j from rfl] at he
  have hx:=ny e1
  have hw:=bT (show j<=100000 by omega)
  have hw2:IntKind.i64.wrap (c+1)=c+1:=bE (by omega)
  simp only [e2,hx,aS,List.length_map,Int.toNat_natCast,go_sem]
  repeat (refine bn ?_)
  by_cases e3:gI s.lock.cells j<(a.slots.length:Int)
  ·simp only [e3,decide_true,if_true] at he
   simp only [e3,hw,hw2,go_sem]
   exact hB _ ⟨(j+1,c+1),by simp only;omega,by simp only;omega,by simp only;omega⟩ (by simp only;omega) (wk [(8,8),(16,16)] [])
  ·simp only [e3,decide_false,Bool.false_eq_true,if_false] at he
   simp only [e3,hw,go_sem]
   exact hB _ ⟨(j+1,c),by simp only;omega,by simp only;omega,by simp only;simpa using he⟩ (by simp only;omega) (wk [(8,8),(16,16)] [])
 ·have e2:decide ((j:Int)<(s.lock.cells.length:Int))=false:=by simp;omega
  rw [eH (by omega)] at he
  simp only [mY,List.filter_nil,List.length_nil,Int.natCast_zero,Int.add_zero] at he
  simp only [e2,aS,go_sem]
  exact Fin.aD _ rfl rfl (by rw [<-he];rfl)
theorem anl (s:av) (k:Int) (hl:s.out.order.length<=1000):Fn Tryz.prog 282 [.agg s.enc,I k] [] (Bo (s.yY k)) [] []:=by
 generalize hR:s.yY k=R
 unfold av.yY at hR
 refine Fn.aO TT (by simp) ?_
 unfold TS SC.mk' av.enc
 simp only [go_sem]
 refine go_loop (fun j:{j:Nat // j<=s.out.order.length/\((s.out.order.drop j).any fun x=>x==k)=R}=>⟨2000,[(1,I k),(2,.ptr 8 0),(5,I j.1)],[(8,.box [I s.phase,I s.at_,.sl 1 (encI s.lock.cells),I s.lock.phase,I s.lock.got,I s.lock.tries,I s.lock.wait,I s.aI.phase,I s.aI.epoch,I s.aI.clock,I s.aI.stamp,.sl 8 (s.aN.map ak.enc),I s.dead.cap,.sl 7 (s.dead.l.map ai.enc),.sl 4 (s.bU.map aJ.enc),I s.dir.version,.sl 3 (s.dir.l.map Span.enc),.sl 1 (encI s.dir.aM),.sl 8 (s.out.aN.map ak.enc),I s.out.dead.cap,.sl 7 (s.out.dead.l.map ai.enc),.sl 1 (encI s.out.order),.sl 7 (s.out.carry.map ai.enc),.sl 4 (s.out.dO.map bL.enc),I s.limit,.sl 7 (s.carry.map ai.enc)])]⟩) (fun j=>s.out.order.length - j.1) ⟨0,by omega,hR⟩ (wk [(8,8)] []) ?_
 rintro ⟨j,hj,he⟩ B hB
 simp only [go_sem]
 by_cases e1:j<s.out.order.length
 ·have e2:decide ((j:Int)<(s.out.order.length:Int))=true:=by simp;omega
  rw [eB 0 e1] at he
  simp only [List.any_cons,show s.out.order[j]?.getD 0=gI s.out.order j from rfl] at he
  have hx:=ny e1
  have hw:=bT (show j<=100000 by omega)
  simp only [e2,hx,aS,Int.toNat_natCast,go_sem]
  repeat (refine bn ?_)
  by_cases e3:(gI s.out.order j==k)=true
  ·simp only [e3,Bool.true_or] at he
   simp only [e3,go_sem]
   exact Fin.aD _ rfl rfl (by rw [<-he];rfl)
  ·simp only [Bool.not_eq_true] at e3
   simp only [e3,Bool.false_or] at he
   simp only [e3,hw,go_sem]
   exact hB _ ⟨j+1,by omega,he⟩ (by simp only;omega) (wk [(8,8)] [])
 ·have e2:decide ((j:Int)<(s.out.order.length:Int))=false:=by simp;omega
  rw [eH (by omega)] at he
  simp only [e2,aS,go_sem]
  exact Fin.aD _ rfl rfl (by rw [<-he];rfl)
end Go.Eng
namespace Go.Eng
open Go Go.Proofs
attribute [local go_sem] aj.enc av.enc Task.enc Ev.enc bD.enc bf.enc cB.enc Dead.enc Dir.enc ak.enc Walk.enc aV.enc aJ.enc bL.enc Setup.enc aS dY dZ List.length_map
@[go_sem,simp] theorem aq0 {α β:Type} (f:α->β) (l:List α) (x:β):List.take (l.length+1) (List.map f l++[x])=List.map f l++[x]:=bA (by simp)
@[go_sem,simp] theorem aq1 {α β:Type} (f:α->β) (l:List α):List.take l.length (List.map f l)=List.map f l:=bA (by simp)
theorem NQ {n:Nat} {a:aj} (ha:a.wf n):a.slots.length<=1000:=by have:=ha.sl;have:=ha.n6;omega
theorem DR {n:Nat} {a:aj} (ha:a.wf n):a.bU.length=a.slots.length:=by rw [ha.st,ha.sl]
theorem anm (a:aj) (s:av):0<=av.slots a s/\av.slots a s<=s.lock.cells.length:=by
 have:=List.length_filter_le (fun c:Int=>decide (c<(a.slots.length:Int))) s.lock.cells
 unfold av.slots mY;omega
theorem ann (a:aj) (s:av) (task:Int) {n:Nat} (ha:a.wf n) (hs:s.wf n) (hp:s.phase=1):Fn Tryz.prog 190 [.agg a.enc,.agg s.enc,I task] [] (.aF [.agg (s.mark a task).1.enc,.agg (s.mark a task).2.1.enc,I (s.mark a task).2.2]) [] []:=by
 generalize hR:s.mark a task=R
 unfold av.mark at hR
 simp only at hR
 obtain ⟨_,_,h3,h4,h5⟩:=hs.p1 hp
 have hK:=wZ n s.lock.cells
 have hl3:=hs.lk.l3
 have hq:s.at_.tdiv 2=s.at_ / 2:=Int.tdiv_eq_ediv_of_nonneg h3
 have hr:s.at_.tmod 2=s.at_ % 2:=Int.tmod_eq_emod_of_nonneg h3
 obtain ⟨i,hi⟩:∃ i:Nat,s.at_ / 2=(i:Int):=⟨(s.at_ / 2).toNat,by omega⟩
 have w1:IntKind.i64.wrap (s.at_.tdiv 2)=(i:Int):=by rw [hq,hi];exact bE (by omega)
 have w2:IntKind.i64.wrap (s.at_.tmod 2)=s.at_.tmod 2:=bE (by omega)
 have w3:IntKind.i64.wrap (s.at_+1)=s.at_+1:=bE (by omega)
 have hx:=ny (show i<s.lock.cells.length by omega)
 rw [hq,hi,Int.toNat_natCast] at hR
 have hm:s.bU.length<=maxLen:=Nat.le_trans (show _<=10000 by omega) (by decide)
 have hm1:s.bU.length+1<=maxLen:=Nat.le_trans (show _<=10000 by omega) (by decide)
 refine Fn.aT bR Sk (by simp) ?_
 unfold Sj SC.mk' aj.enc av.enc
 simp only [w1,w2,hx,aS,u6,go_sem]
 repeat (refine bn ?_)
 by_cases c1:(s.at_.tmod 2==0)=true
 ·rw [if_pos c1] at hR
  simp only [c1,go_sem]
  have aK:=WI a (gI s.lock.cells i) (DR ha)
  have hJ:=ah w3 @mT
  exact aZ
 ·rw [if_neg c1] at hR
  simp only [Bool.not_eq_true] at c1
  have hc1:¬ s.at_ % 2=0:=by rw [<-hr];simpa using c1
  have hsl:i<s.bU.length:=by omega
  have hn:=NI hsl
  have zm:min i s.bU.length=i:=Nat.min_eq_left (by omega)
  have m1:i<=maxLen:=Nat.le_trans (show _<=10000 by omega) (by decide)
  have m2:i+1<=maxLen:=Nat.le_trans (show _<=10000 by omega) (by decide)
  have hl:(s.bU.take i).length=i:=by simp;omega
  have ht:List.take i (List.map aJ.enc s.bU)=List.map aJ.enc (s.bU.take i):=iB ..
  have ht2:List.take (i+1) (List.map aJ.enc (List.take i s.bU)++[aJ.enc (iZ s.bU i).begin.1])=List.map aJ.enc (List.take i s.bU++[(iZ s.bU i).begin.1]):=by rw [bA (by simp;omega)];simp
  have ht3:List.take i (List.map aJ.enc (List.take i s.bU))=List.map aJ.enc (List.take i s.bU):=bA (by simp;omega)
  generalize hT:List.take i s.bU=T at*
  simp only [c1,hn,mT,go_sem]
  repeat (refine bn ?_)
  (refine Ak (by simp only [go_sem];rfl) (by rfl) (by simp only [go_sem]<;>first|trivial|omega|(simp<;>omega)) ?_;simp only [go_sem])
  simp only [hn,mT,go_sem]
  repeat (refine bn ?_)
  refine aQ (amk (iZ s.bU i)) rfl rfl ?_
  generalize (iZ s.bU i).begin=x at hR ht2 ⊢
  simp only [mT,go_sem]
  by_cases b1:x.2≠0
  ·rw [if_pos b1] at hR
   have b1':(x.2 !=0)=true:=by simpa using b1
   simp only [b1',go_sem]
   exact aX
  rw [if_neg b1] at hR
  have b1':(x.2 !=0)=false:=by simpa using b1
  have hS:=adg (a.jA (gI s.lock.cells i) task x.1).1 {s with bU:=T++[x.1],at_:=s.at_+1} (show s.lock.cells.length<=1000 by omega)
  have hq1:=anm (a.jA (gI s.lock.cells i) task x.1).1 {s with bU:=T++[x.1],at_:=s.at_+1}
  simp only at hq1
  generalize av.slots (a.jA (gI s.lock.cells i) task x.1).1 {s with bU:=T++[x.1],at_:=s.at_+1}=q at hR hS hq1
  have hws:IntKind.i64.wrap (2*q)=2*q:=bE (by omega)
  simp only [mT] at ht2
  have hmT:T.length<=maxLen:=by omega
  simp only [b1',ht,ht3,hl,mT,List.length_map,go_sem]
  repeat (refine bn ?_)
  have aK:=WJ a (gI s.lock.cells i) task x.1 (DR ha) (NQ ha)
  have hJ:=ah w3 (ah hws (ah ht (ah ht2 (ah ht3 hl))))
  repeat' first
   |(first|refine aQ (lJ {s with bU:=T++[x.1],at_:=s.at_+1} 2) rfl rfl ?_|refine bX (lJ {s with bU:=T++[x.1],at_:=s.at_+1} 2) rfl rfl ?_|refine sZ ?_ (lJ {s with bU:=T++[x.1],at_:=s.at_+1} 2)|refine sY ?_ (lJ {s with bU:=T++[x.1],at_:=s.at_+1} 2));simp only [hJ,mT,aj.enc,av.enc,List.length_map,go_sem]
   |(first|refine sC ?_|refine sD ?_|refine sZ ?_|refine sY ?_|refine sF ?_);simp only [hJ,mT,aj.enc,av.enc,List.length_map,go_sem]
   |(first|refine bC (fun hq=> ?_) (fun hq=> ?_)|refine dR (fun hq=> ?_) (fun hq=> ?_)|refine dD (fun hq=> ?_) (fun hq=> ?_))<;>simp only [hq,hJ,mT,aj.enc,av.enc,List.length_map,go_sem]
   |refine sM ?_;simp only [ay,rv,au,get,hJ,mT,aj.enc,av.enc,List.length_map,go_sem]
   |refine bn ?_
   |fail
  all_goals clear aK hJ
  all_goals clear hS ht2 ht3 ht hn zm hmT hm hm1 m1 m2 hx hws hl hT hsl hc1 w1 w2 w3 hi h3 h4 h5 hK hl3 hr
  all_goals (subst hR;first|rfl|simp_all [rv,au,get,av.enter,av.enter,aj.enc,av.enc,Task.enc,Ev.enc,bD.enc,bf.enc,cB.enc,Dead.enc,Dir.enc,ak.enc,Walk.enc,aV.enc,aJ.enc,-Int.not_lt,-Int.not_le]<;>try rfl)
theorem anp (a:aj) (s:av) {n:Nat} (ha:a.wf n) (hs:s.wf n) (hp:s.phase=2):Fn Tryz.prog 191 [.agg a.enc,.agg s.enc] [] (.aF [.agg (s.load a).1.enc,.agg (s.load a).2.1.enc,I (s.load a).2.2]) [] []:=by
 generalize hR:s.load a=R
 unfold av.load at hR
 simp only at hR
 obtain ⟨_,_,h3,h4,h5⟩:=hs.p2 hp
 have hl3:=hs.lk.l3
 have hx:=ny (show s.at_.toNat<s.lock.cells.length by omega)
 have w3:IntKind.i64.wrap (s.at_+1)=s.at_+1:=bE (by omega)
 have hm:s.aN.length<=maxLen:=Nat.le_trans (show _<=10000 by omega) (by decide)
 have hm1:s.aN.length+1<=maxLen:=Nat.le_trans (show _<=10000 by omega) (by decide)
 generalize hc:gI s.lock.cells s.at_.toNat=c at hR hx
 refine Fn.aT bR Sm (by simp) ?_
 unfold Sl SC.mk' aj.enc av.enc
 simp only [hx,aS,go_sem]
 repeat (refine bn ?_)
 by_cases c1:(c==(a.slots.length:Int))=true
 ·simp only [if_pos c1] at hR
  simp only [c1,List.length_map,go_sem]
  have aK:=amr a
  have aU:=lJ {s with dead:=a.dead.dead,at_:=s.at_+1} 3
  try dsimp only at aU
  have hJ:=w3
  exact aZ
 ·simp only [if_neg c1] at hR
  simp only [Bool.not_eq_true] at c1
  simp only [c1,List.length_map,go_sem]
  have aK:=amq a c
  have aU:=lJ {s with aN:=s.aN++[(a.kE c).1],at_:=s.at_+1} 3
  try dsimp only at aU
  have hJ:=w3
  exact aZ
end Go.Eng
namespace Go.Eng
open Go Go.Proofs
attribute [local go_sem] aj.enc av.enc Task.enc Ev.enc bD.enc bf.enc cB.enc Dead.enc Dir.enc ak.enc Walk.enc aV.enc aJ.enc bL.enc Setup.enc aS dY dZ List.length_map
theorem Xh {l:List ak} {i:Nat} (h:i<l.length):nth (l.map ak.enc) i=ak.enc (dW l i):=bS ak.enc ak.z h
theorem anq {l:List bL} {i:Nat} (h:i<l.length):nth (l.map bL.enc) i=bL.enc (gE l i):=bS bL.enc bL.z h
theorem anr (a:aj) (s:av) (task:Int) {n:Nat} (ha:a.wf n) (hs:s.wf n) (hl:s.aW) (hp:s.phase=5):Fn Tryz.prog 193 [.agg a.enc,.agg s.enc,I task] [] (.aF [.agg (s.store a task).1.enc,.agg (s.store a task).2.1.enc,I (s.store a task).2.2]) [] []:=by
 generalize hR:s.store a task=R
 unfold av.store at hR
 simp only at hR
 have h5:=hs.p5 (by omega)
 have hq5:=hs.q5 hp
 have hl3:=hs.lk.l3
 have hoo:=hl.o.oo
 have hod:=hl.o.od
 have hx:=ny (show s.at_.toNat<s.out.order.length by omega)
 have hk:=Dy h5.2 (i:=s.at_.toNat) (by omega)
 have w3:IntKind.i64.wrap (s.at_+1)=s.at_+1:=bE (by omega)
 generalize hK:gI s.out.order s.at_.toNat=k at hR hx hk
 have hy:=ny (show k.toNat<s.lock.cells.length by omega)
 have hcn:=Dy hs.lk.uZ (i:=k.toNat) (by omega)
 have hlt:=VX (n:=n) s.lock.cells k.toNat hs.lk.tF (by omega)
 generalize hC:gI s.lock.cells k.toNat=c at hR hy hcn hlt
 refine Fn.aT bR Sv (by simp) ?_
 unfold Sr SC.mk' aj.enc av.enc
 simp only [hx,hy,aS,go_sem]
 repeat (refine bn ?_)
 by_cases c1:(c==(a.slots.length:Int))=true
 ·simp only [if_pos c1] at hR
  simp only [c1,List.length_map,go_sem]
  have aK:=amv a task s.out.dead (by omega)
  have aU:=lJ {s with at_:=s.at_+1,carry:=[]} 6
  try dsimp only at aU
  have bK:=NP (a.lX task s.out.dead).1 {s with at_:=s.at_+1,carry:=[]}
  try dsimp only at bK
  have hJ:=w3
  exact aZ
 ·simp only [if_neg c1] at hR
  have hcl:c<n:=by
   have:c≠(a.slots.length:Int):=by simpa using c1
   have:=ha.sl
   omega
  have hlt:=hlt hcl
  have hz:=Xh (show k.toNat<s.out.aN.length by omega)
  have hsm:=ac9 hl.o k.toNat
  simp only [Bool.not_eq_true] at c1
  generalize dW s.out.aN k.toNat=sh at hR hz hsm
  simp only [c1,List.length_map,go_sem]
  repeat (refine bn ?_)
  have aK:=amt a c task sh hsm (NQ ha)
  have aU:=lJ {s with at_:=s.at_+1,carry:=[]} 6
  try dsimp only at aU
  have bK:=NP (a.lW c task sh).1 {s with at_:=s.at_+1,carry:=[]}
  try dsimp only at bK
  have hJ:=ah w3 hz
  exact aZ
theorem anu (a:aj) (s:av) {n:Nat} (ha:a.wf n) (hs:s.wf n) (hl:s.aW) (hp:s.phase=6):Fn Tryz.prog 194 [.agg a.enc,.agg s.enc] [] (.aF [.agg (s.l6 a).1.enc,.agg (s.l6 a).2.1.enc,I (s.l6 a).2.2]) [] []:=by
 generalize hR:s.l6 a=R
 unfold av.l6 at hR
 simp only at hR
 have h6:=hs.p6 hp
 have hdi:=hl.di
 have hx:=anq h6
 have hal:=amM s.dir (gE s.out.dO 0)
 generalize gE s.out.dO 0=e at hR hx hal
 refine Fn.aT bR aiK (by simp) ?_
 unfold Sw SC.mk' aj.enc av.enc
 simp only [go_sem]
 by_cases c1:(s.at_==0)=true
 ·simp only [if_pos c1] at hR
  simp only [c1,go_sem]
  have aK:=NK a
  have hJ:=trivial
  exact aZ
 simp only [if_neg c1] at hR
 simp only [Bool.not_eq_true] at c1
 simp only [c1,go_sem]
 (refine Ak (by simp only [go_sem];rfl) (by rfl) (by simp only [go_sem]<;>first|trivial|omega|(simp<;>omega)) ?_;simp only [go_sem])
 simp only [hx,bL.enc,List.length_map,go_sem]
 repeat (refine bn ?_)
 refine bX (ami s.dir e (by omega)) rfl rfl ?_
 generalize s.dir.apply e=d at hR hal ⊢
 simp only [Dir.enc,go_sem]
 by_cases b1:d.2≠0
 ·rw [if_pos b1] at hR
  have b1':(d.2 !=0)=true:=by simpa using b1
  simp only [b1',go_sem]
  exact aX
 rw [if_neg b1] at hR
 have b1':(d.2 !=0)=false:=by simpa using b1
 simp only [b1',go_sem]
 have aK:=amw a s.dir.version d.1 (by omega)
 have aU:=NP (a.oJ s.dir.version d.1).1 {s with dir:=d.1}
 try dsimp only at aU
 have hJ:=trivial
 exact aZ
theorem anv (a:aj) (s:av) (task:Int) {n:Nat} (ha:a.wf n) (hs:s.wf n) (hl:s.aW) (hp:s.phase=7):Fn Tryz.prog 195 [.agg a.enc,.agg s.enc,I task] [] (.aF [.agg (s.l7 a task).1.enc,.agg (s.l7 a task).2.1.enc,I (s.l7 a task).2.2]) [] []:=by
 generalize hR:s.l7 a task=R
 unfold av.l7 at hR
 simp only at hR
 have h5:=hs.p5 (by omega)
 have h7:=hs.p7 hp
 have hq3:=hs.q3 (by omega)
 have hK:=wZ n s.lock.cells
 have hl3:=hs.lk.l3
 have hoo:=hl.o.oo
 have hx:=Xh (show s.at_.toNat<s.aN.length by omega)
 have hy:=Xh (show s.at_.toNat<s.out.aN.length by omega)
 have hz:=NI (show s.at_.toNat<s.bU.length by omega)
 have hc:=ny (show s.at_.toNat<s.lock.cells.length by omega)
 have w3:IntKind.i64.wrap (s.at_+1)=s.at_+1:=bE (by omega)
 have sm1:=nA hl s.at_.toNat
 have sm2:=ac9 hl.o s.at_.toNat
 generalize dW s.aN s.at_.toNat=sh at hR hx sm1
 generalize dW s.out.aN s.at_.toNat=so at hR hy sm2
 generalize iZ s.bU s.at_.toNat=st at hR hz
 generalize gI s.lock.cells s.at_.toNat=c at hR hc
 refine Fn.aT bR Sz (by simp) ?_
 unfold Sy SC.mk' aj.enc av.enc
 simp only [hx,ak.enc,List.length_map,go_sem]
 repeat (refine bn ?_)
 (refine Ak (by simp only [go_sem];rfl) (by rfl) (by simp only [go_sem]<;>first|trivial|omega|(simp<;>omega)) ?_;simp only [go_sem])
 refine aQ (anl s s.at_ (by omega)) rfl rfl ?_
 simp only [go_sem]
 have key:∀ now:ak,now.sm->(if (st.done now s.aI.epoch s.limit).2≠0 then (a,s,(st.done now s.aI.epoch s.limit).2) else if (a.jA c task (st.done now s.aI.epoch s.limit).1).2≠0 then ((a.jA c task (st.done now s.aI.epoch s.limit).1).1,s,(a.jA c task (st.done now s.aI.epoch s.limit).1).2) else if (s.at_+1==(s.bU.length:Int))=true then ((a.jA c task (st.done now s.aI.epoch s.limit).1).1,(av.jl {s with at_:=s.at_+1}).1,(av.jl {s with at_:=s.at_+1}).2) else ((a.jA c task (st.done now s.aI.epoch s.limit).1).1,{s with at_:=s.at_+1},(0:Int)))=R->True:=fun _ _ _=>trivial
 by_cases c1:s.yY s.at_=true
 ·simp only [if_pos c1] at hR
  simp only [c1,hy,hz,hc,mT,ak.enc,aS,List.length_map,go_sem]
  repeat (refine bn ?_)
  have aK:=acR st so s.aI.epoch s.limit sm2
  have aU:=WJ a c task (st.done so s.aI.epoch s.limit).1 (DR ha) (NQ ha)
  have bK:=Xg {s with at_:=s.at_+1}
  try dsimp only at bK
  have hJ:=ah w3 (ah hz (ah hc @mT))
  exact aZ
 ·simp only [if_neg c1] at hR
  simp only [Bool.not_eq_true] at c1
  simp only [c1,hz,hc,mT,ak.enc,aS,List.length_map,go_sem]
  repeat (refine bn ?_)
  have aK:=acR st sh s.aI.epoch s.limit sm1
  have aU:=WJ a c task (st.done sh s.aI.epoch s.limit).1 (DR ha) (NQ ha)
  have bK:=Xg {s with at_:=s.at_+1}
  try dsimp only at bK
  have hJ:=ah w3 (ah hz (ah hc @mT))
  exact aZ
end Go.Eng
