/-
  Part of a proof: lemmas and definitions of this work.
  No condition.
-/
import Derived.Test.YthhjbngoibmpgaaGreatH08
import Derived.Test.YthhjbngoibmpgaaGreatH19
import Derived.Test.YthhjbngoibmpgaaGreatH16
import Derived.Test.YthhjbngoibmpgaaGreatH17
import Derived.Test.YthhjbngoibmpgaaGreatH18
set_option linter.all false
set_option maxRecDepth 100000
set_option maxHeartbeats 8000000
namespace Go.Eng
open Go Go.Proofs
theorem acX (m:ak) (k:Int):Fn Tryz.prog 365 [.agg m.enc,I k] [] (Bo (m.spent k)) [] []:=by
 refine Fn.aB Zt (by simp) ?_
 unfold Ga SC.mk' ak.enc
 simp only [go_sem]
 exact Fin.aQ _ rfl rfl rfl rfl
theorem Qk (m:ak) (k:Int):Fn Tryz.prog 253 [.agg m.enc,I k] [] (Bo (m.jr k)) [] []:=aaf m k
theorem acY {α:Type} (p:α->Bool) (z:α) {l:List α} {j:Nat} (h:j<l.length):eT p (l.take (j+1))=eT p (l.take j)+(if p (l[j]?.getD z) then 1 else 0):=by
 rw [Ii z h]
 unfold eT
 rw [List.filter_append]
 by_cases h:p (l[j]?.getD z)=true
 ·simp [h]
 ·simp [h]
theorem Ql {α:Type} (p:α->Bool) (l:List α):0<=eT p l/\eT p l<=l.length:=by
 unfold eT
 have:=List.length_filter_le p l
 omega
theorem acZ (s:aj) (ep li:Int) (hs:s.sm):Fn Tryz.prog 300 [.agg s.enc,I ep,I li] [] (.aN [I (s.counts ep li).1,I (s.counts ep li).2]) [] []:=by
 generalize hR:s.counts ep li=R
 unfold aj.counts at hR
 have hu:=acT s [j5 ep,j6 li] hs (by simp)
 have he:=acU ep
 have hl:=acV li
 have hli:=acH s.ready
 have hrl:=s.ready.yM
 have hs1:=hs.1
 by_cases c:s.lv≠0\/j5 ep=false\/j6 li=false
 ·rw [if_pos c] at hR
  have hne:(if s.lv≠0 then s.lv else if [j5 ep,j6 li].all id then 0 else 1)≠(0:Int):=by
   by_cases g:s.lv≠0
   ·rw [if_pos g];exact g
   ·rw [if_neg g]
    rcases c with c|c|c
    ·exact absurd c g
    ·simp [c]
    ·simp [c]
  generalize (if s.lv≠0 then s.lv else if [j5 ep,j6 li].all id then 0 else 1)=v at hu hne
  have hv:(v !=0)=true:=by simpa using hne
  refine Fn.aB FU (by simp) ?_
  unfold AP SC.mk' aj.enc
  simp only [go_sem]
  refine dV he rfl rfl ?_
  simp only [go_sem]
  refine dV hl rfl rfl ?_
  simp only [go_sem]
  refine DJ hu ?_ rfl rfl rfl ?_
  ·simp [au,rv,get,aj.enc,om]
  simp only [hv,go_sem]
  repeat (refine bn ?_)
  exact Fin.bA _ rfl rfl (by subst hR;simp [aD,rv,au])
 ·rw [if_neg c] at hR
  simp only [not_or,Bool.not_eq_false] at c
  obtain ⟨c1,c2,c3⟩:=c
  have hz:(if s.lv≠0 then s.lv else if [j5 ep,j6 li].all id then 0 else 1)=(0:Int):=by
   rw [if_neg c1];simp [c2,c3]
  rw [hz] at hu
  have hlv:s.dH=s.aL.l.map Lease.msg:=rfl
  refine Fn.aB FU (by simp) ?_
  unfold AP SC.mk' aj.enc
  simp only [go_sem]
  refine dV he rfl rfl ?_
  simp only [go_sem]
  refine dV hl rfl rfl ?_
  simp only [go_sem]
  refine DJ hu ?_ rfl rfl rfl ?_
  ·simp [au,rv,get,aj.enc,om]
  simp only [go_sem]
  repeat (refine bn ?_)
  refine aS hli rfl rfl ?_
  simp only [List.length_map,go_sem]
  generalize hp:(fun m:ak=> !m.jr ep&& !m.spent li)=p at hR
  generalize hq:(fun m:ak=> !m.jr ep)=q at hR
  generalize s.ready.list=L at hrl hR ⊢
  refine go_loop (fun j:{j:Nat // j<=L.length}=>⟨1000,[(1,I ep),(2,I li),(3,.ptr 8 0),(6,I (eT p (L.take j.1))),(7,I 0),(22,.sl 7 (L.map ak.enc)),(23,I L.length),(24,I j.1)],[(8,.box s.enc)]⟩) (fun j=>L.length - j.1) ⟨0,by omega⟩ (Wk.mk [(8,8)] [] rfl rfl (by simp only [bq,aR,au,rv,aj.enc,go_sem]<;>try simp) trivial (by simp only [bQ,rv,au,go_sem]<;>simp [eT])) ?_
  rintro ⟨j,hj⟩ B hB
  simp only [aj.enc,go_sem]
  by_cases e1:j<L.length
  ·have e2:decide ((j:Int)<(L.length:Int))=true:=by simp;omega
   have hw:=cZ (show j<=100000 by omega)
   have hx:nth (L.map ak.enc) j=ak.enc (L[j]?.getD ak.z):=fJ ak.enc ak.z e1
   have hc:=acY p ak.z e1
   have hcl:=Ql p (L.take j)
   have ac1:(L.take j).length<=12:=by simp;omega
   generalize L[j]?.getD ak.z=m at hx hc
   have hpm:p m=(!m.jr ep&& !m.spent li):=by rw [<-hp]
   have BV:=Qk m ep
   have hsp:=acX m li
   simp only [e2,hx,ak.enc,Int.toNat_natCast,List.length_map,go_sem]
   repeat (refine bn ?_)
   refine aS BV rfl rfl ?_
   by_cases a1:m.jr ep=true
   ·have hpf:p m=false:=by rw [hpm];simp [a1]
    rw [hpf] at hc
    simp only [a1,hw,go_sem]
    exact hB _ ⟨j+1,by omega⟩ (by simp only;omega) (Wk.mk [(8,8)] [] rfl rfl (by simp only [bq,aR,au,rv,aj.enc,go_sem]<;>try simp) trivial (by simp only [bQ,rv,au,hc,go_sem]<;>simp))
   simp only [Bool.not_eq_true] at a1
   simp only [a1,go_sem]
   refine aS hsp rfl rfl ?_
   by_cases a2:m.spent li=true
   ·have hpf:p m=false:=by rw [hpm];simp [a2]
    rw [hpf] at hc
    simp only [a2,hw,go_sem]
    exact hB _ ⟨j+1,by omega⟩ (by simp only;omega) (Wk.mk [(8,8)] [] rfl rfl (by simp only [bq,aR,au,rv,aj.enc,go_sem]<;>try simp) trivial (by simp only [bQ,rv,au,hc,go_sem]<;>simp))
   ·simp only [Bool.not_eq_true] at a2
    have hpf:p m=true:=by rw [hpm];simp [a1,a2]
    rw [hpf,if_pos rfl] at hc
    have hw2:IntKind.i64.wrap (eT p (L.take j)+1)=eT p (L.take (j+1)):=by rw [hc,cu (by omega)]
    simp only [a2,hw,hw2,go_sem]
    exact hB _ ⟨j+1,by omega⟩ (by simp only;omega) (Wk.mk [(8,8)] [] rfl rfl (by simp only [bq,aR,au,rv,aj.enc,go_sem]<;>try simp) trivial (by simp only [bQ,rv,au,go_sem]<;>try simp))
  ·have e2:decide ((j:Int)<(L.length:Int))=false:=by simp;omega
   have tt:L.take j=L:=eZ (by omega)
   clear hB
   simp only [e2,tt,List.length_map,go_sem]
   generalize eT p L=c1 at hR ⊢
   refine go_loop (fun j:{j:Nat // j<=s.aL.l.length}=>⟨2000,[(1,I ep),(3,.ptr 8 0),(6,I c1),(7,I (eT q ((s.aL.l.take j.1).map Lease.msg))),(43,.sl 8 (s.aL.l.map Lease.enc)),(44,I s.aL.l.length),(45,I j.1)],[(8,.box s.enc)]⟩) (fun j=>s.aL.l.length - j.1) ⟨0,by omega⟩ (Wk.mk [(8,8)] [] rfl rfl (by simp only [bq,aR,au,rv,aj.enc,go_sem]<;>try simp) trivial (by simp only [bQ,rv,au,go_sem]<;>simp [eT])) ?_
   rintro ⟨j,hj⟩ B hB
   simp only [aj.enc,go_sem]
   by_cases e1:j<s.aL.l.length
   ·have e2:decide ((j:Int)<(s.aL.l.length:Int))=true:=by simp;omega
    have hw:=cZ (show j<=100000 by omega)
    have hx:nth (s.aL.l.map Lease.enc) j=Lease.enc (s.aL.l[j]?.getD Lease.z):=fJ Lease.enc Lease.z e1
    have hc:eT q ((s.aL.l.take (j+1)).map Lease.msg)=eT q ((s.aL.l.take j).map Lease.msg)+(if q (s.aL.l[j]?.getD Lease.z).msg then 1 else 0):=by
     rw [Ii Lease.z e1,List.map_append]
     unfold eT
     rw [List.filter_append]
     by_cases h:q (s.aL.l[j]?.getD Lease.z).msg=true
     ·simp [h]
     ·simp [h]
    have hcl:=Ql q ((s.aL.l.take j).map Lease.msg)
    have ac1:((s.aL.l.take j).map Lease.msg).length<=800:=by simp;omega
    generalize s.aL.l[j]?.getD Lease.z=x at hx hc
    have hpm:q x.msg= !x.msg.jr ep:=by rw [<-hq]
    have BV:=Qk x.msg ep
    simp only [ak.enc] at BV
    simp only [e2,hx,Lease.enc,Int.toNat_natCast,List.length_map,go_sem]
    repeat (refine bn ?_)
    refine aS BV rfl rfl ?_
    by_cases a1:x.msg.jr ep=true
    ·have hpf:q x.msg=false:=by rw [hpm];simp [a1]
     rw [hpf] at hc
     simp only [a1,hw,go_sem]
     exact hB _ ⟨j+1,by omega⟩ (by simp only;omega) (Wk.mk [(8,8)] [] rfl rfl (by simp only [bq,aR,au,rv,aj.enc,go_sem]<;>try simp) trivial (by simp only [bQ,rv,au,hc,go_sem]<;>simp))
    ·simp only [Bool.not_eq_true] at a1
     have hpf:q x.msg=true:=by rw [hpm];simp [a1]
     rw [hpf,if_pos rfl] at hc
     have hw2:IntKind.i64.wrap (eT q ((s.aL.l.take j).map Lease.msg)+1)=eT q ((s.aL.l.take (j+1)).map Lease.msg):=by rw [hc,cu (by omega)]
     simp only [a1,hw,hw2,go_sem]
     exact hB _ ⟨j+1,by omega⟩ (by simp only;omega) (Wk.mk [(8,8)] [] rfl rfl (by simp only [bq,aR,au,rv,aj.enc,go_sem]<;>try simp) trivial (by simp only [bQ,rv,au,go_sem]<;>try simp))
   ·have e2:decide ((j:Int)<(s.aL.l.length:Int))=false:=by simp;omega
    have tt:s.aL.l.take j=s.aL.l:=eZ (by omega)
    rw [hlv] at hR
    simp only [e2,tt,go_sem]
    subst hR
    exact Fin.bA _ rfl rfl (by simp [aD,rv,au])
theorem Qm (n:Int):Fn Tryz.prog 288 [I n] [] (Bo (cN n)) [] []:=by
 refine Fn.aB NF (by simp) ?_
 unfold FN SC.mk'
 simp only [go_sem]
 have hJ:=trivial
 repeat' first
  |(first|refine sC ?_|refine sD ?_);simp only [hJ,go_sem]
  |(first|refine dQ (fun hq=> ?_) (fun hq=> ?_)|refine jE (fun hq=> ?_) (fun hq=> ?_)|refine je (fun hq=> ?_) (fun hq=> ?_))<;>simp only [hq,hJ,go_sem]
  |refine sM ?_;simp only [aD,rv,au,get,hJ,go_sem]
  |refine bn ?_
  |fail
 all_goals clear hJ
 all_goals (simp_all [cN,-Int.not_lt,-Int.not_le]<;>omega)
theorem ac2 (s:aG):Fn Tryz.prog 208 [.agg s.enc] [] (.aN [.agg s.begin.1.enc,I s.begin.2]) [] []:=by
 generalize hR:s.begin=R
 unfold aG.begin at hR
 have hn:=Qm s.seq
 have ht:=Io s.seq
 have hw:IntKind.i64.wrap (s.seq.tmod 2)=s.seq.tmod 2:=cu (by omega)
 by_cases h1:s.seq<0\/1099511627776<s.seq
 ·rw [if_pos (by simpa using h1)] at hR
  have hc:cN s.seq=false:=by simp [cN];omega
  rw [hc] at hn
  refine Fn.aB Fs (by simp) ?_
  unfold AA SC.mk' aG.enc
  simp only [go_sem]
  exact aX
 have hw2:IntKind.i64.wrap (s.seq+1)=s.seq+1:=cu (by omega)
 have hc:cN s.seq=true:=by simp [cN];omega
 rw [hc] at hn
 rw [if_neg (by simpa using h1)] at hR
 refine Fn.aB Fs (by simp) ?_
 unfold AA SC.mk' aG.enc
 simp only [go_sem]
 have hJ:=jX hw (jX hw2 @vQ)
 exact aZ
theorem Qn (s:aG) (x:aj) (ep li:Int) (hx:x.sm):Fn Tryz.prog 220 [.agg s.enc,.agg x.enc,I ep,I li] [] (.aN [.agg (s.done x ep li).1.enc,I (s.done x ep li).2]) [] []:=by
 generalize hR:s.done x ep li=R
 unfold aG.done at hR
 have hn:=Qm s.seq
 have ht:=Io s.seq
 have hw:IntKind.i64.wrap (s.seq.tmod 2)=s.seq.tmod 2:=cu (by omega)
 by_cases h1:s.seq<0\/1099511627776<s.seq
 ·rw [if_pos (by simpa using h1)] at hR
  have hc:cN s.seq=false:=by simp [cN];omega
  rw [hc] at hn
  refine Fn.aB FB (by simp) ?_
  unfold AJ SC.mk' aG.enc aj.enc
  simp only [go_sem]
  exact aX
 have hw2:IntKind.i64.wrap (s.seq+1)=s.seq+1:=cu (by omega)
 have hc:cN s.seq=true:=by simp [cN];omega
 rw [hc] at hn
 rw [if_neg (by simpa using h1)] at hR
 refine Fn.aB FB (by simp) ?_
 unfold AJ SC.mk' aG.enc aj.enc
 simp only [go_sem]
 have eY:=IG x hx
 have jg:=acZ x ep li hx
 have hJ:=jX hw (jX hw2 @vQ)
 exact aZ
attribute [local go_sem] List.length_map
theorem gV (n a b:Int):Fn Tryz.prog 64 [I n,I a,I b] [] (Bo (bD n a b)) [] []:=by
 refine Fn.aB MC (by simp) ?_
 unfold EG SC.mk'
 simp only [go_sem]
 have hJ:=trivial
 repeat' first
  |(first|refine sC ?_|refine sD ?_);simp only [hJ,go_sem]
  |(first|refine dQ (fun hq=> ?_) (fun hq=> ?_)|refine jE (fun hq=> ?_) (fun hq=> ?_)|refine je (fun hq=> ?_) (fun hq=> ?_))<;>simp only [hq,hJ,go_sem]
  |refine sM ?_;simp only [aD,rv,au,get,hJ,go_sem]
  |refine bn ?_
  |fail
 all_goals clear hJ
 all_goals simp_all [bD,-Int.not_lt,-Int.not_le]
theorem vU (n:Int):Fn Tryz.prog 292 [I n] [] (Bo (nZ n)) [] []:=by
 refine Fn.aB NJ (by simp) ?_
 unfold FR SC.mk'
 simp only [go_sem]
 have eY:=gV n 1 200
 have hJ:=trivial
 repeat' first
  |(first|refine sC ?_|refine sD ?_);simp only [hJ,go_sem]
  |(first|refine dQ (fun hq=> ?_) (fun hq=> ?_)|refine jE (fun hq=> ?_) (fun hq=> ?_)|refine je (fun hq=> ?_) (fun hq=> ?_))<;>simp only [hq,hJ,go_sem]
  |refine sM ?_;simp only [aD,rv,au,get,hJ,go_sem]
  |refine bn ?_
  |fail
 all_goals clear eY hJ
 all_goals simp_all [nZ,bD,-Int.not_lt,-Int.not_le]
theorem Qo (a:ai) (i:Int):Fn Tryz.prog 290 [.agg a.enc,I i] [] (Bo (a.slot i)) [] []:=by
 refine Fn.aB NH (by simp) ?_
 unfold FP SC.mk' ai.enc
 simp only [go_sem]
 have hJ:=trivial
 repeat' first
  |(first|refine sC ?_|refine sD ?_);simp only [hJ,List.length_map,go_sem]
  |(first|refine dQ (fun hq=> ?_) (fun hq=> ?_)|refine jE (fun hq=> ?_) (fun hq=> ?_)|refine je (fun hq=> ?_) (fun hq=> ?_))<;>simp only [hq,hJ,List.length_map,go_sem]
  |refine sM ?_;simp only [aD,rv,au,get,hJ,List.length_map,go_sem]
  |refine bn ?_
  |fail
 all_goals clear hJ
 all_goals simp_all [ai.slot,-Int.not_lt,-Int.not_le]
def ai.ownB (a:ai) (c:Int):Int×Bool:=if decide (c<0)||decide ((a.slots.length:Int)<c) then (0,false) else (a.owner c,true)
theorem Qp (a:ai) (c:Int):Fn Tryz.prog 412 [.agg a.enc,I c] [] (.aN [I (a.ownB c).1,Bo (a.ownB c).2]) [] []:=by
 generalize hR:a.ownB c=R
 unfold ai.ownB ai.owner at hR
 refine Fn.aB NZ (by simp) ?_
 unfold Gi SC.mk' ai.enc
 simp only [go_sem]
 by_cases h0:c<0\/(a.slots.length:Int)<c
 ·rw [if_pos (by simpa using h0)] at hR
  exact aX
 rw [if_neg (by simpa using h0)] at hR
 have g1:decide (c<0)=false:=by simp;omega
 have g2:decide ((a.slots.length:Int)<c)=false:=by simp;omega
 by_cases h2:(c==(a.slots.length:Int))=true
 ·rw [if_pos h2] at hR
  simp only [g1,g2,h2,List.length_map,go_sem]
  exact Fin.bA _ rfl rfl (by rw [<-hR];simp [aD,rv,au])
 ·rw [if_neg h2] at hR
  simp only [Bool.not_eq_true] at h2
  have h3:c≠(a.slots.length:Int):=by simpa using h2
  simp only [g1,g2,h2,pO (show c.toNat<a.slots.length by omega),Slot.enc,List.length_map,go_sem]
  repeat (refine bn ?_)
  exact Fin.bA _ rfl rfl (by rw [<-hR];simp [aD,rv,au])
theorem Qq (a:ai) (c w:Int) (h0:0<=c) (h1:c<=a.slots.length) (hl:a.slots.length<=1000):Fn Tryz.prog 413 [.agg a.enc,I c,I w] [] (.agg (a.own c w).enc) [] []:=by
 generalize hR:a.own c w=R
 unfold ai.own at hR
 refine Fn.aB N7 (by simp) ?_
 unfold Gj SC.mk' ai.enc
 simp only [go_sem]
 by_cases h2:(c==(a.slots.length:Int))=true
 ·rw [if_pos h2] at hR
  simp only [h2,List.length_map,go_sem]
  exact Fin.bA _ rfl rfl (by rw [<-hR];simp only [aD,rv,au,get,ai.enc,go_sem])
 ·rw [if_neg h2] at hR
  simp only [Bool.not_eq_true] at h2
  have h3:c≠(a.slots.length:Int):=by simpa using h2
  simp only [h2,List.length_map,go_sem]
  refine nK (vT AO (by decide) (a.slots.map Slot.enc) (by simp;omega) (by decide)) rfl rfl (by simp) (by simp [bZ]) ?_
  have e2:(a.slots.map Slot.enc).set c.toNat [I w,Bo (dX a.slots c.toNat).bM.live,I (dX a.slots c.toNat).bM.low,I (dX a.slots c.toNat).bM.high,.sl 7 ((dX a.slots c.toNat).bM.ready.cells.map ak.enc),I (dX a.slots c.toNat).bM.ready.head,I (dX a.slots c.toNat).bM.ready.size,.sl 8 ((dX a.slots c.toNat).bM.aL.l.map Lease.enc),.sl 2 ((dX a.slots c.toNat).bM.aL.heap.map Due.enc)]=(a.slots.set c.toNat {dX a.slots c.toNat with owner:=w}).map Slot.enc:=by rw [List.map_set];rfl
  have e3:List.take a.slots.length ((a.slots.set c.toNat {dX a.slots c.toNat with owner:=w}).map Slot.enc)=(a.slots.set c.toNat {dX a.slots c.toNat with owner:=w}).map Slot.enc:=eZ (by simp)
  simp only [bS,sh,e2,pO (show c.toNat<a.slots.length by omega),Slot.enc,List.length_map,go_sem]
  repeat (refine bn ?_)
  exact Fin.bA _ rfl rfl (by rw [<-hR];simp only [aD,rv,au,get,ai.enc,e3,List.length_map,List.length_set,go_sem];simp)
theorem ac3 (a:ai) (c w:Int) (hl:a.slots.length<=1000):Fn Tryz.prog 358 [.agg a.enc,I c,I w] [] (.aN [.agg (a.tryLock c w).1.enc,Bo (a.tryLock c w).2.1,I (a.tryLock c w).2.2]) [] []:=by
 generalize hR:a.tryLock c w=R
 unfold ai.tryLock at hR
 have ho:=Qp a c
 unfold ai.ownB at ho
 refine Fn.aB NU (by simp) ?_
 unfold F5 SC.mk' ai.enc
 simp only [go_sem]
 by_cases h0:c<0\/(a.slots.length:Int)<c
 ·rw [if_pos (by simp;omega)] at hR
  rw [if_pos (by simpa using h0)] at ho
  have eY:=vU w
  exact aX
 have g1:0<=c:=by omega
 have g2:c<=a.slots.length:=by omega
 rw [if_neg (by simpa using h0)] at ho
 have e1:decide (c<0)=false:=by simp;omega
 have e2:decide ((a.slots.length:Int)<c)=false:=by simp;omega
 rw [e1,e2] at hR
 have eY:=vU w
 have jg:=Qq a c w g1 g2 hl
 have hJ:=ai.enc.eq_1
 exact aZ
theorem ac4 (a:ai) (c w:Int) (hl:a.slots.length<=1000):Fn Tryz.prog 359 [.agg a.enc,I c,I w] [] (.aN [.agg (a.unlock c w).1.enc,I (a.unlock c w).2]) [] []:=by
 generalize hR:a.unlock c w=R
 unfold ai.unlock at hR
 have ho:=Qp a c
 unfold ai.ownB at ho
 refine Fn.aB NV (by simp) ?_
 unfold F6 SC.mk' ai.enc
 simp only [go_sem]
 by_cases h0:c<0\/(a.slots.length:Int)<c
 ·rw [if_pos (by simp;omega)] at hR
  rw [if_pos (by simpa using h0)] at ho
  have eY:=vU w
  exact aX
 have g1:0<=c:=by omega
 have g2:c<=a.slots.length:=by omega
 rw [if_neg (by simpa using h0)] at ho
 have e1:decide (c<0)=false:=by simp;omega
 have e2:decide ((a.slots.length:Int)<c)=false:=by simp;omega
 rw [e1,e2] at hR
 have eY:=vU w
 have jg:=Qq a c 0 g1 g2 hl
 have hJ:=ai.enc.eq_1
 exact aZ
theorem ac5 (a:ai) (i:Int):Fn Tryz.prog 212 [.agg a.enc,I i] [] (.aN [.agg (a.fD i).1.enc,I (a.fD i).2]) [] []:=by
 generalize hR:a.fD i=R
 unfold ai.fD at hR
 refine Fn.aB Nq (by simp) ?_
 unfold Fw SC.mk' ai.enc
 simp only [go_sem]
 refine aS (Qo a i) rfl rfl ?_
 simp only [go_sem]
 by_cases h1:a.slot i=true
 ·have h2:=yN h1
  simp only [h1,Bool.not_true,Bool.false_eq_true,if_false] at hR
  simp only [h1,Bool.not_true,pO h2.2.1,Slot.enc,List.length_map,go_sem]
  repeat (refine bn ?_)
  exact Fin.bA _ rfl rfl (by rw [<-hR];simp only [aD,rv,au,get,aj.enc,go_sem])
 ·simp only [Bool.not_eq_true] at h1
  simp only [h1,Bool.not_false,if_true] at hR
  simp only [h1,Bool.not_false,go_sem]
  exact Fin.bA _ rfl rfl (by rw [<-hR];simp only [aD,rv,au,get,aj.enc,List.map_nil,go_sem])
theorem BX (a:ai) (i w:Int):Fn Tryz.prog 289 [.agg a.enc,I i,I w] [] (I (a.storable i w)) [] []:=by
 generalize hR:a.storable i w=R
 unfold ai.storable at hR
 refine Fn.aB NG (by simp) ?_
 unfold FO SC.mk' ai.enc
 simp only [go_sem]
 refine aS (Qo a i) rfl rfl ?_
 simp only [go_sem]
 by_cases h1:a.slot i=true
 ·have h2:=yN h1
  simp only [h1,Bool.not_true,pO h2.2.1,Slot.enc,List.length_map,go_sem]
  have eY:=vU w
  have hJ:=jX (pO h2.2.1) Slot.enc.eq_1
  exact aZ
 ·simp only [Bool.not_eq_true] at h1
  simp only [h1,Bool.not_false,Bool.true_or,if_true] at hR
  simp only [h1,Bool.not_false,go_sem]
  exact Fin.bA _ rfl rfl (by rw [<-hR];simp [aD,rv,au])
theorem ac6 (a:ai):Fn Tryz.prog 211 [.agg a.enc] [] (.agg a.dead.dead.enc) [] []:=by
 refine Fn.aB Zm (by simp) ?_
 unfold Fv SC.mk' ai.enc Dead.enc
 simp only [go_sem]
 exact Fin.bA _ rfl rfl (by simp only [aD,rv,au,get,go_sem])
theorem Qr (a:ai) (w:Int):Fn Tryz.prog 291 [.agg a.enc,I w] [] (.aN [I (a.load w).1,I (a.load w).2]) [] []:=by
 generalize hR:a.load w=R
 unfold ai.load at hR
 refine Fn.aB NI (by simp) ?_
 unfold FQ SC.mk' ai.enc
 simp only [go_sem]
 exact aX
theorem ac7 (a:ai) (i:Int) (hs:a.aH.length=a.slots.length):Fn Tryz.prog 206 [.agg a.enc,I i] [] (.aN [.agg (a.jJ i).1.enc,I (a.jJ i).2]) [] []:=by
 generalize hR:a.jJ i=R
 unfold ai.jJ at hR
 refine Fn.aB Ni (by simp) ?_
 unfold Fq SC.mk' ai.enc
 simp only [go_sem]
 by_cases h1:a.slot i=true
 ·have h2:=yN h1
  simp only [h1,Bool.not_true,Bool.false_eq_true,if_false] at hR
  have e1:decide (i<0)=false:=by simp;omega
  have e2:decide ((a.aH.length:Int)<=i)=false:=by simp;omega
  simp only [e1,e2,yO (show i.toNat<a.aH.length by omega),mT,List.length_map,go_sem]
  repeat (refine bn ?_)
  exact Fin.bA _ rfl rfl (by rw [<-hR];simp only [aD,rv,au,get,mT,go_sem])
 ·simp only [Bool.not_eq_true] at h1
  simp only [h1,Bool.not_false,if_true] at hR
  have h1:i<0\/(a.aH.length:Int)<=i:=by simp [ai.slot] at h1;omega
  have hJ:=trivial
  repeat' first
   |(first|refine sC ?_|refine sD ?_);simp only [hJ,List.length_map,go_sem]
   |(first|refine dQ (fun hq=> ?_) (fun hq=> ?_)|refine jE (fun hq=> ?_) (fun hq=> ?_)|refine je (fun hq=> ?_) (fun hq=> ?_))<;>simp only [hq,hJ,List.length_map,go_sem]
   |refine sM ?_;simp only [aD,rv,au,get,hJ,List.length_map,go_sem]
   |refine bn ?_
   |fail
  all_goals clear hJ
  all_goals (subst hR;simp_all [rv,au,mT,-Int.not_lt,-Int.not_le])
theorem ac8 (a:ai) (i w:Int) (s:aj) (hs:s.sm) (hl:a.slots.length<=1000):Fn Tryz.prog 216 [.agg a.enc,I i,I w,.agg s.enc] [] (.aN [.agg (a.iB i w s).1.enc,I (a.iB i w s).2]) [] []:=by
 generalize hR:a.iB i w s=R
 unfold ai.iB at hR
 refine Fn.aB Nu (by simp) ?_
 unfold Fz SC.mk' ai.enc aj.enc
 simp only [go_sem]
 by_cases h1:a.storable i w≠0
 ·rw [if_pos h1] at hR
  have h1':(a.storable i w !=0)=true:=by simpa using h1
  refine aS (BX a i w) rfl rfl ?_
  simp only [h1',go_sem]
  exact Fin.bA _ rfl rfl (by rw [<-hR];simp [aD,rv,au,ai.enc])
 rw [if_neg h1] at hR
 have h1':(a.storable i w !=0)=false:=by simpa using h1
 have hi:a.slot i=true:=by
  unfold ai.storable at h1
  cases e:a.slot i
  ·rw [e] at h1;simp at h1
  ·rfl
 have h2:=yN hi
 refine aS (BX a i w) rfl rfl ?_
 simp only [h1',go_sem]
 refine aS (IG s hs) rfl rfl ?_
 simp only [go_sem]
 by_cases h3:s.val≠0
 ·rw [if_pos h3] at hR
  have h3':(s.val !=0)=true:=by simpa using h3
  simp only [h3',go_sem]
  exact Fin.bA _ rfl rfl (by rw [<-hR];simp [aD,rv,au,ai.enc])
 rw [if_neg h3] at hR
 have h3':(s.val !=0)=false:=by simpa using h3
 simp only [h3',pO h2.2.1,Slot.enc,List.length_map,go_sem]
 repeat (refine bn ?_)
 by_cases h4:s.ready.cells.length≠(dX a.slots i.toNat).bM.ready.cells.length
 ·rw [if_pos h4] at hR
  have h4':((s.ready.cells.length:Int) !=((dX a.slots i.toNat).bM.ready.cells.length:Int))=true:=by simp;omega
  simp only [h4',go_sem]
  exact Fin.bA _ rfl rfl (by rw [<-hR];simp [aD,rv,au,ai.enc])
 rw [if_neg h4] at hR
 have h4':((s.ready.cells.length:Int) !=((dX a.slots i.toNat).bM.ready.cells.length:Int))=false:=by simp;omega
 simp only [h4',go_sem]
 refine nK (vT AO (by decide) (a.slots.map Slot.enc) (by simp;omega) (by decide)) rfl rfl (by simp) (by simp [bZ]) ?_
 have e2:(a.slots.map Slot.enc).set i.toNat [I (dX a.slots i.toNat).owner,Bo s.live,I s.low,I s.high,.sl 7 (s.ready.cells.map ak.enc),I s.ready.head,I s.ready.size,.sl 8 (s.aL.l.map Lease.enc),.sl 2 (s.aL.heap.map Due.enc)]=(a.slots.set i.toNat {dX a.slots i.toNat with bM:=s}).map Slot.enc:=by rw [List.map_set];rfl
 have e3:List.take a.slots.length ((a.slots.set i.toNat {dX a.slots i.toNat with bM:=s}).map Slot.enc)=(a.slots.set i.toNat {dX a.slots i.toNat with bM:=s}).map Slot.enc:=eZ (by simp)
 simp only [bS,sh,e2,pO h2.2.1,Slot.enc,List.length_map,go_sem]
 repeat (refine bn ?_)
 exact Fin.bA _ rfl rfl (by rw [<-hR];simp only [aD,rv,au,get,ai.enc,e3,List.length_map,List.length_set,go_sem];simp)
theorem ac9 (a:ai) (w:Int) (d:Dead) (hl:d.l.length<=100000):Fn Tryz.prog 215 [.agg a.enc,I w,.agg d.enc] [] (.aN [.agg (a.iC w d).1.enc,I (a.iC w d).2]) [] []:=by
 generalize hR:a.iC w d=R
 unfold ai.iC at hR
 have hv:Fn Tryz.prog 293 [.agg d.enc] [] (I d.val) [] []:=aac d.cap d.l hl
 refine Fn.aB Zn (by simp) ?_
 unfold Fy SC.mk' ai.enc Dead.enc
 simp only [go_sem]
 have eY:=vU w
 exact aX
theorem IJ (a:ai) (i w:Int) (s:aG) (hs:a.aH.length=a.slots.length) (hl:a.slots.length<=1000):Fn Tryz.prog 209 [.agg a.enc,I i,I w,.agg s.enc] [] (.aN [.agg (a.gU i w s).1.enc,I (a.gU i w s).2]) [] []:=by
 generalize hR:a.gU i w s=R
 unfold ai.gU at hR
 refine Fn.aB Nn (by simp) ?_
 unfold Fu SC.mk' ai.enc
 simp only [mT,go_sem]
 by_cases h1:a.storable i w≠0
 ·rw [if_pos h1] at hR
  have h1':(a.storable i w !=0)=true:=by simpa using h1
  refine aS (BX a i w) rfl rfl ?_
  simp only [h1',go_sem]
  exact Fin.bA _ rfl rfl (by rw [<-hR];simp [aD,rv,au,ai.enc])
 rw [if_neg h1] at hR
 have h1':(a.storable i w !=0)=false:=by simpa using h1
 have hi:a.slot i=true:=by
  unfold ai.storable at h1
  cases e:a.slot i
  ·rw [e] at h1;simp at h1
  ·rfl
 have h2:=yN hi
 refine aS (BX a i w) rfl rfl ?_
 simp only [h1',go_sem]
 refine go_loop (fun j:{j:Nat // j<=4/\∀ k,k<j->bD ([s.seq,s.epoch,s.ready,s.dH].getD k 0) 0 1099511627776=true}=>⟨2000,[(1,I i),(2,I w),(4,.ptr 8 0),(7,.ptr 16 0),(8,.ptr 24 0),(29,.agg [I s.seq,I s.epoch,I s.ready,I s.dH]),(30,I j.1)],[(8,.box [.sl 9 (a.slots.map Slot.enc),.sl 4 (a.aH.map aG.enc),I a.dead.owner,I a.dead.dead.cap,.sl 7 (a.dead.dead.l.map ak.enc),I a.dir.version,.sl 3 (a.dir.l.map Span.enc),.sl 1 (encI a.dir.aM),I a.epoch,I a.clock,I a.fI]),(16,.box [I s.seq,I s.epoch,I s.ready,I s.dH]),(24,.box [Nl,Nl,I 0,I 0,Nl,I 0,Nl,Nl,I 0,I 0,I 0])]⟩) (fun j=>4 - j.1) ⟨0,by omega,fun k hk=>by omega⟩ (wk [(8,8),(16,16),(24,24)] []) ?_
 rintro ⟨j,hj,he⟩ B hB
 simp only [go_sem]
 by_cases e1:j<4
 ·have step:∀ (x:Int),[s.seq,s.epoch,s.ready,s.dH].getD j 0=x->bD x 0 1099511627776=true->∀ k,k<j+1->bD ([s.seq,s.epoch,s.ready,s.dH].getD k 0) 0 1099511627776=true:=fun x hx hin k hk=>by
   by_cases hkj:k=j
   ·subst hkj;rw [hx];exact hin
   ·exact he k (by omega)
  have bad:∀ (x:Int),[s.seq,s.epoch,s.ready,s.dH].getD j 0=x->bD x 0 1099511627776=false->R=(ai.z,1):=fun x hx hin=>by
   rw [<-hR,if_pos]
   have yP:j=0\/j=1\/j=2\/j=3:=by omega
   rcases yP with rfl|rfl|rfl|rfl<;>simp at hx<;>subst hx<;>simp [hin]
  have yP:j=0\/j=1\/j=2\/j=3:=by omega
  rcases yP with rfl|rfl|rfl|rfl
  ·simp only [go_sem]
   refine aS (gV s.seq 0 1099511627776) rfl rfl ?_
   cases hin:bD s.seq 0 1099511627776 with
   |false=>
    have hR:=bad _ rfl hin
    simp only [go_sem]
    exact Fin.bA _ rfl rfl (by rw [hR];simp [aD,rv,au,ai.enc])
   |true=>
    simp only [show IntKind.i64.wrap (1:Int)=1 from cu (by omega),go_sem]
    exact hB _ ⟨1,by omega,step _ rfl hin⟩ (by simp only;omega) (wk [(8,8),(16,16),(24,24)] [])
  ·simp only [go_sem]
   refine aS (gV s.epoch 0 1099511627776) rfl rfl ?_
   cases hin:bD s.epoch 0 1099511627776 with
   |false=>
    have hR:=bad _ rfl hin
    simp only [go_sem]
    exact Fin.bA _ rfl rfl (by rw [hR];simp [aD,rv,au,ai.enc])
   |true=>
    simp only [show IntKind.i64.wrap (2:Int)=2 from cu (by omega),go_sem]
    exact hB _ ⟨2,by omega,step _ rfl hin⟩ (by simp only;omega) (wk [(8,8),(16,16),(24,24)] [])
  ·simp only [go_sem]
   refine aS (gV s.ready 0 1099511627776) rfl rfl ?_
   cases hin:bD s.ready 0 1099511627776 with
   |false=>
    have hR:=bad _ rfl hin
    simp only [go_sem]
    exact Fin.bA _ rfl rfl (by rw [hR];simp [aD,rv,au,ai.enc])
   |true=>
    simp only [show IntKind.i64.wrap (3:Int)=3 from cu (by omega),go_sem]
    exact hB _ ⟨3,by omega,step _ rfl hin⟩ (by simp only;omega) (wk [(8,8),(16,16),(24,24)] [])
  ·simp only [go_sem]
   refine aS (gV s.dH 0 1099511627776) rfl rfl ?_
   cases hin:bD s.dH 0 1099511627776 with
   |false=>
    have hR:=bad _ rfl hin
    simp only [go_sem]
    exact Fin.bA _ rfl rfl (by rw [hR];simp [aD,rv,au,ai.enc])
   |true=>
    simp only [show IntKind.i64.wrap (4:Int)=4 from cu (by omega),go_sem]
    exact hB _ ⟨4,by omega,step _ rfl hin⟩ (by simp only;omega) (wk [(8,8),(16,16),(24,24)] [])
 ·have yP:j=4:=by omega
  subst yP
  have k0:=he 0 (by omega)
  have k1:=he 1 (by omega)
  have k2:=he 2 (by omega)
  have k3:=he 3 (by omega)
  simp only [List.getD_cons_zero,List.getD_cons_succ] at k0 k1 k2 k3
  rw [if_neg (by simp [k0,k1,k2,k3])] at hR
  have e5:decide ((a.aH.length:Int)<=i)=false:=by simp;omega
  simp only [e5,List.length_map,go_sem]
  refine nK (vT AB (by decide) (a.aH.map aG.enc) (by simp;omega) (by decide)) rfl rfl (by simp) (by simp [bZ]) ?_
  have e2:(a.aH.map aG.enc).set i.toNat [I s.seq,I s.epoch,I s.ready,I s.dH]=(a.aH.set i.toNat s).map aG.enc:=by rw [List.map_set];rfl
  have e3:List.take a.aH.length ((a.aH.set i.toNat s).map aG.enc)=(a.aH.set i.toNat s).map aG.enc:=eZ (by simp)
  simp only [bS,sh,e2,yO (show i.toNat<a.aH.length by omega),mT,List.length_map,go_sem]
  repeat (refine bn ?_)
  exact Fin.bA _ rfl rfl (by rw [<-hR];simp only [aD,rv,au,get,ai.enc,e3,List.length_map,List.length_set,go_sem];simp)
end Go.Eng
