/-
  Part of a proof: lemmas and definitions of this work.
  No condition.
-/
import Derived.Test.YthhjbngoibmpgaaGreatH08
import Derived.Test.YthhjbngoibmpgaaGreatH17
import Derived.Test.YthhjbngoibmpgaaGreatH21
import Derived.Test.YthhjbngoibmpgaaGreatH25
import Derived.Test.YthhjbngoibmpgaaGreatH05
import Derived.Test.YthhjbngoibmpgaaGreatH04
set_option linter.all false
set_option maxRecDepth 100000
set_option maxHeartbeats 8000000
namespace Go.Eng
open Go Go.Proofs
theorem aeO {u:Setup} (h:u.good=true):((hb u h).at fr (bT (hb u h))).wf u.slots.toNat:=by
 obtain ⟨h1,h2,h3,h4,h5⟩:=rF h
 have hd:=Qs u.slots (by simp;omega) u.live (by simp;omega) h2.2 0 (by simp)
 have hf:(Dir.new u.slots u.live).1.aM.length=u.slots.toNat:=by unfold Dir.new;rw [if_neg (by simp;omega)];simp
 exact ⟨by omega,by omega,HB.len,HB.lst,hd.1,hf⟩
theorem QT (x P:Int) (h:x=P):decide (1<=x)=decide (1<=P)/\decide (x<=7)=decide (P<=7)/\(x==9)=(P==9)/\decide (2<=x)=decide (2<=P)/\decide (x<=6)=decide (P<=6)/\decide (8<=x)=decide (8<=P)/\decide (3<=x)=decide (3<=P)/\decide (x<=5)=decide (P<=5):=by
 subst h;exact ⟨rfl,rfl,rfl,rfl,rfl,rfl,rfl,rfl⟩
theorem shE (X:aj):X.enc=[Bo X.live,I X.low,I X.high,.sl 7 (X.ready.cells.map ak.enc),I X.ready.head,I X.ready.size,.sl 8 (X.aL.l.map Lease.enc),.sl 2 (X.aL.heap.map Due.enc)]:=rfl
theorem aeQ (x:Slot) (X:aj) (h:X=x.bM):Slot.enc x=[I x.owner,Bo X.live,I X.low,I X.high,.sl 7 (X.ready.cells.map ak.enc),I X.ready.head,I X.ready.size,.sl 8 (X.aL.l.map Lease.enc),.sl 2 (X.aL.heap.map Due.enc)]:=by subst h;rfl
theorem e1I (z:Int):encI [z]=[[I z]]:=rfl
theorem aeS {s:ah} {L:List Int} (h4:s.phase=4) (h:(s.fE {s.bg with order:=L}).2=0):fe s.lock.cells L []=true:=by
 unfold ah.fE at h
 cases hc:fe s.lock.cells L [] with
 |true=>rfl
 |false=>simp [h4,ah.bg,hc] at h
theorem QU {n:Nat} {s:ah} {L:List Int} (hs:s.wf n) (hl:s.aT) (h4:s.phase=4) (hL:L.length<=1) (h:(s.fE {s.bg with order:=L}).2=0):(s.fE {s.bg with order:=L}).1.wf n/\(s.fE {s.bg with order:=L}).1.aT/\(s.fE {s.bg with order:=L}).1.lock.cells=s.lock.cells:=by
 obtain ⟨h1,h2⟩:=ah.O3 (o:={s.bg with order:=L}) hs h4 rfl (by simp [ah.bg]) (aeS h4 h)
 exact ⟨h1,ah.QI hl ⟨(ah.lC hl).os,(ah.lC hl).od,by simp only;omega⟩,h2⟩
theorem aeT (l:List Int) (hA:Fn Tryz.prog 14 [] [] (Bo true) [] []):Fn Tryz.prog 4 [.sl 1 (encI l)] [] (Bo true) [] []:=by
 have hl:(l.take 4000).length<=4000:=by simp;omega
 have hu:=abU (l.take 4000) 0
 have hset:Fn Tryz.prog 22 [.ptr 0 0] [jh (l.take 4000) 0] (.agg (pK (l.take 4000) 0).1.enc) [jh (l.take 4000) (pK (l.take 4000) 0).2] []:=ab1 (l.take 4000) 0 hl
 generalize pK (l.take 4000) 0=U at hu hset
 have hg:=rF hu
 obtain ⟨hS,c1,c3,cR,hH⟩:=abW hu (l.take 4000) U.2
 have hcell:=ab2 (l.take 4000) U.2 U.1.slots hl (by omega) (by omega)
 have hnew:=ade U.1
 rw [BK hu] at hnew hH
 simp only at hnew hH
 generalize tZ (l.take 4000) U.2 U.1.slots=CP at hS c1 c3 cR hH hcell
 obtain ⟨C,p0⟩:=CP
 simp only at hS c1 c3 cR hH hcell
 have hW:=aeO hu
 have hL0:((hb U.1 hu).at fr (bT (hb U.1 hu))).aT:=by have:=ai.yS U.1;rw [BK hu] at this;exact this
 generalize (hb U.1 hu).at fr (bT (hb U.1 hu))=A at hnew hH hW hL0
 generalize hn:U.1.slots.toNat=n at hW
 have hn1:U.1.slots=(A.slots.length:Int):=by rw [hW.sl];omega
 rw [hn1] at hcell cR
 have rE:=aee C 2 (by omega)
 rw [hS] at rE
 simp only at rE
 have hCn:∀ c ∈ C,c<=(n:Int):=fun c hc=>by have:=(cR c hc).2;rw [hW.sl] at this;exact this
 obtain ⟨sw,sc⟩:=ah.vO hCn (congrArg Prod.snd hS)
 have sl:=ah.yS C 2
 have hne:((A.slots.length:Int)==0)=false:=beq_eq_false_iff_ne.2 (by have:=hW.n1;have:=hW.sl;omega)
 have hH:=hH (pM (l.take 4000) C.length) p0 (abV _ c1 _)
 generalize (ah.new C 2).1=S at rE sw sc sl hH
 refine Fn.aB Y7 (by simp) ?_
 unfold s4 SC.mk'
 simp only [go_sem]
 refine nK (ZR l) rfl rfl (by simp) (by simp [bZ]) ?_
 simp only [bS,sh,go_sem]
 refine dG (b:=24) hset ⟨rfl,trivial⟩ rfl rfl rfl rfl ?_
 simp only [go_sem]
 refine aS hnew rfl rfl ?_
 simp only [ai.enc,hne,List.length_map,go_sem]
 refine dG (b:=24) hcell ⟨rfl,⟨rfl,rfl⟩,trivial⟩ rfl rfl rfl rfl ?_
 simp only [go_sem]
 refine aS rE rfl rfl ?_
 simp only [ah.enc,go_sem]
 have hco:S.lock.cells=C:=sc
 refine go_loop (fun x:{x:Nat×ai×ah×Nat // x.1<=40/\x.2.1.wf n/\x.2.2.1.wf n/\x.2.1.aT/\x.2.2.1.aT/\x.2.2.1.lock.cells=C/\eU (pM (l.take 4000) C.length) C (40 - x.1) ((x.1+1:Nat):Int) x.2.1 x.2.2.1 x.2.2.2}=>
  ⟨9000,[(3,.ptr 24 0),(4,.ptr 88 0),(6,.sl 1 (encI C)),(7,.ptr 264 0),(8,I ((x.1.1+1:Nat):Int))],[(24,.box (jh (l.take 4000) x.1.2.2.2)),(88,.box [.sl 9 (x.1.2.1.slots.map Slot.enc),.sl 4 (x.1.2.1.aH.map aG.enc),I x.1.2.1.dead.owner,I x.1.2.1.dead.dead.cap,.sl 7 (x.1.2.1.dead.dead.l.map ak.enc),I x.1.2.1.dir.version,.sl 3 (x.1.2.1.dir.l.map Span.enc),.sl 1 (encI x.1.2.1.dir.aM),I x.1.2.1.epoch,I x.1.2.1.clock,I x.1.2.1.fI]),(264,.box [I x.1.2.2.1.phase,I x.1.2.2.1.at_,.sl 1 (encI x.1.2.2.1.lock.cells),I x.1.2.2.1.lock.phase,I x.1.2.2.1.lock.got,I x.1.2.2.1.lock.tries,I x.1.2.2.1.lock.wait,I x.1.2.2.1.aO.phase,I x.1.2.2.1.aO.epoch,I x.1.2.2.1.aO.clock,I x.1.2.2.1.aO.stamp,.sl 8 (x.1.2.2.1.aA.map aj.enc),I x.1.2.2.1.dead.cap,.sl 7 (x.1.2.2.1.dead.l.map ak.enc),.sl 4 (x.1.2.2.1.aH.map aG.enc),I x.1.2.2.1.dir.version,.sl 3 (x.1.2.2.1.dir.l.map Span.enc),.sl 1 (encI x.1.2.2.1.dir.aM),.sl 8 (x.1.2.2.1.out.aA.map aj.enc),I x.1.2.2.1.out.dead.cap,.sl 7 (x.1.2.2.1.out.dead.l.map ak.enc),.sl 1 (encI x.1.2.2.1.out.order),.sl 7 (x.1.2.2.1.out.carry.map ak.enc),.sl 4 (x.1.2.2.1.out.dF.map eB.enc),I x.1.2.2.1.limit,.sl 7 (x.1.2.2.1.carry.map ak.enc)])]⟩) (fun x=>40 - x.1.1) ⟨(0,A,S,p0),by omega,hW,sw,hL0,sl,hco,hH⟩ (wk [(24,24),(88,88),(264,264)] []) ?_
 clear hH
 rintro ⟨⟨j,a,s,p⟩,hj,ha,hs,hla,hls,hce,hH⟩ B hB
 simp only at hj ha hs hla hls hce hH ⊢
 simp only [ai.enc,ah.enc,go_sem]
 have hst:a.aH.length<=1000:=by have:=ha.st;have:=ha.n6;omega
 by_cases e1:j<40
 ·have d1:decide (((j+1:Nat):Int)<=40)=true:=by simp;omega
  have hw:=cZ (show j+1<=100000 by omega)
  obtain ⟨m,hm⟩:∃ m,40 - j=m+1:=⟨39 - j,by omega⟩
  have hm2:40 - (j+1)=m:=by omega
  have hc2:((j+1+1:Nat):Int)=((j+1:Nat):Int)+1:=by omega
  rw [hm] at hH
  rcases hH with ⟨h9,hq⟩|⟨h4,hd,hN⟩|⟨h9,h4,h6,hcar,hs0,hC,hN⟩
  ·have p9:(s.phase==9)=true:=by rw [h9];rfl
   have yX:(s.phase !=9)=false:=by rw [h9];rfl
   simp only [d1,p9,yX,go_sem]
   refine aS (PN a.aH hst) rfl rfl ?_
   simp only [hq,go_sem]
   refine aS hA rfl rfl ?_
   simp only [go_sem]
   exact Fin.aQ _ rfl rfl rfl rfl
  ·have yX:(s.phase !=9)=true:=by rw [h4];rfl
   have p4:(s.phase==4)=true:=by rw [h4];rfl
   simp only [d1,yX,p4,go_sem]
   have hun:=aef s
   unfold ah.enc at hun
   refine aS hun rfl rfl ?_
   simp only [ah.bg,bL.enc,fF,List.map_nil,go_sem]
   refine dG (b:=24) (nu (l.take 4000) p 2 hl (by omega)) ⟨rfl,⟨rfl,rfl⟩,trivial⟩ rfl rfl rfl rfl ?_
   by_cases v0:(nV (l.take 4000) p 2==0)=true
   ·have ho:pM (l.take 4000) C.length p=([nV (l.take 4000) (nN (l.take 4000) p 2) C.length],nN (l.take 4000) (nN (l.take 4000) p 2) C.length):=by unfold pM;rw [if_pos v0]
    rw [ho] at hd hN
    simp only at hd hN
    have hk:=QU hs hls h4 (by simp) hd
    have hde:=QS s {s.bg with order:=[nV (l.take 4000) (nN (l.take 4000) p 2) C.length]} hs (by simp)
    generalize hD:s.fE {s.bg with order:=[nV (l.take 4000) (nN (l.take 4000) p 2) C.length]}=D at hd hN hk hde
    simp only [v0,aY,go_sem]
    refine dG (b:=24) (nu (l.take 4000) (nN (l.take 4000) p 2) C.length hl (by omega)) ⟨rfl,⟨rfl,rfl⟩,trivial⟩ rfl rfl rfl rfl ?_
    simp only [go_sem]
    rw [hd] at hde
    unfold ah.enc bL.enc at hde
    simp only [ah.bg,fF,List.map_nil,e1I] at hde
    refine zV hde ?_ rfl rfl rfl ?_
    ·simp [au,rv,get,encI]
    simp only [go_sem]
    simp only [hw,go_sem]
    exact hB _ ⟨(j+1,a,D.1,nN (l.take 4000) (nN (l.take 4000) p 2) C.length),by omega,ha,hk.1,hla,hk.2.1,hk.2.2.trans hce,by rw [hm2,hc2];exact hN⟩ (by simp only;omega) (wk [(24,24),(88,88),(264,264)] [])
   ·have v0':(nV (l.take 4000) p 2==0)=false:=by simpa using v0
    have ho:pM (l.take 4000) C.length p=([],nN (l.take 4000) p 2):=by unfold pM;rw [if_neg v0]
    rw [ho] at hd hN
    simp only at hd hN
    have hk:=QU hs hls h4 (by simp) hd
    have hde:=QS s {s.bg with order:=[]} hs (by simp)
    generalize hD:s.fE {s.bg with order:=[]}=D at hd hN hk hde
    rw [hd] at hde
    unfold ah.enc bL.enc at hde
    simp only [ah.bg,fF,List.map_nil] at hde
    simp only [v0',go_sem]
    refine aS hde rfl rfl ?_
    simp only [hw,go_sem]
    exact hB _ ⟨(j+1,a,D.1,nN (l.take 4000) p 2),by omega,ha,hk.1,hla,hk.2.1,hk.2.2.trans hce,by rw [hm2,hc2];exact hN⟩ (by simp only;omega) (wk [(24,24),(88,88),(264,264)] [])
  ·have yX:(s.phase !=9)=true:=by simpa using h9
   have p4':(s.phase==4)=false:=by simpa using h4
   have hsp:=aeH a s 9 ((j+1:Nat):Int) ha hs hls hcar (fun h=>absurd h h6)
   obtain ⟨wa,ws,wc⟩:=ah.rz ha hs hs0
   obtain ⟨la',ls'⟩:=ah.ug hla hls ha _ hs0
   generalize s.step a 9 ((j+1:Nat):Int)=R at hsp hs0 hC hN wa ws wc la' ls'
   obtain ⟨a',s',er⟩:=R
   simp only at hsp hs0 hC hN wa ws wc la' ls'
   subst hs0
   have n1:((a'.slots.length:Int) !=(a.slots.length:Int))=false:=by rw [wa.sl,ha.sl];simp
   have n2:((a'.aH.length:Int) !=(a.slots.length:Int))=false:=by rw [wa.st,ha.sl];simp
   unfold ai.enc ah.enc at hsp
   simp only [d1,yX,p4',go_sem]
   refine aS hsp rfl rfl ?_
   simp only [n1,n2,List.length_map,go_sem]
   refine ⟨rfl,?_⟩
   have hlo:=ws.lo
   have hhi:=ws.hi
   generalize hs2:s'=s2 at hC hN wa ws wc la' ls' hlo hhi ⊢
   refine go_loop (fun i:{i:Nat // i<=C.length}=>⟨9900,[(3,.ptr 24 0),(4,.ptr 88 0),(6,.sl 1 (encI C)),(7,.ptr 264 0),(8,I ((j+1:Nat):Int)),(15,I i.1)],[(24,.box (jh (l.take 4000) p)),(88,.box [.sl 9 (a'.slots.map Slot.enc),.sl 4 (a'.aH.map aG.enc),I a'.dead.owner,I a'.dead.dead.cap,.sl 7 (a'.dead.dead.l.map ak.enc),I a'.dir.version,.sl 3 (a'.dir.l.map Span.enc),.sl 1 (encI a'.dir.aM),I a'.epoch,I a'.clock,I a'.fI]),(264,.box [I s2.phase,I s2.at_,.sl 1 (encI s2.lock.cells),I s2.lock.phase,I s2.lock.got,I s2.lock.tries,I s2.lock.wait,I s2.aO.phase,I s2.aO.epoch,I s2.aO.clock,I s2.aO.stamp,.sl 8 (s2.aA.map aj.enc),I s2.dead.cap,.sl 7 (s2.dead.l.map ak.enc),.sl 4 (s2.aH.map aG.enc),I s2.dir.version,.sl 3 (s2.dir.l.map Span.enc),.sl 1 (encI s2.dir.aM),.sl 8 (s2.out.aA.map aj.enc),I s2.out.dead.cap,.sl 7 (s2.out.dead.l.map ak.enc),.sl 1 (encI s2.out.order),.sl 7 (s2.out.carry.map ak.enc),.sl 4 (s2.out.dF.map eB.enc),I s2.limit,.sl 7 (s2.carry.map ak.enc)])]⟩) (fun i=>C.length - i.1) ⟨0,by omega⟩ (wk [(24,24),(88,88),(264,264)] []) ?_
   rintro ⟨i,hi⟩ B2 hB2
   simp only [aY,go_sem]
   by_cases f1:i<C.length
   ·have f2:decide ((i:Int)<(C.length:Int))=true:=by simp;omega
    have hx:=jL f1
    have hwi:=cZ (show i<=100000 by omega)
    obtain ⟨hm1,aeX,hm3⟩:=hC i f1
    have hcc:=cR _ (vN (p:=fun z=>z ∈ C) (fun x hx=>hx) f1)
    have Jj:a'.slots.length=A.slots.length:=by rw [wa.sl,hW.sl]
    have how:=abZ a' (gI C i) hcc.1 (by rw [Jj];exact hcc.2)
    unfold ai.enc at how
    simp only [f2,hx,aY,Int.toNat_natCast,go_sem]
    repeat (refine bn ?_)
    refine dV how rfl rfl ?_
    simp only [go_sem]
    refine ⟨rfl,?_⟩
    have hM1:1<=s2.phase->s2.phase<=7->(a'.owner (gI C i)==9)=true:=fun q1 q2=>by rw [hm1 q1 q2];rfl
    have hM2:s2.phase=9->(a'.owner (gI C i)==9)=false:=fun q=>beq_eq_false_iff_ne.2 (aeX q)
    generalize (a'.owner (gI C i)==9)=M at hM1 hM2 ⊢
    have hP:s2.phase=0\/s2.phase=1\/s2.phase=2\/s2.phase=3\/s2.phase=4\/s2.phase=5\/s2.phase=6\/s2.phase=7\/s2.phase=8\/s2.phase=9:=by omega
    by_cases k1:(gI C i==(a'.slots.length:Int))=true
    ·rcases hP with hP|hP|hP|hP|hP|hP|hP|hP|hP|hP
     all_goals (
      obtain ⟨r1,r2,r3,r4,r5,r6,r7,r8⟩:=QT _ _ hP
      simp only [Int.reduceLE,Int.reduceBEq,decide_true,decide_false] at r1 r2 r3 r4 r5 r6 r7 r8
      rw [hP] at hM1 hM2
      simp only [r1,r2,r3,hM1,hM2,hx,k1,aY,List.length_map,Int.toNat_natCast,go_sem]
      refine ⟨⟨by omega,by omega⟩,rfl,?_⟩
      simp only [hwi,go_sem]
      exact hB2 _ ⟨i+1,by omega⟩ (by simp only;omega) (wk [(24,24),(88,88),(264,264)] [])
     )
    ·simp only [Bool.not_eq_true] at k1
     have hne:gI C i≠(a'.slots.length:Int):=by simpa using k1
     obtain ⟨o1,o2,o3⟩:=hm3 hne
     have hcs:(gI C i).toNat<a'.slots.length:=by rw [Jj];rw [Jj] at hne;omega
     have hss:a'.aH.length=a'.slots.length:=by rw [wa.st,wa.sl]
     have hxs:=yO (l:=a'.aH) (i:=(gI C i).toNat) (by omega)
     have QV:2<=s2.phase->s2.phase<=6->((fC a'.aH (gI C i).toNat).seq.tmod 2==1)=true:=fun q1 q2=>by rw [o1 q1 q2];rfl
     have hO2:8<=s2.phase->((fC a'.aH (gI C i).toNat).seq.tmod 2==1)=false:=fun q=>beq_eq_false_iff_ne.2 (o2 q)
     have hxl:=pO (l:=a'.slots) (i:=(gI C i).toNat) hcs
     rcases hP with hP|hP|hP|hP|hP|hP|hP|hP|hP|hP
     all_goals (
      obtain ⟨r1,r2,r3,r4,r5,r6,r7,r8⟩:=QT _ _ hP
      simp only [Int.reduceLE,Int.reduceBEq,decide_true,decide_false] at r1 r2 r3 r4 r5 r6 r7 r8
      rw [hP] at hM1 hM2
      simp only [r1,r2,r3,hM1,hM2,hx,k1,aY,List.length_map,Int.toNat_natCast,go_sem]
      refine ⟨⟨by omega,by omega⟩,rfl,?_⟩
      rw [hP] at QV hO2
      simp only [hx,hxs,mT,vQ,aY,List.length_map,Int.toNat_natCast,go_sem]
      refine ⟨⟨by omega,by omega⟩,⟨by omega,by omega⟩,rfl,?_⟩
      simp only [r4,r5,r6,QV,hO2,go_sem]
      by_cases z:3<=s2.phase/\s2.phase<=5
      ·first
       |(exfalso;omega)
       |(
        obtain ⟨z1,z2,z3,z4⟩:=o3 z.1 z.2
        have hsh:nth (s2.aA.map aj.enc) i=aj.enc (bV s2.aA i):=fJ aj.enc aj.z z1
        rw [aeQ _ _ z2] at hxl
        have hsm:=QF ls' i
        have hsame:=aeN (bV s2.aA i) z3 hsm (by omega)
        have z1':decide ((s2.aA.length:Int)<=(i:Int))=false:=by simp;omega
        generalize bV s2.aA i=X at hsh hxl hsame z3 hsm
        rw [shE X] at hsh hsame
        simp only [r7,r8,z1',hsh,hx,hxl,aY,List.length_map,Int.toNat_natCast,go_sem]
        refine ⟨⟨by omega,by omega⟩,⟨by omega,by omega⟩,⟨by omega,by omega⟩,?_⟩
        refine dV hsame rfl rfl ?_
        simp only [Bool.not_true,go_sem]
        refine ⟨rfl,?_⟩
        simp only [hwi,go_sem]
        exact hB2 _ ⟨i+1,by omega⟩ (by simp only;omega) (wk [(24,24),(88,88),(264,264)] [])
        )
      ·first
       |(exfalso;omega)
       |(
        simp only [r7,r8,go_sem]
        refine ⟨rfl,?_⟩
        simp only [hwi,go_sem]
        exact hB2 _ ⟨i+1,by omega⟩ (by simp only;omega) (wk [(24,24),(88,88),(264,264)] [])
        )
      )
   ·have f2:decide ((i:Int)<(C.length:Int))=false:=by simp;omega
    simp only [f2,hw,go_sem]
    exact hB _ ⟨(j+1,a',s2,p),by omega,wa,ws,la',ls',wc.trans hce,by rw [hm2,hc2];exact hN⟩ (by simp only;omega) (wk [(24,24),(88,88),(264,264)] [])
 ·simp only [show 40 - j=0 by omega,eU] at hH
  obtain ⟨h9,hq⟩:=hH
  have d1:decide (((j+1:Nat):Int)<=40)=false:=by simp;omega
  have p9:(s.phase==9)=true:=by rw [h9];rfl
  simp only [d1,p9,go_sem]
  refine aS (PN a.aH hst) rfl rfl ?_
  simp only [hq,go_sem]
  refine aS hA rfl rfl ?_
  simp only [go_sem]
  exact Fin.aQ _ rfl rfl rfl rfl
end Go.Eng
namespace Go.Eng
open Go
theorem dW.fin {P:Program} {f:FuncId} {xs:List AV} {bs:List (List AV)} {gs es0:List Ob} {r0:AV} {Jk:List (List AV)} (hF:dW P f xs bs gs r0 Jk es0) {t:List (Nat×AV)} {res:List gY} {vs:List AV} (hv:gZ t (outs Jk es0) res=some vs) (h1:aD vs=r0)
 {r:AV} {bs':List (List AV)} {es:List Ob} (hE:Fin res r bs' es t (outs Jk es0)):dW P f xs bs gs r bs' es:=by
 obtain ⟨S,N,ys,e1,e2,e3,e4,e5⟩:=hE
 rw [hv] at e1
 cases e1
 rw [h1] at e5
 refine ⟨hF.1,fun C ρ U w vals hr hU hw=>(hF.2 C ρ U w vals hr hU hw).mono fun e w' he=> ?_⟩
 obtain ⟨v,ρ',U',rfl,g1,g2⟩:=he
 exact ⟨v,_,_,rfl,uR (S:=S) (N:=N) g1 e2 e3 e4,jC (S:=S) (N:=N) g1 g2 _ e5⟩
def Jl (a b:RunT):RunT:=fun f xs bs gs=>match a f xs bs gs with
 |some r=>some r
 |none=>b f xs bs gs
theorem aeZ {P:Program} {a b:RunT} (ha:fK P a) (hb:fK P b):fK P (Jl a b):=by
 intro f xs bs gs vs h e
 unfold Jl at e
 split at e
 ·rename_i r hr
  cases e
  exact ha _ _ _ _ _ _ hr
 ·exact hb _ _ _ _ _ _ e
def yY (L:List (Nat×Nat×Nat)):RunT:=fun f xs bs gs=>match xs,bs,gs with
 |[.sl sz ys],[],[]=>match get L f with
  |some (e,s)=>if s=sz/\ys.length<=10000 then some ([.own 4 sz 0 ys.length],[(4,.row e sz ys)]) else none
  |none=>none
 |_,_,_=>none
theorem Jm {P:Program} {L:List (Nat×Nat×Nat)} (hL:∀ p ∈ L,∀ xs:List (List AV),xs.length<=10000->dW P p.1 [.sl p.2.2 xs] [] [] (.own 4 p.2.2 0 xs.length) [] [.row p.2.1 p.2.2 xs]):fK P (yY L):=by
 intro f xs bs gs vs h e
 unfold yY at e
 split at e
 ·rename_i sz ys
  split at e
  ·rename_i e0 s hg
   split at e
   ·rename_i hc
    obtain ⟨rfl,hl⟩:=hc
    cases e
    exact ⟨[(0,.own 4 s 0 ys.length)],[.tmp 0],rfl,fun r bs' es hE=>(hL _ (get_mem hg) ys hl).fin (t:=[(0,.own 4 s 0 ys.length)]) (res:=[.tmp 0]) rfl rfl hE⟩
   ·cases e
  ·cases e
 ·cases e
noncomputable def QW (l:List Nat) (f:Nat):Bool:= @List.rec Nat (fun _=>Bool) false (fun g _ ih=>cond (Nat.beq g f) true ih) l
noncomputable def Jo (L:List Nat) (run:RunT):RunT:=fun f xs bs gs=>bif QW L f then (match bs,gs with
 |[],[]=>match run f xs [] [] with
  |some (vs,h)=>match kR 0 [] vs h with
   |some (.aN [a,b],_,_)=>some ([a,b],[])
   |some (.aN [a,b,c],_,_)=>some ([a,b,c],[])
   |some (.agg cs,_,_)=>some ([.agg cs],[])
   |_=>none
  |none=>none
 |_,_=>none) else none
theorem ae0 {P:Program} {L:List Nat} {run:RunT} (hrun:fK P run):fK P (Jo L run):=by
 intro f xs bs gs vs h e
 unfold Jo at e
 cases hm:QW L f with
 |false=>rw [hm] at e;cases e
 |true=>
  rw [hm] at e
  simp only [cond_true] at e
  split at e
  ·split at e
   ·rename_i vs1 h1 hr
    have key:∀ {r0:AV} {bs':List (List AV)} {es:List Ob},kR 0 [] vs1 h1=some (r0,bs',es)->dW P f xs [] [] r0 [] []:=by
     intro r0 bs' es hF
     obtain ⟨t,res,hv,hrun'⟩:=hrun _ _ _ _ _ _ hr
     obtain ⟨sN,hl,_⟩:=xA hv hF
     have hb0:bs'=[]:=List.length_eq_zero_iff.1 hl
     subst hb0
     have he0:=Mq hF
     subst he0
     exact hrun' _ _ _ sN
    split at e
    ·rename_i a b _ _ hF
     cases e
     exact ⟨[(0,a),(1,b)],[.tmp 0,.tmp 1],rfl,fun r bs' es hE=>(key hF).fin (t:=[(0,a),(1,b)]) (res:=[.tmp 0,.tmp 1]) rfl rfl hE⟩
    ·rename_i a b c _ _ hF
     cases e
     exact ⟨[(0,a),(1,b),(2,c)],[.tmp 0,.tmp 1,.tmp 2],rfl,fun r bs' es hE=>(key hF).fin (t:=[(0,a),(1,b),(2,c)]) (res:=[.tmp 0,.tmp 1,.tmp 2]) rfl rfl hE⟩
    ·rename_i cs _ _ hF
     cases e
     exact ⟨[(0,.agg cs)],[.tmp 0],rfl,fun r bs' es hE=>(key hF).fin (t:=[(0,.agg cs)]) (res:=[.tmp 0]) rfl rfl hE⟩
    ·cases e
   ·cases e
  ·cases e
structure vX (P:Program) where
 f:FuncId
 F:nT
 ok:aF P f F.sc F.res F.nt
def vX.mk' {P:Program} {f:FuncId} {sc:cK} {res:List gY} {nt:Nat} (h:aF P f sc res nt):vX P:=⟨f,⟨sc,res,nt⟩,h⟩
noncomputable def Jp {P:Program} (l:List (vX P)) (f:FuncId):Option nT:= @List.rec (vX P) (fun _=>Option nT) none (fun p _ ih=>cond (Nat.beq p.f f) (some p.F) ih) l
theorem QX {P:Program}:∀ (l:List (vX P)),xU P (Jp l)
 |[],f,F,h=>by cases h
 |p::l,f,F,h=>by
  have h:cond (Nat.beq p.f f) (some p.F) (Jp l f)=some F:=h
  cases hb:Nat.beq p.f f with
  |true=>
   rw [hb] at h
   cases h
   rw [<-Nat.eq_of_beq_eq_true hb]
   exact p.ok
  |false=>
   rw [hb] at h
   exact QX l f F h
def Jq:Value->Value->Bool
 | .int k a,.int k' b=>decide (k=k')&&decide (a=b)
 | .bool a,.bool b=>a==b
 | .slice none 0 0,.slice none 0 0=>true
 | .string a,.string b=>a.data.toList==b.data.toList
 |_,_=>false
theorem ae1:∀ {x y:Value},Jq x y=true->x=y:=by
 intro x y h
 unfold Jq at h
 split at h
 ·simp only [Bool.and_eq_true,decide_eq_true_eq] at h;rw [h.1,h.2]
 ·rw [eq_of_beq h]
 ·rfl
 ·rename_i a b
  obtain ⟨⟨a⟩⟩:=a
  obtain ⟨⟨b⟩⟩:=b
  rw [show a=b from eq_of_beq h]
 ·cases h
mutual
def lG:AV->AV->Bool
 | .v x,.v y=>Jq x y
 | .agg xs,.agg ys=>rM xs ys
 | .sl n xs,.sl m ys=>bif Nat.beq n m then vY xs ys else false
 |_,_=>false
def rM:List AV->List AV->Bool
 |[],[]=>true
 |x::xs,y::ys=>bif lG x y then rM xs ys else false
 |_,_=>false
def vY:List (List AV)->List (List AV)->Bool
 |[],[]=>true
 |x::xs,y::ys=>bif rM x y then vY xs ys else false
 |_,_=>false
end
mutual
theorem ae2:∀ (x y:AV),lG x y=true->x=y
 | .v x,y,h=>by
  cases y<;>simp only [lG] at h<;>first|(rw [ae1 h])|cases h
 | .agg xs,y,h=>by
  cases y<;>simp only [lG] at h<;>first|(rw [Jr _ _ h])|cases h
 | .sl n xs,y,h=>by
  cases y<;>simp only [lG] at h<;>try (cases h;done)
  rename_i m ys
  cases hb:Nat.beq n m with
  |false=>rw [hb] at h;cases h
  |true=>rw [hb] at h;rw [Nat.eq_of_beq_eq_true hb,QY _ _ h]
 | .aN _,y,h=>by cases y<;>simp only [lG] at h<;>cases h
 | .own _ _ _ _,y,h=>by cases y<;>simp only [lG] at h<;>cases h
 | .ptr _ _,y,h=>by cases y<;>simp only [lG] at h<;>cases h
 | .rp _ _ _ _,y,h=>by cases y<;>simp only [lG] at h<;>cases h
 | .bB _ _,y,h=>by cases y<;>simp only [lG] at h<;>cases h
 | .mp _,y,h=>by cases y<;>simp only [lG] at h<;>cases h
 | .fn _ _,y,h=>by cases y<;>simp only [lG] at h<;>cases h
theorem Jr:∀ (xs ys:List AV),rM xs ys=true->xs=ys
 |[],[],_=>rfl
 |x::xs,y::ys,h=>by
  simp only [rM] at h
  cases hb:lG x y with
  |false=>rw [hb] at h;cases h
  |true=>rw [hb] at h;rw [ae2 _ _ hb,Jr _ _ h]
 |[],_::_,h=>by simp [rM] at h
 |_::_,[],h=>by simp [rM] at h
theorem QY:∀ (xs ys:List (List AV)),vY xs ys=true->xs=ys
 |[],[],_=>rfl
 |x::xs,y::ys,h=>by
  simp only [vY] at h
  cases hb:rM x y with
  |false=>rw [hb] at h;cases h
  |true=>rw [hb] at h;rw [Jr _ _ hb,QY _ _ h]
 |[],_::_,h=>by simp [vY] at h
 |_::_,[],h=>by simp [vY] at h
end
section
variable {P:Program} {C:Ctx} {hk:RunT} {code:FuncId->Option nT}
end
end Go.Eng
namespace Go.Eng
open Go Go.Proofs
section
variable {P:Program} {f nt sz e bW:Nat} {zs:List Value}
theorem Js (hok:aF P f (BQ e sz bW zs) [.tmp 2] nt) (hnt:1<=nt) (xs:List (List AV)) (hl:xs.length<=10000) (hby:bW<=10000):dW P f [.sl sz xs] [] [] (.own 4 sz 0 xs.length) [] [.row e sz xs]:=by
 refine dW.aB hok (by simpa using hnt) ?_
 unfold BQ
 have mx:∀ j:Nat,j<=10000->j<=maxLen:=fun j h=>Nat.le_trans h (by decide)
 have hb:xs.length*bW<=140737488355328:=Nat.le_trans (Nat.mul_le_mul hl hby) (by decide)
 have hm:=mx xs.length hl
 cases xs with
 |nil=>
  simp only [go_sem]
  refine ⟨?_,?_⟩
  ·exact ⟨[],[4],_,rfl,rfl,by simp only [bq,outs,dM,bS,List.map_nil,List.nil_append,List.not_mem_nil,not_false_eq_true,go_sem]<;>simp,by simp only [gG,outs,dM,bS,go_sem]<;>simp,by simp [aD,rv]⟩
  ·try simp only [List.take_zero,List.drop_zero,List.nil_append,List.length_nil,go_sem]
   exact Fin.tC 32 _ rfl rfl rfl (by simp only [aD,rv,get,if_true,and_self])
 |cons x l=>
  simp only [List.length_cons] at hb hm
  simp only [List.take_zero,List.drop_zero,List.nil_append,List.length_nil,go_sem]
  exact ⟨⟨by omega,hm⟩,Fin.tC 48 _ rfl rfl rfl (by simp only [aD,rv,get,if_true,and_self])⟩
end
end Go.Eng
