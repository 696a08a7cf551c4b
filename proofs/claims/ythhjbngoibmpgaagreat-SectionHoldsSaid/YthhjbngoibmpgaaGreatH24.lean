/-
  Part of a proof: lemmas and definitions of this work.
  No condition.
-/
import Derived.Test.YthhjbngoibmpgaaGreatH08
import Derived.Test.YthhjbngoibmpgaaGreatH23
import Derived.Test.YthhjbngoibmpgaaGreatH21
import Derived.Test.YthhjbngoibmpgaaGreatH19
set_option linter.all false
set_option maxRecDepth 100000
set_option maxHeartbeats 8000000
namespace Go.Eng
open Go Go.Proofs
attribute [local go_sem] ai.enc ah.enc Task.enc Ev.enc bL.enc aC.enc dx.enc Dead.enc Dir.enc aj.enc Walk.enc bI.enc aG.enc eB.enc Setup.enc aY qN oW List.length_map List.map_nil fF
theorem aed (a:ai) (l:aC) (task:Int) (h:l.cells.length<=1000):(l.step a task).2.1.cells.length<=1000:=by
 unfold aC.step
 simp only
 repeat' split
 all_goals first|exact Nat.zero_le _|exact h
end Go.Eng
namespace Go.Eng
open Go Go.Proofs
attribute [local go_sem] List.length_map
def bJ (a:ai) (s:ah) (task n:Int):List AV:=a.enc++(s.enc++[I task,I n])
theorem aee (c:List Int) (l:Int) (hc:c.length<=1000):Fn Tryz.prog 17 [.sl 1 (encI c),I l] [] (.aN [.agg (ah.new c l).1.enc,I (ah.new c l).2]) [] []:=by
 generalize hR:ah.new c l=R
 unfold ah.new at hR
 refine Fn.aB Ms (by simp) ?_
 unfold Et SC.mk'
 simp only [go_sem]
 have eY:=adi c hc
 have jg:=adm
 have hJ:=jX aC.enc.eq_1 dx.enc.eq_1
 exact aZ
theorem aef (s:ah):Fn Tryz.prog 23 [.agg s.enc] [] (.agg s.bg.enc) [] []:=by
 refine Fn.aB Mt (by simp) ?_
 unfold Ey SC.mk' ah.enc
 simp only [go_sem]
 have hJ:=Dead.enc.eq_1
 exact aZ
theorem Je (s:ah) (h:s.lock.free.2=0):Fn Tryz.prog 128 [.agg s.enc] [] (.aN [.agg s.eD.1.enc,I s.eD.2]) [] []:=by
 generalize hR:s.eD=R
 unfold ah.eD at hR
 rw [if_neg (by simpa using h)] at hR
 refine Fn.aB MV (by simp) ?_
 unfold ES SC.mk' ah.enc
 simp only [go_sem]
 have eY:=adh s.lock
 have hJ:=jX aC.enc.eq_1 ah.enc.eq_1
 exact aZ
theorem Jf (s:ah) (h:s.lock.free.2=0) (hl:s.aA.length=s.aH.length):Fn Tryz.prog 72 [.agg s.enc] [] (.aN [.agg s.dz.1.enc,I s.dz.2]) [] []:=by
 generalize hR:s.dz=R
 unfold ah.dz at hR
 rw [<-hl] at hR
 have hf:=Je {s with at_:=0} h
 have e0:({s with at_:=0}:ah).eD=s.eD:=by unfold ah.eD ah.enter;split<;>simp_all
 rw [e0] at hf
 unfold ah.enc at hf
 simp only at hf
 refine Fn.aB ML (by simp) ?_
 unfold s72 SC.mk' ah.enc
 simp only [go_sem]
 have hJ:=ah.enc.eq_1
 exact aZ
theorem aeg (a:ai) (s:ah) (task n c:Int):Fn Tryz.prog 287 [I c,.bB [.bB (bJ a s task n) 0] 0] [] (Bo (decide ((a.slots.length:Int)<=c))) [] []:=by
 refine Fn.aB NE (by simp) ?_
 unfold FM SC.mk' bJ ai.enc ah.enc
 simp only [go_sem]
 exact aX
theorem uh (a:ai) (s:ah) (task n ph:Int):Fn Tryz.prog 205 [.ptr 0 0,I ph] [bJ a s task n] (.aN []) [bJ a (s.enter ph) task n] []:=by
 refine Fn.aB Fp (by simp) ?_
 unfold Az SC.mk' bJ ai.enc ah.enc
 simp only [go_sem]
 exact Fin.bH _ rfl rfl rfl rfl rfl (by simp [ah.enter]) rfl
theorem vW (a:ai) (s:ah) (task n:Int):bf (bJ a s task n)=true:=rfl
theorem aeh (cs:List AV) (hc:bf cs=true) (h:List (Nat×Ob)) (k:Nat):mapA (gQ h k) [.bB cs 0]=some [.bB cs 0]:=by
 have:gQ h k (.bB cs 0)=some (.bB cs 0):=by
  cases k<;>simp [gQ,tr,hc]
 simp [mapA,this]
theorem Jg (a:ai) (s:ah) (task n:Int) (hl:s.lock.cells.length<=1000):Fn Tryz.prog 204 [.bB (bJ a s task n) 0] [] (I (ah.slots a s)) [] []:=by
 have hd:=adt (e:=3) (g:=287) (by decide) s.lock.cells (by omega) (fun c=>decide ((a.slots.length:Int)<=c)) [.bB (bJ a s task n) 0] (by simp [bf,AV.pure,vW]) (aeh _ (vW ..)) (fun c _=>aeg a s task n c)
 have e0:(s.lock.cells.filter fun x=> !decide ((a.slots.length:Int)<=x)).length=(ah.slots a s).toNat:=by
  unfold ah.slots eT
  simp
  congr 1
  refine List.filter_congr fun x _=> ?_
  by_cases h:(a.slots.length:Int)<=x<;>simp [h]<;>omega
 have Cf:(bJ a s task n)[13]? =some (.sl 1 (encI s.lock.cells)):=rfl
 have hp:=vW a s task n
 generalize hC:bJ a s task n=cs at hd Cf hp
 refine Fn.aB Nh (by simp) ?_
 unfold Fj SC.mk'
 simp only [go_sem]
 simp only [Cf,go_sem]
 refine nK (vT Ay (by decide) (encI s.lock.cells) (by rw [aY];omega) (by decide)) rfl rfl (by simp) (by simp [bZ]) ?_
 simp only [bS,sh,aY,go_sem]
 have hpp:bf [AV.bB cs 0]=true:=by simp [bf,AV.pure,hp]
 refine wX hd [8] [72] (.sl 1 (encI (s.lock.cells.filter fun x=> !decide ((a.slots.length:Int)<=x)))) [[.bB cs 0]] [] (by simp [au,rv,dw,get]) (by simp only [gM,get,if_true,and_true];exact ic _ hpp) (by simp [gP,get,isRow]) rfl (by simp only [jF,and_true];exact ic _ hpp) (by simp [jG]) (by simp [rv]) ?_
 simp only [aY,go_sem]
 have:=Ce a s
 exact Fin.aQ _ rfl rfl rfl (by rw [e0];simp [aD];omega)
end Go.Eng
namespace Go.Eng
open Go Go.Proofs
theorem Jh (a:ai) (s:ah) (task n:Int) (h:List (Nat×Ob)) (k:Nat):mapA (gQ h k) (bJ a s task n)=some (bJ a s task n):=by
 cases k<;>simp [bJ,ai.enc,ah.enc,mapA,gQ,tr]
theorem Ji {h:List (Nat×Ob)} {b j:Nat} {cs:List AV} (hg:get h b=some (.box cs)) (hc:∀ k,mapA (gQ h k) cs=some cs) (hp:bf cs=true):mapA (gQ h 4) [.ptr b j]=some [.bB cs j]:=by
 simp [mapA,gQ,hg,hc,hp]
def ah.lF (a:ai) (s:ah) (task:Int):ai×ah×Int:=
 let x:=s.lock.step a task
 let s':ah:={s with lock:=x.2.1}
 if x.2.2≠0 then (x.1,s',x.2.2)
 else if x.2.1.phase==3 then (x.1,if 0<ah.slots x.1 s' then s'.enter 1 else s'.enter 2,0)
 else if x.2.1.phase==5 then (x.1,s'.enter 9,0) else (x.1,s',0)
theorem QK (a:ai) (s:ah) (task k:Int) {n:Nat} (ha:a.wf n) (hs:s.lock.wf n):Fn Tryz.prog 129 [.ptr 0 0] [bJ a s task k] (I (s.lF a task).2.2) [bJ (s.lF a task).1 (s.lF a task).2.1 task k] []:=by
 generalize hR:s.lF a task=R
 unfold ah.lF at hR
 have hl3:=hs.l3
 have hlen:=aed a s.lock task (by omega)
 have hst:=adl a s.lock task n ha hs
 simp only at hR
 generalize s.lock.step a task=x at hR hlen hst
 refine Fn.aB MW (by simp) ?_
 unfold ET SC.mk' bJ ai.enc ah.enc
 simp only [go_sem]
 repeat (refine bn ?_)
 refine dV hst rfl rfl ?_
 simp only [ai.enc,aC.enc,go_sem]
 repeat (refine bn ?_)
 by_cases h1:x.2.2≠0
 ·rw [if_pos h1] at hR
  have h1':(x.2.2 !=0)=true:=by simpa using h1
  simp only [h1',go_sem]
  exact Fin.bH _ rfl rfl rfl rfl rfl (by subst hR;rfl) (by subst hR;rfl)
 rw [if_neg h1] at hR
 have h1':(x.2.2 !=0)=false:=by simpa using h1
 have hsl:=Jg x.1 {s with lock:=x.2.1} task k hlen
 have e1:=uh x.1 {s with lock:=x.2.1} task k 1
 have e2:=uh x.1 {s with lock:=x.2.1} task k 2
 have e9:=uh x.1 {s with lock:=x.2.1} task k 9
 generalize ah.slots x.1 {s with lock:=x.2.1}=z at hR hsl
 simp only [h1',go_sem]
 by_cases h3:(x.2.1.phase==3)=true
 ·rw [if_pos h3] at hR
  simp only [h3,go_sem]
  refine yQ hsl (Ji rfl (fun k=>Jh _ _ _ _ _ k) (vW ..)) ?_
  by_cases h4:0<z
  ·rw [if_pos h4] at hR
   simp only [h3,h4,go_sem]
   refine dG (b:=0) e1 ⟨rfl,⟨rfl,rfl⟩,trivial⟩ rfl rfl rfl rfl ?_
   simp only [go_sem]
   exact Fin.bH _ rfl rfl rfl rfl rfl (by subst hR;rfl) (by subst hR;rfl)
  ·rw [if_neg h4] at hR
   simp only [h3,h4,go_sem]
   refine dG (b:=0) e2 ⟨rfl,⟨rfl,rfl⟩,trivial⟩ rfl rfl rfl rfl ?_
   simp only [go_sem]
   exact Fin.bH _ rfl rfl rfl rfl rfl (by subst hR;rfl) (by subst hR;rfl)
 rw [if_neg h3] at hR
 simp only [Bool.not_eq_true] at h3
 by_cases h5:(x.2.1.phase==5)=true
 ·rw [if_pos h5] at hR
  simp only [h3,h5,go_sem]
  refine dG (b:=0) e9 ⟨rfl,⟨rfl,rfl⟩,trivial⟩ rfl rfl rfl rfl ?_
  simp only [go_sem]
  exact Fin.bH _ rfl rfl rfl rfl rfl (by subst hR;rfl) (by subst hR;rfl)
 ·rw [if_neg h5] at hR
  simp only [Bool.not_eq_true] at h5
  simp only [h3,h5,go_sem]
  exact Fin.bH _ rfl rfl rfl rfl rfl (by subst hR;rfl) (by subst hR;rfl)
theorem aei (a:ai) (s:ah) (task k:Int):Fn Tryz.prog 132 [.ptr 0 0] [bJ a s task k] (I (s.aO.step a k).2) [bJ a (if (s.aO.step a k).1.phase==3 then ah.enter {s with aO:=(s.aO.step a k).1} 4 else {s with aO:=(s.aO.step a k).1}) task k] []:=by
 have hst:=adn a s.aO k
 generalize s.aO.step a k=x at hst ⊢
 have e4:=uh a {s with aO:=x.1} task k 4
 generalize hR:(if x.1.phase==3 then ah.enter {s with aO:=x.1} 4 else {s with aO:=x.1})=R
 refine Fn.aB M0 (by simp) ?_
 unfold EX SC.mk' bJ ai.enc ah.enc
 simp only [go_sem]
 repeat (refine bn ?_)
 refine dV hst rfl rfl ?_
 simp only [ai.enc,dx.enc,go_sem]
 repeat (refine bn ?_)
 by_cases h3:(x.1.phase==3)=true
 ·rw [if_pos h3] at hR
  simp only [h3,go_sem]
  refine dG (b:=0) e4 ⟨rfl,⟨rfl,rfl⟩,trivial⟩ rfl rfl rfl rfl ?_
  simp only [go_sem]
  exact Fin.bH _ rfl rfl rfl rfl rfl (by subst hR;rfl) (by subst hR;rfl)
 ·rw [if_neg h3] at hR
  simp only [Bool.not_eq_true] at h3
  simp only [h3,go_sem]
  exact Fin.bH _ rfl rfl rfl rfl rfl (by subst hR;rfl) (by subst hR;rfl)
def dN:Option Nat->Bool
 |some n=>n==143
 |none=>false
def gW:List av->Bool
 |[]=>false
 |o::l=>dN o.dst||gW l
def ah.pV (a:ai) (s:ah) (task:Int) (i:Nat):ai×ah×Int:=
 let cell:=gI s.lock.cells i
 if s.at_.tmod 2==0 then (a,{s with aH:=s.aH++[(a.jJ cell).1],at_:=s.at_+1},(a.jJ cell).2)
 else
  let x:=(fC s.aH i).begin
  if x.2≠0 then (a,s,x.2) else
   let y:=a.gU cell task x.1
   if y.2≠0 then (y.1,s,y.2) else
    let s':ah:={s with aH:=s.aH.set i x.1,at_:=s.at_+1}
    (y.1,if (i:Int)==ah.slots y.1 s' - 1 then s'.enter 2 else s',0)
theorem aej (a:ai) (s:ah) (task k:Int) {n:Nat} (i:Nat) (ha:a.wf n) (hs:s.wf n) (hp:s.phase=1) (hi:s.at_ / 2=(i:Int)):Fn Tryz.prog 130 [.ptr 0 0] [bJ a s task k] (I (s.pV a task i).2.2) [bJ (s.pV a task i).1 (s.pV a task i).2.1 task k] []:=by
 generalize hR:s.pV a task i=R
 unfold ah.pV at hR
 simp only at hR
 obtain ⟨_,_,h3,h4,h5⟩:=hs.p1 hp
 have hK:=rA n s.lock.cells
 have hl3:=hs.lk.l3
 have hq:s.at_.tdiv 2=s.at_ / 2:=Int.tdiv_eq_ediv_of_nonneg h3
 have hr:s.at_.tmod 2=s.at_ % 2:=Int.tmod_eq_emod_of_nonneg h3
 have hsN:ah.slots a s=(bE n s.lock.cells:Int):=by unfold ah.slots bE eT;rw [ha.sl]
 have hsl:=Jg a s task k (by omega)
 have w1:IntKind.i64.wrap (s.at_.tdiv 2)=(i:Int):=by rw [hq,hi];exact cu (by omega)
 have w2:IntKind.i64.wrap (s.at_.tmod 2)=s.at_.tmod 2:=cu (by omega)
 have w3:IntKind.i64.wrap (s.at_+1)=s.at_+1:=cu (by omega)
 have hx:=jL (show i<s.lock.cells.length by omega)
 have g1:decide ((i:Int)<0)=false:=by simp
 have g2:decide (ah.slots a s<=(i:Int))=false:=by simp;omega
 refine Fn.zW gW MX (by simp) ?_
 unfold EU SC.mk' bJ ai.enc ah.enc
 simp only [w1,g1,vQ,gW,dN,Nat.reduceBEq,Bool.or_false,Bool.false_or,Bool.or_true,Bool.true_or,go_sem]
 repeat (refine bn ?_)
 refine yQ hsl (Ji rfl (fun k=>Jh _ _ _ _ _ k) (vW ..)) ?_
 simp only [w1,w2,g1,g2,hx,aY,vQ,Int.toNat_natCast,gW,dN,Nat.reduceBEq,Bool.or_false,Bool.false_or,Bool.or_true,Bool.true_or,go_sem]
 repeat (refine bn ?_)
 by_cases c1:(s.at_.tmod 2==0)=true
 ·rw [if_pos c1] at hR
  simp only [c1,gW,dN,Nat.reduceBEq,Bool.or_false,Bool.false_or,Bool.or_true,Bool.true_or,go_sem]
  refine aS (ac7 a (gI s.lock.cells i) (Cc ha)) rfl rfl ?_
  generalize a.jJ (gI s.lock.cells i)=x at hR
  simp only [mT,gW,dN,Nat.reduceBEq,Bool.or_false,Bool.false_or,Bool.or_true,Bool.true_or,go_sem]
  repeat (refine bn ?_)
  refine dV (clip Nk (by decide) (s.aH.map aG.enc)) rfl rfl ?_
  simp only [w3,mT,gW,dN,Nat.reduceBEq,Bool.or_false,Bool.false_or,Bool.or_true,Bool.true_or,go_sem]
  repeat (refine bn ?_)
  have hm1:s.aH.length+1<=maxLen:=Nat.le_trans (show _<=10000 by omega) (by decide)
  refine ⟨⟨by omega,hm1⟩,rfl,?_⟩
  refine Fin.nH _ rfl rfl rfl ?_ ?_
  ·subst hR
   simp only [bJ,ai.enc,ah.enc,au,rv,get,mT,gW,dN,Nat.reduceBEq,Bool.or_false,Bool.false_or,Bool.or_true,Bool.true_or,go_sem]
   simp [aG.enc]
  ·subst hR
   rfl
 rw [if_neg c1] at hR
 simp only [Bool.not_eq_true] at c1
 have hc1:¬ s.at_ % 2=0:=by rw [<-hr];simpa using c1
 have hsl1:i<s.aH.length:=by omega
 have hn:=yO hsl1
 have g3:decide ((s.aH.length:Int)<=(i:Int))=false:=by simp;omega
 simp only [c1,hn,g3,mT,List.length_map,Int.toNat_natCast,gW,dN,Nat.reduceBEq,Bool.or_false,Bool.false_or,Bool.or_true,Bool.true_or,go_sem]
 repeat (refine bn ?_)
 refine aS (ac2 (fC s.aH i)) rfl rfl ?_
 generalize (fC s.aH i).begin=x at hR
 simp only [mT,gW,dN,Nat.reduceBEq,Bool.or_false,Bool.false_or,Bool.or_true,Bool.true_or,go_sem]
 by_cases b1:x.2≠0
 ·rw [if_pos b1] at hR
  have b1':(x.2 !=0)=true:=by simpa using b1
  simp only [b1',gW,dN,Nat.reduceBEq,Bool.or_false,Bool.false_or,Bool.or_true,Bool.true_or,go_sem]
  exact Fin.bH _ rfl rfl rfl rfl rfl (by subst hR;rfl) (by subst hR;rfl)
 rw [if_neg b1] at hR
 have b1':(x.2 !=0)=false:=by simpa using b1
 simp only [b1',gW,dN,Nat.reduceBEq,Bool.or_false,Bool.false_or,Bool.or_true,Bool.true_or,go_sem]
 repeat (refine bn ?_)
 refine dV (IJ a (gI s.lock.cells i) task x.1 (Cc ha) (Cb ha)) rfl rfl ?_
 generalize a.gU (gI s.lock.cells i) task x.1=y at hR
 simp only [ai.enc,mT,gW,dN,Nat.reduceBEq,Bool.or_false,Bool.false_or,Bool.or_true,Bool.true_or,go_sem]
 repeat (refine bn ?_)
 by_cases b2:y.2≠0
 ·rw [if_pos b2] at hR
  have b2':(y.2 !=0)=true:=by simpa using b2
  simp only [b2',gW,dN,Nat.reduceBEq,Bool.or_false,Bool.false_or,Bool.or_true,Bool.true_or,go_sem]
  exact Fin.bH _ rfl rfl rfl rfl rfl (by subst hR;rfl) (by subst hR;rfl)
 rw [if_neg b2] at hR
 have b2':(y.2 !=0)=false:=by simpa using b2
 simp only [b2',gW,dN,Nat.reduceBEq,Bool.or_false,Bool.false_or,Bool.or_true,Bool.true_or,go_sem]
 refine nK (vT AB (by decide) (s.aH.map aG.enc) (by simp;omega) (by decide)) rfl rfl (by simp) (by simp [bZ]) ?_
 have hst:(s.aH.map aG.enc).set i [I x.1.seq,I x.1.epoch,I x.1.ready,I x.1.dH]=(s.aH.set i x.1).map aG.enc:=by rw [List.map_set];rfl
 have htk:List.take s.aH.length ((s.aH.set i x.1).map aG.enc)=(s.aH.set i x.1).map aG.enc:=eZ (by simp)
 simp only [bS,sh,hn,mT,List.length_map,Int.toNat_natCast,gW,dN,Nat.reduceBEq,Bool.or_false,Bool.false_or,Bool.or_true,Bool.true_or,go_sem]
 repeat (refine bn ?_)
 simp only [hst,w3,mT,List.length_map,Int.toNat_natCast,gW,dN,Nat.reduceBEq,Bool.or_false,Bool.false_or,Bool.or_true,Bool.true_or,go_sem]
 repeat (refine bn ?_)
 (refine DU (by simp only [go_sem];rfl) (by rfl) (by simp only [go_sem]<;>first|trivial|omega|(simp<;>omega)) ?_;simp only [go_sem])
 simp only [htk,List.length_map,List.length_set,List.drop_zero,gW,dN,Nat.reduceBEq,Bool.or_false,Bool.false_or,Bool.or_true,Bool.true_or,go_sem]
 have hsl2:=Jg y.1 {s with aH:=s.aH.set i x.1,at_:=s.at_+1} task k (show s.lock.cells.length<=1000 by omega)
 have e2:=uh y.1 {s with aH:=s.aH.set i x.1,at_:=s.at_+1} task k 2
 have hz:=Ce y.1 {s with aH:=s.aH.set i x.1,at_:=s.at_+1}
 simp only at hz
 generalize ah.slots y.1 {s with aH:=s.aH.set i x.1,at_:=s.at_+1}=z at hR hsl2 hz
 have hw4:IntKind.i64.wrap (z - 1)=z - 1:=cu (by omega)
 refine yQ hsl2 (Ji rfl (fun k=>Jh _ _ _ _ _ k) (vW ..)) ?_
 by_cases b3:((i:Int)==z - 1)=true
 ·rw [if_pos b3] at hR
  simp only [hw4,b3,gW,dN,Nat.reduceBEq,Bool.or_false,Bool.false_or,Bool.or_true,Bool.true_or,go_sem]
  refine dG (b:=0) e2 ⟨rfl,⟨rfl,rfl⟩,trivial⟩ rfl rfl rfl rfl ?_
  simp only [gW,dN,Nat.reduceBEq,Bool.or_false,Bool.false_or,Bool.or_true,Bool.true_or,go_sem]
  exact Fin.bH _ rfl rfl rfl rfl rfl (by subst hR;rfl) (by subst hR;rfl)
 ·rw [if_neg b3] at hR
  simp only [Bool.not_eq_true] at b3
  simp only [hw4,b3,gW,dN,Nat.reduceBEq,Bool.or_false,Bool.false_or,Bool.or_true,Bool.true_or,go_sem]
  exact Fin.bH _ rfl rfl rfl rfl rfl (by subst hR;rfl) (by subst hR;rfl)
def ah.pW (a:ai) (s:ah):ai×ah×Int:=
 let cell:=gI s.lock.cells s.at_.toNat
 if cell==a.slots.length then (a,if s.at_+1==s.lock.cells.length then ah.enter {s with dead:=a.dead.dead,at_:=s.at_+1} 3 else {s with dead:=a.dead.dead,at_:=s.at_+1},0)
 else if (a.fD cell).2≠0 then (a,s,(a.fD cell).2)
 else (a,if s.at_+1==s.lock.cells.length then ah.enter {s with aA:=s.aA++[(a.fD cell).1],at_:=s.at_+1} 3 else {s with aA:=s.aA++[(a.fD cell).1],at_:=s.at_+1},0)
def jv (d:Nat):Option Nat->Bool
 |some n=>n==d
 |none=>false
def jl (d:Nat):List av->Bool
 |[]=>false
 |o::l=>jv d o.dst||jl d l
theorem aek (a:ai) (s:ah) (task k:Int) {n:Nat} (ha:a.wf n) (hs:s.wf n) (hp:s.phase=2):Fn Tryz.prog 131 [.ptr 0 0] [bJ a s task k] (I (s.pW a).2.2) [bJ (s.pW a).1 (s.pW a).2.1 task k] []:=by
 generalize hR:s.pW a=R
 unfold ah.pW at hR
 simp only at hR
 obtain ⟨_,_,h3,h4,h5⟩:=hs.p2 hp
 have hl3:=hs.lk.l3
 have hx:=jL (show s.at_.toNat<s.lock.cells.length by omega)
 have w3:IntKind.i64.wrap (s.at_+1)=s.at_+1:=cu (by omega)
 have hm:s.aA.length<=maxLen:=Nat.le_trans (show _<=10000 by omega) (by decide)
 have hm1:s.aA.length+1<=maxLen:=Nat.le_trans (show _<=10000 by omega) (by decide)
 generalize hc:gI s.lock.cells s.at_.toNat=c at hR hx
 have g1:decide (s.at_<0)=false:=by simp;omega
 have g2:decide ((s.lock.cells.length:Int)<=s.at_)=false:=by simp;omega
 refine Fn.zW (jl 96) MZ (by simp) ?_
 unfold EW SC.mk' bJ ai.enc ah.enc
 simp only [g1,g2,hx,aY,jl,jv,Nat.reduceBEq,Bool.or_false,Bool.false_or,Bool.or_true,Bool.true_or,go_sem]
 repeat (refine bn ?_)
 by_cases c1:(c==(a.slots.length:Int))=true
 ·simp only [if_pos c1] at hR
  have e3:=uh a {s with dead:=a.dead.dead,at_:=s.at_+1} task k 3
  simp only [c1,List.length_map,jl,jv,Nat.reduceBEq,Bool.or_false,Bool.false_or,Bool.or_true,Bool.true_or,go_sem]
  refine aS (ac6 a) rfl rfl ?_
  simp only [w3,Dead.enc,aY,jl,jv,Nat.reduceBEq,Bool.or_false,Bool.false_or,Bool.or_true,Bool.true_or,go_sem]
  repeat (refine bn ?_)
  by_cases c2:(s.at_+1==(s.lock.cells.length:Int))=true
  ·rw [if_pos c2] at hR
   simp only [c2,jl,jv,Nat.reduceBEq,Bool.or_false,Bool.false_or,Bool.or_true,Bool.true_or,go_sem]
   refine DL ?_
   simp only [jl,jv,Nat.reduceBEq,Bool.or_false,Bool.false_or,Bool.or_true,Bool.true_or,go_sem]
   refine dG (b:=0) e3 ⟨rfl,⟨rfl,rfl⟩,trivial⟩ rfl rfl rfl rfl ?_
   simp only [jl,jv,Nat.reduceBEq,Bool.or_false,Bool.false_or,Bool.or_true,Bool.true_or,go_sem]
   exact Fin.bH _ rfl rfl rfl rfl rfl (by subst hR;rfl) (by subst hR;rfl)
  ·rw [if_neg c2] at hR
   simp only [Bool.not_eq_true] at c2
   simp only [c2,jl,jv,Nat.reduceBEq,Bool.or_false,Bool.false_or,Bool.or_true,Bool.true_or,go_sem]
   exact Fin.bH _ rfl rfl rfl rfl rfl (by subst hR;rfl) (by subst hR;rfl)
 rw [if_neg c1] at hR
 simp only [Bool.not_eq_true] at c1
 simp only [c1,List.length_map,jl,jv,Nat.reduceBEq,Bool.or_false,Bool.false_or,Bool.or_true,Bool.true_or,go_sem]
 refine aS (ac5 a c) rfl rfl ?_
 generalize a.fD c=x at hR
 simp only [aj.enc,jl,jv,Nat.reduceBEq,Bool.or_false,Bool.false_or,Bool.or_true,Bool.true_or,go_sem]
 repeat (refine bn ?_)
 by_cases b1:x.2≠0
 ·rw [if_pos b1] at hR
  have b1':(x.2 !=0)=true:=by simpa using b1
  simp only [b1',jl,jv,Nat.reduceBEq,Bool.or_false,Bool.false_or,Bool.or_true,Bool.true_or,go_sem]
  exact Fin.bH _ rfl rfl rfl rfl rfl (by subst hR;rfl) (by subst hR;rfl)
 rw [if_neg b1] at hR
 have b1':(x.2 !=0)=false:=by simpa using b1
 simp only [b1',jl,jv,Nat.reduceBEq,Bool.or_false,Bool.false_or,Bool.or_true,Bool.true_or,go_sem]
 refine dV (clip Ns (by decide) (s.aA.map aj.enc)) rfl rfl ?_
 simp only [w3,jl,jv,Nat.reduceBEq,Bool.or_false,Bool.false_or,Bool.or_true,Bool.true_or,go_sem]
 repeat (refine bn ?_)
 have hap:List.map aj.enc s.aA++[[Bo x.1.live,I x.1.low,I x.1.high,.sl 7 (x.1.ready.cells.map ak.enc),I x.1.ready.head,I x.1.ready.size,.sl 8 (x.1.aL.l.map Lease.enc),.sl 2 (x.1.aL.heap.map Due.enc)]]=(s.aA++[x.1]).map aj.enc:=by simp [aj.enc]
 by_cases c2:(s.at_+1==(s.lock.cells.length:Int))=true
 ·rw [if_pos c2] at hR
  have e3:=uh a {s with aA:=s.aA++[x.1],at_:=s.at_+1} task k 3
  simp only [c2,jl,jv,Nat.reduceBEq,Bool.or_false,Bool.false_or,Bool.or_true,Bool.true_or,go_sem]
  (refine DU (by simp only [go_sem];rfl) (by rfl) (by simp only [go_sem]<;>first|trivial|omega|(simp<;>omega)) ?_;simp only [go_sem])
  simp only [hap]
  refine dG (b:=0) e3 ⟨rfl,⟨rfl,rfl⟩,trivial⟩ rfl rfl rfl rfl ?_
  simp only [jl,jv,Nat.reduceBEq,Bool.or_false,Bool.false_or,Bool.or_true,Bool.true_or,go_sem]
  exact Fin.bH _ rfl rfl rfl rfl rfl (by subst hR;rfl) (by subst hR;rfl)
 ·rw [if_neg c2] at hR
  simp only [Bool.not_eq_true] at c2
  simp only [c2,jl,jv,Nat.reduceBEq,Bool.or_false,Bool.false_or,Bool.or_true,Bool.true_or,go_sem]
  refine Fin.nH _ rfl rfl rfl ?_ ?_
  ·subst hR
   simp only [bJ,ai.enc,ah.enc,au,rv,get,go_sem]
   simp [aj.enc]
  ·subst hR
   rfl
def ah.Cg (y:ai×Int) (s:ah):ai×ah×Int:=
 if y.2≠0 then (y.1,s,y.2)
 else if s.at_+1<s.out.order.length then (y.1,{s with at_:=s.at_+1,carry:=if s.at_+1==1 then s.out.carry else s.carry},0)
 else if 0<s.out.dF.length then (y.1,ah.enter {s with at_:=s.at_+1,carry:=[]} 6,0)
 else (y.1,(ah.dz {s with at_:=s.at_+1,carry:=[]}).1,(ah.dz {s with at_:=s.at_+1,carry:=[]}).2)
def ah.pX (a:ai) (s:ah) (task:Int):ai×ah×Int:=
 let k:=gI s.out.order s.at_.toNat
 let cell:=gI s.lock.cells k.toNat
 ah.Cg (if cell==a.slots.length then a.iC task s.out.dead else a.iB cell task (bV s.out.aA k.toNat)) s
def runN (a:ai) (s:ah) (task n:Int):List AV:=a.enc++(s.enc.take 25++[Nl,I task,I n])
theorem QL (a:ai) (s:ah) (task n ph:Int):Fn Tryz.prog 205 [.ptr 0 0,I ph] [runN a s task n] (.aN []) [runN a (s.enter ph) task n] []:=by
 refine Fn.aB Fp (by simp) ?_
 unfold Az SC.mk' runN ai.enc ah.enc
 simp only [List.take_succ_cons,List.take_zero,List.cons_append,List.nil_append,go_sem]
 exact Fin.bH _ rfl rfl rfl rfl rfl (by simp [ah.enter]) rfl
theorem ael (a:ai) (s:ah) (task k0:Int) {n:Nat} (ha:a.wf n) (hs:s.wf n) (hl:s.aT) (hp:s.phase=5):Fn Tryz.prog 133 [.ptr 0 0] [bJ a s task k0] (I (s.pX a task).2.2) [bJ (s.pX a task).1 (s.pX a task).2.1 task k0] []:=by
 generalize hR:s.pX a task=R
 unfold ah.pX at hR
 simp only at hR
 have h5:=hs.p5 (by omega)
 have hq5:=hs.q5 hp
 have hl3:=hs.lk.l3
 have hoo:=hl.o.oo
 have hod:=hl.o.od
 have hq3:=hs.q3 (by omega)
 have hfr:s.lock.free.2=0:=by unfold aC.free;rw [hs.p3 (by omega) (by omega)];rfl
 have hx:=jL (show s.at_.toNat<s.out.order.length by omega)
 have hk:=vN h5.2 (i:=s.at_.toNat) (by omega)
 have w3:IntKind.i64.wrap (s.at_+1)=s.at_+1:=cu (by omega)
 have g1:decide (s.at_<0)=false:=by simp;omega
 have g2:decide ((s.out.order.length:Int)<=s.at_)=false:=by simp;omega
 generalize hK:gI s.out.order s.at_.toNat=k at hR hx hk
 have g3:decide (k<0)=false:=by simp;omega
 have g4:decide ((s.lock.cells.length:Int)<=k)=false:=by simp;omega
 have hy:=jL (show k.toNat<s.lock.cells.length by omega)
 have hcn:=vN hs.lk.pI (i:=k.toNat) (by omega)
 have hlt:=Hy (n:=n) s.lock.cells k.toNat hs.lk.oh (by omega)
 generalize hC:gI s.lock.cells k.toNat=c at hR hy hcn hlt
 refine Fn.aB M4 (by simp) ?_
 unfold EY SC.mk' bJ ai.enc ah.enc
 simp only [g1,g2,g3,g4,hx,hy,aY,Int.toNat_natCast,go_sem]
 repeat (refine bn ?_)
 by_cases c1:(c==(a.slots.length:Int))=true
 ·simp only [if_pos c1] at hR
  simp only [c1,List.length_map,go_sem]
  repeat (refine bn ?_)
  refine dV (ac9 a task s.out.dead (by omega)) rfl rfl ?_
  generalize a.iC task s.out.dead=y at hR
  simp only [ai.enc,go_sem]
  repeat (refine bn ?_)
  (
   unfold ah.Cg at hR
   by_cases h1:y.2≠0
   ·rw [if_pos h1] at hR
    have h1':(y.2 !=0)=true:=by simpa using h1
    simp only [h1',go_sem]
    exact Fin.bH _ rfl rfl rfl rfl rfl (by subst hR;rfl) (by subst hR;rfl)
   rw [if_neg h1] at hR
   have h1':(y.2 !=0)=false:=by simpa using h1
   simp only [h1',w3,aY,go_sem]
   repeat (refine bn ?_)
   by_cases h2:s.at_+1<s.out.order.length
   ·rw [if_pos h2] at hR
    simp only [h2,go_sem]
    by_cases h3:(s.at_+1==1)=true
    ·rw [if_pos h3] at hR
     simp only [h3,go_sem]
     exact Fin.bH _ rfl rfl rfl rfl rfl (by subst hR;rfl) (by subst hR;rfl)
    ·rw [if_neg h3] at hR
     simp only [Bool.not_eq_true] at h3
     simp only [h3,go_sem]
     exact Fin.bH _ rfl rfl rfl rfl rfl (by subst hR;rfl) (by subst hR;rfl)
   rw [if_neg h2] at hR
   simp only [h2,List.length_map,go_sem]
   by_cases h4:0<s.out.dF.length
   ·rw [if_pos h4] at hR
    have h4':decide ((0:Int)<(s.out.dF.length:Int))=true:=decide_eq_true (by omega)
    have e6:=QL y.1 {s with at_:=s.at_+1,carry:=[]} task k0 6
    simp only [h4',go_sem]
    refine dG (b:=0) e6 ⟨rfl,⟨rfl,rfl⟩,trivial⟩ rfl rfl rfl rfl ?_
    simp only [runN,ai.enc,ah.enc,ah.enter,List.take_succ_cons,List.take_zero,List.cons_append,List.nil_append,go_sem]
    refine Fin.nH _ rfl rfl rfl ?_ ?_
    ·subst hR
     simp only [bJ,ai.enc,ah.enc,ah.enter,au,rv,get,go_sem]
    ·subst hR
     rfl
   rw [if_neg h4] at hR
   have h4':decide ((0:Int)<(s.out.dF.length:Int))=false:=decide_eq_false (by omega)
   have hlv:=Jf {s with at_:=s.at_+1,carry:=[]} hfr (show s.aA.length=s.aH.length from hq3.2.trans hq3.1.symm)
   generalize ah.dz {s with at_:=s.at_+1,carry:=[]}=u at hR hlv
   simp only [h4',go_sem]
   refine zV hlv (by simp [au,rv,ah.enc]) rfl rfl rfl ?_
   simp only [ah.enc,go_sem]
   (exact Fin.bH _ rfl rfl rfl rfl rfl (by subst hR;rfl) (by subst hR;rfl)))
 simp only [if_neg c1] at hR
 have hcl:c<n:=by
  have:c≠(a.slots.length:Int):=by simpa using c1
  have:=ha.sl
  omega
 have hlt:=hlt hcl
 have hz:=Jd (show k.toNat<s.out.aA.length by omega)
 have hsm:=QG hl.o k.toNat
 have g5:decide (k<(s.out.aA.length:Int))=true:=by simp;omega
 simp only [Bool.not_eq_true] at c1
 generalize bV s.out.aA k.toNat=sh at hR hz hsm
 simp only [c1,g5,hz,aj.enc,List.length_map,go_sem]
 repeat (refine bn ?_)
 refine dV (ac8 a c task sh hsm (Cb ha)) rfl rfl ?_
 generalize a.iB c task sh=y at hR
 simp only [ai.enc,go_sem]
 repeat (refine bn ?_)
 (
  unfold ah.Cg at hR
  by_cases h1:y.2≠0
  ·rw [if_pos h1] at hR
   have h1':(y.2 !=0)=true:=by simpa using h1
   simp only [h1',go_sem]
   exact Fin.bH _ rfl rfl rfl rfl rfl (by subst hR;rfl) (by subst hR;rfl)
  rw [if_neg h1] at hR
  have h1':(y.2 !=0)=false:=by simpa using h1
  simp only [h1',w3,aY,go_sem]
  repeat (refine bn ?_)
  by_cases h2:s.at_+1<s.out.order.length
  ·rw [if_pos h2] at hR
   simp only [h2,go_sem]
   by_cases h3:(s.at_+1==1)=true
   ·rw [if_pos h3] at hR
    simp only [h3,go_sem]
    exact Fin.bH _ rfl rfl rfl rfl rfl (by subst hR;rfl) (by subst hR;rfl)
   ·rw [if_neg h3] at hR
    simp only [Bool.not_eq_true] at h3
    simp only [h3,go_sem]
    exact Fin.bH _ rfl rfl rfl rfl rfl (by subst hR;rfl) (by subst hR;rfl)
  rw [if_neg h2] at hR
  simp only [h2,List.length_map,go_sem]
  by_cases h4:0<s.out.dF.length
  ·rw [if_pos h4] at hR
   have h4':decide ((0:Int)<(s.out.dF.length:Int))=true:=decide_eq_true (by omega)
   have e6:=QL y.1 {s with at_:=s.at_+1,carry:=[]} task k0 6
   simp only [h4',go_sem]
   refine dG (b:=0) e6 ⟨rfl,⟨rfl,rfl⟩,trivial⟩ rfl rfl rfl rfl ?_
   simp only [runN,ai.enc,ah.enc,ah.enter,List.take_succ_cons,List.take_zero,List.cons_append,List.nil_append,go_sem]
   refine Fin.nH _ rfl rfl rfl ?_ ?_
   ·subst hR
    simp only [bJ,ai.enc,ah.enc,ah.enter,au,rv,get,go_sem]
   ·subst hR
    rfl
  rw [if_neg h4] at hR
  have h4':decide ((0:Int)<(s.out.dF.length:Int))=false:=decide_eq_false (by omega)
  have hlv:=Jf {s with at_:=s.at_+1,carry:=[]} hfr (show s.aA.length=s.aH.length from hq3.2.trans hq3.1.symm)
  generalize ah.dz {s with at_:=s.at_+1,carry:=[]}=u at hR hlv
  simp only [h4',go_sem]
  refine zV hlv (by simp [au,rv,ah.enc]) rfl rfl rfl ?_
  simp only [ah.enc,go_sem]
  (exact Fin.bH _ rfl rfl rfl rfl rfl (by subst hR;rfl) (by subst hR;rfl)))
theorem QM (l:List Int) (x:Int) (hl:l.length<=10000):Fn Tryz.prog 71 [.sl 1 (encI l),I x] [] (Bo (l.any fun y=>y==x)) [] []:=by
 have e:(l.any fun y=>y==x)=l.any fun y=>x==y:=by
  congr 1;funext y;exact BEq.comm
 rw [e,<-vS _ l 0]
 exact Iq (by decide) MK (by decide) rfl rfl (ab5 MU (by decide) l x hl)
def ah.pY (a:ai) (s:ah) (task:Int):ai×ah×Int:=
 let i:=s.at_.toNat
 let now:=if s.tJ s.at_ then bV s.out.aA i else bV s.aA i
 let x:=(fC s.aH i).done now s.aO.epoch s.limit
 if x.2≠0 then (a,s,x.2) else
  let y:=a.gU (gI s.lock.cells i) task x.1
  if y.2≠0 then (y.1,s,y.2) else
   let s':ah:={s with at_:=s.at_+1}
   if s'.at_==s.aA.length then (y.1,s'.eD.1,s'.eD.2) else (y.1,s',0)
theorem aen (a:ai) (s:ah) (task k0:Int) {n:Nat} (ha:a.wf n) (hs:s.wf n) (hl:s.aT) (hp:s.phase=7):Fn Tryz.prog 135 [.ptr 0 0] [bJ a s task k0] (I (s.pY a task).2.2) [bJ (s.pY a task).1 (s.pY a task).2.1 task k0] []:=by
 generalize hR:s.pY a task=R
 unfold ah.pY at hR
 simp only at hR
 have h5:=hs.p5 (by omega)
 have h7:=hs.p7 hp
 have hq3:=hs.q3 (by omega)
 have hK:=rA n s.lock.cells
 have hl3:=hs.lk.l3
 have hoo:=hl.o.oo
 have hfr:s.lock.free.2=0:=by unfold aC.free;rw [hs.p3 (by omega) (by omega)];rfl
 have hx:=Jd (show s.at_.toNat<s.aA.length by omega)
 have hy:=Jd (show s.at_.toNat<s.out.aA.length by omega)
 have hz:=yO (show s.at_.toNat<s.aH.length by omega)
 have hc:=jL (show s.at_.toNat<s.lock.cells.length by omega)
 have w3:IntKind.i64.wrap (s.at_+1)=s.at_+1:=cu (by omega)
 have QN:=QF hl s.at_.toNat
 have QO:=QG hl.o s.at_.toNat
 have g1:decide (s.at_<0)=false:=decide_eq_false (by omega)
 have g2:decide ((s.aA.length:Int)<=s.at_)=false:=decide_eq_false (by omega)
 have g3:decide ((s.aH.length:Int)<=s.at_)=false:=decide_eq_false (by omega)
 have g4:decide ((s.lock.cells.length:Int)<=s.at_)=false:=decide_eq_false (by omega)
 have g5:decide (s.at_<(s.out.aA.length:Int))=true:=decide_eq_true (by omega)
 have hh:=QM s.out.order s.at_ (by omega)
 rw [show (s.out.order.any fun y=>y==s.at_)=s.tJ s.at_ from rfl] at hh
 generalize bV s.aA s.at_.toNat=sh at hR hx QN
 generalize bV s.out.aA s.at_.toNat=so at hR hy QO
 generalize fC s.aH s.at_.toNat=st at hR hz
 generalize gI s.lock.cells s.at_.toNat=c at hR hc
 refine Fn.aB M5 (by simp) ?_
 unfold EZ SC.mk' bJ ai.enc ah.enc
 simp only [g1,g2,g3,g4,hx,aj.enc,aY,List.length_map,go_sem]
 repeat (refine bn ?_)
 refine aS hh rfl rfl ?_
 by_cases c1:s.tJ s.at_=true
 ·simp only [if_pos c1] at hR
  simp only [c1,g5,hy,hz,mT,aj.enc,List.length_map,go_sem]
  repeat (refine bn ?_)
  refine dV (Qn st so s.aO.epoch s.limit QO) rfl rfl ?_
  generalize st.done so s.aO.epoch s.limit=x at hR
  simp only [mT,go_sem]
  repeat (refine bn ?_)
  (
   by_cases b1:x.2≠0
   ·rw [if_pos b1] at hR
    have b1':(x.2 !=0)=true:=by simpa using b1
    simp only [b1',go_sem]
    exact Fin.bH _ rfl rfl rfl rfl rfl (by subst hR;rfl) (by subst hR;rfl)
   rw [if_neg b1] at hR
   have b1':(x.2 !=0)=false:=by simpa using b1
   simp only [b1',hc,mT,aY,go_sem]
   repeat (refine bn ?_)
   refine dV (IJ a c task x.1 (Cc ha) (Cb ha)) rfl rfl ?_
   generalize a.gU c task x.1=y at hR
   simp only [ai.enc,mT,go_sem]
   repeat (refine bn ?_)
   by_cases b2:y.2≠0
   ·rw [if_pos b2] at hR
    have b2':(y.2 !=0)=true:=by simpa using b2
    simp only [b2',go_sem]
    exact Fin.bH _ rfl rfl rfl rfl rfl (by subst hR;rfl) (by subst hR;rfl)
   rw [if_neg b2] at hR
   have b2':(y.2 !=0)=false:=by simpa using b2
   simp only [b2',w3,List.length_map,go_sem]
   repeat (refine bn ?_)
   by_cases b3:(s.at_+1==(s.aA.length:Int))=true
   ·rw [if_pos b3] at hR
    have hf:=Je {s with at_:=s.at_+1} hfr
    generalize ah.eD {s with at_:=s.at_+1}=u at hR hf
    unfold ah.enc at hf
    simp only at hf
    simp only [b3,go_sem]
    refine aS hf rfl rfl ?_
    simp only [go_sem]
    exact Fin.bH _ rfl rfl rfl rfl rfl (by subst hR;rfl) (by subst hR;rfl)
   ·rw [if_neg b3] at hR
    simp only [Bool.not_eq_true] at b3
    simp only [b3,go_sem]
    have y20:y.2=0:=by simpa using b2
    exact Fin.bH _ rfl rfl rfl rfl rfl (by subst hR;rfl) (by subst hR;simp only [aD,y20]))
 ·simp only [if_neg c1] at hR
  simp only [Bool.not_eq_true] at c1
  simp only [c1,hz,mT,aj.enc,List.length_map,go_sem]
  repeat (refine bn ?_)
  refine dV (Qn st sh s.aO.epoch s.limit QN) rfl rfl ?_
  generalize st.done sh s.aO.epoch s.limit=x at hR
  simp only [mT,go_sem]
  repeat (refine bn ?_)
  (
   by_cases b1:x.2≠0
   ·rw [if_pos b1] at hR
    have b1':(x.2 !=0)=true:=by simpa using b1
    simp only [b1',go_sem]
    exact Fin.bH _ rfl rfl rfl rfl rfl (by subst hR;rfl) (by subst hR;rfl)
   rw [if_neg b1] at hR
   have b1':(x.2 !=0)=false:=by simpa using b1
   simp only [b1',hc,mT,aY,go_sem]
   repeat (refine bn ?_)
   refine dV (IJ a c task x.1 (Cc ha) (Cb ha)) rfl rfl ?_
   generalize a.gU c task x.1=y at hR
   simp only [ai.enc,mT,go_sem]
   repeat (refine bn ?_)
   by_cases b2:y.2≠0
   ·rw [if_pos b2] at hR
    have b2':(y.2 !=0)=true:=by simpa using b2
    simp only [b2',go_sem]
    exact Fin.bH _ rfl rfl rfl rfl rfl (by subst hR;rfl) (by subst hR;rfl)
   rw [if_neg b2] at hR
   have b2':(y.2 !=0)=false:=by simpa using b2
   simp only [b2',w3,List.length_map,go_sem]
   repeat (refine bn ?_)
   by_cases b3:(s.at_+1==(s.aA.length:Int))=true
   ·rw [if_pos b3] at hR
    have hf:=Je {s with at_:=s.at_+1} hfr
    generalize ah.eD {s with at_:=s.at_+1}=u at hR hf
    unfold ah.enc at hf
    simp only at hf
    simp only [b3,go_sem]
    refine aS hf rfl rfl ?_
    simp only [go_sem]
    exact Fin.bH _ rfl rfl rfl rfl rfl (by subst hR;rfl) (by subst hR;rfl)
   ·rw [if_neg b3] at hR
    simp only [Bool.not_eq_true] at b3
    simp only [b3,go_sem]
    have y20:y.2=0:=by simpa using b2
    exact Fin.bH _ rfl rfl rfl rfl rfl (by subst hR;rfl) (by subst hR;simp only [aD,y20]))
end Go.Eng
