/-
  Part of a proof: lemmas and definitions of this work.
  No condition.
-/
import Derived.Test.YthhjbngoibmpgaaGreatA08
import Derived.Test.YthhjbngoibmpgaaGreatA21
set_option linter.all false
set_option maxRecDepth 100000
set_option maxHeartbeats 8000000
namespace Go.Eng
open Go Go.Proofs
attribute [local go_sem] List.length_map
@[simp] theorem iN:encI []=[]:=rfl
theorem iO (n a b:Int):Fn Tryz.prog 141 [I n,I a,I b] [] (Bo (dP n a b)) [] []:=by
 refine Fn.aO Mf (by simp) ?_
 unfold Rc SC.mk'
 simp only [go_sem]
 have hJ:=trivial
 repeat' first
  |(first|refine sC ?_|refine sD ?_);simp only [hJ,go_sem]
  |(first|refine bC (fun hq=> ?_) (fun hq=> ?_)|refine dR (fun hq=> ?_) (fun hq=> ?_)|refine dD (fun hq=> ?_) (fun hq=> ?_))<;>simp only [hq,hJ,go_sem]
  |refine sM ?_;simp only [ay,rv,au,get,hJ,go_sem]
  |refine bn ?_
  |fail
 all_goals clear hJ
 all_goals simp_all [dP,-Int.not_lt,-Int.not_le]
theorem Bp (n:Int):Fn Tryz.prog 353 [I n] [] (Bo (wX n)) [] []:=by
 refine Fn.aO Uy (by simp) ?_
 unfold Ux SC.mk'
 simp only [go_sem]
 have hJ:=trivial
 repeat' first
  |(first|refine sC ?_|refine sD ?_);simp only [hJ,go_sem]
  |(first|refine bC (fun hq=> ?_) (fun hq=> ?_)|refine dR (fun hq=> ?_) (fun hq=> ?_)|refine dD (fun hq=> ?_) (fun hq=> ?_))<;>simp only [hq,hJ,go_sem]
  |refine sM ?_;simp only [ay,rv,au,get,hJ,go_sem]
  |refine bn ?_
  |fail
 all_goals clear hJ
 all_goals simp_all [wX,-Int.not_lt,-Int.not_le]
theorem WH (a:aj) (i:Int):Fn Tryz.prog 355 [.agg a.enc,I i] [] (Bo (a.slot i)) [] []:=by
 refine Fn.aO UC (by simp) ?_
 unfold UB SC.mk' aj.enc
 simp only [go_sem]
 have hJ:=trivial
 repeat' first
  |(first|refine sC ?_|refine sD ?_);simp only [hJ,List.length_map,go_sem]
  |(first|refine bC (fun hq=> ?_) (fun hq=> ?_)|refine dR (fun hq=> ?_) (fun hq=> ?_)|refine dD (fun hq=> ?_) (fun hq=> ?_))<;>simp only [hq,hJ,List.length_map,go_sem]
  |refine sM ?_;simp only [ay,rv,au,get,hJ,List.length_map,go_sem]
  |refine bn ?_
  |fail
 all_goals clear hJ
 all_goals simp_all [aj.slot,-Int.not_lt,-Int.not_le]
theorem DK {a:aj} {i:Int} (h:a.slot i=true):0<=i/\i.toNat<a.slots.length/\i<a.slots.length:=by
 simp [aj.slot] at h;omega
theorem zn {l:List Slot} {i:Nat} (h:i<l.length):nth (l.map Slot.enc) i=Slot.enc (gX l i):=bS Slot.enc Slot.z h
theorem NI {l:List aJ} {i:Nat} (h:i<l.length):nth (l.map aJ.enc) i=aJ.enc (iZ l i):=bS aJ.enc aJ.z h
theorem acT (a:aj) (c:Int) (h0:0<=c) (h1:c<=a.slots.length):Fn Tryz.prog 13 [.agg a.enc,I c] [] (I (a.owner c)) [] []:=by
 generalize hR:a.owner c=R
 unfold aj.owner at hR
 refine Fn.aO Qa (by simp) ?_
 unfold s13 SC.mk' aj.enc
 simp only [go_sem]
 by_cases h2:(c==(a.slots.length:Int))=true
 ·rw [if_pos h2] at hR
  simp only [h2,List.length_map,go_sem]
  exact Fin.aD _ rfl rfl (by rw [<-hR];rfl)
 ·rw [if_neg h2] at hR
  simp only [Bool.not_eq_true] at h2
  have h3:c≠(a.slots.length:Int):=by simpa using h2
  simp only [h2,zn (show c.toNat<a.slots.length by omega),Slot.enc,List.length_map,go_sem]
  repeat (refine bn ?_)
  exact Fin.aD _ rfl rfl (by rw [<-hR];rfl)
theorem acU (a:aj) (c w:Int) (h0:0<=c) (h1:c<=a.slots.length) (hl:a.slots.length<=1000):Fn Tryz.prog 354 [.agg a.enc,I c,I w] [] (.agg (a.own c w).enc) [] []:=by
 generalize hR:a.own c w=R
 unfold aj.own at hR
 refine Fn.aO UA (by simp) ?_
 unfold Uz SC.mk' aj.enc
 simp only [go_sem]
 by_cases h2:(c==(a.slots.length:Int))=true
 ·rw [if_pos h2] at hR
  simp only [h2,List.length_map,go_sem]
  exact Fin.aD _ rfl rfl (by rw [<-hR];simp only [ay,rv,au,get,aj.enc,go_sem])
 ·rw [if_neg h2] at hR
  simp only [Bool.not_eq_true] at h2
  have h3:c≠(a.slots.length:Int):=by simpa using h2
  have hm:a.slots.length<=maxLen:=Nat.le_trans (show _<=10000 by omega) (by decide)
  have e1:List.take a.slots.length (a.slots.map Slot.enc)=a.slots.map Slot.enc:=bA (by simp)
  have e2:(a.slots.map Slot.enc).set c.toNat [I w,Bo (gX a.slots c.toNat).eT.live,I (gX a.slots c.toNat).eT.low,I (gX a.slots c.toNat).eT.high,.sl 7 ((gX a.slots c.toNat).eT.ready.cells.map ai.enc),I (gX a.slots c.toNat).eT.ready.head,I (gX a.slots c.toNat).eT.ready.size,.sl 8 ((gX a.slots c.toNat).eT.aR.l.map Lease.enc),.sl 2 ((gX a.slots c.toNat).eT.aR.heap.map Due.enc)]=(a.slots.set c.toNat {gX a.slots c.toNat with owner:=w}).map Slot.enc:=by rw [List.map_set];rfl
  have e3:List.take a.slots.length ((a.slots.set c.toNat {gX a.slots c.toNat with owner:=w}).map Slot.enc)=(a.slots.set c.toNat {gX a.slots c.toNat with owner:=w}).map Slot.enc:=bA (by simp)
  simp only [h2,e1,e2,zn (show c.toNat<a.slots.length by omega),Slot.enc,List.length_map,go_sem]
  repeat (refine bn ?_)
  exact Fin.aD _ rfl rfl (by rw [<-hR];simp only [ay,rv,au,get,aj.enc,e3,List.length_map,List.length_set,go_sem];simp)
theorem amo (a:aj) (c w:Int) (hl:a.slots.length<=1000):Fn Tryz.prog 271 [.agg a.enc,I c,I w] [] (.aF [.agg (a.tryLock c w).1.enc,Bo (a.tryLock c w).2.1,I (a.tryLock c w).2.2]) [] []:=by
 generalize hR:a.tryLock c w=R
 unfold aj.tryLock at hR
 refine Fn.aO Tx (by simp) ?_
 unfold Tw SC.mk' aj.enc
 simp only [go_sem]
 by_cases h0:c<0\/(a.slots.length:Int)<c\/wX w=false
 ·rw [if_pos (by simpa using h0)] at hR
  have aK:=Bp w
  exact aX
 rw [if_neg (by simpa using h0)] at hR
 have g1:0<=c:=by omega
 have g2:c<=a.slots.length:=by omega
 have aK:=Bp w
 have aU:=acT a c g1 g2
 have bK:=acU a c w g1 g2 hl
 have hJ:=aj.enc.eq_1
 exact aZ
theorem acV (a:aj) (c w:Int) (hl:a.slots.length<=1000):Fn Tryz.prog 272 [.agg a.enc,I c,I w] [] (.aF [.agg (a.unlock c w).1.enc,I (a.unlock c w).2]) [] []:=by
 generalize hR:a.unlock c w=R
 unfold aj.unlock at hR
 refine Fn.aO Tz (by simp) ?_
 unfold Ty SC.mk' aj.enc
 simp only [go_sem]
 by_cases h0:c<0\/(a.slots.length:Int)<c\/wX w=false
 ·rw [if_pos (by simpa using h0)] at hR
  have aK:=Bp w
  exact aX
 rw [if_neg (by simpa using h0)] at hR
 have g1:0<=c:=by omega
 have g2:c<=a.slots.length:=by omega
 have aK:=Bp w
 have aU:=acT a c g1 g2
 have bK:=acU a c 0 g1 g2 hl
 have hJ:=aj.enc.eq_1
 exact aZ
theorem amq (a:aj) (i:Int):Fn Tryz.prog 277 [.agg a.enc,I i] [] (.aF [.agg (a.kE i).1.enc,I (a.kE i).2]) [] []:=by
 generalize hR:a.kE i=R
 unfold aj.kE at hR
 refine Fn.aO TK (by simp) ?_
 unfold TJ SC.mk' aj.enc
 simp only [go_sem]
 refine aQ (WH a i) rfl rfl ?_
 simp only [go_sem]
 by_cases h1:a.slot i=true
 ·have h2:=DK h1
  simp only [h1,Bool.not_true,Bool.false_eq_true,if_false] at hR
  simp only [h1,Bool.not_true,zn h2.2.1,Slot.enc,List.length_map,go_sem]
  repeat (refine bn ?_)
  exact Fin.aD _ rfl rfl (by rw [<-hR];simp only [ay,rv,au,get,ak.enc,go_sem])
 ·simp only [Bool.not_eq_true] at h1
  simp only [h1,Bool.not_false,if_true] at hR
  simp only [h1,Bool.not_false,go_sem]
  exact Fin.aD _ rfl rfl (by rw [<-hR];simp only [ay,rv,au,get,ak.enc,List.map_nil,go_sem])
theorem WI (a:aj) (i:Int) (hs:a.bU.length=a.slots.length):Fn Tryz.prog 273 [.agg a.enc,I i] [] (.aF [.agg (a.ql i).1.enc,I (a.ql i).2]) [] []:=by
 generalize hR:a.ql i=R
 unfold aj.ql at hR
 refine Fn.aO TB (by simp) ?_
 unfold TA SC.mk' aj.enc
 simp only [go_sem]
 refine aQ (WH a i) rfl rfl ?_
 simp only [go_sem]
 by_cases h1:a.slot i=true
 ·have h2:=DK h1
  simp only [h1,Bool.not_true,Bool.false_eq_true,if_false] at hR
  simp only [h1,Bool.not_true,NI (show i.toNat<a.bU.length by omega),mT,List.length_map,go_sem]
  repeat (refine bn ?_)
  exact Fin.aD _ rfl rfl (by rw [<-hR];simp only [ay,rv,au,get,mT,go_sem])
 ·simp only [Bool.not_eq_true] at h1
  simp only [h1,Bool.not_false,if_true] at hR
  simp only [h1,Bool.not_false,go_sem]
  exact Fin.aD _ rfl rfl (by rw [<-hR];simp only [ay,rv,au,get,mT,List.map_nil,go_sem])
theorem NJ (a:aj) (i w:Int):Fn Tryz.prog 356 [.agg a.enc,I i,I w] [] (I (a.storable i w)) [] []:=by
 generalize hR:a.storable i w=R
 unfold aj.storable at hR
 refine Fn.aO UE (by simp) ?_
 unfold UD SC.mk' aj.enc
 simp only [go_sem]
 refine aQ (WH a i) rfl rfl ?_
 simp only [go_sem]
 by_cases h1:a.slot i=true
 ·have h2:=DK h1
  simp only [h1,Bool.not_true,zn h2.2.1,Slot.enc,List.length_map,go_sem]
  have aK:=Bp w
  have hJ:=ah (zn h2.2.1) Slot.enc.eq_1
  exact aZ
 ·simp only [Bool.not_eq_true] at h1
  simp only [h1,Bool.not_false,Bool.true_or,if_true] at hR
  simp only [h1,Bool.not_false,go_sem]
  exact Fin.aD _ rfl rfl (by rw [<-hR];rfl)
theorem amr (a:aj):Fn Tryz.prog 276 [.agg a.enc] [] (.agg a.dead.dead.enc) [] []:=by
 refine Fn.aO aiS (by simp) ?_
 unfold TI SC.mk' aj.enc Dead.enc
 simp only [go_sem]
 exact Fin.aD _ rfl rfl (by simp only [ay,rv,au,get,go_sem])
theorem NK (a:aj):Fn Tryz.prog 152 [.agg a.enc] [] (.agg a.dir.enc) [] []:=by
 refine Fn.aO Rt (by simp) ?_
 unfold Rs SC.mk' aj.enc Dir.enc
 simp only [go_sem]
 exact Fin.aD _ rfl rfl (by simp only [ay,rv,au,get,go_sem])
theorem zo (a:aj) (w:Int):Fn Tryz.prog 278 [.agg a.enc,I w] [] (.aF [I (a.load w).1,I (a.load w).2]) [] []:=by
 generalize hR:a.load w=R
 unfold aj.load at hR
 refine Fn.aO TM (by simp) ?_
 unfold TL SC.mk' aj.enc
 simp only [go_sem]
 exact aX
theorem acW (a:aj) (w o x:Int):Fn Tryz.prog 310 [.agg a.enc,I w,I o,I x] [] (.aF [.agg (a.lY w o x).1.enc,Bo (a.lY w o x).2.1,I (a.lY w o x).2.2]) [] []:=by
 generalize hR:a.lY w o x=R
 unfold aj.lY at hR
 refine Fn.aO Ua (by simp) ?_
 unfold T9 SC.mk' aj.enc
 simp only [go_sem]
 have aK:=iO x 0 65536
 have aU:=iO x 1 1073741824
 have bK:=zo a w
 exact aX
theorem ams (a:aj) (b:Int):Fn Tryz.prog 266 [.agg a.enc,I b] [] (.aF [.agg (a.tick b).1.enc,I (a.tick b).2]) [] []:=by
 generalize hR:a.tick b=R
 unfold aj.tick at hR
 refine Fn.aO aiR (by simp) ?_
 unfold Tn SC.mk' aj.enc
 simp only [go_sem]
 have aK:=iO b 0 1099511627776
 exact aX
theorem amt (a:aj) (i w:Int) (s:ak) (hs:s.sm) (hl:a.slots.length<=1000):Fn Tryz.prog 280 [.agg a.enc,I i,I w,.agg s.enc] [] (.aF [.agg (a.lW i w s).1.enc,I (a.lW i w s).2]) [] []:=by
 generalize hR:a.lW i w s=R
 unfold aj.lW at hR
 refine Fn.aO TQ (by simp) ?_
 unfold TP SC.mk' aj.enc ak.enc
 simp only [go_sem]
 by_cases h1:a.storable i w≠0
 ·rw [if_pos h1] at hR
  have h1':(a.storable i w !=0)=true:=by simpa using h1
  refine aQ (NJ a i w) rfl rfl ?_
  simp only [h1',go_sem]
  exact Fin.aD _ rfl rfl (by rw [<-hR];simp [ay,rv,au,aj.enc])
 rw [if_neg h1] at hR
 have h1':(a.storable i w !=0)=false:=by simpa using h1
 have hi:a.slot i=true:=by
  unfold aj.storable at h1
  cases e:a.slot i
  ·rw [e] at h1;simp at h1
  ·rfl
 have h2:=DK hi
 refine aQ (NJ a i w) rfl rfl ?_
 simp only [h1',go_sem]
 refine aQ (zi s hs) rfl rfl ?_
 simp only [go_sem]
 by_cases h3:s.val≠0
 ·rw [if_pos h3] at hR
  have h3':(s.val !=0)=true:=by simpa using h3
  simp only [h3',go_sem]
  exact Fin.aD _ rfl rfl (by rw [<-hR];simp [ay,rv,au,aj.enc])
 rw [if_neg h3] at hR
 have h3':(s.val !=0)=false:=by simpa using h3
 have hm:a.slots.length<=maxLen:=Nat.le_trans (show _<=10000 by omega) (by decide)
 have e1:List.take a.slots.length (a.slots.map Slot.enc)=a.slots.map Slot.enc:=bA (by simp)
 have e2:(a.slots.map Slot.enc).set i.toNat [I (gX a.slots i.toNat).owner,Bo s.live,I s.low,I s.high,.sl 7 (s.ready.cells.map ai.enc),I s.ready.head,I s.ready.size,.sl 8 (s.aR.l.map Lease.enc),.sl 2 (s.aR.heap.map Due.enc)]=(a.slots.set i.toNat {gX a.slots i.toNat with eT:=s}).map Slot.enc:=by rw [List.map_set];rfl
 have e3:List.take a.slots.length ((a.slots.set i.toNat {gX a.slots i.toNat with eT:=s}).map Slot.enc)=(a.slots.set i.toNat {gX a.slots i.toNat with eT:=s}).map Slot.enc:=bA (by simp)
 simp only [h3',zn h2.2.1,Slot.enc,List.length_map,go_sem]
 repeat (refine bn ?_)
 by_cases h4:s.ready.cells.length≠(gX a.slots i.toNat).eT.ready.cells.length
 ·rw [if_pos h4] at hR
  have h4':((s.ready.cells.length:Int) !=((gX a.slots i.toNat).eT.ready.cells.length:Int))=true:=by simp;omega
  simp only [h4',go_sem]
  exact Fin.aD _ rfl rfl (by rw [<-hR];simp [ay,rv,au,aj.enc])
 rw [if_neg h4] at hR
 have h4':((s.ready.cells.length:Int) !=((gX a.slots i.toNat).eT.ready.cells.length:Int))=false:=by simp;omega
 simp only [h4',e1,e2,zn h2.2.1,Slot.enc,List.length_map,go_sem]
 repeat (refine bn ?_)
 exact Fin.aD _ rfl rfl (by rw [<-hR];simp only [ay,rv,au,get,aj.enc,e3,List.length_map,List.length_set,go_sem];simp)
theorem WJ (a:aj) (i w:Int) (s:aJ) (hs:a.bU.length=a.slots.length) (hl:a.slots.length<=1000):Fn Tryz.prog 275 [.agg a.enc,I i,I w,.agg s.enc] [] (.aF [.agg (a.jA i w s).1.enc,I (a.jA i w s).2]) [] []:=by
 generalize hR:a.jA i w s=R
 unfold aj.jA at hR
 refine Fn.aO TH (by simp) ?_
 unfold TG SC.mk' aj.enc
 simp only [mT,go_sem]
 by_cases h1:a.storable i w≠0
 ·rw [if_pos h1] at hR
  have h1':(a.storable i w !=0)=true:=by simpa using h1
  refine aQ (NJ a i w) rfl rfl ?_
  simp only [h1',go_sem]
  exact Fin.aD _ rfl rfl (by rw [<-hR];simp [ay,rv,au,aj.enc])
 rw [if_neg h1] at hR
 have h1':(a.storable i w !=0)=false:=by simpa using h1
 have hi:a.slot i=true:=by
  unfold aj.storable at h1
  cases e:a.slot i
  ·rw [e] at h1;simp at h1
  ·rfl
 have h2:=DK hi
 have hm:a.bU.length<=maxLen:=Nat.le_trans (show _<=10000 by omega) (by decide)
 have e1:List.take a.bU.length (a.bU.map aJ.enc)=a.bU.map aJ.enc:=bA (by simp)
 have e2:(a.bU.map aJ.enc).set i.toNat [I s.seq,I s.epoch,I s.ready,I s.eF]=(a.bU.set i.toNat s).map aJ.enc:=by rw [List.map_set];rfl
 have e4:List.take a.slots.length ((a.bU.map aJ.enc).set i.toNat s.enc)=(a.bU.map aJ.enc).set i.toNat s.enc:=bA (by simp [hs])
 have hnx:=NI (show i.toNat<a.bU.length by omega)
 have e3:List.take a.bU.length ((a.bU.set i.toNat s).map aJ.enc)=(a.bU.set i.toNat s).map aJ.enc:=bA (by simp)
 refine aQ (NJ a i w) rfl rfl ?_
 simp only [h1',go_sem]
 have aK:=iO s.seq 0 1099511627776
 have aU:=iO s.epoch 0 1099511627776
 have bK:=iO s.ready 0 1099511627776
 have dV:=iO s.eF 0 1099511627776
 have hJ:=ah e1 (ah e2 (ah hnx @mT))
 exact aZ
theorem amu (d:Dead) (hl:d.l.length<=100000):Fn Tryz.prog 184 [.agg d.enc] [] (I d.val) [] []:=Di d.cap d.l hl
theorem amv (a:aj) (w:Int) (d:Dead) (hl:d.l.length<=100000):Fn Tryz.prog 279 [.agg a.enc,I w,.agg d.enc] [] (.aF [.agg (a.lX w d).1.enc,I (a.lX w d).2]) [] []:=by
 generalize hR:a.lX w d=R
 unfold aj.lX at hR
 refine Fn.aO aiT (by simp) ?_
 unfold TN SC.mk' aj.enc Dead.enc
 simp only [go_sem]
 have aK:=Bp w
 have aU:=amu d hl
 exact aX
theorem amw (a:aj) (v:Int) (d:Dir) (hl:d.l.length<=70000):Fn Tryz.prog 281 [.agg a.enc,I v,.agg d.enc] [] (.aF [.agg (a.oJ v d).1.enc,Bo (a.oJ v d).2.1,I (a.oJ v d).2.2]) [] []:=by
 generalize hR:a.oJ v d=R
 unfold aj.oJ at hR
 refine Fn.aO aiU (by simp) ?_
 unfold TR SC.mk' aj.enc Dir.enc
 simp only [go_sem]
 have aK:=zk d hl
 have hJ:=trivial
 repeat' first
  |(first|refine sC ?_|refine sD ?_);simp only [hJ,aS,List.length_map,go_sem]
  |(first|refine bC (fun hq=> ?_) (fun hq=> ?_)|refine dR (fun hq=> ?_) (fun hq=> ?_)|refine dD (fun hq=> ?_) (fun hq=> ?_))<;>simp only [hq,hJ,aS,List.length_map,go_sem]
  |refine sM ?_;simp only [ay,rv,au,get,hJ,aS,List.length_map,go_sem]
  |refine bn ?_
  |fail
 all_goals clear aK hJ
 all_goals (subst hR;simp_all [aj.enc,rv,au,Int.ofNat_inj,-Int.not_lt,-Int.not_le])
end Go.Eng
namespace Go.Eng
open Go Go.Proofs
attribute [local go_sem] aS
theorem ny {l:List Int} {i:Nat} (h:i<l.length):nth (encI l) i=[I (gI l i)]:=bS (fun z=>[I z]) 0 h
theorem amx (l:bf):Fn Tryz.prog 270 [.agg l.enc] [] (.aF [.agg l.free.1.enc,I l.free.2]) [] []:=by
 generalize hR:l.free=R
 unfold bf.free at hR
 refine Fn.aO Tv (by simp) ?_
 unfold Tt SC.mk' bf.enc
 simp only [go_sem]
 exact aX
theorem amy (l:List Int) (p:Int) (j:Nat) (e:j<l.length) (hp:¬ (gI l j<0\/6<gI l j\/(0<j/\gI l j<=gI l (j - 1)))) (hq:j=0->p= -1) (hq2:0<j->p=gI l (j - 1)):lZ (l.drop j) p=lZ (l.drop (j+1)) (gI l j):=by
 rw [eB 0 e]
 simp only [lZ,show l[j]?.getD 0=gI l j from rfl]
 have h1:dP (gI l j) 0 6=true:=by simp [dP];omega
 have h2:p<gI l j:=by
  rcases Nat.eq_zero_or_pos j with h|h
  ·rw [hq h];omega
  ·rw [hq2 h];omega
 simp [h1,h2]
theorem amz (cells:List Int) (hl:cells.length<=1000):Fn Tryz.prog 51 [.sl 1 (encI cells)] [] (.aF [.agg (bf.new cells).1.enc,I (bf.new cells).2]) [] []:=by
 generalize hR:bf.new cells=R
 unfold bf.new at hR
 refine Fn.aO Qo (by simp) ?_
 unfold Qn SC.mk'
 simp only [go_sem]
 by_cases h0:(cells.length:Int)=0\/3<(cells.length:Int)
 ·rw [if_pos (by simpa using h0)] at hR
  exact aX
 rw [if_neg (by simpa using h0)] at hR
 have g1:((cells.length:Int)==0)=false:=beq_eq_false_iff_ne.2 (by omega)
 have g2:¬ 3<(cells.length:Int):=by omega
 simp only [g1,g2,aS,go_sem]
 generalize hK:lZ cells (-1)=K at hR
 refine go_loop (fun j:{j:Nat // j<=cells.length/\lZ (cells.drop j) (if j=0 then -1 else gI cells (j - 1))=K}=>⟨2000,[(0,.sl 1 (encI cells)),(2,.ptr 8 0),(4,I j.1)],[(8,.box [Nl,I 0,I 0,I 0,I 0])]⟩) (fun j=>cells.length - j.1) ⟨0,by omega,hK⟩ (wk [(8,8)] []) ?_
 rintro ⟨j,hj,he⟩ B hB
 simp only [go_sem]
 by_cases e1:j<cells.length
 ·have e2:decide ((j:Int)<(cells.length:Int))=true:=by simp;omega
  have hw:=bT (show j<=100000 by omega)
  have hx:=ny e1
  simp only [e2,hx,hw,aS,Int.toNat_natCast,go_sem]
  by_cases e3:gI cells j<0\/6<gI cells j\/(0<j/\gI cells j<=gI cells (j - 1))
  ·have hK2:K=false:=by
    rw [<-he,eB 0 e1]
    simp only [lZ,show cells[j]?.getD 0=gI cells j from rfl]
    rcases e3 with h|h|h
    ·rw [show dP (gI cells j) 0 6=false by simp [dP];omega];simp
    ·rw [show dP (gI cells j) 0 6=false by simp [dP];omega];simp
    ·rw [if_neg (by omega),show decide (gI cells (j - 1)<gI cells j)=false from decide_eq_false (by omega)];simp
   rw [hK2,if_neg (by simp)] at hR
   by_cases f1:gI cells j<0
   ·simp only [f1,hx,aS,Int.toNat_natCast,go_sem]
    repeat (refine bn ?_)
    exact Fin.aD _ rfl rfl (by rw [<-hR];simp only [ay,rv,au,get,bf.enc,iN,go_sem])
   by_cases f2:6<gI cells j
   ·simp only [f1,f2,hx,aS,Int.toNat_natCast,go_sem]
    repeat (refine bn ?_)
    exact Fin.aD _ rfl rfl (by rw [<-hR];simp only [ay,rv,au,get,bf.enc,iN,go_sem])
   have f3:0<j/\gI cells j<=gI cells (j - 1):=by
    rcases e3 with h|h|h
    ·exact absurd h f1
    ·exact absurd h f2
    ·exact h
   have f4:decide ((0:Int)<(j:Int))=true:=by simp;omega
   have hz:IntKind.i64.wrap ((j:Int) - 1)=((j - 1:Nat):Int):=by rw [bE (by omega)];omega
   have hx2:=ny (show j - 1<cells.length by omega)
   simp only [f1,f2,f4,hz,hx,hx2,f3.2,aS,Int.toNat_natCast,go_sem]
   repeat (refine bn ?_)
   exact Fin.aD _ rfl rfl (by rw [<-hR];simp only [ay,rv,au,get,bf.enc,iN,go_sem])
  ·have f1:¬ gI cells j<0:=fun h=>e3 (.inl h)
   have f2:¬ 6<gI cells j:=fun h=>e3 (.inr (.inl h))
   have he2:lZ (cells.drop (j+1)) (if j+1=0 then -1 else gI cells (j+1 - 1))=K:=by
    rw [if_neg (by omega),Nat.add_sub_cancel,<-he]
    exact (amy cells _ j e1 e3 (fun h=>by rw [if_pos h]) (fun h=>by rw [if_neg (by omega)])).symm
   by_cases f5:0<j
   ·have f4:decide ((0:Int)<(j:Int))=true:=by simp;omega
    have f6:¬ gI cells j<=gI cells (j - 1):=fun h=>e3 (.inr (.inr ⟨f5,h⟩))
    have hz:IntKind.i64.wrap ((j:Int) - 1)=((j - 1:Nat):Int):=by rw [bE (by omega)];omega
    have hx2:=ny (show j - 1<cells.length by omega)
    simp only [f1,f2,f4,hz,hx,hx2,f6,hw,aS,Int.toNat_natCast,go_sem]
    repeat (refine bn ?_)
    exact hB _ ⟨j+1,by omega,he2⟩ (by simp only;omega) (wk [(8,8)] [])
   ·have f4:decide ((0:Int)<(j:Int))=false:=by simp;omega
    simp only [f1,f2,f4,hx,hw,aS,Int.toNat_natCast,go_sem]
    repeat (refine bn ?_)
    exact hB _ ⟨j+1,by omega,he2⟩ (by simp only;omega) (wk [(8,8)] [])
 ·have e2:decide ((j:Int)<(cells.length:Int))=false:=by simp;omega
  rw [eH (by omega)] at he
  simp only [lZ] at he
  rw [<-he,if_pos rfl] at hR
  have hm:cells.length<=maxLen:=Nat.le_trans (show _<=10000 by omega) (by decide)
  have e4:List.take cells.length (encI cells)=encI cells:=bA (by rw [aS];omega)
  simp only [e2,aS,go_sem]
  repeat (refine bn ?_)
  exact Fin.aD _ rfl rfl (by rw [<-hR];simp only [ay,rv,au,get,bf.enc,e4,aS,go_sem];simp)
theorem acX (a:aj) (l:bf) (task:Int) (n:Nat) (ha:a.wf n) (hl:l.wf n):Fn Tryz.prog 188 [.agg a.enc,.agg l.enc,I task] [] (.aF [.agg (bf.step a l task).1.enc,.agg (bf.step a l task).2.1.enc,I (bf.step a l task).2.2]) [] []:=by
 generalize hR:bf.step a l task=R
 unfold bf.step at hR
 have hsl:a.slots.length<=1000:=by rw [ha.sl];have:=ha.n6;omega
 have h3:=hl.l3
 refine Fn.aO Sd (by simp) ?_
 unfold Sc SC.mk' aj.enc bf.enc
 simp only [go_sem]
 by_cases p0:(l.phase==0)=true
 ·rw [if_pos p0] at hR
  have q0:l.phase=0:=by simpa using p0
  have hg:0<=l.got/\l.got<l.cells.length:=by have:=hl.ph;omega
  have hx:=ny (show l.got.toNat<l.cells.length by omega)
  simp only [p0,hx,aS,go_sem]
  repeat (refine bn ?_)
  refine bX (amo a (gI l.cells l.got.toNat) task hsl) rfl rfl ?_
  simp only at hR
  generalize a.tryLock (gI l.cells l.got.toNat) task=x at hR
  simp only [aj.enc,go_sem]
  repeat (refine bn ?_)
  by_cases h1:x.2.2≠0
  ·rw [if_pos h1] at hR
   have h1':(x.2.2 !=0)=true:=by simpa using h1
   simp only [h1',go_sem]
   (
    repeat (refine bn ?_)
    exact Fin.aD _ rfl rfl (by rw [<-hR];simp only [ay,rv,au,get,bf.enc,aj.enc,iN,List.map_nil,go_sem]))
  rw [if_neg h1] at hR
  have h1':(x.2.2 !=0)=false:=by simpa using h1
  have hw:IntKind.i64.wrap (l.got+1)=l.got+1:=bE (by omega)
  simp only [h1',hw,aS,go_sem]
  by_cases h2:x.2.1=true
  ·rw [if_pos h2] at hR
   simp only [h2,hw,aS,go_sem]
   by_cases h4:(l.got+1==(l.cells.length:Int))=true
   ·rw [if_pos h4] at hR
    simp only [h4,go_sem]
    (
     repeat (refine bn ?_)
     exact Fin.aD _ rfl rfl (by rw [<-hR];simp only [ay,rv,au,get,bf.enc,aj.enc,iN,List.map_nil,go_sem]))
   ·rw [if_neg h4] at hR
    simp only [Bool.not_eq_true] at h4
    simp only [h4,go_sem]
    (
     repeat (refine bn ?_)
     exact Fin.aD _ rfl rfl (by rw [<-hR];simp only [ay,rv,au,get,bf.enc,aj.enc,iN,List.map_nil,go_sem]))
  ·rw [if_neg h2] at hR
   simp only [Bool.not_eq_true] at h2
   simp only [h2,go_sem]
   by_cases h4:0<l.got
   ·rw [if_pos h4] at hR
    simp only [h4,go_sem]
    (
     repeat (refine bn ?_)
     exact Fin.aD _ rfl rfl (by rw [<-hR];simp only [ay,rv,au,get,bf.enc,aj.enc,iN,List.map_nil,go_sem]))
   ·rw [if_neg h4] at hR
    simp only [h4,go_sem]
    (
     repeat (refine bn ?_)
     exact Fin.aD _ rfl rfl (by rw [<-hR];simp only [ay,rv,au,get,bf.enc,aj.enc,iN,List.map_nil,go_sem]))
 rw [if_neg p0] at hR
 simp only [Bool.not_eq_true] at p0
 by_cases p1:(l.phase==1||l.phase==4)=true
 ·rw [if_pos p1] at hR
  have hg:1<=l.got/\l.got<=l.cells.length:=by
   have q1:l.phase=1\/l.phase=4:=by simpa using p1
   have:=hl.ph;omega
  have hx:=ny (show (l.got - 1).toNat<l.cells.length by omega)
  have hw:IntKind.i64.wrap (l.got - 1)=l.got - 1:=bE (by omega)
  simp only at hR
  have tail:True:=trivial
  by_cases p2:(l.phase==1)=true
  ·have p3:(l.phase==4)=false:=by
    have:l.phase=1:=by simpa using p2
    simp [this]
   simp only [p3,Bool.false_eq_true,if_false] at hR
   simp only [p0,p2,hx,hw,aS,go_sem]
   repeat (refine bn ?_)
   refine bX (acV a (gI l.cells (l.got - 1).toNat) task hsl) rfl rfl ?_
   generalize a.unlock (gI l.cells (l.got - 1).toNat) task=x at hR
   simp only [aj.enc,go_sem]
   repeat (refine bn ?_)
   by_cases h1:x.2≠0
   ·rw [if_pos h1] at hR
    have h1':(x.2 !=0)=true:=by simpa using h1
    simp only [h1',go_sem]
    (
     repeat (refine bn ?_)
     exact Fin.aD _ rfl rfl (by rw [<-hR];simp only [ay,rv,au,get,bf.enc,aj.enc,iN,List.map_nil,go_sem]))
   rw [if_neg h1] at hR
   have h1':(x.2 !=0)=false:=by simpa using h1
   simp only [h1',hw,go_sem]
   by_cases h2:0<l.got - 1
   ·rw [if_pos h2] at hR
    simp only [h2,go_sem]
    (
     repeat (refine bn ?_)
     exact Fin.aD _ rfl rfl (by rw [<-hR];simp only [ay,rv,au,get,bf.enc,aj.enc,iN,List.map_nil,go_sem]))
   ·rw [if_neg h2] at hR
    simp only [h2,p3,go_sem]
    (
     repeat (refine bn ?_)
     exact Fin.aD _ rfl rfl (by rw [<-hR];simp only [ay,rv,au,get,bf.enc,aj.enc,iN,List.map_nil,go_sem]))
  ·simp only [Bool.not_eq_true] at p2
   have p3:(l.phase==4)=true:=by simpa [p2] using p1
   simp only [p3,if_true] at hR
   simp only [p0,p2,p3,hx,hw,aS,go_sem]
   repeat (refine bn ?_)
   refine bX (acV a (gI l.cells (l.got - 1).toNat) task hsl) rfl rfl ?_
   generalize a.unlock (gI l.cells (l.got - 1).toNat) task=x at hR
   simp only [aj.enc,go_sem]
   repeat (refine bn ?_)
   by_cases h1:x.2≠0
   ·rw [if_pos h1] at hR
    have h1':(x.2 !=0)=true:=by simpa using h1
    simp only [h1',go_sem]
    (
     repeat (refine bn ?_)
     exact Fin.aD _ rfl rfl (by rw [<-hR];simp only [ay,rv,au,get,bf.enc,aj.enc,iN,List.map_nil,go_sem]))
   rw [if_neg h1] at hR
   have h1':(x.2 !=0)=false:=by simpa using h1
   simp only [h1',hw,go_sem]
   by_cases h2:0<l.got - 1
   ·rw [if_pos h2] at hR
    simp only [h2,go_sem]
    (
     repeat (refine bn ?_)
     exact Fin.aD _ rfl rfl (by rw [<-hR];simp only [ay,rv,au,get,bf.enc,aj.enc,iN,List.map_nil,go_sem]))
   ·rw [if_neg h2] at hR
    simp only [h2,p3,go_sem]
    (
     repeat (refine bn ?_)
     exact Fin.aD _ rfl rfl (by rw [<-hR];simp only [ay,rv,au,get,bf.enc,aj.enc,iN,List.map_nil,go_sem]))
 rw [if_neg p1] at hR
 have p2:(l.phase==1)=false:=by
  cases h:(l.phase==1)
  ·rfl
  ·exact absurd (by simp [h]) p1
 have p3:(l.phase==4)=false:=by
  cases h:(l.phase==4)
  ·rfl
  ·exact absurd (by simp [h]) p1
 by_cases p4:(l.phase==2)=true
 ·rw [if_pos p4] at hR
  simp only [p0,p2,p3,p4,go_sem]
  generalize IntKind.i64.wrap (l.wait - 1)=w at hR ⊢
  by_cases h2:(w==0)=true
  ·rw [if_pos h2] at hR
   simp only [h2,go_sem]
   (
    repeat (refine bn ?_)
    exact Fin.aD _ rfl rfl (by rw [<-hR];simp only [ay,rv,au,get,bf.enc,aj.enc,iN,List.map_nil,go_sem]))
  ·rw [if_neg h2] at hR
   have h5:l.phase=2:=by simpa using p4
   simp only [Bool.not_eq_true] at h2
   simp only [h2,go_sem]
   repeat (refine bn ?_)
   exact Fin.aD _ rfl rfl (by rw [<-hR];simp only [ay,rv,au,get,bf.enc,aj.enc,h5,go_sem])
 ·rw [if_neg p4] at hR
  simp only [Bool.not_eq_true] at p4
  simp only [p0,p2,p3,p4,go_sem]
  (
   repeat (refine bn ?_)
   exact Fin.aD _ rfl rfl (by rw [<-hR];simp only [ay,rv,au,get,bf.enc,aj.enc,iN,List.map_nil,go_sem]))
end Go.Eng
namespace Go.Eng
open Go Go.Proofs
theorem tJ (c:bG):Fn Tryz.prog 179 [.agg c.enc] [] (.agg (mq c).enc) [] []:=by
 generalize hR:mq c=R
 unfold mq at hR
 refine Fn.aO aiG (by simp) ?_
 unfold RS SC.mk' bG.enc
 simp only [go_sem]
 exact aX
theorem amA (l:List Int) (a:Nat) (hl:l.length<=4000):Fn Tryz.prog 22 [.ptr 0 0] [dU l a] (.agg (Bg l a).1.enc) [dU l (Bg l a).2] []:=by
 generalize hR:Bg l a=R
 unfold Bg acd at hR
 simp only at hR
 refine Fn.aO aif (by simp) ?_
 unfold Qd SC.mk'
 simp only [go_sem]
 have s1:=AO l a 1 4
 have s2:=wF l a (lo:=1) (hi:=4) (by omega)
 refine d9 (b:=0) (kU l a 1 4 hl (by omega) (by omega)) ⟨rfl,⟨rfl,rfl⟩,⟨rfl,rfl⟩,trivial⟩ rfl rfl rfl rfl ?_
 generalize fo l a 1 4=s at hR s1 s2 ⊢
 generalize eD l a 1 4=a1 at hR ⊢
 simp only [go_sem]
 refine d9 (b:=0) (kU l a1 1 5 hl (by omega) (by omega)) ⟨rfl,⟨rfl,rfl⟩,⟨rfl,rfl⟩,trivial⟩ rfl rfl rfl rfl ?_
 generalize fo l a1 1 5=c at hR ⊢
 generalize eD l a1 1 5=a2 at hR ⊢
 simp only [go_sem]
 refine d9 (b:=0) (kU l a2 1 4 hl (by omega) (by omega)) ⟨rfl,⟨rfl,rfl⟩,⟨rfl,rfl⟩,trivial⟩ rfl rfl rfl rfl ?_
 generalize fo l a2 1 4=d at hR ⊢
 generalize eD l a2 1 4=a3 at hR ⊢
 simp only [go_sem]
 refine d9 (b:=0) (kU l a3 1 3 hl (by omega) (by omega)) ⟨rfl,⟨rfl,rfl⟩,⟨rfl,rfl⟩,trivial⟩ rfl rfl rfl rfl ?_
 generalize fo l a3 1 3=li at hR ⊢
 generalize eD l a3 1 3=a4 at hR ⊢
 simp only [go_sem]
 refine d9 (b:=0) (kU l a4 1 s hl (by omega) (by omega)) ⟨rfl,⟨rfl,rfl⟩,⟨rfl,rfl⟩,trivial⟩ rfl rfl rfl rfl ?_
 generalize fo l a4 1 s=lv at hR ⊢
 generalize eD l a4 1 s=a5 at hR ⊢
 simp only [go_sem]
 refine d9 (b:=0) (gQ l a5 12 hl (by omega)) ⟨rfl,⟨rfl,rfl⟩,trivial⟩ rfl rfl rfl rfl ?_
 generalize nV l a5 12=k at hR ⊢
 generalize nN l a5 12=a6 at hR ⊢
 simp only [go_sem]
 by_cases k1:(k==9)=true
 ·rw [if_pos k1] at hR
  simp only [k1,go_sem]
  have b1:=oz l a6 200
  have b2:=oC l a6 (n:=200) (by omega)
  refine d9 (b:=0) (gQ l a6 200 hl (by omega)) ⟨rfl,⟨rfl,rfl⟩,trivial⟩ rfl rfl rfl rfl ?_
  simp only [bE (n:=1073741824 - nV l a6 200) (by omega),go_sem]
  subst hR
  exact Fin.mQ _ rfl rfl rfl rfl rfl rfl rfl
 rw [if_neg k1] at hR
 simp only [Bool.not_eq_true] at k1
 simp only [k1,go_sem]
 by_cases k2:(k==10)=true
 ·rw [if_pos k2] at hR
  simp only [k2,go_sem]
  have b1:=oz l a6 4
  have b2:=oC l a6 (n:=4) (by omega)
  refine d9 (b:=0) (gQ l a6 4 hl (by omega)) ⟨rfl,⟨rfl,rfl⟩,trivial⟩ rfl rfl rfl rfl ?_
  simp only [bE (n:=1073741824 - nV l a6 4) (by omega),go_sem]
  subst hR
  exact Fin.mQ _ rfl rfl rfl rfl rfl rfl rfl
 rw [if_neg k2] at hR
 simp only [Bool.not_eq_true] at k2
 simp only [k2,go_sem]
 by_cases k3:(k==11)=true
 ·rw [if_pos k3] at hR
  simp only [k3,go_sem]
  have b1:=oz l a6 3
  have b2:=oC l a6 (n:=3) (by omega)
  refine d9 (b:=0) (gQ l a6 3 hl (by omega)) ⟨rfl,⟨rfl,rfl⟩,trivial⟩ rfl rfl rfl rfl ?_
  simp only [bE (n:=65536 - nV l a6 3) (by omega),go_sem]
  subst hR
  exact Fin.mQ _ rfl rfl rfl rfl rfl rfl rfl
 rw [if_neg k3] at hR
 simp only [Bool.not_eq_true] at k3
 simp only [k3,go_sem]
 subst hR
 exact Fin.mQ _ rfl rfl rfl rfl rfl rfl rfl
end Go.Eng
