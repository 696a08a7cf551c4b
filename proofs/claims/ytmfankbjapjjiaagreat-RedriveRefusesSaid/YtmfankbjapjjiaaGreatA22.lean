/-
  Part of a proof: lemmas and definitions of this work.
  No condition.
-/
import Derived.Test.YtmfankbjapjjiaaGreatA08
import Derived.Test.YtmfankbjapjjiaaGreatA21
set_option linter.all false
set_option maxRecDepth 100000
set_option maxHeartbeats 8000000
namespace Go.Eng
open Go Go.Proofs
attribute [local go_sem] List.length_map
@[simp] theorem iO:encI []=[]:=rfl
theorem iP (n a b:Int):Fn Tryz.prog 90 [I n,I a,I b] [] (Bo (dQ n a b)) [] []:=by
 refine Fn.aO JG (by simp) ?_
 unfold Qp SC.mk'
 simp only [go_sem]
 have hJ:=trivial
 repeat' first
  |(first|refine sC ?_|refine sD ?_);simp only [hJ,go_sem]
  |(first|refine bD (fun hq=> ?_) (fun hq=> ?_)|refine dS (fun hq=> ?_) (fun hq=> ?_)|refine dD (fun hq=> ?_) (fun hq=> ?_))<;>simp only [hq,hJ,go_sem]
  |refine sM ?_;simp only [ay,rv,au,get,hJ,go_sem]
  |refine bn ?_
  |fail
 all_goals clear hJ
 all_goals simp_all [dQ,-Int.not_lt,-Int.not_le]
theorem DX (n:Int):Fn Tryz.prog 476 [I n] [] (Bo (wZ n)) [] []:=by
 refine Fn.aO Vn (by simp) ?_
 unfold Vm SC.mk'
 simp only [go_sem]
 have hJ:=trivial
 repeat' first
  |(first|refine sC ?_|refine sD ?_);simp only [hJ,go_sem]
  |(first|refine bD (fun hq=> ?_) (fun hq=> ?_)|refine dS (fun hq=> ?_) (fun hq=> ?_)|refine dD (fun hq=> ?_) (fun hq=> ?_))<;>simp only [hq,hJ,go_sem]
  |refine sM ?_;simp only [ay,rv,au,get,hJ,go_sem]
  |refine bn ?_
  |fail
 all_goals clear hJ
 all_goals simp_all [wZ,-Int.not_lt,-Int.not_le]
theorem WL (a:aj) (i:Int):Fn Tryz.prog 336 [.agg a.enc,I i] [] (Bo (a.slot i)) [] []:=by
 refine Fn.aO Sj (by simp) ?_
 unfold Si SC.mk' aj.enc
 simp only [go_sem]
 have hJ:=trivial
 repeat' first
  |(first|refine sC ?_|refine sD ?_);simp only [hJ,List.length_map,go_sem]
  |(first|refine bD (fun hq=> ?_) (fun hq=> ?_)|refine dS (fun hq=> ?_) (fun hq=> ?_)|refine dD (fun hq=> ?_) (fun hq=> ?_))<;>simp only [hq,hJ,List.length_map,go_sem]
  |refine sM ?_;simp only [ay,rv,au,get,hJ,List.length_map,go_sem]
  |refine bn ?_
  |fail
 all_goals clear hJ
 all_goals simp_all [aj.slot,-Int.not_lt,-Int.not_le]
theorem Kj {a:aj} {i:Int} (h:a.slot i=true):0<=i/\i.toNat<a.slots.length/\i<a.slots.length:=by
 simp [aj.slot] at h;omega
theorem zh {l:List Slot} {i:Nat} (h:i<l.length):nth (l.map Slot.enc) i=Slot.enc (gX l i):=bT Slot.enc Slot.z h
theorem NJ {l:List aI} {i:Nat} (h:i<l.length):nth (l.map aI.enc) i=aI.enc (jd l i):=bT aI.enc aI.z h
theorem adu (a:aj) (c:Int) (h0:0<=c) (h1:c<=a.slots.length):Fn Tryz.prog 477 [.agg a.enc,I c] [] (I (a.owner c)) [] []:=by
 generalize hR:a.owner c=R
 unfold aj.owner at hR
 refine Fn.aO Vp (by simp) ?_
 unfold Vo SC.mk' aj.enc
 simp only [go_sem]
 by_cases h2:(c==(a.slots.length:Int))=true
 ·rw [if_pos h2] at hR
  simp only [h2,List.length_map,go_sem]
  exact Fin.aD _ rfl rfl (by rw [<-hR];rfl)
 ·rw [if_neg h2] at hR
  simp only [Bool.not_eq_true] at h2
  have h3:c≠(a.slots.length:Int):=by simpa using h2
  simp only [h2,zh (show c.toNat<a.slots.length by omega),Slot.enc,List.length_map,go_sem]
  repeat (refine bn ?_)
  exact Fin.aD _ rfl rfl (by rw [<-hR];rfl)
theorem adw (a:aj) (c w:Int) (h0:0<=c) (h1:c<=a.slots.length) (hl:a.slots.length<=1000):Fn Tryz.prog 478 [.agg a.enc,I c,I w] [] (.agg (a.own c w).enc) [] []:=by
 generalize hR:a.own c w=R
 unfold aj.own at hR
 refine Fn.aO Vr (by simp) ?_
 unfold Vq SC.mk' aj.enc
 simp only [go_sem]
 by_cases h2:(c==(a.slots.length:Int))=true
 ·rw [if_pos h2] at hR
  simp only [h2,List.length_map,go_sem]
  exact Fin.aD _ rfl rfl (by rw [<-hR];simp only [ay,rv,au,get,aj.enc,go_sem])
 ·rw [if_neg h2] at hR
  simp only [Bool.not_eq_true] at h2
  have h3:c≠(a.slots.length:Int):=by simpa using h2
  have hm:a.slots.length<=maxLen:=Nat.le_trans (show _<=10000 by omega) (by decide)
  have e1:List.take a.slots.length (a.slots.map Slot.enc)=a.slots.map Slot.enc:=bB (by simp)
  have e2:(a.slots.map Slot.enc).set c.toNat [I w,Bo (gX a.slots c.toNat).eU.live,I (gX a.slots c.toNat).eU.low,I (gX a.slots c.toNat).eU.high,.sl 7 ((gX a.slots c.toNat).eU.ready.cells.map ai.enc),I (gX a.slots c.toNat).eU.ready.head,I (gX a.slots c.toNat).eU.ready.size,.sl 8 ((gX a.slots c.toNat).eU.aR.l.map Lease.enc),.sl 2 ((gX a.slots c.toNat).eU.aR.heap.map Due.enc)]=(a.slots.set c.toNat {gX a.slots c.toNat with owner:=w}).map Slot.enc:=by rw [List.map_set];rfl
  have e3:List.take a.slots.length ((a.slots.set c.toNat {gX a.slots c.toNat with owner:=w}).map Slot.enc)=(a.slots.set c.toNat {gX a.slots c.toNat with owner:=w}).map Slot.enc:=bB (by simp)
  simp only [h2,e1,e2,zh (show c.toNat<a.slots.length by omega),Slot.enc,List.length_map,go_sem]
  repeat (refine bn ?_)
  exact Fin.aD _ rfl rfl (by rw [<-hR];simp only [ay,rv,au,get,aj.enc,e3,List.length_map,List.length_set,go_sem];simp)
theorem amM (a:aj) (c w:Int) (hl:a.slots.length<=1000):Fn Tryz.prog 452 [.agg a.enc,I c,I w] [] (.aG [.agg (a.tryLock c w).1.enc,Bo (a.tryLock c w).2.1,I (a.tryLock c w).2.2]) [] []:=by
 generalize hR:a.tryLock c w=R
 unfold aj.tryLock at hR
 refine Fn.aO UN (by simp) ?_
 unfold UM SC.mk' aj.enc
 simp only [go_sem]
 by_cases h0:c<0\/(a.slots.length:Int)<c\/wZ w=false
 ·rw [if_pos (by simpa using h0)] at hR
  have aK:=DX w
  exact aX
 rw [if_neg (by simpa using h0)] at hR
 have g1:0<=c:=by omega
 have g2:c<=a.slots.length:=by omega
 have aK:=DX w
 have aV:=adu a c g1 g2
 have bL:=adw a c w g1 g2 hl
 have hJ:=aj.enc.eq_1
 exact aZ
theorem adx (a:aj) (c w:Int) (hl:a.slots.length<=1000):Fn Tryz.prog 453 [.agg a.enc,I c,I w] [] (.aG [.agg (a.unlock c w).1.enc,I (a.unlock c w).2]) [] []:=by
 generalize hR:a.unlock c w=R
 unfold aj.unlock at hR
 refine Fn.aO UQ (by simp) ?_
 unfold UO SC.mk' aj.enc
 simp only [go_sem]
 by_cases h0:c<0\/(a.slots.length:Int)<c\/wZ w=false
 ·rw [if_pos (by simpa using h0)] at hR
  have aK:=DX w
  exact aX
 rw [if_neg (by simpa using h0)] at hR
 have g1:0<=c:=by omega
 have g2:c<=a.slots.length:=by omega
 have aK:=DX w
 have aV:=adu a c g1 g2
 have bL:=adw a c 0 g1 g2 hl
 have hJ:=aj.enc.eq_1
 exact aZ
theorem amN (a:aj) (i:Int):Fn Tryz.prog 457 [.agg a.enc,I i] [] (.aG [.agg (a.kF i).1.enc,I (a.kF i).2]) [] []:=by
 generalize hR:a.kF i=R
 unfold aj.kF at hR
 refine Fn.aO U3 (by simp) ?_
 unfold UZ SC.mk' aj.enc
 simp only [go_sem]
 refine aQ (WL a i) rfl rfl ?_
 simp only [go_sem]
 by_cases h1:a.slot i=true
 ·have h2:=Kj h1
  simp only [h1,Bool.not_true,Bool.false_eq_true,if_false] at hR
  simp only [h1,Bool.not_true,zh h2.2.1,Slot.enc,List.length_map,go_sem]
  repeat (refine bn ?_)
  exact Fin.aD _ rfl rfl (by rw [<-hR];simp only [ay,rv,au,get,ak.enc,go_sem])
 ·simp only [Bool.not_eq_true] at h1
  simp only [h1,Bool.not_false,if_true] at hR
  simp only [h1,Bool.not_false,go_sem]
  exact Fin.aD _ rfl rfl (by rw [<-hR];simp only [ay,rv,au,get,ak.enc,List.map_nil,go_sem])
theorem WM (a:aj) (i:Int) (hs:a.bU.length=a.slots.length):Fn Tryz.prog 280 [.agg a.enc,I i] [] (.aG [.agg (a.qj i).1.enc,I (a.qj i).2]) [] []:=by
 generalize hR:a.qj i=R
 unfold aj.qj at hR
 refine Fn.aO Rq (by simp) ?_
 unfold Rp SC.mk' aj.enc
 simp only [go_sem]
 refine aQ (WL a i) rfl rfl ?_
 simp only [go_sem]
 by_cases h1:a.slot i=true
 ·have h2:=Kj h1
  simp only [h1,Bool.not_true,Bool.false_eq_true,if_false] at hR
  simp only [h1,Bool.not_true,NJ (show i.toNat<a.bU.length by omega),mT,List.length_map,go_sem]
  repeat (refine bn ?_)
  exact Fin.aD _ rfl rfl (by rw [<-hR];simp only [ay,rv,au,get,mT,go_sem])
 ·simp only [Bool.not_eq_true] at h1
  simp only [h1,Bool.not_false,if_true] at hR
  simp only [h1,Bool.not_false,go_sem]
  exact Fin.aD _ rfl rfl (by rw [<-hR];simp only [ay,rv,au,get,mT,List.map_nil,go_sem])
theorem NK (a:aj) (i w:Int):Fn Tryz.prog 479 [.agg a.enc,I i,I w] [] (I (a.storable i w)) [] []:=by
 generalize hR:a.storable i w=R
 unfold aj.storable at hR
 refine Fn.aO Vt (by simp) ?_
 unfold Vs SC.mk' aj.enc
 simp only [go_sem]
 refine aQ (WL a i) rfl rfl ?_
 simp only [go_sem]
 by_cases h1:a.slot i=true
 ·have h2:=Kj h1
  simp only [h1,Bool.not_true,zh h2.2.1,Slot.enc,List.length_map,go_sem]
  have aK:=DX w
  have hJ:=ah (zh h2.2.1) Slot.enc.eq_1
  exact aZ
 ·simp only [Bool.not_eq_true] at h1
  simp only [h1,Bool.not_false,Bool.true_or,if_true] at hR
  simp only [h1,Bool.not_false,go_sem]
  exact Fin.aD _ rfl rfl (by rw [<-hR];rfl)
theorem amO (a:aj):Fn Tryz.prog 456 [.agg a.enc] [] (.agg a.dead.dead.enc) [] []:=by
 refine Fn.aO ajU (by simp) ?_
 unfold UY SC.mk' aj.enc Dead.enc
 simp only [go_sem]
 exact Fin.aD _ rfl rfl (by simp only [ay,rv,au,get,go_sem])
theorem NM (a:aj):Fn Tryz.prog 270 [.agg a.enc] [] (.agg a.dir.enc) [] []:=by
 refine Fn.aO Ra (by simp) ?_
 unfold Q9 SC.mk' aj.enc Dir.enc
 simp only [go_sem]
 exact Fin.aD _ rfl rfl (by simp only [ay,rv,au,get,go_sem])
theorem zi (a:aj) (w:Int):Fn Tryz.prog 261 [.agg a.enc,I w] [] (.aG [I (a.load w).1,I (a.load w).2]) [] []:=by
 generalize hR:a.load w=R
 unfold aj.load at hR
 refine Fn.aO QN (by simp) ?_
 unfold QM SC.mk' aj.enc
 simp only [go_sem]
 exact aX
theorem ady (a:aj) (w o x:Int):Fn Tryz.prog 264 [.agg a.enc,I w,I o,I x] [] (.aG [.agg (a.l8 w o x).1.enc,Bo (a.l8 w o x).2.1,I (a.l8 w o x).2.2]) [] []:=by
 generalize hR:a.l8 w o x=R
 unfold aj.l8 at hR
 refine Fn.aO QU (by simp) ?_
 unfold QT SC.mk' aj.enc
 simp only [go_sem]
 have aK:=iP x 0 65536
 have aV:=iP x 1 1073741824
 have bL:=zi a w
 exact aX
theorem amP (a:aj) (b:Int):Fn Tryz.prog 136 [.agg a.enc,I b] [] (.aG [.agg (a.tick b).1.enc,I (a.tick b).2]) [] []:=by
 generalize hR:a.tick b=R
 unfold aj.tick at hR
 refine Fn.aO ai1 (by simp) ?_
 unfold Qw SC.mk' aj.enc
 simp only [go_sem]
 have aK:=iP b 0 1099511627776
 exact aX
theorem amQ (a:aj) (i w:Int) (s:ak) (hs:s.sm) (hl:a.slots.length<=1000):Fn Tryz.prog 459 [.agg a.enc,I i,I w,.agg s.enc] [] (.aG [.agg (a.l6 i w s).1.enc,I (a.l6 i w s).2]) [] []:=by
 generalize hR:a.l6 i w s=R
 unfold aj.l6 at hR
 refine Fn.aO U6 (by simp) ?_
 unfold U5 SC.mk' aj.enc ak.enc
 simp only [go_sem]
 by_cases h1:a.storable i w≠0
 ·rw [if_pos h1] at hR
  have h1':(a.storable i w !=0)=true:=by simpa using h1
  refine aQ (NK a i w) rfl rfl ?_
  simp only [h1',go_sem]
  exact Fin.aD _ rfl rfl (by rw [<-hR];simp [ay,rv,au,aj.enc])
 rw [if_neg h1] at hR
 have h1':(a.storable i w !=0)=false:=by simpa using h1
 have hi:a.slot i=true:=by
  unfold aj.storable at h1
  cases e:a.slot i
  ·rw [e] at h1;simp at h1
  ·rfl
 have h2:=Kj hi
 refine aQ (NK a i w) rfl rfl ?_
 simp only [h1',go_sem]
 refine aQ (za s hs) rfl rfl ?_
 simp only [go_sem]
 by_cases h3:s.val≠0
 ·rw [if_pos h3] at hR
  have h3':(s.val !=0)=true:=by simpa using h3
  simp only [h3',go_sem]
  exact Fin.aD _ rfl rfl (by rw [<-hR];simp [ay,rv,au,aj.enc])
 rw [if_neg h3] at hR
 have h3':(s.val !=0)=false:=by simpa using h3
 have hm:a.slots.length<=maxLen:=Nat.le_trans (show _<=10000 by omega) (by decide)
 have e1:List.take a.slots.length (a.slots.map Slot.enc)=a.slots.map Slot.enc:=bB (by simp)
 have e2:(a.slots.map Slot.enc).set i.toNat [I (gX a.slots i.toNat).owner,Bo s.live,I s.low,I s.high,.sl 7 (s.ready.cells.map ai.enc),I s.ready.head,I s.ready.size,.sl 8 (s.aR.l.map Lease.enc),.sl 2 (s.aR.heap.map Due.enc)]=(a.slots.set i.toNat {gX a.slots i.toNat with eU:=s}).map Slot.enc:=by rw [List.map_set];rfl
 have e3:List.take a.slots.length ((a.slots.set i.toNat {gX a.slots i.toNat with eU:=s}).map Slot.enc)=(a.slots.set i.toNat {gX a.slots i.toNat with eU:=s}).map Slot.enc:=bB (by simp)
 simp only [h3',zh h2.2.1,Slot.enc,List.length_map,go_sem]
 repeat (refine bn ?_)
 by_cases h4:s.ready.cells.length≠(gX a.slots i.toNat).eU.ready.cells.length
 ·rw [if_pos h4] at hR
  have h4':((s.ready.cells.length:Int) !=((gX a.slots i.toNat).eU.ready.cells.length:Int))=true:=by simp;omega
  simp only [h4',go_sem]
  exact Fin.aD _ rfl rfl (by rw [<-hR];simp [ay,rv,au,aj.enc])
 rw [if_neg h4] at hR
 have h4':((s.ready.cells.length:Int) !=((gX a.slots i.toNat).eU.ready.cells.length:Int))=false:=by simp;omega
 simp only [h4',e1,e2,zh h2.2.1,Slot.enc,List.length_map,go_sem]
 repeat (refine bn ?_)
 exact Fin.aD _ rfl rfl (by rw [<-hR];simp only [ay,rv,au,get,aj.enc,e3,List.length_map,List.length_set,go_sem];simp)
theorem WN (a:aj) (i w:Int) (s:aI) (hs:a.bU.length=a.slots.length) (hl:a.slots.length<=1000):Fn Tryz.prog 455 [.agg a.enc,I i,I w,.agg s.enc] [] (.aG [.agg (a.jE i w s).1.enc,I (a.jE i w s).2]) [] []:=by
 generalize hR:a.jE i w s=R
 unfold aj.jE at hR
 refine Fn.aO UX (by simp) ?_
 unfold UW SC.mk' aj.enc
 simp only [mT,go_sem]
 by_cases h1:a.storable i w≠0
 ·rw [if_pos h1] at hR
  have h1':(a.storable i w !=0)=true:=by simpa using h1
  refine aQ (NK a i w) rfl rfl ?_
  simp only [h1',go_sem]
  exact Fin.aD _ rfl rfl (by rw [<-hR];simp [ay,rv,au,aj.enc])
 rw [if_neg h1] at hR
 have h1':(a.storable i w !=0)=false:=by simpa using h1
 have hi:a.slot i=true:=by
  unfold aj.storable at h1
  cases e:a.slot i
  ·rw [e] at h1;simp at h1
  ·rfl
 have h2:=Kj hi
 have hm:a.bU.length<=maxLen:=Nat.le_trans (show _<=10000 by omega) (by decide)
 have e1:List.take a.bU.length (a.bU.map aI.enc)=a.bU.map aI.enc:=bB (by simp)
 have e2:(a.bU.map aI.enc).set i.toNat [I s.seq,I s.epoch,I s.ready,I s.eH]=(a.bU.set i.toNat s).map aI.enc:=by rw [List.map_set];rfl
 have e4:List.take a.slots.length ((a.bU.map aI.enc).set i.toNat s.enc)=(a.bU.map aI.enc).set i.toNat s.enc:=bB (by simp [hs])
 have hnx:=NJ (show i.toNat<a.bU.length by omega)
 have e3:List.take a.bU.length ((a.bU.set i.toNat s).map aI.enc)=(a.bU.set i.toNat s).map aI.enc:=bB (by simp)
 refine aQ (NK a i w) rfl rfl ?_
 simp only [h1',go_sem]
 have aK:=iP s.seq 0 1099511627776
 have aV:=iP s.epoch 0 1099511627776
 have bL:=iP s.ready 0 1099511627776
 have dV:=iP s.eH 0 1099511627776
 have hJ:=ah e1 (ah e2 (ah hnx @mT))
 exact aZ
theorem amR (d:Dead) (hl:d.l.length<=100000):Fn Tryz.prog 394 [.agg d.enc] [] (I d.val) [] []:=JV d.cap d.l hl
theorem amS (a:aj) (w:Int) (d:Dead) (hl:d.l.length<=100000):Fn Tryz.prog 458 [.agg a.enc,I w,.agg d.enc] [] (.aG [.agg (a.l7 w d).1.enc,I (a.l7 w d).2]) [] []:=by
 generalize hR:a.l7 w d=R
 unfold aj.l7 at hR
 refine Fn.aO ajV (by simp) ?_
 unfold U4 SC.mk' aj.enc Dead.enc
 simp only [go_sem]
 have aK:=DX w
 have aV:=amR d hl
 exact aX
theorem amT (a:aj) (v:Int) (d:Dir) (hl:d.l.length<=70000):Fn Tryz.prog 461 [.agg a.enc,I v,.agg d.enc] [] (.aG [.agg (a.oG v d).1.enc,Bo (a.oG v d).2.1,I (a.oG v d).2.2]) [] []:=by
 generalize hR:a.oG v d=R
 unfold aj.oG at hR
 refine Fn.aO ajX (by simp) ?_
 unfold U8 SC.mk' aj.enc Dir.enc
 simp only [go_sem]
 have aK:=ze d hl
 have hJ:=trivial
 repeat' first
  |(first|refine sC ?_|refine sD ?_);simp only [hJ,aS,List.length_map,go_sem]
  |(first|refine bD (fun hq=> ?_) (fun hq=> ?_)|refine dS (fun hq=> ?_) (fun hq=> ?_)|refine dD (fun hq=> ?_) (fun hq=> ?_))<;>simp only [hq,hJ,aS,List.length_map,go_sem]
  |refine sM ?_;simp only [ay,rv,au,get,hJ,aS,List.length_map,go_sem]
  |refine bn ?_
  |fail
 all_goals clear aK hJ
 all_goals (subst hR;simp_all [aj.enc,rv,au,Int.ofNat_inj,-Int.not_lt,-Int.not_le])
end Go.Eng
namespace Go.Eng
open Go Go.Proofs
attribute [local go_sem] aS
theorem nC {l:List Int} {i:Nat} (h:i<l.length):nth (encI l) i=[I (gI l i)]:=bT (fun z=>[I z]) 0 h
theorem amU (l:aW):Fn Tryz.prog 469 [.agg l.enc] [] (.aG [.agg l.free.1.enc,I l.free.2]) [] []:=by
 generalize hR:l.free=R
 unfold aW.free at hR
 refine Fn.aO Vl (by simp) ?_
 unfold Vk SC.mk' aW.enc
 simp only [go_sem]
 exact aX
theorem amV (l:List Int) (p:Int) (j:Nat) (e:j<l.length) (hp:¬ (gI l j<0\/6<gI l j\/(0<j/\gI l j<=gI l (j - 1)))) (hq:j=0->p= -1) (hq2:0<j->p=gI l (j - 1)):l9 (l.drop j) p=l9 (l.drop (j+1)) (gI l j):=by
 rw [eD 0 e]
 simp only [l9,show l[j]?.getD 0=gI l j from rfl]
 have h1:dQ (gI l j) 0 6=true:=by simp [dQ];omega
 have h2:p<gI l j:=by
  rcases Nat.eq_zero_or_pos j with h|h
  ·rw [hq h];omega
  ·rw [hq2 h];omega
 simp [h1,h2]
theorem amW (cells:List Int) (hl:cells.length<=1000):Fn Tryz.prog 384 [.sl 1 (encI cells)] [] (.aG [.agg (aW.new cells).1.enc,I (aW.new cells).2]) [] []:=by
 generalize hR:aW.new cells=R
 unfold aW.new at hR
 refine Fn.aO Tg (by simp) ?_
 unfold Tf SC.mk'
 simp only [go_sem]
 by_cases h0:(cells.length:Int)=0\/3<(cells.length:Int)
 ·rw [if_pos (by simpa using h0)] at hR
  exact aX
 rw [if_neg (by simpa using h0)] at hR
 have g1:((cells.length:Int)==0)=false:=beq_eq_false_iff_ne.2 (by omega)
 have g2:¬ 3<(cells.length:Int):=by omega
 simp only [g1,g2,aS,go_sem]
 generalize hK:l9 cells (-1)=K at hR
 refine go_loop (fun j:{j:Nat // j<=cells.length/\l9 (cells.drop j) (if j=0 then -1 else gI cells (j - 1))=K}=>⟨2000,[(0,.sl 1 (encI cells)),(2,.ptr 8 0),(4,I j.1)],[(8,.box [Nl,I 0,I 0,I 0,I 0])]⟩) (fun j=>cells.length - j.1) ⟨0,by omega,hK⟩ (wk [(8,8)] []) ?_
 rintro ⟨j,hj,he⟩ B hB
 simp only [go_sem]
 by_cases e1:j<cells.length
 ·have e2:decide ((j:Int)<(cells.length:Int))=true:=by simp;omega
  have hw:=bQ (show j<=100000 by omega)
  have hx:=nC e1
  simp only [e2,hx,hw,aS,Int.toNat_natCast,go_sem]
  by_cases e3:gI cells j<0\/6<gI cells j\/(0<j/\gI cells j<=gI cells (j - 1))
  ·have hK2:K=false:=by
    rw [<-he,eD 0 e1]
    simp only [l9,show cells[j]?.getD 0=gI cells j from rfl]
    rcases e3 with h|h|h
    ·rw [show dQ (gI cells j) 0 6=false by simp [dQ];omega];simp
    ·rw [show dQ (gI cells j) 0 6=false by simp [dQ];omega];simp
    ·rw [if_neg (by omega),show decide (gI cells (j - 1)<gI cells j)=false from decide_eq_false (by omega)];simp
   rw [hK2,if_neg (by simp)] at hR
   by_cases f1:gI cells j<0
   ·simp only [f1,hx,aS,Int.toNat_natCast,go_sem]
    repeat (refine bn ?_)
    exact Fin.aD _ rfl rfl (by rw [<-hR];simp only [ay,rv,au,get,aW.enc,iO,go_sem])
   by_cases f2:6<gI cells j
   ·simp only [f1,f2,hx,aS,Int.toNat_natCast,go_sem]
    repeat (refine bn ?_)
    exact Fin.aD _ rfl rfl (by rw [<-hR];simp only [ay,rv,au,get,aW.enc,iO,go_sem])
   have f3:0<j/\gI cells j<=gI cells (j - 1):=by
    rcases e3 with h|h|h
    ·exact absurd h f1
    ·exact absurd h f2
    ·exact h
   have f4:decide ((0:Int)<(j:Int))=true:=by simp;omega
   have hz:IntKind.i64.wrap ((j:Int) - 1)=((j - 1:Nat):Int):=by rw [bF (by omega)];omega
   have hx2:=nC (show j - 1<cells.length by omega)
   simp only [f1,f2,f4,hz,hx,hx2,f3.2,aS,Int.toNat_natCast,go_sem]
   repeat (refine bn ?_)
   exact Fin.aD _ rfl rfl (by rw [<-hR];simp only [ay,rv,au,get,aW.enc,iO,go_sem])
  ·have f1:¬ gI cells j<0:=fun h=>e3 (.inl h)
   have f2:¬ 6<gI cells j:=fun h=>e3 (.inr (.inl h))
   have he2:l9 (cells.drop (j+1)) (if j+1=0 then -1 else gI cells (j+1 - 1))=K:=by
    rw [if_neg (by omega),Nat.add_sub_cancel,<-he]
    exact (amV cells _ j e1 e3 (fun h=>by rw [if_pos h]) (fun h=>by rw [if_neg (by omega)])).symm
   by_cases f5:0<j
   ·have f4:decide ((0:Int)<(j:Int))=true:=by simp;omega
    have f6:¬ gI cells j<=gI cells (j - 1):=fun h=>e3 (.inr (.inr ⟨f5,h⟩))
    have hz:IntKind.i64.wrap ((j:Int) - 1)=((j - 1:Nat):Int):=by rw [bF (by omega)];omega
    have hx2:=nC (show j - 1<cells.length by omega)
    simp only [f1,f2,f4,hz,hx,hx2,f6,hw,aS,Int.toNat_natCast,go_sem]
    repeat (refine bn ?_)
    exact hB _ ⟨j+1,by omega,he2⟩ (by simp only;omega) (wk [(8,8)] [])
   ·have f4:decide ((0:Int)<(j:Int))=false:=by simp;omega
    simp only [f1,f2,f4,hx,hw,aS,Int.toNat_natCast,go_sem]
    repeat (refine bn ?_)
    exact hB _ ⟨j+1,by omega,he2⟩ (by simp only;omega) (wk [(8,8)] [])
 ·have e2:decide ((j:Int)<(cells.length:Int))=false:=by simp;omega
  rw [eO (by omega)] at he
  simp only [l9] at he
  rw [<-he,if_pos rfl] at hR
  have hm:cells.length<=maxLen:=Nat.le_trans (show _<=10000 by omega) (by decide)
  have e4:List.take cells.length (encI cells)=encI cells:=bB (by rw [aS];omega)
  simp only [e2,aS,go_sem]
  repeat (refine bn ?_)
  exact Fin.aD _ rfl rfl (by rw [<-hR];simp only [ay,rv,au,get,aW.enc,e4,aS,go_sem];simp)
theorem adz (a:aj) (l:aW) (task:Int) (n:Nat) (ha:a.wf n) (hl:l.wf n):Fn Tryz.prog 414 [.agg a.enc,.agg l.enc,I task] [] (.aG [.agg (aW.step a l task).1.enc,.agg (aW.step a l task).2.1.enc,I (aW.step a l task).2.2]) [] []:=by
 generalize hR:aW.step a l task=R
 unfold aW.step at hR
 have hsl:a.slots.length<=1000:=by rw [ha.sl];have:=ha.n6;omega
 have h3:=hl.l3
 refine Fn.aO TY (by simp) ?_
 unfold TW SC.mk' aj.enc aW.enc
 simp only [go_sem]
 by_cases p0:(l.phase==0)=true
 ·rw [if_pos p0] at hR
  have q0:l.phase=0:=by simpa using p0
  have hg:0<=l.got/\l.got<l.cells.length:=by have:=hl.ph;omega
  have hx:=nC (show l.got.toNat<l.cells.length by omega)
  simp only [p0,hx,aS,go_sem]
  repeat (refine bn ?_)
  refine bX (amM a (gI l.cells l.got.toNat) task hsl) rfl rfl ?_
  simp only at hR
  generalize a.tryLock (gI l.cells l.got.toNat) task=x at hR
  simp only [aj.enc,go_sem]
  repeat (refine bn ?_)
  by_cases h1:x.2.2≠0
  ·rw [if_pos h1] at hR
   have h1':(x.2.2 !=0)=true:=by simpa using h1
   simp only [h1',go_sem]
   (
    repeat (refine bn ?_)
    exact Fin.aD _ rfl rfl (by rw [<-hR];simp only [ay,rv,au,get,aW.enc,aj.enc,iO,List.map_nil,go_sem]))
  rw [if_neg h1] at hR
  have h1':(x.2.2 !=0)=false:=by simpa using h1
  have hw:IntKind.i64.wrap (l.got+1)=l.got+1:=bF (by omega)
  simp only [h1',hw,aS,go_sem]
  by_cases h2:x.2.1=true
  ·rw [if_pos h2] at hR
   simp only [h2,hw,aS,go_sem]
   by_cases h4:(l.got+1==(l.cells.length:Int))=true
   ·rw [if_pos h4] at hR
    simp only [h4,go_sem]
    (
     repeat (refine bn ?_)
     exact Fin.aD _ rfl rfl (by rw [<-hR];simp only [ay,rv,au,get,aW.enc,aj.enc,iO,List.map_nil,go_sem]))
   ·rw [if_neg h4] at hR
    simp only [Bool.not_eq_true] at h4
    simp only [h4,go_sem]
    (
     repeat (refine bn ?_)
     exact Fin.aD _ rfl rfl (by rw [<-hR];simp only [ay,rv,au,get,aW.enc,aj.enc,iO,List.map_nil,go_sem]))
  ·rw [if_neg h2] at hR
   simp only [Bool.not_eq_true] at h2
   simp only [h2,go_sem]
   by_cases h4:0<l.got
   ·rw [if_pos h4] at hR
    simp only [h4,go_sem]
    (
     repeat (refine bn ?_)
     exact Fin.aD _ rfl rfl (by rw [<-hR];simp only [ay,rv,au,get,aW.enc,aj.enc,iO,List.map_nil,go_sem]))
   ·rw [if_neg h4] at hR
    simp only [h4,go_sem]
    (
     repeat (refine bn ?_)
     exact Fin.aD _ rfl rfl (by rw [<-hR];simp only [ay,rv,au,get,aW.enc,aj.enc,iO,List.map_nil,go_sem]))
 rw [if_neg p0] at hR
 simp only [Bool.not_eq_true] at p0
 by_cases p1:(l.phase==1||l.phase==4)=true
 ·rw [if_pos p1] at hR
  have hg:1<=l.got/\l.got<=l.cells.length:=by
   have q1:l.phase=1\/l.phase=4:=by simpa using p1
   have:=hl.ph;omega
  have hx:=nC (show (l.got - 1).toNat<l.cells.length by omega)
  have hw:IntKind.i64.wrap (l.got - 1)=l.got - 1:=bF (by omega)
  simp only at hR
  have tail:True:=trivial
  by_cases p2:(l.phase==1)=true
  ·have p3:(l.phase==4)=false:=by
    have:l.phase=1:=by simpa using p2
    simp [this]
   simp only [p3,Bool.false_eq_true,if_false] at hR
   simp only [p0,p2,hx,hw,aS,go_sem]
   repeat (refine bn ?_)
   refine bX (adx a (gI l.cells (l.got - 1).toNat) task hsl) rfl rfl ?_
   generalize a.unlock (gI l.cells (l.got - 1).toNat) task=x at hR
   simp only [aj.enc,go_sem]
   repeat (refine bn ?_)
   by_cases h1:x.2≠0
   ·rw [if_pos h1] at hR
    have h1':(x.2 !=0)=true:=by simpa using h1
    simp only [h1',go_sem]
    (
     repeat (refine bn ?_)
     exact Fin.aD _ rfl rfl (by rw [<-hR];simp only [ay,rv,au,get,aW.enc,aj.enc,iO,List.map_nil,go_sem]))
   rw [if_neg h1] at hR
   have h1':(x.2 !=0)=false:=by simpa using h1
   simp only [h1',hw,go_sem]
   by_cases h2:0<l.got - 1
   ·rw [if_pos h2] at hR
    simp only [h2,go_sem]
    (
     repeat (refine bn ?_)
     exact Fin.aD _ rfl rfl (by rw [<-hR];simp only [ay,rv,au,get,aW.enc,aj.enc,iO,List.map_nil,go_sem]))
   ·rw [if_neg h2] at hR
    simp only [h2,p3,go_sem]
    (
     repeat (refine bn ?_)
     exact Fin.aD _ rfl rfl (by rw [<-hR];simp only [ay,rv,au,get,aW.enc,aj.enc,iO,List.map_nil,go_sem]))
  ·simp only [Bool.not_eq_true] at p2
   have p3:(l.phase==4)=true:=by simpa [p2] using p1
   simp only [p3,if_true] at hR
   simp only [p0,p2,p3,hx,hw,aS,go_sem]
   repeat (refine bn ?_)
   refine bX (adx a (gI l.cells (l.got - 1).toNat) task hsl) rfl rfl ?_
   generalize a.unlock (gI l.cells (l.got - 1).toNat) task=x at hR
   simp only [aj.enc,go_sem]
   repeat (refine bn ?_)
   by_cases h1:x.2≠0
   ·rw [if_pos h1] at hR
    have h1':(x.2 !=0)=true:=by simpa using h1
    simp only [h1',go_sem]
    (
     repeat (refine bn ?_)
     exact Fin.aD _ rfl rfl (by rw [<-hR];simp only [ay,rv,au,get,aW.enc,aj.enc,iO,List.map_nil,go_sem]))
   rw [if_neg h1] at hR
   have h1':(x.2 !=0)=false:=by simpa using h1
   simp only [h1',hw,go_sem]
   by_cases h2:0<l.got - 1
   ·rw [if_pos h2] at hR
    simp only [h2,go_sem]
    (
     repeat (refine bn ?_)
     exact Fin.aD _ rfl rfl (by rw [<-hR];simp only [ay,rv,au,get,aW.enc,aj.enc,iO,List.map_nil,go_sem]))
   ·rw [if_neg h2] at hR
    simp only [h2,p3,go_sem]
    (
     repeat (refine bn ?_)
     exact Fin.aD _ rfl rfl (by rw [<-hR];simp only [ay,rv,au,get,aW.enc,aj.enc,iO,List.map_nil,go_sem]))
 rw [if_neg p1] at hR
 have p2:(l.phase==1)=false:=by
  cases h:(l.phase==1)
  ·rfl
  ·exact absurd (by simp [h]) p1
 have p3:(l.phase==4)=false:=by
  cases h:(l.phase==4)
  ·rfl
  ·exact absurd (by simp [h]) p1
 by_cases p4:(l.phase==2)=true
 ·rw [if_pos p4] at hR
  simp only [p0,p2,p3,p4,go_sem]
  generalize IntKind.i64.wrap (l.wait - 1)=w at hR ⊢
  by_cases h2:(w==0)=true
  ·rw [if_pos h2] at hR
   simp only [h2,go_sem]
   (
    repeat (refine bn ?_)
    exact Fin.aD _ rfl rfl (by rw [<-hR];simp only [ay,rv,au,get,aW.enc,aj.enc,iO,List.map_nil,go_sem]))
  ·rw [if_neg h2] at hR
   have h5:l.phase=2:=by simpa using p4
   simp only [Bool.not_eq_true] at h2
   simp only [h2,go_sem]
   repeat (refine bn ?_)
   exact Fin.aD _ rfl rfl (by rw [<-hR];simp only [ay,rv,au,get,aW.enc,aj.enc,h5,go_sem])
 ·rw [if_neg p4] at hR
  simp only [Bool.not_eq_true] at p4
  simp only [p0,p2,p3,p4,go_sem]
  (
   repeat (refine bn ?_)
   exact Fin.aD _ rfl rfl (by rw [<-hR];simp only [ay,rv,au,get,aW.enc,aj.enc,iO,List.map_nil,go_sem]))
end Go.Eng
namespace Go.Eng
open Go Go.Proofs
theorem tC (c:bH):Fn Tryz.prog 89 [.agg c.enc] [] (.agg (mF c).enc) [] []:=by
 generalize hR:mF c=R
 unfold mF at hR
 refine Fn.aO aiY (by simp) ?_
 unfold Qo SC.mk' bH.enc
 simp only [go_sem]
 exact aX
theorem amX (l:List Int) (a:Nat) (hl:l.length<=4000):Fn Tryz.prog 18 [.ptr 0 0] [dO l a] (.agg (DR l a).1.enc) [dO l (DR l a).2] []:=by
 generalize hR:DR l a=R
 unfold DR acR at hR
 simp only at hR
 refine Fn.aO aiN (by simp) ?_
 unfold Qb SC.mk'
 simp only [go_sem]
 have s1:=Dp l a 1 4
 have s2:=wH l a (lo:=1) (hi:=4) (by omega)
 refine eB (b:=0) (kY l a 1 4 hl (by omega) (by omega)) ⟨rfl,⟨rfl,rfl⟩,⟨rfl,rfl⟩,trivial⟩ rfl rfl rfl rfl ?_
 generalize fe l a 1 4=s at hR s1 s2 ⊢
 generalize eF l a 1 4=a1 at hR ⊢
 simp only [go_sem]
 refine eB (b:=0) (kY l a1 1 5 hl (by omega) (by omega)) ⟨rfl,⟨rfl,rfl⟩,⟨rfl,rfl⟩,trivial⟩ rfl rfl rfl rfl ?_
 generalize fe l a1 1 5=c at hR ⊢
 generalize eF l a1 1 5=a2 at hR ⊢
 simp only [go_sem]
 refine eB (b:=0) (kY l a2 1 4 hl (by omega) (by omega)) ⟨rfl,⟨rfl,rfl⟩,⟨rfl,rfl⟩,trivial⟩ rfl rfl rfl rfl ?_
 generalize fe l a2 1 4=d at hR ⊢
 generalize eF l a2 1 4=a3 at hR ⊢
 simp only [go_sem]
 refine eB (b:=0) (kY l a3 1 3 hl (by omega) (by omega)) ⟨rfl,⟨rfl,rfl⟩,⟨rfl,rfl⟩,trivial⟩ rfl rfl rfl rfl ?_
 generalize fe l a3 1 3=li at hR ⊢
 generalize eF l a3 1 3=a4 at hR ⊢
 simp only [go_sem]
 refine eB (b:=0) (kY l a4 1 s hl (by omega) (by omega)) ⟨rfl,⟨rfl,rfl⟩,⟨rfl,rfl⟩,trivial⟩ rfl rfl rfl rfl ?_
 generalize fe l a4 1 s=lv at hR ⊢
 generalize eF l a4 1 s=a5 at hR ⊢
 simp only [go_sem]
 refine eB (b:=0) (gU l a5 12 hl (by omega)) ⟨rfl,⟨rfl,rfl⟩,trivial⟩ rfl rfl rfl rfl ?_
 generalize nV l a5 12=k at hR ⊢
 generalize nN l a5 12=a6 at hR ⊢
 simp only [go_sem]
 by_cases k1:(k==9)=true
 ·rw [if_pos k1] at hR
  simp only [k1,go_sem]
  have b1:=oq l a6 200
  have b2:=ou l a6 (n:=200) (by omega)
  refine eB (b:=0) (gU l a6 200 hl (by omega)) ⟨rfl,⟨rfl,rfl⟩,trivial⟩ rfl rfl rfl rfl ?_
  simp only [bF (n:=1073741824 - nV l a6 200) (by omega),go_sem]
  subst hR
  exact Fin.mR _ rfl rfl rfl rfl rfl rfl rfl
 rw [if_neg k1] at hR
 simp only [Bool.not_eq_true] at k1
 simp only [k1,go_sem]
 by_cases k2:(k==10)=true
 ·rw [if_pos k2] at hR
  simp only [k2,go_sem]
  have b1:=oq l a6 4
  have b2:=ou l a6 (n:=4) (by omega)
  refine eB (b:=0) (gU l a6 4 hl (by omega)) ⟨rfl,⟨rfl,rfl⟩,trivial⟩ rfl rfl rfl rfl ?_
  simp only [bF (n:=1073741824 - nV l a6 4) (by omega),go_sem]
  subst hR
  exact Fin.mR _ rfl rfl rfl rfl rfl rfl rfl
 rw [if_neg k2] at hR
 simp only [Bool.not_eq_true] at k2
 simp only [k2,go_sem]
 by_cases k3:(k==11)=true
 ·rw [if_pos k3] at hR
  simp only [k3,go_sem]
  have b1:=oq l a6 3
  have b2:=ou l a6 (n:=3) (by omega)
  refine eB (b:=0) (gU l a6 3 hl (by omega)) ⟨rfl,⟨rfl,rfl⟩,trivial⟩ rfl rfl rfl rfl ?_
  simp only [bF (n:=65536 - nV l a6 3) (by omega),go_sem]
  subst hR
  exact Fin.mR _ rfl rfl rfl rfl rfl rfl rfl
 rw [if_neg k3] at hR
 simp only [Bool.not_eq_true] at k3
 simp only [k3,go_sem]
 subst hR
 exact Fin.mR _ rfl rfl rfl rfl rfl rfl rfl
end Go.Eng
