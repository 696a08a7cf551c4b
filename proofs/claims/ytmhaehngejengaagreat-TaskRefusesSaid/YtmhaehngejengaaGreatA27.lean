/-
  Part of a proof: lemmas and definitions of this work.
  No condition.
-/
import Derived.Test.YtmhaehngejengaaGreatA12
import Derived.Test.YtmhaehngejengaaGreatA26
set_option linter.all false
set_option maxRecDepth 100000
set_option maxHeartbeats 8000000
namespace Go.Eng
open Go Go.Proofs
attribute [local go_sem] List.length_map
@[simp] theorem jq:encI []=[]:=rfl
theorem jr (n a b:Int):Fn Tryz.prog 98 [I n,I a,I b] [] (Bo (inB n a b)) [] []:=by
 refine Fn.aN aaH (by simp) ?_
 unfold Nq SC.mk'
 simp only [go_sem]
 have hJ:=trivial
 repeat' first
  |(first|refine sC ?_|refine sD ?_);simp only [hJ,go_sem]
  |(first|refine bF (fun hq=> ?_) (fun hq=> ?_)|refine dY (fun hq=> ?_) (fun hq=> ?_)|refine dL (fun hq=> ?_) (fun hq=> ?_))<;>simp only [hq,hJ,go_sem]
  |refine sM ?_;simp only [ay,rv,au,get,hJ,go_sem]
  |refine bn ?_
  |fail
 all_goals clear hJ
 all_goals simp_all [inB,-Int.not_lt,-Int.not_le]
theorem DC (n:Int):Fn Tryz.prog 550 [I n] [] (Bo (yY n)) [] []:=by
 refine Fn.aN ak1 (by simp) ?_
 unfold V8 SC.mk'
 simp only [go_sem]
 have hJ:=trivial
 repeat' first
  |(first|refine sC ?_|refine sD ?_);simp only [hJ,go_sem]
  |(first|refine bF (fun hq=> ?_) (fun hq=> ?_)|refine dY (fun hq=> ?_) (fun hq=> ?_)|refine dL (fun hq=> ?_) (fun hq=> ?_))<;>simp only [hq,hJ,go_sem]
  |refine sM ?_;simp only [ay,rv,au,get,hJ,go_sem]
  |refine bn ?_
  |fail
 all_goals clear hJ
 all_goals simp_all [yY,-Int.not_lt,-Int.not_le]
theorem Xy (a:ak) (i:Int):Fn Tryz.prog 425 [.agg a.enc,I i] [] (Bo (a.slot i)) [] []:=by
 refine Fn.aN ajC (by simp) ?_
 unfold Ur SC.mk' ak.enc
 simp only [go_sem]
 have hJ:=trivial
 repeat' first
  |(first|refine sC ?_|refine sD ?_);simp only [hJ,List.length_map,go_sem]
  |(first|refine bF (fun hq=> ?_) (fun hq=> ?_)|refine dY (fun hq=> ?_) (fun hq=> ?_)|refine dL (fun hq=> ?_) (fun hq=> ?_))<;>simp only [hq,hJ,List.length_map,go_sem]
  |refine sM ?_;simp only [ay,rv,au,get,hJ,List.length_map,go_sem]
  |refine bn ?_
  |fail
 all_goals clear hJ
 all_goals simp_all [ak.slot,-Int.not_lt,-Int.not_le]
theorem FW {a:ak} {i:Int} (h:a.slot i=true):0≤i∧i.toNat<a.slots.length∧i<a.slots.length:=by
 simp [ak.slot] at h;omega
theorem Bh {l:List Slot} {i:Nat} (h:i<l.length):nth (l.map Slot.enc) i=Slot.enc (iU l i):=bZ Slot.enc Slot.z h
theorem OU {l:List aH} {i:Nat} (h:i<l.length):nth (l.map aH.enc) i=aH.enc (jG l i):=bZ aH.enc aH.z h
theorem acP (a:ak) (c:Int) (h0:0≤c) (h1:c≤a.slots.length):Fn Tryz.prog 551 [.agg a.enc,I c] [] (I (a.owner c)) [] []:=by
 generalize hR:a.owner c=R
 unfold ak.owner at hR
 refine Fn.aN ak2 (by simp) ?_
 unfold V9 SC.mk' ak.enc
 simp only [go_sem]
 by_cases h2:(c==(a.slots.length:Int))=true
 ·rw [if_pos h2] at hR
  simp only [h2,List.length_map,go_sem]
  exact Fin.mk0 _ rfl rfl (by rw [←hR];rfl)
 ·rw [if_neg h2] at hR
  simp only [Bool.not_eq_true] at h2
  have h3:c≠(a.slots.length:Int):=by simpa using h2
  simp only [h2,Bh (show c.toNat<a.slots.length by omega),Slot.enc,List.length_map,go_sem]
  repeat (refine bn ?_)
  exact Fin.mk0 _ rfl rfl (by rw [←hR];rfl)
theorem acQ (a:ak) (c w:Int) (h0:0≤c) (h1:c≤a.slots.length) (hl:a.slots.length≤1000):Fn Tryz.prog 552 [.agg a.enc,I c,I w] [] (.agg (a.own c w).enc) [] []:=by
 generalize hR:a.own c w=R
 unfold ak.own at hR
 refine Fn.aN ak3 (by simp) ?_
 unfold Wh SC.mk' ak.enc
 simp only [go_sem]
 by_cases h2:(c==(a.slots.length:Int))=true
 ·rw [if_pos h2] at hR
  simp only [h2,List.length_map,go_sem]
  exact Fin.mk0 _ rfl rfl (by rw [←hR];simp only [ay,rv,au,get,ak.enc,go_sem])
 ·rw [if_neg h2] at hR
  simp only [Bool.not_eq_true] at h2
  have h3:c≠(a.slots.length:Int):=by simpa using h2
  have hm:a.slots.length≤maxLen:=Nat.le_trans (show _≤10000 by omega) (by decide)
  have e1:List.take a.slots.length (a.slots.map Slot.enc)=a.slots.map Slot.enc:=bD (by simp)
  have e2:(a.slots.map Slot.enc).set c.toNat [I w,Bo (iU a.slots c.toNat).shard.live,I (iU a.slots c.toNat).shard.low,I (iU a.slots c.toNat).shard.high,.sl 7 ((iU a.slots c.toNat).shard.ready.cells.map ai.enc),I (iU a.slots c.toNat).shard.ready.head,I (iU a.slots c.toNat).shard.ready.size,.sl 8 ((iU a.slots c.toNat).shard.aP.l.map Lease.enc),.sl 2 ((iU a.slots c.toNat).shard.aP.heap.map Due.enc)]=(a.slots.set c.toNat {iU a.slots c.toNat with owner:=w}).map Slot.enc:=by rw [List.map_set];rfl
  have e3:List.take a.slots.length ((a.slots.set c.toNat {iU a.slots c.toNat with owner:=w}).map Slot.enc)=(a.slots.set c.toNat {iU a.slots c.toNat with owner:=w}).map Slot.enc:=bD (by simp)
  simp only [h2,e1,e2,Bh (show c.toNat<a.slots.length by omega),Slot.enc,List.length_map,go_sem]
  repeat (refine bn ?_)
  exact Fin.mk0 _ rfl rfl (by rw [←hR];simp only [ay,rv,au,get,ak.enc,e3,List.length_map,List.length_set,go_sem];simp)
theorem anS (a:ak) (c w:Int) (hl:a.slots.length≤1000):Fn Tryz.prog 535 [.agg a.enc,I c,I w] [] (.aF [.agg (a.tryLock c w).1.enc,Bo (a.tryLock c w).2.1,I (a.tryLock c w).2.2]) [] []:=by
 generalize hR:a.tryLock c w=R
 unfold ak.tryLock at hR
 refine Fn.aN akN (by simp) ?_
 unfold VO SC.mk' ak.enc
 simp only [go_sem]
 by_cases h0:c<0∨(a.slots.length:Int)<c∨yY w=false
 ·rw [if_pos (by simpa using h0)] at hR
  have aI:=DC w
  exact aX
 rw [if_neg (by simpa using h0)] at hR
 have g1:0≤c:=by omega
 have g2:c≤a.slots.length:=by omega
 have aI:=DC w
 have aU:=acP a c g1 g2
 have bK:=acQ a c w g1 g2 hl
 have hJ:=ak.enc.eq_1
 exact aZ
theorem acR (a:ak) (c w:Int) (hl:a.slots.length≤1000):Fn Tryz.prog 536 [.agg a.enc,I c,I w] [] (.aF [.agg (a.unlock c w).1.enc,I (a.unlock c w).2]) [] []:=by
 generalize hR:a.unlock c w=R
 unfold ak.unlock at hR
 refine Fn.aN akO (by simp) ?_
 unfold VQ SC.mk' ak.enc
 simp only [go_sem]
 by_cases h0:c<0∨(a.slots.length:Int)<c∨yY w=false
 ·rw [if_pos (by simpa using h0)] at hR
  have aI:=DC w
  exact aX
 rw [if_neg (by simpa using h0)] at hR
 have g1:0≤c:=by omega
 have g2:c≤a.slots.length:=by omega
 have aI:=DC w
 have aU:=acP a c g1 g2
 have bK:=acQ a c 0 g1 g2 hl
 have hJ:=ak.enc.eq_1
 exact aZ
theorem anT (a:ak) (i:Int):Fn Tryz.prog 540 [.agg a.enc,I i] [] (.aF [.agg (a.lD i).1.enc,I (a.lD i).2]) [] []:=by
 generalize hR:a.lD i=R
 unfold ak.lD at hR
 refine Fn.aN akS (by simp) ?_
 unfold VW SC.mk' ak.enc
 simp only [go_sem]
 refine aO (Xy a i) rfl rfl ?_
 simp only [go_sem]
 by_cases h1:a.slot i=true
 ·have h2:=FW h1
  simp only [h1,Bool.not_true,Bool.false_eq_true,if_false] at hR
  simp only [h1,Bool.not_true,Bh h2.2.1,Slot.enc,List.length_map,go_sem]
  repeat (refine bn ?_)
  exact Fin.mk0 _ rfl rfl (by rw [←hR];simp only [ay,rv,au,get,aj.enc,go_sem])
 ·simp only [Bool.not_eq_true] at h1
  simp only [h1,Bool.not_false,if_true] at hR
  simp only [h1,Bool.not_false,go_sem]
  exact Fin.mk0 _ rfl rfl (by rw [←hR];simp only [ay,rv,au,get,aj.enc,List.map_nil,go_sem])
theorem Xz (a:ak) (i:Int) (hs:a.cu.length=a.slots.length):Fn Tryz.prog 361 [.agg a.enc,I i] [] (.aF [.agg (a.rP i).1.enc,I (a.rP i).2]) [] []:=by
 generalize hR:a.rP i=R
 unfold ak.rP at hR
 refine Fn.aN ajd (by simp) ?_
 unfold TK SC.mk' ak.enc
 simp only [go_sem]
 refine aO (Xy a i) rfl rfl ?_
 simp only [go_sem]
 by_cases h1:a.slot i=true
 ·have h2:=FW h1
  simp only [h1,Bool.not_true,Bool.false_eq_true,if_false] at hR
  simp only [h1,Bool.not_true,OU (show i.toNat<a.cu.length by omega),mT,List.length_map,go_sem]
  repeat (refine bn ?_)
  exact Fin.mk0 _ rfl rfl (by rw [←hR];simp only [ay,rv,au,get,mT,go_sem])
 ·simp only [Bool.not_eq_true] at h1
  simp only [h1,Bool.not_false,if_true] at hR
  simp only [h1,Bool.not_false,go_sem]
  exact Fin.mk0 _ rfl rfl (by rw [←hR];simp only [ay,rv,au,get,mT,List.map_nil,go_sem])
theorem OV (a:ak) (i w:Int):Fn Tryz.prog 553 [.agg a.enc,I i,I w] [] (I (a.storable i w)) [] []:=by
 generalize hR:a.storable i w=R
 unfold ak.storable at hR
 refine Fn.aN ak4 (by simp) ?_
 unfold Wi SC.mk' ak.enc
 simp only [go_sem]
 refine aO (Xy a i) rfl rfl ?_
 simp only [go_sem]
 by_cases h1:a.slot i=true
 ·have h2:=FW h1
  simp only [h1,Bool.not_true,Bh h2.2.1,Slot.enc,List.length_map,go_sem]
  have aI:=DC w
  have hJ:=ah (Bh h2.2.1) Slot.enc.eq_1
  exact aZ
 ·simp only [Bool.not_eq_true] at h1
  simp only [h1,Bool.not_false,Bool.true_or,if_true] at hR
  simp only [h1,Bool.not_false,go_sem]
  exact Fin.mk0 _ rfl rfl (by rw [←hR];rfl)
theorem anU (a:ak):Fn Tryz.prog 539 [.agg a.enc] [] (.agg a.dead.dead.enc) [] []:=by
 refine Fn.aN akR (by simp) ?_
 unfold VU SC.mk' ak.enc Dead.enc
 simp only [go_sem]
 exact Fin.mk0 _ rfl rfl (by simp only [ay,rv,au,get,go_sem])
theorem OW (a:ak):Fn Tryz.prog 351 [.agg a.enc] [] (.agg a.dir.enc) [] []:=by
 refine Fn.aN ai4 (by simp) ?_
 unfold Tv SC.mk' ak.enc Dir.enc
 simp only [go_sem]
 exact Fin.mk0 _ rfl rfl (by simp only [ay,rv,au,get,go_sem])
theorem Bj (a:ak) (w:Int):Fn Tryz.prog 342 [.agg a.enc,I w] [] (.aF [I (a.load w).1,I (a.load w).2]) [] []:=by
 generalize hR:a.load w=R
 unfold ak.load at hR
 refine Fn.aN aiV (by simp) ?_
 unfold S9 SC.mk' ak.enc
 simp only [go_sem]
 exact aX
theorem acS (a:ak) (w o x:Int):Fn Tryz.prog 345 [.agg a.enc,I w,I o,I x] [] (.aF [.agg (a.nG w o x).1.enc,Bo (a.nG w o x).2.1,I (a.nG w o x).2.2]) [] []:=by
 generalize hR:a.nG w o x=R
 unfold ak.nG at hR
 refine Fn.aN aiY (by simp) ?_
 unfold Tf SC.mk' ak.enc
 simp only [go_sem]
 have aI:=jr x 0 65536
 have aU:=jr x 1 1073741824
 have bK:=Bj a w
 exact aX
theorem anV (a:ak) (b:Int):Fn Tryz.prog 183 [.agg a.enc,I b] [] (.aF [.agg (a.tick b).1.enc,I (a.tick b).2]) [] []:=by
 generalize hR:a.tick b=R
 unfold ak.tick at hR
 refine Fn.aN aiG (by simp) ?_
 unfold Sz SC.mk' ak.enc
 simp only [go_sem]
 have aI:=jr b 0 1099511627776
 exact aX
theorem anW (a:ak) (i w:Int) (s:aj) (hs:s.sm) (hl:a.slots.length≤1000):Fn Tryz.prog 542 [.agg a.enc,I i,I w,.agg s.enc] [] (.aF [.agg (a.nC i w s).1.enc,I (a.nC i w s).2]) [] []:=by
 generalize hR:a.nC i w s=R
 unfold ak.nC at hR
 refine Fn.aN akU (by simp) ?_
 unfold VY SC.mk' ak.enc aj.enc
 simp only [go_sem]
 by_cases h1:a.storable i w≠0
 ·rw [if_pos h1] at hR
  have h1':(a.storable i w !=0)=true:=by simpa using h1
  refine aO (OV a i w) rfl rfl ?_
  simp only [h1',go_sem]
  exact Fin.mk0 _ rfl rfl (by rw [←hR];simp [ay,rv,au,ak.enc])
 rw [if_neg h1] at hR
 have h1':(a.storable i w !=0)=false:=by simpa using h1
 have hi:a.slot i=true:=by
  unfold ak.storable at h1
  cases e:a.slot i
  ·rw [e] at h1;simp at h1
  ·rfl
 have h2:=FW hi
 refine aO (OV a i w) rfl rfl ?_
 simp only [h1',go_sem]
 refine aO (Be s hs) rfl rfl ?_
 simp only [go_sem]
 by_cases h3:s.val≠0
 ·rw [if_pos h3] at hR
  have h3':(s.val !=0)=true:=by simpa using h3
  simp only [h3',go_sem]
  exact Fin.mk0 _ rfl rfl (by rw [←hR];simp [ay,rv,au,ak.enc])
 rw [if_neg h3] at hR
 have h3':(s.val !=0)=false:=by simpa using h3
 have hm:a.slots.length≤maxLen:=Nat.le_trans (show _≤10000 by omega) (by decide)
 have e1:List.take a.slots.length (a.slots.map Slot.enc)=a.slots.map Slot.enc:=bD (by simp)
 have e2:(a.slots.map Slot.enc).set i.toNat [I (iU a.slots i.toNat).owner,Bo s.live,I s.low,I s.high,.sl 7 (s.ready.cells.map ai.enc),I s.ready.head,I s.ready.size,.sl 8 (s.aP.l.map Lease.enc),.sl 2 (s.aP.heap.map Due.enc)]=(a.slots.set i.toNat {iU a.slots i.toNat with shard:=s}).map Slot.enc:=by rw [List.map_set];rfl
 have e3:List.take a.slots.length ((a.slots.set i.toNat {iU a.slots i.toNat with shard:=s}).map Slot.enc)=(a.slots.set i.toNat {iU a.slots i.toNat with shard:=s}).map Slot.enc:=bD (by simp)
 simp only [h3',Bh h2.2.1,Slot.enc,List.length_map,go_sem]
 repeat (refine bn ?_)
 by_cases h4:s.ready.cells.length≠(iU a.slots i.toNat).shard.ready.cells.length
 ·rw [if_pos h4] at hR
  have h4':((s.ready.cells.length:Int) !=((iU a.slots i.toNat).shard.ready.cells.length:Int))=true:=by simp;omega
  simp only [h4',go_sem]
  exact Fin.mk0 _ rfl rfl (by rw [←hR];simp [ay,rv,au,ak.enc])
 rw [if_neg h4] at hR
 have h4':((s.ready.cells.length:Int) !=((iU a.slots i.toNat).shard.ready.cells.length:Int))=false:=by simp;omega
 simp only [h4',e1,e2,Bh h2.2.1,Slot.enc,List.length_map,go_sem]
 repeat (refine bn ?_)
 exact Fin.mk0 _ rfl rfl (by rw [←hR];simp only [ay,rv,au,get,ak.enc,e3,List.length_map,List.length_set,go_sem];simp)
theorem XA (a:ak) (i w:Int) (s:aH) (hs:a.cu.length=a.slots.length) (hl:a.slots.length≤1000):Fn Tryz.prog 538 [.agg a.enc,I i,I w,.agg s.enc] [] (.aF [.agg (a.jW i w s).1.enc,I (a.jW i w s).2]) [] []:=by
 generalize hR:a.jW i w s=R
 unfold ak.jW at hR
 refine Fn.aN akQ (by simp) ?_
 unfold VT SC.mk' ak.enc
 simp only [mT,go_sem]
 by_cases h1:a.storable i w≠0
 ·rw [if_pos h1] at hR
  have h1':(a.storable i w !=0)=true:=by simpa using h1
  refine aO (OV a i w) rfl rfl ?_
  simp only [h1',go_sem]
  exact Fin.mk0 _ rfl rfl (by rw [←hR];simp [ay,rv,au,ak.enc])
 rw [if_neg h1] at hR
 have h1':(a.storable i w !=0)=false:=by simpa using h1
 have hi:a.slot i=true:=by
  unfold ak.storable at h1
  cases e:a.slot i
  ·rw [e] at h1;simp at h1
  ·rfl
 have h2:=FW hi
 have hm:a.cu.length≤maxLen:=Nat.le_trans (show _≤10000 by omega) (by decide)
 have e1:List.take a.cu.length (a.cu.map aH.enc)=a.cu.map aH.enc:=bD (by simp)
 have e2:(a.cu.map aH.enc).set i.toNat [I s.seq,I s.epoch,I s.ready,I s.fB]=(a.cu.set i.toNat s).map aH.enc:=by rw [List.map_set];rfl
 have e4:List.take a.slots.length ((a.cu.map aH.enc).set i.toNat s.enc)=(a.cu.map aH.enc).set i.toNat s.enc:=bD (by simp [hs])
 have hnx:=OU (show i.toNat<a.cu.length by omega)
 have e3:List.take a.cu.length ((a.cu.set i.toNat s).map aH.enc)=(a.cu.set i.toNat s).map aH.enc:=bD (by simp)
 refine aO (OV a i w) rfl rfl ?_
 simp only [h1',go_sem]
 have aI:=jr s.seq 0 1099511627776
 have aU:=jr s.epoch 0 1099511627776
 have bK:=jr s.ready 0 1099511627776
 have eF:=jr s.fB 0 1099511627776
 have hJ:=ah e1 (ah e2 (ah hnx @mT))
 exact aZ
theorem anX (d:Dead) (hl:d.l.length≤100000):Fn Tryz.prog 489 [.agg d.enc] [] (I d.val) [] []:=Fj d.cap d.l hl
theorem anY (a:ak) (w:Int) (d:Dead) (hl:d.l.length≤100000):Fn Tryz.prog 541 [.agg a.enc,I w,.agg d.enc] [] (.aF [.agg (a.nD w d).1.enc,I (a.nD w d).2]) [] []:=by
 generalize hR:a.nD w d=R
 unfold ak.nD at hR
 refine Fn.aN akT (by simp) ?_
 unfold VX SC.mk' ak.enc Dead.enc
 simp only [go_sem]
 have aI:=DC w
 have aU:=anX d hl
 exact aX
theorem anZ (a:ak) (v:Int) (d:Dir) (hl:d.l.length≤70000):Fn Tryz.prog 544 [.agg a.enc,I v,.agg d.enc] [] (.aF [.agg (a.qo v d).1.enc,Bo (a.qo v d).2.1,I (a.qo v d).2.2]) [] []:=by
 generalize hR:a.qo v d=R
 unfold ak.qo at hR
 refine Fn.aN akW (by simp) ?_
 unfold V3 SC.mk' ak.enc Dir.enc
 simp only [go_sem]
 have aI:=Bf d hl
 have hJ:=trivial
 repeat' first
  |(first|refine sC ?_|refine sD ?_);simp only [hJ,aS,List.length_map,go_sem]
  |(first|refine bF (fun hq=> ?_) (fun hq=> ?_)|refine dY (fun hq=> ?_) (fun hq=> ?_)|refine dL (fun hq=> ?_) (fun hq=> ?_))<;>simp only [hq,hJ,aS,List.length_map,go_sem]
  |refine sM ?_;simp only [ay,rv,au,get,hJ,aS,List.length_map,go_sem]
  |refine bn ?_
  |fail
 all_goals clear aI hJ
 all_goals (subst hR;simp_all [ak.enc,rv,au,Int.ofNat_inj,-Int.not_lt,-Int.not_le])
end Go.Eng
namespace Go.Eng
open Go Go.Proofs
attribute [local go_sem] aS
theorem oU {l:List Int} {i:Nat} (h:i<l.length):nth (encI l) i=[I (gI l i)]:=bZ (fun z=>[I z]) 0 h
theorem an0 (l:bf):Fn Tryz.prog 548 [.agg l.enc] [] (.aF [.agg l.free.1.enc,I l.free.2]) [] []:=by
 generalize hR:l.free=R
 unfold bf.free at hR
 refine Fn.aN ak0 (by simp) ?_
 unfold V7 SC.mk' bf.enc
 simp only [go_sem]
 exact aX
theorem an1 (l:List Int) (p:Int) (j:Nat) (e:j<l.length) (hp:¬ (gI l j<0∨6<gI l j∨(0<j∧gI l j≤gI l (j - 1)))) (hq:j=0→p= -1) (hq2:0<j→p=gI l (j - 1)):nH (l.drop j) p=nH (l.drop (j+1)) (gI l j):=by
 rw [eP 0 e]
 simp only [nH,show l[j]?.getD 0=gI l j from rfl]
 have h1:inB (gI l j) 0 6=true:=by simp [inB];omega
 have h2:p<gI l j:=by
  rcases Nat.eq_zero_or_pos j with h|h
  ·rw [hq h];omega
  ·rw [hq2 h];omega
 simp [h1,h2]
theorem an2 (cells:List Int) (hl:cells.length≤1000):Fn Tryz.prog 479 [.sl 1 (encI cells)] [] (.aF [.agg (bf.new cells).1.enc,I (bf.new cells).2]) [] []:=by
 generalize hR:bf.new cells=R
 unfold bf.new at hR
 refine Fn.aN aj3 (by simp) ?_
 unfold UX SC.mk'
 simp only [go_sem]
 by_cases h0:(cells.length:Int)=0∨3<(cells.length:Int)
 ·rw [if_pos (by simpa using h0)] at hR
  exact aX
 rw [if_neg (by simpa using h0)] at hR
 have g1:((cells.length:Int)==0)=false:=beq_eq_false_iff_ne.2 (by omega)
 have g2:¬ 3<(cells.length:Int):=by omega
 simp only [g1,g2,aS,go_sem]
 generalize hK:nH cells (-1)=K at hR
 refine go_loop (fun j:{j:Nat // j≤cells.length∧nH (cells.drop j) (if j=0 then -1 else gI cells (j - 1))=K}=>⟨2000,[(0,.sl 1 (encI cells)),(2,.ptr 8 0),(4,I j.1)],[(8,.box [Nl,I 0,I 0,I 0,I 0])]⟩) (fun j=>cells.length - j.1) ⟨0,by omega,hK⟩ (wk [(8,8)] []) ?_
 rintro ⟨j,hj,he⟩ B hB
 simp only [go_sem]
 by_cases e1:j<cells.length
 ·have e2:decide ((j:Int)<(cells.length:Int))=true:=by simp;omega
  have hw:=cZ (show j≤100000 by omega)
  have hx:=oU e1
  simp only [e2,hx,hw,aS,Int.toNat_natCast,go_sem]
  by_cases e3:gI cells j<0∨6<gI cells j∨(0<j∧gI cells j≤gI cells (j - 1))
  ·have hK2:K=false:=by
    rw [←he,eP 0 e1]
    simp only [nH,show cells[j]?.getD 0=gI cells j from rfl]
    rcases e3 with h|h|h
    ·rw [show inB (gI cells j) 0 6=false by simp [inB];omega];simp
    ·rw [show inB (gI cells j) 0 6=false by simp [inB];omega];simp
    ·rw [if_neg (by omega),show decide (gI cells (j - 1)<gI cells j)=false from decide_eq_false (by omega)];simp
   rw [hK2,if_neg (by simp)] at hR
   by_cases f1:gI cells j<0
   ·simp only [f1,hx,aS,Int.toNat_natCast,go_sem]
    repeat (refine bn ?_)
    exact Fin.mk0 _ rfl rfl (by rw [←hR];simp only [ay,rv,au,get,bf.enc,jq,go_sem])
   by_cases f2:6<gI cells j
   ·simp only [f1,f2,hx,aS,Int.toNat_natCast,go_sem]
    repeat (refine bn ?_)
    exact Fin.mk0 _ rfl rfl (by rw [←hR];simp only [ay,rv,au,get,bf.enc,jq,go_sem])
   have f3:0<j∧gI cells j≤gI cells (j - 1):=by
    rcases e3 with h|h|h
    ·exact absurd h f1
    ·exact absurd h f2
    ·exact h
   have f4:decide ((0:Int)<(j:Int))=true:=by simp;omega
   have hz:IntKind.i64.wrap ((j:Int) - 1)=((j - 1:Nat):Int):=by rw [bH (by omega)];omega
   have hx2:=oU (show j - 1<cells.length by omega)
   simp only [f1,f2,f4,hz,hx,hx2,f3.2,aS,Int.toNat_natCast,go_sem]
   repeat (refine bn ?_)
   exact Fin.mk0 _ rfl rfl (by rw [←hR];simp only [ay,rv,au,get,bf.enc,jq,go_sem])
  ·have f1:¬ gI cells j<0:=fun h=>e3 (.inl h)
   have f2:¬ 6<gI cells j:=fun h=>e3 (.inr (.inl h))
   have he2:nH (cells.drop (j+1)) (if j+1=0 then -1 else gI cells (j+1 - 1))=K:=by
    rw [if_neg (by omega),Nat.add_sub_cancel,←he]
    exact (an1 cells _ j e1 e3 (fun h=>by rw [if_pos h]) (fun h=>by rw [if_neg (by omega)])).symm
   by_cases f5:0<j
   ·have f4:decide ((0:Int)<(j:Int))=true:=by simp;omega
    have f6:¬ gI cells j≤gI cells (j - 1):=fun h=>e3 (.inr (.inr ⟨f5,h⟩))
    have hz:IntKind.i64.wrap ((j:Int) - 1)=((j - 1:Nat):Int):=by rw [bH (by omega)];omega
    have hx2:=oU (show j - 1<cells.length by omega)
    simp only [f1,f2,f4,hz,hx,hx2,f6,hw,aS,Int.toNat_natCast,go_sem]
    repeat (refine bn ?_)
    exact hB _ ⟨j+1,by omega,he2⟩ (by simp only;omega) (wk [(8,8)] [])
   ·have f4:decide ((0:Int)<(j:Int))=false:=by simp;omega
    simp only [f1,f2,f4,hx,hw,aS,Int.toNat_natCast,go_sem]
    repeat (refine bn ?_)
    exact hB _ ⟨j+1,by omega,he2⟩ (by simp only;omega) (wk [(8,8)] [])
 ·have e2:decide ((j:Int)<(cells.length:Int))=false:=by simp;omega
  rw [fF (by omega)] at he
  simp only [nH] at he
  rw [←he,if_pos rfl] at hR
  have hm:cells.length≤maxLen:=Nat.le_trans (show _≤10000 by omega) (by decide)
  have e4:List.take cells.length (encI cells)=encI cells:=bD (by rw [aS];omega)
  simp only [e2,aS,go_sem]
  repeat (refine bn ?_)
  exact Fin.mk0 _ rfl rfl (by rw [←hR];simp only [ay,rv,au,get,bf.enc,e4,aS,go_sem];simp)
theorem acT (a:ak) (l:bf) (task:Int) (n:Nat) (ha:a.wf n) (hl:l.wf n):Fn Tryz.prog 510 [.agg a.enc,.agg l.enc,I task] [] (.aF [.agg (bf.step a l task).1.enc,.agg (bf.step a l task).2.1.enc,I (bf.step a l task).2.2]) [] []:=by
 generalize hR:bf.step a l task=R
 unfold bf.step at hR
 have hsl:a.slots.length≤1000:=by rw [ha.sl];have:=ha.n6;omega
 have h3:=hl.l3
 refine Fn.aN akt (by simp) ?_
 unfold Vq SC.mk' ak.enc bf.enc
 simp only [go_sem]
 by_cases p0:(l.phase==0)=true
 ·rw [if_pos p0] at hR
  have q0:l.phase=0:=by simpa using p0
  have hg:0≤l.got∧l.got<l.cells.length:=by have:=hl.ph;omega
  have hx:=oU (show l.got.toNat<l.cells.length by omega)
  simp only [p0,hx,aS,go_sem]
  repeat (refine bn ?_)
  refine dh (anS a (gI l.cells l.got.toNat) task hsl) rfl rfl ?_
  simp only at hR
  generalize a.tryLock (gI l.cells l.got.toNat) task=x at hR
  simp only [ak.enc,go_sem]
  repeat (refine bn ?_)
  by_cases h1:x.2.2≠0
  ·rw [if_pos h1] at hR
   have h1':(x.2.2 !=0)=true:=by simpa using h1
   simp only [h1',go_sem]
   (
    repeat (refine bn ?_)
    exact Fin.mk0 _ rfl rfl (by rw [←hR];simp only [ay,rv,au,get,bf.enc,ak.enc,jq,List.map_nil,go_sem]))
  rw [if_neg h1] at hR
  have h1':(x.2.2 !=0)=false:=by simpa using h1
  have hw:IntKind.i64.wrap (l.got+1)=l.got+1:=bH (by omega)
  simp only [h1',hw,aS,go_sem]
  by_cases h2:x.2.1=true
  ·rw [if_pos h2] at hR
   simp only [h2,hw,aS,go_sem]
   by_cases h4:(l.got+1==(l.cells.length:Int))=true
   ·rw [if_pos h4] at hR
    simp only [h4,go_sem]
    (
     repeat (refine bn ?_)
     exact Fin.mk0 _ rfl rfl (by rw [←hR];simp only [ay,rv,au,get,bf.enc,ak.enc,jq,List.map_nil,go_sem]))
   ·rw [if_neg h4] at hR
    simp only [Bool.not_eq_true] at h4
    simp only [h4,go_sem]
    (
     repeat (refine bn ?_)
     exact Fin.mk0 _ rfl rfl (by rw [←hR];simp only [ay,rv,au,get,bf.enc,ak.enc,jq,List.map_nil,go_sem]))
  ·rw [if_neg h2] at hR
   simp only [Bool.not_eq_true] at h2
   simp only [h2,go_sem]
   by_cases h4:0<l.got
   ·rw [if_pos h4] at hR
    simp only [h4,go_sem]
    (
     repeat (refine bn ?_)
     exact Fin.mk0 _ rfl rfl (by rw [←hR];simp only [ay,rv,au,get,bf.enc,ak.enc,jq,List.map_nil,go_sem]))
   ·rw [if_neg h4] at hR
    simp only [h4,go_sem]
    (
     repeat (refine bn ?_)
     exact Fin.mk0 _ rfl rfl (by rw [←hR];simp only [ay,rv,au,get,bf.enc,ak.enc,jq,List.map_nil,go_sem]))
 rw [if_neg p0] at hR
 simp only [Bool.not_eq_true] at p0
 by_cases p1:(l.phase==1||l.phase==4)=true
 ·rw [if_pos p1] at hR
  have hg:1≤l.got∧l.got≤l.cells.length:=by
   have q1:l.phase=1∨l.phase=4:=by simpa using p1
   have:=hl.ph;omega
  have hx:=oU (show (l.got - 1).toNat<l.cells.length by omega)
  have hw:IntKind.i64.wrap (l.got - 1)=l.got - 1:=bH (by omega)
  simp only at hR
  have tail:True:=trivial
  by_cases p2:(l.phase==1)=true
  ·have p3:(l.phase==4)=false:=by
    have:l.phase=1:=by simpa using p2
    simp [this]
   simp only [p3,Bool.false_eq_true,if_false] at hR
   simp only [p0,p2,hx,hw,aS,go_sem]
   repeat (refine bn ?_)
   refine dh (acR a (gI l.cells (l.got - 1).toNat) task hsl) rfl rfl ?_
   generalize a.unlock (gI l.cells (l.got - 1).toNat) task=x at hR
   simp only [ak.enc,go_sem]
   repeat (refine bn ?_)
   by_cases h1:x.2≠0
   ·rw [if_pos h1] at hR
    have h1':(x.2 !=0)=true:=by simpa using h1
    simp only [h1',go_sem]
    (
     repeat (refine bn ?_)
     exact Fin.mk0 _ rfl rfl (by rw [←hR];simp only [ay,rv,au,get,bf.enc,ak.enc,jq,List.map_nil,go_sem]))
   rw [if_neg h1] at hR
   have h1':(x.2 !=0)=false:=by simpa using h1
   simp only [h1',hw,go_sem]
   by_cases h2:0<l.got - 1
   ·rw [if_pos h2] at hR
    simp only [h2,go_sem]
    (
     repeat (refine bn ?_)
     exact Fin.mk0 _ rfl rfl (by rw [←hR];simp only [ay,rv,au,get,bf.enc,ak.enc,jq,List.map_nil,go_sem]))
   ·rw [if_neg h2] at hR
    simp only [h2,p3,go_sem]
    (
     repeat (refine bn ?_)
     exact Fin.mk0 _ rfl rfl (by rw [←hR];simp only [ay,rv,au,get,bf.enc,ak.enc,jq,List.map_nil,go_sem]))
  ·simp only [Bool.not_eq_true] at p2
   have p3:(l.phase==4)=true:=by simpa [p2] using p1
   simp only [p3,if_true] at hR
   simp only [p0,p2,p3,hx,hw,aS,go_sem]
   repeat (refine bn ?_)
   refine dh (acR a (gI l.cells (l.got - 1).toNat) task hsl) rfl rfl ?_
   generalize a.unlock (gI l.cells (l.got - 1).toNat) task=x at hR
   simp only [ak.enc,go_sem]
   repeat (refine bn ?_)
   by_cases h1:x.2≠0
   ·rw [if_pos h1] at hR
    have h1':(x.2 !=0)=true:=by simpa using h1
    simp only [h1',go_sem]
    (
     repeat (refine bn ?_)
     exact Fin.mk0 _ rfl rfl (by rw [←hR];simp only [ay,rv,au,get,bf.enc,ak.enc,jq,List.map_nil,go_sem]))
   rw [if_neg h1] at hR
   have h1':(x.2 !=0)=false:=by simpa using h1
   simp only [h1',hw,go_sem]
   by_cases h2:0<l.got - 1
   ·rw [if_pos h2] at hR
    simp only [h2,go_sem]
    (
     repeat (refine bn ?_)
     exact Fin.mk0 _ rfl rfl (by rw [←hR];simp only [ay,rv,au,get,bf.enc,ak.enc,jq,List.map_nil,go_sem]))
   ·rw [if_neg h2] at hR
    simp only [h2,p3,go_sem]
    (
     repeat (refine bn ?_)
     exact Fin.mk0 _ rfl rfl (by rw [←hR];simp only [ay,rv,au,get,bf.enc,ak.enc,jq,List.map_nil,go_sem]))
 rw [if_neg p1] at hR
 have p2:(l.phase==1)=false:=by
  cases h:(l.phase==1)
  ·rfl
  ·exact absurd (by simp [h]) p1
 have p3:(l.phase==4)=false:=by
  cases h:(l.phase==4)
  ·rfl
  ·exact absurd (by simp [h]) p1
 by_cases p4:(l.phase==2)=true
 ·rw [if_pos p4] at hR
  simp only [p0,p2,p3,p4,go_sem]
  generalize IntKind.i64.wrap (l.wait - 1)=w at hR ⊢
  by_cases h2:(w==0)=true
  ·rw [if_pos h2] at hR
   simp only [h2,go_sem]
   (
    repeat (refine bn ?_)
    exact Fin.mk0 _ rfl rfl (by rw [←hR];simp only [ay,rv,au,get,bf.enc,ak.enc,jq,List.map_nil,go_sem]))
  ·rw [if_neg h2] at hR
   have h5:l.phase=2:=by simpa using p4
   simp only [Bool.not_eq_true] at h2
   simp only [h2,go_sem]
   repeat (refine bn ?_)
   exact Fin.mk0 _ rfl rfl (by rw [←hR];simp only [ay,rv,au,get,bf.enc,ak.enc,h5,go_sem])
 ·rw [if_neg p4] at hR
  simp only [Bool.not_eq_true] at p4
  simp only [p0,p2,p3,p4,go_sem]
  (
   repeat (refine bn ?_)
   exact Fin.mk0 _ rfl rfl (by rw [←hR];simp only [ay,rv,au,get,bf.enc,ak.enc,jq,List.map_nil,go_sem]))
end Go.Eng
namespace Go.Eng
open Go Go.Proofs
theorem vJ (c:bI):Fn Tryz.prog 97 [.agg c.enc] [] (.agg (nS c).enc) [] []:=by
 generalize hR:nS c=R
 unfold nS at hR
 refine Fn.aN aiw (by simp) ?_
 unfold RV SC.mk' bI.enc
 simp only [go_sem]
 exact aX
theorem an3 (l:List Int) (a:Nat) (hl:l.length≤4000):Fn Tryz.prog 18 [.ptr 0 0] [eU l a] (.agg (Dv l a).1.enc) [eU l (Dv l a).2] []:=by
 generalize hR:Dv l a=R
 unfold Dv ab7 at hR
 simp only at hR
 refine Fn.aN ah4 (by simp) ?_
 unfold Rh SC.mk'
 simp only [go_sem]
 have s1:=CW l a 1 4
 have s2:=yF l a (lo:=1) (hi:=4) (by omega)
 refine fC (b:=0) (lZ l a 1 4 hl (by omega) (by omega)) ⟨rfl,⟨rfl,rfl⟩,⟨rfl,rfl⟩,trivial⟩ rfl rfl rfl rfl ?_
 generalize fU l a 1 4=s at hR s1 s2 ⊢
 generalize eX l a 1 4=a1 at hR ⊢
 simp only [go_sem]
 refine fC (b:=0) (lZ l a1 1 5 hl (by omega) (by omega)) ⟨rfl,⟨rfl,rfl⟩,⟨rfl,rfl⟩,trivial⟩ rfl rfl rfl rfl ?_
 generalize fU l a1 1 5=c at hR ⊢
 generalize eX l a1 1 5=a2 at hR ⊢
 simp only [go_sem]
 refine fC (b:=0) (lZ l a2 1 4 hl (by omega) (by omega)) ⟨rfl,⟨rfl,rfl⟩,⟨rfl,rfl⟩,trivial⟩ rfl rfl rfl rfl ?_
 generalize fU l a2 1 4=d at hR ⊢
 generalize eX l a2 1 4=a3 at hR ⊢
 simp only [go_sem]
 refine fC (b:=0) (lZ l a3 1 3 hl (by omega) (by omega)) ⟨rfl,⟨rfl,rfl⟩,⟨rfl,rfl⟩,trivial⟩ rfl rfl rfl rfl ?_
 generalize fU l a3 1 3=li at hR ⊢
 generalize eX l a3 1 3=a4 at hR ⊢
 simp only [go_sem]
 refine fC (b:=0) (lZ l a4 1 s hl (by omega) (by omega)) ⟨rfl,⟨rfl,rfl⟩,⟨rfl,rfl⟩,trivial⟩ rfl rfl rfl rfl ?_
 generalize fU l a4 1 s=lv at hR ⊢
 generalize eX l a4 1 s=a5 at hR ⊢
 simp only [go_sem]
 refine fC (b:=0) (iP l a5 12 hl (by omega)) ⟨rfl,⟨rfl,rfl⟩,trivial⟩ rfl rfl rfl rfl ?_
 generalize nV l a5 12=k at hR ⊢
 generalize nN l a5 12=a6 at hR ⊢
 simp only [go_sem]
 by_cases k1:(k==9)=true
 ·rw [if_pos k1] at hR
  simp only [k1,go_sem]
  have b1:=qf l a6 200
  have b2:=qg l a6 (n:=200) (by omega)
  refine fC (b:=0) (iP l a6 200 hl (by omega)) ⟨rfl,⟨rfl,rfl⟩,trivial⟩ rfl rfl rfl rfl ?_
  simp only [bH (n:=1073741824 - nV l a6 200) (by omega),go_sem]
  subst hR
  exact Fin.oD _ rfl rfl rfl rfl rfl rfl rfl
 rw [if_neg k1] at hR
 simp only [Bool.not_eq_true] at k1
 simp only [k1,go_sem]
 by_cases k2:(k==10)=true
 ·rw [if_pos k2] at hR
  simp only [k2,go_sem]
  have b1:=qf l a6 4
  have b2:=qg l a6 (n:=4) (by omega)
  refine fC (b:=0) (iP l a6 4 hl (by omega)) ⟨rfl,⟨rfl,rfl⟩,trivial⟩ rfl rfl rfl rfl ?_
  simp only [bH (n:=1073741824 - nV l a6 4) (by omega),go_sem]
  subst hR
  exact Fin.oD _ rfl rfl rfl rfl rfl rfl rfl
 rw [if_neg k2] at hR
 simp only [Bool.not_eq_true] at k2
 simp only [k2,go_sem]
 by_cases k3:(k==11)=true
 ·rw [if_pos k3] at hR
  simp only [k3,go_sem]
  have b1:=qf l a6 3
  have b2:=qg l a6 (n:=3) (by omega)
  refine fC (b:=0) (iP l a6 3 hl (by omega)) ⟨rfl,⟨rfl,rfl⟩,trivial⟩ rfl rfl rfl rfl ?_
  simp only [bH (n:=65536 - nV l a6 3) (by omega),go_sem]
  subst hR
  exact Fin.oD _ rfl rfl rfl rfl rfl rfl rfl
 rw [if_neg k3] at hR
 simp only [Bool.not_eq_true] at k3
 simp only [k3,go_sem]
 subst hR
 exact Fin.oD _ rfl rfl rfl rfl rfl rfl rfl
end Go.Eng
