/-
  Part of a proof: lemmas and definitions of this work.
  No condition.
-/
import Derived.Test.YthhjbngoibmpgaaGreatH08
import Derived.Test.YthhjbngoibmpgaaGreatH18
import Derived.Test.YthhjbngoibmpgaaGreatH20
import Derived.Test.YthhjbngoibmpgaaGreatH19
import Derived.Test.YthhjbngoibmpgaaGreatH17
import Derived.Test.YthhjbngoibmpgaaGreatH04
set_option linter.all false
set_option maxRecDepth 100000
set_option maxHeartbeats 8000000
namespace Go.Eng
open Go Go.Proofs
attribute [local go_sem] ai.enc ah.enc Task.enc Ev.enc bL.enc aC.enc dx.enc Dead.enc Dir.enc aj.enc Walk.enc bI.enc aG.enc eB.enc Setup.enc aY qN oW List.length_map
theorem Qs:∀ s ∈ [(1:Int),2,3,4,5,6],∀ l ∈ [(1:Int),2,3,4,5,6],l<=s->∀ i ∈ [(0:Nat),1,2,3,4,5],(Dir.new s l).1.val=0/\(Dir.new s l).1.idx (i:Int)=if (i:Int)<l then (i:Int) else -1:=by decide
theorem ada {s l:Int} {i:Nat} (hl:1<=l) (h:l<=s) (h6:s<=6) (hi:(i:Int)<s):(Dir.new s l).1.span (i:Int)=if (i:Int)<l then (gS (Dir.new s l).1.l i,true) else (Span.z,false):=by
 obtain ⟨h1,h2⟩:=Qs s (by simp;omega) l (by simp;omega) h i (by simp;omega)
 unfold Dir.span
 rw [h1,h2]
 split
 ·rename_i hc
  split
  ·omega
  ·rfl
 ·rename_i hc
  split
  ·rfl
  ·omega
theorem adb (k:Int) (h:1<=k/\k<=24):Fn Tryz.prog 66 [I k] [] (.aN [.agg [I k,.sl 7 []],I 0]) [] []:=by
 have h1:¬ k<1:=by omega
 have h2:¬ 24<k:=by omega
 refine Fn.aB MF (by simp) ?_
 unfold EI SC.mk'
 simp only [h1,h2,go_sem]
 exact Fin.bA _ rfl rfl (by simp [aD,rv,au,get])
theorem ade (u:Setup):Fn Tryz.prog 21 [.agg u.enc] [] (.aN [.agg (ai.new u).1.enc,I (ai.new u).2]) [] []:=by
 generalize hR:ai.new u=R
 unfold ai.new at hR
 have mx:∀ j:Nat,j<=10000->j<=maxLen:=fun j h=>Nat.le_trans h (by decide)
 by_cases hg:u.good=true
 ·simp only [hg,Bool.not_true,Bool.false_eq_true,if_false] at hR
  have hg0:=hg
  unfold Setup.good at hg0
  simp only [Bool.and_eq_true] at hg0
  obtain ⟨g1,g2,g3,g4,g5,g6,g7,g8⟩:=hg0
  have b1:1<=u.slots/\u.slots<=6:=by simpa [bD] using g1
  have b2:1<=u.live/\u.live<=u.slots:=by simpa [bD] using g2
  have b4:1<=u.dead/\u.dead<=24:=by simpa [bD] using g4
  refine Fn.zW Aa Eu (by simp) ?_
  unfold Aw SC.mk' Setup.enc
  simp only [go_sem]
  have eY:=gV u.slots 1 6
  have jg:=gV u.live 1 u.slots
  have sU:=gV u.capacity 1 12
  have sV:=gV u.dead 1 24
  have sW:=gV u.limit 1 8
  have xX:=gV u.clock 0 1073741824
  have IK:=gV u.fI 1 1073741824
  have IL:=gV u.epoch 0 65536
  have w9_:=acg u.slots u.live
  have adg:=adb u.dead b4
  have hJ:=jX g1 (jX g2 (jX g3 (jX g4 (jX g5 (jX g6 (jX g7 g8))))))
  repeat' first
   |(first|refine sC ?_|refine sD ?_|refine sZ ?_|refine sY ?_|refine sF ?_);simp only [hJ,go_sem]
   |(first|refine dQ (fun hq=> ?_) (fun hq=> ?_)|refine jE (fun hq=> ?_) (fun hq=> ?_)|refine je (fun hq=> ?_) (fun hq=> ?_))<;>simp only [hq,hJ,go_sem]
   |refine sM ?_;simp only [aD,rv,au,get,hJ,go_sem]
   |refine bn ?_
   |fail
  all_goals clear eY jg sU sV sW xX IK IL w9_ adg hJ
  have hD:(Dir.new u.slots u.live).1.l.length=u.live.toNat:=by
   unfold Dir.new
   rw [if_neg (by simp;omega)]
   simp
  have hdn:∀ j:Nat,(j:Int)<u.live->nth ((Dir.new u.slots u.live).1.l.map Span.enc) j=Span.enc (gS (Dir.new u.slots u.live).1.l j):=fun j h=>fJ Span.enc Span.z (by omega)
  have hsp:∀ j:Nat,(j:Int)<u.slots->(Dir.new u.slots u.live).1.span (j:Int)=if (j:Int)<u.live then (gS (Dir.new u.slots u.live).1.l j,true) else (Span.z,false):=fun j h=>ada b2.1 b2.2 b1.2 h
  generalize hA:nY u=A at hR
  unfold nY at hA
  generalize hDD:(Dir.new u.slots u.live).1=D at hR hD hdn hA hsp
  have hDl:D.l.length<=65536:=by omega
  refine go_loop (fun j:{j:Nat // (j:Int)<=u.slots}=>⟨5000,[(1,.ptr 8 0),(2,.ptr 16 0),(4,.ptr 472 0),(84,I u.slots),(85,I j.1)],[(472,.box [.own 4000 9 0 j.1,.own 4008 4 0 j.1,I 0,I u.dead,.sl 7 [],I D.version,.sl 3 (D.l.map Span.enc),.sl 1 (encI D.aM),I u.epoch,I u.clock,I u.fI]),(4000,.row 88 9 (((List.range j.1).map A).map Slot.enc)),(4008,.row 77 4 ((List.replicate j.1 (⟨0,u.epoch,0,0⟩:aG)).map aG.enc)),(16,.box [Nl,Nl,I 0,I 0,Nl,I 0,Nl,Nl,I 0,I 0,I 0]),(8,.box [I u.slots,I u.live,I u.capacity,I u.dead,I u.limit,I u.clock,I u.fI,I u.epoch])]⟩) (fun j=>u.slots.toNat - j.1) ⟨0,by omega⟩ (wk [(8,8),(16,16),(472,472)] [4000,4008]) ?_
  rintro ⟨j,hj⟩ B hB
  simp only [go_sem]
  by_cases e1:(j:Int)<u.slots
  ·have hw:=cZ (show j<=100000 by omega)
   have hm1:=mx (j+1) (by omega)
   have hS:=acf D (j:Int) hDl
   rw [hsp j e1] at hS
   have e3:List.take j (((List.range j).map A).map Slot.enc)=((List.range j).map A).map Slot.enc:=eZ (by simp)
   have e4:List.take j ((List.replicate j (⟨0,u.epoch,0,0⟩:aG)).map aG.enc)=(List.replicate j (⟨0,u.epoch,0,0⟩:aG)).map aG.enc:=eZ (by simp)
   have e6:(List.replicate j (⟨0,u.epoch,0,0⟩:aG)).map aG.enc++[[I 0,I u.epoch,I 0,I 0]]=(List.replicate (j+1) (⟨0,u.epoch,0,0⟩:aG)).map aG.enc:=by rw [<-PK];simp [aG.enc]
   by_cases e2:(j:Int)<u.live
   ·have e5:∀ X:List AV,X=Slot.enc (A j)->((List.range j).map A).map Slot.enc++[X]=((List.range (j+1)).map A).map Slot.enc:=fun X h=>by rw [h,List.range_succ];simp
    have IQ:A j=⟨0,(aj.new u.capacity (gS D.l j).low (gS D.l j).high).1⟩:=by rw [<-hA];simp only [e2,if_true]
    rw [if_pos e2] at hS
    simp only at hS
    rw [IQ] at e5
    generalize gS D.l j=sp at hS IQ e5
    have hne:=acW u.capacity sp.low sp.high
    generalize aj.new u.capacity sp.low sp.high=sh at IQ e5 hne
    have e5:=e5 _ rfl
    simp only [Slot.enc] at e5
    simp only [e1,hw,Int.toNat_natCast,List.length_map,List.length_range,List.length_replicate,go_sem]
    repeat' first
     |(refine DL ?_;simp only [e1,hw,e3,e4,e5,e6,Span.enc,aj.enc,Dir.enc,Int.toNat_natCast,List.length_map,List.length_range,List.length_replicate,go_sem])
     |(refine aS (II u.capacity) rfl rfl ?_;simp only [e1,hw,e3,e4,e5,e6,Span.enc,aj.enc,Dir.enc,Int.toNat_natCast,List.length_map,List.length_range,List.length_replicate,go_sem])
     |(refine dV (II u.capacity) rfl rfl ?_;simp only [e1,hw,e3,e4,e5,e6,Span.enc,aj.enc,Dir.enc,Int.toNat_natCast,List.length_map,List.length_range,List.length_replicate,go_sem])
     |(refine aS (hS) rfl rfl ?_;simp only [e1,hw,e3,e4,e5,e6,Span.enc,aj.enc,Dir.enc,Int.toNat_natCast,List.length_map,List.length_range,List.length_replicate,go_sem])
     |(refine dV (hS) rfl rfl ?_;simp only [e1,hw,e3,e4,e5,e6,Span.enc,aj.enc,Dir.enc,Int.toNat_natCast,List.length_map,List.length_range,List.length_replicate,go_sem])
     |(refine aS (hne) rfl rfl ?_;simp only [e1,hw,e3,e4,e5,e6,Span.enc,aj.enc,Dir.enc,Int.toNat_natCast,List.length_map,List.length_range,List.length_replicate,go_sem])
     |(refine dV (hne) rfl rfl ?_;simp only [e1,hw,e3,e4,e5,e6,Span.enc,aj.enc,Dir.enc,Int.toNat_natCast,List.length_map,List.length_range,List.length_replicate,go_sem])
     |refine bn ?_
     |fail
    exact hB _ ⟨j+1,by omega⟩ (by simp only;omega) (wk [(8,8),(16,16),(472,472),(4000,5312),(4008,5384)] [])
   ·have e5:((List.range j).map A).map Slot.enc++[Slot.enc ⟨0,(aj.free u.capacity).1⟩]=((List.range (j+1)).map A).map Slot.enc:=by
     rw [List.range_succ,<-hA];simp [e2]
    rw [if_neg e2] at hS
    simp only at hS
    have hfr:=II u.capacity
    generalize aj.free u.capacity=sh at e5 hfr
    simp only [Slot.enc] at e5
    simp only [e1,hw,Int.toNat_natCast,List.length_map,List.length_range,List.length_replicate,go_sem]
    repeat' first
     |(refine DL ?_;simp only [e1,hw,e3,e4,e5,e6,Span.enc,aj.enc,Dir.enc,Int.toNat_natCast,List.length_map,List.length_range,List.length_replicate,go_sem])
     |(refine aS (hfr) rfl rfl ?_;simp only [e1,hw,e3,e4,e5,e6,Span.enc,aj.enc,Dir.enc,Int.toNat_natCast,List.length_map,List.length_range,List.length_replicate,go_sem])
     |(refine dV (hfr) rfl rfl ?_;simp only [e1,hw,e3,e4,e5,e6,Span.enc,aj.enc,Dir.enc,Int.toNat_natCast,List.length_map,List.length_range,List.length_replicate,go_sem])
     |(refine aS (hS) rfl rfl ?_;simp only [e1,hw,e3,e4,e5,e6,Span.enc,aj.enc,Dir.enc,Int.toNat_natCast,List.length_map,List.length_range,List.length_replicate,go_sem])
     |(refine dV (hS) rfl rfl ?_;simp only [e1,hw,e3,e4,e5,e6,Span.enc,aj.enc,Dir.enc,Int.toNat_natCast,List.length_map,List.length_range,List.length_replicate,go_sem])
     |refine bn ?_
     |fail
    exact hB _ ⟨j+1,by omega⟩ (by simp only;omega) (wk [(8,8),(16,16),(472,472),(4000,5224),(4008,5296)] [])
  ·have hjs:u.slots=(j:Int):=by omega
   have hjn:u.slots.toNat=j:=by omega
   rw [hjn] at hR
   have e3:List.take j (((List.range j).map A).map Slot.enc)=((List.range j).map A).map Slot.enc:=eZ (by simp)
   have e4:List.take j ((List.replicate j (⟨0,u.epoch,0,0⟩:aG)).map aG.enc)=(List.replicate j (⟨0,u.epoch,0,0⟩:aG)).map aG.enc:=eZ (by simp)
   clear hB
   simp only [e1,go_sem]
   exact Fin.bA _ rfl rfl (by rw [<-hR];simp only [aD,rv,au,get,ai.enc,e3,e4,List.length_map,List.length_range,List.length_replicate,List.map_nil,go_sem];simp)
 ·simp only [Bool.not_eq_true] at hg
  simp only [hg,Bool.not_false,if_true] at hR
  unfold Setup.good at hg
  refine Fn.zW Aa Eu (by simp) ?_
  unfold Aw SC.mk' Setup.enc
  simp only [go_sem]
  have eY:=gV u.slots 1 6
  have jg:=gV u.live 1 u.slots
  have sU:=gV u.capacity 1 12
  have sV:=gV u.dead 1 24
  have sW:=gV u.limit 1 8
  have xX:=gV u.clock 0 1073741824
  have IK:=gV u.fI 1 1073741824
  have IL:=gV u.epoch 0 65536
  have hJ:=trivial
  repeat' first
   |(first|refine sC ?_|refine sD ?_|refine sZ ?_|refine sY ?_|refine sF ?_);simp only [hJ,go_sem]
   |(first|refine dQ (fun hq=> ?_) (fun hq=> ?_)|refine jE (fun hq=> ?_) (fun hq=> ?_)|refine je (fun hq=> ?_) (fun hq=> ?_))<;>simp only [hq,hJ,go_sem]
   |refine sM ?_;simp only [aD,rv,au,get,hJ,go_sem]
   |refine bn ?_
   |fail
  all_goals clear eY jg sU sV sW xX IK IL hJ
  all_goals exact fz
end Go.Eng
namespace Go.Eng
open Go Go.Proofs
attribute [local go_sem] aY
theorem adh (l:aC):Fn Tryz.prog 202 [.agg l.enc] [] (.aN [.agg l.free.1.enc,I l.free.2]) [] []:=by
 generalize hR:l.free=R
 unfold aC.free at hR
 refine Fn.aB Nf (by simp) ?_
 unfold Fg SC.mk' aC.enc
 simp only [go_sem]
 exact aX
theorem adi (cells:List Int) (hl:cells.length<=1000):Fn Tryz.prog 49 [.sl 1 (encI cells)] [] (.aN [.agg (aC.new cells).1.enc,I (aC.new cells).2]) [] []:=by
 generalize hR:aC.new cells=R
 unfold aC.new at hR
 refine Fn.aB Mx (by simp) ?_
 unfold s49 SC.mk'
 simp only [go_sem]
 by_cases h0:(cells.length:Int)=0\/3<(cells.length:Int)
 ·rw [if_pos (by simpa using h0)] at hR
  exact aX
 rw [if_neg (by simpa using h0)] at hR
 have g1:((cells.length:Int)==0)=false:=beq_eq_false_iff_ne.2 (by omega)
 have g2:¬ 3<(cells.length:Int):=by omega
 simp only [g1,g2,aY,go_sem]
 generalize hK:iZ cells (-1)=K at hR
 refine go_loop (fun j:{j:Nat // j<=cells.length/\iZ (cells.drop j) (if j=0 then -1 else gI cells (j - 1))=K}=>⟨2000,[(0,.sl 1 (encI cells)),(2,.ptr 8 0),(15,.sl 1 (encI cells)),(16,I cells.length),(17,I j.1)],[(8,.box [Nl,I 0,I 0,I 0,I 0])]⟩) (fun j=>cells.length - j.1) ⟨0,by omega,hK⟩ (wk [(8,8)] []) ?_
 rintro ⟨j,hj,he⟩ B hB
 simp only [go_sem]
 by_cases e1:j<cells.length
 ·have e2:decide ((j:Int)<(cells.length:Int))=true:=by simp;omega
  have hw:=cZ (show j<=100000 by omega)
  have hx:=jL e1
  simp only [e2,hx,hw,aY,Int.toNat_natCast,go_sem]
  by_cases e3:gI cells j<0\/6<gI cells j\/(0<j/\gI cells j<=gI cells (j - 1))
  ·have hK2:K=false:=by
    rw [<-he,fZ 0 e1]
    simp only [iZ,show cells[j]?.getD 0=gI cells j from rfl]
    rcases e3 with h|h|h
    ·rw [show bD (gI cells j) 0 6=false by simp [bD];omega];simp
    ·rw [show bD (gI cells j) 0 6=false by simp [bD];omega];simp
    ·rw [if_neg (by omega),show decide (gI cells (j - 1)<gI cells j)=false from decide_eq_false (by omega)];simp
   rw [hK2,if_neg (by simp)] at hR
   by_cases f1:gI cells j<0
   ·simp only [f1,hx,aY,Int.toNat_natCast,go_sem]
    repeat (refine bn ?_)
    exact Fin.bA _ rfl rfl (by rw [<-hR];simp only [aD,rv,au,get,aC.enc,fF,go_sem])
   by_cases f2:6<gI cells j
   ·simp only [f1,f2,hx,aY,Int.toNat_natCast,go_sem]
    repeat (refine bn ?_)
    exact Fin.bA _ rfl rfl (by rw [<-hR];simp only [aD,rv,au,get,aC.enc,fF,go_sem])
   have f3:0<j/\gI cells j<=gI cells (j - 1):=by
    rcases e3 with h|h|h
    ·exact absurd h f1
    ·exact absurd h f2
    ·exact h
   have f4:decide ((0:Int)<(j:Int))=true:=by simp;omega
   have hz:IntKind.i64.wrap ((j:Int) - 1)=((j - 1:Nat):Int):=by rw [cu (by omega)];omega
   have hx2:=jL (show j - 1<cells.length by omega)
   simp only [f1,f2,f4,hz,hx,hx2,f3.2,aY,Int.toNat_natCast,go_sem]
   repeat (refine bn ?_)
   exact Fin.bA _ rfl rfl (by rw [<-hR];simp only [aD,rv,au,get,aC.enc,fF,go_sem])
  ·have f1:¬ gI cells j<0:=fun h=>e3 (.inl h)
   have f2:¬ 6<gI cells j:=fun h=>e3 (.inr (.inl h))
   have he2:iZ (cells.drop (j+1)) (if j+1=0 then -1 else gI cells (j+1 - 1))=K:=by
    rw [if_neg (by omega),Nat.add_sub_cancel,<-he]
    exact (ab0 cells _ j e1 e3 (fun h=>by rw [if_pos h]) (fun h=>by rw [if_neg (by omega)])).symm
   by_cases f5:0<j
   ·have f4:decide ((0:Int)<(j:Int))=true:=by simp;omega
    have f6:¬ gI cells j<=gI cells (j - 1):=fun h=>e3 (.inr (.inr ⟨f5,h⟩))
    have hz:IntKind.i64.wrap ((j:Int) - 1)=((j - 1:Nat):Int):=by rw [cu (by omega)];omega
    have hx2:=jL (show j - 1<cells.length by omega)
    simp only [f1,f2,f4,hz,hx,hx2,f6,hw,aY,Int.toNat_natCast,go_sem]
    repeat (refine bn ?_)
    exact hB _ ⟨j+1,by omega,he2⟩ (by simp only;omega) (wk [(8,8)] [])
   ·have f4:decide ((0:Int)<(j:Int))=false:=by simp;omega
    simp only [f1,f2,f4,hx,hw,aY,Int.toNat_natCast,go_sem]
    repeat (refine bn ?_)
    exact hB _ ⟨j+1,by omega,he2⟩ (by simp only;omega) (wk [(8,8)] [])
 ·have e2:decide ((j:Int)<(cells.length:Int))=false:=by simp;omega
  rw [iY (by omega)] at he
  simp only [iZ] at he
  rw [<-he,if_pos rfl] at hR
  have e4:List.take cells.length (encI cells)=encI cells:=eZ (by rw [aY];omega)
  simp only [e2,aY,go_sem]
  repeat (refine bn ?_)
  refine nK (vT Ay (by decide) (encI cells) (by rw [aY];omega) (by decide)) rfl rfl (by simp) (by simp [bZ]) ?_
  simp only [bS,sh,aY,go_sem]
  exact Fin.bA _ rfl rfl (by rw [<-hR];simp only [aD,rv,au,get,aC.enc,e4,aY,go_sem];simp)
theorem adj (a:ai) (l:aC) (task:Int) (n:Nat) (ha:a.wf n) (hl:l.wf n) (q0:l.phase=0):Fn Tryz.prog 284 [.agg a.enc,.agg l.enc,I task] [] (.aN [.agg (aC.step a l task).1.enc,.agg (aC.step a l task).2.1.enc,I (aC.step a l task).2.2]) [] []:=by
 generalize hR:aC.step a l task=R
 unfold aC.step at hR
 have hsl:a.slots.length<=1000:=by rw [ha.sl];have:=ha.n6;omega
 have h3:=hl.l3
 refine Fn.aB NA (by simp) ?_
 unfold FJ SC.mk' ai.enc aC.enc
 simp only [go_sem]
 rw [if_pos (by simpa using q0)] at hR
 have hg:0<=l.got/\l.got<l.cells.length:=by have:=hl.ph;omega
 have hx:=jL (show l.got.toNat<l.cells.length by omega)
 have g1:¬ l.got<0:=by omega
 have g2:¬ (l.cells.length:Int)<=l.got:=by omega
 simp only [g1,g2,hx,aY,go_sem]
 repeat (refine bn ?_)
 refine dV (ac3 a (gI l.cells l.got.toNat) task hsl) rfl rfl ?_
 simp only at hR
 generalize a.tryLock (gI l.cells l.got.toNat) task=x at hR
 simp only [ai.enc,go_sem]
 repeat (refine bn ?_)
 by_cases h1:x.2.2≠0
 ·rw [if_pos h1] at hR
  have h1':(x.2.2 !=0)=true:=by simpa using h1
  simp only [h1',go_sem]
  (
   repeat (refine bn ?_)
   exact Fin.bA _ rfl rfl (by rw [<-hR];simp only [aD,rv,au,get,aC.enc,ai.enc,fF,List.map_nil,go_sem]))
 rw [if_neg h1] at hR
 have h1':(x.2.2 !=0)=false:=by simpa using h1
 have hw:IntKind.i64.wrap (l.got+1)=l.got+1:=cu (by omega)
 simp only [h1',hw,aY,go_sem]
 by_cases h2:x.2.1=true
 ·rw [if_pos h2] at hR
  simp only [h2,hw,aY,go_sem]
  by_cases h4:(l.got+1==(l.cells.length:Int))=true
  ·rw [if_pos h4] at hR
   simp only [h4,go_sem]
   (
    repeat (refine bn ?_)
    exact Fin.bA _ rfl rfl (by rw [<-hR];simp only [aD,rv,au,get,aC.enc,ai.enc,fF,List.map_nil,go_sem]))
  ·rw [if_neg h4] at hR
   simp only [Bool.not_eq_true] at h4
   simp only [h4,go_sem]
   (
    repeat (refine bn ?_)
    exact Fin.bA _ rfl rfl (by rw [<-hR];simp only [aD,rv,au,get,aC.enc,ai.enc,fF,List.map_nil,go_sem]))
 ·rw [if_neg h2] at hR
  simp only [Bool.not_eq_true] at h2
  simp only [h2,go_sem]
  by_cases h4:0<l.got
  ·rw [if_pos h4] at hR
   simp only [h4,go_sem]
   (
    repeat (refine bn ?_)
    exact Fin.bA _ rfl rfl (by rw [<-hR];simp only [aD,rv,au,get,aC.enc,ai.enc,fF,List.map_nil,go_sem]))
  ·rw [if_neg h4] at hR
   simp only [h4,go_sem]
   (
    repeat (refine bn ?_)
    exact Fin.bA _ rfl rfl (by rw [<-hR];simp only [aD,rv,au,get,aC.enc,ai.enc,fF,List.map_nil,go_sem]))
theorem adk (a:ai) (l:aC) (task:Int) (n:Nat) (ha:a.wf n) (hl:l.wf n) (p1:(l.phase==1||l.phase==4)=true):Fn Tryz.prog 285 [.agg a.enc,.agg l.enc,I task] [] (.aN [.agg (aC.step a l task).1.enc,.agg (aC.step a l task).2.1.enc,I (aC.step a l task).2.2]) [] []:=by
 generalize hR:aC.step a l task=R
 unfold aC.step at hR
 have hsl:a.slots.length<=1000:=by rw [ha.sl];have:=ha.n6;omega
 have h3:=hl.l3
 have q1:l.phase=1\/l.phase=4:=by simpa using p1
 refine Fn.aB NC (by simp) ?_
 unfold FK SC.mk' ai.enc aC.enc
 simp only [go_sem]
 rw [if_neg (by simp;omega),if_pos p1] at hR
 have hg:1<=l.got/\l.got<=l.cells.length:=by have:=hl.ph;omega
 have hx:=jL (show (l.got - 1).toNat<l.cells.length by omega)
 have hw:IntKind.i64.wrap (l.got - 1)=l.got - 1:=cu (by omega)
 have g1:¬ l.got<1:=by omega
 have g2:¬ (l.cells.length:Int)<l.got:=by omega
 simp only at hR
 simp only [g1,g2,hx,hw,aY,go_sem]
 repeat (refine bn ?_)
 refine dV (ac4 a (gI l.cells (l.got - 1).toNat) task hsl) rfl rfl ?_
 generalize a.unlock (gI l.cells (l.got - 1).toNat) task=x at hR
 simp only [ai.enc,go_sem]
 repeat (refine bn ?_)
 by_cases h1:x.2≠0
 ·rw [if_pos h1] at hR
  have h1':(x.2 !=0)=true:=by simpa using h1
  simp only [h1',go_sem]
  (
   repeat (refine bn ?_)
   exact Fin.bA _ rfl rfl (by rw [<-hR];simp only [aD,rv,au,get,aC.enc,ai.enc,fF,List.map_nil,go_sem]))
 rw [if_neg h1] at hR
 have h1':(x.2 !=0)=false:=by simpa using h1
 simp only [h1',hw,go_sem]
 by_cases h2:0<l.got - 1
 ·rw [if_pos h2] at hR
  simp only [h2,go_sem]
  (
   repeat (refine bn ?_)
   exact Fin.bA _ rfl rfl (by rw [<-hR];simp only [aD,rv,au,get,aC.enc,ai.enc,fF,List.map_nil,go_sem]))
 rw [if_neg h2] at hR
 by_cases p3:(l.phase==4)=true
 ·rw [if_pos p3] at hR
  simp only [h2,p3,hw,go_sem]
  (
   repeat (refine bn ?_)
   exact Fin.bA _ rfl rfl (by rw [<-hR];simp only [aD,rv,au,get,aC.enc,ai.enc,fF,List.map_nil,go_sem]))
 ·rw [if_neg p3] at hR
  simp only [Bool.not_eq_true] at p3
  simp only [h2,p3,hw,go_sem]
  (
   repeat (refine bn ?_)
   exact Fin.bA _ rfl rfl (by rw [<-hR];simp only [aD,rv,au,get,aC.enc,ai.enc,fF,List.map_nil,go_sem]))
theorem adl (a:ai) (l:aC) (task:Int) (n:Nat) (ha:a.wf n) (hl:l.wf n):Fn Tryz.prog 203 [.agg a.enc,.agg l.enc,I task] [] (.aN [.agg (aC.step a l task).1.enc,.agg (aC.step a l task).2.1.enc,I (aC.step a l task).2.2]) [] []:=by
 have ht:=adj a l task n ha hl
 have hv:=adk a l task n ha hl
 generalize hR:aC.step a l task=R at ht hv ⊢
 unfold aC.step at hR
 have hsl:a.slots.length<=1000:=by rw [ha.sl];have:=ha.n6;omega
 have h3:=hl.l3
 unfold ai.enc aC.enc at ht hv
 refine Fn.aB Ng (by simp) ?_
 unfold Fh SC.mk' ai.enc aC.enc
 simp only [go_sem]
 by_cases p0:(l.phase==0)=true
 ·simp only [p0,go_sem]
  refine aS (ht (by simpa using p0)) rfl rfl ?_
  simp only [go_sem]
  exact Fin.bA _ rfl rfl (by simp only [aD,rv,au,get,ai.enc,aC.enc,go_sem])
 rw [if_neg p0] at hR
 simp only [Bool.not_eq_true] at p0
 by_cases p1:(l.phase==1||l.phase==4)=true
 ·have hv:=hv p1
  by_cases p2:(l.phase==1)=true
  ·simp only [p0,p2,go_sem]
   refine aS hv rfl rfl ?_
   simp only [go_sem]
   exact Fin.bA _ rfl rfl (by simp only [aD,rv,au,get,ai.enc,aC.enc,go_sem])
  ·simp only [Bool.not_eq_true] at p2
   have p3:(l.phase==4)=true:=by simpa [p2] using p1
   simp only [p0,p2,p3,go_sem]
   refine aS hv rfl rfl ?_
   simp only [go_sem]
   exact Fin.bA _ rfl rfl (by simp only [aD,rv,au,get,ai.enc,aC.enc,go_sem])
 rw [if_neg p1] at hR
 have p2:(l.phase==1)=false:=by
  cases h:(l.phase==1)
  ·rfl
  ·exact absurd (by simp [h]) p1
 have p3:(l.phase==4)=false:=by
  cases h:(l.phase==4)
  ·rfl
  ·exact absurd (by simp [h]) p1
 by_cases p4:(l.phase==2)=true
 ·rw [if_pos p4] at hR
  simp only [p0,p2,p3,p4,go_sem]
  generalize IntKind.i64.wrap (l.wait - 1)=w at hR ⊢
  by_cases h2:(w==0)=true
  ·rw [if_pos h2] at hR
   simp only [h2,go_sem]
   (
    repeat (refine bn ?_)
    exact Fin.bA _ rfl rfl (by rw [<-hR];simp only [aD,rv,au,get,aC.enc,ai.enc,fF,List.map_nil,go_sem]))
  ·rw [if_neg h2] at hR
   have h5:l.phase=2:=by simpa using p4
   simp only [Bool.not_eq_true] at h2
   simp only [h2,go_sem]
   repeat (refine bn ?_)
   exact Fin.bA _ rfl rfl (by rw [<-hR];simp only [aD,rv,au,get,aC.enc,ai.enc,h5,go_sem])
 ·rw [if_neg p4] at hR
  simp only [Bool.not_eq_true] at p4
  simp only [p0,p2,p3,p4,go_sem]
  (
   repeat (refine bn ?_)
   exact Fin.bA _ rfl rfl (by rw [<-hR];simp only [aD,rv,au,get,aC.enc,ai.enc,fF,List.map_nil,go_sem]))
end Go.Eng
namespace Go.Eng
open Go Go.Proofs
theorem adm:Fn Tryz.prog 50 [] [] (.agg dx.z.enc) [] []:=by
 refine Fn.aB MB (by simp) ?_
 unfold ED SC.mk'
 simp only [go_sem]
 exact aX
theorem adn (a:ai) (s:dx) (n:Int):Fn Tryz.prog 214 [.agg a.enc,.agg s.enc,I n] [] (.aN [.agg (dx.step a s n).1.enc,I (dx.step a s n).2]) [] []:=by
 generalize hR:dx.step a s n=R
 unfold dx.step at hR
 refine Fn.aB Nt (by simp) ?_
 unfold Fx SC.mk' ai.enc dx.enc
 simp only [go_sem]
 have eY:=Qr a 1
 have jg:=Qr a 2
 have hJ:=trivial
 repeat' first
  |(first|refine sC ?_|refine sD ?_);simp only [hJ,go_sem]
  |(first|refine dQ (fun hq=> ?_) (fun hq=> ?_)|refine jE (fun hq=> ?_) (fun hq=> ?_)|refine je (fun hq=> ?_) (fun hq=> ?_))<;>simp only [hq,hJ,go_sem]
  |refine sM ?_;simp only [aD,rv,au,get,hJ,go_sem]
  |refine bn ?_
  |fail
 all_goals clear eY jg hJ
 all_goals (subst hR;simp_all [dx.enc,ai.load,rv,au])
theorem Qt {α:Type} (p:α->Bool):∀ (l:List α) (i:Nat),cB p l i= -1->l.filter (fun x=> !p x)=l
 |[],_,_=>rfl
 |x::r,i,h=>by
  simp only [cB] at h
  split at h
  ·omega
  ·rename_i h1
   rw [List.filter_cons_of_pos (by simpa using h1),Qt p r (i+1) h]
theorem Qu {α:Type} (p:α->Bool):∀ (l:List α) (i:Nat),cB p l i≠-1->∃ k,k<l.length/\cB p l i=((i+k:Nat):Int)/\(l.take (k+1)).filter (fun x=> !p x)=l.take k
 |[],_,h=>absurd rfl h
 |x::r,i,h=>by
  simp only [cB] at h ⊢
  split at h
  ·rename_i h1
   exact ⟨0,by simp,by simp [h1],by simp [h1]⟩
  ·rename_i h1
   obtain ⟨k,a,b,c⟩:=Qu p r (i+1) h
   refine ⟨k+1,by simp;omega,by rw [if_neg h1,b];omega,?_⟩
   rw [List.take_succ_cons,List.filter_cons_of_pos (by simpa using h1),c,List.take_succ_cons]
theorem ado (k l:List Int) {j:Nat} (hk:k.length<=j):gI (k++l.drop k.length) j=gI l j:=by
 unfold gI
 rw [List.getElem?_append_right hk,List.getElem?_drop,show k.length+(j - k.length)=j by omega]
theorem adp (k l:List Int) (x:Int) (hk:k.length<l.length):(encI (k++l.drop k.length)).set k.length [I x]=encI ((k++[x])++l.drop (k++[x]).length):=by
 have h:l.drop k.length=l[k.length]::l.drop (k.length+1):=by rw [List.drop_eq_getElem_cons hk]
 rw [h]
 simp only [encI,List.map_append,List.map_cons,List.map_nil,List.length_append,List.length_singleton]
 rw [List.set_append_right _ _ (by simp)]
 simp
theorem adq (p:Int->Bool) (l:List Int) {j:Nat} (h:j<l.length):(l.take (j+1)).filter p=(l.take j).filter p++(if p (gI l j) then [gI l j] else []):=by
 have e:gI l j=l[j]:=by unfold gI;rw [List.getElem?_eq_getElem h];rfl
 rw [List.take_succ_eq_append_getElem h,List.filter_append,e]
 congr 1
 cases hp:p l[j]
 ·simp [hp]
 ·simp [hp]
section
variable {g e:Nat}
theorem yQ {P:Program} {f:FuncId} {xs ys:List AV} {h:List (Nat×Ob)} {nm:Nat} {k:List It} {Q:Exit->St->Prop} {n n':Nat} {t:List (Nat×AV)} {d:Option Nat} {l:List av} {v:Value} (hF:Fn P f xs [] (.v v) [] []) (ha:mapA (gQ h 4) ys=some xs)
 (hk:go P (.ops (nm+8) n' l::k) Q n (aV t d (.v v)) h):lQ P nm f ys d n' l k Q n t h:=
 uV (hF.vB nm ha rfl (fun o ho=>by cases ho) (by simp) rfl rfl) (by simpa [bS,sh] using hk)
theorem adr (hg:g<1000000) (l:List Int) (hl:l.length<=100000) (p:Int->Bool) (cs:List AV) (hcs:bf cs=true) (hp:∀ x ∈ l,Fn Tryz.prog g (I x::cs) [] (Bo (p x)) [] []):
 Fn Tryz.prog 360 [.sl 1 (encI l),.fn g cs] [] (I (cB p l 0)) [] []:=by
 refine Fn.aB NW (by simp) ?_
 unfold F7 SC.mk'
 simp only [go_sem]
 refine go_loop (fun j:{j:Nat // j<=l.length/\cB p (l.drop j) j=cB p l 0}=>⟨1000,[(0,.sl 1 (encI l)),(1,.fn g cs),(7,I l.length),(8,I j.1)],[]⟩) (fun j=>l.length - j.1) ⟨0,by omega,rfl⟩ (Wk.mk [] [] rfl rfl trivial trivial (by simp only [bQ,rv,au,and_true,go_sem];exact ic _ hcs)) ?_
 rintro ⟨j,hj,he⟩ B hB
 simp only [go_sem]
 by_cases e1:j<l.length
 ·have e2:decide ((j:Int)<(l.length:Int))=true:=by simp;omega
  have hw:=cZ (show j<=100000 by omega)
  have hx:=jL e1
  have hm:gI l j ∈ l:=by unfold gI;rw [List.getElem?_eq_getElem e1];exact List.getElem_mem _
  rw [fZ 0 e1] at he
  simp only [cB,show l[j]?.getD 0=gI l j from rfl] at he
  generalize gI l j=x at hx hm he
  simp only [e2,hx,hg,aY,Nat.le_refl,Int.toNat_natCast,List.cons_append,List.nil_append,go_sem]
  repeat (refine bn ?_)
  refine aS (hp x hm) (by simp [bf,AV.pure,hcs]) rfl ?_
  by_cases e3:p x=true
  ·simp only [e3,go_sem]
   rw [if_pos e3] at he
   exact Fin.aQ _ rfl rfl rfl (by rw [<-he];rfl)
  ·rw [if_neg e3] at he
   simp only [Bool.not_eq_true] at e3
   simp only [e3,hw,go_sem]
   exact hB _ ⟨j+1,by omega,he⟩ (by simp only;omega) (Wk.mk [] [] rfl rfl trivial trivial (by simp only [bQ,rv,au,and_true,go_sem];exact ic _ hcs))
 ·have e2:decide ((j:Int)<(l.length:Int))=false:=by simp;omega
  rw [iY (by omega)] at he
  simp only [cB] at he
  simp only [e2,go_sem]
  exact Fin.aQ _ rfl rfl rfl (by rw [<-he];rfl)
theorem adt (hg:g<1000000) (l:List Int) (hl:l.length<=10000) (p:Int->Bool) (cs:List AV) (hcs:bf cs=true) (hop:∀ h k,mapA (gQ h k) cs=some cs) (hp:∀ x ∈ l,Fn Tryz.prog g [I x,.bB cs 0] [] (Bo (p x)) [] []):
 dW Tryz.prog 286 [.own 4 1 0 l.length,.fn g [.ptr 0 0]] [cs] [.row e 1 (encI l)] (.sl 1 (encI (l.filter fun x=> !p x))) [cs] []:=by
 have hI:=adr hg l (by omega) p [.bB cs 0] (by simp [bf,AV.pure,hcs]) hp
 refine dW.aB ND (by simp) ?_
 unfold FL SC.mk'
 simp only [aY,go_sem]
 have hg2:g.blt 2000000=true:=by simp [Nat.blt_eq];omega
 have fin:∀ (t:List (Nat×AV)) (kp:List Int) (xs:List (List AV)) (h:List (Nat×Ob)),kp=l.filter (fun x=> !p x)->get h 0=some (.box cs)->get h 4=some (.row e 1 xs)->kp.length<=xs.length->xs.take kp.length=encI kp->fw h [(0,0)] [] [(0,.box cs)]=true->gZ t h [.tmp 4]=some [.own 4 1 0 kp.length]->Fin [.tmp 4] (.sl 1 (encI (l.filter fun x=> !p x))) [cs] [] t h:=by
  intro t kp xs h h1 h3 h4 h2 h7 h5 h6
  subst h1
  refine Fin.nH _ h6 h3 h5 (ic _ hcs) ?_
  simp only [aD,rv,h4,List.drop_zero,h7,Nat.zero_add]
  exact ⟨by simp,trivial,trivial,h2,trivial⟩
 refine yQ hI ?_ ?_
 ·simp [mapA,gQ,tr,outs,dM,bS,get,hop,hcs,hg2,aY,eZ]
 by_cases c1:(cB p l 0== -1)=true
 ·have hf:=Qt p l 0 (by simpa using c1)
  simp only [c1,go_sem]
  exact fin _ l (encI l) _ hf.symm rfl rfl (by simp [aY]) (eZ (by simp [aY])) rfl rfl
 have hne:cB p l 0≠-1:=by simpa using c1
 obtain ⟨k,hk,hk2,hk3⟩:=Qu p l 0 hne
 simp only [Bool.not_eq_true] at c1
 rw [Nat.zero_add] at hk2
 have c2:((k:Int)== -1)=false:=beq_eq_false_iff_ne.2 (by omega)
 have hw:=cZ (show k<=100000 by omega)
 simp only [c1,c2,hk2,hw,go_sem]
 have htl:(l.take k).length=k:=by simp;omega
 refine go_loop (fun x:{x:Nat×List Int // x.1<=l.length/\(l.take x.1).filter (fun x=> !p x)=x.2/\x.2.length<x.1}=>⟨3000,[(0,.own 4 1 0 l.length),(1,.fn g [.ptr 0 0]),(5,I x.1.2.length),(6,I x.1.1)],[(0,.box cs),(4,.row e 1 (encI (x.1.2++l.drop x.1.2.length)))]⟩) (fun x=>l.length - x.1.1) ⟨(k+1,l.take k),by simp only;omega,hk3,by simp only;omega⟩ (Wk.mk [(0,0),(4,4)] [] rfl rfl (by simp only [bq,aR,get,htl,List.take_append_drop,go_sem];exact ic _ hcs) trivial (by simp only [bQ,rv,au,get,htl,and_true,go_sem]<;>try simp)) ?_
 rintro ⟨⟨j,K⟩,hj,hK,hq⟩ B hB
 simp only at hj hK hq
 simp only [go_sem]
 by_cases e1:j<l.length
 ·have e2:decide ((j:Int)<(l.length:Int))=true:=by simp;omega
  have hw:=cZ (show j<=100000 by omega)
  have hw2:=cZ (show K.length<=100000 by omega)
  have hx:nth (encI (K++l.drop K.length)) j=[I (gI l j)]:=by rw [jL (by simp;omega),ado _ _ (by omega)]
  have hm:gI l j ∈ l:=by unfold gI;rw [List.getElem?_eq_getElem e1];exact List.getElem_mem _
  have hsn:=adq (fun x=> !p x) l e1
  have hst:=adp K l (gI l j) (by omega)
  rw [hK] at hsn
  generalize gI l j=x at hx hm hsn hst
  have hle:K.length+(l.length - K.length)=l.length:=by omega
  simp only [e2,hx,hg,hle,aY,List.length_append,List.length_drop,Nat.le_refl,Int.toNat_natCast,Nat.zero_add,List.cons_append,List.nil_append,go_sem]
  repeat (refine bn ?_)
  refine yQ (hp x hm) ?_ ?_
  ·simp [mapA,gQ,tr,get,hop,hcs]
  by_cases e3:p x=true
  ·simp only [e3,hw,go_sem]
   rw [if_neg (by simp [e3]),List.append_nil] at hsn
   exact hB _ ⟨(j+1,K),by simp only;omega,hsn,by simp only;omega⟩ (by simp only;omega) (Wk.mk [(0,0),(4,4)] [] rfl rfl (by simp only [bq,aR,get,go_sem];exact ic _ hcs) trivial (by simp only [bQ,rv,au,get,and_true,go_sem]<;>try simp))
  ·simp only [Bool.not_eq_true] at e3
   simp only [e3,hw,hw2,hst,aY,Int.toNat_natCast,Nat.zero_add,go_sem]
   repeat (refine bn ?_)
   simp only [Option.getD_some,AV.one,go_sem]
   repeat (refine bn ?_)
   have hd:List.drop 1 (nth (encI (K++l.drop K.length)) K.length)=[]:=by rw [jL (by simp;omega)];rfl
   rw [if_pos (by simp [e3])] at hsn
   simp only [hd,hst,Option.getD_some,AV.one,hw,hw2,go_sem]
   refine ⟨by simp;omega,?_⟩
   refine hB _ ⟨(j+1,K++[x]),by simp only;omega,hsn,by simp;omega⟩ (by simp only;omega) (Wk.mk [(0,0),(4,4)] [] rfl rfl (by simp only [bq,aR,get,go_sem];exact ic _ hcs) trivial (by simp only [bQ,rv,au,get,and_true,go_sem]<;>try simp))
 ·have e2:decide ((j:Int)<(l.length:Int))=false:=by simp;omega
  have:j=l.length:=by omega
  subst this
  rw [List.take_length] at hK
  simp only [e2,Int.toNat_natCast,Nat.zero_add,aY,go_sem]
  repeat (refine bn ?_)
  refine ⟨by simp,⟨by omega,.inl (by omega)⟩,?_⟩
  exact fin _ K _ _ hK.symm rfl rfl (by simp [encI]) (by simp [encI]) rfl rfl
end
end Go.Eng
