/-
  Part of a proof: lemmas and definitions of this work.
  No condition.
-/
import Derived.Test.YthhjbngoibmpgaaGreatA08
import Derived.Test.YthhjbngoibmpgaaGreatA30
set_option linter.all false
set_option maxRecDepth 100000
set_option maxHeartbeats 8000000
namespace Go.Eng
open Go Go.Proofs
attribute [local go_sem] aj.enc av.enc Task.enc Ev.enc bD.enc bf.enc cB.enc Dead.enc Dir.enc ak.enc Walk.enc aV.enc aJ.enc bL.enc Setup.enc aS dY dZ List.length_map List.length_range List.length_replicate
theorem aoD (k:Int) (h:1<=k/\k<=24):Fn Tryz.prog 145 [I k] [] (.aF [.agg [I k,.sl 7 []],I 0]) [] []:=by
 have hf:=aj3 k
 unfold VB at hf
 simp only [show ¬ k<1 by omega,show ¬ 24<k by omega,if_false,or_self] at hf
 exact hf
theorem ady (u:Setup):Fn Tryz.prog 80 [.agg u.enc] [] (.aF [.agg (aj.new u).1.enc,I (aj.new u).2]) [] []:=by
 generalize hR:aj.new u=R
 unfold aj.new at hR
 have mx:∀ j:Nat,j<=10000->j<=maxLen:=fun j h=>Nat.le_trans h (by decide)
 by_cases hg:u.good=true
 ·simp only [hg,Bool.not_true,Bool.false_eq_true,if_false] at hR
  have hg0:=hg
  unfold Setup.good at hg0
  simp only [Bool.and_eq_true] at hg0
  obtain ⟨g1,g2,g3,g4,g5,g6,g7,g8⟩:=hg0
  have b1:1<=u.slots/\u.slots<=6:=by simpa [dP] using g1
  have b2:1<=u.live/\u.live<=u.slots:=by simpa [dP] using g2
  have b4:1<=u.dead/\u.dead<=24:=by simpa [dP] using g4
  refine Fn.aT bR CZ (by simp) ?_
  unfold Mc SC.mk' Setup.enc
  simp only [go_sem]
  have aK:=iO u.slots 1 6
  have aU:=iO u.live 1 u.slots
  have bK:=iO u.capacity 1 12
  have dV:=iO u.dead 1 24
  have fQ:=iO u.limit 1 8
  have mR:=iO u.clock 0 1073741824
  have DV:=iO u.fB 1 1073741824
  have Xp:=iO u.epoch 0 65536
  have w9_:=amg u.slots u.live
  have hJ:=ah g1 (ah g2 (ah g3 (ah g4 (ah g5 (ah g6 (ah g7 g8))))))
  repeat' first
   |(first|refine sC ?_|refine sD ?_|refine sZ ?_|refine sY ?_|refine sF ?_);simp only [hJ,go_sem]
   |(first|refine bC (fun hq=> ?_) (fun hq=> ?_)|refine dR (fun hq=> ?_) (fun hq=> ?_)|refine dD (fun hq=> ?_) (fun hq=> ?_))<;>simp only [hq,hJ,go_sem]
   |refine sM ?_;simp only [ay,rv,au,get,hJ,go_sem]
   |refine bn ?_
   |fail
  all_goals clear aK aU bK dV fQ mR DV Xp w9_ hJ
  have hD:(Dir.new u.slots u.live).1.l.length=u.live.toNat:=by
   unfold Dir.new
   rw [if_neg (by simp;omega)]
   simp
  have hdn:∀ j:Nat,(j:Int)<u.live->nth ((Dir.new u.slots u.live).1.l.map Span.enc) j=Span.enc (gS (Dir.new u.slots u.live).1.l j):=fun j h=>bS Span.enc Span.z (by omega)
  generalize hA:Ni u=A at hR
  unfold Ni at hA
  generalize hDD:(Dir.new u.slots u.live).1=D at hR hD hdn hA
  refine go_loop (fun j:{j:Nat // (j:Int)<=u.slots}=>⟨5000,[(1,.ptr 8 0),(2,.ptr 16 0),(4,.ptr 480 0),(6,.ptr 568 0),(7,I j.1)],[(568,.box [.own 4000 9 0 j.1,.own 4008 4 0 j.1,I 0,I 0,Nl,I D.version,.sl 3 (D.l.map Span.enc),.sl 1 (encI D.aM),I u.epoch,I u.clock,I u.fB]),(4000,.row 88 9 (((List.range j.1).map A).map Slot.enc)),(4008,.row 77 4 ((List.replicate j.1 (⟨0,u.epoch,0,0⟩:aJ)).map aJ.enc)),(480,.box [I D.version,.sl 3 (D.l.map Span.enc),.sl 1 (encI D.aM)]),(16,.box [Nl,Nl,I 0,I 0,Nl,I 0,Nl,Nl,I 0,I 0,I 0]),(8,.box [I u.slots,I u.live,I u.capacity,I u.dead,I u.limit,I u.clock,I u.fB,I u.epoch])]⟩) (fun j=>u.slots.toNat - j.1) ⟨0,by omega⟩ (wk [(8,8),(16,16),(480,480),(568,568)] [4000,4008]) ?_
  rintro ⟨j,hj⟩ B hB
  simp only [go_sem]
  by_cases e1:(j:Int)<u.slots
  ·have hw:=bT (show j<=100000 by omega)
   have hm1:=mx (j+1) (by omega)
   have e3:List.take j (((List.range j).map A).map Slot.enc)=((List.range j).map A).map Slot.enc:=bA (by simp)
   have e4:List.take j ((List.replicate j (⟨0,u.epoch,0,0⟩:aJ)).map aJ.enc)=(List.replicate j (⟨0,u.epoch,0,0⟩:aJ)).map aJ.enc:=bA (by simp)
   have e6:(List.replicate j (⟨0,u.epoch,0,0⟩:aJ)).map aJ.enc++[[I 0,I u.epoch,I 0,I 0]]=(List.replicate (j+1) (⟨0,u.epoch,0,0⟩:aJ)).map aJ.enc:=by rw [<-acN];simp [aJ.enc]
   by_cases e2:(j:Int)<u.live
   ·have e5:∀ X:List AV,X=Slot.enc (A j)->((List.range j).map A).map Slot.enc++[X]=((List.range (j+1)).map A).map Slot.enc:=fun X h=>by rw [h,List.range_succ];simp
    have Xq:A j=⟨0,(ak.new u.capacity (gS D.l j).low (gS D.l j).high).1⟩:=by rw [<-hA];simp only [e2,if_true]
    rw [Xq] at e5
    have hx:=hdn j e2
    generalize gS D.l j=sp at hx Xq e5
    have hne:=Wt u.capacity sp.low sp.high
    generalize ak.new u.capacity sp.low sp.high=sh at Xq e5 hne
    have e5:=e5 _ rfl
    simp only [Slot.enc] at e5
    simp only [e1,e2,hw,hx,Int.toNat_natCast,List.length_map,List.length_range,List.length_replicate,go_sem]
    repeat' first
     |(refine um ?_;simp only [e1,e2,hw,hx,e3,e4,e5,e6,Span.enc,ak.enc,Int.toNat_natCast,List.length_map,List.length_range,List.length_replicate,go_sem])
     |(refine aQ (Nz u.capacity) rfl rfl ?_;simp only [e1,e2,hw,hx,e3,e4,e5,e6,Span.enc,ak.enc,Int.toNat_natCast,List.length_map,List.length_range,List.length_replicate,go_sem])
     |(refine bX (Nz u.capacity) rfl rfl ?_;simp only [e1,e2,hw,hx,e3,e4,e5,e6,Span.enc,ak.enc,Int.toNat_natCast,List.length_map,List.length_range,List.length_replicate,go_sem])
     |(refine aQ (hne) rfl rfl ?_;simp only [e1,e2,hw,hx,e3,e4,e5,e6,Span.enc,ak.enc,Int.toNat_natCast,List.length_map,List.length_range,List.length_replicate,go_sem])
     |(refine bX (hne) rfl rfl ?_;simp only [e1,e2,hw,hx,e3,e4,e5,e6,Span.enc,ak.enc,Int.toNat_natCast,List.length_map,List.length_range,List.length_replicate,go_sem])
     |refine bn ?_
     |fail
    exact hB _ ⟨j+1,by omega⟩ (by simp only;omega) (wk [(8,8),(16,16),(480,480),(568,568),(4000,5328),(4008,5400)] [])
   ·have e5:((List.range j).map A).map Slot.enc++[Slot.enc ⟨0,(ak.free u.capacity).1⟩]=((List.range (j+1)).map A).map Slot.enc:=by
     rw [List.range_succ,<-hA];simp [e2]
    have hfr:=Nz u.capacity
    generalize ak.free u.capacity=sh at e5 hfr
    simp only [Slot.enc] at e5
    simp only [e1,e2,hw,Int.toNat_natCast,List.length_map,List.length_range,List.length_replicate,go_sem]
    repeat' first
     |(refine um ?_;simp only [e1,e2,hw,e3,e4,e5,e6,ak.enc,Int.toNat_natCast,List.length_map,List.length_range,List.length_replicate,go_sem])
     |(refine aQ (hfr) rfl rfl ?_;simp only [e1,e2,hw,e3,e4,e5,e6,ak.enc,Int.toNat_natCast,List.length_map,List.length_range,List.length_replicate,go_sem])
     |(refine bX (hfr) rfl rfl ?_;simp only [e1,e2,hw,e3,e4,e5,e6,ak.enc,Int.toNat_natCast,List.length_map,List.length_range,List.length_replicate,go_sem])
     |refine bn ?_
     |fail
    exact hB _ ⟨j+1,by omega⟩ (by simp only;omega) (wk [(8,8),(16,16),(480,480),(568,568),(4000,5176),(4008,5248)] [])
  ·have hjs:u.slots=(j:Int):=by omega
   have hjn:u.slots.toNat=j:=by omega
   rw [hjn] at hR
   have e3:List.take j (((List.range j).map A).map Slot.enc)=((List.range j).map A).map Slot.enc:=bA (by simp)
   have e4:List.take j ((List.replicate j (⟨0,u.epoch,0,0⟩:aJ)).map aJ.enc)=(List.replicate j (⟨0,u.epoch,0,0⟩:aJ)).map aJ.enc:=bA (by simp)
   clear hB
   simp only [e1,go_sem]
   have aK:=aoD u.dead b4
   have hJ:=ah e3 e4
   exact aZ
 ·simp only [Bool.not_eq_true] at hg
  simp only [hg,Bool.not_false,if_true] at hR
  unfold Setup.good at hg
  refine Fn.aT bR CZ (by simp) ?_
  unfold Mc SC.mk' Setup.enc
  simp only [go_sem]
  have aK:=iO u.slots 1 6
  have aU:=iO u.live 1 u.slots
  have bK:=iO u.capacity 1 12
  have dV:=iO u.dead 1 24
  have fQ:=iO u.limit 1 8
  have mR:=iO u.clock 0 1073741824
  have DV:=iO u.fB 1 1073741824
  have Xp:=iO u.epoch 0 65536
  have hJ:=trivial
  repeat' first
   |(first|refine sC ?_|refine sD ?_|refine sZ ?_|refine sY ?_|refine sF ?_);simp only [hJ,go_sem]
   |(first|refine bC (fun hq=> ?_) (fun hq=> ?_)|refine dR (fun hq=> ?_) (fun hq=> ?_)|refine dD (fun hq=> ?_) (fun hq=> ?_))<;>simp only [hq,hJ,go_sem]
   |refine sM ?_;simp only [ay,rv,au,get,hJ,go_sem]
   |refine bn ?_
   |fail
  all_goals clear aK aU bK dV fQ mR DV Xp hJ
  all_goals exact fz
end Go.Eng
