/-
  Part of a proof: lemmas and definitions of this work.
  No condition.
-/
import Derived.Test.YtmfankbjapjjiaaGreatA08
import Derived.Test.YtmfankbjapjjiaaGreatA30
set_option linter.all false
set_option maxRecDepth 100000
set_option maxHeartbeats 8000000
namespace Go.Eng
open Go Go.Proofs
attribute [local go_sem] aj.enc av.enc Task.enc Ev.enc bE.enc aW.enc cB.enc Dead.enc Dir.enc ak.enc Walk.enc aU.enc aI.enc bN.enc Setup.enc aS dX dY List.length_map List.length_range List.length_replicate
theorem ao0 (k:Int) (h:1<=k/\k<=24):Fn Tryz.prog 94 [I k] [] (.aG [.agg [I k,.sl 7 []],I 0]) [] []:=by
 have hf:=akr k
 unfold VG at hf
 simp only [show ¬ k<1 by omega,show ¬ 24<k by omega,if_false,or_self] at hf
 exact hf
theorem ad7 (u:Setup):Fn Tryz.prog 54 [.agg u.enc] [] (.aG [.agg (aj.new u).1.enc,I (aj.new u).2]) [] []:=by
 generalize hR:aj.new u=R
 unfold aj.new at hR
 have mx:∀ j:Nat,j<=10000->j<=maxLen:=fun j h=>Nat.le_trans h (by decide)
 by_cases hg:u.good=true
 ·simp only [hg,Bool.not_true,Bool.false_eq_true,if_false] at hR
  have hg0:=hg
  unfold Setup.good at hg0
  simp only [Bool.and_eq_true] at hg0
  obtain ⟨g1,g2,g3,g4,g5,g6,g7,g8⟩:=hg0
  have b1:1<=u.slots/\u.slots<=6:=by simpa [dQ] using g1
  have b2:1<=u.live/\u.live<=u.slots:=by simpa [dQ] using g2
  have b4:1<=u.dead/\u.dead<=24:=by simpa [dQ] using g4
  refine Fn.aT bS Dl (by simp) ?_
  unfold Mg SC.mk' Setup.enc
  simp only [go_sem]
  have aK:=iP u.slots 1 6
  have aV:=iP u.live 1 u.slots
  have bL:=iP u.capacity 1 12
  have dV:=iP u.dead 1 24
  have fT:=iP u.limit 1 8
  have mV:=iP u.clock 0 1073741824
  have Kq:=iP u.fA 1 1073741824
  have Xu:=iP u.epoch 0 65536
  have w9_:=amE u.slots u.live
  have hJ:=ah g1 (ah g2 (ah g3 (ah g4 (ah g5 (ah g6 (ah g7 g8))))))
  repeat' first
   |(first|refine sC ?_|refine sD ?_|refine sZ ?_|refine sY ?_|refine sF ?_);simp only [hJ,go_sem]
   |(first|refine bD (fun hq=> ?_) (fun hq=> ?_)|refine dS (fun hq=> ?_) (fun hq=> ?_)|refine dD (fun hq=> ?_) (fun hq=> ?_))<;>simp only [hq,hJ,go_sem]
   |refine sM ?_;simp only [ay,rv,au,get,hJ,go_sem]
   |refine bn ?_
   |fail
  all_goals clear aK aV bL dV fT mV Kq Xu w9_ hJ
  have hD:(Dir.new u.slots u.live).1.l.length=u.live.toNat:=by
   unfold Dir.new
   rw [if_neg (by simp;omega)]
   simp
  have hdn:∀ j:Nat,(j:Int)<u.live->nth ((Dir.new u.slots u.live).1.l.map Span.enc) j=Span.enc (gS (Dir.new u.slots u.live).1.l j):=fun j h=>bT Span.enc Span.z (by omega)
  generalize hA:Nj u=A at hR
  unfold Nj at hA
  generalize hDD:(Dir.new u.slots u.live).1=D at hR hD hdn hA
  refine go_loop (fun j:{j:Nat // (j:Int)<=u.slots}=>⟨5000,[(1,.ptr 8 0),(2,.ptr 16 0),(4,.ptr 480 0),(6,.ptr 568 0),(7,I j.1)],[(568,.box [.own 4000 9 0 j.1,.own 4008 4 0 j.1,I 0,I 0,Nl,I D.version,.sl 3 (D.l.map Span.enc),.sl 1 (encI D.aL),I u.epoch,I u.clock,I u.fA]),(4000,.row 104 9 (((List.range j.1).map A).map Slot.enc)),(4008,.row 175 4 ((List.replicate j.1 (⟨0,u.epoch,0,0⟩:aI)).map aI.enc)),(480,.box [I D.version,.sl 3 (D.l.map Span.enc),.sl 1 (encI D.aL)]),(16,.box [Nl,Nl,I 0,I 0,Nl,I 0,Nl,Nl,I 0,I 0,I 0]),(8,.box [I u.slots,I u.live,I u.capacity,I u.dead,I u.limit,I u.clock,I u.fA,I u.epoch])]⟩) (fun j=>u.slots.toNat - j.1) ⟨0,by omega⟩ (wk [(8,8),(16,16),(480,480),(568,568)] [4000,4008]) ?_
  rintro ⟨j,hj⟩ B hB
  simp only [go_sem]
  by_cases e1:(j:Int)<u.slots
  ·have hw:=bQ (show j<=100000 by omega)
   have hm1:=mx (j+1) (by omega)
   have e3:List.take j (((List.range j).map A).map Slot.enc)=((List.range j).map A).map Slot.enc:=bB (by simp)
   have e4:List.take j ((List.replicate j (⟨0,u.epoch,0,0⟩:aI)).map aI.enc)=(List.replicate j (⟨0,u.epoch,0,0⟩:aI)).map aI.enc:=bB (by simp)
   have e6:(List.replicate j (⟨0,u.epoch,0,0⟩:aI)).map aI.enc++[[I 0,I u.epoch,I 0,I 0]]=(List.replicate (j+1) (⟨0,u.epoch,0,0⟩:aI)).map aI.enc:=by rw [<-adn];simp [aI.enc]
   by_cases e2:(j:Int)<u.live
   ·have e5:∀ X:List AV,X=Slot.enc (A j)->((List.range j).map A).map Slot.enc++[X]=((List.range (j+1)).map A).map Slot.enc:=fun X h=>by rw [h,List.range_succ];simp
    have Xv:A j=⟨0,(ak.new u.capacity (gS D.l j).low (gS D.l j).high).1⟩:=by rw [<-hA];simp only [e2,if_true]
    rw [Xv] at e5
    have hx:=hdn j e2
    generalize gS D.l j=sp at hx Xv e5
    have hne:=Wx u.capacity sp.low sp.high
    generalize ak.new u.capacity sp.low sp.high=sh at Xv e5 hne
    have e5:=e5 _ rfl
    simp only [Slot.enc] at e5
    simp only [e1,e2,hw,hx,Int.toNat_natCast,List.length_map,List.length_range,List.length_replicate,go_sem]
    repeat' first
     |(refine ul ?_;simp only [e1,e2,hw,hx,e3,e4,e5,e6,Span.enc,ak.enc,Int.toNat_natCast,List.length_map,List.length_range,List.length_replicate,go_sem])
     |(refine aQ (NA u.capacity) rfl rfl ?_;simp only [e1,e2,hw,hx,e3,e4,e5,e6,Span.enc,ak.enc,Int.toNat_natCast,List.length_map,List.length_range,List.length_replicate,go_sem])
     |(refine bX (NA u.capacity) rfl rfl ?_;simp only [e1,e2,hw,hx,e3,e4,e5,e6,Span.enc,ak.enc,Int.toNat_natCast,List.length_map,List.length_range,List.length_replicate,go_sem])
     |(refine aQ (hne) rfl rfl ?_;simp only [e1,e2,hw,hx,e3,e4,e5,e6,Span.enc,ak.enc,Int.toNat_natCast,List.length_map,List.length_range,List.length_replicate,go_sem])
     |(refine bX (hne) rfl rfl ?_;simp only [e1,e2,hw,hx,e3,e4,e5,e6,Span.enc,ak.enc,Int.toNat_natCast,List.length_map,List.length_range,List.length_replicate,go_sem])
     |refine bn ?_
     |fail
    exact hB _ ⟨j+1,by omega⟩ (by simp only;omega) (wk [(8,8),(16,16),(480,480),(568,568),(4000,5328),(4008,5400)] [])
   ·have e5:((List.range j).map A).map Slot.enc++[Slot.enc ⟨0,(ak.free u.capacity).1⟩]=((List.range (j+1)).map A).map Slot.enc:=by
     rw [List.range_succ,<-hA];simp [e2]
    have hfr:=NA u.capacity
    generalize ak.free u.capacity=sh at e5 hfr
    simp only [Slot.enc] at e5
    simp only [e1,e2,hw,Int.toNat_natCast,List.length_map,List.length_range,List.length_replicate,go_sem]
    repeat' first
     |(refine ul ?_;simp only [e1,e2,hw,e3,e4,e5,e6,ak.enc,Int.toNat_natCast,List.length_map,List.length_range,List.length_replicate,go_sem])
     |(refine aQ (hfr) rfl rfl ?_;simp only [e1,e2,hw,e3,e4,e5,e6,ak.enc,Int.toNat_natCast,List.length_map,List.length_range,List.length_replicate,go_sem])
     |(refine bX (hfr) rfl rfl ?_;simp only [e1,e2,hw,e3,e4,e5,e6,ak.enc,Int.toNat_natCast,List.length_map,List.length_range,List.length_replicate,go_sem])
     |refine bn ?_
     |fail
    exact hB _ ⟨j+1,by omega⟩ (by simp only;omega) (wk [(8,8),(16,16),(480,480),(568,568),(4000,5176),(4008,5248)] [])
  ·have hjs:u.slots=(j:Int):=by omega
   have hjn:u.slots.toNat=j:=by omega
   rw [hjn] at hR
   have e3:List.take j (((List.range j).map A).map Slot.enc)=((List.range j).map A).map Slot.enc:=bB (by simp)
   have e4:List.take j ((List.replicate j (⟨0,u.epoch,0,0⟩:aI)).map aI.enc)=(List.replicate j (⟨0,u.epoch,0,0⟩:aI)).map aI.enc:=bB (by simp)
   clear hB
   simp only [e1,go_sem]
   have aK:=ao0 u.dead b4
   have hJ:=ah e3 e4
   exact aZ
 ·simp only [Bool.not_eq_true] at hg
  simp only [hg,Bool.not_false,if_true] at hR
  unfold Setup.good at hg
  refine Fn.aT bS Dl (by simp) ?_
  unfold Mg SC.mk' Setup.enc
  simp only [go_sem]
  have aK:=iP u.slots 1 6
  have aV:=iP u.live 1 u.slots
  have bL:=iP u.capacity 1 12
  have dV:=iP u.dead 1 24
  have fT:=iP u.limit 1 8
  have mV:=iP u.clock 0 1073741824
  have Kq:=iP u.fA 1 1073741824
  have Xu:=iP u.epoch 0 65536
  have hJ:=trivial
  repeat' first
   |(first|refine sC ?_|refine sD ?_|refine sZ ?_|refine sY ?_|refine sF ?_);simp only [hJ,go_sem]
   |(first|refine bD (fun hq=> ?_) (fun hq=> ?_)|refine dS (fun hq=> ?_) (fun hq=> ?_)|refine dD (fun hq=> ?_) (fun hq=> ?_))<;>simp only [hq,hJ,go_sem]
   |refine sM ?_;simp only [ay,rv,au,get,hJ,go_sem]
   |refine bn ?_
   |fail
  all_goals clear aK aV bL dV fT mV Kq Xu hJ
  all_goals exact fz
end Go.Eng
