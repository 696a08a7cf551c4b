/-
  Part of a proof: lemmas and definitions of this work.
  No condition.
-/
import Derived.Test.YtmfankbjapjjiaaGreatA08
import Derived.Test.YtmfankbjapjjiaaGreatA18
set_option linter.all false
set_option maxRecDepth 100000
set_option maxHeartbeats 8000000
namespace Go.Eng
open Go Go.Proofs
theorem amr {mx dl ep li:Int} {s:ak} {out:List Lease} (h:¬ (out.length:Int)<mx):∀ l:List ai,oF mx dl ep li l s out=(s,out)
 |[]=>rfl
 |m::r=>by simp only [oF];rw [if_neg h]
theorem ams {k ep li:Int} {s:ak} {out:List ai} (h:¬ (out.length:Int)<k):∀ l:List ai,ni k ep li l s out=(s,out)
 |[]=>rfl
 |m::r=>by simp only [ni];rw [if_neg h]
theorem amt (s:ak) (mx now bC ep li:Int) (hs:s.aR.l.length<=500/\s.aR.heap.length<=500):Fn Tryz.prog 385 [.agg s.enc,I mx,I now,I bC,I ep,I li] [] (.aG [.agg (s.take mx now bC ep li).1.enc,.sl 8 ((s.take mx now bC ep li).2.1.map Lease.enc),I (s.take mx now bC ep li).2.2]) [] []:=by
 have hsm:s.sm:=⟨by omega,by omega⟩
 generalize hR:s.take mx now bC ep li=R
 unfold ak.take at hR
 refine Fn.aO abt (by simp) ?_
 unfold Ti SC.mk' ak.enc
 simp only [go_sem]
 by_cases h0:s.lv≠0\/jD ep=false\/kE li=false\/oD now=false\/qi bC=false\/mx<1\/6<mx
 ·have aK:=jX s hsm
  have aV:=qo ep
  have bL:=uY li
  have dV:=DV now
  have fT:=Nz bC
  exact aX
 have g1:s.lv=0:=by simpa using fun h=>h0 (.inl h)
 have g2:jD ep=true:=by simpa using fun h=>h0 (.inr (.inl h))
 have g3:kE li=true:=by simpa using fun h=>h0 (.inr (.inr (.inl h)))
 have g4:oD now=true:=by simpa using fun h=>h0 (.inr (.inr (.inr (.inl h))))
 have g5:qi bC=true:=by simpa using fun h=>h0 (.inr (.inr (.inr (.inr (.inl h)))))
 have g6:¬ mx<1:=fun h=>h0 (.inr (.inr (.inr (.inr (.inr (.inl h))))))
 have g7:¬ 6<mx:=fun h=>h0 (.inr (.inr (.inr (.inr (.inr (.inr h))))))
 have b1:=ac8 g4
 have b2:=ac9 g5
 have hw:IntKind.i64.wrap (now+bC)=now+bC:=bF (by omega)
 rw [if_neg (by simp [g1]),if_neg (fun h=>h0 (.inr h))] at hR
 refine aQ (jX s hsm) rfl rfl ?_
 simp only [g1,go_sem]
 refine aQ (qo ep) rfl rfl ?_
 simp only [g2,Bool.not_true,go_sem]
 refine aQ (uY li) rfl rfl ?_
 simp only [g3,Bool.not_true,go_sem]
 refine aQ (DV now) rfl rfl ?_
 simp only [g4,Bool.not_true,go_sem]
 refine aQ (Nz bC) rfl rfl ?_
 simp only [g5,g6,g7,Bool.not_true,hw,go_sem]
 by_cases h1:1073741824<now+bC
 ·rw [if_pos h1] at hR
  simp only [h1,go_sem]
  exact Fin.aD _ rfl rfl (by rw [<-hR];simp only [ay,rv,au,get,ak.enc,List.map_nil,go_sem])
 rw [if_neg h1] at hR
 simp only [h1,go_sem]
 refine aQ (uZ s) rfl rfl ?_
 have hl:=s.ready.rA
 generalize s.ready.list=L at hR hl
 simp only [go_sem]
 refine go_loop (fun x:{x:Nat×ak×List Lease // x.1<=L.length/\x.2.2.length<=x.1/\(x.2.1.aR.l.length<=500+x.1/\x.2.1.aR.heap.length<=500+x.1)/\oF mx (now+bC) ep li (L.drop x.1) x.2.1 x.2.2=(R.1,R.2.1)}=>⟨5000,[(1,I mx),(2,I now),(3,I bC),(4,I ep),(5,I li),(6,.ptr 8 0),(12,.ptr 16 0),(16,.own 80 8 0 x.1.2.2.length),(17,.sl 7 (L.map ai.enc)),(18,I x.1.1)],[(8,.box [Bo x.1.2.1.live,I x.1.2.1.low,I x.1.2.1.high,.sl 7 (x.1.2.1.ready.cells.map ai.enc),I x.1.2.1.ready.head,I x.1.2.1.ready.size,.sl 8 (x.1.2.1.aR.l.map Lease.enc),.sl 2 (x.1.2.1.aR.heap.map Due.enc)]),(16,.box [Bo false,I 0,I 0,Nl,I 0,I 0,Nl,Nl]),(80,.row 234 8 (x.1.2.2.map Lease.enc))]⟩) (fun x=>L.length - x.1.1) ⟨(0,s,[]),by omega,by simp,hs,by rw [<-hR];rfl⟩ (wk [(8,8),(16,16)] [80]) ?_
 rintro ⟨⟨j,s',out⟩,hj,ho,hs',he⟩ B hB
 simp only at hj ho hs' he
 have hs1:=hs'.1
 have hs2:=hs'.2
 simp only [go_sem]
 by_cases e1:j<L.length
 ·have e2:decide ((j:Int)<(L.length:Int))=true:=by simp;omega
  by_cases e3:(out.length:Int)<mx
  ·rw [eD ai.z e1] at he
   simp only [oF,show L[j]?.getD ai.z=gM L j from rfl] at he
   rw [if_pos e3] at he
   have hx:nth (L.map ai.enc) j=ai.enc (gM L j):=bT ai.enc ai.z e1
   have hw2:=bQ (show j<=100000 by omega)
   generalize gM L j=m at hx he
   simp only [e2,e3,hx,hw2,Int.toNat_natCast,List.length_map,ai.enc,go_sem]
   repeat (refine bn ?_)
   refine aQ (amg m ep li) rfl rfl ?_
   simp only [go_sem]
   by_cases e4:m.J6 ep li=true
   ·rw [if_pos e4] at he
    simp only [e4,hx,Bool.not_true,Int.toNat_natCast,ai.enc,go_sem]
    repeat (refine bn ?_)
    refine aQ (ami m) rfl rfl ?_
    simp only [ai.enc,go_sem]
    refine aQ (Ww s'.ready m.jU.1.id) rfl rfl ?_
    simp only [hw,Ring.enc,go_sem]
    refine aQ (ac0 s'.aR m.jU.1 (now+bC) (by omega) (by omega)) rfl rfl ?_
    have hg:=NG s'.aR m.jU.1 (now+bC)
    have hm:out.length+1<=maxLen:=Nat.le_trans (show _<=10000 by omega) (by decide)
    have e5:List.take out.length (out.map Lease.enc)=out.map Lease.enc:=bB (by simp)
    have e6:out.map Lease.enc++[[I m.jU.1.id,I m.jU.1.route,I m.jU.1.epoch,I m.jU.1.count,I m.jU.1.gen,I m.jU.1.sent,.v (.string m.jU.1.body),I (now+bC)]]=(out++[(⟨m.jU.1,now+bC⟩:Lease)]).map Lease.enc:=by rw [List.map_append];rfl
    simp only [hw,hw2,Table.enc,e5,e6,List.length_map,go_sem]
    repeat (refine bn ?_)
    exact hB _ ⟨(j+1,_,_),by simp only;omega,by simp;omega,⟨by simp only;omega,by simp only;omega⟩,he⟩ (by simp only;omega) (wk [(8,8),(16,16),(80,5472)] [])
   ·rw [if_neg e4] at he
    simp only [Bool.not_eq_true] at e4
    simp only [e4,hw2,Bool.not_false,go_sem]
    exact hB _ ⟨(j+1,s',out),by simp only;omega,by simp only;omega,⟨by simp only;omega,by simp only;omega⟩,he⟩ (by simp only;omega) (wk [(8,8),(16,16),(80,80)] [])
  ·rw [amr e3] at he
   have e5:List.take out.length (out.map Lease.enc)=out.map Lease.enc:=bB (by simp)
   simp only [e2,e3,List.length_map,go_sem]
   rw [Prod.mk.injEq] at he
   exact Fin.aD _ rfl rfl (by rw [<-he.1,<-he.2,<-hR];simp only [ay,rv,au,get,ak.enc,e5,List.length_map,go_sem];simp)
 ·have e2:decide ((j:Int)<(L.length:Int))=false:=by simp;omega
  rw [eO (by omega)] at he
  simp only [oF] at he
  have e5:List.take out.length (out.map Lease.enc)=out.map Lease.enc:=bB (by simp)
  simp only [e2,List.length_map,go_sem]
  rw [Prod.mk.injEq] at he
  exact Fin.aD _ rfl rfl (by rw [<-he.1,<-he.2,<-hR];simp only [ay,rv,au,get,ak.enc,e5,List.length_map,go_sem];simp)
theorem amu (s:ak) (k ep li:Int) (hsm:s.sm):Fn Tryz.prog 359 [.agg s.enc,I k,I ep,I li] [] (.aG [.agg (s.qX k ep li).1.enc,.sl 7 ((s.qX k ep li).2.1.map ai.enc),I (s.qX k ep li).2.2]) [] []:=by
 generalize hR:s.qX k ep li=R
 unfold ak.qX at hR
 refine Fn.aO ajD (by simp) ?_
 unfold SS SC.mk' ak.enc
 simp only [go_sem]
 by_cases h0:s.lv≠0\/jD ep=false\/kE li=false\/k<0
 ·have aK:=jX s hsm
  have aV:=qo ep
  have bL:=uY li
  exact aX
 have g1:s.lv=0:=by simpa using fun h=>h0 (.inl h)
 have g2:jD ep=true:=by simpa using fun h=>h0 (.inr (.inl h))
 have g3:kE li=true:=by simpa using fun h=>h0 (.inr (.inr (.inl h)))
 have g4:¬ k<0:=fun h=>h0 (.inr (.inr (.inr h)))
 rw [if_neg (by simp [g1]),if_neg (fun h=>h0 (.inr h))] at hR
 refine aQ (jX s hsm) rfl rfl ?_
 simp only [g1,go_sem]
 refine aQ (qo ep) rfl rfl ?_
 simp only [g2,Bool.not_true,go_sem]
 refine aQ (uY li) rfl rfl ?_
 simp only [g3,g4,Bool.not_true,go_sem]
 refine aQ (uZ s) rfl rfl ?_
 have hl:=s.ready.rA
 generalize s.ready.list=L at hR hl
 simp only [go_sem]
 refine go_loop (fun x:{x:Nat×ak×List ai // x.1<=L.length/\x.2.2.length<=x.1/\ni k ep li (L.drop x.1) x.2.1 x.2.2=(R.1,R.2.1)}=>⟨5000,[(1,I k),(2,I ep),(3,I li),(4,.ptr 8 0),(8,.ptr 16 0),(12,.own 80 7 0 x.1.2.2.length),(13,.sl 7 (L.map ai.enc)),(14,I x.1.1)],[(8,.box [Bo x.1.2.1.live,I x.1.2.1.low,I x.1.2.1.high,.sl 7 (x.1.2.1.ready.cells.map ai.enc),I x.1.2.1.ready.head,I x.1.2.1.ready.size,.sl 8 (x.1.2.1.aR.l.map Lease.enc),.sl 2 (x.1.2.1.aR.heap.map Due.enc)]),(16,.box [Bo false,I 0,I 0,Nl,I 0,I 0,Nl,Nl]),(80,.row 85 7 (x.1.2.2.map ai.enc))]⟩) (fun x=>L.length - x.1.1) ⟨(0,s,[]),by omega,by simp,by rw [<-hR];rfl⟩ (wk [(8,8),(16,16)] [80]) ?_
 rintro ⟨⟨j,s',out⟩,hj,ho,he⟩ B hB
 simp only at hj ho he
 simp only [go_sem]
 by_cases e1:j<L.length
 ·have e2:decide ((j:Int)<(L.length:Int))=true:=by simp;omega
  by_cases e3:(out.length:Int)<k
  ·rw [eD ai.z e1] at he
   simp only [ni,show L[j]?.getD ai.z=gM L j from rfl] at he
   rw [if_pos e3] at he
   have hx:nth (L.map ai.enc) j=ai.enc (gM L j):=bT ai.enc ai.z e1
   have hw2:=bQ (show j<=100000 by omega)
   generalize gM L j=m at hx he
   simp only [e2,e3,hx,hw2,Int.toNat_natCast,List.length_map,ai.enc,go_sem]
   repeat (refine bn ?_)
   refine aQ (NE m li) rfl rfl ?_
   simp only [go_sem]
   by_cases e4:m.spent li=true
   ·simp only [e4,hx,Int.toNat_natCast,ai.enc,go_sem]
    repeat (refine bn ?_)
    refine aQ (sO m ep) rfl rfl ?_
    simp only [go_sem]
    by_cases e5:m.epoch<ep
    ·rw [if_neg (by simp [ai.gZ,e5])] at he
     simp only [e5,hw2,Bool.not_true,go_sem]
     exact hB _ ⟨(j+1,s',out),by simp only;omega,by simp only;omega,he⟩ (by simp only;omega) (wk [(8,8),(16,16),(80,80)] [])
    ·rw [if_pos (by simp [ai.gZ,e5,e4])] at he
     simp only [e5,hx,Bool.not_false,Int.toNat_natCast,ai.enc,go_sem]
     repeat (refine bn ?_)
     refine bX (Ww s'.ready m.id) rfl rfl ?_
     have hm:out.length+1<=maxLen:=Nat.le_trans (show _<=10000 by omega) (by decide)
     have e5:List.take out.length (out.map ai.enc)=out.map ai.enc:=bB (by simp)
     have e6:out.map ai.enc++[[I m.id,I m.route,I m.epoch,I m.count,I m.gen,I m.sent,.v (.string m.body)]]=(out++[m]).map ai.enc:=by rw [List.map_append];rfl
     simp only [hw2,hx,Ring.enc,ai.enc,e5,e6,List.length_map,Int.toNat_natCast,go_sem]
     repeat (refine bn ?_)
     exact hB _ ⟨(j+1,_,_),by simp only;omega,by simp;omega,he⟩ (by simp only;omega) (wk [(8,8),(16,16),(80,5360)] [])
   ·rw [if_neg (by simp [e4])] at he
    simp only [Bool.not_eq_true] at e4
    simp only [e4,hw2,go_sem]
    exact hB _ ⟨(j+1,s',out),by simp only;omega,by simp only;omega,he⟩ (by simp only;omega) (wk [(8,8),(16,16),(80,80)] [])
  ·rw [ams e3] at he
   have e5:List.take out.length (out.map ai.enc)=out.map ai.enc:=bB (by simp)
   simp only [e2,e3,List.length_map,go_sem]
   rw [Prod.mk.injEq] at he
   exact Fin.aD _ rfl rfl (by rw [<-he.1,<-he.2,<-hR];simp only [ay,rv,au,get,ak.enc,e5,List.length_map,go_sem];simp)
 ·have e2:decide ((j:Int)<(L.length:Int))=false:=by simp;omega
  rw [eO (by omega)] at he
  simp only [ni] at he
  have e5:List.take out.length (out.map ai.enc)=out.map ai.enc:=bB (by simp)
  simp only [e2,List.length_map,go_sem]
  rw [Prod.mk.injEq] at he
  exact Fin.aD _ rfl rfl (by rw [<-he.1,<-he.2,<-hR];simp only [ay,rv,au,get,ak.enc,e5,List.length_map,go_sem];simp)
theorem WB {α:Type} (p:α->Bool) (x:α) (l:List α):ng p (x::l)=(if p x then 1 else 0)+ng p l:=by
 unfold ng
 rw [List.filter_cons]
 split<;>simp;omega
theorem amv (s:ak) (ep li:Int) (hs:s.sm):Fn Tryz.prog 480 [.agg s.enc,I ep,I li] [] (.aG [I (s.counts ep li).1,I (s.counts ep li).2]) [] []:=by
 have hs1:=hs.1
 generalize hR:s.counts ep li=R
 unfold ak.counts at hR
 refine Fn.aO Vv (by simp) ?_
 unfold Vu SC.mk' ak.enc
 simp only [go_sem]
 by_cases h0:s.lv≠0\/jD ep=false\/kE li=false
 ·have aK:=jX s hs
  have aV:=qo ep
  have bL:=uY li
  exact aX
 have g1:s.lv=0:=by simpa using fun h=>h0 (.inl h)
 have g2:jD ep=true:=by simpa using fun h=>h0 (.inr (.inl h))
 have g3:kE li=true:=by simpa using fun h=>h0 (.inr (.inr h))
 rw [if_neg h0] at hR
 refine aQ (jX s hs) rfl rfl ?_
 simp only [g1,go_sem]
 refine aQ (qo ep) rfl rfl ?_
 simp only [g2,Bool.not_true,go_sem]
 refine aQ (uY li) rfl rfl ?_
 simp only [g3,Bool.not_true,go_sem]
 refine bX (uZ s) rfl rfl ?_
 simp only [go_sem]
 refine bX (Wy s (by omega)) rfl rfl ?_
 have hl:=s.ready.rA
 have hl2:s.eH.length<=800:=by unfold ak.eH;simp;exact hs1
 generalize s.ready.list=L at hR hl
 generalize s.eH=M at hR hl2
 simp only [go_sem]
 repeat (refine bn ?_)
 refine go_loop (fun x:{x:Nat×Int // x.1<=L.length/\(0<=x.2/\x.2<=x.1)/\x.2+ng (fun m:ai=> !m.gZ ep&& !m.spent li) (L.drop x.1)=R.1}=>⟨5000,[(1,I ep),(2,I li),(8,I x.1.2),(9,I 0),(10,.sl 7 (L.map ai.enc)),(11,.sl 7 (M.map ai.enc)),(12,I x.1.1)],[]⟩) (fun x=>L.length - x.1.1) ⟨(0,0),by omega,by simp,by rw [<-hR];simp⟩ (wk [] []) ?_
 rintro ⟨⟨j,c⟩,hj,hc,he⟩ B hB
 simp only at hj hc he
 simp only [go_sem]
 by_cases e1:j<L.length
 ·have e2:decide ((j:Int)<(L.length:Int))=true:=by simp;omega
  rw [eD ai.z e1,WB] at he
  simp only [show L[j]?.getD ai.z=gM L j from rfl] at he
  have hx:nth (L.map ai.enc) j=ai.enc (gM L j):=bT ai.enc ai.z e1
  have hw:=bQ (show j<=100000 by omega)
  have hw2:IntKind.i64.wrap (c+1)=c+1:=bF (by omega)
  generalize gM L j=m at hx he
  simp only [e2,hx,ai.enc,Int.toNat_natCast,go_sem]
  repeat (refine bn ?_)
  refine aQ (sO m ep) rfl rfl ?_
  simp only [go_sem]
  by_cases e3:m.epoch<ep
  ·simp only [show m.gZ ep=decide (m.epoch<ep) from rfl,e3,decide_true,Bool.not_true,Bool.false_and,Bool.false_eq_true,if_false] at he
   simp only [e3,hw,Bool.not_true,go_sem]
   exact hB _ ⟨(j+1,c),by simp only;omega,by simp only;omega,by simp only;simpa using he⟩ (by simp only;omega) (wk [] [])
  ·simp only [e3,hx,ai.enc,Bool.not_false,Int.toNat_natCast,go_sem]
   repeat (refine bn ?_)
   refine aQ (NE m li) rfl rfl ?_
   simp only [go_sem]
   by_cases e4:m.spent li=true
   ·simp only [show m.gZ ep=decide (m.epoch<ep) from rfl,e3,e4,decide_false,Bool.not_true,Bool.and_false,Bool.false_eq_true,if_false] at he
    simp only [e4,hw,Bool.not_true,go_sem]
    exact hB _ ⟨(j+1,c),by simp only;omega,by simp only;omega,by simp only;simpa using he⟩ (by simp only;omega) (wk [] [])
   ·simp only [Bool.not_eq_true] at e4
    simp only [show m.gZ ep=decide (m.epoch<ep) from rfl,e3,e4,decide_false,Bool.not_false,Bool.and_true,if_true] at he
    simp only [e4,hw,hw2,Bool.not_false,go_sem]
    exact hB _ ⟨(j+1,c+1),by simp only;omega,by simp only;omega,by simp only;omega⟩ (by simp only;omega) (wk [] [])
 have e2:decide ((j:Int)<(L.length:Int))=false:=by simp;omega
 rw [eO (by omega)] at he
 simp only [ng,List.filter_nil,List.length_nil,Int.natCast_zero,Int.add_zero] at he
 simp only [e2,go_sem]
 refine go_loop (fun x:{x:Nat×Int // x.1<=M.length/\(0<=x.2/\x.2<=x.1)/\x.2+ng (fun m:ai=> !m.gZ ep) (M.drop x.1)=R.2}=>⟨9000,[(1,I ep),(8,I c),(9,I x.1.2),(11,.sl 7 (M.map ai.enc)),(13,I x.1.1)],[]⟩) (fun x=>M.length - x.1.1) ⟨(0,0),by omega,by simp,by rw [<-hR];simp⟩ (wk [] []) ?_
 clear hB e1 e2 hj hc
 rintro ⟨⟨j,c2⟩,hj,hc,he2⟩ B hB
 simp only at hj hc he2
 simp only [go_sem]
 by_cases e1:j<M.length
 ·have e2:decide ((j:Int)<(M.length:Int))=true:=by simp;omega
  rw [eD ai.z e1,WB] at he2
  simp only [show M[j]?.getD ai.z=gM M j from rfl] at he2
  have hx:nth (M.map ai.enc) j=ai.enc (gM M j):=bT ai.enc ai.z e1
  have hw:=bQ (show j<=100000 by omega)
  have hw2:IntKind.i64.wrap (c2+1)=c2+1:=bF (by omega)
  generalize gM M j=m at hx he2
  simp only [e2,hx,ai.enc,Int.toNat_natCast,go_sem]
  repeat (refine bn ?_)
  refine aQ (sO m ep) rfl rfl ?_
  simp only [go_sem]
  by_cases e3:m.epoch<ep
  ·simp only [show m.gZ ep=decide (m.epoch<ep) from rfl,e3,decide_true,Bool.not_true,Bool.false_eq_true,if_false] at he2
   simp only [e3,hw,Bool.not_true,go_sem]
   exact hB _ ⟨(j+1,c2),by simp only;omega,by simp only;omega,by simp only;simpa using he2⟩ (by simp only;omega) (wk [] [])
  ·simp only [show m.gZ ep=decide (m.epoch<ep) from rfl,e3,decide_false,Bool.not_false,if_true] at he2
   simp only [e3,hw,hw2,Bool.not_false,go_sem]
   exact hB _ ⟨(j+1,c2+1),by simp only;omega,by simp only;omega,by simp only;omega⟩ (by simp only;omega) (wk [] [])
 ·have e2:decide ((j:Int)<(M.length:Int))=false:=by simp;omega
  rw [eO (by omega)] at he2
  simp only [ng,List.filter_nil,List.length_nil,Int.natCast_zero,Int.add_zero] at he2
  simp only [e2,go_sem]
  exact Fin.aD _ rfl rfl (by rw [<-he,<-he2];simp only [ay,rv,au,get,go_sem])
theorem amw (s:ak) (m:ai) (h:s.sm):(s.put m).1.sm:=by
 unfold ak.put
 repeat' split
 all_goals first|exact ⟨Nat.zero_le _,Nat.zero_le _⟩|exact h
theorem adg (s:ak) (l:List ai) (hs:s.sm) (hl:l.length<=1000):Fn Tryz.prog 341 [.agg s.enc,.sl 7 (l.map ai.enc)] [] (.aG [.agg (s.sP l).1.enc,I (s.sP l).2]) [] []:=by
 have hs1:=hs.1
 generalize hR:s.sP l=R
 unfold ak.sP at hR
 refine Fn.aO ajr (by simp) ?_
 unfold Sq SC.mk' ak.enc
 simp only [go_sem]
 refine aQ (jX s hs) rfl rfl ?_
 simp only [go_sem]
 by_cases h1:s.lv≠0
 ·rw [if_pos h1] at hR
  have h1':(s.lv !=0)=true:=by simpa using h1
  simp only [h1',go_sem]
  exact Fin.aD _ rfl rfl (by rw [<-hR];simp only [ay,rv,au,get,ak.enc,List.map_nil,go_sem])
 rw [if_neg h1] at hR
 have h1':(s.lv !=0)=false:=by simpa using h1
 have g1:s.lv=0:=by simpa using h1
 have hb:=ac7 (oO (ND g1).1).1
 have hc:=Wz (ND g1).1
 have hst:s.stored=s.cnt:=by unfold ak.stored;rw [if_neg h1]
 simp only [h1',List.length_map,go_sem]
 refine bX (nA s hs) rfl rfl ?_
 have hw:IntKind.i64.wrap ((s.ready.cells.length:Int) - s.stored)=(s.ready.cells.length:Int) - s.stored:=bF (by omega)
 simp only [hw,List.length_map,go_sem]
 repeat (refine bn ?_)
 by_cases h2:(s.ready.cells.length:Int) - s.stored<l.length
 ·rw [if_pos h2] at hR
  simp only [h2,go_sem]
  exact Fin.aD _ rfl rfl (by rw [<-hR];simp only [ay,rv,au,get,ak.enc,List.map_nil,go_sem])
 rw [if_neg h2] at hR
 simp only [h2,go_sem]
 refine go_loop (fun x:{x:Nat×ak // x.1<=l.length/\x.2.sm/\yR s.low s.high (l.drop x.1) x.2=R}=>⟨3000,[(1,.sl 7 (l.map ai.enc)),(2,.ptr 8 0),(4,.ptr 16 0),(7,I x.1.1)],[(8,.box [Bo x.1.2.live,I x.1.2.low,I x.1.2.high,.sl 7 (x.1.2.ready.cells.map ai.enc),I x.1.2.ready.head,I x.1.2.ready.size,.sl 8 (x.1.2.aR.l.map Lease.enc),.sl 2 (x.1.2.aR.heap.map Due.enc)]),(16,.box [Bo false,I 0,I 0,Nl,I 0,I 0,Nl,Nl])]⟩) (fun x=>l.length - x.1.1) ⟨(0,s),by omega,hs,by rw [<-hR];rfl⟩ (wk [(8,8),(16,16)] []) ?_
 rintro ⟨⟨j,s'⟩,hj,hs',he⟩ B hB
 simp only at hj hs' he
 simp only [go_sem]
 by_cases e1:j<l.length
 ·have e2:decide ((j:Int)<(l.length:Int))=true:=by simp;omega
  rw [eD ai.z e1] at he
  simp only [yR,show l[j]?.getD ai.z=gM l j from rfl] at he
  have hx:nth (l.map ai.enc) j=ai.enc (gM l j):=bT ai.enc ai.z e1
  have hw:=bQ (show j<=100000 by omega)
  generalize gM l j=m at hx he
  simp only [e2,hx,ai.enc,List.length_map,Int.toNat_natCast,go_sem]
  repeat (refine bn ?_)
  refine bX (WA m s'.low s'.high) rfl rfl ?_
  simp only [ai.enc,go_sem]
  repeat (refine bn ?_)
  refine bX (ada s' (m.qh s'.low s'.high) hs') rfl rfl ?_
  simp only [ak.enc,go_sem]
  repeat (refine bn ?_)
  by_cases e3:(s'.put (m.qh s'.low s'.high)).2≠0
  ·rw [if_pos e3] at he
   have e3':((s'.put (m.qh s'.low s'.high)).2 !=0)=true:=by simpa using e3
   simp only [e3',go_sem]
   exact Fin.aD _ rfl rfl (by rw [<-he];simp only [ay,rv,au,get,ak.enc,List.map_nil,go_sem])
  ·rw [if_neg e3] at he
   have e3':((s'.put (m.qh s'.low s'.high)).2 !=0)=false:=by simpa using e3
   simp only [e3',hw,go_sem]
   exact hB _ ⟨(j+1,_),by simp only;omega,amw _ _ hs',he⟩ (by simp only;omega) (wk [(8,8),(16,16)] [])
 ·have e2:decide ((j:Int)<(l.length:Int))=false:=by simp;omega
  rw [eO (by omega)] at he
  simp only [yR] at he
  simp only [e2,List.length_map,go_sem]
  exact Fin.aD _ rfl rfl (by rw [<-he];simp only [ay,rv,au,get,ak.enc,go_sem])
theorem WC:∀ (l:List ai) (s:ak),(qY l s).aR=s.aR
 |[],s=>rfl
 |m::r,s=>by
  simp only [qY]
  split
  ·rw [WC r]
  ·rw [WC r]
theorem NH (s:ak) (L:List ai) (X:List Lease) (hs:s.aR.l.length<=400/\s.aR.heap.length<=400) (hL:L.length<=1000) (hX:X.length<=300):Fn Tryz.prog 399 [.agg s.enc,.sl 7 (L.map ai.enc),.sl 8 (X.map Lease.enc)] [] (.agg (s.fill L X).enc) [] []:=by
 generalize hR:s.fill L X=R
 unfold ak.fill at hR
 have hF:=WC L s
 generalize hF1:qY L s=F at hR hF
 refine Fn.aO ajO (by simp) ?_
 unfold TK SC.mk' ak.enc
 simp only [go_sem]
 refine go_loop (fun x:{x:Nat×ak // x.1<=L.length/\qY (L.drop x.1) x.2=F}=>⟨3000,[(1,.sl 7 (L.map ai.enc)),(2,.sl 8 (X.map Lease.enc)),(3,.ptr 8 0),(6,.ptr 16 0),(7,I x.1.1)],[(8,.box [Bo x.1.2.live,I x.1.2.low,I x.1.2.high,.sl 7 (x.1.2.ready.cells.map ai.enc),I x.1.2.ready.head,I x.1.2.ready.size,.sl 8 (x.1.2.aR.l.map Lease.enc),.sl 2 (x.1.2.aR.heap.map Due.enc)]),(16,.box [Bo false,I 0,I 0,Nl,I 0,I 0,Nl,Nl])]⟩) (fun x=>L.length - x.1.1) ⟨(0,s),by omega,hF1⟩ (wk [(8,8),(16,16)] []) ?_
 rintro ⟨⟨j,s'⟩,hj,he⟩ B hB
 simp only at hj he
 simp only [go_sem]
 by_cases e1:j<L.length
 ·have e2:decide ((j:Int)<(L.length:Int))=true:=by simp;omega
  rw [eD ai.z e1] at he
  simp only [qY,show L[j]?.getD ai.z=gM L j from rfl] at he
  have hx:nth (L.map ai.enc) j=ai.enc (gM L j):=bT ai.enc ai.z e1
  have hw:=bQ (show j<=100000 by omega)
  generalize gM L j=m at hx he
  simp only [e2,hx,ai.enc,List.length_map,Int.toNat_natCast,go_sem]
  by_cases e3:s'.low<=m.route
  ·simp only [e3,hx,ai.enc,List.length_map,Int.toNat_natCast,go_sem]
   repeat (refine bn ?_)
   by_cases e4:m.route<=s'.high
   ·rw [if_pos ⟨e3,e4⟩] at he
    simp only [e4,hx,ai.enc,List.length_map,Int.toNat_natCast,go_sem]
    repeat (refine bn ?_)
    refine bX (Ny s'.ready m) rfl rfl ?_
    simp only [Ring.enc,hw,go_sem]
    repeat (refine bn ?_)
    exact hB _ ⟨(j+1,_),by simp only;omega,he⟩ (by simp only;omega) (wk [(8,8),(16,16)] [])
   ·rw [if_neg (fun h=>e4 h.2)] at he
    simp only [e4,hw,go_sem]
    exact hB _ ⟨(j+1,s'),by simp only;omega,he⟩ (by simp only;omega) (wk [(8,8),(16,16)] [])
  ·rw [if_neg (fun h=>e3 h.1)] at he
   simp only [e3,hw,go_sem]
   repeat (refine bn ?_)
   exact hB _ ⟨(j+1,s'),by simp only;omega,he⟩ (by simp only;omega) (wk [(8,8),(16,16)] [])
 have e2:decide ((j:Int)<(L.length:Int))=false:=by simp;omega
 rw [eO (by omega)] at he
 simp only [qY] at he
 simp only [e2,List.length_map,go_sem]
 rw [<-hF] at hs
 refine go_loop (fun x:{x:Nat×ak // x.1<=X.length/\(x.2.aR.l.length<=400+x.1/\x.2.aR.heap.length<=400+x.1)/\wU (X.drop x.1) x.2=R}=>⟨6000,[(2,.sl 8 (X.map Lease.enc)),(3,.ptr 8 0),(6,.ptr 16 0),(8,I x.1.1)],[(8,.box [Bo x.1.2.live,I x.1.2.low,I x.1.2.high,.sl 7 (x.1.2.ready.cells.map ai.enc),I x.1.2.ready.head,I x.1.2.ready.size,.sl 8 (x.1.2.aR.l.map Lease.enc),.sl 2 (x.1.2.aR.heap.map Due.enc)]),(16,.box [Bo false,I 0,I 0,Nl,I 0,I 0,Nl,Nl])]⟩) (fun x=>X.length - x.1.1) ⟨(0,s'),by omega,by rw [he];exact hs,by rw [he];exact hR⟩ (wk [(8,8),(16,16)] []) ?_
 clear hB e1 e2 hj he hR hs
 rintro ⟨⟨j,s'⟩,hj,hs',he⟩ B hB
 simp only at hj hs' he
 simp only [go_sem]
 by_cases e1:j<X.length
 ·have e2:decide ((j:Int)<(X.length:Int))=true:=by simp;omega
  rw [eD Lease.z e1] at he
  simp only [wU,show X[j]?.getD Lease.z=gL X j from rfl] at he
  have hx:nth (X.map Lease.enc) j=Lease.enc (gL X j):=bT Lease.enc Lease.z e1
  have hw:=bQ (show j<=100000 by omega)
  generalize gL X j=m at hx he
  have hg:=NG s'.aR m.msg m.dl
  simp only [e2,hx,Lease.enc,List.length_map,Int.toNat_natCast,go_sem]
  repeat (refine bn ?_)
  by_cases e3:s'.low<=m.msg.route
  ·simp only [e3,hx,Lease.enc,List.length_map,Int.toNat_natCast,go_sem]
   by_cases e4:m.msg.route<=s'.high
   ·rw [if_pos ⟨e3,e4⟩] at he
    simp only [e4,hx,Lease.enc,List.length_map,Int.toNat_natCast,go_sem]
    repeat (refine bn ?_)
    refine bX (ac0 s'.aR m.msg m.dl (by omega) (by omega)) rfl rfl ?_
    simp only [Table.enc,hw,go_sem]
    repeat (refine bn ?_)
    exact hB _ ⟨(j+1,_),by simp only;omega,⟨by simp only;omega,by simp only;omega⟩,he⟩ (by simp only;omega) (wk [(8,8),(16,16)] [])
   ·rw [if_neg (fun h=>e4 h.2)] at he
    simp only [e4,hw,go_sem]
    exact hB _ ⟨(j+1,s'),by simp only;omega,⟨by simp only;omega,by simp only;omega⟩,he⟩ (by simp only;omega) (wk [(8,8),(16,16)] [])
  ·rw [if_neg (fun h=>e3 h.1)] at he
   simp only [e3,hw,go_sem]
   exact hB _ ⟨(j+1,s'),by simp only;omega,⟨by simp only;omega,by simp only;omega⟩,he⟩ (by simp only;omega) (wk [(8,8),(16,16)] [])
 ·have e2:decide ((j:Int)<(X.length:Int))=false:=by simp;omega
  rw [eO (by omega)] at he
  simp only [wU] at he
  simp only [e2,List.length_map,go_sem]
  exact Fin.aD _ rfl rfl (by rw [<-he];simp only [ay,rv,au,get,ak.enc,go_sem])
theorem amx (s:ak) (ep:Int) (hs:s.sm):Fn Tryz.prog 357 [.agg s.enc,I ep] [] (.aG [.agg (s.clean ep).1.enc,I (s.clean ep).2.1,I (s.clean ep).2.2]) [] []:=by
 have hs1:=hs.1
 generalize hR:s.clean ep=R
 unfold ak.clean at hR
 refine Fn.aO ajC (by simp) ?_
 unfold SN SC.mk' ak.enc
 simp only [go_sem]
 by_cases h0:s.lv≠0\/jD ep=false
 ·have aK:=jX s hs
  have aV:=qo ep
  exact aX
 have g1:s.lv=0:=by simpa using fun h=>h0 (.inl h)
 have g2:jD ep=true:=by simpa using fun h=>h0 (.inr h)
 rw [if_neg (by simp [g1]),if_neg (by simp [g2])] at hR
 refine aQ (jX s hs) rfl rfl ?_
 simp only [g1,go_sem]
 refine aQ (qo ep) rfl rfl ?_
 simp only [g2,Bool.not_true,go_sem]
 refine bX (uZ s) rfl rfl ?_
 simp only [go_sem]
 refine bX (Wy s (by omega)) rfl rfl ?_
 have hl:=s.ready.rA
 have hl2:s.eH.length<=800:=by unfold ak.eH;simp;exact hs1
 generalize s.ready.list=L at hR hl
 generalize s.eH=M at hR hl2
 generalize hF:uP ep L s 0=F at hR
 simp only [go_sem]
 repeat (refine bn ?_)
 refine go_loop (fun x:{x:Nat×ak×Int // x.1<=L.length/\(0<=x.2.2/\x.2.2<=x.1)/\x.2.1.sm/\uP ep (L.drop x.1) x.2.1 x.2.2=F}=>⟨5000,[(1,I ep),(2,.ptr 8 0),(4,.ptr 16 0),(8,I x.1.2.2),(9,.sl 7 (L.map ai.enc)),(10,.sl 7 (M.map ai.enc)),(11,I x.1.1)],[(8,.box [Bo x.1.2.1.live,I x.1.2.1.low,I x.1.2.1.high,.sl 7 (x.1.2.1.ready.cells.map ai.enc),I x.1.2.1.ready.head,I x.1.2.1.ready.size,.sl 8 (x.1.2.1.aR.l.map Lease.enc),.sl 2 (x.1.2.1.aR.heap.map Due.enc)]),(16,.box [Bo false,I 0,I 0,Nl,I 0,I 0,Nl,Nl])]⟩) (fun x=>L.length - x.1.1) ⟨(0,s,0),by omega,by simp,hs,hF⟩ (wk [(8,8),(16,16)] []) ?_
 rintro ⟨⟨j,s',c⟩,hj,hc,hs',he⟩ B hB
 simp only at hj hc hs' he
 simp only [go_sem]
 by_cases e1:j<L.length
 ·have e2:decide ((j:Int)<(L.length:Int))=true:=by simp;omega
  rw [eD ai.z e1] at he
  simp only [uP,show L[j]?.getD ai.z=gM L j from rfl] at he
  have hx:nth (L.map ai.enc) j=ai.enc (gM L j):=bT ai.enc ai.z e1
  have hw:=bQ (show j<=100000 by omega)
  have hw2:IntKind.i64.wrap (c+1)=c+1:=bF (by omega)
  generalize gM L j=m at hx he
  simp only [e2,hx,ai.enc,Int.toNat_natCast,go_sem]
  repeat (refine bn ?_)
  refine aQ (sO m ep) rfl rfl ?_
  simp only [go_sem]
  by_cases e3:m.epoch<ep
  ·rw [if_pos (show m.gZ ep=true from decide_eq_true e3)] at he
   simp only [e3,hx,ai.enc,Int.toNat_natCast,go_sem]
   repeat (refine bn ?_)
   refine bX (Ww s'.ready m.id) rfl rfl ?_
   simp only [Ring.enc,ai.enc,hw,hw2,go_sem]
   repeat (refine bn ?_)
   exact hB _ ⟨(j+1,_,c+1),by simp only;omega,by simp only;omega,by simp only;exact hs',he⟩ (by simp only;omega) (wk [(8,8),(16,16)] [])
  ·rw [if_neg (show ¬ m.gZ ep=true by simp [ai.gZ,e3])] at he
   simp only [e3,hw,go_sem]
   exact hB _ ⟨(j+1,s',c),by simp only;omega,by simp only;omega,hs',he⟩ (by simp only;omega) (wk [(8,8),(16,16)] [])
 have e2:decide ((j:Int)<(L.length:Int))=false:=by simp;omega
 rw [eO (by omega)] at he
 simp only [uP] at he
 rw [<-he] at hR
 simp only at hR
 generalize hG:uQ ep M s' c=G at hR
 simp only [e2,go_sem]
 refine go_loop (fun x:{x:Nat×ak×Int // x.1<=M.length/\(0<=x.2.2/\x.2.2<=12+x.1)/\x.2.1.sm/\uQ ep (M.drop x.1) x.2.1 x.2.2=G}=>⟨9000,[(1,I ep),(2,.ptr 8 0),(4,.ptr 16 0),(8,I x.1.2.2),(10,.sl 7 (M.map ai.enc)),(12,I x.1.1)],[(8,.box [Bo x.1.2.1.live,I x.1.2.1.low,I x.1.2.1.high,.sl 7 (x.1.2.1.ready.cells.map ai.enc),I x.1.2.1.ready.head,I x.1.2.1.ready.size,.sl 8 (x.1.2.1.aR.l.map Lease.enc),.sl 2 (x.1.2.1.aR.heap.map Due.enc)]),(16,.box [Bo false,I 0,I 0,Nl,I 0,I 0,Nl,Nl])]⟩) (fun x=>M.length - x.1.1) ⟨(0,s',c),by omega,by simp only;omega,hs',hG⟩ (wk [(8,8),(16,16)] []) ?_
 clear hB e1 e2 hj hc he hG hs' hF
 rintro ⟨⟨j,s',c⟩,hj,hc,hs',he⟩ B hB
 simp only at hj hc hs' he
 have hs1:=hs'.1
 have hs2:=hs'.2
 simp only [go_sem]
 by_cases e1:j<M.length
 ·have e2:decide ((j:Int)<(M.length:Int))=true:=by simp;omega
  rw [eD ai.z e1] at he
  simp only [uQ,show M[j]?.getD ai.z=gM M j from rfl] at he
  have hx:nth (M.map ai.enc) j=ai.enc (gM M j):=bT ai.enc ai.z e1
  have hw:=bQ (show j<=100000 by omega)
  have hw2:IntKind.i64.wrap (c+1)=c+1:=bF (by omega)
  generalize gM M j=m at hx he
  have hl:=DW s'.aR m.id
  simp only [e2,hx,ai.enc,Int.toNat_natCast,go_sem]
  repeat (refine bn ?_)
  refine aQ (sO m ep) rfl rfl ?_
  simp only [go_sem]
  by_cases e3:m.epoch<ep
  ·rw [if_pos (show m.gZ ep=true from decide_eq_true e3)] at he
   simp only [e3,hx,ai.enc,Int.toNat_natCast,go_sem]
   repeat (refine bn ?_)
   refine bX (Nw s'.aR m.id (by omega) (by omega)) rfl rfl ?_
   simp only [Table.enc,ai.enc,hw,hw2,go_sem]
   repeat (refine bn ?_)
   exact hB _ ⟨(j+1,_,c+1),by simp only;omega,by simp only;omega,⟨by simp only;omega,by simp only;omega⟩,he⟩ (by simp only;omega) (wk [(8,8),(16,16)] [])
  ·rw [if_neg (show ¬ m.gZ ep=true by simp [ai.gZ,e3])] at he
   simp only [e3,hw,go_sem]
   exact hB _ ⟨(j+1,s',c),by simp only;omega,by simp only;omega,hs',he⟩ (by simp only;omega) (wk [(8,8),(16,16)] [])
 ·have e2:decide ((j:Int)<(M.length:Int))=false:=by simp;omega
  rw [eO (by omega)] at he
  simp only [uQ] at he
  simp only [e2,go_sem]
  exact Fin.aD _ rfl rfl (by rw [<-hR,<-he];simp only [ay,rv,au,get,ak.enc,go_sem])
end Go.Eng
