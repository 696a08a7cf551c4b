/-
  Part of a proof: lemmas and definitions of this work.
  No condition.
-/
import Derived.Test.YthhjbngoibmpgaaGreatA08
import Derived.Test.YthhjbngoibmpgaaGreatA18
set_option linter.all false
set_option maxRecDepth 100000
set_option maxHeartbeats 8000000
namespace Go.Eng
open Go Go.Proofs
theorem al3 {mx dl ep li:Int} {s:ak} {out:List Lease} (h:¬ (out.length:Int)<mx):∀ l:List ai,oI mx dl ep li l s out=(s,out)
 |[]=>rfl
 |m::r=>by simp only [oI];rw [if_neg h]
theorem al4 {k ep li:Int} {s:ak} {out:List ai} (h:¬ (out.length:Int)<k):∀ l:List ai,mZ k ep li l s out=(s,out)
 |[]=>rfl
 |m::r=>by simp only [mZ];rw [if_neg h]
theorem al5 (s:ak) (mx now bB ep li:Int) (hs:s.aR.l.length<=500/\s.aR.heap.length<=500):Fn Tryz.prog 419 [.agg s.enc,I mx,I now,I bB,I ep,I li] [] (.aF [.agg (s.take mx now bB ep li).1.enc,.sl 8 ((s.take mx now bB ep li).2.1.map Lease.enc),I (s.take mx now bB ep li).2.2]) [] []:=by
 have hsm:s.sm:=⟨by omega,by omega⟩
 generalize hR:s.take mx now bB ep li=R
 unfold ak.take at hR
 refine Fn.aO ajv (by simp) ?_
 unfold Vk SC.mk' ak.enc
 simp only [go_sem]
 by_cases h0:s.lv≠0\/jy ep=false\/kD li=false\/oH now=false\/qj bB=false\/mx<1\/6<mx
 ·have aK:=jX s hsm
  have aU:=qp ep
  have bK:=u7 li
  have dV:=Bl now
  have fQ:=Ny bB
  exact aX
 have g1:s.lv=0:=by simpa using fun h=>h0 (.inl h)
 have g2:jy ep=true:=by simpa using fun h=>h0 (.inr (.inl h))
 have g3:kD li=true:=by simpa using fun h=>h0 (.inr (.inr (.inl h)))
 have g4:oH now=true:=by simpa using fun h=>h0 (.inr (.inr (.inr (.inl h))))
 have g5:qj bB=true:=by simpa using fun h=>h0 (.inr (.inr (.inr (.inr (.inl h)))))
 have g6:¬ mx<1:=fun h=>h0 (.inr (.inr (.inr (.inr (.inr (.inl h))))))
 have g7:¬ 6<mx:=fun h=>h0 (.inr (.inr (.inr (.inr (.inr (.inr h))))))
 have b1:=acA g4
 have b2:=acB g5
 have hw:IntKind.i64.wrap (now+bB)=now+bB:=bE (by omega)
 rw [if_neg (by simp [g1]),if_neg (fun h=>h0 (.inr h))] at hR
 refine aQ (jX s hsm) rfl rfl ?_
 simp only [g1,go_sem]
 refine aQ (qp ep) rfl rfl ?_
 simp only [g2,Bool.not_true,go_sem]
 refine aQ (u7 li) rfl rfl ?_
 simp only [g3,Bool.not_true,go_sem]
 refine aQ (Bl now) rfl rfl ?_
 simp only [g4,Bool.not_true,go_sem]
 refine aQ (Ny bB) rfl rfl ?_
 simp only [g5,g6,g7,Bool.not_true,hw,go_sem]
 by_cases h1:1073741824<now+bB
 ·rw [if_pos h1] at hR
  simp only [h1,go_sem]
  exact Fin.aD _ rfl rfl (by rw [<-hR];simp only [ay,rv,au,get,ak.enc,List.map_nil,go_sem])
 rw [if_neg h1] at hR
 simp only [h1,go_sem]
 refine aQ (ve s) rfl rfl ?_
 have hl:=s.ready.rz
 generalize s.ready.list=L at hR hl
 simp only [go_sem]
 refine go_loop (fun x:{x:Nat×ak×List Lease // x.1<=L.length/\x.2.2.length<=x.1/\(x.2.1.aR.l.length<=500+x.1/\x.2.1.aR.heap.length<=500+x.1)/\oI mx (now+bB) ep li (L.drop x.1) x.2.1 x.2.2=(R.1,R.2.1)}=>⟨5000,[(1,I mx),(2,I now),(3,I bB),(4,I ep),(5,I li),(6,.ptr 8 0),(12,.ptr 16 0),(16,.own 80 8 0 x.1.2.2.length),(17,.sl 7 (L.map ai.enc)),(18,I x.1.1)],[(8,.box [Bo x.1.2.1.live,I x.1.2.1.low,I x.1.2.1.high,.sl 7 (x.1.2.1.ready.cells.map ai.enc),I x.1.2.1.ready.head,I x.1.2.1.ready.size,.sl 8 (x.1.2.1.aR.l.map Lease.enc),.sl 2 (x.1.2.1.aR.heap.map Due.enc)]),(16,.box [Bo false,I 0,I 0,Nl,I 0,I 0,Nl,Nl]),(80,.row 239 8 (x.1.2.2.map Lease.enc))]⟩) (fun x=>L.length - x.1.1) ⟨(0,s,[]),by omega,by simp,hs,by rw [<-hR];rfl⟩ (wk [(8,8),(16,16)] [80]) ?_
 rintro ⟨⟨j,s',out⟩,hj,ho,hs',he⟩ B hB
 simp only at hj ho hs' he
 have hs1:=hs'.1
 have hs2:=hs'.2
 simp only [go_sem]
 by_cases e1:j<L.length
 ·have e2:decide ((j:Int)<(L.length:Int))=true:=by simp;omega
  by_cases e3:(out.length:Int)<mx
  ·rw [eB ai.z e1] at he
   simp only [oI,show L[j]?.getD ai.z=gM L j from rfl] at he
   rw [if_pos e3] at he
   have hx:nth (L.map ai.enc) j=ai.enc (gM L j):=bS ai.enc ai.z e1
   have hw2:=bT (show j<=100000 by omega)
   generalize gM L j=m at hx he
   simp only [e2,e3,hx,hw2,Int.toNat_natCast,List.length_map,ai.enc,go_sem]
   repeat (refine bn ?_)
   refine aQ (alT m ep li) rfl rfl ?_
   simp only [go_sem]
   by_cases e4:m.Dt ep li=true
   ·rw [if_pos e4] at he
    simp only [e4,hx,Bool.not_true,Int.toNat_natCast,ai.enc,go_sem]
    repeat (refine bn ?_)
    refine aQ (alV m) rfl rfl ?_
    simp only [ai.enc,go_sem]
    refine aQ (Ws s'.ready m.jU.1.id) rfl rfl ?_
    simp only [hw,Ring.enc,go_sem]
    refine aQ (acp s'.aR m.jU.1 (now+bB) (by omega) (by omega)) rfl rfl ?_
    have hg:=NF s'.aR m.jU.1 (now+bB)
    have hm:out.length+1<=maxLen:=Nat.le_trans (show _<=10000 by omega) (by decide)
    have e5:List.take out.length (out.map Lease.enc)=out.map Lease.enc:=bA (by simp)
    have e6:out.map Lease.enc++[[I m.jU.1.id,I m.jU.1.route,I m.jU.1.epoch,I m.jU.1.count,I m.jU.1.gen,I m.jU.1.sent,.v (.string m.jU.1.body),I (now+bB)]]=(out++[(⟨m.jU.1,now+bB⟩:Lease)]).map Lease.enc:=by rw [List.map_append];rfl
    simp only [hw,hw2,Table.enc,e5,e6,List.length_map,go_sem]
    repeat (refine bn ?_)
    exact hB _ ⟨(j+1,_,_),by simp only;omega,by simp;omega,⟨by simp only;omega,by simp only;omega⟩,he⟩ (by simp only;omega) (wk [(8,8),(16,16),(80,5472)] [])
   ·rw [if_neg e4] at he
    simp only [Bool.not_eq_true] at e4
    simp only [e4,hw2,Bool.not_false,go_sem]
    exact hB _ ⟨(j+1,s',out),by simp only;omega,by simp only;omega,⟨by simp only;omega,by simp only;omega⟩,he⟩ (by simp only;omega) (wk [(8,8),(16,16),(80,80)] [])
  ·rw [al3 e3] at he
   have e5:List.take out.length (out.map Lease.enc)=out.map Lease.enc:=bA (by simp)
   simp only [e2,e3,List.length_map,go_sem]
   rw [Prod.mk.injEq] at he
   exact Fin.aD _ rfl rfl (by rw [<-he.1,<-he.2,<-hR];simp only [ay,rv,au,get,ak.enc,e5,List.length_map,go_sem];simp)
 ·have e2:decide ((j:Int)<(L.length:Int))=false:=by simp;omega
  rw [eH (by omega)] at he
  simp only [oI] at he
  have e5:List.take out.length (out.map Lease.enc)=out.map Lease.enc:=bA (by simp)
  simp only [e2,List.length_map,go_sem]
  rw [Prod.mk.injEq] at he
  exact Fin.aD _ rfl rfl (by rw [<-he.1,<-he.2,<-hR];simp only [ay,rv,au,get,ak.enc,e5,List.length_map,go_sem];simp)
theorem al6 (s:ak) (k ep li:Int) (hsm:s.sm):Fn Tryz.prog 395 [.agg s.enc,I k,I ep,I li] [] (.aF [.agg (s.qW k ep li).1.enc,.sl 7 ((s.qW k ep li).2.1.map ai.enc),I (s.qW k ep li).2.2]) [] []:=by
 generalize hR:s.qW k ep li=R
 unfold ak.qW at hR
 refine Fn.aO ajr (by simp) ?_
 unfold Ve SC.mk' ak.enc
 simp only [go_sem]
 by_cases h0:s.lv≠0\/jy ep=false\/kD li=false\/k<0
 ·have aK:=jX s hsm
  have aU:=qp ep
  have bK:=u7 li
  exact aX
 have g1:s.lv=0:=by simpa using fun h=>h0 (.inl h)
 have g2:jy ep=true:=by simpa using fun h=>h0 (.inr (.inl h))
 have g3:kD li=true:=by simpa using fun h=>h0 (.inr (.inr (.inl h)))
 have g4:¬ k<0:=fun h=>h0 (.inr (.inr (.inr h)))
 rw [if_neg (by simp [g1]),if_neg (fun h=>h0 (.inr h))] at hR
 refine aQ (jX s hsm) rfl rfl ?_
 simp only [g1,go_sem]
 refine aQ (qp ep) rfl rfl ?_
 simp only [g2,Bool.not_true,go_sem]
 refine aQ (u7 li) rfl rfl ?_
 simp only [g3,g4,Bool.not_true,go_sem]
 refine aQ (ve s) rfl rfl ?_
 have hl:=s.ready.rz
 generalize s.ready.list=L at hR hl
 simp only [go_sem]
 refine go_loop (fun x:{x:Nat×ak×List ai // x.1<=L.length/\x.2.2.length<=x.1/\mZ k ep li (L.drop x.1) x.2.1 x.2.2=(R.1,R.2.1)}=>⟨5000,[(1,I k),(2,I ep),(3,I li),(4,.ptr 8 0),(8,.ptr 16 0),(12,.own 80 7 0 x.1.2.2.length),(13,.sl 7 (L.map ai.enc)),(14,I x.1.1)],[(8,.box [Bo x.1.2.1.live,I x.1.2.1.low,I x.1.2.1.high,.sl 7 (x.1.2.1.ready.cells.map ai.enc),I x.1.2.1.ready.head,I x.1.2.1.ready.size,.sl 8 (x.1.2.1.aR.l.map Lease.enc),.sl 2 (x.1.2.1.aR.heap.map Due.enc)]),(16,.box [Bo false,I 0,I 0,Nl,I 0,I 0,Nl,Nl]),(80,.row 123 7 (x.1.2.2.map ai.enc))]⟩) (fun x=>L.length - x.1.1) ⟨(0,s,[]),by omega,by simp,by rw [<-hR];rfl⟩ (wk [(8,8),(16,16)] [80]) ?_
 rintro ⟨⟨j,s',out⟩,hj,ho,he⟩ B hB
 simp only at hj ho he
 simp only [go_sem]
 by_cases e1:j<L.length
 ·have e2:decide ((j:Int)<(L.length:Int))=true:=by simp;omega
  by_cases e3:(out.length:Int)<k
  ·rw [eB ai.z e1] at he
   simp only [mZ,show L[j]?.getD ai.z=gM L j from rfl] at he
   rw [if_pos e3] at he
   have hx:nth (L.map ai.enc) j=ai.enc (gM L j):=bS ai.enc ai.z e1
   have hw2:=bT (show j<=100000 by omega)
   generalize gM L j=m at hx he
   simp only [e2,e3,hx,hw2,Int.toNat_natCast,List.length_map,ai.enc,go_sem]
   repeat (refine bn ?_)
   refine aQ (ND m li) rfl rfl ?_
   simp only [go_sem]
   by_cases e4:m.spent li=true
   ·simp only [e4,hx,Int.toNat_natCast,ai.enc,go_sem]
    repeat (refine bn ?_)
    refine aQ (sS m ep) rfl rfl ?_
    simp only [go_sem]
    by_cases e5:m.epoch<ep
    ·rw [if_neg (by simp [ai.gZ,e5])] at he
     simp only [e5,hw2,Bool.not_true,go_sem]
     exact hB _ ⟨(j+1,s',out),by simp only;omega,by simp only;omega,he⟩ (by simp only;omega) (wk [(8,8),(16,16),(80,80)] [])
    ·rw [if_pos (by simp [ai.gZ,e5,e4])] at he
     simp only [e5,hx,Bool.not_false,Int.toNat_natCast,ai.enc,go_sem]
     repeat (refine bn ?_)
     refine bX (Ws s'.ready m.id) rfl rfl ?_
     have hm:out.length+1<=maxLen:=Nat.le_trans (show _<=10000 by omega) (by decide)
     have e5:List.take out.length (out.map ai.enc)=out.map ai.enc:=bA (by simp)
     have e6:out.map ai.enc++[[I m.id,I m.route,I m.epoch,I m.count,I m.gen,I m.sent,.v (.string m.body)]]=(out++[m]).map ai.enc:=by rw [List.map_append];rfl
     simp only [hw2,hx,Ring.enc,ai.enc,e5,e6,List.length_map,Int.toNat_natCast,go_sem]
     repeat (refine bn ?_)
     exact hB _ ⟨(j+1,_,_),by simp only;omega,by simp;omega,he⟩ (by simp only;omega) (wk [(8,8),(16,16),(80,5360)] [])
   ·rw [if_neg (by simp [e4])] at he
    simp only [Bool.not_eq_true] at e4
    simp only [e4,hw2,go_sem]
    exact hB _ ⟨(j+1,s',out),by simp only;omega,by simp only;omega,he⟩ (by simp only;omega) (wk [(8,8),(16,16),(80,80)] [])
  ·rw [al4 e3] at he
   have e5:List.take out.length (out.map ai.enc)=out.map ai.enc:=bA (by simp)
   simp only [e2,e3,List.length_map,go_sem]
   rw [Prod.mk.injEq] at he
   exact Fin.aD _ rfl rfl (by rw [<-he.1,<-he.2,<-hR];simp only [ay,rv,au,get,ak.enc,e5,List.length_map,go_sem];simp)
 ·have e2:decide ((j:Int)<(L.length:Int))=false:=by simp;omega
  rw [eH (by omega)] at he
  simp only [mZ] at he
  have e5:List.take out.length (out.map ai.enc)=out.map ai.enc:=bA (by simp)
  simp only [e2,List.length_map,go_sem]
  rw [Prod.mk.injEq] at he
  exact Fin.aD _ rfl rfl (by rw [<-he.1,<-he.2,<-hR];simp only [ay,rv,au,get,ak.enc,e5,List.length_map,go_sem];simp)
theorem Wx {α:Type} (p:α->Bool) (x:α) (l:List α):mY p (x::l)=(if p x then 1 else 0)+mY p l:=by
 unfold mY
 rw [List.filter_cons]
 split<;>simp;omega
theorem al7 (s:ak) (ep li:Int) (hs:s.sm):Fn Tryz.prog 357 [.agg s.enc,I ep,I li] [] (.aF [I (s.counts ep li).1,I (s.counts ep li).2]) [] []:=by
 have hs1:=hs.1
 generalize hR:s.counts ep li=R
 unfold ak.counts at hR
 refine Fn.aO UG (by simp) ?_
 unfold UF SC.mk' ak.enc
 simp only [go_sem]
 by_cases h0:s.lv≠0\/jy ep=false\/kD li=false
 ·have aK:=jX s hs
  have aU:=qp ep
  have bK:=u7 li
  exact aX
 have g1:s.lv=0:=by simpa using fun h=>h0 (.inl h)
 have g2:jy ep=true:=by simpa using fun h=>h0 (.inr (.inl h))
 have g3:kD li=true:=by simpa using fun h=>h0 (.inr (.inr h))
 rw [if_neg h0] at hR
 refine aQ (jX s hs) rfl rfl ?_
 simp only [g1,go_sem]
 refine aQ (qp ep) rfl rfl ?_
 simp only [g2,Bool.not_true,go_sem]
 refine aQ (u7 li) rfl rfl ?_
 simp only [g3,Bool.not_true,go_sem]
 refine bX (ve s) rfl rfl ?_
 simp only [go_sem]
 refine bX (Wu s (by omega)) rfl rfl ?_
 have hl:=s.ready.rz
 have hl2:s.eF.length<=800:=by unfold ak.eF;simp;exact hs1
 generalize s.ready.list=L at hR hl
 generalize s.eF=M at hR hl2
 simp only [go_sem]
 repeat (refine bn ?_)
 refine go_loop (fun x:{x:Nat×Int // x.1<=L.length/\(0<=x.2/\x.2<=x.1)/\x.2+mY (fun m:ai=> !m.gZ ep&& !m.spent li) (L.drop x.1)=R.1}=>⟨5000,[(1,I ep),(2,I li),(8,I x.1.2),(9,I 0),(10,.sl 7 (L.map ai.enc)),(11,.sl 7 (M.map ai.enc)),(12,I x.1.1)],[]⟩) (fun x=>L.length - x.1.1) ⟨(0,0),by omega,by simp,by rw [<-hR];simp⟩ (wk [] []) ?_
 rintro ⟨⟨j,c⟩,hj,hc,he⟩ B hB
 simp only at hj hc he
 simp only [go_sem]
 by_cases e1:j<L.length
 ·have e2:decide ((j:Int)<(L.length:Int))=true:=by simp;omega
  rw [eB ai.z e1,Wx] at he
  simp only [show L[j]?.getD ai.z=gM L j from rfl] at he
  have hx:nth (L.map ai.enc) j=ai.enc (gM L j):=bS ai.enc ai.z e1
  have hw:=bT (show j<=100000 by omega)
  have hw2:IntKind.i64.wrap (c+1)=c+1:=bE (by omega)
  generalize gM L j=m at hx he
  simp only [e2,hx,ai.enc,Int.toNat_natCast,go_sem]
  repeat (refine bn ?_)
  refine aQ (sS m ep) rfl rfl ?_
  simp only [go_sem]
  by_cases e3:m.epoch<ep
  ·simp only [show m.gZ ep=decide (m.epoch<ep) from rfl,e3,decide_true,Bool.not_true,Bool.false_and,Bool.false_eq_true,if_false] at he
   simp only [e3,hw,Bool.not_true,go_sem]
   exact hB _ ⟨(j+1,c),by simp only;omega,by simp only;omega,by simp only;simpa using he⟩ (by simp only;omega) (wk [] [])
  ·simp only [e3,hx,ai.enc,Bool.not_false,Int.toNat_natCast,go_sem]
   repeat (refine bn ?_)
   refine aQ (ND m li) rfl rfl ?_
   simp only [go_sem]
   by_cases e4:m.spent li=true
   ·simp only [show m.gZ ep=decide (m.epoch<ep) from rfl,e3,e4,decide_false,Bool.not_true,Bool.and_false,Bool.false_eq_true,if_false] at he
    simp only [e4,hw,Bool.not_true,go_sem]
    exact hB _ ⟨(j+1,c),by simp only;omega,by simp only;omega,by simp only;simpa using he⟩ (by simp only;omega) (wk [] [])
   ·simp only [Bool.not_eq_true] at e4
    simp only [show m.gZ ep=decide (m.epoch<ep) from rfl,e3,e4,decide_false,Bool.not_false,Bool.and_true,if_true] at he
    simp only [e4,hw,hw2,Bool.not_false,go_sem]
    exact hB _ ⟨(j+1,c+1),by simp only;omega,by simp only;omega,by simp only;omega⟩ (by simp only;omega) (wk [] [])
 have e2:decide ((j:Int)<(L.length:Int))=false:=by simp;omega
 rw [eH (by omega)] at he
 simp only [mY,List.filter_nil,List.length_nil,Int.natCast_zero,Int.add_zero] at he
 simp only [e2,go_sem]
 refine go_loop (fun x:{x:Nat×Int // x.1<=M.length/\(0<=x.2/\x.2<=x.1)/\x.2+mY (fun m:ai=> !m.gZ ep) (M.drop x.1)=R.2}=>⟨9000,[(1,I ep),(8,I c),(9,I x.1.2),(11,.sl 7 (M.map ai.enc)),(13,I x.1.1)],[]⟩) (fun x=>M.length - x.1.1) ⟨(0,0),by omega,by simp,by rw [<-hR];simp⟩ (wk [] []) ?_
 clear hB e1 e2 hj hc
 rintro ⟨⟨j,c2⟩,hj,hc,he2⟩ B hB
 simp only at hj hc he2
 simp only [go_sem]
 by_cases e1:j<M.length
 ·have e2:decide ((j:Int)<(M.length:Int))=true:=by simp;omega
  rw [eB ai.z e1,Wx] at he2
  simp only [show M[j]?.getD ai.z=gM M j from rfl] at he2
  have hx:nth (M.map ai.enc) j=ai.enc (gM M j):=bS ai.enc ai.z e1
  have hw:=bT (show j<=100000 by omega)
  have hw2:IntKind.i64.wrap (c2+1)=c2+1:=bE (by omega)
  generalize gM M j=m at hx he2
  simp only [e2,hx,ai.enc,Int.toNat_natCast,go_sem]
  repeat (refine bn ?_)
  refine aQ (sS m ep) rfl rfl ?_
  simp only [go_sem]
  by_cases e3:m.epoch<ep
  ·simp only [show m.gZ ep=decide (m.epoch<ep) from rfl,e3,decide_true,Bool.not_true,Bool.false_eq_true,if_false] at he2
   simp only [e3,hw,Bool.not_true,go_sem]
   exact hB _ ⟨(j+1,c2),by simp only;omega,by simp only;omega,by simp only;simpa using he2⟩ (by simp only;omega) (wk [] [])
  ·simp only [show m.gZ ep=decide (m.epoch<ep) from rfl,e3,decide_false,Bool.not_false,if_true] at he2
   simp only [e3,hw,hw2,Bool.not_false,go_sem]
   exact hB _ ⟨(j+1,c2+1),by simp only;omega,by simp only;omega,by simp only;omega⟩ (by simp only;omega) (wk [] [])
 ·have e2:decide ((j:Int)<(M.length:Int))=false:=by simp;omega
  rw [eH (by omega)] at he2
  simp only [mY,List.filter_nil,List.length_nil,Int.natCast_zero,Int.add_zero] at he2
  simp only [e2,go_sem]
  exact Fin.aD _ rfl rfl (by rw [<-he,<-he2];simp only [ay,rv,au,get,go_sem])
theorem al8 (s:ak) (m:ai) (h:s.sm):(s.put m).1.sm:=by
 unfold ak.put
 repeat' split
 all_goals first|exact ⟨Nat.zero_le _,Nat.zero_le _⟩|exact h
theorem acG (s:ak) (l:List ai) (hs:s.sm) (hl:l.length<=1000):Fn Tryz.prog 379 [.agg s.enc,.sl 7 (l.map ai.enc)] [] (.aF [.agg (s.sU l).1.enc,I (s.sU l).2]) [] []:=by
 have hs1:=hs.1
 generalize hR:s.sU l=R
 unfold ak.sU at hR
 refine Fn.aO aje (by simp) ?_
 unfold UX SC.mk' ak.enc
 simp only [go_sem]
 refine aQ (jX s hs) rfl rfl ?_
 simp only [go_sem]
 by_cases h1:s.lv≠0
 ·rw [if_pos h1] at hR
  have h1':(s.lv !=0)=true:=by simpa using h1
  simp only [h1',go_sem]
  exact Fin.aD _ rfl rfl (by rw [<-hR];simp only [ay,rv,au,get,ak.enc,List.map_nil,go_sem])
 rw [if_neg h1] at hR
 have h1':(s.lv !=0)=false:=by simpa using h1
 have g1:s.lv=0:=by simpa using h1
 have hb:=acz (oU (NC g1).1).1
 have hc:=Wv (NC g1).1
 have hst:s.stored=s.cnt:=by unfold ak.stored;rw [if_neg h1]
 simp only [h1',List.length_map,go_sem]
 refine bX (nu s hs) rfl rfl ?_
 have hw:IntKind.i64.wrap ((s.ready.cells.length:Int) - s.stored)=(s.ready.cells.length:Int) - s.stored:=bE (by omega)
 simp only [hw,List.length_map,go_sem]
 repeat (refine bn ?_)
 by_cases h2:(s.ready.cells.length:Int) - s.stored<l.length
 ·rw [if_pos h2] at hR
  simp only [h2,go_sem]
  exact Fin.aD _ rfl rfl (by rw [<-hR];simp only [ay,rv,au,get,ak.enc,List.map_nil,go_sem])
 rw [if_neg h2] at hR
 simp only [h2,go_sem]
 refine go_loop (fun x:{x:Nat×ak // x.1<=l.length/\x.2.sm/\yV s.low s.high (l.drop x.1) x.2=R}=>⟨3000,[(1,.sl 7 (l.map ai.enc)),(2,.ptr 8 0),(4,.ptr 16 0),(7,I x.1.1)],[(8,.box [Bo x.1.2.live,I x.1.2.low,I x.1.2.high,.sl 7 (x.1.2.ready.cells.map ai.enc),I x.1.2.ready.head,I x.1.2.ready.size,.sl 8 (x.1.2.aR.l.map Lease.enc),.sl 2 (x.1.2.aR.heap.map Due.enc)]),(16,.box [Bo false,I 0,I 0,Nl,I 0,I 0,Nl,Nl])]⟩) (fun x=>l.length - x.1.1) ⟨(0,s),by omega,hs,by rw [<-hR];rfl⟩ (wk [(8,8),(16,16)] []) ?_
 rintro ⟨⟨j,s'⟩,hj,hs',he⟩ B hB
 simp only at hj hs' he
 simp only [go_sem]
 by_cases e1:j<l.length
 ·have e2:decide ((j:Int)<(l.length:Int))=true:=by simp;omega
  rw [eB ai.z e1] at he
  simp only [yV,show l[j]?.getD ai.z=gM l j from rfl] at he
  have hx:nth (l.map ai.enc) j=ai.enc (gM l j):=bS ai.enc ai.z e1
  have hw:=bT (show j<=100000 by omega)
  generalize gM l j=m at hx he
  simp only [e2,hx,ai.enc,List.length_map,Int.toNat_natCast,go_sem]
  repeat (refine bn ?_)
  refine bX (Ww m s'.low s'.high) rfl rfl ?_
  simp only [ai.enc,go_sem]
  repeat (refine bn ?_)
  refine bX (acC s' (m.qi s'.low s'.high) hs') rfl rfl ?_
  simp only [ak.enc,go_sem]
  repeat (refine bn ?_)
  by_cases e3:(s'.put (m.qi s'.low s'.high)).2≠0
  ·rw [if_pos e3] at he
   have e3':((s'.put (m.qi s'.low s'.high)).2 !=0)=true:=by simpa using e3
   simp only [e3',go_sem]
   exact Fin.aD _ rfl rfl (by rw [<-he];simp only [ay,rv,au,get,ak.enc,List.map_nil,go_sem])
  ·rw [if_neg e3] at he
   have e3':((s'.put (m.qi s'.low s'.high)).2 !=0)=false:=by simpa using e3
   simp only [e3',hw,go_sem]
   exact hB _ ⟨(j+1,_),by simp only;omega,al8 _ _ hs',he⟩ (by simp only;omega) (wk [(8,8),(16,16)] [])
 ·have e2:decide ((j:Int)<(l.length:Int))=false:=by simp;omega
  rw [eH (by omega)] at he
  simp only [yV] at he
  simp only [e2,List.length_map,go_sem]
  exact Fin.aD _ rfl rfl (by rw [<-he];simp only [ay,rv,au,get,ak.enc,go_sem])
theorem Wy:∀ (l:List ai) (s:ak),(qX l s).aR=s.aR
 |[],s=>rfl
 |m::r,s=>by
  simp only [qX]
  split
  ·rw [Wy r]
  ·rw [Wy r]
theorem NG (s:ak) (L:List ai) (X:List Lease) (hs:s.aR.l.length<=400/\s.aR.heap.length<=400) (hL:L.length<=1000) (hX:X.length<=300):Fn Tryz.prog 421 [.agg s.enc,.sl 7 (L.map ai.enc),.sl 8 (X.map Lease.enc)] [] (.agg (s.fill L X).enc) [] []:=by
 generalize hR:s.fill L X=R
 unfold ak.fill at hR
 have hF:=Wy L s
 generalize hF1:qX L s=F at hR hF
 refine Fn.aO ajx (by simp) ?_
 unfold Vm SC.mk' ak.enc
 simp only [go_sem]
 refine go_loop (fun x:{x:Nat×ak // x.1<=L.length/\qX (L.drop x.1) x.2=F}=>⟨3000,[(1,.sl 7 (L.map ai.enc)),(2,.sl 8 (X.map Lease.enc)),(3,.ptr 8 0),(6,.ptr 16 0),(7,I x.1.1)],[(8,.box [Bo x.1.2.live,I x.1.2.low,I x.1.2.high,.sl 7 (x.1.2.ready.cells.map ai.enc),I x.1.2.ready.head,I x.1.2.ready.size,.sl 8 (x.1.2.aR.l.map Lease.enc),.sl 2 (x.1.2.aR.heap.map Due.enc)]),(16,.box [Bo false,I 0,I 0,Nl,I 0,I 0,Nl,Nl])]⟩) (fun x=>L.length - x.1.1) ⟨(0,s),by omega,hF1⟩ (wk [(8,8),(16,16)] []) ?_
 rintro ⟨⟨j,s'⟩,hj,he⟩ B hB
 simp only at hj he
 simp only [go_sem]
 by_cases e1:j<L.length
 ·have e2:decide ((j:Int)<(L.length:Int))=true:=by simp;omega
  rw [eB ai.z e1] at he
  simp only [qX,show L[j]?.getD ai.z=gM L j from rfl] at he
  have hx:nth (L.map ai.enc) j=ai.enc (gM L j):=bS ai.enc ai.z e1
  have hw:=bT (show j<=100000 by omega)
  generalize gM L j=m at hx he
  simp only [e2,hx,ai.enc,List.length_map,Int.toNat_natCast,go_sem]
  by_cases e3:s'.low<=m.route
  ·simp only [e3,hx,ai.enc,List.length_map,Int.toNat_natCast,go_sem]
   repeat (refine bn ?_)
   by_cases e4:m.route<=s'.high
   ·rw [if_pos ⟨e3,e4⟩] at he
    simp only [e4,hx,ai.enc,List.length_map,Int.toNat_natCast,go_sem]
    repeat (refine bn ?_)
    refine bX (Nw s'.ready m) rfl rfl ?_
    simp only [Ring.enc,hw,go_sem]
    repeat (refine bn ?_)
    exact hB _ ⟨(j+1,_),by simp only;omega,he⟩ (by simp only;omega) (wk [(8,8),(16,16)] [])
   ·rw [if_neg (fun h=>e4 h.2)] at he
    simp only [e4,hw,go_sem]
    exact hB _ ⟨(j+1,s'),by simp only;omega,he⟩ (by simp only;omega) (wk [(8,8),(16,16)] [])
  ·rw [if_neg (fun h=>e3 h.1)] at he
   simp only [e3,hw,go_sem]
   repeat (refine bn ?_)
   exact hB _ ⟨(j+1,s'),by simp only;omega,he⟩ (by simp only;omega) (wk [(8,8),(16,16)] [])
 have e2:decide ((j:Int)<(L.length:Int))=false:=by simp;omega
 rw [eH (by omega)] at he
 simp only [qX] at he
 simp only [e2,List.length_map,go_sem]
 rw [<-hF] at hs
 refine go_loop (fun x:{x:Nat×ak // x.1<=X.length/\(x.2.aR.l.length<=400+x.1/\x.2.aR.heap.length<=400+x.1)/\wS (X.drop x.1) x.2=R}=>⟨6000,[(2,.sl 8 (X.map Lease.enc)),(3,.ptr 8 0),(6,.ptr 16 0),(8,I x.1.1)],[(8,.box [Bo x.1.2.live,I x.1.2.low,I x.1.2.high,.sl 7 (x.1.2.ready.cells.map ai.enc),I x.1.2.ready.head,I x.1.2.ready.size,.sl 8 (x.1.2.aR.l.map Lease.enc),.sl 2 (x.1.2.aR.heap.map Due.enc)]),(16,.box [Bo false,I 0,I 0,Nl,I 0,I 0,Nl,Nl])]⟩) (fun x=>X.length - x.1.1) ⟨(0,s'),by omega,by rw [he];exact hs,by rw [he];exact hR⟩ (wk [(8,8),(16,16)] []) ?_
 clear hB e1 e2 hj he hR hs
 rintro ⟨⟨j,s'⟩,hj,hs',he⟩ B hB
 simp only at hj hs' he
 simp only [go_sem]
 by_cases e1:j<X.length
 ·have e2:decide ((j:Int)<(X.length:Int))=true:=by simp;omega
  rw [eB Lease.z e1] at he
  simp only [wS,show X[j]?.getD Lease.z=gL X j from rfl] at he
  have hx:nth (X.map Lease.enc) j=Lease.enc (gL X j):=bS Lease.enc Lease.z e1
  have hw:=bT (show j<=100000 by omega)
  generalize gL X j=m at hx he
  have hg:=NF s'.aR m.msg m.dl
  simp only [e2,hx,Lease.enc,List.length_map,Int.toNat_natCast,go_sem]
  repeat (refine bn ?_)
  by_cases e3:s'.low<=m.msg.route
  ·simp only [e3,hx,Lease.enc,List.length_map,Int.toNat_natCast,go_sem]
   by_cases e4:m.msg.route<=s'.high
   ·rw [if_pos ⟨e3,e4⟩] at he
    simp only [e4,hx,Lease.enc,List.length_map,Int.toNat_natCast,go_sem]
    repeat (refine bn ?_)
    refine bX (acp s'.aR m.msg m.dl (by omega) (by omega)) rfl rfl ?_
    simp only [Table.enc,hw,go_sem]
    repeat (refine bn ?_)
    exact hB _ ⟨(j+1,_),by simp only;omega,⟨by simp only;omega,by simp only;omega⟩,he⟩ (by simp only;omega) (wk [(8,8),(16,16)] [])
   ·rw [if_neg (fun h=>e4 h.2)] at he
    simp only [e4,hw,go_sem]
    exact hB _ ⟨(j+1,s'),by simp only;omega,⟨by simp only;omega,by simp only;omega⟩,he⟩ (by simp only;omega) (wk [(8,8),(16,16)] [])
  ·rw [if_neg (fun h=>e3 h.1)] at he
   simp only [e3,hw,go_sem]
   exact hB _ ⟨(j+1,s'),by simp only;omega,⟨by simp only;omega,by simp only;omega⟩,he⟩ (by simp only;omega) (wk [(8,8),(16,16)] [])
 ·have e2:decide ((j:Int)<(X.length:Int))=false:=by simp;omega
  rw [eH (by omega)] at he
  simp only [wS] at he
  simp only [e2,List.length_map,go_sem]
  exact Fin.aD _ rfl rfl (by rw [<-he];simp only [ay,rv,au,get,ak.enc,go_sem])
theorem al9 (s:ak) (ep:Int) (hs:s.sm):Fn Tryz.prog 393 [.agg s.enc,I ep] [] (.aF [.agg (s.clean ep).1.enc,I (s.clean ep).2.1,I (s.clean ep).2.2]) [] []:=by
 have hs1:=hs.1
 generalize hR:s.clean ep=R
 unfold ak.clean at hR
 refine Fn.aO ajp (by simp) ?_
 unfold Vb SC.mk' ak.enc
 simp only [go_sem]
 by_cases h0:s.lv≠0\/jy ep=false
 ·have aK:=jX s hs
  have aU:=qp ep
  exact aX
 have g1:s.lv=0:=by simpa using fun h=>h0 (.inl h)
 have g2:jy ep=true:=by simpa using fun h=>h0 (.inr h)
 rw [if_neg (by simp [g1]),if_neg (by simp [g2])] at hR
 refine aQ (jX s hs) rfl rfl ?_
 simp only [g1,go_sem]
 refine aQ (qp ep) rfl rfl ?_
 simp only [g2,Bool.not_true,go_sem]
 refine bX (ve s) rfl rfl ?_
 simp only [go_sem]
 refine bX (Wu s (by omega)) rfl rfl ?_
 have hl:=s.ready.rz
 have hl2:s.eF.length<=800:=by unfold ak.eF;simp;exact hs1
 generalize s.ready.list=L at hR hl
 generalize s.eF=M at hR hl2
 generalize hF:uS ep L s 0=F at hR
 simp only [go_sem]
 repeat (refine bn ?_)
 refine go_loop (fun x:{x:Nat×ak×Int // x.1<=L.length/\(0<=x.2.2/\x.2.2<=x.1)/\x.2.1.sm/\uS ep (L.drop x.1) x.2.1 x.2.2=F}=>⟨5000,[(1,I ep),(2,.ptr 8 0),(4,.ptr 16 0),(8,I x.1.2.2),(9,.sl 7 (L.map ai.enc)),(10,.sl 7 (M.map ai.enc)),(11,I x.1.1)],[(8,.box [Bo x.1.2.1.live,I x.1.2.1.low,I x.1.2.1.high,.sl 7 (x.1.2.1.ready.cells.map ai.enc),I x.1.2.1.ready.head,I x.1.2.1.ready.size,.sl 8 (x.1.2.1.aR.l.map Lease.enc),.sl 2 (x.1.2.1.aR.heap.map Due.enc)]),(16,.box [Bo false,I 0,I 0,Nl,I 0,I 0,Nl,Nl])]⟩) (fun x=>L.length - x.1.1) ⟨(0,s,0),by omega,by simp,hs,hF⟩ (wk [(8,8),(16,16)] []) ?_
 rintro ⟨⟨j,s',c⟩,hj,hc,hs',he⟩ B hB
 simp only at hj hc hs' he
 simp only [go_sem]
 by_cases e1:j<L.length
 ·have e2:decide ((j:Int)<(L.length:Int))=true:=by simp;omega
  rw [eB ai.z e1] at he
  simp only [uS,show L[j]?.getD ai.z=gM L j from rfl] at he
  have hx:nth (L.map ai.enc) j=ai.enc (gM L j):=bS ai.enc ai.z e1
  have hw:=bT (show j<=100000 by omega)
  have hw2:IntKind.i64.wrap (c+1)=c+1:=bE (by omega)
  generalize gM L j=m at hx he
  simp only [e2,hx,ai.enc,Int.toNat_natCast,go_sem]
  repeat (refine bn ?_)
  refine aQ (sS m ep) rfl rfl ?_
  simp only [go_sem]
  by_cases e3:m.epoch<ep
  ·rw [if_pos (show m.gZ ep=true from decide_eq_true e3)] at he
   simp only [e3,hx,ai.enc,Int.toNat_natCast,go_sem]
   repeat (refine bn ?_)
   refine bX (Ws s'.ready m.id) rfl rfl ?_
   simp only [Ring.enc,ai.enc,hw,hw2,go_sem]
   repeat (refine bn ?_)
   exact hB _ ⟨(j+1,_,c+1),by simp only;omega,by simp only;omega,by simp only;exact hs',he⟩ (by simp only;omega) (wk [(8,8),(16,16)] [])
  ·rw [if_neg (show ¬ m.gZ ep=true by simp [ai.gZ,e3])] at he
   simp only [e3,hw,go_sem]
   exact hB _ ⟨(j+1,s',c),by simp only;omega,by simp only;omega,hs',he⟩ (by simp only;omega) (wk [(8,8),(16,16)] [])
 have e2:decide ((j:Int)<(L.length:Int))=false:=by simp;omega
 rw [eH (by omega)] at he
 simp only [uS] at he
 rw [<-he] at hR
 simp only at hR
 generalize hG:uU ep M s' c=G at hR
 simp only [e2,go_sem]
 refine go_loop (fun x:{x:Nat×ak×Int // x.1<=M.length/\(0<=x.2.2/\x.2.2<=12+x.1)/\x.2.1.sm/\uU ep (M.drop x.1) x.2.1 x.2.2=G}=>⟨9000,[(1,I ep),(2,.ptr 8 0),(4,.ptr 16 0),(8,I x.1.2.2),(10,.sl 7 (M.map ai.enc)),(12,I x.1.1)],[(8,.box [Bo x.1.2.1.live,I x.1.2.1.low,I x.1.2.1.high,.sl 7 (x.1.2.1.ready.cells.map ai.enc),I x.1.2.1.ready.head,I x.1.2.1.ready.size,.sl 8 (x.1.2.1.aR.l.map Lease.enc),.sl 2 (x.1.2.1.aR.heap.map Due.enc)]),(16,.box [Bo false,I 0,I 0,Nl,I 0,I 0,Nl,Nl])]⟩) (fun x=>M.length - x.1.1) ⟨(0,s',c),by omega,by simp only;omega,hs',hG⟩ (wk [(8,8),(16,16)] []) ?_
 clear hB e1 e2 hj hc he hG hs' hF
 rintro ⟨⟨j,s',c⟩,hj,hc,hs',he⟩ B hB
 simp only at hj hc hs' he
 have hs1:=hs'.1
 have hs2:=hs'.2
 simp only [go_sem]
 by_cases e1:j<M.length
 ·have e2:decide ((j:Int)<(M.length:Int))=true:=by simp;omega
  rw [eB ai.z e1] at he
  simp only [uU,show M[j]?.getD ai.z=gM M j from rfl] at he
  have hx:nth (M.map ai.enc) j=ai.enc (gM M j):=bS ai.enc ai.z e1
  have hw:=bT (show j<=100000 by omega)
  have hw2:IntKind.i64.wrap (c+1)=c+1:=bE (by omega)
  generalize gM M j=m at hx he
  have hl:=Bn s'.aR m.id
  simp only [e2,hx,ai.enc,Int.toNat_natCast,go_sem]
  repeat (refine bn ?_)
  refine aQ (sS m ep) rfl rfl ?_
  simp only [go_sem]
  by_cases e3:m.epoch<ep
  ·rw [if_pos (show m.gZ ep=true from decide_eq_true e3)] at he
   simp only [e3,hx,ai.enc,Int.toNat_natCast,go_sem]
   repeat (refine bn ?_)
   refine bX (Nv s'.aR m.id (by omega) (by omega)) rfl rfl ?_
   simp only [Table.enc,ai.enc,hw,hw2,go_sem]
   repeat (refine bn ?_)
   exact hB _ ⟨(j+1,_,c+1),by simp only;omega,by simp only;omega,⟨by simp only;omega,by simp only;omega⟩,he⟩ (by simp only;omega) (wk [(8,8),(16,16)] [])
  ·rw [if_neg (show ¬ m.gZ ep=true by simp [ai.gZ,e3])] at he
   simp only [e3,hw,go_sem]
   exact hB _ ⟨(j+1,s',c),by simp only;omega,by simp only;omega,hs',he⟩ (by simp only;omega) (wk [(8,8),(16,16)] [])
 ·have e2:decide ((j:Int)<(M.length:Int))=false:=by simp;omega
  rw [eH (by omega)] at he
  simp only [uU] at he
  simp only [e2,go_sem]
  exact Fin.aD _ rfl rfl (by rw [<-hR,<-he];simp only [ay,rv,au,get,ak.enc,go_sem])
end Go.Eng
