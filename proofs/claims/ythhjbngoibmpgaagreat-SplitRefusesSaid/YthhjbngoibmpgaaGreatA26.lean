/-
  Part of a proof: lemmas and definitions of this work.
  No condition.
-/
import Derived.Test.YthhjbngoibmpgaaGreatA08
import Derived.Test.YthhjbngoibmpgaaGreatA25
set_option linter.all false
set_option maxRecDepth 100000
set_option maxHeartbeats 8000000
namespace Go.Eng
open Go Go.Proofs
attribute [local go_sem] aj.enc av.enc Task.enc Ev.enc bD.enc bf.enc cB.enc Dead.enc Dir.enc ak.enc Walk.enc aV.enc aJ.enc bL.enc Setup.enc aS dY dZ List.length_map List.map_nil iN
theorem anw (a:aj) (l:bf) (task:Int) (h:l.cells.length<=1000):(l.step a task).2.1.cells.length<=1000:=by
 unfold bf.step
 simp only
 repeat' split
 all_goals first|exact Nat.zero_le _|exact h
theorem anx (a:aj) (s:av) (task k:Int) {n:Nat} (ha:a.wf n) (hs:s.wf n) (hl:s.aW):Fn Tryz.prog 122 [.agg a.enc,.agg s.enc,I task,I k] [] (.aF [.agg (s.step0 a task k).1.enc,.agg (s.step0 a task k).2.1.enc,I (s.step0 a task k).2.2]) [] []:=by
 generalize hR:s.step0 a task k=R
 unfold av.step0 at hR
 simp only at hR
 have hc1:s.lock.cells.length<=1000:=by have:=hs.lk.l3;omega
 by_cases p0:s.phase=0
 ·have e:∀ j:Int,(s.phase==j)=((0:Int)==j):=fun j=>by rw [p0]
  simp only [e,Int.reduceBEq,Bool.false_eq_true,if_true,if_false] at hR
  refine Fn.aT bR qO (by simp) ?_
  unfold qN SC.mk' aj.enc av.enc
  simp only [e,go_sem]
  have aK:=acX a s.lock task n ha hs.lk
  have aU:=lJ {s with lock:=(s.lock.step a task).2.1} 1
  try dsimp only at aU
  have bK:=adg a (av.enter {s with lock:=(s.lock.step a task).2.1} 1) (anw a s.lock task hc1)
  try dsimp only at bK
  have dV:=lJ (av.enter {s with lock:=(s.lock.step a task).2.1} 1) 2
  try dsimp only at dV
  have hJ:=e
  exact aZ
 by_cases p1:s.phase=1
 ·have e:∀ j:Int,(s.phase==j)=((1:Int)==j):=fun j=>by rw [p1]
  simp only [e,Int.reduceBEq,Bool.false_eq_true,if_true,if_false] at hR
  refine Fn.aT bR qO (by simp) ?_
  unfold qN SC.mk' aj.enc av.enc
  simp only [e,go_sem]
  have aK:=ann a s task ha hs p1
  have hJ:=e
  exact aZ
 by_cases p2:s.phase=2
 ·have e:∀ j:Int,(s.phase==j)=((2:Int)==j):=fun j=>by rw [p2]
  simp only [e,Int.reduceBEq,Bool.false_eq_true,if_true,if_false] at hR
  refine Fn.aT bR qO (by simp) ?_
  unfold qN SC.mk' aj.enc av.enc
  simp only [e,go_sem]
  have aK:=anp a s ha hs p2
  have hJ:=e
  exact aZ
 by_cases p3:s.phase=3
 ·have e:∀ j:Int,(s.phase==j)=((3:Int)==j):=fun j=>by rw [p3]
  simp only [e,Int.reduceBEq,Bool.false_eq_true,if_true,if_false] at hR
  refine Fn.aT bR qO (by simp) ?_
  unfold qN SC.mk' aj.enc av.enc
  simp only [e,go_sem]
  have aK:=anj a s.aI k
  have aU:=lJ {s with aI:=(s.aI.step a k).1} 4
  try dsimp only at aU
  have hJ:=e
  exact aZ
 by_cases p5:s.phase=5
 ·have e:∀ j:Int,(s.phase==j)=((5:Int)==j):=fun j=>by rw [p5]
  simp only [e,Int.reduceBEq,Bool.false_eq_true,if_true,if_false] at hR
  refine Fn.aT bR qO (by simp) ?_
  unfold qN SC.mk' aj.enc av.enc
  simp only [e,go_sem]
  have aK:=anr a s task ha hs hl p5
  have hJ:=e
  exact aZ
 by_cases p6:s.phase=6
 ·have e:∀ j:Int,(s.phase==j)=((6:Int)==j):=fun j=>by rw [p6]
  simp only [e,Int.reduceBEq,Bool.false_eq_true,if_true,if_false] at hR
  refine Fn.aT bR qO (by simp) ?_
  unfold qN SC.mk' aj.enc av.enc
  simp only [e,go_sem]
  have aK:=anu a s ha hs hl p6
  have hJ:=e
  exact aZ
 by_cases p7:s.phase=7
 ·have e:∀ j:Int,(s.phase==j)=((7:Int)==j):=fun j=>by rw [p7]
  simp only [e,Int.reduceBEq,Bool.false_eq_true,if_true,if_false] at hR
  refine Fn.aT bR qO (by simp) ?_
  unfold qN SC.mk' aj.enc av.enc
  simp only [e,go_sem]
  have aK:=anv a s task ha hs hl p7
  have hJ:=e
  exact aZ
 by_cases p8:s.phase=8
 ·have e:∀ j:Int,(s.phase==j)=((8:Int)==j):=fun j=>by rw [p8]
  simp only [e,Int.reduceBEq,Bool.false_eq_true,if_true,if_false] at hR
  refine Fn.aT bR qO (by simp) ?_
  unfold qN SC.mk' aj.enc av.enc
  simp only [e,go_sem]
  have aK:=acX a s.lock task n ha hs.lk
  have aU:=lJ {s with lock:=(s.lock.step a task).2.1} 9
  try dsimp only at aU
  have hJ:=e
  exact aZ
 have f0:(s.phase==0)=false:=beq_eq_false_iff_ne.2 p0
 have f1:(s.phase==1)=false:=beq_eq_false_iff_ne.2 p1
 have f2:(s.phase==2)=false:=beq_eq_false_iff_ne.2 p2
 have f3:(s.phase==3)=false:=beq_eq_false_iff_ne.2 p3
 have f5:(s.phase==5)=false:=beq_eq_false_iff_ne.2 p5
 have f6:(s.phase==6)=false:=beq_eq_false_iff_ne.2 p6
 have f7:(s.phase==7)=false:=beq_eq_false_iff_ne.2 p7
 have f8:(s.phase==8)=false:=beq_eq_false_iff_ne.2 p8
 simp only [f0,f1,f2,f3,f5,f6,f7,f8,Bool.false_eq_true,if_false] at hR
 refine Fn.aT bR qO (by simp) ?_
 unfold qN SC.mk' aj.enc av.enc
 simp only [f0,f1,f2,f3,f5,f6,f7,f8,go_sem]
 exact aX
theorem anz (a:aj) (s:av) (task k:Int) {n:Nat} (ha:a.wf n) (hal:a.aW) (hs:s.wf n) (hl:s.aW):Fn Tryz.prog 62 [.agg a.enc,.agg s.enc,I task,I k] [] (.aF [.agg (s.step a task k).1.enc,.agg (s.step a task k).2.1.enc,I (s.step a task k).2.2]) [] []:=by
 generalize hR:s.step a task k=R
 unfold av.step at hR
 refine Fn.aT bR Qt (by simp) ?_
 unfold Qs SC.mk' aj.enc av.enc
 simp only [go_sem]
 have aK:=anx a s task k ha hs hl
 have hJ:=trivial
 exact aZ
theorem adj (l:List Int) (x:Int):∀ (m:Nat),m<=l.length->(((l.take m).any fun y=>y==x)=false↔∀ k,k<m->¬ gI l k=x):=by
 intro m hm
 rw [List.any_eq_false]
 constructor
 ·intro h k hk e
  have hkl:k<l.length:=by omega
  refine h (gI l k) ?_ (by simp [e])
  unfold gI
  rw [List.getElem?_eq_getElem hkl]
  exact List.mem_take_iff_getElem.2 ⟨k,by omega,rfl⟩
 ·intro h y hy
  obtain ⟨k,hk,rfl⟩:=List.mem_take_iff_getElem.1 hy
  have hkl:k<l.length:=by omega
  have:=h k (by omega)
  unfold gI at this
  rw [List.getElem?_eq_getElem hkl] at this
  simpa using this
theorem anA (s:av) (o:bD) (ho:o.order.length<=1000) (hc:s.lock.cells.length<=1000):Fn Tryz.prog 60 [.agg s.enc,.agg o.enc] [] (.aF [.agg (s.tu o).1.enc,I (s.tu o).2]) [] []:=by
 generalize hR:s.tu o=R
 unfold av.tu at hR
 refine Fn.aT bR Qr (by simp) ?_
 unfold Qq SC.mk' av.enc bD.enc
 simp only [go_sem]
 by_cases h0:(s.phase !=4)=true
 ·rw [if_pos h0] at hR
  simp only [h0,go_sem]
  exact Fin.aD _ rfl rfl (by rw [<-hR];simp only [ay,rv,au,get,av.enc,iN,List.map_nil,go_sem])
 rw [if_neg h0] at hR
 simp only [Bool.not_eq_true] at h0
 simp only [h0,List.length_map,go_sem]
 by_cases h1:o.aN.length≠s.aN.length
 ·rw [if_pos (.inl h1)] at hR
  have h1':((o.aN.length:Int) !=(s.aN.length:Int))=true:=by simp;omega
  simp only [h1',go_sem]
  exact Fin.aD _ rfl rfl (by rw [<-hR];simp only [ay,rv,au,get,av.enc,iN,List.map_nil,go_sem])
 have h1':((o.aN.length:Int) !=(s.aN.length:Int))=false:=by simp;omega
 by_cases h2:1<o.dO.length
 ·rw [if_pos (.inr h2)] at hR
  have h2':decide ((1:Int)<(o.dO.length:Int))=true:=by simp;omega
  simp only [h1',h2',List.length_map,go_sem]
  exact Fin.aD _ rfl rfl (by rw [<-hR];simp only [ay,rv,au,get,av.enc,iN,List.map_nil,go_sem])
 rw [if_neg (by omega)] at hR
 have h2':decide ((1:Int)<(o.dO.length:Int))=false:=by simp;omega
 simp only [h1',h2',List.length_map,go_sem]
 generalize hK:jb s.lock.cells o.order []=K at hR
 refine go_loop (fun j:{j:Nat // j<=o.order.length/\jb s.lock.cells (o.order.drop j) (o.order.take j)=K}=>⟨2000,[(2,.ptr 8 0),(3,.ptr 16 0),(4,.ptr 24 0),(6,I j.1)],[(8,.box [I s.phase,I s.at_,.sl 1 (encI s.lock.cells),I s.lock.phase,I s.lock.got,I s.lock.tries,I s.lock.wait,I s.aI.phase,I s.aI.epoch,I s.aI.clock,I s.aI.stamp,.sl 8 (s.aN.map ak.enc),I s.dead.cap,.sl 7 (s.dead.l.map ai.enc),.sl 4 (s.bU.map aJ.enc),I s.dir.version,.sl 3 (s.dir.l.map Span.enc),.sl 1 (encI s.dir.aM),.sl 8 (s.out.aN.map ak.enc),I s.out.dead.cap,.sl 7 (s.out.dead.l.map ai.enc),.sl 1 (encI s.out.order),.sl 7 (s.out.carry.map ai.enc),.sl 4 (s.out.dO.map bL.enc),I s.limit,.sl 7 (s.carry.map ai.enc)]),(16,.box [.sl 8 (o.aN.map ak.enc),I o.dead.cap,.sl 7 (o.dead.l.map ai.enc),.sl 1 (encI o.order),.sl 7 (o.carry.map ai.enc),.sl 4 (o.dO.map bL.enc)]),(24,.box [I 0,I 0,Nl,I 0,I 0,I 0,I 0,I 0,I 0,I 0,I 0,Nl,I 0,Nl,Nl,I 0,Nl,Nl,Nl,I 0,Nl,Nl,Nl,Nl,I 0,Nl])]⟩) (fun j=>o.order.length - j.1) ⟨0,by omega,by simpa using hK⟩ (wk [(8,8),(16,16),(24,24)] []) ?_
 rintro ⟨j,hj,he⟩ B hB
 simp only [go_sem]
 by_cases e1:j<o.order.length
 ·have e2:decide ((j:Int)<(o.order.length:Int))=true:=by simp;omega
  rw [eB 0 e1] at he
  simp only [jb,show o.order[j]?.getD 0=gI o.order j from rfl] at he
  have hx:=ny e1
  have hw:=bT (show j<=100000 by omega)
  have htk:o.order.take j++[gI o.order j]=o.order.take (j+1):=by
   unfold gI
   rw [List.take_succ_eq_append_getElem e1,List.getElem?_eq_getElem e1];rfl
  simp only [e2,hx,aS,Int.toNat_natCast,go_sem]
  repeat (refine bn ?_)
  by_cases f1:gI o.order j<0
  ·have hKf:K=false:=by rw [<-he];simp;omega
   rw [hKf,if_pos rfl] at hR
   simp only [f1,hx,aS,go_sem]
   repeat (refine bn ?_)
   exact Fin.aD _ rfl rfl (by rw [<-hR];simp only [ay,rv,au,get,av.enc,iN,List.map_nil,go_sem])
  by_cases f2:(s.lock.cells.length:Int)<=gI o.order j
  ·have hKf:K=false:=by rw [<-he];simp;omega
   rw [hKf,if_pos rfl] at hR
   simp only [f1,f2,hx,aS,Int.toNat_natCast,go_sem]
   repeat (refine bn ?_)
   exact Fin.aD _ rfl rfl (by rw [<-hR];simp only [ay,rv,au,get,av.enc,iN,List.map_nil,go_sem])
  have he2:(!((o.order.take j).any fun x=>x==gI o.order j)&&jb s.lock.cells (o.order.drop (j+1)) (o.order.take (j+1)))=K:=by
   rw [<-he,htk,show decide (0<=gI o.order j)=true by simp;omega,show decide (gI o.order j<(s.lock.cells.length:Int))=true by simp;omega];simp
  simp only [f1,f2,hx,aS,Int.toNat_natCast,go_sem]
  repeat (refine bn ?_)
  refine go_loop (fun m:{m:Nat // m<=j/\∀ i,i<m->¬ gI o.order i=gI o.order j}=>⟨4000,[(2,.ptr 8 0),(3,.ptr 16 0),(4,.ptr 24 0),(6,I j),(7,I m.1)],[(8,.box [I s.phase,I s.at_,.sl 1 (encI s.lock.cells),I s.lock.phase,I s.lock.got,I s.lock.tries,I s.lock.wait,I s.aI.phase,I s.aI.epoch,I s.aI.clock,I s.aI.stamp,.sl 8 (s.aN.map ak.enc),I s.dead.cap,.sl 7 (s.dead.l.map ai.enc),.sl 4 (s.bU.map aJ.enc),I s.dir.version,.sl 3 (s.dir.l.map Span.enc),.sl 1 (encI s.dir.aM),.sl 8 (s.out.aN.map ak.enc),I s.out.dead.cap,.sl 7 (s.out.dead.l.map ai.enc),.sl 1 (encI s.out.order),.sl 7 (s.out.carry.map ai.enc),.sl 4 (s.out.dO.map bL.enc),I s.limit,.sl 7 (s.carry.map ai.enc)]),(16,.box [.sl 8 (o.aN.map ak.enc),I o.dead.cap,.sl 7 (o.dead.l.map ai.enc),.sl 1 (encI o.order),.sl 7 (o.carry.map ai.enc),.sl 4 (o.dO.map bL.enc)]),(24,.box [I 0,I 0,Nl,I 0,I 0,I 0,I 0,I 0,I 0,I 0,I 0,Nl,I 0,Nl,Nl,I 0,Nl,Nl,Nl,I 0,Nl,Nl,Nl,Nl,I 0,Nl])]⟩) (fun m=>j - m.1) ⟨0,by omega,by intro i hi;omega⟩ (wk [(8,8),(16,16),(24,24)] []) ?_
  rintro ⟨m,hm,hq⟩ B2 hB2
  simp only [go_sem]
  by_cases g1:m<j
  ·have g2:decide ((m:Int)<(j:Int))=true:=by simp;omega
   have hy:=ny (show m<o.order.length by omega)
   have hw2:=bT (show m<=100000 by omega)
   simp only [g2,hx,hy,aS,Int.toNat_natCast,go_sem]
   repeat (refine bn ?_)
   by_cases g3:gI o.order m=gI o.order j
   ·have hKf:K=false:=by
     have:¬ ((o.order.take j).any fun x=>x==gI o.order j)=false:=fun h=>(adj _ _ j hj).1 h m g1 g3
     rw [<-he2,show ((o.order.take j).any fun x=>x==gI o.order j)=true by simpa using this];rfl
    rw [hKf,if_pos rfl] at hR
    simp only [g3,go_sem]
    exact Fin.aD _ rfl rfl (by rw [<-hR];simp only [ay,rv,au,get,av.enc,iN,List.map_nil,go_sem])
   ·have g3':(gI o.order m==gI o.order j)=false:=beq_eq_false_iff_ne.2 g3
    simp only [g3',hw2,go_sem]
    refine hB2 _ ⟨m+1,by omega,fun i hi=> ?_⟩ (by simp only;omega) (wk [(8,8),(16,16),(24,24)] [])
    rcases Nat.lt_succ_iff_lt_or_eq.1 hi with h|h
    ·exact hq i h
    ·subst h;exact g3
  ·have g2:decide ((m:Int)<(j:Int))=false:=by simp;omega
   have hmj:m=j:=by omega
   subst hmj
   have he3:jb s.lock.cells (o.order.drop (m+1)) (o.order.take (m+1))=K:=by
    rw [<-he2,(adj _ _ m hj).2 hq];rfl
   simp only [g2,hw,go_sem]
   exact hB _ ⟨m+1,by omega,he3⟩ (by simp only;omega) (wk [(8,8),(16,16),(24,24)] [])
 ·have e2:decide ((j:Int)<(o.order.length:Int))=false:=by simp;omega
  rw [eH (by omega)] at he
  simp only [jb] at he
  rw [<-he] at hR
  simp only [Bool.true_eq_false,if_false] at hR
  simp only [e2,aS,List.length_map,go_sem]
  have aK:=lJ {s with out:=o} 5
  try dsimp only at aK
  have aU:=lJ {s with out:=o} 6
  try dsimp only at aU
  have bK:=NP aj.z {s with out:=o}
  try dsimp only at bK
  have hJ:=ah aj.z.eq_1 (ah qP.z.eq_1 (ah Dead.z.eq_1 Dir.z.eq_1))
  exact aZ
end Go.Eng
