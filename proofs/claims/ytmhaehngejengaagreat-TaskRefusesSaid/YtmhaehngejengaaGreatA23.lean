/-
  Part of a proof: lemmas and definitions of this work.
  No condition.
-/
import Derived.Test.YtmhaehngejengaaGreatA12
import Derived.Test.YtmhaehngejengaaGreatA22
set_option linter.all false
set_option maxRecDepth 100000
set_option maxHeartbeats 8000000
namespace Go.Eng
open Go Go.Proofs
theorem Dx {α:Type} (z:α) {l:List α} {j:Nat} (h:j<l.length):l.take (j+1)=l.take j++[l[j]?.getD z]:=by
 rw [List.take_succ_eq_append_getElem h];simp [h]
theorem Ring.val_zero {r:Ring} (h:r.val=0):∃ n h' l,Rg n h' l∧r=Ring.mk' n h' l:=by
 obtain ⟨cs,hd,s⟩:=r
 obtain ⟨n,h',l,rg,rfl,rfl,rfl⟩:=Aq h
 exact ⟨n,h',l,rg,rfl⟩
theorem Ring.acr {n h:Nat} {l:List ai} (rg:Rg n h l):(Ring.mk' n h l).list=l:=by
 unfold Ring.list Ap Ring.mk'
 simp only
 rw [if_neg (fun e=>e rg.ok)]
 simp only [Int.toNat_natCast,wO rg.ll rg.hh]
theorem anh (r:Ring):Fn Tryz.prog 523 [.agg r.enc] [] (I r.val) [] []:=Fv r.cells r.head r.size
theorem ani (r:Ring):Fn Tryz.prog 527 [.agg r.enc] [] (.sl 7 (r.list.map ai.enc)) [] []:=al1 r.cells r.head r.size
theorem acs (k:Int):Fn Tryz.prog 186 [I k] [] (.aF [.agg (Ring.new k).1.enc,I (Ring.new k).2]) [] []:=by
 have h:=alY k
 have e:newR k= .aF [.agg (Ring.new k).1.enc,I (Ring.new k).2]:=by
  unfold newR Ring.new
  repeat' split
  all_goals rfl
 rwa [e] at h
theorem OE (r:Ring) (m:ai):Fn Tryz.prog 478 [.agg r.enc,.agg m.enc] [] (.aF [.agg (r.wS m).1.enc,I (r.wS m).2]) [] []:=by
 have h:=alW r.cells r.head r.size m
 have e:N7 r.cells r.head r.size m= .aF [.agg (r.wS m).1.enc,I (r.wS m).2]:=by
  unfold N7 Ring.wS Ring.room
  split<;>rfl
 rwa [e] at h
theorem anj (r:Ring) (m:ai):Fn Tryz.prog 486 [.agg r.enc,.agg m.enc] [] (.aF [.agg (r.Dp m).1.enc,I (r.Dp m).2]) [] []:=by
 have h:=alX r.cells r.head r.size m
 have e:N8 r.cells r.head r.size m= .aF [.agg (r.Dp m).1.enc,I (r.Dp m).2]:=by
  unfold N8 Ring.Dp Ring.room
  split<;>rfl
 rwa [e] at h
theorem Xl (r:Ring) (id:Int):Fn Tryz.prog 498 [.agg r.enc,I id] [] (.aF [.agg (r.remove id).1.enc,.agg (r.remove id).2.1.enc,I (r.remove id).2.2]) [] []:=by
 have h:=al2 r.cells r.head r.size id
 have e:N9 r.cells r.head r.size id= .aF [.agg (r.remove id).1.enc,.agg (r.remove id).2.1.enc,I (r.remove id).2.2]:=by
  unfold N9 Ring.remove
  by_cases h0:r.val=0
  ·have e1:r.list=gJ r.cells r.head.toNat r.size.toNat:=by unfold Ring.list Ap;rw [if_neg (fun h=>h h0)]
   have h0':fP r.cells r.head r.size=0:=h0
   rw [if_neg (show ¬ fP r.cells r.head r.size≠0 from fun h=>h h0'),if_neg (show ¬ r.val≠0 from fun h=>h h0),e1]
   split<;>rfl
  ·have h0':fP r.cells r.head r.size≠0:=h0
   rw [if_pos h0',if_pos h0];rfl
 rwa [e] at h
theorem ank (r:Ring) (k:Int):Fn Tryz.prog 491 [.agg r.enc,I k] [] (.aF [.agg (r.jg k).1.enc,.sl 7 ((r.jg k).2.1.map ai.enc),I (r.jg k).2.2]) [] []:=by
 have h:=al3 r.cells r.head r.size k
 have e:Oa r.cells r.head r.size k= .aF [.agg (r.jg k).1.enc,.sl 7 ((r.jg k).2.1.map ai.enc),I (r.jg k).2.2]:=by
  unfold Oa Ring.jg
  by_cases h0:r.val=0
  ·have e1:r.list=gJ r.cells r.head.toNat r.size.toNat:=by unfold Ring.list Ap;rw [if_neg (fun h=>h h0)]
   have h0':fP r.cells r.head r.size=0:=h0
   rw [if_neg (show ¬ fP r.cells r.head r.size≠0 from fun h=>h h0'),if_neg (show ¬ r.val≠0 from fun h=>h h0)]
   by_cases h1:k<0
   ·rw [if_pos h1,if_pos (.inl h1)];rfl
   by_cases h2:r.size<k
   ·rw [if_neg h1,if_pos h2,if_pos (.inr h2)];rfl
   ·rw [if_neg h1,if_neg h2,if_neg (by omega),e1,yK];rfl
  ·have h0':fP r.cells r.head r.size≠0:=h0
   rw [if_pos h0',if_pos h0];rfl
 rwa [e] at h
theorem Ring.ug (r:Ring):r.list.length≤12:=by
 by_cases h:r.val=0
 ·obtain ⟨n,h',l,rg,rfl⟩:=Ring.val_zero h
  rw [Ring.acr rg]
  have:=rg.n2;have:=rg.ll;omega
 ·unfold Ring.list Ap;rw [if_pos (show fP r.cells r.head r.size≠0 from h)];exact Nat.zero_le _
theorem acu (a b:Int):Fn Tryz.prog 187 [I a,I b] [] (Bo (AA a b)) [] []:=by
 refine Fn.aN aaP (by simp) ?_
 unfold NC SC.mk'
 simp only [go_sem]
 repeat' first|refine dL (fun h1=> ?_) (fun h1=> ?_)<;>simp only [h1,go_sem]|refine bF (fun h1=> ?_) (fun h1=> ?_)<;>simp only [h1,go_sem]|refine Fin.bQ _ rfl rfl rfl ?_
 all_goals (simp_all [AA,ay]<;>omega)
theorem rV (a:Int):Fn Tryz.prog 497 [I a] [] (Bo (jV a)) [] []:=by
 refine Fn.aN ako (by simp) ?_
 unfold Vk SC.mk'
 simp only [go_sem]
 repeat' first|refine dL (fun h1=> ?_) (fun h1=> ?_)<;>simp only [h1,go_sem]|refine bF (fun h1=> ?_) (fun h1=> ?_)<;>simp only [h1,go_sem]|refine Fin.bQ _ rfl rfl rfl ?_
 all_goals (simp_all [jV,ay]<;>omega)
theorem xk (a:Int):Fn Tryz.prog 484 [I a] [] (Bo (lC a)) [] []:=by
 refine Fn.aN akb (by simp) ?_
 unfold U5 SC.mk'
 simp only [go_sem]
 repeat' first|refine dL (fun h1=> ?_) (fun h1=> ?_)<;>simp only [h1,go_sem]|refine bF (fun h1=> ?_) (fun h1=> ?_)<;>simp only [h1,go_sem]|refine Fin.bQ _ rfl rfl rfl ?_
 all_goals (simp_all [lC,ay]<;>omega)
theorem Dy (a:Int):Fn Tryz.prog 499 [I a] [] (Bo (ql a)) [] []:=by
 refine Fn.aN akq (by simp) ?_
 unfold Vm SC.mk'
 simp only [go_sem]
 repeat' first|refine dL (fun h1=> ?_) (fun h1=> ?_)<;>simp only [h1,go_sem]|refine bF (fun h1=> ?_) (fun h1=> ?_)<;>simp only [h1,go_sem]|refine Fin.bQ _ rfl rfl rfl ?_
 all_goals (simp_all [ql,ay]<;>omega)
theorem OG (a:Int):Fn Tryz.prog 487 [I a] [] (Bo (rO a)) [] []:=by
 refine Fn.aN ake (by simp) ?_
 unfold U8 SC.mk'
 simp only [go_sem]
 repeat' first|refine dL (fun h1=> ?_) (fun h1=> ?_)<;>simp only [h1,go_sem]|refine bF (fun h1=> ?_) (fun h1=> ?_)<;>simp only [h1,go_sem]|refine Fin.bQ _ rfl rfl rfl ?_
 all_goals (simp_all [rO,ay]<;>omega)
theorem Xm (cap lo hi:Int):Fn Tryz.prog 101 [I cap,I lo,I hi] [] (.aF [.agg (aj.new cap lo hi).1.enc,I (aj.new cap lo hi).2]) [] []:=by
 refine Fn.aN aaK (by simp) ?_
 unfold Nu SC.mk' aj.enc aj.new
 simp only [go_sem]
 refine aO (acs cap) rfl rfl ?_
 simp only [Ring.enc,go_sem]
 by_cases h1:(Ring.new cap).2=0
 ·simp only [h1,ne_eq,not_true_eq_false,if_false,go_sem]
  refine aO (acu lo hi) rfl rfl ?_
  simp only [go_sem]
  by_cases h2:AA lo hi=true
  ·simp only [h2,Bool.not_true,Bool.not_false,Bool.false_eq_true,if_false,go_sem]
   exact Fin.mk0 _ rfl rfl (by simp [ay,rv,au,Ring.enc])
  ·simp only [Bool.not_eq_true] at h2
   simp only [h2,Bool.not_true,Bool.not_false,if_true,go_sem]
   exact Fin.mk0 _ rfl rfl (by simp [ay,rv,au])
 ·have h1':((Ring.new cap).2 !=0)=true:=by simpa using h1
  simp only [h1',if_pos h1,go_sem]
  exact Fin.mk0 _ rfl rfl (by simp [ay,rv,au])
theorem OH (cap:Int):Fn Tryz.prog 100 [I cap] [] (.aF [.agg (aj.free cap).1.enc,I (aj.free cap).2]) [] []:=by
 refine Fn.aN aaJ (by simp) ?_
 unfold Ns SC.mk' aj.enc aj.free
 simp only [go_sem]
 refine aO (acs cap) rfl rfl ?_
 simp only [Ring.enc,go_sem]
 by_cases h1:(Ring.new cap).2=0
 ·simp only [h1,ne_eq,not_true_eq_false,if_false,go_sem]
  exact Fin.mk0 _ rfl rfl (by simp [ay,rv,au,Ring.enc])
 ·have h1':((Ring.new cap).2 !=0)=true:=by simpa using h1
  simp only [h1',if_pos h1,go_sem]
  exact Fin.mk0 _ rfl rfl (by simp [ay,rv,au])
theorem xq (s:aj):Fn Tryz.prog 495 [.agg s.enc] [] (.sl 7 (s.ready.list.map ai.enc)) [] []:=by
 refine Fn.aN akm (by simp) ?_
 unfold Vh SC.mk' aj.enc
 simp only [go_sem]
 refine aO (ani s.ready) rfl rfl ?_
 simp only [go_sem]
 exact Fin.mk0 _ rfl rfl (by simp [ay,rv,au])
theorem Xn (s:aj) (hl:s.aP.l.length≤1000):Fn Tryz.prog 496 [.agg s.enc] [] (.sl 7 (s.fB.map ai.enc)) [] []:=by
 refine Fn.aN akn (by simp) ?_
 unfold Vj SC.mk' aj.enc
 simp only [go_sem]
 refine go_loop (fun j:{j:Nat // j≤s.aP.l.length}=>⟨1000,[(1,.ptr 8 0),(3,.own 80 7 0 j.1),(4,I j.1)],[(8,.box [Bo s.live,I s.low,I s.high,.sl 7 (s.ready.cells.map ai.enc),I s.ready.head,I s.ready.size,.sl 8 (s.aP.l.map Lease.enc),.sl 2 (s.aP.heap.map Due.enc)]),(80,.row 86 7 (((s.aP.l.take j.1).map Lease.msg).map ai.enc))]⟩) (fun j=>s.aP.l.length - j.1) ⟨0,by omega⟩ (wk [(8,8)] [80]) ?_
 rintro ⟨j,hj⟩ B hB
 simp only [go_sem]
 by_cases e1:j<s.aP.l.length
 ·have e2:decide ((j:Int)<(s.aP.l.length:Int))=true:=by simp;omega
  have hx:nth (s.aP.l.map Lease.enc) j=Lease.enc (gL s.aP.l j):=bZ Lease.enc Lease.z e1
  have hw:=cZ (show j≤100000 by omega)
  have hm:j+1≤maxLen:=Nat.le_trans (show _≤10000 by omega) (by decide)
  have e3:List.map ai.enc (List.map Lease.msg (List.take j s.aP.l))++[[I (gL s.aP.l j).msg.id,I (gL s.aP.l j).msg.route,I (gL s.aP.l j).msg.epoch,I (gL s.aP.l j).msg.count,I (gL s.aP.l j).msg.gen,I (gL s.aP.l j).msg.sent,.v (.string (gL s.aP.l j).msg.body)]]=List.map ai.enc (List.map Lease.msg (List.take (j+1) s.aP.l)):=by
   rw [Dx Lease.z e1,List.map_append,List.map_append]
   rfl
  have e4:List.take j (List.map ai.enc (List.map Lease.msg (List.take j s.aP.l)))=List.map ai.enc (List.map Lease.msg (List.take j s.aP.l)):=bD (by simp only [List.length_map,List.length_take];omega)
  simp only [e2,hx,hw,e3,e4,Lease.enc,Int.toNat_natCast,List.length_map,List.length_take,Nat.min_eq_left hj,go_sem]
  repeat (refine bn ?_)
  exact hB _ ⟨j+1,e1⟩ (by simp only;omega) (wk [(8,8),(80,1120)] [])
 ·have e2:decide ((j:Int)<(s.aP.l.length:Int))=false:=by simp;omega
  have e5:j=s.aP.l.length:=by omega
  subst e5
  simp only [e2,go_sem]
  have e4:List.take s.aP.l.length (List.map ai.enc (List.map Lease.msg (List.take s.aP.l.length s.aP.l)))=List.map ai.enc s.fB:=by rw [List.take_length,bD (by simp only [List.length_map];omega)];rfl
  exact Fin.mk0 _ rfl rfl (by simp only [ay,rv,au,get,e4,go_sem];simp)
end Go.Eng
namespace Go.Eng
open Go Go.Proofs
def aj.sm (s:aj):Prop:=s.aP.l.length≤800∧s.aP.heap.length≤800
def gM (l:List ai) (i:Nat):ai:=l[i]?.getD ai.z
theorem zf (s:aj) (hs:s.sm):Fn Tryz.prog 440 [.agg s.enc] [] (.sl 7 (s.all.map ai.enc)) [] []:=by
 have hs1:=hs.1
 refine Fn.aN ajP (by simp) ?_
 unfold UF SC.mk' aj.enc
 simp only [go_sem]
 refine dh (xq s) rfl rfl ?_
 have hr:=s.ready.ug
 have hm:s.ready.list.length≤maxLen:=Nat.le_trans (show _≤10000 by omega) (by decide)
 have hL:s.fB.length=s.aP.l.length:=by unfold aj.fB;simp
 simp only [List.length_map,go_sem]
 repeat (refine bn ?_)
 refine dh (Xn s (by omega)) rfl rfl ?_
 have hm2:s.ready.list.length+s.fB.length≤maxLen:=Nat.le_trans (show _≤10000 by omega) (by decide)
 have e1:List.take s.ready.list.length s.ready.list=s.ready.list:=List.take_length
 simp only [List.length_map,jc,jh,mg,e1,go_sem]
 unfold aj.all
 by_cases hc:s.ready.list.length+s.fB.length≤s.ready.list.length
 ·have e2:s.fB=[]:=List.eq_nil_of_length_eq_zero (by omega)
  simp only [e2,List.length_nil,Nat.add_zero,Nat.le_refl,List.map_nil,List.nil_append,List.append_nil,if_true,jc,jh,mg,e1,go_sem]
  repeat (refine bn ?_)
  have e3:List.take s.ready.list.length (s.ready.list.map ai.enc)=s.ready.list.map ai.enc:=bD (by simp)
  exact Fin.mk0 _ rfl rfl (by simp [ay,rv,au,get,e3])
 ·simp only [hc,if_false,jc,jh,mg,e1,go_sem]
  repeat (refine bn ?_)
  refine Fin.mk0 _ rfl rfl ?_
  have e3:List.take (s.ready.list.length+s.fB.length) ((s.ready.list++s.fB).map ai.enc)=(s.ready.list++s.fB).map ai.enc:=bD (by simp)
  simp only [ay,rv,au,get,e3,List.length_map,List.length_append,go_sem]
  simp
theorem OI (s:aj) (hs:s.sm):s.all.length≤812:=by
 have:=hs.1;have:=s.ready.ug
 unfold aj.all aj.fB
 simp only [List.length_append,List.length_map];omega
theorem Be (s:aj) (hs:s.sm):Fn Tryz.prog 481 [.agg s.enc] [] (I s.val) [] []:=by
 have hs1:=hs.1
 have hs2:=hs.2
 generalize hR:s.val=R
 unfold aj.val at hR
 refine Fn.aN aj7 (by simp) ?_
 unfold UZ SC.mk' aj.enc
 simp only [go_sem]
 refine aO (anh s.ready) rfl rfl ?_
 simp only [go_sem]
 by_cases h1:s.ready.val≠0
 ·rw [if_pos h1] at hR
  have h1':(s.ready.val !=0)=true:=by simpa using h1
  simp only [h1',go_sem]
  exact Fin.mk0 _ rfl rfl (by rw [←hR];rfl)
 rw [if_neg h1] at hR
 have h1':(s.ready.val !=0)=false:=by simpa using h1
 simp only [h1',go_sem]
 refine aO (Dw s.aP (by omega) (by omega)) rfl rfl ?_
 simp only [go_sem]
 by_cases h2:s.aP.val≠0
 ·rw [if_pos h2] at hR
  have h2':(s.aP.val !=0)=true:=by simpa using h2
  simp only [h2',go_sem]
  exact Fin.mk0 _ rfl rfl (by rw [←hR];rfl)
 rw [if_neg h2] at hR
 have h2':(s.aP.val !=0)=false:=by simpa using h2
 have hsz:0≤s.ready.size∧s.ready.size≤12:=by
  obtain ⟨n,h',l,rg,e⟩:=Ring.val_zero (by simpa using h1)
  rw [e];unfold Ring.mk';simp only;have:=rg.n2;have:=rg.ll;omega
 have hw:IntKind.i64.wrap (s.ready.size+(s.aP.l.length:Int))=s.cnt:=by unfold aj.cnt;rw [bH (by omega)]
 simp only [h2',hw,go_sem]
 by_cases h3:s.live=true
 ·simp only [h3,Bool.not_true,Bool.false_eq_true,if_false] at hR
  simp only [h3,Bool.not_true,go_sem]
  refine aO (acu s.low s.high) rfl rfl ?_
  simp only [go_sem]
  by_cases h4:AA s.low s.high=true
  ·simp only [h4,Bool.not_true,Bool.false_eq_true,if_false] at hR
   simp only [h4,Bool.not_true,go_sem]
   by_cases h5:(s.ready.cells.length:Int)<s.cnt
   ·rw [if_pos h5] at hR
    simp only [h5,List.length_map,go_sem]
    exact Fin.mk0 _ rfl rfl (by rw [←hR];rfl)
   rw [if_neg h5] at hR
   simp only [h5,List.length_map,go_sem]
   have hF:=zf s hs
   simp only [aj.enc,h3] at hF
   refine aO hF rfl rfl ?_
   have hA:=OI s hs
   generalize s.all=A at hR hA
   simp only [go_sem]
   refine go_loop (fun j:{j:Nat // j≤A.length∧FM A s.low s.high (A.drop j)=R}=>⟨2000,[(1,.ptr 8 0),(6,.sl 7 (A.map ai.enc)),(7,I j.1)],[(8,.box [Bo true,I s.low,I s.high,.sl 7 (s.ready.cells.map ai.enc),I s.ready.head,I s.ready.size,.sl 8 (s.aP.l.map Lease.enc),.sl 2 (s.aP.heap.map Due.enc)])]⟩) (fun j=>A.length - j.1) ⟨0,by omega,hR⟩ (wk [(8,8)] []) ?_
   clear hR
   rintro ⟨j,hj,he⟩ B hB
   simp only [go_sem]
   by_cases e1:j<A.length
   ·have e2:decide ((j:Int)<(A.length:Int))=true:=by simp;omega
    rw [eP ai.z e1] at he
    simp only [FM,show A[j]?.getD ai.z=gM A j from rfl] at he
    have hx:nth (A.map ai.enc) j=ai.enc (gM A j):=bZ ai.enc ai.z e1
    have hw:=cZ (show j≤100000 by omega)
    simp only [e2,hx,ai.enc,Int.toNat_natCast,go_sem]
    by_cases h6:(gM A j).route<s.low
    ·simp only [h6,decide_true,Bool.true_or,if_true] at he
     simp only [h6,go_sem]
     repeat (refine bn ?_)
     exact Fin.mk0 _ rfl rfl (by rw [←he];rfl)
    by_cases h7:s.high<(gM A j).route
    ·simp only [h6,h7,decide_true,decide_false,Bool.or_true,if_true] at he
     simp only [h6,h7,hx,ai.enc,Int.toNat_natCast,go_sem]
     repeat (refine bn ?_)
     exact Fin.mk0 _ rfl rfl (by rw [←he];rfl)
    ·simp only [h6,h7,decide_false,Bool.or_false,Bool.false_eq_true,if_false] at he
     simp only [h6,h7,hw,hx,ai.enc,Int.toNat_natCast,go_sem]
     repeat (refine bn ?_)
     exact hB _ ⟨j+1,e1,he⟩ (by simp only;omega) (wk [(8,8)] [])
   have e2:decide ((j:Int)<(A.length:Int))=false:=by simp;omega
   rw [fF (by omega)] at he
   simp only [FM] at he
   simp only [e2,go_sem]
   refine go_loop (fun j:{j:Nat // j≤A.length∧FK A (A.drop j) j=R}=>⟨3000,[(6,.sl 7 (A.map ai.enc)),(8,I j.1)],[]⟩) (fun j=>A.length - j.1) ⟨0,by omega,he⟩ (wk [] []) ?_
   clear he e1 e2 hB
   rintro ⟨j,hj,he⟩ B hB
   simp only [go_sem]
   by_cases e1:j<A.length
   ·have e2:decide ((j:Int)<(A.length:Int))=true:=by simp;omega
    rw [eP ai.z e1] at he
    simp only [FK,show A[j]?.getD ai.z=gM A j from rfl] at he
    have hx:nth (A.map ai.enc) j=ai.enc (gM A j):=bZ ai.enc ai.z e1
    have hw:=cZ (show j≤100000 by omega)
    simp only [e2,hx,ai.enc,Int.toNat_natCast,go_sem]
    repeat (refine bn ?_)
    refine aO (yI A (gM A j).id (by omega)) rfl rfl ?_
    simp only [go_sem]
    by_cases h6:(gG A (gM A j).id !=(j:Int))=true
    ·rw [if_pos h6] at he
     simp only [h6,go_sem]
     exact Fin.mk0 _ rfl rfl (by rw [←he];rfl)
    ·rw [if_neg h6] at he
     simp only [Bool.not_eq_true] at h6
     simp only [h6,hw,go_sem]
     exact hB _ ⟨j+1,e1,he⟩ (by simp only;omega) (wk [] [])
   ·have e2:decide ((j:Int)<(A.length:Int))=false:=by simp;omega
    rw [fF (by omega)] at he
    simp only [FK] at he
    simp only [e2,go_sem]
    exact Fin.mk0 _ rfl rfl (by rw [←he];rfl)
  ·simp only [Bool.not_eq_true] at h4
   simp only [h4,Bool.not_false,if_true] at hR
   simp only [h4,Bool.not_false,go_sem]
   exact Fin.mk0 _ rfl rfl (by rw [←hR];rfl)
 ·simp only [Bool.not_eq_true] at h3
  simp only [h3,Bool.not_false,if_true] at hR
  simp only [h3,Bool.not_false,go_sem]
  by_cases h4:(s.low !=0)=true
  ·simp only [h4,Bool.true_or,if_true] at hR
   simp only [h4,go_sem]
   exact Fin.mk0 _ rfl rfl (by rw [←hR];rfl)
  simp only [Bool.not_eq_true] at h4
  by_cases h5:(s.high !=0)=true
  ·simp only [h4,h5,Bool.true_or,Bool.or_true,if_true] at hR
   simp only [h4,h5,go_sem]
   exact Fin.mk0 _ rfl rfl (by rw [←hR];rfl)
  simp only [Bool.not_eq_true] at h5
  by_cases h6:0<s.cnt
  ·simp only [h4,h5,h6,decide_true,Bool.true_or,Bool.or_true,if_true] at hR
   simp only [h4,h5,h6,go_sem]
   exact Fin.mk0 _ rfl rfl (by rw [←hR];rfl)
  ·simp only [h4,h5,h6,decide_false,Bool.or_false,Bool.false_eq_true,if_false] at hR
   simp only [h4,h5,h6,go_sem]
   exact Fin.mk0 _ rfl rfl (by rw [←hR];rfl)
theorem kQ (s:aj) (hs:s.sm):Fn Tryz.prog 421 [.agg s.enc] [] (I s.lv) [] []:=by
 generalize hR:s.lv=R
 unfold aj.lv at hR
 refine Fn.aN ajy (by simp) ?_
 unfold Ul SC.mk' aj.enc
 simp only [go_sem]
 refine aO (Be s hs) rfl rfl ?_
 simp only [go_sem]
 by_cases h1:s.val≠0
 ·rw [if_pos h1] at hR
  have h1':(s.val !=0)=true:=by simpa using h1
  simp only [h1',go_sem]
  exact Fin.mk0 _ rfl rfl (by rw [←hR];rfl)
 rw [if_neg h1] at hR
 have h1':(s.val !=0)=false:=by simpa using h1
 simp only [h1',go_sem]
 by_cases h3:s.live=true
 ·simp only [h3,Bool.not_true,Bool.false_eq_true,if_false] at hR
  simp only [h3,Bool.not_true,go_sem]
  exact Fin.mk0 _ rfl rfl (by rw [←hR];rfl)
 ·simp only [Bool.not_eq_true] at h3
  simp only [h3,Bool.not_false,if_true] at hR
  simp only [h3,Bool.not_false,go_sem]
  exact Fin.mk0 _ rfl rfl (by rw [←hR];rfl)
theorem OJ {s:aj} (h:s.lv=0):s.val=0∧s.live=true:=by
 unfold aj.lv at h
 split at h
 ·contradiction
 ·split at h
  ·omega
  ·rename_i h1 h2;exact ⟨by simpa using h1,by simpa using h2⟩
theorem qE {s:aj} (h:s.val=0):s.ready.val=0∧s.aP.val=0:=by
 unfold aj.val at h
 split at h
 ·contradiction
 ·split at h
  ·contradiction
  ·rename_i h1 h2;exact ⟨by simpa using h1,by simpa using h2⟩
theorem acv {r:Ring} (h:r.val=0):0≤r.size∧r.size≤12∧0≤r.head∧r.head≤12∧r.cells.length≤12∧1≤r.cells.length∧r.size≤r.cells.length∧r.list.length=r.size:=by
 obtain ⟨n,h',l,rg,e⟩:=Ring.val_zero h
 rw [e,Ring.acr rg];unfold Ring.mk';simp only [gV];have:=rg.n1;have:=rg.n2;have:=rg.ll;have:=rg.hh;refine ⟨?_,?_,?_,?_,?_,?_,?_,?_⟩<;>first|omega|trivial
theorem Xo {s:aj} (h:s.val=0):0≤s.cnt∧s.cnt≤24:=by
 have h1:=qE h
 have h2:=acv h1.1
 have h3:=Table.val_zero h1.2
 unfold aj.cnt;omega
theorem oQ (s:aj) (hs:s.sm):Fn Tryz.prog 410 [.agg s.enc] [] (I s.stored) [] []:=by
 generalize hR:s.stored=R
 unfold aj.stored at hR
 refine Fn.aN ajn (by simp) ?_
 unfold TY SC.mk' aj.enc
 simp only [go_sem]
 refine aO (kQ s hs) rfl rfl ?_
 simp only [go_sem]
 by_cases h1:s.lv≠0
 ·rw [if_pos h1] at hR
  have h1':(s.lv !=0)=true:=by simpa using h1
  simp only [h1',go_sem]
  exact Fin.mk0 _ rfl rfl (by rw [←hR];rfl)
 rw [if_neg h1] at hR
 have h1':(s.lv !=0)=false:=by simpa using h1
 have h2:=Xo (OJ (show s.lv=0 by simpa using h1)).1
 have hw:IntKind.i64.wrap (s.ready.size+(s.aP.l.length:Int))=s.cnt:=by unfold aj.cnt at h2 ⊢;rw [bH (by omega)]
 simp only [h1',hw,List.length_map,go_sem]
 exact Fin.mk0 _ rfl rfl (by rw [←hR];rfl)
theorem lG (s:aj) (r:Int) (hs:s.sm):Fn Tryz.prog 359 [.agg s.enc,I r] [] (Bo (s.owns r)) [] []:=by
 generalize hR:s.owns r=R
 unfold aj.owns at hR
 refine Fn.aN ajb (by simp) ?_
 unfold TI SC.mk' aj.enc
 simp only [go_sem]
 refine aO (kQ s hs) rfl rfl ?_
 simp only [go_sem]
 by_cases h1:(s.lv==0)=true
 ·simp only [h1,Bool.true_and] at hR
  simp only [h1,go_sem]
  by_cases h2:s.low≤r
  ·simp only [h2,decide_true,Bool.true_and] at hR
   simp only [h2,go_sem]
   exact Fin.mk0 _ rfl rfl (by rw [←hR];rfl)
  ·simp only [h2,decide_false,Bool.false_and] at hR
   simp only [h2,go_sem]
   exact Fin.mk0 _ rfl rfl (by rw [←hR];rfl)
 ·simp only [Bool.not_eq_true] at h1
  simp only [h1,Bool.false_and] at hR
  simp only [h1,go_sem]
  exact Fin.mk0 _ rfl rfl (by rw [←hR];rfl)
end Go.Eng
namespace Go.Eng
open Go Go.Proofs
theorem OL (m:ai) (k:Int):Fn Tryz.prog 485 [.agg m.enc,I k] [] (Bo (m.spent k)) [] []:=by
 refine Fn.aN akc (by simp) ?_
 unfold U6 SC.mk' ai.enc
 simp only [go_sem]
 have hJ:=trivial
 repeat' first
  |(first|refine sC ?_|refine sD ?_);simp only [hJ,go_sem]
  |(first|refine bF (fun hq=> ?_) (fun hq=> ?_)|refine dY (fun hq=> ?_) (fun hq=> ?_)|refine dL (fun hq=> ?_) (fun hq=> ?_))<;>simp only [hq,hJ,go_sem]
  |refine sM ?_;simp only [ay,rv,au,get,hJ,go_sem]
  |refine bn ?_
  |fail
 all_goals clear hJ
 all_goals simp_all [ai.spent]
theorem anl (m:ai) (e k:Int):Fn Tryz.prog 521 [.agg m.enc,I e,I k] [] (Bo (m.FI e k)) [] []:=by
 generalize hR:m.FI e k=R
 unfold ai.FI ai.iV at hR
 refine Fn.aN akD (by simp) ?_
 unfold VB SC.mk' ai.enc
 simp only [go_sem]
 have aI:=vg m e
 have aU:=OL m k
 exact aX
theorem anm {m:ai} (h:m.val=0):0≤m.count∧m.count≤8∧0≤m.gen∧m.gen≤65536∧0≤m.route∧m.route<65536∧1≤m.id∧m.id≤1073741824:=by
 unfold ai.val at h
 split at h
 ·rename_i hg
  simp only [ai.good,ve,Bool.and_eq_true,decide_eq_true_eq] at hg
  omega
 ·omega
theorem ann (m:ai):Fn Tryz.prog 522 [.agg m.enc] [] (.aF [.agg m.kM.1.enc,I m.kM.2]) [] []:=by
 generalize hR:m.kM=R
 unfold ai.kM at hR
 refine Fn.aN akE (by simp) ?_
 unfold VD SC.mk' ai.enc
 simp only [go_sem]
 refine aO (yG m) rfl rfl ?_
 simp only [go_sem]
 by_cases h1:m.val=0
 ·have hb:=anm h1
  rw [if_neg (by simpa using h1)] at hR
  have w1:IntKind.i64.wrap (m.gen+1)=m.gen+1:=bH (by omega)
  have w2:IntKind.i64.wrap (m.count+1)=m.count+1:=bH (by omega)
  exact aX
 ·rw [if_pos h1] at hR
  exact aX
theorem ano (s:aj) (h:Hd) (now ep:Int) (hs:s.sm):Fn Tryz.prog 524 [.agg s.enc,.agg h.enc,I now,I ep] [] (Bo (s.holds h now ep)) [] []:=by
 have hs1:=hs.1
 have hs2:=hs.2
 generalize hR:s.holds h now ep=R
 unfold aj.holds at hR
 refine Fn.aN akG (by simp) ?_
 unfold VF SC.mk' aj.enc Hd.enc
 simp only [go_sem]
 have aI:=kQ s hs
 have aU:=rV ep
 have bK:=Dy now
 have eF:=aci s.aP h.id (by omega) (by omega)
 have iw:=vg (s.aP.find' h.id).1.msg ep
 have hJ:=trivial
 repeat' first
  |(first|refine sC ?_|refine sD ?_);simp only [hJ,Lease.enc,go_sem]
  |(first|refine bF (fun hq=> ?_) (fun hq=> ?_)|refine dY (fun hq=> ?_) (fun hq=> ?_)|refine dL (fun hq=> ?_) (fun hq=> ?_))<;>simp only [hq,hJ,Lease.enc,go_sem]
  |refine sM ?_;simp only [ay,rv,au,get,hJ,Lease.enc,go_sem]
  |refine bn ?_
  |fail
 all_goals clear aI aU bK eF iw hJ
 all_goals simp_all [ai.iV]
theorem OM (s:aj) (h:Hd) (now ep:Int) (g:Bool) (hs:s.sm):Fn Tryz.prog 482 [.agg s.enc,.agg h.enc,I now,I ep,Bo g] [] (I (s.held h now ep g)) [] []:=by
 generalize hR:s.held h now ep g=R
 unfold aj.held at hR
 refine Fn.aN aj8 (by simp) ?_
 unfold U3 SC.mk' aj.enc Hd.enc
 simp only [go_sem]
 have aI:=kQ s hs
 have aU:=rV ep
 have bK:=Dy now
 have eF:=ano s h now ep hs
 exact aX
theorem anp (s:aj) (h:Hd) (now ep:Int) (hs:s.sm):Fn Tryz.prog 422 [.agg s.enc,.agg h.enc,I now,I ep] [] (.aF [.agg (s.AB h now ep).1.enc,I (s.AB h now ep).2]) [] []:=by
 have hs1:=hs.1
 have hs2:=hs.2
 generalize hR:s.AB h now ep=R
 unfold aj.AB at hR
 refine Fn.aN ajz (by simp) ?_
 unfold Um SC.mk' aj.enc Hd.enc
 simp only [go_sem]
 have aI:=OM s h now ep true hs
 have aU:=OD s.aP h.id (by omega) (by omega)
 have hJ:=Table.enc.eq_1
 exact aZ
end Go.Eng
namespace Go.Eng
open Go Go.Proofs
attribute [local go_sem] List.length_map
theorem anq {s:aj} {h:Hd} {now ep:Int} {g:Bool} (e:s.held h now ep g=0):s.lv=0∧jV ep=true∧ql now=true∧g=true∧s.holds h now ep=true:=by
 unfold aj.held at e
 split at e
 ·omega
 split at e
 ·omega
 split at e
 ·omega
 ·simp_all
theorem acw {n:Int} (h:ql n=true):0≤n∧n≤1073741824:=by simpa [ql] using h
theorem acy {n:Int} (h:rO n=true):0≤n∧n≤1000:=by simpa [rO] using h
theorem anr (s:aj) (h:Hd) (now ep li:Int) (hs:s.sm):Fn Tryz.prog 423 [.agg s.enc,.agg h.enc,I now,I ep,I li] [] (.aF [.agg (s.AL h now ep li).1.enc,I (s.AL h now ep li).2]) [] []:=by
 have hs1:=hs.1
 have hs2:=hs.2
 generalize hR:s.AL h now ep li=R
 unfold aj.AL at hR
 refine Fn.aN ajA (by simp) ?_
 unfold Un SC.mk' aj.enc Hd.enc
 simp only [go_sem]
 have aI:=xk li
 have aU:=OM s h now ep (lC li) hs
 have bK:=OD s.aP h.id (by omega) (by omega)
 have eF:=OL (s.aP.release h.id).2.1 li
 have iw:=OE s.ready (s.aP.release h.id).2.1
 have oG:=anj s.ready (s.aP.release h.id).2.1
 have hJ:=ah Table.enc.eq_1 (ah Ring.enc.eq_1 ai.enc.eq_1)
 exact aZ
theorem ant (s:aj) (h:Hd) (now ep vis:Int) (hs:s.sm):Fn Tryz.prog 424 [.agg s.enc,.agg h.enc,I now,I ep,I vis] [] (.aF [.agg (s.change h now ep vis).1.enc,I (s.change h now ep vis).2]) [] []:=by
 have hs1:=hs.1
 have hs2:=hs.2
 generalize hR:s.change h now ep vis=R
 unfold aj.change at hR
 refine Fn.aN ajB (by simp) ?_
 unfold Uo SC.mk' aj.enc Hd.enc
 simp only [go_sem]
 by_cases e:s.held h now ep (rO vis)=0
 ·have e1:=anq e
  have e2:=acw e1.2.2.1
  have e3:=acy e1.2.2.2.1
  have w:IntKind.i64.wrap (now+vis)=now+vis:=bH (by omega)
  have aI:=OG vis
  have aU:=OM s h now ep (rO vis) hs
  have bK:=anf s.aP h.id (now+vis) (by omega) (by omega)
  have hJ:=ah w (ah Table.enc.eq_1 (ah Ring.enc.eq_1 ai.enc.eq_1))
  exact aZ
 ·have aI:=OG vis
  have aU:=OM s h now ep (rO vis) hs
  exact aX
theorem acz (s:aj) (m:ai) (hs:s.sm):Fn Tryz.prog 415 [.agg s.enc,.agg m.enc] [] (.aF [.agg (s.put m).1.enc,I (s.put m).2]) [] []:=by
 have hA:=OI s hs
 generalize hR:s.put m=R
 unfold aj.put at hR
 refine Fn.aN ajs (by simp) ?_
 unfold Uf SC.mk' aj.enc
 simp only [ai.enc,go_sem]
 have aI:=kQ s hs
 have aU:=yG m
 have bK:=oQ s hs
 have eF:=zf s hs
 have iw:=yI s.all m.id (by omega)
 have oG:=OE s.ready m
 have hJ:=Ring.enc.eq_1
 exact aZ
theorem anu (s:aj) (k:Int) (hs:s.sm):Fn Tryz.prog 432 [.agg s.enc,I k] [] (.aF [.agg (s.jg k).1.enc,.sl 7 ((s.jg k).2.1.map ai.enc),I (s.jg k).2.2]) [] []:=by
 generalize hR:s.jg k=R
 unfold aj.jg at hR
 refine Fn.aN ajI (by simp) ?_
 unfold Uy SC.mk' aj.enc
 simp only [go_sem]
 have aI:=kQ s hs
 have aU:=ank s.ready k
 have hJ:=Ring.enc.eq_1
 exact aZ
theorem Xp (m:ai) (lo hi:Int):Fn Tryz.prog 429 [.agg m.enc,I lo,I hi] [] (.agg (m.rM lo hi).enc) [] []:=by
 refine Fn.aN ajG (by simp) ?_
 unfold Uw SC.mk' ai.enc
 simp only [go_sem]
 have aI:=aa4 m.route lo hi
 have hJ:=trivial
 repeat' first
  |(first|refine sC ?_|refine sD ?_);simp only [hJ,go_sem]
  |(first|refine bF (fun hq=> ?_) (fun hq=> ?_)|refine dY (fun hq=> ?_) (fun hq=> ?_)|refine dL (fun hq=> ?_) (fun hq=> ?_))<;>simp only [hq,hJ,go_sem]
  |refine sM ?_;simp only [ay,rv,au,get,hJ,go_sem]
  |refine bn ?_
  |fail
 all_goals clear aI hJ
 all_goals simp_all [ai.rM]
theorem acA (m:ai):Fn Tryz.prog 428 [.agg m.enc] [] (.agg m.iQ.enc) [] []:=by
 refine Fn.aN ajF (by simp) ?_
 unfold Uu SC.mk' ai.enc
 simp only [go_sem]
 have hJ:=trivial
 repeat' first
  |(first|refine sC ?_|refine sD ?_);simp only [hJ,go_sem]
  |(first|refine bF (fun hq=> ?_) (fun hq=> ?_)|refine dY (fun hq=> ?_) (fun hq=> ?_)|refine dL (fun hq=> ?_) (fun hq=> ?_))<;>simp only [hq,hJ,go_sem]
  |refine sM ?_;simp only [ay,rv,au,get,hJ,go_sem]
  |refine bn ?_
  |fail
 all_goals clear hJ
 all_goals simp_all [ai.iQ]
theorem anv (id ro ep now:Int) (b:ByteArray):Fn Tryz.prog 413 [I id,I ro,I ep,I now,.v (.string b)] [] (.aF [.agg (ai.new id ro ep now b).1.enc,I (ai.new id ro ep now b).2]) [] []:=by
 generalize hR:ai.new id ro ep now b=R
 unfold ai.new at hR
 refine Fn.aN ajq (by simp) ?_
 unfold Ud SC.mk' ai.enc
 simp only [go_sem]
 have aI:=yG ⟨id,ro,ep,0,0,now,b⟩
 exact aX
end Go.Eng
namespace Go.Eng
open Go Go.Proofs
theorem Dz (t:Table) (id:Int):(t.release id).1.l.length≤t.l.length∧(t.release id).1.heap.length≤t.heap.length:=by
 unfold Table.release
 split
 ·exact ⟨Nat.zero_le _,Nat.zero_le _⟩
 ·split
  ·exact ⟨Nat.zero_le _,Nat.zero_le _⟩
  ·exact ⟨List.length_eraseIdx_le ..,Xk _ _⟩
theorem OO (t:Table) (m:ai) (dl:Int):(t.grant m dl).1.l.length≤t.l.length+1∧(t.grant m dl).1.heap.length≤t.heap.length+1:=by
 unfold Table.grant
 repeat' split
 all_goals first|exact ⟨Nat.zero_le _,Nat.zero_le _⟩|skip
 refine ⟨?_,Xj _ _⟩
 simp;omega
theorem acB (t:Table) (now ep:Int):(t.yR now ep).length≤13:=by
 have key:∀ l:List Int,(yQ t ep l).length≤l.length:=by
  intro l
  induction l with
  |nil=>exact Nat.le_refl _
  |cons x r ih=>simp only [yQ];split<;>simp<;>omega
 have k2:∀ (f:Nat) (h:List Due),(lu now f h).length≤f:=by
  intro f
  induction f with
  |zero=>intro h;exact Nat.le_refl _
  |succ f ih=>
   intro h;rw [lu];split;· simp only [List.length_cons];have:=ih (rJ h 0);omega
   ·exact Nat.zero_le _
 unfold Table.yR
 split
 ·exact Nat.zero_le _
 ·exact Nat.le_trans (key _) (k2 _ _)
theorem acC (s:aj) (now ep li:Int) (hs:s.sm):Fn Tryz.prog 447 [.agg s.enc,I now,I ep,I li] [] (.aF [.agg (s.expire now ep li).1.enc,.sl 1 (encI (s.expire now ep li).2.1),I (s.expire now ep li).2.2]) [] []:=by
 have hs1:=hs.1
 have hs2:=hs.2
 generalize hR:s.expire now ep li=R
 unfold aj.expire at hR
 refine Fn.aN ajV (by simp) ?_
 unfold UL SC.mk' aj.enc
 simp only [go_sem]
 by_cases h0:s.lv≠0∨jV ep=false∨lC li=false∨ql now=false
 ·have aI:=kQ s hs
  have aU:=rV ep
  have bK:=xk li
  have eF:=Dy now
  exact aX
 rw [if_neg (fun h=>h0 (.inl h)),if_neg (fun h=>h0 (.inr h))] at hR
 have g1:s.lv=0:=by simpa using fun h=>h0 (.inl h)
 have g2:jV ep=true:=by simpa using fun h=>h0 (.inr (.inl h))
 have g3:lC li=true:=by simpa using fun h=>h0 (.inr (.inr (.inl h)))
 have g4:ql now=true:=by simpa using fun h=>h0 (.inr (.inr (.inr h)))
 refine aO (kQ s hs) rfl rfl ?_
 simp only [g1,go_sem]
 refine aO (rV ep) rfl rfl ?_
 simp only [g2,Bool.not_true,go_sem]
 refine aO (xk li) rfl rfl ?_
 simp only [g3,Bool.not_true,go_sem]
 refine aO (Dy now) rfl rfl ?_
 simp only [g4,Bool.not_true,go_sem]
 refine aO (ang s.aP now ep (by omega) (by omega)) rfl rfl ?_
 have hl:=acB s.aP now ep
 generalize s.aP.yR now ep=D at hR hl
 simp only [go_sem]
 refine go_loop (fun x:{x:Nat×aj // x.1≤D.length∧x.2.sm∧AO (D.drop x.1) x.2=R.1}=>⟨3000,[(4,.ptr 8 0),(8,.ptr 16 0),(12,.sl 1 (encI D)),(13,I x.1.1)],[(8,.box [Bo x.1.2.live,I x.1.2.low,I x.1.2.high,.sl 7 (x.1.2.ready.cells.map ai.enc),I x.1.2.ready.head,I x.1.2.ready.size,.sl 8 (x.1.2.aP.l.map Lease.enc),.sl 2 (x.1.2.aP.heap.map Due.enc)]),(16,.box [Bo false,I 0,I 0,Nl,I 0,I 0,Nl,Nl])]⟩) (fun x=>D.length - x.1.1) ⟨(0,s),by omega,hs,by rw [←hR];rfl⟩ (wk [(8,8),(16,16)] []) ?_
 rintro ⟨⟨j,s'⟩,hj,hs',he⟩ B hB
 simp only at hj hs' he
 have hs1:=hs'.1
 have hs2:=hs'.2
 simp only [go_sem]
 by_cases e1:j<D.length
 ·have e2:decide ((j:Int)<(D.length:Int))=true:=by simp;omega
  rw [eP 0 e1] at he
  simp only [AO] at he
  have hx:nth (encI D) j=[I (D[j]?.getD 0)]:=bZ (fun z=>[I z]) 0 e1
  have hw:=cZ (show j≤100000 by omega)
  have hl2:=Dz s'.aP (D[j]?.getD 0)
  generalize D[j]?.getD 0=id at hx he hl2
  simp only [e2,hx,Int.toNat_natCast,go_sem]
  repeat (refine bn ?_)
  refine dh (OD s'.aP id (by omega) (by omega)) rfl rfl ?_
  simp only [Table.enc,ai.enc,go_sem]
  repeat (refine bn ?_)
  refine aO (OE s'.ready (s'.aP.release id).2.1) rfl rfl ?_
  simp only [Ring.enc,hw,go_sem]
  exact hB _ ⟨(j+1,_),by simp only;omega,⟨by simp only;omega,by simp only;omega⟩,he⟩ (by simp only;omega) (wk [(8,8),(16,16)] [])
 ·have e2:decide ((j:Int)<(D.length:Int))=false:=by simp;omega
  rw [fF (by omega)] at he
  simp only [AO] at he
  simp only [e2,go_sem]
  exact Fin.mk0 _ rfl rfl (by rw [←hR] at he ⊢;simp only at he ⊢;rw [←he];simp only [ay,rv,au,get,aj.enc,go_sem])
end Go.Eng
