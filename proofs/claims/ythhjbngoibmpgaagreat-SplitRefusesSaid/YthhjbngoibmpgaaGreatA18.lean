/-
  Part of a proof: lemmas and definitions of this work.
  No condition.
-/
import Derived.Test.YthhjbngoibmpgaaGreatA08
import Derived.Test.YthhjbngoibmpgaaGreatA17
set_option linter.all false
set_option maxRecDepth 100000
set_option maxHeartbeats 8000000
namespace Go.Eng
open Go Go.Proofs
theorem Bj {α:Type} (z:α) {l:List α} {j:Nat} (h:j<l.length):l.take (j+1)=l.take j++[l[j]?.getD z]:=by
 rw [List.take_succ_eq_append_getElem h];simp [h]
theorem Ring.val_zero {r:Ring} (h:r.val=0):∃ n h' l,Rg n h' l/\r=Ring.mk' n h' l:=by
 obtain ⟨cs,hd,s⟩:=r
 obtain ⟨n,h',l,rg,rfl,rfl,rfl⟩:=yM h
 exact ⟨n,h',l,rg,rfl⟩
theorem Ring.acv {n h:Nat} {l:List ai} (rg:Rg n h l):(Ring.mk' n h l).list=l:=by
 unfold Ring.list yL Ring.mk'
 simp only
 rw [if_neg (fun e=>e rg.ok)]
 simp only [Int.toNat_natCast,uM rg.ll rg.hh]
theorem alP (r:Ring):Fn Tryz.prog 247 [.agg r.enc] [] (I r.val) [] []:=Dk r.cells r.head r.size
theorem alQ (r:Ring):Fn Tryz.prog 163 [.agg r.enc] [] (.sl 7 (r.list.map ai.enc)) [] []:=akx r.cells r.head r.size
theorem acw (k:Int):Fn Tryz.prog 224 [I k] [] (.aF [.agg (Ring.new k).1.enc,I (Ring.new k).2]) [] []:=by
 have h:=aku k
 have e:newR k= .aF [.agg (Ring.new k).1.enc,I (Ring.new k).2]:=by
  unfold newR Ring.new
  repeat' split
  all_goals rfl
 rwa [e] at h
theorem Nw (r:Ring) (m:ai):Fn Tryz.prog 181 [.agg r.enc,.agg m.enc] [] (.aF [.agg (r.uR m).1.enc,I (r.uR m).2]) [] []:=by
 have h:=aks r.cells r.head r.size m
 have e:M0 r.cells r.head r.size m= .aF [.agg (r.uR m).1.enc,I (r.uR m).2]:=by
  unfold M0 Ring.uR Ring.room
  split<;>rfl
 rwa [e] at h
theorem alR (r:Ring) (m:ai):Fn Tryz.prog 243 [.agg r.enc,.agg m.enc] [] (.aF [.agg (r.Bc m).1.enc,I (r.Bc m).2]) [] []:=by
 have h:=akt r.cells r.head r.size m
 have e:M4 r.cells r.head r.size m= .aF [.agg (r.Bc m).1.enc,I (r.Bc m).2]:=by
  unfold M4 Ring.Bc Ring.room
  split<;>rfl
 rwa [e] at h
theorem Ws (r:Ring) (id:Int):Fn Tryz.prog 422 [.agg r.enc,I id] [] (.aF [.agg (r.remove id).1.enc,.agg (r.remove id).2.1.enc,I (r.remove id).2.2]) [] []:=by
 have h:=aky r.cells r.head r.size id
 have e:M5 r.cells r.head r.size id= .aF [.agg (r.remove id).1.enc,.agg (r.remove id).2.1.enc,I (r.remove id).2.2]:=by
  unfold M5 Ring.remove
  by_cases h0:r.val=0
  ·have e1:r.list=fE r.cells r.head.toNat r.size.toNat:=by unfold Ring.list yL;rw [if_neg (fun h=>h h0)]
   have h0':eZ r.cells r.head r.size=0:=h0
   rw [if_neg (show ¬ eZ r.cells r.head r.size≠0 from fun h=>h h0'),if_neg (show ¬ r.val≠0 from fun h=>h h0),e1]
   split<;>rfl
  ·have h0':eZ r.cells r.head r.size≠0:=h0
   rw [if_pos h0',if_pos h0];rfl
 rwa [e] at h
theorem alS (r:Ring) (k:Int):Fn Tryz.prog 420 [.agg r.enc,I k] [] (.aF [.agg (r.iF k).1.enc,.sl 7 ((r.iF k).2.1.map ai.enc),I (r.iF k).2.2]) [] []:=by
 have h:=akz r.cells r.head r.size k
 have e:M6 r.cells r.head r.size k= .aF [.agg (r.iF k).1.enc,.sl 7 ((r.iF k).2.1.map ai.enc),I (r.iF k).2.2]:=by
  unfold M6 Ring.iF
  by_cases h0:r.val=0
  ·have e1:r.list=fE r.cells r.head.toNat r.size.toNat:=by unfold Ring.list yL;rw [if_neg (fun h=>h h0)]
   have h0':eZ r.cells r.head r.size=0:=h0
   rw [if_neg (show ¬ eZ r.cells r.head r.size≠0 from fun h=>h h0'),if_neg (show ¬ r.val≠0 from fun h=>h h0)]
   by_cases h1:k<0
   ·rw [if_pos h1,if_pos (.inl h1)];rfl
   by_cases h2:r.size<k
   ·rw [if_neg h1,if_pos h2,if_pos (.inr h2)];rfl
   ·rw [if_neg h1,if_neg h2,if_neg (by omega),e1,wK];rfl
  ·have h0':eZ r.cells r.head r.size≠0:=h0
   rw [if_pos h0',if_pos h0];rfl
 rwa [e] at h
theorem Ring.rz (r:Ring):r.list.length<=12:=by
 by_cases h:r.val=0
 ·obtain ⟨n,h',l,rg,rfl⟩:=Ring.val_zero h
  rw [Ring.acv rg]
  have:=rg.n2;have:=rg.ll;omega
 ·unfold Ring.list yL;rw [if_pos (show eZ r.cells r.head r.size≠0 from h)];exact Nat.zero_le _
theorem acy (a b:Int):Fn Tryz.prog 225 [I a,I b] [] (Bo (yR a b)) [] []:=by
 refine Fn.aO Mw (by simp) ?_
 unfold SE SC.mk'
 simp only [go_sem]
 repeat' first|refine dD (fun h1=> ?_) (fun h1=> ?_)<;>simp only [h1,go_sem]|refine bC (fun h1=> ?_) (fun h1=> ?_)<;>simp only [h1,go_sem]|refine Fin.bI _ rfl rfl rfl ?_
 all_goals (simp_all [yR,ay]<;>omega)
theorem qp (a:Int):Fn Tryz.prog 326 [I a] [] (Bo (jy a)) [] []:=by
 refine Fn.aO Uq (by simp) ?_
 unfold Uo SC.mk'
 simp only [go_sem]
 repeat' first|refine dD (fun h1=> ?_) (fun h1=> ?_)<;>simp only [h1,go_sem]|refine bC (fun h1=> ?_) (fun h1=> ?_)<;>simp only [h1,go_sem]|refine Fin.bI _ rfl rfl rfl ?_
 all_goals (simp_all [jy,ay]<;>omega)
theorem u7 (a:Int):Fn Tryz.prog 241 [I a] [] (Bo (kD a)) [] []:=by
 refine Fn.aO SN (by simp) ?_
 unfold SL SC.mk'
 simp only [go_sem]
 repeat' first|refine dD (fun h1=> ?_) (fun h1=> ?_)<;>simp only [h1,go_sem]|refine bC (fun h1=> ?_) (fun h1=> ?_)<;>simp only [h1,go_sem]|refine Fin.bI _ rfl rfl rfl ?_
 all_goals (simp_all [kD,ay]<;>omega)
theorem Bl (a:Int):Fn Tryz.prog 327 [I a] [] (Bo (oH a)) [] []:=by
 refine Fn.aO ai1 (by simp) ?_
 unfold Ur SC.mk'
 simp only [go_sem]
 repeat' first|refine dD (fun h1=> ?_) (fun h1=> ?_)<;>simp only [h1,go_sem]|refine bC (fun h1=> ?_) (fun h1=> ?_)<;>simp only [h1,go_sem]|refine Fin.bI _ rfl rfl rfl ?_
 all_goals (simp_all [oH,ay]<;>omega)
theorem Ny (a:Int):Fn Tryz.prog 244 [I a] [] (Bo (qj a)) [] []:=by
 refine Fn.aO aiP (by simp) ?_
 unfold SX SC.mk'
 simp only [go_sem]
 repeat' first|refine dD (fun h1=> ?_) (fun h1=> ?_)<;>simp only [h1,go_sem]|refine bC (fun h1=> ?_) (fun h1=> ?_)<;>simp only [h1,go_sem]|refine Fin.bI _ rfl rfl rfl ?_
 all_goals (simp_all [qj,ay]<;>omega)
theorem Wt (cap lo hi:Int):Fn Tryz.prog 144 [I cap,I lo,I hi] [] (.aF [.agg (ak.new cap lo hi).1.enc,I (ak.new cap lo hi).2]) [] []:=by
 refine Fn.aO Mi (by simp) ?_
 unfold Ri SC.mk' ak.enc ak.new
 simp only [go_sem]
 refine aQ (acw cap) rfl rfl ?_
 simp only [Ring.enc,go_sem]
 by_cases h1:(Ring.new cap).2=0
 ·simp only [h1,ne_eq,not_true_eq_false,if_false,go_sem]
  refine aQ (acy lo hi) rfl rfl ?_
  simp only [go_sem]
  by_cases h2:yR lo hi=true
  ·simp only [h2,Bool.not_true,Bool.not_false,Bool.false_eq_true,if_false,go_sem]
   exact Fin.aD _ rfl rfl (by simp [ay,rv,au,Ring.enc])
  ·simp only [Bool.not_eq_true] at h2
   simp only [h2,Bool.not_true,Bool.not_false,if_true,go_sem]
   exact Fin.aD _ rfl rfl (by simp [ay,rv,au])
 ·have h1':((Ring.new cap).2 !=0)=true:=by simpa using h1
  simp only [h1',if_pos h1,go_sem]
  exact Fin.aD _ rfl rfl (by simp [ay,rv,au])
theorem Nz (cap:Int):Fn Tryz.prog 143 [I cap] [] (.aF [.agg (ak.free cap).1.enc,I (ak.free cap).2]) [] []:=by
 refine Fn.aO Mh (by simp) ?_
 unfold Rh SC.mk' ak.enc ak.free
 simp only [go_sem]
 refine aQ (acw cap) rfl rfl ?_
 simp only [Ring.enc,go_sem]
 by_cases h1:(Ring.new cap).2=0
 ·simp only [h1,ne_eq,not_true_eq_false,if_false,go_sem]
  exact Fin.aD _ rfl rfl (by simp [ay,rv,au,Ring.enc])
 ·have h1':((Ring.new cap).2 !=0)=true:=by simpa using h1
  simp only [h1',if_pos h1,go_sem]
  exact Fin.aD _ rfl rfl (by simp [ay,rv,au])
theorem ve (s:ak):Fn Tryz.prog 102 [.agg s.enc] [] (.sl 7 (s.ready.list.map ai.enc)) [] []:=by
 refine Fn.aO QU (by simp) ?_
 unfold QT SC.mk' ak.enc
 simp only [go_sem]
 refine aQ (alQ s.ready) rfl rfl ?_
 simp only [go_sem]
 exact Fin.aD _ rfl rfl (by simp [ay,rv,au])
theorem Wu (s:ak) (hl:s.aR.l.length<=1000):Fn Tryz.prog 103 [.agg s.enc] [] (.sl 7 (s.eF.map ai.enc)) [] []:=by
 refine Fn.aO QW (by simp) ?_
 unfold QV SC.mk' ak.enc
 simp only [go_sem]
 refine go_loop (fun j:{j:Nat // j<=s.aR.l.length}=>⟨1000,[(1,.ptr 8 0),(3,.own 80 7 0 j.1),(4,I j.1)],[(8,.box [Bo s.live,I s.low,I s.high,.sl 7 (s.ready.cells.map ai.enc),I s.ready.head,I s.ready.size,.sl 8 (s.aR.l.map Lease.enc),.sl 2 (s.aR.heap.map Due.enc)]),(80,.row 123 7 (((s.aR.l.take j.1).map Lease.msg).map ai.enc))]⟩) (fun j=>s.aR.l.length - j.1) ⟨0,by omega⟩ (wk [(8,8)] [80]) ?_
 rintro ⟨j,hj⟩ B hB
 simp only [go_sem]
 by_cases e1:j<s.aR.l.length
 ·have e2:decide ((j:Int)<(s.aR.l.length:Int))=true:=by simp;omega
  have hx:nth (s.aR.l.map Lease.enc) j=Lease.enc (gL s.aR.l j):=bS Lease.enc Lease.z e1
  have hw:=bT (show j<=100000 by omega)
  have hm:j+1<=maxLen:=Nat.le_trans (show _<=10000 by omega) (by decide)
  have e3:List.map ai.enc (List.map Lease.msg (List.take j s.aR.l))++[[I (gL s.aR.l j).msg.id,I (gL s.aR.l j).msg.route,I (gL s.aR.l j).msg.epoch,I (gL s.aR.l j).msg.count,I (gL s.aR.l j).msg.gen,I (gL s.aR.l j).msg.sent,.v (.string (gL s.aR.l j).msg.body)]]=List.map ai.enc (List.map Lease.msg (List.take (j+1) s.aR.l)):=by
   rw [Bj Lease.z e1,List.map_append,List.map_append]
   rfl
  have e4:List.take j (List.map ai.enc (List.map Lease.msg (List.take j s.aR.l)))=List.map ai.enc (List.map Lease.msg (List.take j s.aR.l)):=bA (by simp only [List.length_map,List.length_take];omega)
  simp only [e2,hx,hw,e3,e4,Lease.enc,Int.toNat_natCast,List.length_map,List.length_take,Nat.min_eq_left hj,go_sem]
  repeat (refine bn ?_)
  exact hB _ ⟨j+1,e1⟩ (by simp only;omega) (wk [(8,8),(80,1120)] [])
 ·have e2:decide ((j:Int)<(s.aR.l.length:Int))=false:=by simp;omega
  have e5:j=s.aR.l.length:=by omega
  subst e5
  simp only [e2,go_sem]
  have e4:List.take s.aR.l.length (List.map ai.enc (List.map Lease.msg (List.take s.aR.l.length s.aR.l)))=List.map ai.enc s.eF:=by rw [List.take_length,bA (by simp only [List.length_map];omega)];rfl
  exact Fin.aD _ rfl rfl (by simp only [ay,rv,au,get,e4,go_sem];simp)
def ak.sm (s:ak):Prop:=s.aR.l.length<=800/\s.aR.heap.length<=800
def gM (l:List ai) (i:Nat):ai:=l[i]?.getD ai.z
theorem xh (s:ak) (hs:s.sm):Fn Tryz.prog 43 [.agg s.enc] [] (.sl 7 (s.all.map ai.enc)) [] []:=by
 have hs1:=hs.1
 refine Fn.aO Qk (by simp) ?_
 unfold s43 SC.mk' ak.enc
 simp only [go_sem]
 refine bX (ve s) rfl rfl ?_
 have hr:=s.ready.rz
 have hm:s.ready.list.length<=maxLen:=Nat.le_trans (show _<=10000 by omega) (by decide)
 have hL:s.eF.length=s.aR.l.length:=by unfold ak.eF;simp
 simp only [List.length_map,go_sem]
 repeat (refine bn ?_)
 refine bX (Wu s (by omega)) rfl rfl ?_
 have hm2:s.ready.list.length+s.eF.length<=maxLen:=Nat.le_trans (show _<=10000 by omega) (by decide)
 have e1:List.take s.ready.list.length s.ready.list=s.ready.list:=List.take_length
 simp only [List.length_map,iB,iG,kX,e1,go_sem]
 unfold ak.all
 by_cases hc:s.ready.list.length+s.eF.length<=s.ready.list.length
 ·have e2:s.eF=[]:=List.eq_nil_of_length_eq_zero (by omega)
  simp only [e2,List.length_nil,Nat.add_zero,Nat.le_refl,List.map_nil,List.nil_append,List.append_nil,if_true,iB,iG,kX,e1,go_sem]
  repeat (refine bn ?_)
  have e3:List.take s.ready.list.length (s.ready.list.map ai.enc)=s.ready.list.map ai.enc:=bA (by simp)
  exact Fin.aD _ rfl rfl (by simp [ay,rv,au,get,e3])
 ·simp only [hc,if_false,iB,iG,kX,e1,go_sem]
  repeat (refine bn ?_)
  refine Fin.aD _ rfl rfl ?_
  have e3:List.take (s.ready.list.length+s.eF.length) ((s.ready.list++s.eF).map ai.enc)=(s.ready.list++s.eF).map ai.enc:=bA (by simp)
  simp only [ay,rv,au,get,e3,List.length_map,List.length_append,go_sem]
  simp
theorem NA (s:ak) (hs:s.sm):s.all.length<=812:=by
 have:=hs.1;have:=s.ready.rz
 unfold ak.all ak.eF
 simp only [List.length_append,List.length_map];omega
theorem zi (s:ak) (hs:s.sm):Fn Tryz.prog 238 [.agg s.enc] [] (I s.val) [] []:=by
 have hs1:=hs.1
 have hs2:=hs.2
 generalize hR:s.val=R
 unfold ak.val at hR
 refine Fn.aO SH (by simp) ?_
 unfold SG SC.mk' ak.enc
 simp only [go_sem]
 refine aQ (alP s.ready) rfl rfl ?_
 simp only [go_sem]
 by_cases h1:s.ready.val≠0
 ·rw [if_pos h1] at hR
  have h1':(s.ready.val !=0)=true:=by simpa using h1
  simp only [h1',go_sem]
  exact Fin.aD _ rfl rfl (by rw [<-hR];rfl)
 rw [if_neg h1] at hR
 have h1':(s.ready.val !=0)=false:=by simpa using h1
 simp only [h1',go_sem]
 refine aQ (Bh s.aR (by omega) (by omega)) rfl rfl ?_
 simp only [go_sem]
 by_cases h2:s.aR.val≠0
 ·rw [if_pos h2] at hR
  have h2':(s.aR.val !=0)=true:=by simpa using h2
  simp only [h2',go_sem]
  exact Fin.aD _ rfl rfl (by rw [<-hR];rfl)
 rw [if_neg h2] at hR
 have h2':(s.aR.val !=0)=false:=by simpa using h2
 have hsz:0<=s.ready.size/\s.ready.size<=12:=by
  obtain ⟨n,h',l,rg,e⟩:=Ring.val_zero (by simpa using h1)
  rw [e];unfold Ring.mk';simp only;have:=rg.n2;have:=rg.ll;omega
 have hw:IntKind.i64.wrap (s.ready.size+(s.aR.l.length:Int))=s.cnt:=by unfold ak.cnt;rw [bE (by omega)]
 simp only [h2',hw,go_sem]
 by_cases h3:s.live=true
 ·simp only [h3,Bool.not_true,Bool.false_eq_true,if_false] at hR
  simp only [h3,Bool.not_true,go_sem]
  refine aQ (acy s.low s.high) rfl rfl ?_
  simp only [go_sem]
  by_cases h4:yR s.low s.high=true
  ·simp only [h4,Bool.not_true,Bool.false_eq_true,if_false] at hR
   simp only [h4,Bool.not_true,go_sem]
   by_cases h5:(s.ready.cells.length:Int)<s.cnt
   ·rw [if_pos h5] at hR
    simp only [h5,List.length_map,go_sem]
    exact Fin.aD _ rfl rfl (by rw [<-hR];rfl)
   rw [if_neg h5] at hR
   simp only [h5,List.length_map,go_sem]
   have hF:=xh s hs
   simp only [ak.enc,h3] at hF
   refine aQ hF rfl rfl ?_
   have hA:=NA s hs
   generalize s.all=A at hR hA
   simp only [go_sem]
   refine go_loop (fun j:{j:Nat // j<=A.length/\Dv A s.low s.high (A.drop j)=R}=>⟨2000,[(1,.ptr 8 0),(6,.sl 7 (A.map ai.enc)),(7,I j.1)],[(8,.box [Bo true,I s.low,I s.high,.sl 7 (s.ready.cells.map ai.enc),I s.ready.head,I s.ready.size,.sl 8 (s.aR.l.map Lease.enc),.sl 2 (s.aR.heap.map Due.enc)])]⟩) (fun j=>A.length - j.1) ⟨0,by omega,hR⟩ (wk [(8,8)] []) ?_
   clear hR
   rintro ⟨j,hj,he⟩ B hB
   simp only [go_sem]
   by_cases e1:j<A.length
   ·have e2:decide ((j:Int)<(A.length:Int))=true:=by simp;omega
    rw [eB ai.z e1] at he
    simp only [Dv,show A[j]?.getD ai.z=gM A j from rfl] at he
    have hx:nth (A.map ai.enc) j=ai.enc (gM A j):=bS ai.enc ai.z e1
    have hw:=bT (show j<=100000 by omega)
    simp only [e2,hx,ai.enc,Int.toNat_natCast,go_sem]
    by_cases h6:(gM A j).route<s.low
    ·simp only [h6,decide_true,Bool.true_or,if_true] at he
     simp only [h6,go_sem]
     repeat (refine bn ?_)
     exact Fin.aD _ rfl rfl (by rw [<-he];rfl)
    by_cases h7:s.high<(gM A j).route
    ·simp only [h6,h7,decide_true,decide_false,Bool.or_true,if_true] at he
     simp only [h6,h7,hx,ai.enc,Int.toNat_natCast,go_sem]
     repeat (refine bn ?_)
     exact Fin.aD _ rfl rfl (by rw [<-he];rfl)
    ·simp only [h6,h7,decide_false,Bool.or_false,Bool.false_eq_true,if_false] at he
     simp only [h6,h7,hw,hx,ai.enc,Int.toNat_natCast,go_sem]
     repeat (refine bn ?_)
     exact hB _ ⟨j+1,e1,he⟩ (by simp only;omega) (wk [(8,8)] [])
   have e2:decide ((j:Int)<(A.length:Int))=false:=by simp;omega
   rw [eH (by omega)] at he
   simp only [Dv] at he
   simp only [e2,go_sem]
   refine go_loop (fun j:{j:Nat // j<=A.length/\Du A (A.drop j) j=R}=>⟨3000,[(6,.sl 7 (A.map ai.enc)),(8,I j.1)],[]⟩) (fun j=>A.length - j.1) ⟨0,by omega,he⟩ (wk [] []) ?_
   clear he e1 e2 hB
   rintro ⟨j,hj,he⟩ B hB
   simp only [go_sem]
   by_cases e1:j<A.length
   ·have e2:decide ((j:Int)<(A.length:Int))=true:=by simp;omega
    rw [eB ai.z e1] at he
    simp only [Du,show A[j]?.getD ai.z=gM A j from rfl] at he
    have hx:nth (A.map ai.enc) j=ai.enc (gM A j):=bS ai.enc ai.z e1
    have hw:=bT (show j<=100000 by omega)
    simp only [e2,hx,ai.enc,Int.toNat_natCast,go_sem]
    repeat (refine bn ?_)
    refine aQ (wI A (gM A j).id (by omega)) rfl rfl ?_
    simp only [go_sem]
    by_cases h6:(fD A (gM A j).id !=(j:Int))=true
    ·rw [if_pos h6] at he
     simp only [h6,go_sem]
     exact Fin.aD _ rfl rfl (by rw [<-he];rfl)
    ·rw [if_neg h6] at he
     simp only [Bool.not_eq_true] at h6
     simp only [h6,hw,go_sem]
     exact hB _ ⟨j+1,e1,he⟩ (by simp only;omega) (wk [] [])
   ·have e2:decide ((j:Int)<(A.length:Int))=false:=by simp;omega
    rw [eH (by omega)] at he
    simp only [Du] at he
    simp only [e2,go_sem]
    exact Fin.aD _ rfl rfl (by rw [<-he];rfl)
  ·simp only [Bool.not_eq_true] at h4
   simp only [h4,Bool.not_false,if_true] at hR
   simp only [h4,Bool.not_false,go_sem]
   exact Fin.aD _ rfl rfl (by rw [<-hR];rfl)
 ·simp only [Bool.not_eq_true] at h3
  simp only [h3,Bool.not_false,if_true] at hR
  simp only [h3,Bool.not_false,go_sem]
  by_cases h4:(s.low !=0)=true
  ·simp only [h4,Bool.true_or,if_true] at hR
   simp only [h4,go_sem]
   exact Fin.aD _ rfl rfl (by rw [<-hR];rfl)
  simp only [Bool.not_eq_true] at h4
  by_cases h5:(s.high !=0)=true
  ·simp only [h4,h5,Bool.true_or,Bool.or_true,if_true] at hR
   simp only [h4,h5,go_sem]
   exact Fin.aD _ rfl rfl (by rw [<-hR];rfl)
  simp only [Bool.not_eq_true] at h5
  by_cases h6:0<s.cnt
  ·simp only [h4,h5,h6,decide_true,Bool.true_or,Bool.or_true,if_true] at hR
   simp only [h4,h5,h6,go_sem]
   exact Fin.aD _ rfl rfl (by rw [<-hR];rfl)
  ·simp only [h4,h5,h6,decide_false,Bool.or_false,Bool.false_eq_true,if_false] at hR
   simp only [h4,h5,h6,go_sem]
   exact Fin.aD _ rfl rfl (by rw [<-hR];rfl)
theorem jX (s:ak) (hs:s.sm):Fn Tryz.prog 156 [.agg s.enc] [] (I s.lv) [] []:=by
 generalize hR:s.lv=R
 unfold ak.lv at hR
 refine Fn.aO Rz (by simp) ?_
 unfold Ry SC.mk' ak.enc
 simp only [go_sem]
 refine aQ (zi s hs) rfl rfl ?_
 simp only [go_sem]
 by_cases h1:s.val≠0
 ·rw [if_pos h1] at hR
  have h1':(s.val !=0)=true:=by simpa using h1
  simp only [h1',go_sem]
  exact Fin.aD _ rfl rfl (by rw [<-hR];rfl)
 rw [if_neg h1] at hR
 have h1':(s.val !=0)=false:=by simpa using h1
 simp only [h1',go_sem]
 by_cases h3:s.live=true
 ·simp only [h3,Bool.not_true,Bool.false_eq_true,if_false] at hR
  simp only [h3,Bool.not_true,go_sem]
  exact Fin.aD _ rfl rfl (by rw [<-hR];rfl)
 ·simp only [Bool.not_eq_true] at h3
  simp only [h3,Bool.not_false,if_true] at hR
  simp only [h3,Bool.not_false,go_sem]
  exact Fin.aD _ rfl rfl (by rw [<-hR];rfl)
theorem NC {s:ak} (h:s.lv=0):s.val=0/\s.live=true:=by
 unfold ak.lv at h
 split at h
 ·contradiction
 ·split at h
  ·omega
  ·rename_i h1 h2;exact ⟨by simpa using h1,by simpa using h2⟩
theorem oU {s:ak} (h:s.val=0):s.ready.val=0/\s.aR.val=0:=by
 unfold ak.val at h
 split at h
 ·contradiction
 ·split at h
  ·contradiction
  ·rename_i h1 h2;exact ⟨by simpa using h1,by simpa using h2⟩
theorem acz {r:Ring} (h:r.val=0):0<=r.size/\r.size<=12/\0<=r.head/\r.head<=12/\r.cells.length<=12/\1<=r.cells.length/\r.size<=r.cells.length/\r.list.length=r.size:=by
 obtain ⟨n,h',l,rg,e⟩:=Ring.val_zero h
 rw [e,Ring.acv rg];unfold Ring.mk';simp only [fG];have:=rg.n1;have:=rg.n2;have:=rg.ll;have:=rg.hh;refine ⟨?_,?_,?_,?_,?_,?_,?_,?_⟩<;>first|omega|trivial
theorem Wv {s:ak} (h:s.val=0):0<=s.cnt/\s.cnt<=24:=by
 have h1:=oU h
 have h2:=acz h1.1
 have h3:=Table.val_zero h1.2
 unfold ak.cnt;omega
theorem nu (s:ak) (hs:s.sm):Fn Tryz.prog 180 [.agg s.enc] [] (I s.stored) [] []:=by
 generalize hR:s.stored=R
 unfold ak.stored at hR
 refine Fn.aO RV (by simp) ?_
 unfold RU SC.mk' ak.enc
 simp only [go_sem]
 refine aQ (jX s hs) rfl rfl ?_
 simp only [go_sem]
 by_cases h1:s.lv≠0
 ·rw [if_pos h1] at hR
  have h1':(s.lv !=0)=true:=by simpa using h1
  simp only [h1',go_sem]
  exact Fin.aD _ rfl rfl (by rw [<-hR];rfl)
 rw [if_neg h1] at hR
 have h1':(s.lv !=0)=false:=by simpa using h1
 have h2:=Wv (NC (show s.lv=0 by simpa using h1)).1
 have hw:IntKind.i64.wrap (s.ready.size+(s.aR.l.length:Int))=s.cnt:=by unfold ak.cnt at h2 ⊢;rw [bE (by omega)]
 simp only [h1',hw,List.length_map,go_sem]
 exact Fin.aD _ rfl rfl (by rw [<-hR];rfl)
theorem kG (s:ak) (r:Int) (hs:s.sm):Fn Tryz.prog 96 [.agg s.enc,I r] [] (Bo (s.owns r)) [] []:=by
 generalize hR:s.owns r=R
 unfold ak.owns at hR
 refine Fn.aO QR (by simp) ?_
 unfold QO SC.mk' ak.enc
 simp only [go_sem]
 refine aQ (jX s hs) rfl rfl ?_
 simp only [go_sem]
 by_cases h1:(s.lv==0)=true
 ·simp only [h1,Bool.true_and] at hR
  simp only [h1,go_sem]
  by_cases h2:s.low<=r
  ·simp only [h2,decide_true,Bool.true_and] at hR
   simp only [h2,go_sem]
   exact Fin.aD _ rfl rfl (by rw [<-hR];rfl)
  ·simp only [h2,decide_false,Bool.false_and] at hR
   simp only [h2,go_sem]
   exact Fin.aD _ rfl rfl (by rw [<-hR];rfl)
 ·simp only [Bool.not_eq_true] at h1
  simp only [h1,Bool.false_and] at hR
  simp only [h1,go_sem]
  exact Fin.aD _ rfl rfl (by rw [<-hR];rfl)
theorem ND (m:ai) (k:Int):Fn Tryz.prog 242 [.agg m.enc,I k] [] (Bo (m.spent k)) [] []:=by
 refine Fn.aO SS (by simp) ?_
 unfold SQ SC.mk' ai.enc
 simp only [go_sem]
 have hJ:=trivial
 repeat' first
  |(first|refine sC ?_|refine sD ?_);simp only [hJ,go_sem]
  |(first|refine bC (fun hq=> ?_) (fun hq=> ?_)|refine dR (fun hq=> ?_) (fun hq=> ?_)|refine dD (fun hq=> ?_) (fun hq=> ?_))<;>simp only [hq,hJ,go_sem]
  |refine sM ?_;simp only [ay,rv,au,get,hJ,go_sem]
  |refine bn ?_
  |fail
 all_goals clear hJ
 all_goals simp_all [ai.spent]
theorem alT (m:ai) (e k:Int):Fn Tryz.prog 441 [.agg m.enc,I e,I k] [] (Bo (m.Dt e k)) [] []:=by
 generalize hR:m.Dt e k=R
 unfold ai.Dt ai.gZ at hR
 refine Fn.aO ajB (by simp) ?_
 unfold Vq SC.mk' ai.enc
 simp only [go_sem]
 have aK:=sS m e
 have aU:=ND m k
 exact aX
theorem alU {m:ai} (h:m.val=0):0<=m.count/\m.count<=8/\0<=m.gen/\m.gen<=65536/\0<=m.route/\m.route<65536/\1<=m.id/\m.id<=1073741824:=by
 unfold ai.val at h
 split at h
 ·rename_i hg
  simp only [ai.good,sQ,Bool.and_eq_true,decide_eq_true_eq] at hg
  omega
 ·omega
theorem alV (m:ai):Fn Tryz.prog 442 [.agg m.enc] [] (.aF [.agg m.jU.1.enc,I m.jU.2]) [] []:=by
 generalize hR:m.jU=R
 unfold ai.jU at hR
 refine Fn.aO ajC (by simp) ?_
 unfold Vr SC.mk' ai.enc
 simp only [go_sem]
 refine aQ (wG m) rfl rfl ?_
 simp only [go_sem]
 by_cases h1:m.val=0
 ·have hb:=alU h1
  rw [if_neg (by simpa using h1)] at hR
  have w1:IntKind.i64.wrap (m.gen+1)=m.gen+1:=bE (by omega)
  have w2:IntKind.i64.wrap (m.count+1)=m.count+1:=bE (by omega)
  exact aX
 ·rw [if_pos h1] at hR
  exact aX
theorem alW (s:ak) (h:Hd) (now ep:Int) (hs:s.sm):Fn Tryz.prog 328 [.agg s.enc,.agg h.enc,I now,I ep] [] (Bo (s.holds h now ep)) [] []:=by
 have hs1:=hs.1
 have hs2:=hs.2
 generalize hR:s.holds h now ep=R
 unfold ak.holds at hR
 refine Fn.aO ai2 (by simp) ?_
 unfold Us SC.mk' ak.enc Hd.enc
 simp only [go_sem]
 have aK:=jX s hs
 have aU:=qp ep
 have bK:=Bl now
 have dV:=aco s.aR h.id (by omega) (by omega)
 have fQ:=sS (s.aR.qh h.id).1.msg ep
 have hJ:=trivial
 repeat' first
  |(first|refine sC ?_|refine sD ?_);simp only [hJ,Lease.enc,go_sem]
  |(first|refine bC (fun hq=> ?_) (fun hq=> ?_)|refine dR (fun hq=> ?_) (fun hq=> ?_)|refine dD (fun hq=> ?_) (fun hq=> ?_))<;>simp only [hq,hJ,Lease.enc,go_sem]
  |refine sM ?_;simp only [ay,rv,au,get,hJ,Lease.enc,go_sem]
  |refine bn ?_
  |fail
 all_goals clear aK aU bK dV fQ hJ
 all_goals simp_all [ai.gZ]
theorem NE (s:ak) (h:Hd) (now ep:Int) (g:Bool) (hs:s.sm):Fn Tryz.prog 239 [.agg s.enc,.agg h.enc,I now,I ep,Bo g] [] (I (s.held h now ep g)) [] []:=by
 generalize hR:s.held h now ep g=R
 unfold ak.held at hR
 refine Fn.aO aiM (by simp) ?_
 unfold SI SC.mk' ak.enc Hd.enc
 simp only [go_sem]
 have aK:=jX s hs
 have aU:=qp ep
 have bK:=Bl now
 have dV:=alW s h now ep hs
 exact aX
theorem alX (s:ak) (h:Hd) (now ep:Int) (hs:s.sm):Fn Tryz.prog 157 [.agg s.enc,.agg h.enc,I now,I ep] [] (.aF [.agg (s.yS h now ep).1.enc,I (s.yS h now ep).2]) [] []:=by
 have hs1:=hs.1
 have hs2:=hs.2
 generalize hR:s.yS h now ep=R
 unfold ak.yS at hR
 refine Fn.aO aiA (by simp) ?_
 unfold RA SC.mk' ak.enc Hd.enc
 simp only [go_sem]
 have aK:=NE s h now ep true hs
 have aU:=Nv s.aR h.id (by omega) (by omega)
 have hJ:=Table.enc.eq_1
 exact aZ
attribute [local go_sem] List.length_map
theorem alY {s:ak} {h:Hd} {now ep:Int} {g:Bool} (e:s.held h now ep g=0):s.lv=0/\jy ep=true/\oH now=true/\g=true/\s.holds h now ep=true:=by
 unfold ak.held at e
 split at e
 ·omega
 split at e
 ·omega
 split at e
 ·omega
 ·simp_all
theorem acA {n:Int} (h:oH n=true):0<=n/\n<=1073741824:=by simpa [oH] using h
theorem acB {n:Int} (h:qj n=true):0<=n/\n<=1000:=by simpa [qj] using h
theorem alZ (s:ak) (h:Hd) (now ep li:Int) (hs:s.sm):Fn Tryz.prog 158 [.agg s.enc,.agg h.enc,I now,I ep,I li] [] (.aF [.agg (s.yT h now ep li).1.enc,I (s.yT h now ep li).2]) [] []:=by
 have hs1:=hs.1
 have hs2:=hs.2
 generalize hR:s.yT h now ep li=R
 unfold ak.yT at hR
 refine Fn.aO aiB (by simp) ?_
 unfold RB SC.mk' ak.enc Hd.enc
 simp only [go_sem]
 have aK:=u7 li
 have aU:=NE s h now ep (kD li) hs
 have bK:=Nv s.aR h.id (by omega) (by omega)
 have dV:=ND (s.aR.release h.id).2.1 li
 have fQ:=Nw s.ready (s.aR.release h.id).2.1
 have mR:=alR s.ready (s.aR.release h.id).2.1
 have hJ:=ah Table.enc.eq_1 (ah Ring.enc.eq_1 ai.enc.eq_1)
 exact aZ
theorem al0 (s:ak) (h:Hd) (now ep bB:Int) (hs:s.sm):Fn Tryz.prog 159 [.agg s.enc,.agg h.enc,I now,I ep,I bB] [] (.aF [.agg (s.change h now ep bB).1.enc,I (s.change h now ep bB).2]) [] []:=by
 have hs1:=hs.1
 have hs2:=hs.2
 generalize hR:s.change h now ep bB=R
 unfold ak.change at hR
 refine Fn.aO aiC (by simp) ?_
 unfold RD SC.mk' ak.enc Hd.enc
 simp only [go_sem]
 by_cases e:s.held h now ep (qj bB)=0
 ·have e1:=alY e
  have e2:=acA e1.2.2.1
  have e3:=acB e1.2.2.2.1
  have w:IntKind.i64.wrap (now+bB)=now+bB:=bE (by omega)
  have aK:=Ny bB
  have aU:=NE s h now ep (qj bB) hs
  have bK:=alN s.aR h.id (now+bB) (by omega) (by omega)
  have hJ:=ah w (ah Table.enc.eq_1 (ah Ring.enc.eq_1 ai.enc.eq_1))
  exact aZ
 ·have aK:=Ny bB
  have aU:=NE s h now ep (qj bB) hs
  exact aX
theorem acC (s:ak) (m:ai) (hs:s.sm):Fn Tryz.prog 115 [.agg s.enc,.agg m.enc] [] (.aF [.agg (s.put m).1.enc,I (s.put m).2]) [] []:=by
 have hA:=NA s hs
 generalize hR:s.put m=R
 unfold ak.put at hR
 refine Fn.aO Q5 (by simp) ?_
 unfold Q0 SC.mk' ak.enc
 simp only [ai.enc,go_sem]
 have aK:=jX s hs
 have aU:=wG m
 have bK:=nu s hs
 have dV:=xh s hs
 have fQ:=wI s.all m.id (by omega)
 have mR:=Nw s.ready m
 have hJ:=Ring.enc.eq_1
 exact aZ
theorem al1 (s:ak) (k:Int) (hs:s.sm):Fn Tryz.prog 381 [.agg s.enc,I k] [] (.aF [.agg (s.iF k).1.enc,.sl 7 ((s.iF k).2.1.map ai.enc),I (s.iF k).2.2]) [] []:=by
 generalize hR:s.iF k=R
 unfold ak.iF at hR
 refine Fn.aO ajf (by simp) ?_
 unfold UY SC.mk' ak.enc
 simp only [go_sem]
 have aK:=jX s hs
 have aU:=alS s.ready k
 have hJ:=Ring.enc.eq_1
 exact aZ
theorem Ww (m:ai) (lo hi:Int):Fn Tryz.prog 378 [.agg m.enc,I lo,I hi] [] (.agg (m.qi lo hi).enc) [] []:=by
 refine Fn.aO ajd (by simp) ?_
 unfold UW SC.mk' ai.enc
 simp only [go_sem]
 have aK:=aa9 m.route lo hi
 have hJ:=trivial
 repeat' first
  |(first|refine sC ?_|refine sD ?_);simp only [hJ,go_sem]
  |(first|refine bC (fun hq=> ?_) (fun hq=> ?_)|refine dR (fun hq=> ?_) (fun hq=> ?_)|refine dD (fun hq=> ?_) (fun hq=> ?_))<;>simp only [hq,hJ,go_sem]
  |refine sM ?_;simp only [ay,rv,au,get,hJ,go_sem]
  |refine bn ?_
  |fail
 all_goals clear aK hJ
 all_goals simp_all [ai.qi]
theorem acD (m:ai):Fn Tryz.prog 377 [.agg m.enc] [] (.agg m.gU.enc) [] []:=by
 refine Fn.aO ajc (by simp) ?_
 unfold UU SC.mk' ai.enc
 simp only [go_sem]
 have hJ:=trivial
 repeat' first
  |(first|refine sC ?_|refine sD ?_);simp only [hJ,go_sem]
  |(first|refine bC (fun hq=> ?_) (fun hq=> ?_)|refine dR (fun hq=> ?_) (fun hq=> ?_)|refine dD (fun hq=> ?_) (fun hq=> ?_))<;>simp only [hq,hJ,go_sem]
  |refine sM ?_;simp only [ay,rv,au,get,hJ,go_sem]
  |refine bn ?_
  |fail
 all_goals clear hJ
 all_goals simp_all [ai.gU]
theorem al2 (id ro ep now:Int) (b:ByteArray):Fn Tryz.prog 372 [I id,I ro,I ep,I now,.v (.string b)] [] (.aF [.agg (ai.new id ro ep now b).1.enc,I (ai.new id ro ep now b).2]) [] []:=by
 generalize hR:ai.new id ro ep now b=R
 unfold ai.new at hR
 refine Fn.aO UM (by simp) ?_
 unfold UL SC.mk' ai.enc
 simp only [go_sem]
 have aK:=wG ⟨id,ro,ep,0,0,now,b⟩
 exact aX
end Go.Eng
namespace Go.Eng
open Go Go.Proofs
theorem Bn (t:Table) (id:Int):(t.release id).1.l.length<=t.l.length/\(t.release id).1.heap.length<=t.heap.length:=by
 unfold Table.release
 split
 ·exact ⟨Nat.zero_le _,Nat.zero_le _⟩
 ·split
  ·exact ⟨Nat.zero_le _,Nat.zero_le _⟩
  ·exact ⟨List.length_eraseIdx_le ..,Wq _ _⟩
theorem NF (t:Table) (m:ai) (dl:Int):(t.grant m dl).1.l.length<=t.l.length+1/\(t.grant m dl).1.heap.length<=t.heap.length+1:=by
 unfold Table.grant
 repeat' split
 all_goals first|exact ⟨Nat.zero_le _,Nat.zero_le _⟩|skip
 refine ⟨?_,Wp _ _⟩
 simp;omega
theorem acE (t:Table) (now ep:Int):(t.wR now ep).length<=13:=by
 have key:∀ l:List Int,(wQ t ep l).length<=l.length:=by
  intro l
  induction l with
  |nil=>exact Nat.le_refl _
  |cons x r ih=>simp only [wQ];split<;>simp<;>omega
 have k2:∀ (f:Nat) (h:List Due),(kC now f h).length<=f:=by
  intro f
  induction f with
  |zero=>intro h;exact Nat.le_refl _
  |succ f ih=>
   intro h;rw [kC];split;· simp only [List.length_cons];have:=ih (qg h 0);omega
   ·exact Nat.zero_le _
 unfold Table.wR
 split
 ·exact Nat.zero_le _
 ·exact Nat.le_trans (key _) (k2 _ _)
theorem acF (s:ak) (now ep li:Int) (hs:s.sm):Fn Tryz.prog 394 [.agg s.enc,I now,I ep,I li] [] (.aF [.agg (s.expire now ep li).1.enc,.sl 1 (encI (s.expire now ep li).2.1),I (s.expire now ep li).2.2]) [] []:=by
 have hs1:=hs.1
 have hs2:=hs.2
 generalize hR:s.expire now ep li=R
 unfold ak.expire at hR
 refine Fn.aO ajq (by simp) ?_
 unfold Vd SC.mk' ak.enc
 simp only [go_sem]
 by_cases h0:s.lv≠0\/jy ep=false\/kD li=false\/oH now=false
 ·have aK:=jX s hs
  have aU:=qp ep
  have bK:=u7 li
  have dV:=Bl now
  exact aX
 rw [if_neg (fun h=>h0 (.inl h)),if_neg (fun h=>h0 (.inr h))] at hR
 have g1:s.lv=0:=by simpa using fun h=>h0 (.inl h)
 have g2:jy ep=true:=by simpa using fun h=>h0 (.inr (.inl h))
 have g3:kD li=true:=by simpa using fun h=>h0 (.inr (.inr (.inl h)))
 have g4:oH now=true:=by simpa using fun h=>h0 (.inr (.inr (.inr h)))
 refine aQ (jX s hs) rfl rfl ?_
 simp only [g1,go_sem]
 refine aQ (qp ep) rfl rfl ?_
 simp only [g2,Bool.not_true,go_sem]
 refine aQ (u7 li) rfl rfl ?_
 simp only [g3,Bool.not_true,go_sem]
 refine aQ (Bl now) rfl rfl ?_
 simp only [g4,Bool.not_true,go_sem]
 refine aQ (alO s.aR now ep (by omega) (by omega)) rfl rfl ?_
 have hl:=acE s.aR now ep
 generalize s.aR.wR now ep=D at hR hl
 simp only [go_sem]
 refine go_loop (fun x:{x:Nat×ak // x.1<=D.length/\x.2.sm/\yU (D.drop x.1) x.2=R.1}=>⟨3000,[(4,.ptr 8 0),(8,.ptr 16 0),(12,.sl 1 (encI D)),(13,I x.1.1)],[(8,.box [Bo x.1.2.live,I x.1.2.low,I x.1.2.high,.sl 7 (x.1.2.ready.cells.map ai.enc),I x.1.2.ready.head,I x.1.2.ready.size,.sl 8 (x.1.2.aR.l.map Lease.enc),.sl 2 (x.1.2.aR.heap.map Due.enc)]),(16,.box [Bo false,I 0,I 0,Nl,I 0,I 0,Nl,Nl])]⟩) (fun x=>D.length - x.1.1) ⟨(0,s),by omega,hs,by rw [<-hR];rfl⟩ (wk [(8,8),(16,16)] []) ?_
 rintro ⟨⟨j,s'⟩,hj,hs',he⟩ B hB
 simp only at hj hs' he
 have hs1:=hs'.1
 have hs2:=hs'.2
 simp only [go_sem]
 by_cases e1:j<D.length
 ·have e2:decide ((j:Int)<(D.length:Int))=true:=by simp;omega
  rw [eB 0 e1] at he
  simp only [yU] at he
  have hx:nth (encI D) j=[I (D[j]?.getD 0)]:=bS (fun z=>[I z]) 0 e1
  have hw:=bT (show j<=100000 by omega)
  have hl2:=Bn s'.aR (D[j]?.getD 0)
  generalize D[j]?.getD 0=id at hx he hl2
  simp only [e2,hx,Int.toNat_natCast,go_sem]
  repeat (refine bn ?_)
  refine bX (Nv s'.aR id (by omega) (by omega)) rfl rfl ?_
  simp only [Table.enc,ai.enc,go_sem]
  repeat (refine bn ?_)
  refine aQ (Nw s'.ready (s'.aR.release id).2.1) rfl rfl ?_
  simp only [Ring.enc,hw,go_sem]
  exact hB _ ⟨(j+1,_),by simp only;omega,⟨by simp only;omega,by simp only;omega⟩,he⟩ (by simp only;omega) (wk [(8,8),(16,16)] [])
 ·have e2:decide ((j:Int)<(D.length:Int))=false:=by simp;omega
  rw [eH (by omega)] at he
  simp only [yU] at he
  simp only [e2,go_sem]
  exact Fin.aD _ rfl rfl (by rw [<-hR] at he ⊢;simp only at he ⊢;rw [<-he];simp only [ay,rv,au,get,ak.enc,go_sem])
end Go.Eng
