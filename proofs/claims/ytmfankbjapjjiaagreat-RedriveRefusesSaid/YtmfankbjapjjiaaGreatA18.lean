/-
  Part of a proof: lemmas and definitions of this work.
  No condition.
-/
import Derived.Test.YtmfankbjapjjiaaGreatA08
import Derived.Test.YtmfankbjapjjiaaGreatA17
set_option linter.all false
set_option maxRecDepth 100000
set_option maxHeartbeats 8000000
namespace Go.Eng
open Go Go.Proofs
theorem DU {α:Type} (z:α) {l:List α} {j:Nat} (h:j<l.length):l.take (j+1)=l.take j++[l[j]?.getD z]:=by
 rw [List.take_succ_eq_append_getElem h];simp [h]
theorem Ring.val_zero {r:Ring} (h:r.val=0):∃ n h' l,Rg n h' l/\r=Ring.mk' n h' l:=by
 obtain ⟨cs,hd,s⟩:=r
 obtain ⟨n,h',l,rg,rfl,rfl,rfl⟩:=yI h
 exact ⟨n,h',l,rg,rfl⟩
theorem Ring.ac4 {n h:Nat} {l:List ai} (rg:Rg n h l):(Ring.mk' n h l).list=l:=by
 unfold Ring.list yH Ring.mk'
 simp only
 rw [if_neg (fun e=>e rg.ok)]
 simp only [Int.toNat_natCast,uJ rg.ll rg.hh]
theorem amc (r:Ring):Fn Tryz.prog 429 [.agg r.enc] [] (I r.val) [] []:=JX r.cells r.head r.size
theorem amd (r:Ring):Fn Tryz.prog 436 [.agg r.enc] [] (.sl 7 (r.list.map ai.enc)) [] []:=akU r.cells r.head r.size
theorem ac5 (k:Int):Fn Tryz.prog 139 [I k] [] (.aG [.agg (Ring.new k).1.enc,I (Ring.new k).2]) [] []:=by
 have h:=akR k
 have e:newR k= .aG [.agg (Ring.new k).1.enc,I (Ring.new k).2]:=by
  unfold newR Ring.new
  repeat' split
  all_goals rfl
 rwa [e] at h
theorem Ny (r:Ring) (m:ai):Fn Tryz.prog 383 [.agg r.enc,.agg m.enc] [] (.aG [.agg (r.uO m).1.enc,I (r.uO m).2]) [] []:=by
 have h:=akP r.cells r.head r.size m
 have e:M4 r.cells r.head r.size m= .aG [.agg (r.uO m).1.enc,I (r.uO m).2]:=by
  unfold M4 Ring.uO Ring.room
  split<;>rfl
 rwa [e] at h
theorem ame (r:Ring) (m:ai):Fn Tryz.prog 391 [.agg r.enc,.agg m.enc] [] (.aG [.agg (r.DJ m).1.enc,I (r.DJ m).2]) [] []:=by
 have h:=akQ r.cells r.head r.size m
 have e:M5 r.cells r.head r.size m= .aG [.agg (r.DJ m).1.enc,I (r.DJ m).2]:=by
  unfold M5 Ring.DJ Ring.room
  split<;>rfl
 rwa [e] at h
theorem Ww (r:Ring) (id:Int):Fn Tryz.prog 403 [.agg r.enc,I id] [] (.aG [.agg (r.remove id).1.enc,.agg (r.remove id).2.1.enc,I (r.remove id).2.2]) [] []:=by
 have h:=akV r.cells r.head r.size id
 have e:M6 r.cells r.head r.size id= .aG [.agg (r.remove id).1.enc,.agg (r.remove id).2.1.enc,I (r.remove id).2.2]:=by
  unfold M6 Ring.remove
  by_cases h0:r.val=0
  ·have e1:r.list=fD r.cells r.head.toNat r.size.toNat:=by unfold Ring.list yH;rw [if_neg (fun h=>h h0)]
   have h0':eZ r.cells r.head r.size=0:=h0
   rw [if_neg (show ¬ eZ r.cells r.head r.size≠0 from fun h=>h h0'),if_neg (show ¬ r.val≠0 from fun h=>h h0),e1]
   split<;>rfl
  ·have h0':eZ r.cells r.head r.size≠0:=h0
   rw [if_pos h0',if_pos h0];rfl
 rwa [e] at h
theorem amf (r:Ring) (k:Int):Fn Tryz.prog 396 [.agg r.enc,I k] [] (.aG [.agg (r.iG k).1.enc,.sl 7 ((r.iG k).2.1.map ai.enc),I (r.iG k).2.2]) [] []:=by
 have h:=akW r.cells r.head r.size k
 have e:M7 r.cells r.head r.size k= .aG [.agg (r.iG k).1.enc,.sl 7 ((r.iG k).2.1.map ai.enc),I (r.iG k).2.2]:=by
  unfold M7 Ring.iG
  by_cases h0:r.val=0
  ·have e1:r.list=fD r.cells r.head.toNat r.size.toNat:=by unfold Ring.list yH;rw [if_neg (fun h=>h h0)]
   have h0':eZ r.cells r.head r.size=0:=h0
   rw [if_neg (show ¬ eZ r.cells r.head r.size≠0 from fun h=>h h0'),if_neg (show ¬ r.val≠0 from fun h=>h h0)]
   by_cases h1:k<0
   ·rw [if_pos h1,if_pos (.inl h1)];rfl
   by_cases h2:r.size<k
   ·rw [if_neg h1,if_pos h2,if_pos (.inr h2)];rfl
   ·rw [if_neg h1,if_neg h2,if_neg (by omega),e1,wM];rfl
  ·have h0':eZ r.cells r.head r.size≠0:=h0
   rw [if_pos h0',if_pos h0];rfl
 rwa [e] at h
theorem Ring.rA (r:Ring):r.list.length<=12:=by
 by_cases h:r.val=0
 ·obtain ⟨n,h',l,rg,rfl⟩:=Ring.val_zero h
  rw [Ring.ac4 rg]
  have:=rg.n2;have:=rg.ll;omega
 ·unfold Ring.list yH;rw [if_pos (show eZ r.cells r.head r.size≠0 from h)];exact Nat.zero_le _
theorem ac6 (a b:Int):Fn Tryz.prog 140 [I a,I b] [] (Bo (yN a b)) [] []:=by
 refine Fn.aO JN (by simp) ?_
 unfold QA SC.mk'
 simp only [go_sem]
 repeat' first|refine dD (fun h1=> ?_) (fun h1=> ?_)<;>simp only [h1,go_sem]|refine bD (fun h1=> ?_) (fun h1=> ?_)<;>simp only [h1,go_sem]|refine Fin.bI _ rfl rfl rfl ?_
 all_goals (simp_all [yN,ay]<;>omega)
theorem qo (a:Int):Fn Tryz.prog 402 [I a] [] (Bo (jD a)) [] []:=by
 refine Fn.aO TR (by simp) ?_
 unfold TQ SC.mk'
 simp only [go_sem]
 repeat' first|refine dD (fun h1=> ?_) (fun h1=> ?_)<;>simp only [h1,go_sem]|refine bD (fun h1=> ?_) (fun h1=> ?_)<;>simp only [h1,go_sem]|refine Fin.bI _ rfl rfl rfl ?_
 all_goals (simp_all [jD,ay]<;>omega)
theorem uY (a:Int):Fn Tryz.prog 389 [I a] [] (Bo (kE a)) [] []:=by
 refine Fn.aO Tt (by simp) ?_
 unfold Tq SC.mk'
 simp only [go_sem]
 repeat' first|refine dD (fun h1=> ?_) (fun h1=> ?_)<;>simp only [h1,go_sem]|refine bD (fun h1=> ?_) (fun h1=> ?_)<;>simp only [h1,go_sem]|refine Fin.bI _ rfl rfl rfl ?_
 all_goals (simp_all [kE,ay]<;>omega)
theorem DV (a:Int):Fn Tryz.prog 404 [I a] [] (Bo (oD a)) [] []:=by
 refine Fn.aO abw (by simp) ?_
 unfold TT SC.mk'
 simp only [go_sem]
 repeat' first|refine dD (fun h1=> ?_) (fun h1=> ?_)<;>simp only [h1,go_sem]|refine bD (fun h1=> ?_) (fun h1=> ?_)<;>simp only [h1,go_sem]|refine Fin.bI _ rfl rfl rfl ?_
 all_goals (simp_all [oD,ay]<;>omega)
theorem Nz (a:Int):Fn Tryz.prog 392 [I a] [] (Bo (qi a)) [] []:=by
 refine Fn.aO abu (by simp) ?_
 unfold Ty SC.mk'
 simp only [go_sem]
 repeat' first|refine dD (fun h1=> ?_) (fun h1=> ?_)<;>simp only [h1,go_sem]|refine bD (fun h1=> ?_) (fun h1=> ?_)<;>simp only [h1,go_sem]|refine Fin.bI _ rfl rfl rfl ?_
 all_goals (simp_all [qi,ay]<;>omega)
theorem Wx (cap lo hi:Int):Fn Tryz.prog 93 [I cap,I lo,I hi] [] (.aG [.agg (ak.new cap lo hi).1.enc,I (ak.new cap lo hi).2]) [] []:=by
 refine Fn.aO JJ (by simp) ?_
 unfold Qs SC.mk' ak.enc ak.new
 simp only [go_sem]
 refine aQ (ac5 cap) rfl rfl ?_
 simp only [Ring.enc,go_sem]
 by_cases h1:(Ring.new cap).2=0
 ·simp only [h1,ne_eq,not_true_eq_false,if_false,go_sem]
  refine aQ (ac6 lo hi) rfl rfl ?_
  simp only [go_sem]
  by_cases h2:yN lo hi=true
  ·simp only [h2,Bool.not_true,Bool.not_false,Bool.false_eq_true,if_false,go_sem]
   exact Fin.aD _ rfl rfl (by simp [ay,rv,au,Ring.enc])
  ·simp only [Bool.not_eq_true] at h2
   simp only [h2,Bool.not_true,Bool.not_false,if_true,go_sem]
   exact Fin.aD _ rfl rfl (by simp [ay,rv,au])
 ·have h1':((Ring.new cap).2 !=0)=true:=by simpa using h1
  simp only [h1',if_pos h1,go_sem]
  exact Fin.aD _ rfl rfl (by simp [ay,rv,au])
theorem NA (cap:Int):Fn Tryz.prog 92 [I cap] [] (.aG [.agg (ak.free cap).1.enc,I (ak.free cap).2]) [] []:=by
 refine Fn.aO JI (by simp) ?_
 unfold Qr SC.mk' ak.enc ak.free
 simp only [go_sem]
 refine aQ (ac5 cap) rfl rfl ?_
 simp only [Ring.enc,go_sem]
 by_cases h1:(Ring.new cap).2=0
 ·simp only [h1,ne_eq,not_true_eq_false,if_false,go_sem]
  exact Fin.aD _ rfl rfl (by simp [ay,rv,au,Ring.enc])
 ·have h1':((Ring.new cap).2 !=0)=true:=by simpa using h1
  simp only [h1',if_pos h1,go_sem]
  exact Fin.aD _ rfl rfl (by simp [ay,rv,au])
theorem uZ (s:ak):Fn Tryz.prog 400 [.agg s.enc] [] (.sl 7 (s.ready.list.map ai.enc)) [] []:=by
 refine Fn.aO TM (by simp) ?_
 unfold TL SC.mk' ak.enc
 simp only [go_sem]
 refine aQ (amd s.ready) rfl rfl ?_
 simp only [go_sem]
 exact Fin.aD _ rfl rfl (by simp [ay,rv,au])
theorem Wy (s:ak) (hl:s.aR.l.length<=1000):Fn Tryz.prog 401 [.agg s.enc] [] (.sl 7 (s.eH.map ai.enc)) [] []:=by
 refine Fn.aO TP (by simp) ?_
 unfold TN SC.mk' ak.enc
 simp only [go_sem]
 refine go_loop (fun j:{j:Nat // j<=s.aR.l.length}=>⟨1000,[(1,.ptr 8 0),(3,.own 80 7 0 j.1),(4,I j.1)],[(8,.box [Bo s.live,I s.low,I s.high,.sl 7 (s.ready.cells.map ai.enc),I s.ready.head,I s.ready.size,.sl 8 (s.aR.l.map Lease.enc),.sl 2 (s.aR.heap.map Due.enc)]),(80,.row 85 7 (((s.aR.l.take j.1).map Lease.msg).map ai.enc))]⟩) (fun j=>s.aR.l.length - j.1) ⟨0,by omega⟩ (wk [(8,8)] [80]) ?_
 rintro ⟨j,hj⟩ B hB
 simp only [go_sem]
 by_cases e1:j<s.aR.l.length
 ·have e2:decide ((j:Int)<(s.aR.l.length:Int))=true:=by simp;omega
  have hx:nth (s.aR.l.map Lease.enc) j=Lease.enc (gL s.aR.l j):=bT Lease.enc Lease.z e1
  have hw:=bQ (show j<=100000 by omega)
  have hm:j+1<=maxLen:=Nat.le_trans (show _<=10000 by omega) (by decide)
  have e3:List.map ai.enc (List.map Lease.msg (List.take j s.aR.l))++[[I (gL s.aR.l j).msg.id,I (gL s.aR.l j).msg.route,I (gL s.aR.l j).msg.epoch,I (gL s.aR.l j).msg.count,I (gL s.aR.l j).msg.gen,I (gL s.aR.l j).msg.sent,.v (.string (gL s.aR.l j).msg.body)]]=List.map ai.enc (List.map Lease.msg (List.take (j+1) s.aR.l)):=by
   rw [DU Lease.z e1,List.map_append,List.map_append]
   rfl
  have e4:List.take j (List.map ai.enc (List.map Lease.msg (List.take j s.aR.l)))=List.map ai.enc (List.map Lease.msg (List.take j s.aR.l)):=bB (by simp only [List.length_map,List.length_take];omega)
  simp only [e2,hx,hw,e3,e4,Lease.enc,Int.toNat_natCast,List.length_map,List.length_take,Nat.min_eq_left hj,go_sem]
  repeat (refine bn ?_)
  exact hB _ ⟨j+1,e1⟩ (by simp only;omega) (wk [(8,8),(80,1120)] [])
 ·have e2:decide ((j:Int)<(s.aR.l.length:Int))=false:=by simp;omega
  have e5:j=s.aR.l.length:=by omega
  subst e5
  simp only [e2,go_sem]
  have e4:List.take s.aR.l.length (List.map ai.enc (List.map Lease.msg (List.take s.aR.l.length s.aR.l)))=List.map ai.enc s.eH:=by rw [List.take_length,bB (by simp only [List.length_map];omega)];rfl
  exact Fin.aD _ rfl rfl (by simp only [ay,rv,au,get,e4,go_sem];simp)
def ak.sm (s:ak):Prop:=s.aR.l.length<=800/\s.aR.heap.length<=800
def gM (l:List ai) (i:Nat):ai:=l[i]?.getD ai.z
theorem xq (s:ak) (hs:s.sm):Fn Tryz.prog 351 [.agg s.enc] [] (.sl 7 (s.all.map ai.enc)) [] []:=by
 have hs1:=hs.1
 refine Fn.aO SG (by simp) ?_
 unfold SF SC.mk' ak.enc
 simp only [go_sem]
 refine bX (uZ s) rfl rfl ?_
 have hr:=s.ready.rA
 have hm:s.ready.list.length<=maxLen:=Nat.le_trans (show _<=10000 by omega) (by decide)
 have hL:s.eH.length=s.aR.l.length:=by unfold ak.eH;simp
 simp only [List.length_map,go_sem]
 repeat (refine bn ?_)
 refine bX (Wy s (by omega)) rfl rfl ?_
 have hm2:s.ready.list.length+s.eH.length<=maxLen:=Nat.le_trans (show _<=10000 by omega) (by decide)
 have e1:List.take s.ready.list.length s.ready.list=s.ready.list:=List.take_length
 simp only [List.length_map,iB,iH,lq,e1,go_sem]
 unfold ak.all
 by_cases hc:s.ready.list.length+s.eH.length<=s.ready.list.length
 ·have e2:s.eH=[]:=List.eq_nil_of_length_eq_zero (by omega)
  simp only [e2,List.length_nil,Nat.add_zero,Nat.le_refl,List.map_nil,List.nil_append,List.append_nil,if_true,iB,iH,lq,e1,go_sem]
  repeat (refine bn ?_)
  have e3:List.take s.ready.list.length (s.ready.list.map ai.enc)=s.ready.list.map ai.enc:=bB (by simp)
  exact Fin.aD _ rfl rfl (by simp [ay,rv,au,get,e3])
 ·simp only [hc,if_false,iB,iH,lq,e1,go_sem]
  repeat (refine bn ?_)
  refine Fin.aD _ rfl rfl ?_
  have e3:List.take (s.ready.list.length+s.eH.length) ((s.ready.list++s.eH).map ai.enc)=(s.ready.list++s.eH).map ai.enc:=bB (by simp)
  simp only [ay,rv,au,get,e3,List.length_map,List.length_append,go_sem]
  simp
theorem NC (s:ak) (hs:s.sm):s.all.length<=812:=by
 have:=hs.1;have:=s.ready.rA
 unfold ak.all ak.eH
 simp only [List.length_append,List.length_map];omega
theorem za (s:ak) (hs:s.sm):Fn Tryz.prog 386 [.agg s.enc] [] (I s.val) [] []:=by
 have hs1:=hs.1
 have hs2:=hs.2
 generalize hR:s.val=R
 unfold ak.val at hR
 refine Fn.aO Tk (by simp) ?_
 unfold Tj SC.mk' ak.enc
 simp only [go_sem]
 refine aQ (amc s.ready) rfl rfl ?_
 simp only [go_sem]
 by_cases h1:s.ready.val≠0
 ·rw [if_pos h1] at hR
  have h1':(s.ready.val !=0)=true:=by simpa using h1
  simp only [h1',go_sem]
  exact Fin.aD _ rfl rfl (by rw [<-hR];rfl)
 rw [if_neg h1] at hR
 have h1':(s.ready.val !=0)=false:=by simpa using h1
 simp only [h1',go_sem]
 refine aQ (DT s.aR (by omega) (by omega)) rfl rfl ?_
 simp only [go_sem]
 by_cases h2:s.aR.val≠0
 ·rw [if_pos h2] at hR
  have h2':(s.aR.val !=0)=true:=by simpa using h2
  simp only [h2',go_sem]
  exact Fin.aD _ rfl rfl (by rw [<-hR];rfl)
 rw [if_neg h2] at hR
 have h2':(s.aR.val !=0)=false:=by simpa using h2
 have hsz:0<=s.ready.size/\s.ready.size<=12:=by
  obtain ⟨n,h',l,rg,e⟩:=Ring.val_zero (by simpa using h1)
  rw [e];unfold Ring.mk';simp only;have:=rg.n2;have:=rg.ll;omega
 have hw:IntKind.i64.wrap (s.ready.size+(s.aR.l.length:Int))=s.cnt:=by unfold ak.cnt;rw [bF (by omega)]
 simp only [h2',hw,go_sem]
 by_cases h3:s.live=true
 ·simp only [h3,Bool.not_true,Bool.false_eq_true,if_false] at hR
  simp only [h3,Bool.not_true,go_sem]
  refine aQ (ac6 s.low s.high) rfl rfl ?_
  simp only [go_sem]
  by_cases h4:yN s.low s.high=true
  ·simp only [h4,Bool.not_true,Bool.false_eq_true,if_false] at hR
   simp only [h4,Bool.not_true,go_sem]
   by_cases h5:(s.ready.cells.length:Int)<s.cnt
   ·rw [if_pos h5] at hR
    simp only [h5,List.length_map,go_sem]
    exact Fin.aD _ rfl rfl (by rw [<-hR];rfl)
   rw [if_neg h5] at hR
   simp only [h5,List.length_map,go_sem]
   have hF:=xq s hs
   simp only [ak.enc,h3] at hF
   refine aQ hF rfl rfl ?_
   have hA:=NC s hs
   generalize s.all=A at hR hA
   simp only [go_sem]
   refine go_loop (fun j:{j:Nat // j<=A.length/\J8 A s.low s.high (A.drop j)=R}=>⟨2000,[(1,.ptr 8 0),(6,.sl 7 (A.map ai.enc)),(7,I j.1)],[(8,.box [Bo true,I s.low,I s.high,.sl 7 (s.ready.cells.map ai.enc),I s.ready.head,I s.ready.size,.sl 8 (s.aR.l.map Lease.enc),.sl 2 (s.aR.heap.map Due.enc)])]⟩) (fun j=>A.length - j.1) ⟨0,by omega,hR⟩ (wk [(8,8)] []) ?_
   clear hR
   rintro ⟨j,hj,he⟩ B hB
   simp only [go_sem]
   by_cases e1:j<A.length
   ·have e2:decide ((j:Int)<(A.length:Int))=true:=by simp;omega
    rw [eD ai.z e1] at he
    simp only [J8,show A[j]?.getD ai.z=gM A j from rfl] at he
    have hx:nth (A.map ai.enc) j=ai.enc (gM A j):=bT ai.enc ai.z e1
    have hw:=bQ (show j<=100000 by omega)
    simp only [e2,hx,ai.enc,Int.toNat_natCast,go_sem]
    by_cases h6:(gM A j).route<s.low
    ·simp only [h6,decide_true,Bool.true_or,if_true] at he
     simp only [h6,go_sem]
     repeat (refine bn ?_)
     exact Fin.aD _ rfl rfl (by rw [<-he];rfl)
    by_cases h7:s.high<(gM A j).route
    ·simp only [h6,h7,decide_true,decide_false,Bool.or_true,if_true] at he
     simp only [h6,h7,hx,ai.enc,Int.toNat_natCast,go_sem]
     repeat (refine bn ?_)
     exact Fin.aD _ rfl rfl (by rw [<-he];rfl)
    ·simp only [h6,h7,decide_false,Bool.or_false,Bool.false_eq_true,if_false] at he
     simp only [h6,h7,hw,hx,ai.enc,Int.toNat_natCast,go_sem]
     repeat (refine bn ?_)
     exact hB _ ⟨j+1,e1,he⟩ (by simp only;omega) (wk [(8,8)] [])
   have e2:decide ((j:Int)<(A.length:Int))=false:=by simp;omega
   rw [eO (by omega)] at he
   simp only [J8] at he
   simp only [e2,go_sem]
   refine go_loop (fun j:{j:Nat // j<=A.length/\J7 A (A.drop j) j=R}=>⟨3000,[(6,.sl 7 (A.map ai.enc)),(8,I j.1)],[]⟩) (fun j=>A.length - j.1) ⟨0,by omega,he⟩ (wk [] []) ?_
   clear he e1 e2 hB
   rintro ⟨j,hj,he⟩ B hB
   simp only [go_sem]
   by_cases e1:j<A.length
   ·have e2:decide ((j:Int)<(A.length:Int))=true:=by simp;omega
    rw [eD ai.z e1] at he
    simp only [J7,show A[j]?.getD ai.z=gM A j from rfl] at he
    have hx:nth (A.map ai.enc) j=ai.enc (gM A j):=bT ai.enc ai.z e1
    have hw:=bQ (show j<=100000 by omega)
    simp only [e2,hx,ai.enc,Int.toNat_natCast,go_sem]
    repeat (refine bn ?_)
    refine aQ (wK A (gM A j).id (by omega)) rfl rfl ?_
    simp only [go_sem]
    by_cases h6:(fC A (gM A j).id !=(j:Int))=true
    ·rw [if_pos h6] at he
     simp only [h6,go_sem]
     exact Fin.aD _ rfl rfl (by rw [<-he];rfl)
    ·rw [if_neg h6] at he
     simp only [Bool.not_eq_true] at h6
     simp only [h6,hw,go_sem]
     exact hB _ ⟨j+1,e1,he⟩ (by simp only;omega) (wk [] [])
   ·have e2:decide ((j:Int)<(A.length:Int))=false:=by simp;omega
    rw [eO (by omega)] at he
    simp only [J7] at he
    simp only [e2,go_sem]
    exact Fin.aD _ rfl rfl (by rw [<-he];rfl)
  ·simp only [Bool.not_eq_true] at h4
   simp only [h4,Bool.not_false,if_true] at hR
   simp only [h4,Bool.not_false,go_sem]
   exact Fin.aD _ rfl rfl (by rw [<-hR];rfl)
 ·simp only [Bool.not_eq_true] at h3
  simp only [h3,Bool.not_false,if_true] at hR
  simp only [h3,Bool.not_false,go_sem]
  by_cases h4:(s.low !=0)=true
  ·simp only [h4,Bool.true_or,if_true] at hR
   simp only [h4,go_sem]
   exact Fin.aD _ rfl rfl (by rw [<-hR];rfl)
  simp only [Bool.not_eq_true] at h4
  by_cases h5:(s.high !=0)=true
  ·simp only [h4,h5,Bool.true_or,Bool.or_true,if_true] at hR
   simp only [h4,h5,go_sem]
   exact Fin.aD _ rfl rfl (by rw [<-hR];rfl)
  simp only [Bool.not_eq_true] at h5
  by_cases h6:0<s.cnt
  ·simp only [h4,h5,h6,decide_true,Bool.true_or,Bool.or_true,if_true] at hR
   simp only [h4,h5,h6,go_sem]
   exact Fin.aD _ rfl rfl (by rw [<-hR];rfl)
  ·simp only [h4,h5,h6,decide_false,Bool.or_false,Bool.false_eq_true,if_false] at hR
   simp only [h4,h5,h6,go_sem]
   exact Fin.aD _ rfl rfl (by rw [<-hR];rfl)
theorem jX (s:ak) (hs:s.sm):Fn Tryz.prog 332 [.agg s.enc] [] (I s.lv) [] []:=by
 generalize hR:s.lv=R
 unfold ak.lv at hR
 refine Fn.aO Sb (by simp) ?_
 unfold R9 SC.mk' ak.enc
 simp only [go_sem]
 refine aQ (za s hs) rfl rfl ?_
 simp only [go_sem]
 by_cases h1:s.val≠0
 ·rw [if_pos h1] at hR
  have h1':(s.val !=0)=true:=by simpa using h1
  simp only [h1',go_sem]
  exact Fin.aD _ rfl rfl (by rw [<-hR];rfl)
 rw [if_neg h1] at hR
 have h1':(s.val !=0)=false:=by simpa using h1
 simp only [h1',go_sem]
 by_cases h3:s.live=true
 ·simp only [h3,Bool.not_true,Bool.false_eq_true,if_false] at hR
  simp only [h3,Bool.not_true,go_sem]
  exact Fin.aD _ rfl rfl (by rw [<-hR];rfl)
 ·simp only [Bool.not_eq_true] at h3
  simp only [h3,Bool.not_false,if_true] at hR
  simp only [h3,Bool.not_false,go_sem]
  exact Fin.aD _ rfl rfl (by rw [<-hR];rfl)
theorem ND {s:ak} (h:s.lv=0):s.val=0/\s.live=true:=by
 unfold ak.lv at h
 split at h
 ·contradiction
 ·split at h
  ·omega
  ·rename_i h1 h2;exact ⟨by simpa using h1,by simpa using h2⟩
theorem oO {s:ak} (h:s.val=0):s.ready.val=0/\s.aR.val=0:=by
 unfold ak.val at h
 split at h
 ·contradiction
 ·split at h
  ·contradiction
  ·rename_i h1 h2;exact ⟨by simpa using h1,by simpa using h2⟩
theorem ac7 {r:Ring} (h:r.val=0):0<=r.size/\r.size<=12/\0<=r.head/\r.head<=12/\r.cells.length<=12/\1<=r.cells.length/\r.size<=r.cells.length/\r.list.length=r.size:=by
 obtain ⟨n,h',l,rg,e⟩:=Ring.val_zero h
 rw [e,Ring.ac4 rg];unfold Ring.mk';simp only [fG];have:=rg.n1;have:=rg.n2;have:=rg.ll;have:=rg.hh;refine ⟨?_,?_,?_,?_,?_,?_,?_,?_⟩<;>first|omega|trivial
theorem Wz {s:ak} (h:s.val=0):0<=s.cnt/\s.cnt<=24:=by
 have h1:=oO h
 have h2:=ac7 h1.1
 have h3:=Table.val_zero h1.2
 unfold ak.cnt;omega
theorem nA (s:ak) (hs:s.sm):Fn Tryz.prog 321 [.agg s.enc] [] (I s.stored) [] []:=by
 generalize hR:s.stored=R
 unfold ak.stored at hR
 refine Fn.aO RL (by simp) ?_
 unfold RJ SC.mk' ak.enc
 simp only [go_sem]
 refine aQ (jX s hs) rfl rfl ?_
 simp only [go_sem]
 by_cases h1:s.lv≠0
 ·rw [if_pos h1] at hR
  have h1':(s.lv !=0)=true:=by simpa using h1
  simp only [h1',go_sem]
  exact Fin.aD _ rfl rfl (by rw [<-hR];rfl)
 rw [if_neg h1] at hR
 have h1':(s.lv !=0)=false:=by simpa using h1
 have h2:=Wz (ND (show s.lv=0 by simpa using h1)).1
 have hw:IntKind.i64.wrap (s.ready.size+(s.aR.l.length:Int))=s.cnt:=by unfold ak.cnt at h2 ⊢;rw [bF (by omega)]
 simp only [h1',hw,List.length_map,go_sem]
 exact Fin.aD _ rfl rfl (by rw [<-hR];rfl)
theorem kH (s:ak) (r:Int) (hs:s.sm):Fn Tryz.prog 278 [.agg s.enc,I r] [] (Bo (s.owns r)) [] []:=by
 generalize hR:s.owns r=R
 unfold ak.owns at hR
 refine Fn.aO Rn (by simp) ?_
 unfold Rm SC.mk' ak.enc
 simp only [go_sem]
 refine aQ (jX s hs) rfl rfl ?_
 simp only [go_sem]
 by_cases h1:(s.lv==0)=true
 ·simp only [h1,Bool.true_and] at hR
  simp only [h1,go_sem]
  by_cases h2:s.low<=r
  ·simp only [h2,decide_true,Bool.true_and] at hR
   simp only [h2,go_sem]
   exact Fin.aD _ rfl rfl (by rw [<-hR];rfl)
  ·simp only [h2,decide_false,Bool.false_and] at hR
   simp only [h2,go_sem]
   exact Fin.aD _ rfl rfl (by rw [<-hR];rfl)
 ·simp only [Bool.not_eq_true] at h1
  simp only [h1,Bool.false_and] at hR
  simp only [h1,go_sem]
  exact Fin.aD _ rfl rfl (by rw [<-hR];rfl)
theorem NE (m:ai) (k:Int):Fn Tryz.prog 390 [.agg m.enc,I k] [] (Bo (m.spent k)) [] []:=by
 refine Fn.aO Tw (by simp) ?_
 unfold Tv SC.mk' ai.enc
 simp only [go_sem]
 have hJ:=trivial
 repeat' first
  |(first|refine sC ?_|refine sD ?_);simp only [hJ,go_sem]
  |(first|refine bD (fun hq=> ?_) (fun hq=> ?_)|refine dS (fun hq=> ?_) (fun hq=> ?_)|refine dD (fun hq=> ?_) (fun hq=> ?_))<;>simp only [hq,hJ,go_sem]
  |refine sM ?_;simp only [ay,rv,au,get,hJ,go_sem]
  |refine bn ?_
  |fail
 all_goals clear hJ
 all_goals simp_all [ai.spent]
theorem amg (m:ai) (e k:Int):Fn Tryz.prog 426 [.agg m.enc,I e,I k] [] (Bo (m.J6 e k)) [] []:=by
 generalize hR:m.J6 e k=R
 unfold ai.J6 ai.gZ at hR
 refine Fn.aO aby (by simp) ?_
 unfold Uu SC.mk' ai.enc
 simp only [go_sem]
 have aK:=sO m e
 have aV:=NE m k
 exact aX
theorem amh {m:ai} (h:m.val=0):0<=m.count/\m.count<=8/\0<=m.gen/\m.gen<=65536/\0<=m.route/\m.route<65536/\1<=m.id/\m.id<=1073741824:=by
 unfold ai.val at h
 split at h
 ·rename_i hg
  simp only [ai.good,sN,Bool.and_eq_true,decide_eq_true_eq] at hg
  omega
 ·omega
theorem ami (m:ai):Fn Tryz.prog 427 [.agg m.enc] [] (.aG [.agg m.jU.1.enc,I m.jU.2]) [] []:=by
 generalize hR:m.jU=R
 unfold ai.jU at hR
 refine Fn.aO abz (by simp) ?_
 unfold Uv SC.mk' ai.enc
 simp only [go_sem]
 refine aQ (wI m) rfl rfl ?_
 simp only [go_sem]
 by_cases h1:m.val=0
 ·have hb:=amh h1
  rw [if_neg (by simpa using h1)] at hR
  have w1:IntKind.i64.wrap (m.gen+1)=m.gen+1:=bF (by omega)
  have w2:IntKind.i64.wrap (m.count+1)=m.count+1:=bF (by omega)
  exact aX
 ·rw [if_pos h1] at hR
  exact aX
theorem amj (s:ak) (h:Hd) (now ep:Int) (hs:s.sm):Fn Tryz.prog 431 [.agg s.enc,.agg h.enc,I now,I ep] [] (Bo (s.holds h now ep)) [] []:=by
 have hs1:=hs.1
 have hs2:=hs.2
 generalize hR:s.holds h now ep=R
 unfold ak.holds at hR
 refine Fn.aO ajR (by simp) ?_
 unfold UB SC.mk' ak.enc Hd.enc
 simp only [go_sem]
 have aK:=jX s hs
 have aV:=qo ep
 have bL:=DV now
 have dV:=acZ s.aR h.id (by omega) (by omega)
 have fT:=sO (s.aR.qg h.id).1.msg ep
 have hJ:=trivial
 repeat' first
  |(first|refine sC ?_|refine sD ?_);simp only [hJ,Lease.enc,go_sem]
  |(first|refine bD (fun hq=> ?_) (fun hq=> ?_)|refine dS (fun hq=> ?_) (fun hq=> ?_)|refine dD (fun hq=> ?_) (fun hq=> ?_))<;>simp only [hq,hJ,Lease.enc,go_sem]
  |refine sM ?_;simp only [ay,rv,au,get,hJ,Lease.enc,go_sem]
  |refine bn ?_
  |fail
 all_goals clear aK aV bL dV fT hJ
 all_goals simp_all [ai.gZ]
theorem NF (s:ak) (h:Hd) (now ep:Int) (g:Bool) (hs:s.sm):Fn Tryz.prog 387 [.agg s.enc,.agg h.enc,I now,I ep,Bo g] [] (I (s.held h now ep g)) [] []:=by
 generalize hR:s.held h now ep g=R
 unfold ak.held at hR
 refine Fn.aO ajI (by simp) ?_
 unfold Tn SC.mk' ak.enc Hd.enc
 simp only [go_sem]
 have aK:=jX s hs
 have aV:=qo ep
 have bL:=DV now
 have dV:=amj s h now ep hs
 exact aX
theorem amk (s:ak) (h:Hd) (now ep:Int) (hs:s.sm):Fn Tryz.prog 333 [.agg s.enc,.agg h.enc,I now,I ep] [] (.aG [.agg (s.yO h now ep).1.enc,I (s.yO h now ep).2]) [] []:=by
 have hs1:=hs.1
 have hs2:=hs.2
 generalize hR:s.yO h now ep=R
 unfold ak.yO at hR
 refine Fn.aO ajk (by simp) ?_
 unfold Sc SC.mk' ak.enc Hd.enc
 simp only [go_sem]
 have aK:=NF s h now ep true hs
 have aV:=Nw s.aR h.id (by omega) (by omega)
 have hJ:=Table.enc.eq_1
 exact aZ
attribute [local go_sem] List.length_map
theorem aml {s:ak} {h:Hd} {now ep:Int} {g:Bool} (e:s.held h now ep g=0):s.lv=0/\jD ep=true/\oD now=true/\g=true/\s.holds h now ep=true:=by
 unfold ak.held at e
 split at e
 ·omega
 split at e
 ·omega
 split at e
 ·omega
 ·simp_all
theorem ac8 {n:Int} (h:oD n=true):0<=n/\n<=1073741824:=by simpa [oD] using h
theorem ac9 {n:Int} (h:qi n=true):0<=n/\n<=1000:=by simpa [qi] using h
theorem amm (s:ak) (h:Hd) (now ep li:Int) (hs:s.sm):Fn Tryz.prog 334 [.agg s.enc,.agg h.enc,I now,I ep,I li] [] (.aG [.agg (s.yP h now ep li).1.enc,I (s.yP h now ep li).2]) [] []:=by
 have hs1:=hs.1
 have hs2:=hs.2
 generalize hR:s.yP h now ep li=R
 unfold ak.yP at hR
 refine Fn.aO ajl (by simp) ?_
 unfold Sd SC.mk' ak.enc Hd.enc
 simp only [go_sem]
 have aK:=uY li
 have aV:=NF s h now ep (kE li) hs
 have bL:=Nw s.aR h.id (by omega) (by omega)
 have dV:=NE (s.aR.release h.id).2.1 li
 have fT:=Ny s.ready (s.aR.release h.id).2.1
 have mV:=ame s.ready (s.aR.release h.id).2.1
 have hJ:=ah Table.enc.eq_1 (ah Ring.enc.eq_1 ai.enc.eq_1)
 exact aZ
theorem amn (s:ak) (h:Hd) (now ep bC:Int) (hs:s.sm):Fn Tryz.prog 335 [.agg s.enc,.agg h.enc,I now,I ep,I bC] [] (.aG [.agg (s.change h now ep bC).1.enc,I (s.change h now ep bC).2]) [] []:=by
 have hs1:=hs.1
 have hs2:=hs.2
 generalize hR:s.change h now ep bC=R
 unfold ak.change at hR
 refine Fn.aO ajm (by simp) ?_
 unfold Sg SC.mk' ak.enc Hd.enc
 simp only [go_sem]
 by_cases e:s.held h now ep (qi bC)=0
 ·have e1:=aml e
  have e2:=ac8 e1.2.2.1
  have e3:=ac9 e1.2.2.2.1
  have w:IntKind.i64.wrap (now+bC)=now+bC:=bF (by omega)
  have aK:=Nz bC
  have aV:=NF s h now ep (qi bC) hs
  have bL:=ama s.aR h.id (now+bC) (by omega) (by omega)
  have hJ:=ah w (ah Table.enc.eq_1 (ah Ring.enc.eq_1 ai.enc.eq_1))
  exact aZ
 ·have aK:=Nz bC
  have aV:=NF s h now ep (qi bC) hs
  exact aX
theorem ada (s:ak) (m:ai) (hs:s.sm):Fn Tryz.prog 326 [.agg s.enc,.agg m.enc] [] (.aG [.agg (s.put m).1.enc,I (s.put m).2]) [] []:=by
 have hA:=NC s hs
 generalize hR:s.put m=R
 unfold ak.put at hR
 refine Fn.aO RX (by simp) ?_
 unfold RV SC.mk' ak.enc
 simp only [ai.enc,go_sem]
 have aK:=jX s hs
 have aV:=wI m
 have bL:=nA s hs
 have dV:=xq s hs
 have fT:=wK s.all m.id (by omega)
 have mV:=Ny s.ready m
 have hJ:=Ring.enc.eq_1
 exact aZ
theorem amo (s:ak) (k:Int) (hs:s.sm):Fn Tryz.prog 343 [.agg s.enc,I k] [] (.aG [.agg (s.iG k).1.enc,.sl 7 ((s.iG k).2.1.map ai.enc),I (s.iG k).2.2]) [] []:=by
 generalize hR:s.iG k=R
 unfold ak.iG at hR
 refine Fn.aO ajs (by simp) ?_
 unfold Sr SC.mk' ak.enc
 simp only [go_sem]
 have aK:=jX s hs
 have aV:=amf s.ready k
 have hJ:=Ring.enc.eq_1
 exact aZ
theorem WA (m:ai) (lo hi:Int):Fn Tryz.prog 340 [.agg m.enc,I lo,I hi] [] (.agg (m.qh lo hi).enc) [] []:=by
 refine Fn.aO ajq (by simp) ?_
 unfold Sn SC.mk' ai.enc
 simp only [go_sem]
 have aK:=abL m.route lo hi
 have hJ:=trivial
 repeat' first
  |(first|refine sC ?_|refine sD ?_);simp only [hJ,go_sem]
  |(first|refine bD (fun hq=> ?_) (fun hq=> ?_)|refine dS (fun hq=> ?_) (fun hq=> ?_)|refine dD (fun hq=> ?_) (fun hq=> ?_))<;>simp only [hq,hJ,go_sem]
  |refine sM ?_;simp only [ay,rv,au,get,hJ,go_sem]
  |refine bn ?_
  |fail
 all_goals clear aK hJ
 all_goals simp_all [ai.qh]
theorem adb (m:ai):Fn Tryz.prog 339 [.agg m.enc] [] (.agg m.gV.enc) [] []:=by
 refine Fn.aO ajp (by simp) ?_
 unfold Sm SC.mk' ai.enc
 simp only [go_sem]
 have hJ:=trivial
 repeat' first
  |(first|refine sC ?_|refine sD ?_);simp only [hJ,go_sem]
  |(first|refine bD (fun hq=> ?_) (fun hq=> ?_)|refine dS (fun hq=> ?_) (fun hq=> ?_)|refine dD (fun hq=> ?_) (fun hq=> ?_))<;>simp only [hq,hJ,go_sem]
  |refine sM ?_;simp only [ay,rv,au,get,hJ,go_sem]
  |refine bn ?_
  |fail
 all_goals clear hJ
 all_goals simp_all [ai.gV]
theorem amq (id ro ep now:Int) (b:ByteArray):Fn Tryz.prog 324 [I id,I ro,I ep,I now,.v (.string b)] [] (.aG [.agg (ai.new id ro ep now b).1.enc,I (ai.new id ro ep now b).2]) [] []:=by
 generalize hR:ai.new id ro ep now b=R
 unfold ai.new at hR
 refine Fn.aO RQ (by simp) ?_
 unfold RP SC.mk' ai.enc
 simp only [go_sem]
 have aK:=wI ⟨id,ro,ep,0,0,now,b⟩
 exact aX
end Go.Eng
namespace Go.Eng
open Go Go.Proofs
theorem DW (t:Table) (id:Int):(t.release id).1.l.length<=t.l.length/\(t.release id).1.heap.length<=t.heap.length:=by
 unfold Table.release
 split
 ·exact ⟨Nat.zero_le _,Nat.zero_le _⟩
 ·split
  ·exact ⟨Nat.zero_le _,Nat.zero_le _⟩
  ·exact ⟨List.length_eraseIdx_le ..,Wv _ _⟩
theorem NG (t:Table) (m:ai) (dl:Int):(t.grant m dl).1.l.length<=t.l.length+1/\(t.grant m dl).1.heap.length<=t.heap.length+1:=by
 unfold Table.grant
 repeat' split
 all_goals first|exact ⟨Nat.zero_le _,Nat.zero_le _⟩|skip
 refine ⟨?_,Wu _ _⟩
 simp;omega
theorem ade (t:Table) (now ep:Int):(t.wT now ep).length<=13:=by
 have key:∀ l:List Int,(wS t ep l).length<=l.length:=by
  intro l
  induction l with
  |nil=>exact Nat.le_refl _
  |cons x r ih=>simp only [wS];split<;>simp<;>omega
 have k2:∀ (f:Nat) (h:List Due),(kD now f h).length<=f:=by
  intro f
  induction f with
  |zero=>intro h;exact Nat.le_refl _
  |succ f ih=>
   intro h;rw [kD];split;· simp only [List.length_cons];have:=ih (qf h 0);omega
   ·exact Nat.zero_le _
 unfold Table.wT
 split
 ·exact Nat.zero_le _
 ·exact Nat.le_trans (key _) (k2 _ _)
theorem adf (s:ak) (now ep li:Int) (hs:s.sm):Fn Tryz.prog 358 [.agg s.enc,I now,I ep,I li] [] (.aG [.agg (s.expire now ep li).1.enc,.sl 1 (encI (s.expire now ep li).2.1),I (s.expire now ep li).2.2]) [] []:=by
 have hs1:=hs.1
 have hs2:=hs.2
 generalize hR:s.expire now ep li=R
 unfold ak.expire at hR
 refine Fn.aO abp (by simp) ?_
 unfold SQ SC.mk' ak.enc
 simp only [go_sem]
 by_cases h0:s.lv≠0\/jD ep=false\/kE li=false\/oD now=false
 ·have aK:=jX s hs
  have aV:=qo ep
  have bL:=uY li
  have dV:=DV now
  exact aX
 rw [if_neg (fun h=>h0 (.inl h)),if_neg (fun h=>h0 (.inr h))] at hR
 have g1:s.lv=0:=by simpa using fun h=>h0 (.inl h)
 have g2:jD ep=true:=by simpa using fun h=>h0 (.inr (.inl h))
 have g3:kE li=true:=by simpa using fun h=>h0 (.inr (.inr (.inl h)))
 have g4:oD now=true:=by simpa using fun h=>h0 (.inr (.inr (.inr h)))
 refine aQ (jX s hs) rfl rfl ?_
 simp only [g1,go_sem]
 refine aQ (qo ep) rfl rfl ?_
 simp only [g2,Bool.not_true,go_sem]
 refine aQ (uY li) rfl rfl ?_
 simp only [g3,Bool.not_true,go_sem]
 refine aQ (DV now) rfl rfl ?_
 simp only [g4,Bool.not_true,go_sem]
 refine aQ (amb s.aR now ep (by omega) (by omega)) rfl rfl ?_
 have hl:=ade s.aR now ep
 generalize s.aR.wT now ep=D at hR hl
 simp only [go_sem]
 refine go_loop (fun x:{x:Nat×ak // x.1<=D.length/\x.2.sm/\yQ (D.drop x.1) x.2=R.1}=>⟨3000,[(4,.ptr 8 0),(8,.ptr 16 0),(12,.sl 1 (encI D)),(13,I x.1.1)],[(8,.box [Bo x.1.2.live,I x.1.2.low,I x.1.2.high,.sl 7 (x.1.2.ready.cells.map ai.enc),I x.1.2.ready.head,I x.1.2.ready.size,.sl 8 (x.1.2.aR.l.map Lease.enc),.sl 2 (x.1.2.aR.heap.map Due.enc)]),(16,.box [Bo false,I 0,I 0,Nl,I 0,I 0,Nl,Nl])]⟩) (fun x=>D.length - x.1.1) ⟨(0,s),by omega,hs,by rw [<-hR];rfl⟩ (wk [(8,8),(16,16)] []) ?_
 rintro ⟨⟨j,s'⟩,hj,hs',he⟩ B hB
 simp only at hj hs' he
 have hs1:=hs'.1
 have hs2:=hs'.2
 simp only [go_sem]
 by_cases e1:j<D.length
 ·have e2:decide ((j:Int)<(D.length:Int))=true:=by simp;omega
  rw [eD 0 e1] at he
  simp only [yQ] at he
  have hx:nth (encI D) j=[I (D[j]?.getD 0)]:=bT (fun z=>[I z]) 0 e1
  have hw:=bQ (show j<=100000 by omega)
  have hl2:=DW s'.aR (D[j]?.getD 0)
  generalize D[j]?.getD 0=id at hx he hl2
  simp only [e2,hx,Int.toNat_natCast,go_sem]
  repeat (refine bn ?_)
  refine bX (Nw s'.aR id (by omega) (by omega)) rfl rfl ?_
  simp only [Table.enc,ai.enc,go_sem]
  repeat (refine bn ?_)
  refine aQ (Ny s'.ready (s'.aR.release id).2.1) rfl rfl ?_
  simp only [Ring.enc,hw,go_sem]
  exact hB _ ⟨(j+1,_),by simp only;omega,⟨by simp only;omega,by simp only;omega⟩,he⟩ (by simp only;omega) (wk [(8,8),(16,16)] [])
 ·have e2:decide ((j:Int)<(D.length:Int))=false:=by simp;omega
  rw [eO (by omega)] at he
  simp only [yQ] at he
  simp only [e2,go_sem]
  exact Fin.aD _ rfl rfl (by rw [<-hR] at he ⊢;simp only at he ⊢;rw [<-he];simp only [ay,rv,au,get,ak.enc,go_sem])
end Go.Eng
