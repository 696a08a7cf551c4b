/-
  Part of a proof: lemmas and definitions of this work.
  No condition.
-/
import Derived.Test.YthhjbngoibmpgaaGreatA08
import Derived.Test.YthhjbngoibmpgaaGreatA19
set_option linter.all false
set_option maxRecDepth 100000
set_option maxHeartbeats 8000000
namespace Go.Eng
open Go Go.Proofs
theorem Wz {s:ak} (h:s.val=0) (hl:s.live=true):0<=s.low/\s.low<=s.high/\s.high<65536:=by
 have hp:=oU h
 unfold ak.val at h
 rw [if_neg (by simp [hp.1]),if_neg (by simp [hp.2]),hl] at h
 simp only [Bool.not_true,Bool.false_eq_true,if_false] at h
 split at h
 ·omega
 ·rename_i hs;simpa [yR] using hs
theorem acH (c a b:Int):(ak.new c a b).1.aR=Table.z:=by
 unfold ak.new
 repeat' split
 all_goals rfl
theorem ama (s:ak) (mid:Int) (hs:s.sm):Fn Tryz.prog 385 [.agg s.enc,I mid] [] (.aF [.agg (s.divide mid).1.enc,.agg (s.divide mid).2.1.enc,I (s.divide mid).2.2]) [] []:=by
 generalize hR:s.divide mid=R
 unfold ak.divide at hR
 refine Fn.aO aji (by simp) ?_
 unfold U4 SC.mk' ak.enc
 simp only [go_sem]
 by_cases h0:s.lv≠0\/mid<s.low\/s.high<=mid
 ·have aK:=jX s hs
  exact aX
 have g1:s.lv=0:=by simpa using fun h=>h0 (.inl h)
 have g2:¬ mid<s.low:=fun h=>h0 (.inr (.inl h))
 have g3:¬ s.high<=mid:=fun h=>h0 (.inr (.inr h))
 have hv:=NC g1
 have hsp:=Wz hv.1 hv.2
 have ht:=Table.val_zero (oU hv.1).2
 have hl:=s.ready.rz
 have hw:IntKind.i64.wrap (mid+1)=mid+1:=bE (by omega)
 rw [if_neg (by simp [g1]),if_neg (by simp [g2,g3])] at hR
 refine aQ (jX s hs) rfl rfl ?_
 simp only [g1,g2,g3,List.length_map,go_sem]
 refine aQ (Wt s.ready.cells.length s.low mid) rfl rfl ?_
 simp only [hw,ak.enc,go_sem]
 refine aQ (Wt s.ready.cells.length (mid+1) s.high) rfl rfl ?_
 simp only [hw,ak.enc,go_sem]
 refine bX (ve s) rfl rfl ?_
 simp only [go_sem]
 refine bX (NG (ak.new s.ready.cells.length s.low mid).1 s.ready.list s.aR.l (by rw [acH];exact ⟨Nat.zero_le _,Nat.zero_le _⟩) (by omega) (by omega)) rfl rfl ?_
 simp only [ak.enc,go_sem]
 refine bX (ve s) rfl rfl ?_
 simp only [go_sem]
 refine bX (NG (ak.new s.ready.cells.length (mid+1) s.high).1 s.ready.list s.aR.l (by rw [acH];exact ⟨Nat.zero_le _,Nat.zero_le _⟩) (by omega) (by omega)) rfl rfl ?_
 simp only [ak.enc,go_sem]
 repeat (refine bn ?_)
 exact Fin.aD _ rfl rfl (by rw [<-hR];simp only [ay,rv,au,get,ak.enc,go_sem])
theorem acI {s:ak} (h:s.val=0):0<=s.stored/\s.stored<=24:=by
 unfold ak.stored
 split
 ·omega
 ·exact Wv h
theorem amb (a b:ak) (ha:a.sm) (hb:b.sm):Fn Tryz.prog 389 [.agg a.enc,.agg b.enc] [] (.aF [.agg (a.wT b).1.enc,I (a.wT b).2]) [] []:=by
 generalize hR:a.wT b=R
 unfold ak.wT at hR
 have hla:=NA a ha
 have hlb:=NA b hb
 refine Fn.aO ajl (by simp) ?_
 unfold U7 SC.mk' ak.enc
 simp only [go_sem]
 by_cases h0:a.val≠0\/b.val≠0
 ·have aK:=zi a ha
  have aU:=zi b hb
  exact aX
 have g1:a.val=0:=by simpa using fun h=>h0 (.inl h)
 have g2:b.val=0:=by simpa using fun h=>h0 (.inr h)
 rw [if_neg (by simp [g1]),if_neg (by simp [g2])] at hR
 refine aQ (zi a ha) rfl rfl ?_
 simp only [g1,go_sem]
 refine aQ (zi b hb) rfl rfl ?_
 simp only [g2,go_sem]
 by_cases h1:a.live=true/\b.live=true
 ·have sa:=Wz g1 h1.1
  have sb:=Wz g2 h1.2
  have w1:IntKind.i64.wrap (a.high+1)=a.high+1:=bE (by omega)
  have w2:IntKind.i64.wrap (b.high+1)=b.high+1:=bE (by omega)
  have hq:(!a.live||(!b.live||((a.high+1 !=b.low)&&(b.high+1 !=a.low))))=((a.high+1 !=b.low)&&(b.high+1 !=a.low)):=by rw [h1.1,h1.2];rfl
  rw [hq] at hR
  have k1:(!a.live)=false:=by rw [h1.1];rfl
  have k2:(!b.live)=false:=by rw [h1.2];rfl
  simp only [k1,k2,w1,w2,go_sem]
  by_cases h2:((a.high+1 !=b.low)&&(b.high+1 !=a.low))=true
  ·rw [if_pos h2] at hR
   simp only [Bool.and_eq_true] at h2
   simp only [h2.1,h2.2,w2,go_sem]
   exact Fin.aD _ rfl rfl (by rw [<-hR];simp only [ay,rv,au,get,ak.enc,List.map_nil,go_sem])
  rw [if_neg h2] at hR
  have st1:=acI g1
  have st2:=acI g2
  have w3:IntKind.i64.wrap (a.stored+b.stored)=a.stored+b.stored:=bE (by omega)
  have tb:=Table.val_zero (oU g2).2
  have ta:=Table.val_zero (oU g1).2
  have hl:=b.ready.rz
  by_cases h3:(a.high+1 !=b.low)=true
  ·have h4:(b.high+1 !=a.low)=false:=by simpa [h3] using h2
   simp only [h3,h4,w2,go_sem]
   (
    refine bX (nu a ha) rfl rfl ?_
    simp only [go_sem]
    refine bX (nu b hb) rfl rfl ?_
    simp only [w3,List.length_map,go_sem]
    repeat (refine bn ?_)
    by_cases h5:(a.ready.cells.length:Int)<a.stored+b.stored
    ·rw [if_pos h5] at hR
     simp only [h5,go_sem]
     exact Fin.aD _ rfl rfl (by rw [<-hR];simp only [ay,rv,au,get,ak.enc,List.map_nil,go_sem])
    rw [if_neg h5] at hR
    simp only [h5,go_sem]
    refine bX (xh a ha) rfl rfl ?_
    simp only [go_sem]
    refine bX (xh b hb) rfl rfl ?_
    generalize a.all=L at hR hla
    generalize b.all=M at hR hlb
    simp only [go_sem]
    repeat (refine bn ?_)
    generalize hS:sV L M=S at hR
    refine go_loop (fun j:{j:Nat // j<=M.length/\sV L (M.drop j)=S}=>⟨5000,[(2,.ptr 8 0),(3,.ptr 16 0),(4,.ptr 24 0),(8,.sl 7 (L.map ai.enc)),(9,.sl 7 (M.map ai.enc)),(10,I j.1)],[(8,.box [Bo a.live,I a.low,I a.high,.sl 7 (a.ready.cells.map ai.enc),I a.ready.head,I a.ready.size,.sl 8 (a.aR.l.map Lease.enc),.sl 2 (a.aR.heap.map Due.enc)]),(16,.box [Bo b.live,I b.low,I b.high,.sl 7 (b.ready.cells.map ai.enc),I b.ready.head,I b.ready.size,.sl 8 (b.aR.l.map Lease.enc),.sl 2 (b.aR.heap.map Due.enc)]),(24,.box [Bo false,I 0,I 0,Nl,I 0,I 0,Nl,Nl])]⟩) (fun j=>M.length - j.1) ⟨0,by omega,hS⟩ (wk [(8,8),(16,16),(24,24)] []) ?_
    rintro ⟨j,hj,he⟩ B hB
    simp only [go_sem]
    by_cases e1:j<M.length
    ·have e2:decide ((j:Int)<(M.length:Int))=true:=by simp;omega
     rw [eB ai.z e1] at he
     simp only [sV,show M[j]?.getD ai.z=gM M j from rfl] at he
     have hx:nth (M.map ai.enc) j=ai.enc (gM M j):=bS ai.enc ai.z e1
     have hw:=bT (show j<=100000 by omega)
     generalize gM M j=m at hx he
     simp only [e2,hx,ai.enc,List.length_map,Int.toNat_natCast,go_sem]
     repeat (refine bn ?_)
     refine aQ (wI L m.id (by omega)) rfl rfl ?_
     simp only [go_sem]
     by_cases e3:0<=fD L m.id
     ·simp only [e3,decide_true,Bool.true_or] at he
      rw [<-he,if_pos rfl] at hR
      simp only [e3,go_sem]
      exact Fin.aD _ rfl rfl (by rw [<-hR];simp only [ay,rv,au,get,ak.enc,List.map_nil,go_sem])
     ·simp only [e3,decide_false,Bool.false_or] at he
      simp only [e3,hw,go_sem]
      exact hB _ ⟨j+1,e1,he⟩ (by simp only;omega) (wk [(8,8),(16,16),(24,24)] [])
    ·have e2:decide ((j:Int)<(M.length:Int))=false:=by simp;omega
     rw [eH (by omega)] at he
     simp only [sV] at he
     rw [<-he,if_neg (by simp)] at hR
     simp only [e2,List.length_map,go_sem]
     repeat (refine bn ?_)
     refine bX (ve b) rfl rfl ?_
     simp only [go_sem]
     refine bX (NG {a with low:=min a.low b.low,high:=max a.high b.high} b.ready.list b.aR.l ⟨by simp only;omega,by simp only;omega⟩ (by omega) (by omega)) rfl rfl ?_
     simp only [ak.enc,go_sem]
     repeat (refine bn ?_)
     exact Fin.aD _ rfl rfl (by rw [<-hR];simp only [ay,rv,au,get,ak.enc,go_sem]))
  ·simp only [Bool.not_eq_true] at h3
   simp only [h3,go_sem]
   (
    refine bX (nu a ha) rfl rfl ?_
    simp only [go_sem]
    refine bX (nu b hb) rfl rfl ?_
    simp only [w3,List.length_map,go_sem]
    repeat (refine bn ?_)
    by_cases h5:(a.ready.cells.length:Int)<a.stored+b.stored
    ·rw [if_pos h5] at hR
     simp only [h5,go_sem]
     exact Fin.aD _ rfl rfl (by rw [<-hR];simp only [ay,rv,au,get,ak.enc,List.map_nil,go_sem])
    rw [if_neg h5] at hR
    simp only [h5,go_sem]
    refine bX (xh a ha) rfl rfl ?_
    simp only [go_sem]
    refine bX (xh b hb) rfl rfl ?_
    generalize a.all=L at hR hla
    generalize b.all=M at hR hlb
    simp only [go_sem]
    repeat (refine bn ?_)
    generalize hS:sV L M=S at hR
    refine go_loop (fun j:{j:Nat // j<=M.length/\sV L (M.drop j)=S}=>⟨5000,[(2,.ptr 8 0),(3,.ptr 16 0),(4,.ptr 24 0),(8,.sl 7 (L.map ai.enc)),(9,.sl 7 (M.map ai.enc)),(10,I j.1)],[(8,.box [Bo a.live,I a.low,I a.high,.sl 7 (a.ready.cells.map ai.enc),I a.ready.head,I a.ready.size,.sl 8 (a.aR.l.map Lease.enc),.sl 2 (a.aR.heap.map Due.enc)]),(16,.box [Bo b.live,I b.low,I b.high,.sl 7 (b.ready.cells.map ai.enc),I b.ready.head,I b.ready.size,.sl 8 (b.aR.l.map Lease.enc),.sl 2 (b.aR.heap.map Due.enc)]),(24,.box [Bo false,I 0,I 0,Nl,I 0,I 0,Nl,Nl])]⟩) (fun j=>M.length - j.1) ⟨0,by omega,hS⟩ (wk [(8,8),(16,16),(24,24)] []) ?_
    rintro ⟨j,hj,he⟩ B hB
    simp only [go_sem]
    by_cases e1:j<M.length
    ·have e2:decide ((j:Int)<(M.length:Int))=true:=by simp;omega
     rw [eB ai.z e1] at he
     simp only [sV,show M[j]?.getD ai.z=gM M j from rfl] at he
     have hx:nth (M.map ai.enc) j=ai.enc (gM M j):=bS ai.enc ai.z e1
     have hw:=bT (show j<=100000 by omega)
     generalize gM M j=m at hx he
     simp only [e2,hx,ai.enc,List.length_map,Int.toNat_natCast,go_sem]
     repeat (refine bn ?_)
     refine aQ (wI L m.id (by omega)) rfl rfl ?_
     simp only [go_sem]
     by_cases e3:0<=fD L m.id
     ·simp only [e3,decide_true,Bool.true_or] at he
      rw [<-he,if_pos rfl] at hR
      simp only [e3,go_sem]
      exact Fin.aD _ rfl rfl (by rw [<-hR];simp only [ay,rv,au,get,ak.enc,List.map_nil,go_sem])
     ·simp only [e3,decide_false,Bool.false_or] at he
      simp only [e3,hw,go_sem]
      exact hB _ ⟨j+1,e1,he⟩ (by simp only;omega) (wk [(8,8),(16,16),(24,24)] [])
    ·have e2:decide ((j:Int)<(M.length:Int))=false:=by simp;omega
     rw [eH (by omega)] at he
     simp only [sV] at he
     rw [<-he,if_neg (by simp)] at hR
     simp only [e2,List.length_map,go_sem]
     repeat (refine bn ?_)
     refine bX (ve b) rfl rfl ?_
     simp only [go_sem]
     refine bX (NG {a with low:=min a.low b.low,high:=max a.high b.high} b.ready.list b.aR.l ⟨by simp only;omega,by simp only;omega⟩ (by omega) (by omega)) rfl rfl ?_
     simp only [ak.enc,go_sem]
     repeat (refine bn ?_)
     exact Fin.aD _ rfl rfl (by rw [<-hR];simp only [ay,rv,au,get,ak.enc,go_sem]))
 ·have hq:(!a.live||(!b.live||((a.high+1 !=b.low)&&(b.high+1 !=a.low))))=true:=by
   cases ea:a.live<;>cases eb:b.live<;>simp_all
  rw [if_pos hq] at hR
  by_cases ea:(!a.live)=true
  ·simp only [ea,go_sem]
   exact Fin.aD _ rfl rfl (by rw [<-hR];simp only [ay,rv,au,get,ak.enc,List.map_nil,go_sem])
  ·have eb:(!b.live)=true:=by
    cases eb:b.live<;>simp_all
   simp only [Bool.not_eq_true] at ea
   simp only [ea,eb,go_sem]
   exact Fin.aD _ rfl rfl (by rw [<-hR];simp only [ay,rv,au,get,ak.enc,List.map_nil,go_sem])
theorem acJ (id:Int):∀ (l:List Span) (i:Nat),wU id l i= -1\/∃ k:Nat,wU id l i=((i+k:Nat):Int)/\k<l.length
 |[],i=> .inl rfl
 |d::r,i=>by
  simp only [wU]
  split
  ·exact .inr ⟨0,by simp,by simp⟩
  ·rcases acJ id r (i+1) with h|⟨k,h1,h2⟩
   ·exact .inl h
   ·exact .inr ⟨k+1,by rw [h1];omega,by simp;omega⟩
theorem NH (d:Dir) (id:Int):d.idx id= -1\/∃ k:Nat,d.idx id=(k:Int)/\k<d.l.length:=by
 unfold Dir.idx
 rcases acJ id d.l 0 with h|⟨k,h1,h2⟩
 ·exact .inl h
 ·exact .inr ⟨k,by rw [h1,Nat.zero_add],h2⟩
theorem xk (d:Dir) (id:Int) (hl:d.l.length<=70000):Fn Tryz.prog 84 [.agg d.enc,I id] [] (I (d.idx id)) [] []:=by
 refine Fn.aO Qy (by simp) ?_
 unfold Qx SC.mk' Dir.enc Dir.idx
 simp only [go_sem]
 refine go_loop (fun j:{j:Nat // j<=d.l.length/\wU id (d.l.drop j) j=wU id d.l 0}=>⟨1000,[(1,I id),(2,.ptr 8 0),(5,I j.1)],[(8,.box [I d.version,.sl 3 (d.l.map Span.enc),.sl 1 (encI d.aM)])]⟩) (fun j=>d.l.length - j.1) ⟨0,by omega,rfl⟩ (wk [(8,8)] []) ?_
 rintro ⟨j,hj,he⟩ B hB
 simp only [go_sem]
 refine bC (fun h1=> ?_) (fun h1=> ?_)<;>simp only [h1,go_sem]
 ·have e1:j<d.l.length:=by simpa using h1
  rw [eB Span.z e1] at he
  simp only [wU] at he
  have hx:nth (d.l.map Span.enc) j=Span.enc (d.l[j]?.getD Span.z):=bS Span.enc Span.z e1
  simp only [Int.toNat_natCast,hx,Span.enc,go_sem]
  repeat (refine bn ?_)
  have hw:=bT (show j<=100000 by omega)
  refine bC (fun h2=> ?_) (fun h2=> ?_)<;>simp only [h2,hw,go_sem]
  ·rw [if_pos h2] at he
   exact Fin.aD _ rfl rfl (by rw [<-he];rfl)
  ·rw [if_neg (by simp [h2])] at he
   exact hB _ ⟨j+1,e1,he⟩ (by simp only;omega) (wk [(8,8)] [])
 ·have e1:d.l.length<=j:=by simpa using h1
  rw [eH e1] at he
  exact Fin.aD _ rfl rfl (by rw [<-he];rfl)
theorem WA (f:List Int):∀ (k:Nat) (a:Int),a<0->aM f k a=a
 |0,a,h=>rfl
 |k+1,a,h=>by simp only [aM];rw [if_neg (by omega)]
theorem zk (d:Dir) (hl:d.l.length<=70000):Fn Tryz.prog 35 [.agg d.enc] [] (I d.val) [] []:=by
 generalize hR:d.val=R
 unfold Dir.val at hR
 refine Fn.aO Qi (by simp) ?_
 unfold Qh SC.mk' Dir.enc
 simp only [go_sem]
 by_cases h0:d.version<1\/1099511627776<d.version\/(d.aM.length:Int)<1\/6<(d.aM.length:Int)
 ·rw [if_pos (by simpa using h0)] at hR
  exact aX
 have g1:¬ d.version<1:=fun h=>h0 (.inl h)
 have g2:¬ 1099511627776<d.version:=fun h=>h0 (.inr (.inl h))
 have g3:¬ (d.aM.length:Int)<1:=fun h=>h0 (.inr (.inr (.inl h)))
 have g4:¬ 6<(d.aM.length:Int):=fun h=>h0 (.inr (.inr (.inr h)))
 rw [if_neg (by simp [g1,g2,g3,g4])] at hR
 have fin:True:=trivial
 simp only [g1,g2,g3,g4,go_sem]
 refine go_loop (fun x:{x:Nat×Int // x.1<=d.l.length/\(0<=x.2/\x.2<=65536)/\lH d (d.l.drop x.1) x.2=R}=>⟨2000,[(1,.ptr 8 0),(3,I d.aM.length),(4,I x.1.2),(5,I x.1.1)],[(8,.box [I d.version,.sl 3 (d.l.map Span.enc),.sl 1 (encI d.aM)])]⟩) (fun x=>d.l.length - x.1.1) ⟨(0,0),by omega,by simp,hR⟩ (wk [(8,8)] []) ?_
 clear hR
 rintro ⟨⟨j,nx⟩,hj,hn,he⟩ B hB
 simp only at hj hn he
 simp only [go_sem]
 by_cases e1:j<d.l.length
 ·have e2:decide ((j:Int)<(d.l.length:Int))=true:=by simp;omega
  rw [eB Span.z e1] at he
  simp only [lH,show d.l[j]?.getD Span.z=gS d.l j from rfl] at he
  have hx:nth (d.l.map Span.enc) j=Span.enc (gS d.l j):=bS Span.enc Span.z e1
  have hw:=bT (show j<=100000 by omega)
  generalize gS d.l j=x at hx he
  simp only [e2,hx,Span.enc,List.length_map,Int.toNat_natCast,go_sem]
  repeat (refine bn ?_)
  by_cases e3:(x.low !=nx)=true
  ·simp only [e3,Bool.true_or,if_true] at he
   simp only [e3,go_sem]
   exact Fin.aD _ rfl rfl (by rw [<-he];rfl)
  simp only [Bool.not_eq_true] at e3
  by_cases e4:x.high<x.low
  ·simp only [e3,e4,decide_true,Bool.true_or,Bool.or_true,if_true] at he
   simp only [e3,e4,go_sem]
   exact Fin.aD _ rfl rfl (by rw [<-he];rfl)
  by_cases e5:65536<=x.high
  ·simp only [e3,e4,e5,decide_true,decide_false,Bool.or_true,if_true] at he
   simp only [e3,e4,e5,go_sem]
   exact Fin.aD _ rfl rfl (by rw [<-he];rfl)
  simp only [e3,e4,e5,decide_false,Bool.or_false,Bool.false_eq_true,if_false] at he
  have e6:x.low=nx:=by simpa using e3
  have hw2:IntKind.i64.wrap (x.high+1)=x.high+1:=bE (by omega)
  simp only [e3,e4,e5,hw,hw2,go_sem]
  exact hB _ ⟨(j+1,x.high+1),by simp only;omega,by simp only;omega,he⟩ (by simp only;omega) (wk [(8,8)] [])
 have e2:decide ((j:Int)<(d.l.length:Int))=false:=by simp;omega
 rw [eH (by omega)] at he
 simp only [lH] at he
 simp only [e2,go_sem]
 by_cases e3:(nx !=65536)=true
 ·rw [if_pos e3] at he
  simp only [e3,go_sem]
  exact Fin.aD _ rfl rfl (by rw [<-he];rfl)
 rw [if_neg e3] at he
 simp only [Bool.not_eq_true] at e3
 simp only [e3,go_sem]
 clear hB e1 e2 e3 hj
 refine go_loop (fun j:{j:Nat // j<=d.l.length/\uW d (d.l.drop j)=R}=>⟨3000,[(1,.ptr 8 0),(3,I d.aM.length),(7,I j.1)],[(8,.box [I d.version,.sl 3 (d.l.map Span.enc),.sl 1 (encI d.aM)])]⟩) (fun j=>d.l.length - j.1) ⟨0,by omega,he⟩ (wk [(8,8)] []) ?_
 clear he
 rintro ⟨j,hj,he⟩ B hB
 simp only [go_sem]
 by_cases e1:j<d.l.length
 ·have e2:decide ((j:Int)<(d.l.length:Int))=true:=by simp;omega
  rw [eB Span.z e1] at he
  simp only [uW,show d.l[j]?.getD Span.z=gS d.l j from rfl] at he
  have hx:nth (d.l.map Span.enc) j=Span.enc (gS d.l j):=bS Span.enc Span.z e1
  have hw:=bT (show j<=100000 by omega)
  generalize gS d.l j=x at hx he
  simp only [e2,hx,Span.enc,List.length_map,Int.toNat_natCast,go_sem]
  repeat (refine bn ?_)
  by_cases e3:x.eT<0
  ·simp only [e3,decide_true,Bool.true_or,if_true] at he
   simp only [e3,go_sem]
   exact Fin.aD _ rfl rfl (by rw [<-he];rfl)
  by_cases e4:(d.aM.length:Int)<=x.eT
  ·simp only [e3,e4,decide_true,decide_false,Bool.or_true,if_true] at he
   simp only [e3,e4,hx,Span.enc,List.length_map,Int.toNat_natCast,go_sem]
   repeat (refine bn ?_)
   exact Fin.aD _ rfl rfl (by rw [<-he];rfl)
  simp only [e3,e4,decide_false,Bool.or_false,Bool.false_eq_true,if_false] at he
  simp only [e3,e4,hx,hw,Span.enc,List.length_map,Int.toNat_natCast,go_sem]
  repeat (refine bn ?_)
  exact hB _ ⟨j+1,by omega,he⟩ (by simp only;omega) (wk [(8,8)] [])
 have e2:decide ((j:Int)<(d.l.length:Int))=false:=by simp;omega
 rw [eH (by omega)] at he
 simp only [uW] at he
 simp only [e2,go_sem]
 clear hB e1 e2 hj
 refine go_loop (fun j:{j:Nat // j<=d.l.length/\wV d (d.l.drop j) j=R}=>⟨4000,[(1,.ptr 8 0),(3,I d.aM.length),(8,I j.1)],[(8,.box [I d.version,.sl 3 (d.l.map Span.enc),.sl 1 (encI d.aM)])]⟩) (fun j=>d.l.length - j.1) ⟨0,by omega,he⟩ (wk [(8,8)] []) ?_
 clear he
 rintro ⟨j,hj,he⟩ B hB
 simp only [go_sem]
 by_cases e1:j<d.l.length
 ·have e2:decide ((j:Int)<(d.l.length:Int))=true:=by simp;omega
  rw [eB Span.z e1] at he
  simp only [wV,show d.l[j]?.getD Span.z=gS d.l j from rfl] at he
  have hx:nth (d.l.map Span.enc) j=Span.enc (gS d.l j):=bS Span.enc Span.z e1
  have hw:=bT (show j<=100000 by omega)
  generalize gS d.l j=x at hx he
  simp only [e2,hx,Span.enc,List.length_map,Int.toNat_natCast,go_sem]
  repeat (refine bn ?_)
  refine bX (xk d x.eT hl) rfl rfl ?_
  simp only [go_sem]
  repeat (refine bn ?_)
  by_cases e3:(d.idx x.eT !=(j:Int))=true
  ·rw [if_pos e3] at he
   simp only [e3,go_sem]
   exact Fin.aD _ rfl rfl (by rw [<-he];rfl)
  rw [if_neg e3] at he
  simp only [Bool.not_eq_true] at e3
  simp only [e3,hw,go_sem]
  exact hB _ ⟨j+1,by omega,he⟩ (by simp only;omega) (wk [(8,8)] [])
 have e2:decide ((j:Int)<(d.l.length:Int))=false:=by simp;omega
 rw [eH (by omega)] at he
 simp only [wV] at he
 simp only [e2,go_sem]
 clear hB e1 e2 hj
 have hn6:d.aM.length<=6:=by omega
 refine go_loop (fun j:{j:Nat // j<=d.aM.length/\(∀ k,k<j->-1<=gI d.aM k/\gI d.aM k<d.aM.length)/\uV d (d.aM.drop j) j=R}=>⟨5000,[(1,.ptr 8 0),(3,I d.aM.length),(9,I j.1)],[(8,.box [I d.version,.sl 3 (d.l.map Span.enc),.sl 1 (encI d.aM)])]⟩) (fun j=>d.aM.length - j.1) ⟨0,by omega,fun k h=>absurd h (Nat.not_lt_zero _),he⟩ (wk [(8,8)] []) ?_
 clear he
 rintro ⟨j,hj,hin,he⟩ B hB
 simp only [go_sem]
 by_cases e1:j<d.aM.length
 ·have e2:decide ((j:Int)<(d.aM.length:Int))=true:=by simp;omega
  rw [eB 0 e1] at he
  simp only [uV,show d.aM[j]?.getD 0=gI d.aM j from rfl] at he
  have hx:nth (encI d.aM) j=[I (gI d.aM j)]:=bS (fun z=>[I z]) 0 e1
  have hw:=bT (show j<=100000 by omega)
  simp only [e2,hx,aS,Int.toNat_natCast,go_sem]
  repeat (refine bn ?_)
  by_cases e3:gI d.aM j< -1
  ·simp only [e3,decide_true,Bool.true_or,if_true] at he
   simp only [e3,go_sem]
   exact Fin.aD _ rfl rfl (by rw [<-he];rfl)
  by_cases e4:(d.aM.length:Int)<=gI d.aM j
  ·simp only [e3,e4,decide_true,decide_false,Bool.true_or,Bool.or_true,if_true] at he
   simp only [e3,e4,hx,aS,Int.toNat_natCast,go_sem]
   repeat (refine bn ?_)
   exact Fin.aD _ rfl rfl (by rw [<-he];rfl)
  simp only [e3,e4,hx,aS,Int.toNat_natCast,go_sem]
  repeat (refine bn ?_)
  refine aQ (xk d j hl) rfl rfl ?_
  have hin':∀ k,k<j+1->-1<=gI d.aM k/\gI d.aM k<d.aM.length:=by
   intro k hk
   by_cases hk2:k<j
   ·exact hin k hk2
   ·obtain rfl:k=j:=by omega
    exact ⟨by omega,by omega⟩
  simp only [go_sem]
  by_cases e5:0<=d.idx j
  ·by_cases e6:(gI d.aM j != -1)=true
   ·simp only [e3,e4,e5,e6,decide_true,decide_false,Bool.true_and,Bool.or_true,if_true] at he
    simp only [e5,e6,hx,aS,Int.toNat_natCast,go_sem]
    repeat (refine bn ?_)
    exact Fin.aD _ rfl rfl (by rw [<-he];rfl)
   ·simp only [Bool.not_eq_true] at e6
    simp only [e3,e4,e5,e6,decide_true,decide_false,Bool.and_false,Bool.or_false,Bool.false_eq_true,if_false] at he
    simp only [e5,e6,hx,hw,aS,Int.toNat_natCast,go_sem]
    repeat (refine bn ?_)
    exact hB _ ⟨j+1,by omega,hin',he⟩ (by simp only;omega) (wk [(8,8)] [])
  ·simp only [e3,e4,e5,decide_false,Bool.false_and,Bool.or_false,Bool.false_eq_true,if_false] at he
   simp only [e5,hw,go_sem]
   exact hB _ ⟨j+1,by omega,hin',he⟩ (by simp only;omega) (wk [(8,8)] [])
 have e2:decide ((j:Int)<(d.aM.length:Int))=false:=by simp;omega
 rw [eH (by omega)] at he
 simp only [uV] at he
 have he5:sW d d.aM 0=R:=he
 obtain rfl:j=d.aM.length:=by omega
 simp only [e2,go_sem]
 clear hB e1 e2 hj
 refine go_loop (fun j:{j:Nat // j<=d.aM.length/\sW d (d.aM.drop j) j=R}=>⟨6000,[(1,.ptr 8 0),(3,I d.aM.length),(10,I j.1)],[(8,.box [I d.version,.sl 3 (d.l.map Span.enc),.sl 1 (encI d.aM)])]⟩) (fun j=>d.aM.length - j.1) ⟨0,by omega,he5⟩ (wk [(8,8)] []) ?_
 clear he
 rintro ⟨j,hj,he⟩ B hB
 simp only [go_sem]
 by_cases e1:j<d.aM.length
 ·have e2:decide ((j:Int)<(d.aM.length:Int))=true:=by simp;omega
  rw [eB 0 e1] at he
  simp only [sW] at he
  have hw:=bT (show j<=100000 by omega)
  simp only [e2,go_sem]
  generalize hF:aM d.aM d.aM.length (j:Int)=F at he
  refine go_loop (fun x:{x:Nat×Int // x.1<=d.aM.length/\(-1<=x.2/\x.2<d.aM.length)/\aM d.aM (d.aM.length - x.1) x.2=F}=>⟨7000,[(1,.ptr 8 0),(3,I d.aM.length),(10,I j),(11,I x.1.2),(12,I x.1.1)],[(8,.box [I d.version,.sl 3 (d.l.map Span.enc),.sl 1 (encI d.aM)])]⟩) (fun x=>d.aM.length - x.1.1) ⟨(0,j),by omega,by simp only;omega,by simpa using hF⟩ (wk [(8,8)] []) ?_
  rintro ⟨⟨i,a⟩,hi,ha,hf⟩ B2 hB2
  simp only at hi ha hf
  simp only [go_sem]
  have tail:F=a->(i<d.aM.length->a<0)->True:=fun _ _=>trivial
  by_cases i1:i<d.aM.length
  ·have i2:decide ((i:Int)<(d.aM.length:Int))=true:=by simp;omega
   by_cases i3:0<=a
   ·have hx:nth (encI d.aM) a.toNat=[I (gI d.aM a.toNat)]:=bS (fun z=>[I z]) 0 (by omega)
    have hw2:=bT (show i<=100000 by omega)
    simp only [i2,i3,hx,hw2,aS,go_sem]
    repeat (refine bn ?_)
    have hh:=hin a.toNat (by omega)
    exact hB2 _ ⟨(i+1,gI d.aM a.toNat),by simp only;omega,hh,by rw [<-hf,show d.aM.length - i=(d.aM.length - (i+1))+1 by omega,aM,if_pos i3]⟩ (by simp only;omega) (wk [(8,8)] [])
   ·have hF2:a=F:=by rw [<-hf,WA _ _ _ (by omega)]
    rw [<-hF2,if_neg i3] at he
    simp only [i2,i3,hw,go_sem]
    exact hB _ ⟨j+1,by omega,he⟩ (by simp only;omega) (wk [(8,8)] [])
  ·have i2:decide ((i:Int)<(d.aM.length:Int))=false:=by simp;omega
   have hF2:a=F:=by rw [<-hf,show d.aM.length - i=0 by omega];rfl
   rw [<-hF2] at he
   simp only [i2,go_sem]
   by_cases i3:0<=a
   ·rw [if_pos i3] at he
    simp only [i3,go_sem]
    exact Fin.aD _ rfl rfl (by rw [<-he];rfl)
   ·rw [if_neg i3] at he
    simp only [i3,hw,go_sem]
    exact hB _ ⟨j+1,by omega,he⟩ (by simp only;omega) (wk [(8,8)] [])
 ·have e2:decide ((j:Int)<(d.aM.length:Int))=false:=by simp;omega
  rw [eH (by omega)] at he
  simp only [sW] at he
  simp only [e2,go_sem]
  exact Fin.aD _ rfl rfl (by rw [<-he];rfl)
attribute [local go_sem] aS
theorem acK (d:Dir) (route:Int) (hl:d.l.length<=70000):Fn Tryz.prog 153 [.agg d.enc,I route] [] (I (d.owner route)) [] []:=by
 generalize hR:d.owner route=R
 unfold Dir.owner at hR
 refine Fn.aO Rv (by simp) ?_
 unfold Ru SC.mk' Dir.enc
 simp only [go_sem]
 refine go_loop (fun j:{j:Nat // j<=d.l.length/\(if d.val≠0 then -1 else yX route (d.l.drop j))=R}=>⟨1000,[(1,I route),(2,.ptr 8 0),(5,I j.1)],[(8,.box [I d.version,.sl 3 (d.l.map Span.enc),.sl 1 (encI d.aM)])]⟩) (fun j=>d.l.length - j.1) ⟨0,by omega,hR⟩ (wk [(8,8)] []) ?_
 rintro ⟨j,hj,he⟩ B hB
 simp only [go_sem]
 by_cases e1:j<d.l.length
 ·have e2:decide ((j:Int)<(d.l.length:Int))=true:=by simp;omega
  simp only [e2,go_sem]
  refine aQ (zk d hl) rfl rfl ?_
  simp only [go_sem]
  by_cases h1:d.val=0
  ·rw [if_neg (by simp [h1]),eB Span.z e1] at he
   simp only [yX,show d.l[j]?.getD Span.z=gS d.l j from rfl] at he
   have h1':(d.val==0)=true:=by simpa using h1
   have hx:nth (d.l.map Span.enc) j=Span.enc (gS d.l j):=bS Span.enc Span.z e1
   have hw:=bT (show j<=100000 by omega)
   generalize gS d.l j=x at hx he
   simp only [h1',hx,Span.enc,List.length_map,Int.toNat_natCast,go_sem]
   repeat (refine bn ?_)
   by_cases e3:x.low<=route
   ·simp only [e3,hx,Span.enc,List.length_map,Int.toNat_natCast,go_sem]
    repeat (refine bn ?_)
    by_cases e4:route<=x.high
    ·rw [if_pos ⟨e3,e4⟩] at he
     simp only [e4,hx,Span.enc,List.length_map,Int.toNat_natCast,go_sem]
     repeat (refine bn ?_)
     exact Fin.aD _ rfl rfl (by rw [<-he];rfl)
    ·rw [if_neg (fun h=>e4 h.2)] at he
     simp only [e4,hw,go_sem]
     exact hB _ ⟨j+1,by omega,by rw [if_neg (by simp [h1])];exact he⟩ (by simp only;omega) (wk [(8,8)] [])
   ·rw [if_neg (fun h=>e3 h.1)] at he
    simp only [e3,hw,go_sem]
    exact hB _ ⟨j+1,by omega,by rw [if_neg (by simp [h1])];exact he⟩ (by simp only;omega) (wk [(8,8)] [])
  ·rw [if_pos h1] at he
   have h1':(d.val==0)=false:=by simpa using h1
   simp only [h1',go_sem]
   exact Fin.aD _ rfl rfl (by rw [<-he];rfl)
 ·have e2:decide ((j:Int)<(d.l.length:Int))=false:=by simp;omega
  rw [eH (by omega)] at he
  simp only [yX,ite_self] at he
  simp only [e2,go_sem]
  exact Fin.aD _ rfl rfl (by rw [<-he];rfl)
theorem ame (d:Dir) (slot:Int) (hl:d.l.length<=70000):Fn Tryz.prog 314 [.agg d.enc,I slot] [] (.aF [.agg (d.span slot).1.enc,Bo (d.span slot).2]) [] []:=by
 refine Fn.aO aiW (by simp) ?_
 unfold Uh SC.mk' Dir.enc
 simp only [go_sem]
 refine aQ (xk d slot hl) rfl rfl ?_
 simp only [go_sem]
 refine aQ (zk d hl) rfl rfl ?_
 unfold Dir.span
 simp only [go_sem]
 by_cases h1:d.val≠0
 ·rw [if_pos (.inl h1)]
  have h1':(d.val !=0)=true:=by simpa using h1
  simp only [h1',go_sem]
  exact Fin.aD _ rfl rfl (by simp only [ay,rv,au,Span.enc,go_sem])
 have h1':(d.val !=0)=false:=by simpa using h1
 simp only [h1',go_sem]
 rcases NH d slot with h2|⟨k,h2,h3⟩
 ·rw [if_pos (.inr (by omega))]
  simp only [h2,go_sem]
  exact Fin.aD _ rfl rfl (by simp only [ay,rv,au,Span.enc,go_sem])
 ·have h4:¬ (k:Int)<0:=by omega
  rw [if_neg (by intro h;rcases h with h|h;exact h1 h;omega)]
  have hy:nth (d.l.map Span.enc) k=Span.enc (gS d.l k):=bS Span.enc Span.z h3
  simp only [h2,h4,hy,Span.enc,Int.toNat_natCast,List.length_map,go_sem]
  repeat (refine bn ?_)
  exact Fin.aD _ rfl rfl (by simp only [ay,rv,au,go_sem])
theorem acL (d:Dir):∀ (l:List Int) (i:Nat),sW d l i=0->∀ k,i<=k->k<i+l.length->aM d.aM d.aM.length k<0
 |[],i,h,k,h1,h2=>by simp at h2;omega
 |x::r,i,h,k,h1,h2=>by
  simp only [sW] at h
  split at h
  ·omega
  ·rename_i hn
   by_cases hk:k=i
   ·subst hk;omega
   ·exact acL d r (i+1) h k (by omega) (by simp at h2;omega)
theorem WB (f:List Int):∀ (a b:Nat) (x:Int),aM f (a+b) x=aM f b (aM f a x)
 |0,b,x=>by simp [aM]
 |a+1,b,x=>by
  rw [show a+1+b=(a+b)+1 by omega,aM,aM]
  split
  ·rw [WB f a b]
  ·rename_i h;rw [WA f b x (by omega)]
theorem acM (d:Dir) {s:Int} (h:¬ (0<=s/\d.idx s<0)):∀ k:Nat,wW d k s=s
 |0=>rfl
 |k+1=>by simp only [wW];rw [if_neg h]
theorem amf (d:Dir) (slot:Int) (hl:d.l.length<=70000):Fn Tryz.prog 373 [.agg d.enc,I slot] [] (I (d.home slot)) [] []:=by
 generalize hR:d.home slot=R
 unfold Dir.home at hR
 refine Fn.aO ai8 (by simp) ?_
 unfold UN SC.mk' Dir.enc
 simp only [go_sem]
 by_cases h0:d.val≠0\/slot<0\/(d.aM.length:Int)<=slot
 ·rw [if_pos h0] at hR
  have aK:=zk d hl
  exact aX
 rw [if_neg h0] at hR
 have g1:d.val=0:=by simpa using fun h=>h0 (.inl h)
 have g2:¬ slot<0:=fun h=>h0 (.inr (.inl h))
 have g3:¬ (d.aM.length:Int)<=slot:=fun h=>h0 (.inr (.inr h))
 have hp:=Dir.oU g1
 have hin:=(Nk d d.aM 0 hp.2.2.1).1
 have hneg:=acL d d.aM 0 hp.2.2.2
 have hn6:d.aM.length<=6:=by
  have hv:=g1
  unfold Dir.val at hv
  split at hv
  ·omega
  ·rename_i hc;simp at hc;omega
 refine aQ (zk d hl) rfl rfl ?_
 simp only [g1,g2,g3,aS,go_sem]
 refine go_loop (fun x:{x:Nat×Int // x.1<=7/\(-1<=x.2/\x.2<d.aM.length)/\aM d.aM x.1 slot=x.2/\wW d (7 - x.1) x.2=R}=>⟨3000,[(1,I x.1.2),(2,.ptr 8 0)],[(8,.box [I d.version,.sl 3 (d.l.map Span.enc),.sl 1 (encI d.aM)])]⟩) (fun x=>7 - x.1.1) ⟨(0,slot),by omega,by simp only;omega,rfl,hR⟩ (wk [(8,8)] []) ?_
 rintro ⟨⟨k,a⟩,hk,ha,hf,he⟩ B hB
 simp only at hk ha hf he
 simp only [go_sem]
 by_cases e1:0<=a
 ·simp only [e1,go_sem]
  refine aQ (xk d a hl) rfl rfl ?_
  simp only [go_sem]
  by_cases e2:d.idx a<0
  ·have hk2:k<d.aM.length:=by
    refine Nat.lt_of_not_le fun hle=> ?_
    have h3:=hneg slot.toNat (by omega) (by omega)
    rw [show ((slot.toNat:Nat):Int)=slot by omega] at h3
    have h4:aM d.aM k slot=aM d.aM d.aM.length slot:=by
     rw [show k=d.aM.length+(k - d.aM.length) by omega,WB,WA _ _ _ h3]
    omega
   have hx:nth (encI d.aM) a.toNat=[I (gI d.aM a.toNat)]:=bS (fun z=>[I z]) 0 (by omega)
   have hh:=Dy (p:=fun x=> -1<=x/\x<(d.aM.length:Int)) hin (show a.toNat<d.aM.length by omega)
   simp only [e2,hx,aS,go_sem]
   repeat (refine bn ?_)
   exact hB _ ⟨(k+1,gI d.aM a.toNat),by simp only;omega,hh,by rw [WB,hf];simp only [aM];rw [if_pos e1],by rw [<-he,show 7 - k=(7 - (k+1))+1 by omega];simp only [wW];rw [if_pos ⟨e1,e2⟩]⟩ (by simp only;omega) (wk [(8,8)] [])
  ·rw [acM d (fun h=>e2 h.2)] at he
   simp only [e2,go_sem]
   exact Fin.aD _ rfl rfl (by rw [<-he];rfl)
 ·rw [acM d (fun h=>e1 h.1)] at he
  simp only [e1,go_sem]
  exact Fin.aD _ rfl rfl (by rw [<-he];rfl)
@[simp] theorem aqX {α β:Type} (f:α->β) (l:List α):List.take l.length (l.map f)=l.map f:=bA (by simp)
theorem acN {α:Type} (x:α) (j:Nat):List.replicate j x++[x]=List.replicate (j+1) x:=by rw [List.replicate_succ',]
theorem acO {a b:Int} (h0:0<=a) (h1:a<=1000000) (h2:1<=b):0<=a.tdiv b/\a.tdiv b<=1000000:=by
 refine ⟨Int.tdiv_nonneg h0 (by omega),?_⟩
 rw [Int.tdiv_eq_ediv_of_nonneg h0]
 exact Int.le_trans (Int.ediv_le_self b h0) h1
theorem amg (slots live:Int):Fn Tryz.prog 142 [I slots,I live] [] (.aF [.agg (Dir.new slots live).1.enc,I (Dir.new slots live).2]) [] []:=by
 generalize hR:Dir.new slots live=R
 unfold Dir.new at hR
 refine Fn.aO Mg (by simp) ?_
 unfold Rf SC.mk'
 simp only [go_sem]
 by_cases h0:live<1\/slots<live\/6<slots
 ·rw [if_pos (by simpa using h0)] at hR
  exact aX
 have g1:¬ live<1:=fun h=>h0 (.inl h)
 have g2:¬ slots<live:=fun h=>h0 (.inr (.inl h))
 have g3:¬ 6<slots:=fun h=>h0 (.inr (.inr h))
 rw [if_neg (by simp [g1,g2,g3])] at hR
 generalize hf:(fun i:Nat=>(⟨((i:Int)*65536).tdiv live,(((i:Int)+1)*65536).tdiv live - 1,(i:Int)⟩:Span))=f at hR
 simp only [g1,g2,g3,go_sem]
 refine go_loop (fun j:{j:Nat // (j:Int)<=live}=>⟨2000,[(0,I slots),(1,I live),(4,.ptr 8 0),(6,.ptr 64 0),(7,I j.1)],[(8,.box [I 0,Nl,Nl]),(64,.box [I 1,.own 80 3 0 j.1,Nl]),(80,.row 149 3 (((List.range j.1).map f).map Span.enc))]⟩) (fun j=>live.toNat - j.1) ⟨0,by omega⟩ (wk [(8,8),(64,120)] [80]) ?_
 rintro ⟨j,hj⟩ B hB
 simp only [go_sem]
 by_cases e1:(j:Int)<live
 ·have hw:=bT (show j<=100000 by omega)
  have v1:IntKind.i64.wrap ((j:Int)*65536)=(j:Int)*65536:=bE (by omega)
  have v2:IntKind.i64.wrap (((j+1:Nat):Int)*65536)=((j:Int)+1)*65536:=by rw [bE (by omega)];omega
  have b1:=acO (a:=(j:Int)*65536) (b:=live) (by omega) (by omega) (by omega)
  have b2:=acO (a:=((j:Int)+1)*65536) (b:=live) (by omega) (by omega) (by omega)
  have v3:IntKind.i64.wrap (((j:Int)*65536).tdiv live)=((j:Int)*65536).tdiv live:=bE (by omega)
  have v4:IntKind.i64.wrap ((((j:Int)+1)*65536).tdiv live)=(((j:Int)+1)*65536).tdiv live:=bE (by omega)
  have v5:IntKind.i64.wrap ((((j:Int)+1)*65536).tdiv live - 1)=(((j:Int)+1)*65536).tdiv live - 1:=bE (by omega)
  have hm:j+1<=maxLen:=Nat.le_trans (show _<=300000 by omega) (by decide)
  have e3:List.take j (((List.range j).map f).map Span.enc)=((List.range j).map f).map Span.enc:=bA (by simp)
  have e4:((List.range j).map f).map Span.enc++[[I (((j:Int)*65536).tdiv live),I ((((j:Int)+1)*65536).tdiv live - 1),I j]]=((List.range (j+1)).map f).map Span.enc:=by
   rw [List.range_succ,List.map_append,List.map_append,<-hf];rfl
  simp only [e1,hw,v1,v2,v3,v4,v5,e3,e4,List.length_map,List.length_range,go_sem]
  repeat (refine bn ?_)
  exact hB _ ⟨j+1,by omega⟩ (by simp only;omega) (wk [(8,8),(64,64),(80,2144)] [])
 obtain rfl:live=(j:Int):=by omega
 simp only [e1,go_sem]
 clear hB
 rw [Int.toNat_natCast] at hR
 have hLl:((List.range j).map f).length=j:=by simp
 generalize (List.range j).map f=L at hR hLl
 subst hLl
 refine go_loop (fun i:{i:Nat // (i:Int)<=slots}=>⟨3000,[(0,I slots),(4,.ptr 8 0),(6,.ptr 64 0),(8,I i.1)],[(8,.box [I 0,Nl,Nl]),(64,.box [I 1,.sl 3 (L.map Span.enc),.own 88 1 0 i.1]),(88,.row 3 1 (encI (List.replicate i.1 (-1))))]⟩) (fun i=>slots.toNat - i.1) ⟨0,by omega⟩ (wk [(8,8),(64,64)] [88]) ?_
 rintro ⟨i,hi⟩ B hB
 simp only [go_sem]
 by_cases e1:(i:Int)<slots
 ·have hw:=bT (show i<=100000 by omega)
  have hm:i+1<=maxLen:=Nat.le_trans (show _<=300000 by omega) (by decide)
  have e3:List.take i (encI (List.replicate i (-1)))=encI (List.replicate i (-1)):=bA (by simp [encI])
  have e4:encI (List.replicate i (-1))++[[I (-1)]]=encI (List.replicate (i+1) (-1)):=by
   rw [<-acN];simp [encI]
  simp only [e1,hw,e3,e4,aS,List.length_replicate,go_sem]
  repeat (refine bn ?_)
  exact hB _ ⟨i+1,by omega⟩ (by simp only;omega) (wk [(8,8),(64,64),(88,3048)] [])
 ·obtain rfl:slots=(i:Int):=by omega
  rw [Int.toNat_natCast] at hR
  have e3:List.take i (encI (List.replicate i (-1)))=encI (List.replicate i (-1)):=bA (by simp [encI])
  simp only [e1,go_sem]
  exact Fin.aD _ rfl rfl (by rw [<-hR];simp only [ay,rv,au,get,Dir.enc,e3,aS,List.length_replicate,go_sem];simp)
end Go.Eng
