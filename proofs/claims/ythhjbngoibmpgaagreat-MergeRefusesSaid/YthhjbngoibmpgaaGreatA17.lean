/-
  Part of a proof: lemmas and definitions of this work.
  No condition.
-/
import Derived.Test.YthhjbngoibmpgaaGreatA08
import Derived.Test.YthhjbngoibmpgaaGreatA16
set_option linter.all false
set_option maxRecDepth 100000
set_option maxHeartbeats 8000000
namespace Go.Eng
open Go Go.Proofs
theorem DJ (t:Table) (id:Int) (hl:t.l.length<=1000):Fn Tryz.prog 172 [.agg t.enc,I id] [] (I (t.find id)) [] []:=by
 refine Fn.aO aax (by simp) ?_
 unfold RJ SC.mk' Table.enc Table.find
 simp only [go_sem]
 refine go_loop (fun j:{j:Nat // j<=t.l.length/\wO id (t.l.drop j) j=wO id t.l 0}=>⟨1000,[(1,I id),(2,.ptr 8 0),(5,I j.1)],[(8,.box [.sl 8 (t.l.map Lease.enc),.sl 2 (t.heap.map Due.enc)])]⟩) (fun j=>t.l.length - j.1) ⟨0,by omega,rfl⟩ (wk [(8,8)] []) ?_
 rintro ⟨j,hj,he⟩ B hB
 simp only [go_sem]
 refine bC (fun h1=> ?_) (fun h1=> ?_)<;>simp only [h1,go_sem]
 ·have e1:j<t.l.length:=by simpa using h1
  rw [eB Lease.z e1] at he
  simp only [wO] at he
  have hx:nth (t.l.map Lease.enc) j=Lease.enc (t.l[j]?.getD Lease.z):=bS Lease.enc Lease.z e1
  simp only [Int.toNat_natCast,hx,Lease.enc,go_sem]
  repeat (refine bn ?_)
  have hw:=bT (show j<=100000 by omega)
  refine bC (fun h2=> ?_) (fun h2=> ?_)<;>simp only [h2,hw,go_sem]
  ·rw [if_pos h2] at he
   exact Fin.aD _ rfl rfl (by rw [<-he];rfl)
  ·rw [if_neg (by simp [h2])] at he
   exact hB _ ⟨j+1,e1,he⟩ (by simp only;omega) (wk [(8,8)] [])
 ·have e1:t.l.length<=j:=by simpa using h1
  rw [eH e1] at he
  exact Fin.aD _ rfl rfl (by rw [<-he];rfl)
theorem acn (id:Int):∀ (l:List Lease) (i:Nat),wO id l i= -1\/∃ k:Nat,wO id l i=((i+k:Nat):Int)/\k<l.length
 |[],i=> .inl rfl
 |d::r,i=>by
  simp only [wO]
  split
  ·exact .inr ⟨0,by simp,by simp⟩
  ·rcases acn id r (i+1) with h|⟨k,h1,h2⟩
   ·exact .inl h
   ·exact .inr ⟨k+1,by rw [h1];omega,by simp;omega⟩
theorem Nu (t:Table) (id:Int):t.find id= -1\/∃ k:Nat,t.find id=(k:Int)/\k<t.l.length:=by
 unfold Table.find
 rcases acn id t.l 0 with h|⟨k,h1,h2⟩
 ·exact .inl h
 ·exact .inr ⟨k,by rw [h1,Nat.zero_add],h2⟩
theorem Bh (t:Table) (hl:t.l.length<=1000) (hh:t.heap.length<=1000):Fn Tryz.prog 170 [.agg t.enc] [] (I t.val) [] []:=by
 refine Fn.aO Mr (by simp) ?_
 unfold RH SC.mk' Table.enc
 simp only [go_sem]
 refine bC (fun h0=> ?_) (fun h0=> ?_)<;>simp only [h0,go_sem]
 ·exact Fin.aD _ rfl rfl (by unfold Table.val;rw [if_pos (by simpa using h0)];rfl)
 have e0:t.val=uQ t t.l 0:=by unfold Table.val;rw [if_neg (by simpa using h0)]
 refine go_loop (fun j:{j:Nat // j<=t.l.length/\uQ t (t.l.drop j) j=t.val}=>⟨1000,[(1,.ptr 8 0),(3,I j.1)],[(8,.box [.sl 8 (t.l.map Lease.enc),.sl 2 (t.heap.map Due.enc)])]⟩) (fun j=>t.l.length - j.1) ⟨0,by omega,e0.symm⟩ (wk [(8,8)] []) ?_
 rintro ⟨j,hj,he⟩ B hB
 simp only [go_sem]
 refine bC (fun h1=> ?_) (fun h1=> ?_)<;>simp only [h1,go_sem]
 ·have e1:j<t.l.length:=by simpa using h1
  rw [eB Lease.z e1] at he
  simp only [uQ] at he
  have hw:=bT (show j<=100000 by omega)
  have hx:nth (t.l.map Lease.enc) j=Lease.enc (gL t.l j):=bS Lease.enc Lease.z e1
  change (if (gL t.l j).msg.val !=0 then _ else if (gL t.l j).msg.gen==0 then _ else if decide ((gL t.l j).dl<0)||decide (1073741824<(gL t.l j).dl) then _ else if 0<j/\(gL t.l j).msg.id<=_ then _ else _)=_ at he
  simp only [Int.toNat_natCast,hx,Lease.enc,go_sem]
  refine ⟨⟨by omega,by omega⟩,aQ (wG (gL t.l j).msg) rfl rfl ?_⟩
  simp only [go_sem]
  by_cases h2:((gL t.l j).msg.val !=0)=true
  ·rw [if_pos h2] at he
   simp only [h2,go_sem]
   exact Fin.aD _ rfl rfl (by rw [<-he];rfl)
  rw [if_neg h2] at he
  simp only [Bool.not_eq_true] at h2
  simp only [h2,go_sem]
  by_cases h3:((gL t.l j).msg.gen==0)=true
  ·rw [if_pos h3] at he
   simp only [h3,go_sem]
   exact Fin.aD _ rfl rfl (by rw [<-he];rfl)
  rw [if_neg h3] at he
  simp only [Bool.not_eq_true] at h3
  simp only [h3,go_sem]
  by_cases h4:(gL t.l j).dl<0
  ·rw [if_pos (by simp [h4])] at he
   simp only [h4,go_sem]
   exact Fin.aD _ rfl rfl (by rw [<-he];rfl)
  by_cases h5:1073741824<(gL t.l j).dl
  ·rw [if_pos (by simp [h5])] at he
   simp only [h4,h5,go_sem]
   exact Fin.aD _ rfl rfl (by rw [<-he];rfl)
  rw [if_neg (by simp [h4,h5])] at he
  simp only [h4,h5,go_sem]
  by_cases h6:0<j
  ·have h6':decide ((0:Int)<(j:Int))=true:=by simp;omega
   have hy:nth (t.l.map Lease.enc) (j - 1)=Lease.enc (gL t.l (j - 1)):=bS Lease.enc Lease.z (by omega)
   have hz:IntKind.i64.wrap ((j:Int) - 1)=((j - 1:Nat):Int):=by rw [bE (by omega)];omega
   simp only [h6',hz,hy,Lease.enc,go_sem]
   repeat (refine bn ?_)
   by_cases h7:(gL t.l j).msg.id<=(gL t.l (j - 1)).msg.id
   ·rw [if_pos ⟨h6,h7⟩] at he
    simp only [h7,go_sem]
    exact Fin.aD _ rfl rfl (by rw [<-he];rfl)
   ·rw [if_neg (fun h=>h7 h.2)] at he
    simp only [h7,hw,go_sem]
    exact hB _ ⟨j+1,e1,he⟩ (by simp only;omega) (wk [(8,8)] [])
  ·have h6':decide ((0:Int)<(j:Int))=false:=by simp;omega
   rw [if_neg (fun h=>h6 h.1)] at he
   simp only [h6',hw,go_sem]
   repeat (refine bn ?_)
   exact hB _ ⟨j+1,e1,he⟩ (by simp only;omega) (wk [(8,8)] [])
 have e1:t.l.length<=j:=by simpa using h1
 rw [eH e1] at he
 simp only [uQ] at he
 refine aQ (Ns t.heap hh) rfl rfl ?_
 simp only [go_sem]
 by_cases h2:(iK t.heap !=0)=true
 ·rw [if_pos h2] at he
  simp only [h2,go_sem]
  exact Fin.aD _ rfl rfl (by rw [<-he];rfl)
 rw [if_neg h2] at he
 simp only [Bool.not_eq_true] at h2
 simp only [h2,go_sem]
 by_cases h3:t.heap.length≠t.l.length
 ·rw [if_pos h3] at he
  have h3':((t.heap.length:Int) !=(t.l.length:Int))=true:=by simp;omega
  simp only [h3',go_sem]
  exact Fin.aD _ rfl rfl (by rw [<-he];rfl)
 rw [if_neg h3] at he
 have h3':((t.heap.length:Int) !=(t.l.length:Int))=false:=by simp;omega
 simp only [h3',go_sem]
 refine go_loop (fun j:{j:Nat // j<=t.heap.length/\Bb t (t.heap.drop j)=t.val}=>⟨3000,[(1,.ptr 8 0),(7,I j.1)],[(8,.box [.sl 8 (t.l.map Lease.enc),.sl 2 (t.heap.map Due.enc)])]⟩) (fun j=>t.heap.length - j.1) ⟨0,by omega,he⟩ (wk [(8,8)] []) ?_
 clear he h1 e1 hB h2 h3 h3'
 rintro ⟨j,hj,he⟩ B hB
 simp only [go_sem]
 refine bC (fun h1=> ?_) (fun h1=> ?_)<;>simp only [h1,go_sem]
 ·have e1:j<t.heap.length:=by simpa using h1
  rw [eB Due.z e1] at he
  simp only [Bb] at he
  have hw:=bT (show j<=100000 by omega)
  have hx:nth (t.heap.map Due.enc) j=Due.enc (t.heap[j]?.getD Due.z):=bS Due.enc Due.z e1
  simp only [Int.toNat_natCast,hx,Due.enc,go_sem]
  refine ⟨⟨by omega,by omega⟩,bX (DJ t (t.heap[j]?.getD Due.z).id hl) rfl rfl ?_⟩
  simp only [go_sem]
  rcases Nu t (t.heap[j]?.getD Due.z).id with h2|⟨k,h2,h3⟩
  ·rw [if_pos (by omega)] at he
   simp only [h2,go_sem]
   repeat (refine bn ?_)
   exact Fin.aD _ rfl rfl (by rw [<-he];rfl)
  ·have h4:¬ (k:Int)<0:=by omega
   have hy:nth (t.l.map Lease.enc) k=Lease.enc (gL t.l k):=bS Lease.enc Lease.z h3
   rw [h2,if_neg h4,Int.toNat_natCast] at he
   simp only [h2,h4,hx,hy,Lease.enc,Due.enc,Int.toNat_natCast,go_sem]
   repeat (refine bn ?_)
   by_cases h5:((gL t.l k).dl !=(t.heap[j]?.getD Due.z).dl)=true
   ·rw [if_pos h5] at he
    simp only [h5,go_sem]
    exact Fin.aD _ rfl rfl (by rw [<-he];rfl)
   ·rw [if_neg h5] at he
    simp only [Bool.not_eq_true] at h5
    simp only [h5,hw,go_sem]
    exact hB _ ⟨j+1,e1,he⟩ (by simp only;omega) (wk [(8,8)] [])
 ·have e1:t.heap.length<=j:=by simpa using h1
  rw [eH e1] at he
  exact Fin.aD _ rfl rfl (by rw [<-he];rfl)
theorem iB {α β} (f:α->β) (l:List α) (n:Nat):List.take n (l.map f)=(l.take n).map f:=List.map_take.symm
theorem iG {α β} (f:α->β) (l:List α) (n:Nat):List.drop n (l.map f)=(l.drop n).map f:=List.map_drop.symm
theorem kX {α β} (f:α->β) (l r:List α):l.map f++r.map f=(l++r).map f:=List.map_append.symm
theorem aco (t:Table) (id:Int) (hl:t.l.length<=1000) (hh:t.heap.length<=1000):Fn Tryz.prog 396 [.agg t.enc,I id] [] (.aF [.agg (t.qh id).1.enc,Bo (t.qh id).2]) [] []:=by
 refine Fn.aO ajs (by simp) ?_
 unfold Vf SC.mk' Table.enc
 simp only [go_sem]
 refine aQ (DJ t id hl) rfl rfl ?_
 simp only [go_sem]
 refine aQ (Bh t hl hh) rfl rfl ?_
 unfold Table.qh
 simp only [go_sem]
 by_cases h1:(t.val !=0)=true
 ·rw [if_pos (.inl (by simpa using h1))]
  simp only [h1,go_sem]
  exact Fin.aD _ rfl rfl (by simp only [ay,rv,au,Lease.enc,go_sem])
 simp only [Bool.not_eq_true] at h1
 have h1':t.val=0:=by simpa using h1
 simp only [h1,go_sem]
 rcases Nu t id with h2|⟨k,h2,h3⟩
 ·rw [if_pos (.inr (by omega))]
  simp only [h2,go_sem]
  exact Fin.aD _ rfl rfl (by simp only [ay,rv,au,Lease.enc,go_sem])
 ·have h4:¬ (k:Int)<0:=by omega
  rw [if_neg (by intro h;rcases h with h|h<;>omega)]
  have hy:nth (t.l.map Lease.enc) k=Lease.enc (gL t.l k):=bS Lease.enc Lease.z h3
  simp only [h2,h4,hy,Lease.enc,Int.toNat_natCast,go_sem]
  repeat (refine bn ?_)
  exact Fin.aD _ rfl rfl (by simp only [ay,rv,au,go_sem])
theorem Nv (t:Table) (id:Int) (hl:t.l.length<=1000) (hh:t.heap.length<=900):Fn Tryz.prog 240 [.agg t.enc,I id] [] (.aF [.agg (t.release id).1.enc,.agg (t.release id).2.1.enc,I (t.release id).2.2]) [] []:=by
 refine Fn.aO aiN (by simp) ?_
 unfold SK SC.mk' Table.enc Table.release
 simp only [go_sem]
 refine aQ (Bh t hl (by omega)) rfl rfl ?_
 simp only [go_sem]
 by_cases h1:(t.val !=0)=true
 ·simp only [h1,go_sem]
  exact Fin.aD _ rfl rfl (by simp only [ay,rv,au,ai.enc,List.map_nil,go_sem])
 simp only [Bool.not_eq_true] at h1
 simp only [h1,go_sem]
 refine aQ (DJ t id hl) rfl rfl ?_
 simp only [go_sem]
 rcases Nu t id with h2|⟨k,h2,h3⟩
 ·simp only [h2,go_sem]
  exact Fin.aD _ rfl rfl (by simp only [ay,rv,au,ai.enc,List.map_nil,go_sem])
 have h4:¬ (k:Int)<0:=by omega
 simp only [h2,h4,go_sem]
 refine aQ (acj t.heap id hh) rfl rfl ?_
 simp only [go_sem]
 have hw:=bT (show k<=100000 by omega)
 have hy:nth (t.l.map Lease.enc) k=Lease.enc (gL t.l k):=bS Lease.enc Lease.z h3
 simp only [hw,hy,Int.toNat_natCast,go_sem]
 have m1:k<=maxLen:=Nat.le_trans (show _<=10000 by omega) (by decide)
 have m2:k+(t.l.length - (k+1))<=maxLen:=Nat.le_trans (show _<=10000 by omega) (by decide)
 simp only [iB,iG,List.length_map,List.length_take,List.length_drop,List.take_length,Nat.min_eq_left (Nat.le_of_lt h3),Nat.min_self]
 repeat (refine bn ?_)
 have e2:(t.l.take k).take k++t.l.drop (k+1)=t.l.eraseIdx k:=by rw [List.take_take,Nat.min_self,List.eraseIdx_eq_take_drop_succ]
 have e3:(t.l.eraseIdx k).length=k+(t.l.length - (k+1)):=by rw [List.length_eraseIdx_of_lt h3];omega
 by_cases hc:k+(t.l.length - (k+1))<=k
 ·have hk:t.l.length - (k+1)=0:=by omega
  have e4:List.drop (k+1) t.l=[]:=List.drop_eq_nil_of_le (by omega)
  rw [e4,List.append_nil,List.take_take,Nat.min_self] at e2
  simp only [hc,hk,e4,List.map_nil,List.nil_append,Nat.add_zero,Nat.le_refl,kX,iB,iG,if_true,go_sem]
  repeat (refine bn ?_)
  simp only [hy,Lease.enc,go_sem]
  repeat (refine bn ?_)
  have e5:List.take k ((t.l.eraseIdx k).map Lease.enc)=(t.l.eraseIdx k).map Lease.enc:=bA (by simp [e3,hk])
  exact Fin.aD _ rfl rfl (by simp [ay,rv,au,get,e2,e3,e5,hk,ai.enc])
 ·simp only [hc,kX,iB,iG,e2,if_false,go_sem]
  repeat (refine bn ?_)
  simp only [hy,Lease.enc,go_sem]
  repeat (refine bn ?_)
  have e5:List.take (k+(t.l.length - (k+1))) ((t.l.eraseIdx k).map Lease.enc)=(t.l.eraseIdx k).map Lease.enc:=bA (by simp [e3])
  exact Fin.aD _ rfl rfl (by simp [ay,rv,au,get,e3,e5,ai.enc])
theorem Wp (h:List Due) (d:Due):(wN h d).1.length<=h.length+1:=by
 unfold wN
 repeat' split
 all_goals simp [Wm]
theorem Wq (h:List Due) (id:Int):(uP h id).1.length<=h.length:=by
 unfold uP
 repeat' split
 ·simp
 ·simp
 ·rcases Wo id h 0 with h2|⟨k,h2,h3⟩
  ·omega
  ·rw [h2,Nat.zero_add,Int.toNat_natCast,DI _ _ h3];omega
theorem alN (t:Table) (id dl:Int) (hl:t.l.length<=1000) (hh:t.heap.length<=800):Fn Tryz.prog 245 [.agg t.enc,I id,I dl] [] (.aF [.agg (t.extend id dl).1.enc,I (t.extend id dl).2]) [] []:=by
 refine Fn.aO aiQ (by simp) ?_
 unfold SY SC.mk' Table.enc Table.extend
 simp only [go_sem]
 refine aQ (Bh t hl (by omega)) rfl rfl ?_
 simp only [go_sem]
 by_cases h1:(t.val !=0)=true
 ·simp only [h1,go_sem]
  exact Fin.aD _ rfl rfl (by simp only [ay,rv,au,ai.enc,List.map_nil,go_sem])
 simp only [Bool.not_eq_true] at h1
 simp only [h1,go_sem]
 refine aQ (DJ t id hl) rfl rfl ?_
 simp only [go_sem]
 rcases Nu t id with h2|⟨k,h2,h3⟩
 ·simp only [h2,go_sem]
  exact Fin.aD _ rfl rfl (by simp only [ay,rv,au,ai.enc,List.map_nil,go_sem])
 have h4:¬ (k:Int)<0:=by omega
 simp only [h2,h4,go_sem]
 by_cases h5:dl<0
 ·simp only [h5,go_sem]
  exact Fin.aD _ rfl rfl (by simp only [ay,rv,au,List.map_nil,Bool.true_or,if_true,go_sem])
 by_cases h6:1073741824<dl
 ·simp only [h5,h6,go_sem]
  exact Fin.aD _ rfl rfl (by simp only [ay,rv,au,List.map_nil,Bool.or_true,if_true,go_sem])
 simp only [h5,h6,go_sem]
 refine aQ (acj t.heap id (by omega)) rfl rfl ?_
 simp only [go_sem]
 refine aQ (Wn (uP t.heap id).1 ⟨dl,id⟩ (Nat.le_trans (Wq _ _) (by omega))) rfl rfl ?_
 have hm:t.l.length<=maxLen:=Nat.le_trans (show _<=10000 by omega) (by decide)
 have hy:nth (t.l.map Lease.enc) k=Lease.enc (gL t.l k):=bS Lease.enc Lease.z h3
 have hz:(t.l.map Lease.enc).set k [I (gL t.l k).msg.id,I (gL t.l k).msg.route,I (gL t.l k).msg.epoch,I (gL t.l k).msg.count,I (gL t.l k).msg.gen,I (gL t.l k).msg.sent,.v (.string (gL t.l k).msg.body),I dl]=(t.l.set k ⟨(gL t.l k).msg,dl⟩).map Lease.enc:=by rw [List.map_set];rfl
 simp only [List.length_map,hy,hz,Lease.enc,Int.toNat_natCast,go_sem]
 repeat (refine bn ?_)
 refine Fin.aD _ rfl rfl (by simp [ay,rv,au,get];exact (bA (by simp)).symm)
theorem acp (t:Table) (m:ai) (dl:Int) (hl:t.l.length<=1000) (hh:t.heap.length<=800):Fn Tryz.prog 108 [.agg t.enc,.agg m.enc,I dl] [] (.aF [.agg (t.grant m dl).1.enc,I (t.grant m dl).2]) [] []:=by
 generalize hR:t.grant m dl=R
 refine Fn.aO aat (by simp) ?_
 unfold QX SC.mk' Table.enc ai.enc
 simp only [go_sem]
 unfold Table.grant at hR
 refine aQ (Bh t hl (by omega)) rfl rfl ?_
 simp only [go_sem]
 by_cases h1:(t.val !=0)=true
 ·rw [if_pos h1] at hR
  simp only [h1,go_sem]
  exact Fin.aD _ rfl rfl (by rw [<-hR];simp only [ay,rv,au,ai.enc,List.map_nil,go_sem])
 rw [if_neg h1] at hR
 simp only [Bool.not_eq_true] at h1
 simp only [h1,go_sem]
 refine aQ (wG m) rfl rfl ?_
 simp only [go_sem]
 by_cases h2:(m.val !=0)=true
 ·rw [if_pos h2] at hR
  simp only [h2,go_sem]
  exact Fin.aD _ rfl rfl (by rw [<-hR];simp only [ay,rv,au,ai.enc,List.map_nil,go_sem])
 rw [if_neg h2] at hR
 simp only [Bool.not_eq_true] at h2
 simp only [h2,go_sem]
 by_cases h3:(m.gen==0)=true
 ·rw [if_pos h3] at hR
  simp only [h3,go_sem]
  exact Fin.aD _ rfl rfl (by rw [<-hR];simp only [ay,rv,au,ai.enc,List.map_nil,go_sem])
 rw [if_neg h3] at hR
 simp only [Bool.not_eq_true] at h3
 simp only [h3,go_sem]
 by_cases h4:dl<0
 ·rw [if_pos (by simp [h4])] at hR
  simp only [h4,go_sem]
  exact Fin.aD _ rfl rfl (by rw [<-hR];simp only [ay,rv,au,ai.enc,List.map_nil,go_sem])
 by_cases h5:1073741824<dl
 ·rw [if_pos (by simp [h5])] at hR
  simp only [h4,h5,go_sem]
  exact Fin.aD _ rfl rfl (by rw [<-hR];simp only [ay,rv,au,ai.enc,List.map_nil,go_sem])
 rw [if_neg (by simp [h4,h5])] at hR
 simp only [h4,h5,go_sem]
 by_cases h6:((t.l.length:Int)==12)=true
 ·rw [if_pos h6] at hR
  simp only [h6,go_sem]
  exact Fin.aD _ rfl rfl (by rw [<-hR];simp only [ay,rv,au,ai.enc,List.map_nil,go_sem])
 rw [if_neg h6] at hR
 simp only [Bool.not_eq_true] at h6
 simp only [h6,go_sem]
 refine aQ (DJ t m.id hl) rfl rfl ?_
 simp only [go_sem]
 by_cases h7:0<=t.find m.id
 ·rw [if_pos (by simp [h7])] at hR
  simp only [h7,go_sem]
  exact Fin.aD _ rfl rfl (by rw [<-hR];simp only [ay,rv,au,ai.enc,List.map_nil,go_sem])
 rw [if_neg (by simp [h7])] at hR
 simp only [h7,go_sem]
 refine go_loop (fun j:{j:Nat // j<=t.l.length/\wP m.id (t.l.drop j) j=wP m.id t.l 0}=>⟨1000,[(2,I dl),(3,.ptr 8 0),(4,.ptr 16 0),(6,.ptr 24 0),(10,I j.1)],[(8,.box [.sl 8 (t.l.map Lease.enc),.sl 2 (t.heap.map Due.enc)]),(16,.box [I m.id,I m.route,I m.epoch,I m.count,I m.gen,I m.sent,.v (.string m.body)]),(24,.box [Nl,Nl])]⟩) (fun j=>t.l.length - j.1) ⟨0,by omega,rfl⟩ (wk [(8,8),(16,16),(24,24)] []) ?_
 rintro ⟨j,hj,he⟩ B hB
 simp only [go_sem]
 have hw:=bT (show j<=100000 by omega)
 by_cases hx:j<t.l.length/\(gL t.l j).msg.id<m.id
 ·have e1:=hx.1
  have hy:nth (t.l.map Lease.enc) j=Lease.enc (gL t.l j):=bS Lease.enc Lease.z e1
  have e2:decide ((j:Int)<(t.l.length:Int))=true:=by simp;omega
  rw [eB Lease.z e1] at he
  simp only [wP,show t.l[j]?.getD Lease.z=gL t.l j from rfl] at he
  rw [if_pos hx.2] at he
  simp only [hx.2,e2,hw,hy,Lease.enc,Int.toNat_natCast,go_sem]
  repeat (refine bn ?_)
  exact hB _ ⟨j+1,e1,he⟩ (by simp only;omega) (wk [(8,8),(16,16),(24,24)] [])
 have hk:wP m.id t.l 0=j:=by
  by_cases e1:j<t.l.length
  ·rw [eB Lease.z e1] at he
   simp only [wP,show t.l[j]?.getD Lease.z=gL t.l j from rfl] at he
   rw [if_neg (fun h=>hx ⟨e1,h⟩)] at he
   exact he.symm
  ·rw [eH (by omega)] at he
   exact he.symm
 rw [hk] at hR
 have ed:decide (j<t.l.length)=decide ((j:Int)<(t.l.length:Int)):=by simp
 have hpl:(wN t.heap ⟨dl,m.id⟩).1.length<=1000:=Nat.le_trans (Wp _ _) (by omega)
 by_cases e1:j<t.l.length
 ·have e2:decide ((j:Int)<(t.l.length:Int))=true:=by simp;omega
  have hy:nth (t.l.map Lease.enc) j=Lease.enc (gL t.l j):=bS Lease.enc Lease.z e1
  have hz:¬ (gL t.l j).msg.id<m.id:=fun h=>hx ⟨e1,h⟩
  simp only [e2,hz,hy,Lease.enc,Int.toNat_natCast,go_sem]
  repeat (refine bn ?_)
  (
   refine aQ (Wn t.heap ⟨dl,m.id⟩ (by omega)) rfl rfl ?_
   have hm:j<=maxLen:=Nat.le_trans (show _<=10000 by omega) (by decide)
   have hm1:j+1<=maxLen:=Nat.le_trans (show _<=10000 by omega) (by decide)
   have hm2:j+1+(t.l.length - j)<=maxLen:=Nat.le_trans (show _<=10000 by omega) (by decide)
   simp only [List.length_map,iB,iG,List.length_take,List.length_drop,List.take_length,Nat.min_eq_left hj,Nat.min_self,Int.toNat_natCast,go_sem]
   repeat (refine bn ?_)
   have e6:List.map Lease.enc (List.take j (List.take j t.l))++[[I m.id,I m.route,I m.epoch,I m.count,I m.gen,I m.sent,.v (.string m.body),I dl]]=List.map Lease.enc (List.take j t.l++[⟨m,dl⟩]):=by
    rw [List.take_take,Nat.min_self,List.map_append];rfl
   have e8:(List.take j t.l++[(⟨m,dl⟩:Lease)]).length=j+1:=by simp;omega
   simp only [e6,e8,iB,iG,kX,List.length_map,List.length_take,List.length_drop,go_sem]
   by_cases hc:j+1+(t.l.length - j)<=j+1
   ·first|(exfalso;omega)|skip
    all_goals
     have hk2:t.l.length - j=0:=by omega
     have e7:List.drop j t.l=[]:=List.drop_eq_nil_of_le (by omega)
     have e9:List.take (j+1) (List.take j t.l++[(⟨m,dl⟩:Lease)])=List.take j t.l++[⟨m,dl⟩]:=bA (by rw [e8];omega)
     have e12:List.drop (j+1) (List.take j t.l++[(⟨m,dl⟩:Lease)])=[]:=List.drop_eq_nil_of_le (by rw [e8];omega)
     have e11:List.take (j+1) ((List.take j t.l++[(⟨m,dl⟩:Lease)]).map Lease.enc)=(List.take j t.l++[(⟨m,dl⟩:Lease)]).map Lease.enc:=bA (by simp only [List.length_map,e8];omega)
     rw [e7] at hR
     simp only [e7,hk2,e9,e12,Nat.add_zero,Nat.le_refl,List.map_nil,List.nil_append,kX,iB,iG,List.append_nil,if_true,go_sem]
     repeat (refine bn ?_)
     exact Fin.aD _ rfl rfl (by rw [<-hR];simp only [ay,rv,au,get,e8,e11,List.length_map,go_sem];simp)
   ·first|(exfalso;omega)|skip
    all_goals
     have e9:List.take (j+1) (List.take j t.l++[(⟨m,dl⟩:Lease)])=List.take j t.l++[⟨m,dl⟩]:=bA (by rw [e8];omega)
     have e10:(List.take j t.l++(⟨m,dl⟩:Lease)::List.drop j t.l).length=j+1+(t.l.length - j):=by simp;omega
     have e11:List.take (j+1+(t.l.length - j)) ((List.take j t.l++(⟨m,dl⟩:Lease)::List.drop j t.l).map Lease.enc)=(List.take j t.l++(⟨m,dl⟩:Lease)::List.drop j t.l).map Lease.enc:=bA (by simp only [List.length_map,e10];omega)
     simp only [hc,e9,kX,iB,iG,List.append_assoc,List.singleton_append,if_false,go_sem]
     repeat (refine bn ?_)
     exact Fin.aD _ rfl rfl (by rw [<-hR];simp only [ay,rv,au,get,e10,e11,List.length_map,go_sem];simp))
 ·have e2:decide ((j:Int)<(t.l.length:Int))=false:=by simp;omega
  simp only [e2,go_sem]
  repeat (refine bn ?_)
  (
   refine aQ (Wn t.heap ⟨dl,m.id⟩ (by omega)) rfl rfl ?_
   have hm:j<=maxLen:=Nat.le_trans (show _<=10000 by omega) (by decide)
   have hm1:j+1<=maxLen:=Nat.le_trans (show _<=10000 by omega) (by decide)
   have hm2:j+1+(t.l.length - j)<=maxLen:=Nat.le_trans (show _<=10000 by omega) (by decide)
   simp only [List.length_map,iB,iG,List.length_take,List.length_drop,List.take_length,Nat.min_eq_left hj,Nat.min_self,Int.toNat_natCast,go_sem]
   repeat (refine bn ?_)
   have e6:List.map Lease.enc (List.take j (List.take j t.l))++[[I m.id,I m.route,I m.epoch,I m.count,I m.gen,I m.sent,.v (.string m.body),I dl]]=List.map Lease.enc (List.take j t.l++[⟨m,dl⟩]):=by
    rw [List.take_take,Nat.min_self,List.map_append];rfl
   have e8:(List.take j t.l++[(⟨m,dl⟩:Lease)]).length=j+1:=by simp;omega
   simp only [e6,e8,iB,iG,kX,List.length_map,List.length_take,List.length_drop,go_sem]
   by_cases hc:j+1+(t.l.length - j)<=j+1
   ·first|(exfalso;omega)|skip
    all_goals
     have hk2:t.l.length - j=0:=by omega
     have e7:List.drop j t.l=[]:=List.drop_eq_nil_of_le (by omega)
     have e9:List.take (j+1) (List.take j t.l++[(⟨m,dl⟩:Lease)])=List.take j t.l++[⟨m,dl⟩]:=bA (by rw [e8];omega)
     have e12:List.drop (j+1) (List.take j t.l++[(⟨m,dl⟩:Lease)])=[]:=List.drop_eq_nil_of_le (by rw [e8];omega)
     have e11:List.take (j+1) ((List.take j t.l++[(⟨m,dl⟩:Lease)]).map Lease.enc)=(List.take j t.l++[(⟨m,dl⟩:Lease)]).map Lease.enc:=bA (by simp only [List.length_map,e8];omega)
     rw [e7] at hR
     simp only [e7,hk2,e9,e12,Nat.add_zero,Nat.le_refl,List.map_nil,List.nil_append,kX,iB,iG,List.append_nil,if_true,go_sem]
     repeat (refine bn ?_)
     exact Fin.aD _ rfl rfl (by rw [<-hR];simp only [ay,rv,au,get,e8,e11,List.length_map,go_sem];simp)
   ·first|(exfalso;omega)|skip
    all_goals
     have e9:List.take (j+1) (List.take j t.l++[(⟨m,dl⟩:Lease)])=List.take j t.l++[⟨m,dl⟩]:=bA (by rw [e8];omega)
     have e10:(List.take j t.l++(⟨m,dl⟩:Lease)::List.drop j t.l).length=j+1+(t.l.length - j):=by simp;omega
     have e11:List.take (j+1+(t.l.length - j)) ((List.take j t.l++(⟨m,dl⟩:Lease)::List.drop j t.l).map Lease.enc)=(List.take j t.l++(⟨m,dl⟩:Lease)::List.drop j t.l).map Lease.enc:=bA (by simp only [List.length_map,e10];omega)
     simp only [hc,e9,kX,iB,iG,List.append_assoc,List.singleton_append,if_false,go_sem]
     repeat (refine bn ?_)
     exact Fin.aD _ rfl rfl (by rw [<-hR];simp only [ay,rv,au,get,e10,e11,List.length_map,go_sem];simp))
theorem acr (now:Int):∀ (f:Nat) (h:List Due),h.length<f->kC now f h=kC now (h.length+1) h
 |0,h,hf=>absurd hf (Nat.not_lt_zero _)
 |f+1,h,hf=>by
  rw [kC,kC]
  by_cases hc:(iK h==0)=true/\0<h.length/\(gD h 0).dl<=now
  ·rw [if_pos hc,if_pos hc,acr now f _ (by rw [DI _ _ hc.2.1];omega),DI _ _ hc.2.1,show h.length - 1+1=h.length by omega]
  ·rw [if_neg hc,if_neg hc]
theorem acs (now:Int):∀ (f:Nat) (h:List Due),(kC now f h).length<=h.length
 |0,h=>Nat.zero_le _
 |f+1,h=>by
  rw [kC]
  split
  ·rename_i hc
   have:=acs now f (qg h 0)
   rw [DI _ _ hc.2.1] at this
   simp only [List.length_cons];omega
  ·exact Nat.zero_le _
theorem acu (t:Table):∀ (l:List Lease) (i:Nat),uQ t l i=0->(∀ x ∈ l,x.msg.val=0/\0<=x.dl/\x.dl<=1073741824)/\iK t.heap=0/\t.heap.length=t.l.length/\Bb t t.heap=0
 |[],i,e=>by
  simp only [uQ] at e
  split at e
  ·rename_i h;simp at h;omega
  ·rename_i h;split at e
   ·omega
   ·rename_i h2;exact ⟨by simp,by simpa using h,by omega,e⟩
 |x::r,i,e=>by
  simp only [uQ] at e
  split at e
  ·rename_i h;simp at h;omega
  rename_i h0
  split at e
  ·omega
  split at e
  ·omega
  rename_i h2
  split at e
  ·omega
  obtain ⟨h3,h4⟩:=acu t r (i+1) e
  refine ⟨fun y hy=> ?_,h4⟩
  rcases List.mem_cons.1 hy with rfl|hy
  ·simp at h0 h2;exact ⟨h0,h2⟩
  ·exact h3 y hy
theorem Table.val_zero {t:Table} (h:t.val=0):t.l.length<=12/\t.heap.length=t.l.length/\iK t.heap=0/\(∀ x ∈ t.l,x.msg.val=0/\0<=x.dl/\x.dl<=1073741824)/\Bb t t.heap=0:=by
 unfold Table.val at h
 split at h
 ·omega
 ·obtain ⟨h1,h2,h3,h4⟩:=acu t t.l 0 h
  exact ⟨by omega,h3,h2,h1,h4⟩
theorem alO (t:Table) (now epoch:Int) (hl:t.l.length<=1000) (hh:t.heap.length<=800):Fn Tryz.prog 423 [.agg t.enc,I now,I epoch] [] (.sl 1 (encI (t.wR now epoch))) [] []:=by
 generalize hR:t.wR now epoch=R
 unfold Table.wR at hR
 refine Fn.aO ajz (by simp) ?_
 unfold Vo SC.mk' Table.enc
 simp only [go_sem]
 refine aQ (Bh t hl (by omega)) rfl rfl ?_
 simp only [go_sem]
 by_cases h1:(t.val !=0)=true
 ·rw [if_pos (by simpa using h1)] at hR
  simp only [h1,go_sem]
  exact Fin.aD _ rfl rfl (by rw [<-hR];simp only [ay,rv,au,encI,List.map_nil,go_sem])
 simp only [Bool.not_eq_true] at h1
 have h0:t.val=0:=by simpa using h1
 have hv:=Table.val_zero h0
 rw [if_neg (by simpa using h0),acr now 13 t.heap (by omega)] at hR
 simp only [h1,go_sem]
 refine aQ (alM t.heap now (by omega)) rfl rfl ?_
 have hdl:=acs now (t.heap.length+1) t.heap
 generalize hD:kC now (t.heap.length+1) t.heap=D at hR hdl
 simp only [go_sem]
 refine go_loop (fun s:{s:Nat×List Int // s.1<=D.length/\s.2.length<=s.1/\s.2++wQ t epoch (D.drop s.1)=R}=>⟨3000,[(2,I epoch),(3,.ptr 8 0),(7,.own 80 1 0 s.1.2.length),(8,.sl 1 (encI D)),(9,I s.1.1)],[(8,.box [.sl 8 (t.l.map Lease.enc),.sl 2 (t.heap.map Due.enc)]),(80,.row 3 1 (encI s.1.2))]⟩) (fun s=>D.length - s.1.1) ⟨(0,[]),by omega,by simp,by simpa using hR⟩ (wk [(8,8)] [80]) ?_
 rintro ⟨⟨j,out⟩,hj,ho,he⟩ B hB
 simp only at hj ho he
 simp only [go_sem]
 by_cases e1:j<D.length
 ·have e2:decide ((j:Int)<(D.length:Int))=true:=by simp;omega
  rw [eB 0 e1] at he
  simp only [wQ] at he
  have hx:nth (encI D) j=[I (D[j]?.getD 0)]:=bS (fun z=>[I z]) 0 e1
  have hw:=bT (show j<=100000 by omega)
  generalize D[j]?.getD 0=id at hx he
  simp only [e2,hx,Int.toNat_natCast,go_sem]
  repeat (refine bn ?_)
  refine bX (aco t id hl (by omega)) rfl rfl ?_
  simp only [Lease.enc,go_sem]
  repeat (refine bn ?_)
  refine aQ (sS (t.qh id).1.msg epoch) rfl rfl ?_
  simp only [go_sem]
  by_cases h2:(t.qh id).1.msg.epoch<epoch
  ·rw [if_pos h2] at he
   simp only [h2,hw,Bool.not_true,go_sem]
   exact hB _ ⟨(j+1,out),by simp only;omega,by simp only;omega,he⟩ (by simp only;omega) (wk [(8,8),(80,80)] [])
  ·rw [if_neg h2] at he
   have hm:out.length+1<=maxLen:=Nat.le_trans (show _<=10000 by omega) (by decide)
   have e3:encI out++[[I id]]=encI (out++[id]):=by simp [encI]
   have e3':List.take out.length (encI out)++[[I id]]=encI (out++[id]):=by rw [bA (by simp [encI])];exact e3
   simp only [h2,hw,hx,e3,e3',Int.toNat_natCast,Bool.not_false,go_sem]
   repeat (refine bn ?_)
   exact hB _ ⟨(j+1,out++[id]),by simp only;omega,by simp;omega,by simpa using he⟩ (by simp only;omega) (wk [(8,8),(80,3216)] [])
 ·have e2:decide ((j:Int)<(D.length:Int))=false:=by simp;omega
  rw [eH (by omega)] at he
  simp only [wQ,List.append_nil] at he
  simp only [e2,go_sem]
  have e4:List.take out.length (encI out)=encI out:=bA (by simp [encI])
  exact Fin.aD _ rfl rfl (by rw [<-he];simp only [ay,rv,au,get,e4,go_sem];simp [encI])
end Go.Eng
