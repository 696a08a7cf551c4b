/-
  Part of a proof: lemmas and definitions of this work.
  No condition.
-/
import Derived.Test.YthhjbngoibmpgaaGreatH08
import Derived.Test.YthhjbngoibmpgaaGreatH18
import Derived.Test.YthhjbngoibmpgaaGreatH15
set_option linter.all false
set_option maxRecDepth 100000
set_option maxHeartbeats 8000000
namespace Go.Eng
open Go Go.Proofs
theorem acE (t:Table) (h1:t.l.length<=10000) (h2:t.heap.length<=10000):Fn Tryz.prog 344 [.agg t.enc] [] (I t.val) [] []:=by
 rw [t.acD]
 by_cases c1:(12:Int)<t.l.length
 ·rw [if_pos c1]
  have c1':decide ((12:Int)<(t.l.length:Int))=true:=by simpa using c1
  refine Fn.aB F3 (by simp) ?_
  unfold AR SC.mk' Table.enc
  simp only [List.length_map,c1',go_sem]
  exact Fin.aQ _ rfl rfl rfl rfl
 rw [if_neg c1]
 have c1':decide ((12:Int)<(t.l.length:Int))=false:=by simpa using c1
 have hd:=acv t.heap h2
 have hm:=acA t h1 h2
 generalize mr t=mt at hm ⊢
 generalize iA t.heap=dv at hd ⊢
 generalize hS:jk t t.l 0=S
 refine Fn.aB F3 (by simp) ?_
 unfold AR SC.mk' Table.enc
 simp only [List.length_map,c1',go_sem]
 refine go_loop (fun j:{j:Nat // j<=t.l.length/\jk t (t.l.drop j) j=S}=>⟨1000,[(1,.ptr 8 0),(12,.sl 8 (t.l.map Lease.enc)),(13,I t.l.length),(14,I j.1)],[(8,.box t.enc)]⟩) (fun j=>t.l.length - j.1) ⟨0,by omega,by simpa using hS⟩ (Wk.mk [(8,8)] [] rfl rfl (by simp only [bq,aR,au,rv,Table.enc,go_sem]<;>try simp) trivial (by simp only [bQ,rv,au,go_sem]<;>try simp)) ?_
 rintro ⟨j,hj,he⟩ B hB
 simp only [Table.enc,go_sem]
 by_cases e1:j<t.l.length
 ·have e2:decide ((j:Int)<(t.l.length:Int))=true:=by simp;omega
  have hw:=cZ (show j<=100000 by omega)
  have hx:nth (t.l.map Lease.enc) j=Lease.enc (gL t.l j):=fJ Lease.enc Lease.z e1
  rw [fZ Lease.z e1] at he
  change jk t (gL t.l j::t.l.drop (j+1)) j=S at he
  simp only [jk] at he
  have hp:0<j->nth (t.l.map Lease.enc) (j - 1)=Lease.enc (gL t.l (j - 1)):=fun h=>fJ Lease.enc Lease.z (by omega)
  generalize gL t.l (j - 1)=y at he hp
  generalize gL t.l j=x at hx he
  have hv:=GA x.msg
  simp only [ak.enc] at hv
  simp only [e2,hx,Lease.enc,Int.toNat_natCast,List.length_map,go_sem]
  repeat (refine bn ?_)
  refine aS hv rfl rfl ?_
  generalize x.msg.val=mv at he
  by_cases v1:(mv !=0)=true
  ·rw [if_pos v1] at he
   simp only [v1,go_sem]
   have v2:mv≠0:=by simpa using v1
   exact Fin.aQ _ rfl rfl rfl (by rw [<-he,if_pos v2];rfl)
  rw [if_neg v1] at he
  simp only [Bool.not_eq_true] at v1
  by_cases g1:(x.msg.gen==0)=true
  ·rw [if_pos g1] at he
   simp only [v1,g1,go_sem]
   exact Fin.aQ _ rfl rfl rfl (by rw [<-he];rfl)
  rw [if_neg g1] at he
  simp only [Bool.not_eq_true] at g1
  by_cases d1:(decide (x.dl<0)||decide (1073741824<x.dl))=true
  ·rw [if_pos d1] at he
   have d2:(decide (0<=x.dl)&&decide (x.dl<=1073741824))=false:=by
    rw [Bool.eq_false_iff];intro h;simp at h d1;omega
   simp only [v1,g1,go_sem]
   refine aS (Qa x.dl) rfl rfl ?_
   simp only [d2,go_sem]
   exact Fin.aQ _ rfl rfl rfl (by rw [<-he];rfl)
  rw [if_neg d1] at he
  have d2:(decide (0<=x.dl)&&decide (x.dl<=1073741824))=true:=by
   simp at d1 ⊢;omega
  simp only [v1,g1,go_sem]
  refine aS (Qa x.dl) rfl rfl ?_
  by_cases j0:0<j
  ·have IC:decide ((0:Int)<(j:Int))=true:=by simp;omega
   have hw1:IntKind.i64.wrap ((j:Int) - 1)=((j - 1:Nat):Int):=by rw [cu (by omega)];omega
   have hp:=hp j0
   simp only [d2,IC,hw1,hp,Lease.enc,Int.toNat_natCast,List.length_map,go_sem]
   repeat (refine bn ?_)
   by_cases o1:x.msg.id<=y.msg.id
   ·rw [if_pos ⟨j0,o1⟩] at he
    have o2:decide (x.msg.id<=y.msg.id)=true:=by simpa using o1
    simp only [o2,go_sem]
    exact Fin.aQ _ rfl rfl rfl (by rw [<-he];rfl)
   ·rw [if_neg (fun h=>o1 h.2)] at he
    have o2:decide (x.msg.id<=y.msg.id)=false:=by simpa using o1
    simp only [o2,hw,go_sem]
    exact hB _ ⟨j+1,by omega,he⟩ (by simp only;omega) (Wk.mk [(8,8)] [] rfl rfl (by simp only [bq,aR,au,rv,Table.enc,go_sem]<;>try simp) trivial (by simp only [bQ,rv,au,go_sem]<;>try simp))
  ·have IC:decide ((0:Int)<(j:Int))=false:=by simp;omega
   rw [if_neg (fun h=>j0 h.1)] at he
   simp only [d2,IC,hw,go_sem]
   repeat (refine bn ?_)
   exact hB _ ⟨j+1,by omega,he⟩ (by simp only;omega) (Wk.mk [(8,8)] [] rfl rfl (by simp only [bq,aR,au,rv,Table.enc,go_sem]<;>try simp) trivial (by simp only [bQ,rv,au,go_sem]<;>try simp))
 ·have e2:decide ((j:Int)<(t.l.length:Int))=false:=by simp;omega
  rw [iY (by omega)] at he
  simp only [jk] at he
  rw [if_neg (by simpa using he.symm)]
  simp only [e2,go_sem]
  refine aS hd rfl rfl ?_
  by_cases v1:(dv !=0)=true
  ·rw [if_pos v1]
   simp only [v1,go_sem]
   exact Fin.aQ _ rfl rfl rfl rfl
  rw [if_neg v1]
  simp only [Bool.not_eq_true] at v1
  simp only [v1,go_sem]
  refine aS hm rfl rfl ?_
  cases mt with
  |true=>
   simp only [go_sem]
   exact Fin.aQ _ rfl rfl rfl rfl
  |false=>
   simp only [go_sem]
   exact Fin.aQ _ rfl rfl rfl rfl
theorem acF (cs:List ak) (h s:Nat) (h1:h<=1000) (h2:s<=1000) (h3:0<cs.length):Fn Tryz.prog 309 [qP cs h s] [] (.own 4 7 0 s) [] [.row 123 7 (dK (dS cs h s))]:=by
 refine Fn.aB FX (by simp) ?_
 unfold AQ SC.mk'
 simp only [go_sem]
 refine go_loop (fun j:{j:Nat // j<=s}=>⟨2000,[(1,.ptr 8 0),(3,.own 1500 7 0 j.1),(6,I s),(7,I j.1)],[(8,.box [mg cs,I h,I s]),(1500,.row 123 7 (dK (dS cs h j.1)))]⟩) (fun j=>s - j.1) ⟨0,by omega⟩
  (Wk.mk [(8,8)] [1500] rfl rfl (by simp only [bq,aR,au,rv,go_sem];try simp) (by simp only [gG,dS,dK,List.range_zero,List.map_nil,go_sem]) (by simp only [rv,go_sem];try simp)) ?_
 intro j B hB
 simp only [go_sem]
 refine dQ (fun h4=> ?_) (fun h4=> ?_)<;>simp only [h4,go_sem]
 ·have e1:j.1<s:=by simp only [decide_eq_true_eq] at h4;omega
  refine dV (GI cs h j.1 s (by omega) (by omega) h3) rfl rfl ?_
  have e2:(h+j.1) % cs.length<cs.length:=Nat.mod_lt _ h3
  simp only [GJ e2,mo,GD,xZ,cZ (show j.1<=100000 by omega),List.take_of_length_le (Nat.le_of_eq (mo cs h j.1)),List.drop_zero,go_sem]
  have hm:j.1+1<=maxLen:=Nat.le_trans (show _<=2000 by omega) (by decide)
  exact ⟨⟨by omega,by omega⟩,⟨by omega,hm,by omega⟩,rfl,hB _ ⟨j.1+1,e1⟩ (by simp only;omega) (Wk.mk [(8,8),(1500,2096)] [] rfl rfl (by simp only [bq,aR,au,rv,Oq,Oh,Oo,go_sem]) (by simp only [go_sem]) (by simp only [rv,go_sem]))⟩
 ·have e1:j.1=s:=by have:=j.2;simp only [decide_eq_false_iff_not] at h4;omega
  simp only [e1,go_sem]
  exact Fin.tC 1500 _ rfl rfl rfl (by simp only [aD,rv,get,if_true,and_self])
theorem acG (r:Ring):Fn Tryz.prog 223 [.agg r.enc] [] (.own 4 7 0 r.list.length) [] [.row 123 7 (dK r.list)]:=by
 have hv:=GL r.cells r.head r.size
 change Fn _ _ _ _ (I r.val) _ _ at hv
 unfold Ring.list vH
 change Fn _ _ _ _ (.own 4 7 0 (if r.val≠0 then [] else dS r.cells r.head.toNat r.size.toNat).length) _ [.row _ 7 (dK (if r.val≠0 then [] else dS r.cells r.head.toNat r.size.toNat))]
 by_cases e:r.val≠0
 ·have e':(r.val !=0)=true:=by simpa using e
  rw [if_pos e]
  refine Fn.aB AL (by simp) ?_
  unfold xV SC.mk' Ring.enc
  simp only [go_sem]
  refine aS hv rfl rfl ?_
  simp only [e',go_sem]
  exact ⟨[],[4],_,rfl,rfl,by simp only [bq,outs,dM,bS,List.map_nil,List.nil_append,List.not_mem_nil,not_false_eq_true,go_sem]<;>simp,by simp only [gG,outs,dM,bS,go_sem]<;>simp [dK],by simp [aD,rv]⟩
 ·have e':(r.val !=0)=false:=by simpa using e
  rw [if_neg e]
  obtain ⟨h',l,q1,q2,q3,q4,q5,q6,q7,q8,q9⟩:=A8 (Decidable.not_not.1 e)
  have hl:=acF r.cells h' l.length (by omega) (by omega) (by omega)
  refine Fn.aB AL (by simp) ?_
  unfold xV SC.mk' Ring.enc
  simp only [go_sem]
  refine aS hv rfl rfl ?_
  simp only [e',go_sem]
  rw [q1,q2,Int.toNat_natCast,Int.toNat_natCast]
  refine nK hl rfl rfl (by simp) (by simp [bZ]) ?_
  simp only [bS,sh,go_sem]
  exact Fin.tC 56 _ rfl rfl rfl (by simp only [aD,rv,get,if_true,and_self,mo])
theorem acH (r:Ring):Fn Tryz.prog 223 [.agg r.enc] [] (.sl 7 (r.list.map ak.enc)) [] []:=aax r.cells r.head r.size
theorem acI (r:Ring):Fn Tryz.prog 308 [.agg r.enc] [] (I r.val) [] []:=GL r.cells r.head r.size
theorem IE (n lo hi:Int):Fn Tryz.prog 302 [I n,I lo,I hi] [] (Bo (decide (lo<=n)&&decide (n<=hi))) [] []:=by
 refine Fn.aB NM (by simp) ?_
 unfold FV SC.mk'
 simp only [go_sem]
 have hJ:=trivial
 repeat' first
  |(first|refine sC ?_|refine sD ?_);simp only [hJ,go_sem]
  |(first|refine dQ (fun hq=> ?_) (fun hq=> ?_)|refine jE (fun hq=> ?_) (fun hq=> ?_)|refine je (fun hq=> ?_) (fun hq=> ?_))<;>simp only [hq,hJ,go_sem]
  |refine sM ?_;simp only [aD,rv,au,get,hJ,go_sem]
  |refine bn ?_
  |fail
 all_goals clear hJ
 all_goals (simp_all [aD]<;>omega)
theorem Qf (lo hi:Int):Fn Tryz.prog 126 [I lo,I hi] [] (Bo (qW lo hi)) [] []:=by
 refine Fn.aB MR (by simp) ?_
 unfold ER SC.mk'
 simp only [go_sem]
 have hJ:=trivial
 repeat' first
  |(first|refine sC ?_|refine sD ?_);simp only [hJ,go_sem]
  |(first|refine dQ (fun hq=> ?_) (fun hq=> ?_)|refine jE (fun hq=> ?_) (fun hq=> ?_)|refine je (fun hq=> ?_) (fun hq=> ?_))<;>simp only [hq,hJ,go_sem]
  |refine sM ?_;simp only [aD,rv,au,get,hJ,go_sem]
  |refine bn ?_
  |fail
 all_goals clear hJ
 all_goals (simp_all [aD,qW]<;>omega)
theorem acJ (s:aj):Fn Tryz.prog 330 [.agg s.enc] [] (I (IntKind.i64.wrap s.cnt)) [] []:=by
 refine Fn.aB NP (by simp) ?_
 unfold FY SC.mk' aj.enc
 simp only [List.length_map,go_sem]
 exact Fin.aQ _ rfl rfl rfl rfl
theorem acK (s:aj) (hs:s.sm):Fn Tryz.prog 333 [.agg s.enc] [] (.own 4 7 0 s.all.length) [] [.row 123 7 (s.all.map ak.enc)]:=by
 have hs1:=hs.1
 have hr:=s.ready.yM
 have mx:∀ j:Nat,j<=10000->j<=maxLen:=fun j h=>Nat.le_trans h (by decide)
 refine Fn.aB NQ (by simp) ?_
 unfold FZ SC.mk' aj.enc
 simp only [go_sem]
 refine nK (acG s.ready) rfl rfl (by simp) (by simp [bZ]) ?_
 simp only [bS,sh,List.length_map,dK,go_sem]
 refine go_loop (fun j:{j:Nat // j<=s.aL.l.length}=>⟨2000,[(1,.ptr 8 0),(3,.own 1500 7 0 (s.ready.list.length+j.1)),(11,.sl 8 (s.aL.l.map Lease.enc)),(12,I s.aL.l.length),(13,I j.1)],[(8,.box s.enc),(1500,.row 123 7 ((s.ready.list++(s.aL.l.take j.1).map Lease.msg).map ak.enc))]⟩) (fun j=>s.aL.l.length - j.1) ⟨0,by omega⟩
  (Wk.mk [(8,8),(1500,40)] [] rfl rfl (by simp only [bq,aR,au,rv,aj.enc,go_sem]<;>try simp) trivial (by simp only [bQ,rv,au,go_sem]<;>try simp)) ?_
 rintro ⟨j,hj⟩ B hB
 simp only [aj.enc,go_sem]
 by_cases e1:j<s.aL.l.length
 ·have e2:decide ((j:Int)<(s.aL.l.length:Int))=true:=by simp;omega
  have hw:=cZ (show j<=100000 by omega)
  have hx:nth (s.aL.l.map Lease.enc) j=Lease.enc (s.aL.l[j]?.getD Lease.z):=fJ Lease.enc Lease.z e1
  have ht:s.aL.l.take (j+1)=s.aL.l.take j++[s.aL.l[j]?.getD Lease.z]:=Ii Lease.z e1
  generalize s.aL.l[j]?.getD Lease.z=x at hx ht
  have l1:((s.ready.list++(s.aL.l.take j).map Lease.msg).map ak.enc).length=s.ready.list.length+j:=by simp;omega
  have t1:List.take (s.ready.list.length+j) ((s.ready.list++(s.aL.l.take j).map Lease.msg).map ak.enc)=(s.ready.list++(s.aL.l.take j).map Lease.msg).map ak.enc:=eZ (by omega)
  have e4:(s.ready.list++(s.aL.l.take j).map Lease.msg).map ak.enc++[ak.enc x.msg]=(s.ready.list++(s.aL.l.take (j+1)).map Lease.msg).map ak.enc:=by rw [ht];simp
  simp only [ak.enc] at e4
  have hm1:=mx (s.ready.list.length+j+1) (by omega)
  generalize hL:(s.ready.list++(s.aL.l.take j).map Lease.msg).map ak.enc=L at l1 t1 e4
  simp only [e2,hx,hw,l1,t1,e4,show ¬ (s.ready.list.length+j+1<=s.ready.list.length+j) from by omega,if_false,Lease.enc,Int.toNat_natCast,List.length_map,go_sem]
  repeat (refine bn ?_)
  exact hB _ ⟨j+1,by omega⟩ (by simp only;omega) (Wk.mk [(8,8),(1500,2072)] [] rfl rfl (by simp only [bq,aR,au,rv,aj.enc,go_sem]<;>try simp) trivial (by simp only [bQ,rv,au,go_sem]<;>try simp [Nat.add_assoc]))
 ·have e2:decide ((j:Int)<(s.aL.l.length:Int))=false:=by simp;omega
  have tt:s.aL.l.take j=s.aL.l:=eZ (by omega)
  have hjl:j=s.aL.l.length:=by omega
  have hal:s.ready.list.length+j=s.all.length:=by unfold aj.all aj.dH;simp;omega
  simp only [e2,tt,hal,go_sem]
  exact Fin.tC 1500 _ rfl rfl rfl (by simp only [aD,rv,get,if_true,and_self])
def mD (lo hi:Int) (m:ak):Bool:=decide (m.route<lo)||decide (hi<m.route)
theorem Qg (l:List ak) (lo hi:Int):∀ k:List ak,yA l lo hi k=if k.any (mD lo hi) then 12 else o6 l l 0
 |[]=>rfl
 |m::r=>by
  simp only [yA,List.any_cons,Qg l lo hi r,mD]
  by_cases h:(decide (m.route<lo)||decide (hi<m.route))=true
  ·simp only [h,if_true,Bool.true_or]
  ·simp only [Bool.not_eq_true] at h
   simp only [h,Bool.false_or,Bool.false_eq_true,if_false]
theorem acL {l:List ak} {k:Nat} (h:k<l.length) (hn:(ids l).Nodup):jZ l (l[k]?.getD ak.z).id=k:=by
 have h2:k<(ids l).length:=by rw [tu];exact h
 have e:(ids l)[k]=(l[k]?.getD ak.z).id:=by simp [ids,h]
 have h3:((ids l).take (k+1)).Nodup:=hn.sublist (List.take_sublist _ _)
 have h4:=((yc h2).1 h3).2
 rw [e] at h4
 obtain ⟨a,b⟩:=Z9 h2 h4 e
 unfold jZ
 rw [if_pos a,b]
theorem Qh (l:List ak):∀ (k:List ak) (i:Nat),k=l.drop i->(o6 l k i=0\/o6 l k i=10)/\(o6 l k i=0↔∀ j,i<=j->j<l.length->jZ l (l[j]?.getD ak.z).id=j)
 |[],i,hd=>by
  have:=congrArg List.length hd
  simp at this
  exact ⟨.inl rfl,fun _ j h1 h2=>by omega,fun _=>rfl⟩
 |m::r,i,hd=>by
  have hi:i<l.length:=by
   have:=congrArg List.length hd
   simp at this
   omega
  have hx:m=l[i]?.getD ak.z/\r=l.drop (i+1):=by
   rw [fZ ak.z hi] at hd
   cases hd
   exact ⟨rfl,rfl⟩
  simp only [o6]
  by_cases h:(jZ l m.id !=(i:Int))=true
  ·rw [if_pos h]
   refine ⟨.inr rfl,⟨fun e=>(by cases e),fun h2=> ?_⟩⟩
   have:=h2 i (by omega) hi
   rw [<-hx.1] at this
   rw [this] at h
   simp at h
  ·rw [if_neg h]
   have ih:=Qh l r (i+1) hx.2
   refine ⟨ih.1,ih.2.trans ⟨fun h2 j h3 h4=> ?_,fun h2 j h3 h4=>h2 j (by omega) h4⟩⟩
   by_cases e:j=i
   ·subst e
    rw [<-hx.1]
    simpa using h
   ·exact h2 j (by omega) h4
theorem acM (l:List ak):o6 l l 0=if dup l then 10 else 0:=by
 obtain ⟨h1,h2⟩:=Qh l l 0 (by simp)
 unfold dup
 by_cases hn:(ids l).Nodup
 ·simp only [hn,decide_true,Bool.not_true,Bool.false_eq_true,if_false]
  exact h2.2 fun j _ hj=>acL hj hn
 ·simp only [hn,decide_false,Bool.not_false,if_true]
  rcases h1 with h1|h1
  ·exfalso
   apply hn
   refine BU ak.id ak.z l fun i j hi hj e=> ?_
   have a:=h2.1 h1 i (by omega) hi
   have b:=h2.1 h1 j (by omega) hj
   rw [e,b] at a
   omega
  ·exact h1
structure acN (ms:List ak) (lo hi:Int) where
 j:Nat
 es:List Int
 b:Bool
 hj:j<=ms.length
 inv:(ms.take j).any (mD lo hi)=false
 mem:∀ x,x ∈ es↔x ∈ (ids ms).take j
 hb:b= !decide (((ids ms).take j).Nodup)
theorem acO {s:aj} (h1:s.ready.val=0) (h2:s.aL.val=0):0<=s.ready.size/\s.ready.size<=12/\s.aL.l.length<=12/\s.ready.cells.length<=12:=by
 obtain ⟨h',l,q1,q2,q3,q4,q5,q6,q7,q8,q9⟩:=A8 h1
 unfold Table.val at h2
 split at h2
 ·cases h2
 ·omega
theorem IG (s:aj) (hs:s.sm):Fn Tryz.prog 294 [.agg s.enc] [] (I s.val) [] []:=by
 have hr:=acI s.ready
 have ht:=acE s.aL (by have:=hs.1;omega) (by have:=hs.2;omega)
 have hst:=acJ s
 have hsp:=Qf s.low s.high
 have hms:=acK s hs
 have hal:=abX s hs
 unfold aj.val
 rw [Qg,acM]
 by_cases e1:s.ready.val≠0
 ·rw [if_pos e1]
  have uf:(s.ready.val !=0)=true:=by simpa using e1
  refine Fn.aB sS (by simp) ?_
  unfold qK SC.mk' aj.enc
  simp only [go_sem]
  refine aS hr rfl rfl ?_
  simp only [uf,go_sem]
  exact Fin.aQ _ rfl rfl rfl rfl
 rw [if_neg e1]
 have uf:(s.ready.val !=0)=false:=by simpa using e1
 by_cases e2:s.aL.val≠0
 ·rw [if_pos e2]
  have e2':(s.aL.val !=0)=true:=by simpa using e2
  refine Fn.aB sS (by simp) ?_
  unfold qK SC.mk' aj.enc
  simp only [go_sem]
  refine aS hr rfl rfl ?_
  simp only [uf,go_sem]
  refine aS ht rfl rfl ?_
  simp only [e2',go_sem]
  exact Fin.aQ _ rfl rfl rfl rfl
 rw [if_neg e2]
 have e2':(s.aL.val !=0)=false:=by simpa using e2
 obtain ⟨z1,z2,z3,z4⟩:=acO (Decidable.not_not.1 e1) (Decidable.not_not.1 e2)
 have hwc:IntKind.i64.wrap s.cnt=s.cnt:=cu (by unfold aj.cnt;omega)
 rw [hwc] at hst
 by_cases e3:s.live=true
 ·have e3':(!s.live)=false:=by simp [e3]
  rw [if_neg (by simp [e3])]
  by_cases e4:qW s.low s.high=true
  ·rw [if_neg (by simp [e4])]
   by_cases e5:(s.ready.cells.length:Int)<s.cnt
   ·rw [if_pos e5]
    have e5':decide ((s.ready.cells.length:Int)<s.cnt)=true:=by simpa using e5
    refine Fn.aB sS (by simp) ?_
    unfold qK SC.mk' aj.enc
    simp only [go_sem]
    refine aS hr rfl rfl ?_
    simp only [uf,go_sem]
    refine aS ht rfl rfl ?_
    simp only [e2',e3',go_sem]
    refine aS hsp rfl rfl ?_
    simp only [e4,go_sem]
    refine dV hst rfl rfl ?_
    simp only [e5',List.length_map,go_sem]
    repeat (refine bn ?_)
    exact Fin.aQ _ rfl rfl rfl rfl
   ·rw [if_neg e5]
    have e5':decide ((s.ready.cells.length:Int)<s.cnt)=false:=by simpa using e5
    refine Fn.aB sS (by simp) ?_
    unfold qK SC.mk' aj.enc
    simp only [go_sem]
    refine aS hr rfl rfl ?_
    simp only [uf,go_sem]
    refine aS ht rfl rfl ?_
    simp only [e2',e3',go_sem]
    refine aS hsp rfl rfl ?_
    simp only [e4,go_sem]
    refine dV hst rfl rfl ?_
    simp only [e5',List.length_map,go_sem]
    repeat (refine bn ?_)
    refine nK hms rfl rfl (by simp) (by simp [bZ]) ?_
    simp only [bS,sh,List.length_map,go_sem]
    have hv:(if s.all.any (mD s.low s.high) then (12:Int) else if dup s.all then 10 else 0)=(if s.all.any (mD s.low s.high) then 12 else if dup s.all then 10 else 0):=rfl
    generalize af3:s.all=ms at hal ⊢
    refine go_loop (fun q:acN ms s.low s.high=>⟨2000,[(1,.ptr 8 0),(5,.mp 1500),(6,Bo q.b),(54,.sl 7 (ms.map ak.enc)),(55,I ms.length),(56,I q.j)],[(8,.box s.enc),(1500,.map (iN q.es))]⟩) (fun q=>ms.length - q.j) ⟨0,[],false,by omega,rfl,by simp,by simp⟩
     (Wk.mk [(8,8),(1500,264)] [] rfl rfl (by simp only [bq,aR,au,rv,iN,List.map_nil,aj.enc,go_sem]<;>try simp) trivial (by simp only [bQ,rv,au,go_sem]<;>(try simp)<;>exact (eZ (l:=ms.map ak.enc) (i:=ms.length) (by simp)).symm)) ?_
    intro q B hB
    have hj:=q.hj
    simp only [aj.enc,go_sem]
    by_cases f1:q.j<ms.length
    ·have f2:decide ((q.j:Int)<(ms.length:Int))=true:=by simp;omega
     have hw:=cZ (show q.j<=100000 by omega)
     have g2:q.j<(ids ms).length:=by rw [tu];exact f1
     have hx:nth (ms.map ak.enc) q.j=ak.enc ms[q.j]:=x9 f1
     have g3:(ids ms)[q.j]=ms[q.j].id:=by simp [ids]
     have g4:(ms.take (q.j+1)).any (mD s.low s.high)=mD s.low s.high ms[q.j]:=by rw [List.take_succ_eq_append_getElem f1,List.any_append,q.inv];simp
     have g5:mD s.low s.high ms[q.j]=true->ms.any (mD s.low s.high)=true:=fun h=>List.any_eq_true.2 ⟨_,List.getElem_mem f1,h⟩
     have g6:(ids ms).take (q.j+1)=(ids ms).take q.j++[ms[q.j].id]:=by rw [List.take_succ_eq_append_getElem g2,g3]
     have g7:=yc g2
     rw [g3] at g7
     generalize ms[q.j]=m at hx g3 g4 g5 g6 g7
     simp only [f2,hx,ak.enc,Int.toNat_natCast,List.length_map,go_sem]
     repeat (refine bn ?_)
     refine aS (IE m.route s.low s.high) rfl rfl ?_
     by_cases r1:mD s.low s.high m=true
     ·have r2:(decide (s.low<=m.route)&&decide (m.route<=s.high))=false:=by
       rw [Bool.eq_false_iff];intro h;simp [mD] at h r1;omega
      rw [if_pos (g5 r1)]
      simp only [r2,go_sem]
      exact Fin.aQ _ rfl rfl rfl rfl
     simp only [Bool.not_eq_true] at r1
     have r2:(decide (s.low<=m.route)&&decide (m.route<=s.high))=true:=by
      simp [mD] at r1 ⊢;omega
     rw [r1] at g4
     have hmem:∀ x,x ∈ q.es++[m.id]↔x ∈ (ids ms).take (q.j+1):=fun x=>by rw [g6];simp only [List.mem_append,List.mem_singleton,q.mem]
     have hb:=q.hb
     by_cases h6:m.id ∈ q.es
     ·have h7:m.id ∈ (ids ms).take q.j:=(q.mem _).1 h6
      have nb:decide (((ids ms).take (q.j+1)).Nodup)=false:=by simp [g7,h7]
      have yj:∀ x,x ∈ q.es↔x ∈ (ids ms).take (q.j+1):=fun x=>by
       rw [<-hmem x];simp only [List.mem_append,List.mem_singleton]
       exact ⟨.inl,fun h=>h.elim id (fun h=>h▸h6)⟩
      cases h8:q.b with
      |true=>
       simp only [r2,yh _ _ h6,hw,go_sem]
       exact hB _ ⟨q.j+1,q.es,true,f1,g4,yj,by rw [nb];rfl⟩ (by simp only;omega) (Wk.mk [(8,8),(1500,1500)] [] rfl rfl (by simp only [bq,aR,au,rv,aj.enc,go_sem]<;>try simp) trivial (by simp only [bQ,rv,au,go_sem]<;>try simp))
      |false=>
       simp only [r2,vF,h6,if_true,Option.getD_some,yh _ _ h6,hw,go_sem]
       exact hB _ ⟨q.j+1,q.es,true,f1,g4,yj,by rw [nb];rfl⟩ (by simp only;omega) (Wk.mk [(8,8),(1500,1500)] [] rfl rfl (by simp only [bq,aR,au,rv,aj.enc,go_sem]<;>try simp) trivial (by simp only [bQ,rv,au,go_sem]<;>try simp))
     ·have h7:m.id ∉ (ids ms).take q.j:=fun h=>h6 ((q.mem _).2 h)
      cases h8:q.b with
      |true=>
       rw [h8] at hb
       have nb:decide (((ids ms).take (q.j+1)).Nodup)=false:=by
        have:¬ ((ids ms).take q.j).Nodup:=by simpa using hb.symm
        simp [g7,this]
       simp only [r2,vG _ _ h6,hw,go_sem]
       exact hB _ ⟨q.j+1,q.es++[m.id],true,f1,g4,hmem,by rw [nb];rfl⟩ (by simp only;omega) (Wk.mk [(8,8),(1500,1500)] [] rfl rfl (by simp only [bq,aR,au,rv,aj.enc,go_sem]<;>try simp) trivial (by simp only [bQ,rv,au,go_sem]<;>try simp))
      |false=>
       rw [h8] at hb
       have nb:decide (((ids ms).take (q.j+1)).Nodup)=true:=by
        have:((ids ms).take q.j).Nodup:=by simpa using hb.symm
        simp [g7,this,h7]
       simp only [r2,vF,h6,if_false,Option.getD_none,vG _ _ h6,hw,go_sem]
       exact hB _ ⟨q.j+1,q.es++[m.id],false,f1,g4,hmem,by rw [nb];rfl⟩ (by simp only;omega) (Wk.mk [(8,8),(1500,1500)] [] rfl rfl (by simp only [bq,aR,au,rv,aj.enc,go_sem]<;>try simp) trivial (by simp only [bQ,rv,au,go_sem]<;>try simp))
    ·have f2:decide ((q.j:Int)<(ms.length:Int))=false:=by simp;omega
     have hb:=q.hb
     have hi:=q.inv
     rw [eZ (by rw [tu];omega)] at hb
     rw [eZ (by omega)] at hi
     rw [if_neg (by simp [hi]),show dup ms=q.b from hb.symm]
     cases q.b with
     |true=>
      simp only [f2,go_sem]
      exact Fin.aQ _ rfl rfl rfl rfl
     |false=>
      simp only [f2,go_sem]
      exact Fin.aQ _ rfl rfl rfl rfl
  ·rw [if_pos (by simp [e4])]
   simp only [Bool.not_eq_true] at e4
   refine Fn.aB sS (by simp) ?_
   unfold qK SC.mk' aj.enc
   simp only [go_sem]
   refine aS hr rfl rfl ?_
   simp only [uf,go_sem]
   refine aS ht rfl rfl ?_
   simp only [e2',e3',go_sem]
   refine aS hsp rfl rfl ?_
   simp only [e4,go_sem]
   exact Fin.aQ _ rfl rfl rfl rfl
 ·rw [if_pos (by simpa using e3)]
  have e3':(!s.live)=true:=by simpa using e3
  refine Fn.aB sS (by simp) ?_
  unfold qK SC.mk' aj.enc
  simp only [go_sem]
  refine aS hr rfl rfl ?_
  simp only [uf,go_sem]
  refine aS ht rfl rfl ?_
  simp only [e2',e3',go_sem]
  by_cases a1:(s.low !=0)=true
  ·simp only [a1,Bool.true_or,if_true,go_sem]
   exact Fin.aQ _ rfl rfl rfl rfl
  simp only [Bool.not_eq_true] at a1
  by_cases a2:(s.high !=0)=true
  ·simp only [a1,a2,Bool.true_or,Bool.false_or,if_true,go_sem]
   exact Fin.aQ _ rfl rfl rfl rfl
  simp only [Bool.not_eq_true] at a2
  simp only [a1,a2,Bool.false_or,go_sem]
  refine aS hst rfl rfl ?_
  by_cases a3:decide (0<s.cnt)=true
  ·have a4:0<s.cnt:=by simpa using a3
   simp only [a3,a4,if_true,go_sem]
   exact Fin.aQ _ rfl rfl rfl rfl
  ·have a4:¬ 0<s.cnt:=by simpa using a3
   simp only [Bool.not_eq_true] at a3
   simp only [a3,a4,Bool.false_eq_true,if_false,go_sem]
   exact Fin.aQ _ rfl rfl rfl rfl
attribute [local go_sem] ai.enc ah.enc Task.enc Ev.enc bL.enc aC.enc dx.enc Dead.enc Dir.enc aj.enc Walk.enc bI.enc aG.enc eB.enc Setup.enc aY qN oW List.length_map
theorem acP (s:aj) (hs:s.sm):Fn Tryz.prog 221 [.agg s.enc] [] (I s.lv) [] []:=by
 have hv:=IG s hs
 generalize hR:s.lv=R
 unfold aj.lv at hR
 generalize s.val=v at hv hR
 refine Fn.aB Nv (by simp) ?_
 unfold FC SC.mk' aj.enc
 simp only [go_sem]
 have hJ:=trivial
 exact aZ
def om (l:List Bool):List (List AV):=l.map fun b=>[Bo b]
theorem acQ {l:List Bool} {k:Nat} (h:k<l.length):nth (om l) k=[Bo (l[k]?.getD false)]:=by simp [nth,om,h]
theorem Qi (l:List Bool):(om l).length=l.length:=by simp [om]
theorem acR (l:List Bool) (x:Bool) (hl:l.length<=10000):Fn Tryz.prog 400 [.sl 1 (om l),Bo x] [] (I (cB (fun y=>x==y) l 0)) [] []:=by
 refine Fn.aB NY (by simp) ?_
 unfold Gc SC.mk'
 simp only [Qi,go_sem]
 refine go_loop (fun j:{j:Nat // j<=l.length/\cB (fun y=>x==y) (l.drop j) j=cB (fun y=>x==y) l 0}=>⟨1000,[(0,.sl 1 (om l)),(1,Bo x),(7,I l.length),(8,I j.1)],[]⟩) (fun j=>l.length - j.1) ⟨0,by omega,rfl⟩ (wk [] []) ?_
 rintro ⟨j,hj,he⟩ B hB
 simp only [go_sem]
 by_cases e1:j<l.length
 ·have e2:decide ((j:Int)<(l.length:Int))=true:=by simp;omega
  have hw:=cZ (show j<=100000 by omega)
  have hx:=acQ e1
  rw [fZ false e1] at he
  simp only [cB] at he
  generalize l[j]?.getD false=y at hx he
  simp only [e2,hx,Int.toNat_natCast,Qi,go_sem]
  repeat (refine bn ?_)
  by_cases e3:(x==y)=true
  ·simp only [e3,go_sem]
   rw [if_pos e3] at he
   exact Fin.aQ _ rfl rfl rfl (by rw [<-he];rfl)
  ·rw [if_neg e3] at he
   simp only [Bool.not_eq_true] at e3
   simp only [e3,hw,go_sem]
   exact hB _ ⟨j+1,by omega,he⟩ (by simp only;omega) (wk [] [])
 ·have e2:decide ((j:Int)<(l.length:Int))=false:=by simp;omega
  rw [iY (by omega)] at he
  simp only [cB] at he
  simp only [e2,go_sem]
  exact Fin.aQ _ rfl rfl rfl (by rw [<-he];rfl)
theorem acS (l:List Bool) (x:Bool) (hl:l.length<=10000):Fn Tryz.prog 339 [.sl 1 (om l),Bo x] [] (Bo (l.any fun y=>x==y)) [] []:=by
 rw [<-vS _ l 0]
 exact Iq (by decide) NS (by decide) rfl rfl (acR l x hl)
theorem acT (s:aj) (l:List Bool) (hs:s.sm) (hl:l.length<=100):Fn Tryz.prog 250 [.agg s.enc,.sl 1 (om l)] [] (I (if s.lv≠0 then s.lv else if l.all id then 0 else 1)) [] []:=by
 have hv:=acP s hs
 have hb:=acS l false (by omega)
 have e:(l.any fun y=>false==y)= !(l.all id):=by
  clear hb hl
  induction l with
  |nil=>rfl
  |cons x r ih=>rw [List.any_cons,List.all_cons,ih];cases x<;>simp
 rw [e] at hb
 generalize s.lv=v at hv ⊢
 generalize l.all id=a at hb ⊢
 refine Fn.aB Nw (by simp) ?_
 unfold FD SC.mk' aj.enc
 simp only [go_sem]
 refine aS hv rfl rfl ?_
 by_cases h1:v≠0
 ·have h1':(v !=0)=true:=by simpa using h1
  simp only [h1',if_pos h1,go_sem]
  exact Fin.aQ _ rfl rfl rfl rfl
 ·have h1':(v !=0)=false:=by simpa using h1
  simp only [h1',if_neg h1,go_sem]
  refine aS hb rfl rfl ?_
  cases a with
  |true=>
   simp only [go_sem]
   exact Fin.aQ _ rfl rfl rfl rfl
  |false=>
   simp only [go_sem]
   exact Fin.aQ _ rfl rfl rfl rfl
theorem acU (n:Int):Fn Tryz.prog 251 [I n] [] (Bo (j5 n)) [] []:=by
 have h:=IE n 0 65536
 change Fn _ _ _ _ (Bo (j5 n)) _ _ at h
 refine Fn.aB Ny (by simp) ?_
 unfold FE SC.mk'
 simp only [go_sem]
 have hJ:=trivial
 exact aZ
theorem acV (n:Int):Fn Tryz.prog 258 [I n] [] (Bo (j6 n)) [] []:=by
 have h:=IE n 1 8
 change Fn _ _ _ _ (Bo (j6 n)) _ _ at h
 refine Fn.aB Nz (by simp) ?_
 unfold FI SC.mk'
 simp only [go_sem]
 have hJ:=trivial
 exact aZ
end Go.Eng
namespace Go.Eng
open Go Go.Proofs
attribute [local go_sem] ai.enc ah.enc Task.enc Ev.enc bL.enc aC.enc dx.enc Dead.enc Dir.enc aj.enc Walk.enc bI.enc aG.enc eB.enc Setup.enc aY qN oW List.length_map
theorem Qj (k:Int):Fn Tryz.prog 123 [I k] [] (.aN [.agg (Ring.new k).1.enc,I (Ring.new k).2]) [] []:=by
 have h:=aaC k
 have e:newR k= .aN [.agg (Ring.new k).1.enc,I (Ring.new k).2]:=by
  unfold newR Ring.new
  repeat' split
  all_goals rfl
 rwa [e] at h
theorem II (cap:Int):Fn Tryz.prog 67 [I cap] [] (.aN [.agg (aj.free cap).1.enc,I (aj.free cap).2]) [] []:=by
 generalize hR:aj.free cap=R
 unfold aj.free at hR
 have hn:=Qj cap
 generalize Ring.new cap=x at hR hn
 refine Fn.aB MG (by simp) ?_
 unfold EJ SC.mk'
 simp only [go_sem]
 have hJ:=Ring.enc.eq_1
 exact aZ
theorem acW (cap lo hi:Int):Fn Tryz.prog 69 [I cap,I lo,I hi] [] (.aN [.agg (aj.new cap lo hi).1.enc,I (aj.new cap lo hi).2]) [] []:=by
 generalize hR:aj.new cap lo hi=R
 unfold aj.new at hR
 have hn:=Qj cap
 have hs:=Qf lo hi
 generalize Ring.new cap=x at hR hn
 generalize qW lo hi=b at hR hs
 refine Fn.aB MI (by simp) ?_
 unfold EK SC.mk'
 simp only [go_sem]
 have hJ:=Ring.enc.eq_1
 exact aZ
end Go.Eng
