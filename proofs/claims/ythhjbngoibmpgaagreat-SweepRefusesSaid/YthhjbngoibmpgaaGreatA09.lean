/-
  Part of a proof: lemmas and definitions of this work.
  No condition.
-/
import Derived.Test.YthhjbngoibmpgaaGreatA08
set_option linter.all false
set_option maxRecDepth 100000
set_option maxHeartbeats 8000000
namespace Go.Eng
open Go Go.Proofs
def yD (n:Int) (q:Nat):Int:=IntKind.u8.wrap (n.fdiv (2 ^ (8*(3 - q))))
def kV (n:Int):Nat->List (List AV)
 |0=>[]
 |q+1=>kV n q++[[.v (.int .u8 (yD n q))]]
theorem uK (n:Int):∀ q,(kV n q).length=q
 |0=>rfl
 |q+1=>by simp [kV,uK n q]
theorem abb (n:Int) (q:Nat):(kV n q).take q=kV n q:=List.take_of_length_le (by rw [uK];omega)
theorem ajS (n:Int) (h0:0<=n) (h1:n<=1073741824):Fn Tryz.prog 236 [Nl,I n,I 4] [] (.aF [.sl 1 (kV n 4),I 0]) [] []:=by
 refine Fn.aO MC (by simp) ?_
 unfold MB SC.mk'
 have e1:decide (n<0)=false:=by simpa using h0
 have e2:IntKind.i64.wrap (1*2 ^ (min (IntKind.u64.wrap (IntKind.i64.wrap (8*4))).toNat 64))=4294967296:=by decide
 have e3:decide (4294967296<=n)=false:=by simp;omega
 have e4:IntKind.i64.wrap (4 - 1)=3:=by decide
 have e5:decide ((4:Int)<1)=false:=rfl
 have e6:decide ((6:Int)<4)=false:=rfl
 simp only [e1,e2,e3,e4,e5,e6,go_sem]
 refine ⟨Nat.zero_le _,?_⟩
 refine go_loop (fun q:{q:Nat // q<=4}=>⟨1000,[(1,I n),(8,.own 176 1 0 q.1),(9,I (3 - (q.1:Int)))],[(176,.row 5 1 (kV n q.1))]⟩) (fun q=>4 - q.1) ⟨0,by omega⟩
  (Wk.mk [(176,176)] [] rfl rfl (by simp only [cZ,bO,au,rv,kV,go_sem]) (by simp only [go_sem]) (by simp only [rv,kV,go_sem];try rfl)) ?_
 intro q B hB
 simp only [go_sem]
 refine bC (fun h2=> ?_) (fun h2=> ?_)<;>simp only [h2,go_sem]
 ·have e7:q.1<=3:=by simp only [decide_eq_true_eq] at h2;omega
  have e8:IntKind.u64.wrap (IntKind.i64.wrap (8*(3 - (q.1:Int))))=((8*(3 - q.1):Nat):Int):=by rw [bE (by omega),IntKind.wrap_u64];omega
  have e9:min (8*(3 - q.1)) 64=8*(3 - q.1):=by omega
  have e10:IntKind.i64.wrap (3 - (q.1:Int) - 1)=3 - ((q.1+1:Nat):Int):=by rw [bE (by omega)];omega
  have e11:IntKind.u8.wrap (n.fdiv (2 ^ (8*(3 - q.1))))=yD n q.1:=rfl
  simp only [e8,e9,e10,e11,Int.toNat_natCast,uK,abb,List.reduceReplicate,List.length_set,List.length_replicate,List.length_cons,List.length_nil,List.set_cons_zero,List.set_cons_succ,go_sem]
  have hm:q.1+1<=maxLen:=Nat.le_trans (show q.1+1<=4 by omega) (by decide)
  exact ⟨⟨by omega,hm,Nat.le_refl _⟩,hB _ ⟨q.1+1,by omega⟩ (by simp only;omega) (Wk.mk [(176,1080)] [] rfl rfl (by simp only [cZ,bO,au,rv,kV,go_sem]) (by simp only [go_sem]) (by simp only [rv,kV,go_sem]))⟩
 ·have e7:q.1=4:=by have:=q.2;simp only [decide_eq_false_iff_not] at h2;omega
  simp only [e7,go_sem]
  refine Fin.aD _ rfl rfl ?_
  simp only [ay,rv,au,uK,abb,List.drop_zero,go_sem]
  simp
def abd (h:Int) (x:List AV):Int:=match x with
 |[.v (.int .u8 b)]=>bits .and .i64 (IntKind.i64.wrap (bits .xor .i64 h b*16777619)) 4294967295
 |_=>h
def yE (xs:List (List AV)):Nat->Int
 |0=>2166136261
 |j+1=>abd (yE xs j) (nth xs j)
theorem ajT (xs:List (List AV)) (hl:xs.length<=100000) (hx:∀ k,k<xs.length->∃ b:Int,(0<=b/\b<=255)/\nth xs k=[.v (.int .u8 b)]):Fn Tryz.prog 269 [.sl 1 xs] [] (I (yE xs xs.length)) [] []:=by
 refine Fn.aO MJ (by simp) ?_
 unfold MI SC.mk'
 simp only [go_sem]
 refine go_loop (fun j:{j:Nat // j<=xs.length}=>⟨1000,[(0,.sl 1 xs),(3,I (yE xs j.1)),(4,I j.1)],[]⟩) (fun j=>xs.length - j.1) ⟨0,by omega⟩
  (Wk.mk [] [] rfl rfl (by simp only [go_sem]) (by simp only [go_sem]) (by simp only [rv,yE,go_sem];try rfl)) ?_
 intro j B hB
 simp only [go_sem]
 refine bC (fun h1=> ?_) (fun h1=> ?_)<;>simp only [h1,go_sem]
 ·have e1:j.1<xs.length:=by simp only [decide_eq_true_eq] at h1;omega
  obtain ⟨b,hb,hn⟩:=hx j.1 e1
  simp only [Int.toNat_natCast,hn,bE (n:=b) (by omega),bT (show j.1<=100000 by omega),go_sem]
  refine ⟨⟨by omega,by omega⟩,hB _ ⟨j.1+1,e1⟩ (by simp only;omega) (Wk.mk [] [] rfl rfl (by simp only [go_sem]) (by simp only [go_sem]) (by simp only [rv,yE,abd,hn,go_sem]))⟩
 ·have e1:j.1=xs.length:=by have:=j.2;simp only [decide_eq_false_iff_not] at h1;omega
  rw [e1]
  exact Fin.bI _ rfl rfl rfl rfl
theorem abe (n:Int):∀ (q k:Nat),k<q->nth (kV n q) k=[.v (.int .u8 (yD n k))]
 |0,k,h=>absurd h (by omega)
 |q+1,k,h=>by
  by_cases e:k=q
  ·subst e;simp [kV,nth,uK]
  ·rw [<-abe n q k (by omega)]
   simp [kV,nth,List.getElem?_append_left,uK,show k<q by omega]
theorem ajU (n:Int) (q:Nat):0<=yD n q/\yD n q<=255:=by
 unfold yD
 rw [IntKind.wrap_u8]
 omega
def yF (id:Int):Int:=if 0<=id/\id<=1073741824 then
 bits .xor .i64 ((yE (kV id 4) 4).fdiv (2 ^ (min 16 64))) (bits .and .i64 (yE (kV id 4) 4) 65535) else 0
theorem abf (id:Int):Fn Tryz.prog 183 [I id] [] (I (yF id)) [] []:=by
 refine Fn.aO R5 (by simp) ?_
 unfold R4 SC.mk' yF
 by_cases h1:id<0
 ·simp only [h1,decide_true,if_neg (show ¬ (0<=id/\id<=1073741824) by omega),go_sem]
  exact Fin.bI _ rfl rfl rfl rfl
 by_cases h2:1073741824<id
 ·simp only [h1,h2,decide_true,decide_false,if_neg (show ¬ (0<=id/\id<=1073741824) by omega),go_sem]
  exact Fin.bI _ rfl rfl rfl rfl
 simp only [h1,h2,decide_false,if_pos (show (0<=id/\id<=1073741824) by omega),go_sem]
 refine aQ (ajS id (by omega) (by omega)) rfl rfl ?_
 simp only [go_sem]
 have abg:=ajT (kV id 4) (by rw [uK];omega) (fun k hk=>⟨yD id k,ajU id k,abe id 4 k (by rw [uK] at hk;exact hk)⟩)
 rw [uK] at abg
 refine aQ abg rfl rfl ?_
 simp only [Int.reduceToNat,go_sem]
 exact ⟨by omega,Fin.bI _ rfl rfl rfl rfl⟩
def Dh (l:List Int) (a:Nat):ByteArray:=Vv l (nN l a 4) (nV l a 4).toNat
def Vx (l:List Int) (a:Nat):Nat:=oD l (nN l a 4) (nV l a 4).toNat
theorem ajV (l:List Int) (a:Nat) (hl:l.length<=4000):Fn Tryz.prog 178 [.ptr 0 0] [dU l a] (.v (.string (Dh l a))) [dU l (Vx l a)] []:=ajR l a hl
def ai.ok (m:ai):Prop:=(1<=m.id/\m.id<=1073741824)/\(0<=m.route/\m.route<=65535)/\(0<=m.epoch/\m.epoch<=1000)/\(0<=m.count/\m.count<=3)/\(m.count<=m.gen/\m.gen<=65536)/\(0<=m.sent/\m.sent<=1000)/\m.body.size<=3
def sQ (x lo hi:Int):Bool:=decide (lo<=x)&&decide (x<=hi)
theorem ajW (x lo hi:Int):Fn Tryz.prog 262 [I x,I lo,I hi] [] (Bo (sQ x lo hi)) [] []:=by
 refine Fn.aO MF (by simp) ?_
 unfold Tg SC.mk'
 simp only [go_sem]
 refine dD (fun h1=> ?_) (fun h1=> ?_)
 ·simp only [h1,go_sem]
  refine Fin.bI _ rfl rfl rfl ?_
  simp only [ay,sQ]
  simp_all<;>omega
 ·simp only [h1,go_sem]
  refine Fin.bI _ rfl rfl rfl ?_
  simp only [ay,sQ]
  simp_all<;>omega
def ai.good (m:ai):Bool:=sQ m.id 1 1073741824&&(sQ m.route 0 65535&&(sQ m.epoch 0 65536&&(sQ m.count 0 8&&(sQ m.gen m.count 65536&&sQ m.sent 0 1073741824))))
def ai.val (m:ai):Int:=if m.good then (if 16<m.body.size then 2 else 0) else 1
theorem wG (m:ai):Fn Tryz.prog 171 [.agg m.enc] [] (I m.val) [] []:=by
 refine Fn.aO Ms (by simp) ?_
 unfold RI SC.mk' ai.enc
 simp only [go_sem]
 repeat' first
  |(refine dD (fun h1=> ?_) (fun h1=> ?_)<;>simp only [h1,go_sem])
  |(refine bC (fun h1=> ?_) (fun h1=> ?_)<;>simp only [h1,go_sem])
  |(refine aQ (ajW _ _ _) rfl rfl ?_;simp only [go_sem])
  |refine Fin.bI _ rfl rfl rfl ?_
 all_goals simp_all [ai.val,ai.good,ay]<;>omega
def bN (ms:List ai):List (List AV):=ms.map ai.enc
theorem jv (ms:List ai):(bN ms).length=ms.length:=by simp [bN]
theorem lV {ms:List ai} {k:Nat} (h:k<ms.length):nth (bN ms) k=ms[k].enc:=by simp [bN,nth,h]
theorem fU (m:ai):m.enc.length=7:=rfl
theorem ajX (m:ai):m.enc.take 7=m.enc:=rfl
theorem ajY (m:ai):dx m.enc=true:=rfl
theorem ajZ (m:ai):mG m.enc=true:=rfl
theorem aj0 (m:ai):(AV.agg m.enc).pure=true:=rfl
theorem uL (xs ys:List ai):bN (xs++ys)=bN xs++bN ys:=by simp [bN]
theorem yG (xs:List ai) (k:Nat):(bN xs).take k=bN (xs.take k):=by simp [bN,List.map_take]
theorem abh (xs:List ai) (k:Nat):(bN xs).drop k=bN (xs.drop k):=by simp [bN,List.map_drop]
attribute [go_sem] jv fU ajX ajY ajZ aj0
abbrev fP (ms:List ai):AV:= .sl 7 (bN ms)
def ids (ms:List ai):List Int:=ms.map ai.id
theorem wH (ms:List ai):(ids ms).length=ms.length:=by simp [ids]
theorem aj1:∀ m:ai,jF [0,0,0,0,0,0,1] m.enc m.enc=some true:=fun m=>by
 simp [jF,ai.enc]
attribute [go_sem] aj1
def fC:List ai->Int
 |[]=>0
 |m::ms=>if m.val≠0 then m.val else fC ms
theorem abj {ms:List ai} {k:Nat} (h:k<ms.length) (h0:fC (ms.take k)=0):fC (ms.take (k+1))=ms[k].val/\(ms[k].val≠0->fC ms=ms[k].val):=by
 induction ms generalizing k with
 |nil=>simp at h
 |cons m ms ih=>
  cases k with
  |zero=>simp [fC];exact ⟨fun h=>h.symm,fun h1 h2=>absurd h2 h1⟩
  |succ k=>
   simp only [List.take_succ_cons,fC] at h0 ⊢
   by_cases hm:m.val≠0
   ·rw [if_pos hm] at h0;exact absurd h0 hm
   ·rw [if_neg hm] at h0
    simp only [hm,if_false,List.getElem_cons_succ]
    exact ih (by simpa using h) h0
def MW (xs:List Int):List (Value×AV):=xs.map fun i=>(.int .i64 i,Bo true)
theorem aj2 (h:List (Nat×Ob)) (S:List (Nat×Nat)) (N:List Nat) (l:List Int):nR h S N (MW l) (MW l)=True:=by
 simp only [eq_iff_iff,iff_true]
 induction l with
 |nil=>simp [MW,nR]
 |cons x l ih=>simp only [MW,List.map_cons,nR,rv,true_and] at ih ⊢;exact ih
attribute [go_sem] aj2
def dup (ms:List ai):Bool:= !decide ((ids ms).Nodup)
theorem Vy {l:List Int} {k:Nat} (h:k<l.length):(l.take (k+1)).Nodup↔(l.take k).Nodup/\l[k] ∉ l.take k:=by
 rw [List.take_succ_eq_append_getElem h,List.nodup_append]
 constructor
 ·rintro ⟨h1,_,h3⟩
  exact ⟨h1,fun hm=>h3 _ hm _ (by simp) rfl⟩
 ·rintro ⟨h1,h2⟩
  refine ⟨h1,by simp,fun a ha b hb=> ?_⟩
  simp only [List.mem_singleton] at hb
  subst hb
  intro e;subst e;exact h2 ha
theorem abk {ms:List ai} {k:Nat} (h:k<(ids ms).length) (hm:(ids ms)[k] ∈ (ids ms).take k):dup ms=true:=by
 unfold dup
 simp only [Bool.not_eq_true',decide_eq_false_iff_not]
 intro hn
 have h1:((ids ms).take (k+1)).Nodup:=hn.sublist (List.take_sublist _ _)
 exact ((Vy h).1 h1).2 hm
def fD (ms:List ai) (x:Int):Int:=if x ∈ ids ms then ((ids ms).idxOf x:Nat) else -1
theorem Vz {l:List Int} {x:Int} {k:Nat} (h:k<l.length) (h0:x ∉ l.take k) (h1:l[k]=x):x ∈ l/\l.idxOf x=k:=by
 refine ⟨by rw [<-h1];exact List.getElem_mem h,?_⟩
 have e:l=l.take k++x::l.drop (k+1):=by rw [<-h1];rw [List.getElem_cons_drop,List.take_append_drop]
 rw [e,List.idxOf_append,if_neg h0]
 simp only [List.idxOf_cons_self,Nat.add_zero,List.length_take]
 omega
theorem wI (ms:List ai) (x:Int) (hl:ms.length<=100000):Fn Tryz.prog 44 [fP ms,I x] [] (I (fD ms x)) [] []:=by
 refine Fn.aO Ql (by simp) ?_
 unfold s44 SC.mk'
 simp only [go_sem]
 refine go_loop (fun j:{j:Nat // j<=ms.length/\x ∉ (ids ms).take j}=>⟨1000,[(0,fP ms),(1,I x),(5,I j.1)],[]⟩) (fun j=>ms.length - j.1) ⟨0,by omega,by simp⟩
  (Wk.mk [] [] rfl rfl (by simp only [go_sem]) (by simp only [go_sem]) (by simp only [rv,go_sem];try rfl)) ?_
 intro j B hB
 simp only [go_sem]
 refine bC (fun h1=> ?_) (fun h1=> ?_)<;>simp only [h1,go_sem]
 ·have e1:j.1<ms.length:=by simp only [decide_eq_true_eq] at h1;omega
  have e2:j.1<(ids ms).length:=by rw [wH];exact e1
  have e3:(ids ms)[j.1]=ms[j.1].id:=by simp [ids]
  have hq:0<=(j.1:Int)/\(j.1:Int)<(ms.length:Int):=⟨by omega,by omega⟩
  simp only [Int.toNat_natCast,lV e1,ai.enc,go_sem]
  refine ⟨hq,bC (fun h2=> ?_) (fun h2=> ?_)⟩<;>simp only [h2,go_sem]
  ·have e4:=Vz e2 j.2.2 (e3.trans (by simpa using h2))
   refine Fin.bI _ rfl rfl rfl ?_
   simp only [ay,fD,e4.1,e4.2,if_true]
  ·have e4:ms[j.1].id≠x:=by simpa using h2
   simp only [bT (show j.1<=100000 by omega),go_sem]
   refine hB _ ⟨j.1+1,e1,?_⟩ (by simp only;omega) (Wk.mk [] [] rfl rfl (by simp only [go_sem]) (by simp only [go_sem]) (by simp only [rv,go_sem]))
   rw [List.take_succ_eq_append_getElem e2,e3]
   simp only [List.mem_append,List.mem_singleton,not_or]
   exact ⟨j.2.2,fun h=>e4 h.symm⟩
 ·have e1:j.1=ms.length:=by have:=j.2.1;simp only [decide_eq_false_iff_not] at h1;omega
  have e2:=j.2.2
  rw [e1,List.take_of_length_le (by rw [wH];omega)] at e2
  refine Fin.bI _ rfl rfl rfl ?_
  simp only [ay,fD,e2,if_false]
def iE (ms:List ai):Int:=if fC ms≠0 then fC ms else if dup ms then 10 else 0
theorem abl {l:List Int} {x:Int} {k:Nat} (h:x ∈ l.take k):l.idxOf x<k:=by
 have e:l=l.take k++l.drop k:=(List.take_append_drop k l).symm
 rw [e,List.idxOf_append,if_pos h]
 have:=List.idxOf_lt_length_of_mem h
 simp only [List.length_take] at this
 omega
theorem VA (ms:List ai) (hl:ms.length<=100000):Fn Tryz.prog 186 [fP ms] [] (I (iE ms)) [] []:=by
 refine Fn.aO aiJ (by simp) ?_
 unfold R8 SC.mk'
 simp only [go_sem]
 refine go_loop (fun j:{j:Nat // j<=ms.length/\fC (ms.take j)=0}=>⟨1000,[(0,fP ms),(3,I j.1)],[]⟩) (fun j=>ms.length - j.1) ⟨0,by omega,rfl⟩ (Wk.mk [] [] rfl rfl (by simp only [go_sem]) (by simp only [go_sem]) (by simp only [rv,go_sem];try rfl)) ?_
 intro j B hB
 simp only [go_sem]
 refine bC (fun h1=> ?_) (fun h1=> ?_)<;>simp only [h1,go_sem]
 ·have e1:j.1<ms.length:=by simp only [decide_eq_true_eq] at h1;omega
  have e2:=abj e1 j.2.2
  simp only [Int.toNat_natCast,lV e1,go_sem]
  have hq:0<=(j.1:Int)/\(j.1:Int)<(ms.length:Int):=⟨by omega,by omega⟩
  refine ⟨hq,?_⟩
  refine aQ (wG _) rfl rfl ?_
  simp only [go_sem]
  refine bC (fun h2=> ?_) (fun h2=> ?_)<;>simp only [h2,go_sem]
  ·have e3:ms[j.1].val≠0:=by simpa using h2
   have e4:=e2.2 e3
   refine Fin.bI _ rfl rfl rfl ?_
   simp only [ay,iE,e4,if_pos e3]
  ·have e3:ms[j.1].val=0:=by simpa using h2
   simp only [bT (show j.1<=100000 by omega),go_sem]
   exact hB _ ⟨j.1+1,e1,e2.1.trans e3⟩ (by simp only;omega) (Wk.mk [] [] rfl rfl (by simp only [go_sem]) (by simp only [go_sem]) (by simp only [rv,go_sem]))
 ·have e1:j.1=ms.length:=by have:=j.2.1;simp only [decide_eq_false_iff_not] at h1;omega
  have e2:fC ms=0:=by have:=j.2.2;rw [e1,List.take_length] at this;exact this
  refine go_loop (fun j:{j:Nat // j<=ms.length/\((ids ms).take j).Nodup}=>⟨2000,[(0,fP ms),(5,I j.1)],[]⟩) (fun j=>ms.length - j.1) ⟨0,by omega,by simp⟩ (Wk.mk [] [] rfl rfl (by simp only [go_sem]) (by simp only [go_sem]) (by simp only [rv,go_sem];try rfl)) ?_
  intro j B hB
  simp only [go_sem]
  refine bC (fun h1=> ?_) (fun h1=> ?_)<;>simp only [h1,go_sem]
  ·have e1:j.1<ms.length:=by simp only [decide_eq_true_eq] at h1;omega
   have e3:j.1<(ids ms).length:=by rw [wH];exact e1
   have e4:(ids ms)[j.1]=ms[j.1].id:=by simp [ids]
   have hq:0<=(j.1:Int)/\(j.1:Int)<(ms.length:Int):=⟨by omega,by omega⟩
   have e5:nth (bN ms) j.1=[I ms[j.1].id,I ms[j.1].route,I ms[j.1].epoch,I ms[j.1].count,I ms[j.1].gen,I ms[j.1].sent,.v (.string ms[j.1].body)]:=lV e1
   simp only [Int.toNat_natCast,e5,go_sem]
   refine ⟨hq,?_⟩
   refine aQ (wI ms _ hl) rfl rfl ?_
   simp only [go_sem]
   refine bC (fun h2=> ?_) (fun h2=> ?_)<;>simp only [h2,go_sem]
   ·have e6:fD ms ms[j.1].id≠j.1:=by simpa using h2
    have e7:(ids ms)[j.1] ∈ (ids ms).take j.1:=by
     by_cases h:(ids ms)[j.1] ∈ (ids ms).take j.1
     ·exact h
     ·have:=Vz e3 h rfl
      rw [e4] at this
      exact absurd (by unfold fD;rw [if_pos this.1,this.2]) e6
    refine Fin.bI _ rfl rfl rfl ?_
    simp only [ay,iE,e2,abk e3 e7,ne_eq,not_true_eq_false,if_false,if_true]
   ·have e6:fD ms ms[j.1].id=j.1:=by simpa using h2
    have e7:(ids ms)[j.1] ∉ (ids ms).take j.1:=by
     intro h
     have h3:=abl h
     rw [e4] at h3
     unfold fD at e6
     rw [if_pos (by rw [<-e4];exact List.getElem_mem e3)] at e6
     omega
    simp only [bT (show j.1<=100000 by omega),go_sem]
    exact hB _ ⟨j.1+1,e1,(Vy e3).2 ⟨j.2.2,e7⟩⟩ (by simp only;omega) (Wk.mk [] [] rfl rfl (by simp only [go_sem]) (by simp only [go_sem]) (by simp only [rv,go_sem]))
  ·have e1:j.1=ms.length:=by have:=j.2.1;simp only [decide_eq_false_iff_not] at h1;omega
   have e3:=j.2.2
   rw [e1,List.take_of_length_le (by rw [wH];omega)] at e3
   have e4:dup ms=false:=by simp [dup,e3]
   refine Fin.bI _ rfl rfl rfl ?_
   simp only [ay,iE,e2,e4]
   rfl
def iA (c:Int) (ms:List ai):Int:=if c<1 then 1 else if 24<c then 1 else if c<ms.length then 2 else iE ms
theorem Di (c:Int) (ms:List ai) (hl:ms.length<=100000):Fn Tryz.prog 184 [.agg [I c,fP ms]] [] (I (iA c ms)) [] []:=by
 refine Fn.aO aiH (by simp) ?_
 unfold R6 SC.mk' iA
 simp only [go_sem]
 by_cases h1:c<1
 ·simp only [h1,decide_true,if_true,go_sem]
  exact Fin.bI _ rfl rfl rfl rfl
 by_cases h2:24<c
 ·simp only [h1,h2,decide_true,decide_false,if_true,if_false,go_sem]
  exact Fin.bI _ rfl rfl rfl rfl
 by_cases h3:c<ms.length
 ·simp only [h1,h2,h3,decide_true,decide_false,if_true,if_false,go_sem]
  exact Fin.bI _ rfl rfl rfl rfl
 simp only [h1,h2,h3,decide_false,if_false,go_sem]
 refine aQ (VA ms hl) rfl rfl ?_
 simp only [go_sem]
 exact Fin.bI _ rfl rfl rfl rfl
def yH (c:Int) (ms:List ai):Int:=if iA c ms≠0 then 0 else c - ms.length
theorem AP {c:Int} {ms:List ai} (h:iA c ms=0):1<=c/\c<=24/\(ms.length:Int)<=c/\fC ms=0/\dup ms=false:=by
 unfold iA iE at h
 repeat' split at h
 all_goals simp_all
 all_goals omega
theorem abm (c:Int) (ms:List ai) (hl:ms.length<=100000):Fn Tryz.prog 185 [.agg [I c,fP ms]] [] (I (yH c ms)) [] []:=by
 refine Fn.aO aiI (by simp) ?_
 unfold R7 SC.mk'
 simp only [go_sem]
 refine aQ (Di c ms hl) rfl rfl ?_
 simp only [go_sem]
 refine bC (fun h1=> ?_) (fun h1=> ?_)<;>simp only [h1,go_sem]
 ·refine Fin.bI _ rfl rfl rfl ?_
  have e:iA c ms≠0:=by simpa using h1
  simp only [ay,yH,if_pos e]
 ·have e:iA c ms=0:=by simpa using h1
  have e2:=AP e
  refine Fin.bI _ rfl rfl rfl ?_
  simp only [ay,yH,e,bE (n:=c - ms.length) (by omega),ne_eq,not_true_eq_false,if_false]
abbrev jT (c:Int) (ms:List ai):AV:= .agg [I c,fP ms]
def VB (k:Int):AV:=if k<1 then .aF [jT 0 [],I 1] else if 24<k then .aF [jT 0 [],I 1] else .aF [jT k [],I 0]
theorem aj3 (k:Int):Fn Tryz.prog 145 [I k] [] (VB k) [] []:=by
 refine Fn.aO Mj (by simp) ?_
 unfold Rj SC.mk' VB
 simp only [go_sem]
 by_cases h1:k<1
 ·simp only [h1,decide_true,if_true,go_sem]
  exact Fin.aD _ rfl rfl (by simp only [ay,rv,au,bN,List.map_nil,go_sem])
 by_cases h2:24<k
 ·simp only [h1,h2,decide_true,decide_false,if_true,if_false,go_sem]
  exact Fin.aD _ rfl rfl (by simp only [ay,rv,au,bN,List.map_nil,go_sem])
 simp only [h1,h2,decide_false,if_false,go_sem]
 exact Fin.aD _ rfl rfl (by simp only [ay,rv,au,bN,List.map_nil,go_sem])
def wJ (c:Int) (ms:List ai) (ep:Int):Int:=if iA c ms≠0 then iA c ms else if ep<0 then 1 else if 65536<ep then 1 else 0
theorem sS (m:ai) (ep:Int):Fn Tryz.prog 397 [.agg m.enc,I ep] [] (Bo (decide (m.epoch<ep))) [] []:=by
 refine Fn.aO Vh (by simp) ?_
 unfold Vg SC.mk' ai.enc
 simp only [go_sem]
 exact Fin.bI _ rfl rfl rfl rfl
def zM:ai:=⟨0,0,0,0,0,0,⟨#[]⟩⟩
def gt (l:List ai) (k:Nat):ai:=l[k]?.getD zM
theorem AQ {l:List ai} {k:Nat} (h:k<l.length):gt l k=l[k]:=by simp [gt,h]
theorem MX {l:List ai} {k:Nat} (h:l.length<=k):gt l k=zM:=by simp [gt,List.getElem?_eq_none h]
theorem abn {n h i:Nat} (hi:i<n) (hh:h<n):((h+i) % n+n - h) % n=i:=by
 by_cases e:h+i<n
 ·rw [Nat.mod_eq_of_lt e,show h+i+n - h=i+n by omega,Nat.add_mod_right,Nat.mod_eq_of_lt hi]
 ·rw [show (h+i) % n=h+i - n by rw [Nat.mod_eq_sub_mod (by omega),Nat.mod_eq_of_lt (by omega)],show h+i - n+n - h=i by omega,Nat.mod_eq_of_lt hi]
theorem abo {n h p:Nat} (hp:p<n) (hh:h<n):(h+(p+n - h) % n) % n=p:=by
 by_cases e:h<=p
 ·rw [show p+n - h=(p - h)+n by omega,Nat.add_mod_right,Nat.mod_eq_of_lt (show p - h<n by omega),show h+(p - h)=p by omega,Nat.mod_eq_of_lt hp]
 ·rw [Nat.mod_eq_of_lt (show p+n - h<n by omega),show h+(p+n - h)=p+n by omega,Nat.add_mod_right,Nat.mod_eq_of_lt hp]
theorem abp {n h p:Nat} (hp:p<n):(p+n - h) % n<n:=Nat.mod_lt _ (by omega)
def lG (n h:Nat) (f:Nat->ai):List ai:=(List.range n).map fun p=>f ((p+n - h) % n)
theorem yI (n h:Nat) (f:Nat->ai):(lG n h f).length=n:=by simp [lG]
theorem MZ {n h:Nat} {f:Nat->ai} {p:Nat} (hp:p<(lG n h f).length):(lG n h f)[p]=f ((p+n - h) % n):=by simp [lG]
theorem aj4 {n h i:Nat} (f:Nat->ai) (hi:i<n) (hh:h<n):gt (lG n h f) ((h+i) % n)=f i:=by
 have hlt:(h+i) % n<(lG n h f).length:=by rw [yI];exact Nat.mod_lt _ (by omega)
 rw [AQ hlt,MZ,abn hi hh]
theorem aj5 {n h:Nat} {f g:Nat->ai} (e:∀ k,k<n->f k=g k):lG n h f=lG n h g:=by
 refine List.map_congr_left fun p hp=> ?_
 exact e _ (abp (List.mem_range.1 hp))
theorem aj6 {n h i:Nat} (f:Nat->ai) (x:ai) (hi:i<n) (hh:h<n):(lG n h f).set ((h+i) % n) x=lG n h (fun k=>if k=i then x else f k):=by
 refine List.ext_getElem (by simp [yI]) fun p h1 h2=> ?_
 rw [List.getElem_set,MZ h2]
 simp only [yI] at h2
 by_cases e:(h+i) % n=p
 ·rw [if_pos e,if_pos (by rw [<-e];exact abn hi hh)]
 ·rw [if_neg e,MZ,if_neg]
  intro e2
  rw [<-e2,abo h2 hh] at e
  exact e rfl
def eO (n h:Nat) (l:List ai):List ai:=lG n h (gt l)
theorem fG (n h:Nat) (l:List ai):(eO n h l).length=n:=yI ..
theorem VD {n h i:Nat} (l:List ai) (hi:i<n) (hh:h<n):gt (eO n h l) ((h+i) % n)=gt l i:=aj4 _ hi hh
theorem abq {n h i:Nat} (l:List ai) (hi:i<n) (hh:h<n):nth (bN (eO n h l)) ((h+i) % n)=(gt l i).enc:=by
 have hlt:(h+i) % n<(eO n h l).length:=by rw [fG];exact Nat.mod_lt _ (by omega)
 rw [lV hlt,<-AQ hlt,VD l hi hh]
theorem abr (l:List ai) (k:Nat) (m:ai):(bN l).set k m.enc=bN (l.set k m):=by simp [bN,List.map_set]
theorem aj7 {n h i:Nat} {l l':List ai} {x:ai} (hi:i<n) (hh:h<n) (e:∀ k,k<n->gt l' k=if k=i then x else gt l k):(eO n h l).set ((h+i) % n) x=eO n h l':=by
 unfold eO
 rw [aj6 _ _ hi hh]
 exact aj5 fun k hk=>(e k hk).symm
theorem aj8 {n h:Nat} {l:List ai} (x:ai) (hl:l.length<n) (hh:h<n):(eO n h l).set ((h+l.length) % n) x=eO n h (l++[x]):=by
 refine aj7 hl hh fun k hk=> ?_
 by_cases e:k=l.length
 ·subst e;simp [gt]
 ·rw [if_neg e]
  by_cases e2:k<l.length
  ·simp [gt,List.getElem?_append_left e2]
  ·rw [MX (by simp;omega),MX (by omega)]
theorem VE (n h:Nat):eO n h []=List.replicate n zM:=by
 refine List.ext_getElem (by simp [fG]) fun p h1 h2=> ?_
 simp [eO,lG,gt]
abbrev jw (cs:List ai) (h s:Int):AV:= .agg [fP cs,I h,I s]
abbrev AR (n h:Nat) (l:List ai):AV:=jw (eO n h l) h l.length
def fE (cs:List ai) (h s:Nat):List ai:=(List.range s).map fun i=>gt cs ((h+i) % cs.length)
theorem wK (cs:List ai) (h s:Nat):(fE cs h s).length=s:=by simp [fE]
theorem uM {n h:Nat} {l:List ai} (hl:l.length<=n) (hh:h<n):fE (eO n h l) h l.length=l:=by
 refine List.ext_getElem (by simp [fE]) fun i h1 h2=> ?_
 simp only [fE,List.getElem_map,List.getElem_range,fG]
 rw [VD l (by omega) hh,AQ h2]
theorem aj9 {cs:List ai} {h s:Nat} (hh:h<cs.length) (hs:s<=cs.length) (hz:∀ i,s<=i->i<cs.length->gt cs ((h+i) % cs.length)=zM):eO cs.length h (fE cs h s)=cs:=by
 refine List.ext_getElem (by rw [fG]) fun p h1 h2=> ?_
 have e0:(eO cs.length h (fE cs h s))[p]=gt (fE cs h s) ((p+cs.length - h) % cs.length):=MZ (f:=gt (fE cs h s)) (by rw [yI];exact h2)
 rw [e0]
 have e1:=abo h2 hh
 have h3:=abp (h:=h) h2
 generalize (p+cs.length - h) % cs.length=k at e1 h3 ⊢
 rw [<-AQ h2]
 by_cases e:k<s
 ·simp [gt,fE,e,e1]
 ·rw [MX (by rw [wK];omega),<-e1,hz k (by omega) h3]
attribute [local go_sem] Int.cast_ofNat_Int Int.reduceBEq Int.reduceLT Int.reduceLE Int.reduceSub Int.reduceAdd Int.reduceNeg Int.reduceEq Int.reduceToNat decide_true decide_false decide_eq_true_eq beq_self_eq_true bne_self_eq_false List.reduceReplicate List.length_set List.length_replicate List.length_cons List.length_nil List.set_cons_zero List.set_cons_succ Int.toNat_natCast
theorem Dj {n a:Nat} (h:a<=100000) (h':n<=100000):IntKind.i64.wrap ((a:Int)+(n:Int))=((a+n:Nat):Int):=by rw [bE (by omega)];omega
theorem tmN (a m:Nat):((a:Nat):Int).tmod ((m:Nat):Int)=((a % m:Nat):Int):=rfl
theorem akc:IntKind.i64.wrap 0=0:=rfl
theorem akd (n:Nat):decide ((n:Int)<0)=false:=by simp
theorem ake:kills []=[]:=rfl
theorem akf (b:Nat) (Z:List Nat):kills (b::Z)=(b,Ob.dead)::kills Z:=rfl
attribute [go_sem] akc akd ake akf tmN
theorem AU (m:ai):bN [m]=[m.enc]:=rfl
theorem Fin.yJ {res:List iJ} {r:AV} {t:List (Nat×AV)} {h:List (Nat×Ob)} {e:TypeId} {sz:Nat} {xs:List (List AV)} (b:Nat) (vs:List AV) (h1:jO t h res=some vs) (hb:get h b=some (.row e sz xs))
 (h2:iD h [(4,b)] [] [(4,.row e sz xs)]=true) (h3:rv h [(4,b)] [] r (ay vs)):Fin res r [] [.row e sz xs] t h:=by
 have e:outs [] [.row e sz xs]=[(4,.row e sz xs)]:=rfl
 refine ⟨[(4,b)],[],vs,h1,by rw [e];exact h2,?_,by simp only [gY],h3⟩
 rw [e]
 simp only [cZ,get,if_true,hb,and_true,bO,and_self]
theorem AX {P:Program} {f:FuncId} {xs ys:List AV} {r:AV} {nm:Nat} {h:List (Nat×Ob)} {k:List It} {Q:Exit->St->Prop} {n n':Nat} {t:List (Nat×AV)} {d:Option Nat} {l:List aG}
 (hF:Fn P f xs [] r [] []) (ha:au h [] [] xs ys) (hr:r.pure=true) (hn:na r=true) (hk:go P (.ops (nm+8) n' l::k) Q n (bP t d r) h):nW P nm f ys d n' l k Q n t h:=
 xS (hF.Za ha hr hn) (by simpa using hk)
theorem akg (cs:List ai) (h j:Nat):fE cs h (j+1)=fE cs h j++[gt cs ((h+j) % cs.length)]:=by
 simp [fE,List.range_succ]
theorem VF {cs:List ai} {k:Nat} (h:k<cs.length):nth (bN cs) k=(gt cs k).enc:=by rw [lV h,AQ h]
theorem akh (bs:List (List AV)) (gs:List Ob):outs bs gs=dB 0 (bs.map .box)++dB 4 gs:=rfl
attribute [go_sem] akh dB
end Go.Eng
namespace Go.Eng
open Go Go.Proofs
attribute [local go_sem] Int.cast_ofNat_Int Int.reduceBEq Int.reduceLT Int.reduceLE Int.reduceSub Int.reduceAdd Int.reduceNeg Int.reduceEq Int.reduceToNat decide_true decide_false decide_eq_true_eq beq_self_eq_true bne_self_eq_false List.reduceReplicate List.length_set List.length_replicate List.length_cons List.length_nil List.set_cons_zero List.set_cons_succ Int.toNat_natCast
def eqv (a b:ai):Bool:=(a.id==b.id)&&((a.route==b.route)&&((a.epoch==b.epoch)&&((a.count==b.count)&&((a.gen==b.gen)&&((a.sent==b.sent)&&((a.body.toList==b.body.toList)&&true))))))
theorem aki (a b:ai):jF [0,0,0,0,0,0,1] a.enc b.enc=some (eqv a b):=by
 simp only [jF,ai.enc,if_true,eqv]
theorem akj (a:ai):jF [0,0,0,0,0,0,1] a.enc [.v (.int .i64 0),.v (.int .i64 0),.v (.int .i64 0),.v (.int .i64 0),.v (.int .i64 0),.v (.int .i64 0),.v (.string ⟨#[]⟩)]=some (eqv a zM):=aki a zM
theorem akk (a:ai):eqv a a=true:=by simp [eqv]
theorem VG (s:ByteArray) (i:Nat) (r:List UInt8):(ByteArray.toList.loop s i r).length=r.length+(s.size - i):=by
 unfold ByteArray.toList.loop
 split
 ·rename_i h
  rw [VG s (i+1)]
  simp
  omega
 ·simp
  omega
termination_by s.size - i
theorem akl {a:ai} (h:eqv a zM=true):a=zM:=by
 obtain ⟨a1,a2,a3,a4,a5,a6,a7⟩:=a
 simp only [eqv,zM,Bool.and_eq_true,beq_iff_eq,and_true] at h
 obtain ⟨h1,h2,h3,h4,h5,h6,h7⟩:=h
 subst h1 h2 h3 h4 h5 h6
 have e:a7.toList.length=0:=by
  rw [h7]
  have:=VG ⟨#[]⟩ 0 []
  unfold ByteArray.toList
  rw [this]
  rfl
 have e2:a7.size=0:=by
  have:=VG a7 0 []
  unfold ByteArray.toList at e
  simp at this
  omega
 have:a7=⟨#[]⟩:=by
  obtain ⟨d⟩:=a7
  have:d.size=0:=e2
  rw [Array.size_eq_zero_iff] at this
  rw [this]
 rw [this]
 rfl
attribute [go_sem] akj
def qc (cs:List ai) (h s:Int):Bool:=decide (1<=cs.length)&&(decide (cs.length<=12)&&(decide (0<=h)&&(decide (h<cs.length)&&(decide (0<=s)&&decide (s<=cs.length)))))
def yK (cs:List ai) (h s:Nat):Bool:=(List.range cs.length).all fun i=>decide (i<s)||eqv (gt cs ((h+i) % cs.length)) zM
def eZ (cs:List ai) (h s:Int):Int:=if qc cs h s=false then 1 else if yK cs h.toNat s.toNat=false then 7 else iE (fE cs h.toNat s.toNat)
structure aqU (ms:List ai) where
 j:Nat
 es:List Int
 b:Bool
 hj:j<=ms.length
 inv:fC (ms.take j)=0
 mem:∀ x,x ∈ es↔x ∈ (ids ms).take j
 hb:b= !decide (((ids ms).take j).Nodup)
theorem akm {cs:List ai} {h s:Int} (e:eZ cs h s=0):∃ (h':Nat) (l:List ai),h=h'/\s=(l.length:Int)/\cs=eO cs.length h' l/\1<=cs.length/\cs.length<=12/\h'<cs.length/\l.length<=cs.length/\iE l=0/\l=fE cs h' l.length:=by
 unfold eZ at e
 split at e
 ·cases e
 ·rename_i h1
  split at e
  ·cases e
  ·rename_i h2
   simp only [Bool.not_eq_false] at h1 h2
   simp only [qc,Bool.and_eq_true,decide_eq_true_eq] at h1
   simp only [yK,List.all_eq_true,List.mem_range,Bool.or_eq_true,decide_eq_true_eq] at h2
   refine ⟨h.toNat,fE cs h.toNat s.toNat,by omega,by rw [wK];omega,?_,by omega,by omega,by omega,by rw [wK];omega,e,by rw [wK]⟩
   refine (aj9 (by omega) (by omega) fun i hi hn=> ?_).symm
   rcases h2 i hn with h3|h3
   ·omega
   ·exact akl h3
structure Rg (n h:Nat) (l:List ai):Prop where
 n1:1<=n
 n2:n<=12
 hh:h<n
 ll:l.length<=n
 snd:iE l=0
theorem Rg.ok {n h:Nat} {l:List ai} (r:Rg n h l):eZ (eO n h l) h l.length=0:=by
 have:=r.n1;have:=r.n2;have:=r.hh;have:=r.ll
 unfold eZ
 rw [if_neg (by simp [qc,fG];omega),if_neg]
 ·rw [Int.toNat_natCast,Int.toNat_natCast,uM r.ll r.hh];exact r.snd
 ·simp only [Bool.not_eq_false,yK,List.all_eq_true,List.mem_range,Bool.or_eq_true,decide_eq_true_eq,fG,Int.toNat_natCast]
  intro i hi
  by_cases h1:i<l.length
  ·exact .inl h1
  ·right
   rw [VD l hi r.hh,MX (by omega)]
   exact akk _
def yL (cs:List ai) (h s:Int):List ai:=if eZ cs h s≠0 then [] else fE cs h.toNat s.toNat
end Go.Eng
namespace Go.Eng
open Go Go.Proofs
attribute [local go_sem] Int.cast_ofNat_Int Int.reduceBEq Int.reduceLT Int.reduceLE Int.reduceSub Int.reduceAdd Int.reduceNeg Int.reduceEq Int.reduceToNat decide_true decide_false decide_eq_true_eq beq_self_eq_true bne_self_eq_false List.reduceReplicate List.length_set List.length_replicate List.length_cons List.length_nil List.set_cons_zero List.set_cons_succ Int.toNat_natCast
theorem akn {P:Program} {f:FuncId} {xs ys:List AV} {r:AV} {nm:Nat} {h:List (Nat×Ob)} {k:List It} {Q:Exit->St->Prop} {n n':Nat} {t:List (Nat×AV)} {d:Option Nat} {l ops:List aG} {acc:List bQ}
 (hF:Fn P f xs [] r [] []) (ha:au h [] [] xs ys) (hr:r.pure=true) (hn:na r=true) (hk:go P (.cO (nm+8) n' l ops ((dF ys,[])::acc)::k) Q n (bP t d r) h):nY P nm f ys d n' l ops acc k Q n t h:=
 xU (hF.Za ha hr hn) (by simpa using hk)
theorem qd (cs:List ai):(bN cs).take cs.length=bN cs:=by rw [<-jv,List.take_length]
theorem VH (n h:Nat) (l:List ai):(bN (eO n h l)).take n=bN (eO n h l):=by have:=qd (eO n h l);rwa [fG] at this
theorem ako (m:ai):m.enc.drop 7=[]:=rfl
theorem akp (h:List (Nat×Ob)) (S:List (Nat×Nat)) (N:List Nat) (m:ai):au h S N m.enc m.enc:=vP _ rfl
attribute [go_sem] qd VH fG ako akp
theorem yM {cs:List ai} {h s:Int} (e:eZ cs h s=0):∃ (n h':Nat) (l:List ai),Rg n h' l/\cs=eO n h' l/\h=h'/\s=(l.length:Int):=by
 obtain ⟨h',l,h1,h2,h3,h4,h5,h6,h7,h8,_⟩:=akm e
 exact ⟨cs.length,h',l,⟨h4,h5,h6,h7,h8⟩,h3,h1,h2⟩
def kz (cs:List ai) (h s:Int) (m:ai):Int:=
 if eZ cs h s≠0 then eZ cs h s else if m.val≠0 then m.val else if s=cs.length then 3 else if 0<=fD (fE cs h.toNat s.toNat) m.id then 10 else 0
def newR (k:Int):AV:=if k<1 then .aF [jw [] 0 0,I 1] else if 12<k then .aF [jw [] 0 0,I 1] else .aF [AR k.toNat 0 [],I 0]
def M0 (cs:List ai) (h s:Int) (m:ai):AV:=if kz cs h s m≠0 then .aF [jw [] 0 0,I (kz cs h s m)] else .aF [AR cs.length h.toNat (fE cs h.toNat s.toNat++[m]),I 0]
def M4 (cs:List ai) (h s:Int) (m:ai):AV:=if kz cs h s m≠0 then .aF [jw [] 0 0,I (kz cs h s m)] else .aF [AR cs.length ((h.toNat+(cs.length - 1)) % cs.length) (m::fE cs h.toNat s.toNat),I 0]
theorem VI {cs:List ai} {h s:Int} {m:ai} (e:kz cs h s m=0):eZ cs h s=0/\s≠cs.length/\m.val=0/\¬ 0<=fD (fE cs h.toNat s.toNat) m.id:=by
 unfold kz at e
 by_cases h1:eZ cs h s=0
 ·by_cases h2:m.val=0
  ·by_cases h3:s=cs.length
   ·rw [if_neg (by simp [h1]),if_neg (by simp [h2]),if_pos h3] at e;cases e
   ·rw [if_neg (by simp [h1]),if_neg (by simp [h2]),if_neg h3] at e
    by_cases h4:0<=fD (fE cs h.toNat s.toNat) m.id
    ·rw [if_pos h4] at e;cases e
    ·exact ⟨h1,h3,h2,h4⟩
  ·rw [if_neg (by simp [h1]),if_pos h2] at e;exact absurd e h2
 ·rw [if_pos h1] at e;exact absurd e h1
end Go.Eng
namespace Go.Eng
open Go Go.Proofs
attribute [local go_sem] Int.cast_ofNat_Int Int.reduceBEq Int.reduceLT Int.reduceLE Int.reduceSub Int.reduceAdd Int.reduceNeg Int.reduceEq Int.reduceToNat decide_true decide_false decide_eq_true_eq beq_self_eq_true bne_self_eq_false List.reduceReplicate List.length_set List.length_replicate List.length_cons List.length_nil List.set_cons_zero List.set_cons_succ Int.toNat_natCast
theorem akq (n h:Nat) (f:Nat->ai):(bN (lG n h f)).take n=bN (lG n h f):=by have:=qd (lG n h f);rwa [yI] at this
attribute [go_sem] akq yI
abbrev Z':AV:= .v (.int .i64 0)
def M5 (cs:List ai) (h s id:Int):AV:=
 if eZ cs h s≠0 then .aF [jw [] 0 0,.agg zM.enc,I (eZ cs h s)] else if fD (fE cs h.toNat s.toNat) id<0 then .aF [jw [] 0 0,.agg zM.enc,I 4]
 else .aF [AR cs.length h.toNat ((fE cs h.toNat s.toNat).eraseIdx (fD (fE cs h.toNat s.toNat) id).toNat),.agg (gt (fE cs h.toNat s.toNat) (fD (fE cs h.toNat s.toNat) id).toNat).enc,I 0]
theorem akr {l:List ai} {x:Int} (h:¬ fD l x<0):(fD l x).toNat<l.length/\(gt l (fD l x).toNat).id=x/\fD l x=((fD l x).toNat:Nat):=by
 unfold fD at h ⊢
 split at h
 ·rename_i hm
  have h1:=List.idxOf_lt_length_of_mem hm
  rw [if_pos hm,Int.toNat_natCast]
  rw [wH] at h1
  refine ⟨h1,?_,rfl⟩
  rw [AQ h1]
  have h2:(ids l)[(ids l).idxOf x]'(by rw [wH];exact h1)=l[(ids l).idxOf x].id:=by
   generalize hk:(ids l).idxOf x=k at h1 ⊢
   simp only [ids,List.getElem_map]
  rw [<-h2]
  exact List.getElem_idxOf _
 ·omega
end Go.Eng
